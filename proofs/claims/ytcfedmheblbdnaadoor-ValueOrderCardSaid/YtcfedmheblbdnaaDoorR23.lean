/- Merged out of 12 texts: what the claim's code comes to, and why. -/
import Derived.Lib.SlBytesConst
import Derived.ChangeArms
import Derived.DataReads
import Derived.SizedLaws
import Derived.WideShapes
import Derived.ChangeShapes
import Derived.MapKept
import Derived.Test.YtcfedmheblbdnaaDoorR22
/- Callees whose arguments may be read as less than they are, and whose answers bear what they have made. -/
set_option linter.unusedVariables false
set_option linter.unusedSimpArgs false
namespace Go.V
section
variable {P : Program}

mutual
/-- A value, what it has of objects read as what never changes. -/
def hard (os : List Ob) : AV → AV
  | .ms j sz o n cap => match os[j]? with
    | some (.cells cs) => match rowsOf sz n (cs.drop o) with
      | some l => .sl sz (Nat.beq n cap) l
      | none => .ms j sz o n cap
    | _ => .ms j sz o n cap
  | .lg _ sz l => .sl sz false (hardR os l)
  | .sl sz f l => .sl sz f (hardR os l)
  | .ns z sz l => .ns z sz (hardR os l)
  | .ptr j o => match os[j]? with
    | some (.cells cs) => .eptr (cs.drop o)
    | _ => .ptr j o
  | .eptr cs => .eptr (hardL os cs)
  | .agg cs => .agg (hardL os cs)
  | .tup cs => .tup (hardL os cs)
  | .fn f a c => .fn f (hardL os a) (hardL os c)
  | .ifc t v => .ifc t (hard os v)
  | .mp k => .mp k
  | .tp k E m' => .tp k E m'
  | .vs j v sz n => match os[j]? with
    | some (.vec v' cs) => match Nat.beq v v' with
      | true => match rowsOf sz n cs with
        | some l => .sl sz false l
        | none => .vs j v sz n
      | false => .vs j v sz n
    | _ => .vs j v sz n
  | .vp j v o => match os[j]? with
    | some (.vec v' cs) => match Nat.beq v v' with
      | true => .eptr (cs.drop o)
      | false => .vp j v o
    | _ => .vp j v o
  | .bool b => .bool b
  | .int k n => .int k n
  | .str s => .str s
  | .nilptr => .nilptr
  | .nilsl => .nilsl
  | .nilmap => .nilmap
  | .nilfn => .nilfn
  | .nilif => .nilif
  | .dead => .dead
def hardL (os : List Ob) : List AV → List AV
  | [] => []
  | x :: l => hard os x :: hardL os l
def hardR (os : List Ob) : List (List AV) → List (List AV)
  | [] => []
  | x :: l => hardL os x :: hardR os l
end
theorem hardL_length (os : List Ob) : ∀ l : List AV, (hardL os l).length = l.length
  | [] => rfl
  | x :: l => by simp only [hardL, List.length_cons, hardL_length os l]
theorem hardR_length (os : List Ob) : ∀ l : List (List AV), (hardR os l).length = l.length
  | [] => rfl
  | x :: l => by simp only [hardR, List.length_cons, hardR_length os l]
theorem scopedL_flat {n m : Nat} : ∀ {l : List (List AV)}, ScopedR n m l → ScopedL n m l.flatten
  | [], _ => trivial
  | x :: l, ⟨h1, h2⟩ => by
    have app : ∀ (a b : List AV), ScopedL n m a → ScopedL n m b → ScopedL n m (a ++ b) := by
      intro a b ha hb
      induction a with
      | nil => exact hb
      | cons y a ih => exact ⟨ha.1, ih ha.2⟩
    rw [List.flatten_cons]
    exact app _ _ h1 (scopedL_flat h2)

mutual
theorem hard_id (os : List Ob) : ∀ (x : AV), Scoped 0 0 x → hard os x = x
  | .ms j sz o n cap, h => absurd h (Nat.not_lt_zero _)
  | .lg _ sz l, h => absurd h.1 (Nat.not_lt_zero _)
  | .sl sz f l, h => by simp only [hard]; rw [hardR_id os l h]
  | .ns z sz l, h => by simp only [hard]; rw [hardR_id os l h]
  | .ptr j o, h => absurd h (Nat.not_lt_zero _)
  | .tp j E m', h => absurd h (Nat.not_lt_zero _)
  | .eptr cs, h => by simp only [hard]; rw [hardL_id os cs h]
  | .agg cs, h => by simp only [hard]; rw [hardL_id os cs h]
  | .tup cs, h => by simp only [hard]; rw [hardL_id os cs h]
  | .fn f a c, h => by simp only [hard]; rw [hardL_id os a h.1, hardL_id os c h.2]
  | .ifc t v, h => by simp only [hard]; rw [hard_id os v h]
  | .mp k, _ => rfl
  | .vs j v sz n, h => absurd h (Nat.not_lt_zero _)
  | .vp j v o, h => absurd h (Nat.not_lt_zero _)
  | .bool b, _ => rfl
  | .int k n, _ => rfl
  | .str s, _ => rfl
  | .nilptr, _ => rfl
  | .nilsl, _ => rfl
  | .nilmap, _ => rfl
  | .nilfn, _ => rfl
  | .nilif, _ => rfl
  | .dead, _ => rfl
theorem hardL_id (os : List Ob) : ∀ (l : List AV), ScopedL 0 0 l → hardL os l = l
  | [], _ => rfl
  | x :: l, h => by simp only [hardL]; rw [hard_id os x h.1, hardL_id os l h.2]
theorem hardR_id (os : List Ob) : ∀ (l : List (List AV)), ScopedR 0 0 l → hardR os l = l
  | [], _ => rfl
  | x :: l, h => by simp only [hardR]; rw [hardL_id os x h.1, hardR_id os l h.2]
end

/-- What is needed of the two pictures. -/
structure HardOk (g g2 : Gh) (os : List Ob) (w : World) : Prop where
  prot : ∀ b off u, w.cell? ⟨b, off, none⟩ = some u → g.prot b off → g2.prot b off
  obj : ∀ (j b : Nat) (cs : List AV), g.objs[j]? = some b → os[j]? = some (.cells cs) → (∀ off, g2.prot b off) ∧ ObRel g w j b (.cells cs)
  vec : ∀ (j v b : Nat) (cs : List AV), j < g.objs.length → os[j]? = some (.vec v cs) → (v = g.ver j → g.kind b = .vec j) → (v = g.ver j → b < w.heap.size) →
    ∃ C : List Value, RelAll g w cs C ∧ (∀ u ∈ C, u.oneCell' = true) ∧ (∀ off, g2.prot b off) ∧ ∀ i v, C[i]? = some v → w.cell? ⟨b, i, none⟩ = some v

theorem objCells {g g2 : Gh} {os : List Ob} {w : World} (h : HardOk g g2 os w) {j b : Nat} {cs : List AV} (hg : g.objs[j]? = some b) (ho : os[j]? = some (.cells cs)) :
    ∃ C : List Value, RelAll g w cs C ∧ (∀ u ∈ C, u.oneCell' = true) ∧ (∀ off, g2.prot b off) ∧ ∀ i v, C[i]? = some v → w.cell? ⟨b, i, none⟩ = some v := by
  obtain ⟨h1, _, C, E, hC, hr, h2⟩ := h.obj j b cs hg ho
  refine ⟨C.toList.take cs.length, hr, h2, h1, fun i v hv => ?_⟩
  rw [cell_of hC]
  rw [List.getElem?_take] at hv
  split at hv
  · simpa using hv
  · cases hv

mutual
theorem hard_rel {g g2 : Gh} {os : List Ob} {w : World} (h : HardOk g g2 os w) : ∀ (a : AV) (v : Value), Scoped 0 0 (hard os a) → Rel g w a v → Rel g2 w (hard os a) v
  | .bool _, _, _, r => r
  | .int _ _, _, _, r => r
  | .str _, _, _, r => r
  | .nilptr, _, _, r => r
  | .nilsl, _, _, r => r
  | .nilmap, _, _, r => r
  | .nilfn, _, _, r => r
  | .nilif, _, _, r => r
  | .mp k, _, s, _ => absurd s (Nat.not_lt_zero _)
  | .tp k E m', _, s, _ => absurd s (Nat.not_lt_zero _)
  | .dead, _, _, _ => trivial
  | .ptr j o, v, s, ⟨b, r1, r2⟩ => by
    cases ho : os[j]? with
    | none => simp only [hard, ho] at s; exact absurd s (Nat.not_lt_zero _)
    | some ob =>
      cases ob with
      | cells cs =>
        obtain ⟨C, c1, c2, c3, c4⟩ := objCells h r1 ho
        simp only [hard, ho] at s ⊢
        refine ⟨b, o, r2, ?_⟩
        refine RelCells.of (cs.drop o) (C.drop o) b o (RelAll.toProt h.prot _ _ s (RelAll.drop o _ _ c1)) fun j v hj => ?_
        rw [List.getElem?_drop] at hj
        exact ⟨c4 _ _ hj, c3 _, c2 v (List.mem_of_getElem? hj)⟩
      | map es => simp only [hard, ho] at s; exact absurd s (Nat.not_lt_zero _)
      | gone => simp only [hard, ho] at s; exact absurd s (Nat.not_lt_zero _)
      | nov v => simp only [hard, ho] at s; exact absurd s (Nat.not_lt_zero _)
      | vec v cs => simp only [hard, ho] at s; exact absurd s (Nat.not_lt_zero _)
  | .ms j sz o n cap, v, s, ⟨b, r1, r2, r3⟩ => by
    cases ho : os[j]? with
    | none => simp only [hard, ho] at s; exact absurd s (Nat.not_lt_zero _)
    | some ob =>
      cases ob with
      | cells cs =>
        obtain ⟨C, c1, c2, c3, c4⟩ := objCells h r1 ho
        cases hl : rowsOf sz n (cs.drop o) with
        | none => simp only [hard, ho, hl] at s; exact absurd s (Nat.not_lt_zero _)
        | some l =>
          simp only [hard, ho, hl] at s ⊢
          obtain ⟨h1, h2, h3⟩ := rowsOf_list sz n _ l hl
          refine ⟨b, o, none, cap, by rw [h1]; exact r2, by rw [h1]; exact r3, fun e => by rw [h1]; exact (Nat.eq_of_beq_eq_true e).symm, .inl rfl, ?_⟩
          refine RelRows.of sz l ((C.drop o).take (n * sz)) b o h2 ?_ fun j v hj => ?_
          · refine RelAll.toProt h.prot _ _ (scopedL_flat s) ?_
            rw [h3]
            exact RelAll.take _ _ _ (RelAll.drop o _ _ c1)
          · rw [List.getElem?_take] at hj
            split at hj
            · rw [List.getElem?_drop] at hj
              exact ⟨c4 _ _ hj, c3 _, c2 v (List.mem_of_getElem? hj)⟩
            · cases hj
      | map es => simp only [hard, ho] at s; exact absurd s (Nat.not_lt_zero _)
      | gone => simp only [hard, ho] at s; exact absurd s (Nat.not_lt_zero _)
      | nov v => simp only [hard, ho] at s; exact absurd s (Nat.not_lt_zero _)
      | vec v cs => simp only [hard, ho] at s; exact absurd s (Nat.not_lt_zero _)
  | .vs j v sz n, u, s, r => by
    cases ho : os[j]? with
    | none => simp only [hard, ho] at s; exact absurd s (Nat.not_lt_zero _)
    | some ob =>
      cases ob with
      | vec v' cs =>
        cases hvv : Nat.beq v v' with
        | false => simp only [hard, ho, hvv] at s; exact absurd s (Nat.not_lt_zero _)
        | true =>
          obtain rfl := Nat.eq_of_beq_eq_true hvv
          obtain ⟨b, cap, r1, r2, r3, r4, r5⟩ := r
          obtain ⟨C, c1, c2, c3, c4⟩ := h.vec j v b cs r3 ho (fun e => (r5 e).1) (fun e => by obtain ⟨_, C, E, fz, k, _⟩ := r5 e; exact lt_of_block k)
          cases hl : rowsOf sz n cs with
          | none => simp only [hard, ho, hvv, hl] at s; exact absurd s (Nat.not_lt_zero _)
          | some l =>
            simp only [hard, ho, hvv, hl] at s ⊢
            obtain ⟨h1, h2, h3⟩ := rowsOf_list sz n _ l hl
            refine ⟨b, 0, none, cap, by rw [h1]; exact r1, by rw [h1]; exact r2, (fun e => by cases e), .inl rfl, ?_⟩
            refine RelRows.of sz l (C.take (n * sz)) b 0 h2 ?_ fun j v hj => ?_
            · refine RelAll.toProt h.prot _ _ (scopedL_flat s) ?_
              rw [h3]
              exact RelAll.take _ _ _ c1
            · rw [List.getElem?_take] at hj
              split at hj
              · exact ⟨by rw [Nat.zero_add]; exact c4 _ _ hj, c3 _, c2 v (List.mem_of_getElem? hj)⟩
              · cases hj
      | cells cs => simp only [hard, ho] at s; exact absurd s (Nat.not_lt_zero _)
      | map es => simp only [hard, ho] at s; exact absurd s (Nat.not_lt_zero _)
      | gone => simp only [hard, ho] at s; exact absurd s (Nat.not_lt_zero _)
      | nov v => simp only [hard, ho] at s; exact absurd s (Nat.not_lt_zero _)
  | .vp j v o, u, s, r => by
    cases ho : os[j]? with
    | none => simp only [hard, ho] at s; exact absurd s (Nat.not_lt_zero _)
    | some ob =>
      cases ob with
      | vec v' cs =>
        cases hvv : Nat.beq v v' with
        | false => simp only [hard, ho, hvv] at s; exact absurd s (Nat.not_lt_zero _)
        | true =>
          obtain rfl := Nat.eq_of_beq_eq_true hvv
          obtain ⟨b, r1, r3, r4, r5⟩ := r
          obtain ⟨C, c1, c2, c3, c4⟩ := h.vec j v b cs r3 ho (fun e => (r5 e).1) (fun e => (r5 e).2)
          simp only [hard, ho, hvv] at s ⊢
          refine ⟨b, o, r1, ?_⟩
          refine RelCells.of (cs.drop o) (C.drop o) b o (RelAll.toProt h.prot _ _ s (RelAll.drop o _ _ c1)) fun j v hj => ?_
          rw [List.getElem?_drop] at hj
          exact ⟨c4 _ _ hj, c3 _, c2 v (List.mem_of_getElem? hj)⟩
      | cells cs => simp only [hard, ho] at s; exact absurd s (Nat.not_lt_zero _)
      | map es => simp only [hard, ho] at s; exact absurd s (Nat.not_lt_zero _)
      | gone => simp only [hard, ho] at s; exact absurd s (Nat.not_lt_zero _)
      | nov v => simp only [hard, ho] at s; exact absurd s (Nat.not_lt_zero _)
  | .eptr cs, _, s, ⟨b, off, r1, r2⟩ => ⟨b, off, r1, hard_relCells h cs b off s r2⟩
  | .sl sz full l, _, s, ⟨b, off, sp, cap, r1, r2, r3, rs, r4⟩ => ⟨b, off, sp, cap, by rw [hardR_length]; exact r1, by rw [hardR_length]; exact r2, by rw [hardR_length]; exact r3, rs.imp id (fun e => by rw [e]; rfl), hard_relRows h sz l b off s r4⟩
  | .ns z sz l, _, s, .inl ⟨r0, r1, r2⟩ => .inl ⟨r0, by subst r1; rfl, r2⟩
  | .ns z sz l, _, s, .inr ⟨r0, b, off, sp, cap, r1, r2, rs, r4⟩ => .inr ⟨r0, b, off, sp, cap, by rw [hardR_length]; exact r1, by rw [hardR_length]; exact r2, rs.imp id (fun e => by rw [e]; rfl), hard_relRows h sz l b off s r4⟩
  | .lg t sz l, _, s, ⟨b, cap, C, E, fz, r1, r2, r3, r4, r5, r9, ⟨n, r6, r7⟩, r8⟩ => ⟨b, 0, none, cap, by rw [hardR_length]; exact r1, by rw [hardR_length]; exact r2, (fun e => by cases e), .inl rfl, hard_relRows h sz l b 0 s r8⟩
  | .fn f a c, _, ⟨s1, s2⟩, ⟨va, vc, r1, r2, r3⟩ => ⟨va, vc, r1, hard_relAll h a va.toList s1 r2, hard_relAll h c vc.toList s2 r3⟩
  | .ifc t a, _, s, ⟨u, r1, r2⟩ => ⟨u, r1, hard_rel h a u s r2⟩
  | .agg cs, _, s, ⟨vs, r1, r2, r3⟩ => ⟨vs, r1, hard_relAll h cs vs.toList s r2, r3⟩
  | .tup cs, _, s, ⟨vs, r1, r2⟩ => ⟨vs, r1, hard_relAll h cs vs.toList s r2⟩
theorem hard_relAll {g g2 : Gh} {os : List Ob} {w : World} (h : HardOk g g2 os w) : ∀ (ays : List AV) (vs : List Value), ScopedL 0 0 (hardL os ays) → RelAll g w ays vs → RelAll g2 w (hardL os ays) vs
  | [], _, _, r => r
  | a :: ays, _, ⟨s1, s2⟩, ⟨v, vr, r1, r2, r3⟩ => ⟨v, vr, r1, hard_rel h a v s1 r2, hard_relAll h ays vr s2 r3⟩
theorem hard_relCells {g g2 : Gh} {os : List Ob} {w : World} (h : HardOk g g2 os w) : ∀ (ays : List AV) (b off : Nat), ScopedL 0 0 (hardL os ays) → RelCells g w ays b off → RelCells g2 w (hardL os ays) b off
  | [], _, _, _, _ => trivial
  | a :: ays, b, off, ⟨s1, s2⟩, ⟨⟨u, r1, r2, r5, r3⟩, r4⟩ => ⟨⟨u, r1, h.prot b off u r1 r2, r5, hard_rel h a u s1 r3⟩, hard_relCells h ays b (off + 1) s2 r4⟩
theorem hard_relRows {g g2 : Gh} {os : List Ob} {w : World} (h : HardOk g g2 os w) (sz : Nat) : ∀ (l : List (List AV)) (b off : Nat), ScopedR 0 0 (hardR os l) → RelRows g w sz l b off → RelRows g2 w sz (hardR os l) b off
  | [], _, _, _, _ => trivial
  | x :: l, b, off, ⟨s1, s2⟩, ⟨r1, r2, r3⟩ => ⟨by rw [hardL_length]; exact r1, hard_relCells h x b off s1 r2, hard_relRows h sz l b (off + sz) s2 r3⟩
end

theorem framedO {id : FuncId} {args : List AV} {r : AV} {st' : St} (h : CallsTo P id args ⟨[], []⟩ (.ret r, st')) (hs : ScopedL 0 0 args) (hr : Scoped 0 0 (hard st'.objs r)) (st : St) : CallsTo P id args st (.ret (hard st'.objs r), st) := by
  intro g w vals hv hst
  have hv1 : RelAll (g.away w.heap.size) w args vals.toList := RelAll.toProt (fun b off u hc hp => by
    obtain ⟨C, E, fz, hb, _⟩ := cell_some hc
    have hlt := lt_of_block hb
    unfold Gh.prot
    simp only [Gh.away]
    rw [if_pos hlt]
    exact hp) args vals.toList hs hv
  refine (h (g.away w.heap.size) w vals hv1 (away_st g w)).mono fun e w' ⟨g', h1, h2, h3⟩ => ?_
  obtain ⟨v, rfl, hv'⟩ := h1
  have hold : ∀ b, b < w.heap.size → g'.kind b = .part (fun off => g.prot b off) ∧ w'.heap[b]? = w.heap[b]? := fun b hb =>
    h3.part b hb (by simp only [Gh.away]; rw [if_pos hb])
  have hOk : HardOk g' (g.kept w.heap.size) st'.objs w' := by
    refine ⟨fun b off u hc hp => ?_, fun j b cs hg ho => ?_, fun j v b cs hj ho e1 e2 => ?_⟩
    · by_cases hb : b < w.heap.size
      · unfold Gh.prot at hp
        rw [(hold b hb).1] at hp
        have hp : g.prot b off := hp
        unfold Gh.prot at hp ⊢
        simp only [Gh.kept]
        rw [if_pos hb]
        exact hp
      · unfold Gh.prot
        simp only [Gh.kept]
        rw [if_neg hb]
        trivial
    · obtain ⟨p1, p2⟩ := h2.obj j b _ hg ho
      refine ⟨fun off => ?_, p2⟩
      have hk := p2.1
      have hb : ¬ b < w.heap.size := by
        intro hb
        rw [(hold b hb).1] at hk
        cases hk
      unfold Gh.prot
      simp only [Gh.kept]
      rw [if_neg hb]
      trivial
    · obtain ⟨q1, b', q2, q3, C, E, q4, q5, q6⟩ := (h2.obj j _ _ (List.getElem?_eq_getElem hj) ho).2
      obtain rfl := (h2.vec b j (e2 q1.symm) (e1 q1.symm)).2 b' q2 q3
      have hb : ¬ b' < w.heap.size := by
        intro hb
        have := (hold b' hb).1
        rw [q3] at this
        cases this
      refine ⟨_, q5, q6, fun off => ?_, fun i v hv => ?_⟩
      · unfold Gh.prot
        simp only [Gh.kept]
        rw [if_neg hb]
        trivial
      · rw [cell_of q4]
        rw [List.getElem?_take] at hv
        split at hv
        · simpa using hv
        · cases hv
  obtain ⟨k1, k2⟩ := kept hst h3.os h3.tape h3.output h3.size fun b hb => (hold b hb).2
  exact ⟨_, ⟨v, rfl, hard_rel hOk r v hr hv'⟩, k1, k2⟩

/-! ### Arguments read as less than they are -/
def Wk (x y : AV) : Prop := (∀ g w v, Rel g w x v → Rel g w y v)
def Wks (xs ys : List AV) : Prop := (∀ g w vs, RelAll g w xs vs → RelAll g w ys vs)
theorem Wk.refl (x : AV) : Wk x x := fun _ _ _ h => h
theorem Wks.nil : Wks [] [] := fun _ _ _ h => h
theorem Wks.cons {x y : AV} {xs ys : List AV} (h : Wk x y) (k : Wks xs ys) : Wks (x :: xs) (y :: ys) :=
  fun g w vs ⟨v, vr, e, h1, h2⟩ => ⟨v, vr, e, h _ _ _ h1, k _ _ _ h2⟩

/-- A slice, read as one that never changes and may be nil. -/
def onNs (sz : Nat) (x : AV) (k : Bool → List (List AV) → Ans) : Ans :=
  match x with
  | .nilsl => k true []
  | .sl s _ l => match Nat.beq s sz with
    | true => k false l
    | false => none
  | .lg _ s l => match Nat.beq s sz with
    | true => k false l
    | false => none
  | .ns z s l => match Nat.beq s sz with
    | true => k z l
    | false => none
  | _ => none
theorem onNs_spec {sz : Nat} {x : AV} {k : Bool → List (List AV) → Ans} {fin : Fin × St} (h : onNs sz x k = some fin) :
    ∃ z l, k z l = some fin ∧ Wk x (.ns z sz l) := by
  unfold onNs at h
  split at h
  · exact ⟨true, [], h, fun g w v hv => .inl ⟨rfl, rfl, hv⟩⟩
  · split at h
    · rename_i hs
      obtain rfl := Nat.eq_of_beq_eq_true hs
      exact ⟨false, _, h, fun g w v ⟨b, off, sp, cap, r1, r2, r3, rs, r4⟩ => .inr ⟨rfl, b, off, sp, cap, r1, r2, rs, r4⟩⟩
    · cases h
  · split at h
    · rename_i hs
      obtain rfl := Nat.eq_of_beq_eq_true hs
      exact ⟨false, _, h, fun g w v ⟨b, cap, C, E, fz, r1, r2, r3, r4, r5, r9, r6, r8⟩ => .inr ⟨rfl, b, 0, none, cap, r1, r2, .inl rfl, r8⟩⟩
    · cases h
  · split at h
    · rename_i z s l hs
      obtain rfl := Nat.eq_of_beq_eq_true hs
      exact ⟨_, _, h, Wk.refl _⟩
    · cases h
  · cases h
theorem onNs_nat {sz : Nat} {x : AV} {s s' : Bool → List (List AV) → Ans} {K : AV → Ans} (h : ∀ z l, s z l = thenA (s' z l) K) : onNs sz x s = thenA (onNs sz x s') K := by
  unfold onNs
  split
  · exact h _ _
  · split
    · exact h _ _
    · rfl
  · split
    · exact h _ _
    · rfl
  · split
    · exact h _ _
    · rfl
  · rfl
theorem onInt_spec {x : AV} {k : IntKind → Int → Ans} {fin : Fin × St} (h : onInt x k = some fin) : ∃ kd n, k kd n = some fin ∧ x = .int kd n := by
  unfold onInt at h
  split at h
  · exact ⟨_, _, h, rfl⟩
  · cases h
/-- A guard. -/
def ifT (b : Bool) (k : Ans) : Ans :=
  match b with
  | true => k
  | false => none
theorem ifT_spec {b : Bool} {k : Ans} {fin : Fin × St} (h : ifT b k = some fin) : b = true ∧ k = some fin := by
  unfold ifT at h
  split at h
  · exact ⟨rfl, h⟩
  · cases h

theorem ifT_nat {b : Bool} {k k' : Ans} {K : AV → Ans} (h : k = thenA k' K) : ifT b k = thenA (ifT b k') K := by
  cases b
  · rfl
  · exact h

/-- A function shown at the empty state, its arguments read as less than they are; its answer bears what it has made. -/
def Fun.farN (f : Fun P) (sem : List AV → (AV → Ans) → Ans)
    (hs : ∀ args k fin, sem args k = some fin → ∃ args' r, k r = some fin ∧ Wks args args' ∧ ScopedL 0 0 args' ∧ Scoped 0 0 r ∧ ∃ F r' st', hard st'.objs r' = r ∧ f.run F args' ⟨[], []⟩ = some (.ret r', st')) : POrc P where
  id := f.id
  fn := f.fn
  hf := f.hf
  hname := f.hname
  hb := by rw [f.hbody]; rfl
  F := sem
  sound k args fin h := by
    obtain ⟨args', r, h1, h2, h3, h4, F, r', st', h5, h6⟩ := hs args k fin h
    subst h5
    exact ⟨_, h1, fun st g w vals hv hst => framedO (f.sound h6) h3 h4 st g w vals (h2 _ _ _ hv) hst⟩
/-- The same, its answer read as less than it is, too. -/
def Fun.farW (f : Fun P) (sem : List AV → (AV → Ans) → Ans)
    (hs : ∀ args k fin, sem args k = some fin → ∃ args' r, k r = some fin ∧ Wks args args' ∧ ScopedL 0 0 args' ∧ ∃ F r' st', f.run F args' ⟨[], []⟩ = some (.ret r', st') ∧ Scoped 0 0 (hard st'.objs r') ∧ Wk (hard st'.objs r') r) : POrc P where
  id := f.id
  fn := f.fn
  hf := f.hf
  hname := f.hname
  hb := by rw [f.hbody]; rfl
  F := sem
  sound k args fin h := by
    obtain ⟨args', r, h1, h2, h3, F, r', st', h4, h5, h6⟩ := hs args k fin h
    refine ⟨_, h1, fun st g w vals hv hst => (framedO (f.sound h4) h3 h5 st g w vals (h2 _ _ _ hv) hst).mono fun e w' ⟨g', k1, k2, k3⟩ => ?_⟩
    obtain ⟨v, rfl, hv'⟩ := k1
    exact ⟨g', ⟨v, rfl, h6 _ _ _ hv'⟩, k2, k3⟩
theorem Wk.nil {sz : Nat} : Wk .nilsl (.ns true sz []) := fun g w v h => .inl ⟨rfl, rfl, h⟩
theorem Wk.sl {sz : Nat} {f : Bool} {l : List (List AV)} : Wk (.sl sz f l) (.ns false sz l) := fun g w v ⟨b, off, sp, cap, r1, r2, r3, rs, r4⟩ => .inr ⟨rfl, b, off, sp, cap, r1, r2, rs, r4⟩
theorem Wk.tup {xs ys : List AV} (h : Wks xs ys) : Wk (.tup xs) (.tup ys) := fun g w v ⟨vs, h1, h2⟩ => ⟨vs, h1, h _ _ _ h2⟩
theorem Wk.agg {xs ys : List AV} (h : Wks xs ys) : Wk (.agg xs) (.agg ys) := fun g w v ⟨vs, h1, h2, h3⟩ => ⟨vs, h1, h _ _ _ h2, h3⟩
end

/-! ### What the core doesn't look into, for bytes -/
/-- Bytes as cells. -/
def bC (l : List Nat) : List AV := l.map fun (b : Nat) => .int .u8 (b : Int)
theorem bC_length (l : List Nat) : (bC l).length = l.length := by simp [bC]
theorem bR_flat (l : List Nat) : (bR l).flatten = bC l := by
  induction l with
  | nil => rfl
  | cons b l ih => simp only [bR, bC, List.map_cons, List.flatten_cons, List.singleton_append] at ih ⊢; rw [ih]
theorem rowsOf_bC : ∀ (n : Nat) (l : List Nat), n ≤ l.length → rowsOf 1 n (bC l) = some (bR (l.take n))
  | 0, l, _ => by simp [rowsOf, bR]
  | n + 1, [], h => by simp at h
  | n + 1, b :: l, h => by
    have ih := rowsOf_bC n l (by simpa using h)
    simp only [bC, List.map_cons, rowsOf, takeN, List.drop_one, List.tail_cons] at ih ⊢
    rw [ih]
    simp [bR]
theorem bC_drop (l : List Nat) (o : Nat) : (bC l).drop o = bC (l.drop o) := by simp [bC]
theorem rowsC_bC {n : Nat} {l : List Nat} {o : Nat} (h : o + n ≤ l.length) : rowsC 1 n (bC l) o = bR ((l.drop o).take n) := by
  rw [rowsC, opq_eq, bC_drop, rowsOf_bC n _ (by simp; omega)]; rfl
theorem zerC_byte (n : Nat) : zerC n [.int .u8 0] = bC (List.replicate n 0) := by
  rw [zerC, opq_eq]
  induction n with
  | zero => rfl
  | succ n ih => rw [List.replicate_succ, List.flatten_cons, ih, List.replicate_succ]; rfl
/-- Bytes written over others. -/
def putN (l : List Nat) (o : Nat) (r : List Nat) : List Nat := l.take o ++ r ++ l.drop (o + r.length)
theorem setAt_bC : ∀ (l : List Nat) (o : Nat) (r : List Nat), o + r.length ≤ l.length → setAt (bC l) o (bC r) = bC (putN l o r)
  | l, o, [], h => by
    have : setAt (bC l) o (bC []) = bC l := by
      show setAt (bC l) o [] = bC l
      cases h' : bC l <;> rfl
    rw [this]; simp [putN]
  | [], o, b :: r, h => by simp at h
  | c :: l, 0, b :: r, h => by
    have ih := setAt_bC l 0 r (by simpa using h)
    simp only [bC, List.map_cons, setAt] at ih ⊢
    rw [ih]
    simp [putN]
  | c :: l, o + 1, b :: r, h => by
    have ih := setAt_bC l o (b :: r) (by simp at h ⊢; omega)
    simp only [bC, List.map_cons, setAt] at ih ⊢
    rw [ih]
    simp only [putN, List.take_succ_cons, List.cons_append, List.length_cons, List.map_cons]
    rw [show o + 1 + (r.length + 1) = (o + (r.length + 1)) + 1 by omega, List.drop_succ_cons]
theorem setC_bC {l : List Nat} {o : Nat} {r : List Nat} (h : o + r.length ≤ l.length) : setC (bC l) o (bC r) = bC (putN l o r) := by
  rw [setC, opq_eq, setAt_bC _ _ _ h]
theorem setC_byte {l : List Nat} {o b : Nat} (h : o < l.length) : setC (bC l) o [.int .u8 (b : Int)] = bC (l.set o b) := by
  have := setC_bC (l := l) (o := o) (r := [b]) (by simp; omega)
  rw [show bC [b] = [.int .u8 (b : Int)] from rfl] at this
  rw [this]
  congr 1
  simp only [putN, List.length_singleton]
  rw [List.set_eq_take_append_cons_drop, if_pos h]
  simp
theorem putN_length {l : List Nat} {o : Nat} {r : List Nat} (h : o + r.length ≤ l.length) : (putN l o r).length = l.length := by
  simp only [putN, List.length_append, List.length_take, List.length_drop]; omega
theorem putN_nil (l : List Nat) (o : Nat) : putN l o [] = l := by simp [putN]
theorem mem_putN {l : List Nat} {o : Nat} {r : List Nat} {b : Nat} (h : b ∈ putN l o r) : b ∈ l ∨ b ∈ r := by
  simp only [putN, List.mem_append] at h
  rcases h with (h | h) | h
  · exact .inl (List.mem_of_mem_take h)
  · exact .inr h
  · exact .inl (List.mem_of_mem_drop h)
theorem flC_bR {l : List Nat} {m : Nat} : flC (bR l) m = bC (l.take m) := by
  rw [flC, opq_eq, bR_take, bR_flat]
end Go.V

/- Bytes, and rows of bytes, as what may be nil. -/
set_option linter.unusedVariables false
set_option linter.unusedSimpArgs false
namespace Go.V

/-- No longer than any memory. -/
noncomputable def fit (n : Nat) : Bool := cdec (n < 4611686018427387904)
theorem fit_iff {n : Nat} : fit n = true ↔ n < 4611686018427387904 := cdec_iff
/-- Rows that are bytes. -/
noncomputable def byOk (l : List (List AV)) : Bool := okR l && fit l.length
theorem byOk_iff {l : List (List AV)} : byOk l = true ↔ okR l = true ∧ l.length < 4611686018427387904 := by rw [byOk, Bool.and_eq_true, fit_iff]
theorem byOk_bR {l : List Nat} (h : ∀ b ∈ l, b < 256) (hl : l.length < 4611686018427387904) : byOk (bR l) = true := by
  rw [byOk_iff, bR_length]; exact ⟨okR_bR h, hl⟩
theorem okR_at {l : List (List AV)} (h : okR l = true) {i : Nat} (hi : i < l.length) : (LD.one (.int .u8)).is (rowAt l (i : Int)) = true ∧ hdI (rowAt l (i : Int)) = ((nR l)[i]'(by rw [nR_length]; exact hi) : Nat) := by
  rw [rowAt_nat hi]
  have h1 := isByte_row (List.all_eq_true.mp h l[i] (List.getElem_mem hi))
  have h2 : (nR l)[i]'(by rw [nR_length]; exact hi) = byteOf l[i] := by simp [nR]
  rw [h2]
  constructor
  · rw [h1.1]; rfl
  · conv => lhs; rw [h1.1]
    rfl
theorem okR_scoped {n m : Nat} : ∀ {l : List (List AV)}, okR l = true → ScopedR n m l
  | [], _ => trivial
  | r :: l, h => by
    simp only [okR, List.all_cons, Bool.and_eq_true] at h
    refine ⟨?_, okR_scoped h.2⟩
    rw [(isByte_row h.1).1]
    exact ⟨trivial, trivial⟩
theorem bR_scoped {n m : Nat} : ∀ (l : List Nat), ScopedR n m (bR l)
  | [] => trivial
  | b :: l => ⟨⟨trivial, trivial⟩, bR_scoped l⟩
theorem wrap_nat {i : Nat} (h : i < 9223372036854775808) : IntKind.i64.wrap (i : Int) = i := wrapS (by omega) (by omega)
theorem wrap_succ {i : Nat} (h : i < 9223372036854775807) : IntKind.i64.wrap ((i : Int) + 1) = ((i + 1 : Nat) : Int) := by
  rw [show (i : Int) + 1 = ((i + 1 : Nat) : Int) by omega]; exact wrap_nat (by omega)

theorem beq_drop {a b : List Nat} {i : Nat} (h1 : i < a.length) (h2 : i < b.length) : (a.drop i == b.drop i) = (a[i] == b[i] && (a.drop (i + 1) == b.drop (i + 1))) := by
  rw [List.drop_eq_getElem_cons h1, List.drop_eq_getElem_cons h2]; rfl

/-- A row of bytes that may be nil. -/
def okSlot (r : List AV) : Bool :=
  match r with
  | [.nilsl] => true
  | [.sl 1 _ l] => okR l
  | [.ns true 1 []] => true
  | [.ns false 1 l] => okR l
  | _ => false
/-- Rows of bytes. -/
noncomputable def okS (l : List (List AV)) : Bool := l.all (fun r => okSlot r && fit (rwA r).length) && fit l.length
/-- What a row holds. -/
def slot (r : List AV) : Option (List Nat) := bif nilA r then none else some (nR (rwA r))
def sR (l : List (List AV)) : List (Option (List Nat)) := l.map slot
theorem sR_length (l : List (List AV)) : (sR l).length = l.length := by simp [sR]
theorem okSlot_spec {r : List AV} (h : okSlot r = true) : isLT (.ns 1) r = true ∧ okR (rwA r) = true ∧ (nilA r = true → rwA r = []) ∧ r.length = 1 ∧ ∀ n m, ScopedL n m r := by
  unfold okSlot at h
  split at h
  · exact ⟨rfl, rfl, fun _ => rfl, rfl, fun _ _ => ⟨trivial, trivial⟩⟩
  · exact ⟨rfl, h, (fun e => by cases e), rfl, fun _ _ => ⟨okR_scoped h, trivial⟩⟩
  · exact ⟨rfl, rfl, fun _ => rfl, rfl, fun _ _ => ⟨trivial, trivial⟩⟩
  · exact ⟨rfl, h, (fun e => by cases e), rfl, fun _ _ => ⟨okR_scoped h, trivial⟩⟩
  · cases h
theorem okS_iff {l : List (List AV)} : okS l = true ↔ (∀ r ∈ l, okSlot r = true ∧ (rwA r).length < 4611686018427387904) ∧ l.length < 4611686018427387904 := by
  rw [okS, Bool.and_eq_true, fit_iff, List.all_eq_true]
  constructor
  · rintro ⟨h1, h2⟩
    refine ⟨fun r hr => ?_, h2⟩
    have := h1 r hr
    rw [Bool.and_eq_true, fit_iff] at this
    exact this
  · rintro ⟨h1, h2⟩
    refine ⟨fun r hr => ?_, h2⟩
    rw [Bool.and_eq_true, fit_iff]
    exact h1 r hr
theorem okS_at {l : List (List AV)} (h : okS l = true) {i : Nat} (hi : i < l.length) :
    (LD.one (.ns 1)).is (rowAt l (i : Int)) = true ∧ byOk (rwA (rowAt l (i : Int))) = true ∧ slot (rowAt l (i : Int)) = (sR l)[i]'(by rw [sR_length]; exact hi) ∧ (nilA (rowAt l (i : Int)) = true → rwA (rowAt l (i : Int)) = []) := by
  rw [okS_iff] at h
  obtain ⟨h1, h2⟩ := h.1 l[i] (List.getElem_mem hi)
  obtain ⟨k1, k2, k3, _⟩ := okSlot_spec h1
  rw [rowAt_nat hi]
  exact ⟨k1, by rw [byOk_iff]; exact ⟨k2, h2⟩, by simp [sR], k3⟩
theorem okS_scoped {n m : Nat} : ∀ {l : List (List AV)}, (∀ r ∈ l, okSlot r = true ∧ (rwA r).length < 4611686018427387904) → ScopedR n m l
  | [], _ => trivial
  | r :: l, h => ⟨(okSlot_spec (h r (by simp)).1).2.2.2.2 n m, okS_scoped fun r hr => h r (by simp [hr])⟩
theorem okS_sub {l r : List (List AV)} (h : okS l = true) (hs : ∀ x ∈ r, x ∈ l) (hl : r.length ≤ l.length) : okS r = true := by
  rw [okS_iff] at h ⊢
  exact ⟨fun x hx => h.1 x (hs x hx), by omega⟩
theorem okS_lt {l : List (List AV)} (h : okS l = true) {s : List Nat} (hs : some s ∈ sR l) : ∀ b ∈ s, b < 256 := by
  rw [okS_iff] at h
  obtain ⟨r, hr, he⟩ := List.mem_map.mp hs
  obtain ⟨h1, h2⟩ := h.1 r hr
  obtain ⟨_, k2, _⟩ := okSlot_spec h1
  unfold slot at he
  cases hn : nilA r with
  | true => rw [hn] at he; cases he
  | false =>
    rw [hn] at he
    simp only [cond_false, Option.some.injEq] at he
    subst he
    exact fun b hb => okR_lt k2 hb

/-! ### Bytes as texts -/
def own (s : ByteArray) : List Nat := s.data.toList.map UInt8.toNat
def txt (l : List Nat) : ByteArray := textOf (l.map fun (b : Nat) => (b : Int))
theorem foldl_push (l : List Nat) : ∀ r : ByteArray, ((l.map fun (b : Nat) => (b : Int)).foldl (fun r n => r.push (UInt8.ofNat n.toNat)) r).data.toList = r.data.toList ++ l.map fun (b : Nat) => UInt8.ofNat b := by
  induction l with
  | nil => intro r; simp
  | cons b l ih =>
    intro r
    simp only [List.map_cons, List.foldl_cons, ih, Int.toNat_natCast]
    simp [ByteArray.push]
theorem own_txt {l : List Nat} (h : ∀ b ∈ l, b < 256) : own (txt l) = l := by
  unfold own txt textOf
  rw [foldl_push]
  simp only [show ByteArray.empty.data.toList = [] from rfl, List.nil_append, List.map_map]
  conv => rhs; rw [← List.map_id l]
  exact List.map_congr_left fun b hb => by
    simp only [Function.comp, UInt8.toNat_ofNat', id]
    exact Nat.mod_eq_of_lt (h b hb)
theorem own_inj {s t : ByteArray} (h : own s = own t) : s = t := by
  unfold own at h
  have h2 : s.data.toList = t.data.toList := List.map_inj_right (f := UInt8.toNat) (fun _ _ e => UInt8.toNat_inj.mp e) |>.mp h
  have h3 : s.data = t.data := Array.toList_inj.mp h2
  cases s; cases t; simp only at h3; rw [h3]
theorem own_lt (s : ByteArray) : ∀ b ∈ own s, b < 256 := by
  intro b hb
  obtain ⟨x, _, rfl⟩ := List.mem_map.mp hb
  exact x.toNat_lt
theorem txt_own (s : ByteArray) : txt (own s) = s := own_inj (own_txt (own_lt s))
theorem text_beq (s t : ByteArray) : (s.toList == t.toList) = (own s == own t) := by
  rw [ByteArray.toList_eq, ByteArray.toList_eq, Bool.eq_iff_iff, beq_iff_eq, beq_iff_eq]
  constructor
  · intro h; rw [own, own, h]
  · intro h; rw [own_inj h]
theorem numsOf_nR {l : List (List AV)} (h : okR l = true) : numsOf l = some ((nR l).map fun (b : Nat) => (b : Int)) := by
  have := numsOf_map ((nR l).map fun (b : Nat) => (b : Int))
  rw [List.map_map] at this
  conv at this => lhs; arg 1; rw [show ((fun (b : Int) => [AV.int IntKind.u8 b]) ∘ fun (b : Nat) => (b : Int)) = fun (b : Nat) => [AV.int IntKind.u8 (b : Int)] from rfl]
  rw [show (nR l).map (fun (b : Nat) => [AV.int IntKind.u8 (b : Int)]) = bR (nR l) from rfl, ← okR_rows h] at this
  exact this
end Go.V

/- Slices that grow and are written: append, stores, pieces. -/
set_option linter.unusedVariables false
set_option linter.unusedSimpArgs false
namespace Go.V
section
variable {P : Program}

theorem setV_whole : ∀ (L : List Value) (o : Nat) (vs : List Value), o + vs.length ≤ L.length → (setV L o vs).take (o + vs.length) = L.take o ++ vs
  | L, o, [], h => by
    have : setV L o [] = L := by cases L <;> rfl
    simp [this]
  | [], o, v :: vs, h => by simp at h
  | l :: L, 0, v :: vs, h => by
    have ih := setV_whole L 0 vs (by simp at h ⊢; omega)
    rw [Nat.zero_add] at ih ⊢
    simp [setV, ih]
  | l :: L, o + 1, v :: vs, h => by
    have ih := setV_whole L o (v :: vs) (by simp at h ⊢; omega)
    rw [show o + 1 + (v :: vs).length = (o + (v :: vs).length) + 1 by omega]
    simp only [setV, List.take_succ_cons, ih, List.cons_append]

def mvKind (g : Gh) (sz j x : Nat) : BK := if x = sz then .vec j else match g.kind x with
  | .vec k => if k = j then .solid else .vec k
  | y => y
theorem mvKind_old {g : Gh} {sz j x : Nat} (hx : x ≠ sz) (hk : ∀ k, g.kind x ≠ .vec k) : mvKind g sz j x = g.kind x := by
  unfold mvKind
  rw [if_neg hx]
  cases e : g.kind x with
  | vec k => exact absurd e (hk k)
  | _ => rfl
theorem mvKind_vec {g : Gh} {sz j x k : Nat} (hx : x ≠ sz) (hk : k ≠ j) (e : g.kind x = .vec k) : mvKind g sz j x = .vec k := by
  unfold mvKind
  rw [if_neg hx, e]
  simp only
  rw [if_neg hk]
theorem mvKind_back {g : Gh} {sz j x : Nat} {y : BK} (e : mvKind g sz j x = y) (hx : x < sz + 1) (hy : y ≠ .solid) : (x = sz ∧ y = .vec j) ∨ (x < sz ∧ g.kind x = y ∧ ∀ k, y = .vec k → k ≠ j) := by
  unfold mvKind at e
  split at e
  · rename_i h; exact .inl ⟨h, e.symm⟩
  · rename_i h
    refine .inr ⟨by omega, ?_⟩
    cases h2 : g.kind x with
    | vec k =>
      rw [h2] at e
      simp only at e
      split at e
      · exact absurd e.symm hy
      · rename_i h3
        refine ⟨e, fun k' h4 => ?_⟩
        rw [h4] at e; cases e; exact h3
    | _ =>
      rw [h2] at e
      refine ⟨e, fun k' h4 => ?_⟩
      rw [h4] at e; cases e

/-- A growing object has a new block. -/
theorem vec_moved {g : Gh} {st : St} {w w1 : World} {C : Array Value} {E : TypeId} (hs : StRel g st w) (hp : Push w w1 (.cells C E)) {j v : Nat} {cs : List AV} {gos : List Nat} {os : List Ob}
    (hold : ∀ o, st.objs[j]? = some o → ∃ v0, ((∃ cs0, o = .vec v0 cs0) ∨ o = .nov v0) ∧ v0 < v) (hj : gos[j]?.isSome) (hgos : ∀ k b : Nat, g.objs[k]? = some b → gos[k]? = some b) (hgos2 : ∀ k b : Nat, gos[k]? = some b → g.objs[k]? = some b ∨ (k = j ∧ b = w.heap.size))
    (hlen : gos.length = os.length) (hosj : os[j]? = some (.vec v cs)) (hos : ∀ k : Nat, k ≠ j → os[k]? = st.objs[k]?) (hr : RelAll g w cs (C.toList.take cs.length)) (h1 : ∀ u ∈ C.toList.take cs.length, u.oneCell' = true) :
    ∃ g', StRel g' ⟨os, st.tk⟩ w1 ∧ Ev g w g' w1 ∧ (∀ c sz n, n ≤ c → c * sz ≤ C.size → okE sz E = true → Rel g' w1 (.vs j v sz n) (.slice (some ⟨w.heap.size, 0, none⟩) n c)) ∧ ∀ off, Rel g' w1 (.vp j v off) (.pointer (some ⟨w.heap.size, off, none⟩)) := by
  have hjl : j < gos.length := by
    rcases Nat.lt_or_ge j gos.length with h | h
    · exact h
    · rw [List.getElem?_eq_none h] at hj; cases hj
  have hglen : ∀ k, k < g.objs.length → k < gos.length := fun k hk => getElem?_lt (hgos k _ (List.getElem?_eq_getElem hk))
  have hverj : j < g.objs.length → g.ver j < v := by
    intro h
    have h2 : st.objs[j]? = some (st.objs[j]'(by rw [← hs.len]; exact h)) := List.getElem?_eq_getElem _
    obtain ⟨v0, ⟨cs0, h3⟩ | h3, h4⟩ := hold _ h2
    · rw [h3] at h2
      rw [(vec_of hs h h2).1]
      exact h4
    · rw [h3] at h2
      have h5 : g.ver j = v0 := (hs.obj j _ _ (List.getElem?_eq_getElem h) h2).2
      rw [h5]; exact h4
  have hkd0 := fun x => mvKind_old (g := g) (sz := w.heap.size) (j := j) (x := x)
  have hkdv := fun x k => mvKind_vec (g := g) (sz := w.heap.size) (j := j) (x := x) (k := k)
  have hback : ∀ x y, mvKind g w.heap.size j x = y → x < w1.heap.size → y ≠ .solid → (x = w.heap.size ∧ y = .vec j) ∨ (x < w.heap.size ∧ g.kind x = y ∧ ∀ k, y = .vec k → k ≠ j) := by
    intro x y e hx hy
    rw [hp.size] at hx
    exact mvKind_back e (by omega) hy
  let g' : Gh := ⟨mvKind g w.heap.size j, gos, g.tk, fun x => if x = j then v else g.ver x⟩
  have hE : Ev g w g' w1 := by
    refine ⟨hp.os, hp.tape, hp.output, by rw [hp.size]; omega, fun b hb hk => ⟨?_, hp.old hb⟩, fun b t hb hk => ⟨?_, fun C' E' fz hC => ⟨C', (hp.old hb).trans hC, rfl, fun _ _ => rfl⟩⟩, fun b k hb hk => .inl ?_, hgos, tk_refl _, fun k hk => ?_, fun b k hb hkl hk hv => ⟨?_, fun C' E' fz hC => ⟨C', (hp.old hb).trans hC, rfl⟩⟩, fun b C' E' fz hC => ⟨C', fz, (hp.old (lt_of_block hC)).trans hC, rfl⟩⟩
    · exact hkd0 b (by omega) (fun k e => by rw [e] at hk; cases hk)
    · exact (hkd0 b (by omega) (fun k e => by rw [e] at hk; cases hk)).trans hk
    · exact (hkd0 b (by omega) (fun k e => by rw [e] at hk; cases hk)).trans hk
    · simp only [g']
      split
      · rename_i e; subst e; exact Nat.le_of_lt (hverj hk)
      · exact Nat.le_refl _
    · refine hkdv b k (by omega) ?_ hk
      intro e
      subst e
      simp only [g', if_true] at hv
      have := hverj hkl
      omega
  refine ⟨g', ⟨hs.tk, hlen, fun k b o hk ho => ?_, fun b k hb hk => ?_, fun b t hb hk => ?_, fun b k hb hk => ?_⟩, hE, fun c sz n h2 h3 hok => ⟨w.heap.size, c, rfl, h2, hjl, by simp [g'], fun _ => ⟨by simp [g', mvKind], C, E, (0, 0), hp.new, hok, h3⟩⟩, fun off => ⟨w.heap.size, rfl, hjl, by simp [g'], fun _ => ⟨by simp [g', mvKind], by rw [hp.size]; omega⟩⟩⟩
  · by_cases hkj : k = j
    · subst hkj
      have ho : os[k]? = some o := ho
      rw [hosj] at ho
      cases ho
      refine ⟨?_, by simp [g'], w.heap.size, by rw [hp.size]; omega, by simp [g', mvKind], C, E, hp.new, RelAll.mono hE _ _ hr, h1⟩
      rcases hgos2 k b hk with h | ⟨_, h⟩
      · have hkl : k < st.objs.length := by rw [← hs.len]; exact getElem?_lt h
        have := (hs.obj k b _ h (List.getElem?_eq_getElem hkl)).1
        rw [hp.size]; omega
      · rw [h, hp.size]; omega
    · have ho : os[k]? = some o := ho
      rw [hos k hkj] at ho
      rcases hgos2 k b hk with h | ⟨h, _⟩
      · obtain ⟨k1, k2⟩ := hs.obj k b o h ho
        refine ⟨by rw [hp.size]; omega, ?_⟩
        cases o with
        | gone => trivial
        | nov v' => exact (show (if k = j then v else g.ver k) = v' by rw [if_neg hkj]; exact k2)
        | cells cs' => 
          have := k2.1
          exact k2.keep hE (hp.old k1) (hkd0 b (by omega) (fun k e => by rw [e] at this; cases this)) (fun b' hb' hv => ⟨hp.old hb', hkdv b' k (by omega) hkj hv⟩) (by simp only [g']; rw [if_neg hkj])
        | map es =>
          have := k2.1
          exact k2.keep hE (hp.old k1) (hkd0 b (by omega) (fun k e => by rw [e] at this; cases this)) (fun b' hb' hv => ⟨hp.old hb', hkdv b' k (by omega) hkj hv⟩) (by simp only [g']; rw [if_neg hkj])
        | vec v' cs' =>
          obtain ⟨e1, b'', e2, e3, C', E', e4, e5, e6⟩ := k2
          exact ⟨by simp only [g']; rw [if_neg hkj]; exact e1, b'', by rw [hp.size]; omega, hkdv b'' k (by omega) hkj e3, C', E', (hp.old e2).trans e4, RelAll.mono hE _ _ e5, e6⟩
      · exact absurd h hkj
  · rcases hback b _ hk hb (by intro e; cases e) with ⟨_, h⟩ | ⟨h1, h2, _⟩
    · cases h
    · obtain ⟨o, k1, k2, k3⟩ := hs.back b k h1 h2
      have hkj : k ≠ j := by
        intro e
        subst e
        obtain ⟨v0, ⟨cs0, h⟩ | h, _⟩ := hold o k1
        · subst h; exact k3.elim
        · subst h; exact k3.elim
      exact ⟨o, by show os[k]? = some o; rw [hos k hkj]; exact k1, hgos k b k2, k3⟩
  · rcases hback b _ hk hb (by intro e; cases e) with ⟨_, h⟩ | ⟨h1, h2, _⟩
    · cases h
    · exact hs.rowlt b t h1 h2
  · rcases hback b _ hk hb (by intro e; cases e) with ⟨h0, h⟩ | ⟨h1, h2, h3⟩
    · cases h
      refine ⟨⟨v, cs, hosj⟩, fun b' hb' hk' => ?_⟩
      rcases hback b' _ hk' hb' (by intro e; cases e) with ⟨h4, _⟩ | ⟨_, _, h5⟩
      · rw [h4, h0]
      · exact absurd rfl (h5 _ rfl)
    · have hkj := h3 k rfl
      obtain ⟨⟨v0, cs0, k1⟩, k2⟩ := hs.vec b k h1 h2
      refine ⟨⟨v0, cs0, by show os[k]? = _; rw [hos k hkj]; exact k1⟩, fun b' hb' hk' => ?_⟩
      rcases hback b' _ hk' hb' (by intro e; cases e) with ⟨_, h4⟩ | ⟨h5, h6, _⟩
      · cases h4; exact absurd rfl hkj
      · exact k2 b' h5 h6

noncomputable def catC (cs : List AV) (m : Nat) (rows : List (List AV)) : List AV := opq (cs.take m ++ rows.flatten)

/-- Append, to a slice that grows and is written. -/
noncomputable def aappV (sz bytes : Nat) (s x : AV) (st : St) (k : AV → St → Ans) : Ans :=
  match rowsT sz x st with
  | none => none
  | some rows => match s with
    | .nilsl => match apOk rows.length bytes with
      | true => match Nat.beq rows.length 0 with
        | true => k .nilsl st
        | false => k (.vs st.objs.length 0 sz rows.length) ⟨st.objs ++ [.vec 0 (catC [] 0 rows)], st.tk⟩
      | false => none
    | .sl s' true l => match Nat.beq s' sz && apOk (l.length + rows.length) bytes with
      | true => match Nat.beq rows.length 0 with
        | true => k (.sl sz true l) st
        | false => k (.vs st.objs.length 0 sz (l.length + rows.length)) ⟨st.objs ++ [.vec 0 (catC (catC [] 0 l) (mulN l.length sz) rows)], st.tk⟩
      | false => none
    | .vs j v s' n => match Nat.beq s' sz with
      | true => match st.objs[j]? with
        | some (.vec v' cs) => match Nat.beq v v' && (inC cs 0 (mulN n sz) && apOk (n + rows.length) bytes) with
          | true => k (.vs j (v + 1) sz (n + rows.length)) ⟨st.objs.set j (.vec (v + 1) (catC cs (mulN n sz) rows)), st.tk⟩
          | false => none
        | _ => none
      | false => none
    | _ => none

theorem aappV_nat (sz bytes : Nat) (s x : AV) (st : St) (k : AV → St → Ans) : aappV sz bytes s x st k = thenM (aappV sz bytes s x st retM) k := by
  unfold aappV
  split
  · rfl
  · split
    · split
      · split <;> rfl
      · rfl
    · split
      · split <;> rfl
      · rfl
    · split
      · split
        · split <;> rfl
        · rfl
      · rfl
    · rfl

theorem aappV_run {T X e sz bytes : Nat} {z : Value} (hok : okE sz e = true) (hT : ElemOf P T e sz bytes z) {dx : TypeDesc} (hX : P.underlying X = some dx) (hdx : isSeq dx = true) (ty : TypeId) {g : Gh} {st : St} {w : World} (hs : StRel g st w) {S Y : AV} {s x : Value} (hS : Rel g w S s) (hY : Rel g w Y x) {k : AV → St → Ans} {fin : Fin × St} (h : aappV sz bytes S Y st k = some fin) :
    ∃ r v st' g' w', k r st' = some fin ∧ (Builtin.append_ #[T, X] ty #[s, x]).run P w = .ok v w' ∧ Rel g' w' r v ∧ StRel g' st' w' ∧ Ev g w g' w' := by
  have hzc : ∀ n, (Builtin.zeroCells z.cells n).toList.length = n * sz := fun n => by rw [Array.length_toList (xs := Builtin.zeroCells z.cells n), size_zeroCells, hT.cells]
  unfold aappV at h
  split at h
  · cases h
  · rename_i rows hrows
    obtain ⟨news, h1, h2, h3, h4, h5, h6⟩ := rowsA_run (P := P) hs hY (rowsT_rowsA hrows)
    -- a new block
    have fresh : ∀ p (l : List (List AV)) (olds : List Value) cap j v (gos : List Nat) (os : List Ob), s = .slice p l.length cap → RelAll g w l.flatten olds → (∀ u ∈ olds, u.oneCell' = true) → (∀ x ∈ l, x.length = sz) →
        (∀ w', w'.heap = w.heap → (Builtin.firstCells sz l.length (.slice p l.length cap)).run P w' = .ok olds.toArray w') → cap < l.length + rows.length → (l.length + rows.length) * bytes ≤ 140737488355328 →
        (∀ o, st.objs[j]? = some o → ∃ v0, ((∃ cs0, o = .vec v0 cs0) ∨ o = .nov v0) ∧ v0 < v) → (gos[j]?).isSome → (∀ k b : Nat, g.objs[k]? = some b → gos[k]? = some b) → (∀ k b : Nat, gos[k]? = some b → g.objs[k]? = some b ∨ (k = j ∧ b = w.heap.size)) →
        gos.length = os.length → os[j]? = some (.vec v (l.flatten ++ rows.flatten)) → (∀ k : Nat, k ≠ j → os[k]? = st.objs[k]?) → k (.vs j v sz (l.length + rows.length)) ⟨os, st.tk⟩ = some fin →
        ∃ r v st' g' w', k r st' = some fin ∧ (Builtin.append_ #[T, X] ty #[s, x]).run P w = .ok v w' ∧ Rel g' w' r v ∧ StRel g' st' w' ∧ Ev g w g' w' := by
      intro p l olds cap j v gos os hs' ho ho1 hol hfirst hcap hb q1 q2 q3 q4 q5 q6 q7 hk
      subst hs'
      have hrun := run_append_grows (P := P) hT hX hdx ty h5 hfirst h6 hcap hb
      have hge := grownCap_ge w (l.length + rows.length) cap e
      have hal := RelAll.append _ _ _ _ ho h1
      have holen : olds.length = l.length * sz := by rw [← RelAll.length _ _ ho, flat_len l hol]
      have hlen : (l.flatten ++ rows.flatten).length = (olds ++ news).length := RelAll.length _ _ hal
      obtain ⟨g', k1, k2, k3, _⟩ := vec_moved (j := j) (v := v) (gos := gos) (os := os) (cs := l.flatten ++ rows.flatten) hs (Push.drew w (.cells (olds ++ news ++ (Builtin.zeroCells z.cells (grownCap w (l.length + rows.length) cap e - (l.length + rows.length))).toList).toArray e)) q1 q2 q3 q4 q5 q6 q7
        (by rw [hlen, List.toList_toArray, List.take_left]; exact hal) (fun u hu => by
          rw [hlen, List.toList_toArray, List.take_left] at hu
          rcases List.mem_append.mp hu with hu | hu
          · exact ho1 u hu
          · exact h3 u hu)
      refine ⟨_, _, _, g', _, hk, hrun, k3 _ sz _ hge ?_ hok, k1, k2⟩
      rw [List.size_toArray, List.length_append, List.length_append, hzc, holen, h4, ← Nat.add_mul, ← Nat.add_mul]
      exact Nat.mul_le_mul_right _ (by omega)
    have newobj : ∀ (l : List (List AV)) cap p olds, s = .slice p l.length cap → RelAll g w l.flatten olds → (∀ u ∈ olds, u.oneCell' = true) → (∀ x ∈ l, x.length = sz) →
        (∀ w', w'.heap = w.heap → (Builtin.firstCells sz l.length (.slice p l.length cap)).run P w' = .ok olds.toArray w') → cap < l.length + rows.length → (l.length + rows.length) * bytes ≤ 140737488355328 →
        k (.vs st.objs.length 0 sz (l.length + rows.length)) ⟨st.objs ++ [.vec 0 (l.flatten ++ rows.flatten)], st.tk⟩ = some fin →
        ∃ r v st' g' w', k r st' = some fin ∧ (Builtin.append_ #[T, X] ty #[s, x]).run P w = .ok v w' ∧ Rel g' w' r v ∧ StRel g' st' w' ∧ Ev g w g' w' := by
      intro l cap p olds q1 q2 q3 q4 q5 q6 q7 q8
      refine fresh p l olds cap st.objs.length 0 (g.objs ++ [w.heap.size]) _ q1 q2 q3 q4 q5 q6 q7 (fun o ho => ?_) ?_ (fun k b hk => ?_) (fun k b hk => ?_) (by simp [hs.len]) (by simp) (fun k hk => ?_) q8
      · rw [List.getElem?_eq_none (Nat.le_refl _)] at ho; cases ho
      · rw [List.getElem?_append_right (by rw [hs.len]; exact Nat.le_refl _)]; simp [hs.len]
      · rw [List.getElem?_append_left (getElem?_lt hk)]; exact hk
      · rcases Nat.lt_or_ge k g.objs.length with hlt | hge
        · rw [List.getElem?_append_left hlt] at hk; exact .inl hk
        · have hlt := getElem?_lt hk
          rw [List.length_append, List.length_singleton] at hlt
          have : k = g.objs.length := by omega
          subst this
          rw [List.getElem?_append_right (Nat.le_refl _)] at hk
          simp at hk
          exact .inr ⟨hs.len, hk.symm⟩
      · rcases Nat.lt_or_ge k st.objs.length with hlt | hge
        · rw [List.getElem?_append_left hlt]
        · rw [List.getElem?_eq_none (by simp; omega), List.getElem?_eq_none hge]
    split at h
    · obtain rfl : s = .slice none 0 0 := hS
      split at h
      · rename_i hc
        rw [apOk_iff] at hc
        split at h
        · rename_i h0
          have h0 := Nat.eq_of_beq_eq_true h0
          have hn : news = [] := List.eq_nil_of_length_eq_zero (by rw [h4, h0, Nat.zero_mul])
          have := run_append_fits (P := P) (p := none) (n := 0) (cap := 0) hT hX hdx ty h5 (h6 w rfl) (by omega)
          refine ⟨_, _, _, g, w, h, this, ?_, hs, Ev.refl g w⟩
          rw [h0]; rfl
        · rename_i h0
          have h0 : rows.length ≠ 0 := by intro e; rw [e] at h0; cases h0
          rw [catC, opq_eq] at h
          exact newobj [] 0 none [] rfl rfl (by simp) (by simp) (fun w' _ => by simp [Builtin.firstCells]) (by simp; omega) (by simpa using hc) (by simpa using h)
      · cases h
    · rename_i s' l
      split at h
      · rename_i hc
        rw [Bool.and_eq_true, apOk_iff] at hc
        obtain ⟨hsz, hc⟩ := hc
        obtain rfl := Nat.eq_of_beq_eq_true hsz
        obtain ⟨b, o, sp, cap, rfl, hle, hf, hsp, hr⟩ := hS
        have hcap := hf rfl
        split at h
        · rename_i h0
          have h0 := Nat.eq_of_beq_eq_true h0
          have hn : news = [] := List.eq_nil_of_length_eq_zero (by rw [h4, h0, Nat.zero_mul])
          subst hn
          have := run_append_fits (P := P) (p := some ⟨b, o, sp⟩) (n := l.length) (cap := cap) hT hX hdx ty h5 (h6 w rfl) (by omega)
          rw [h0] at this
          exact ⟨_, _, _, g, w, h, by simpa [storeCells] using this, ⟨b, o, sp, cap, rfl, hle, hf, hsp, hr⟩, hs, Ev.refl g w⟩
        · rename_i h0
          have h0 : rows.length ≠ 0 := by intro e; rw [e] at h0; cases h0
          obtain ⟨olds, o1, o2, o3⟩ := RelRows.values s' l b o hr
          have hlens := RelRows.lens s' l b o hr
          have hfl := flat_len l hlens
          rw [catC, opq_eq, catC, opq_eq, mulN, opq_eq, List.take_zero, List.nil_append, List.take_of_length_le (by rw [hfl]; exact Nat.le_refl _)] at h
          refine newobj l cap _ olds rfl o1 (fun u hu => by obtain ⟨j, hj⟩ := List.getElem?_of_mem hu; exact (o3 j u hj).2.2) hlens (fun w' hw => ?_) (by omega) hc h
          simp only [Builtin.firstCells]
          rw [← o2]
          exact run_loadCells_list (P := P) w' ⟨b, o, sp⟩ olds (fun j u hj => by
            have := sl_cells hsp o2 (fun j u hj => (o3 j u hj).1) j u hj
            simp only [World.cell?, hw] at this ⊢
            exact this)
      · cases h
    · rename_i j v s' n
      split at h
      · rename_i hsz
        obtain rfl := Nat.eq_of_beq_eq_true hsz
        split at h
        · rename_i v' cs hcs
          split at h
          · rename_i hc
            simp only [Bool.and_eq_true, inC_iff, apOk_iff, mulN, opq_eq, Nat.zero_add] at hc
            obtain ⟨hvv, hin, hap⟩ := hc
            obtain rfl := Nat.eq_of_beq_eq_true hvv
            rw [catC, opq_eq, mulN, opq_eq] at h
            have hS0 := hS
            obtain ⟨b, cap, rfl, hle, hj, _, _⟩ := hS
            obtain ⟨hkind, C, E, hC, hr, hrc, hcC, hokE⟩ := vs_of hs hS0 rfl hcs
            have hcl := RelAll.length _ _ hr
            rw [List.length_take] at hcl
            have hcsz : cs.length ≤ C.toList.length := by omega
            have hold : RelAll g w (cs.take (n * s')) (C.toList.take (n * s')) := by
              have := RelAll.take (n * s') _ _ hr
              rwa [List.take_take, Nat.min_eq_left hin] at this
            have hold1 : ∀ u ∈ C.toList.take (n * s'), u.oneCell' = true := fun u hu => hrc u (by
              have := List.take_subset_take_left C.toList hin
              exact this hu)
            have hfl := flat_len rows h2
            by_cases hfit : n + rows.length ≤ cap
            · have hmul : (n + rows.length) * s' ≤ cap * s' := Nat.mul_le_mul_right _ hfit
              rw [Nat.add_mul] at hmul
              have hroom : n * s' + news.length ≤ C.toList.length := by
                have e1 : C.toList.length = C.size := Array.length_toList
                rw [h4, e1]; omega
              have hl' : (cs.take (n * s') ++ rows.flatten).length = n * s' + news.length := by
                rw [List.length_append, List.length_take, Nat.min_eq_left hin, hfl, h4]
              have hw := setV_whole C.toList (n * s') news hroom
              obtain ⟨w', k1, k2, k3, k4⟩ := write_vec (P := P) (cs' := cs.take (n * s') ++ rows.flatten) hs hj hcs (Nat.le_succ v) hkind hC (o := n * s') h3 (by have e1 : C.toList.length = C.size := Array.length_toList; rw [← e1]; exact hroom)
                (by rw [hl', hw]; exact RelAll.append _ _ _ _ hold h1) (fun u hu => by
                  rw [hl', hw] at hu
                  rcases List.mem_append.mp hu with hu | hu
                  · exact hold1 u hu
                  · exact h3 u hu)
              have hrun := run_append_fits (P := P) (p := some ⟨b, 0, none⟩) (n := n) (cap := cap) hT hX hdx ty h5 (h6 w rfl) hfit
              refine ⟨_, _, _, ⟨g.kind, g.objs, g.tk, fun x => if x = j then v + 1 else g.ver x⟩, w', h, ?_, ⟨b, cap, rfl, hfit, hj, by simp, fun _ => ⟨hkind, _, E, (0, 0), k4, hokE, by simpa [length_setV] using hcC⟩⟩, k2, k3⟩
              rw [hrun]
              simp [add_none, k1]
            · obtain ⟨l, hl⟩ := rowsOf_some s' n cs hin
              obtain ⟨r1, r2, r3⟩ := rowsOf_list s' n cs l hl
              have hlf := flat_len l r2
              rw [← r3] at h hold
              have holen : (C.toList.take (n * s')).length = n * s' := by rw [List.length_take]; omega
              refine fresh (some ⟨b, 0, none⟩) l (C.toList.take (n * s')) cap j (v + 1) g.objs _ (by rw [r1]) hold hold1 r2 (fun w' hw => ?_) (by omega) (by rw [r1]; exact hap) (fun o ho => ?_) (by rw [List.getElem?_eq_getElem hj]; rfl) (fun _ _ h => h) (fun _ _ h => .inl h) (by simp [hs.len]) (List.getElem?_set_self (getElem?_lt hcs)) (fun k hk => List.getElem?_set_ne (fun e => hk e.symm)) (by rw [r1]; exact h)
              · simp only [Builtin.firstCells]
                rw [r1]
                have := run_loadCells_list (P := P) w' ⟨b, 0, none⟩ (C.toList.take (n * s')) (fun i u hi => by
                  rw [List.getElem?_take] at hi
                  split at hi
                  · simp only [add_none, Nat.zero_add, World.cell?, hw, hC]
                    simpa using hi
                  · cases hi)
                rwa [holen] at this
              · rw [hcs] at ho; cases ho
                exact ⟨_, .inl ⟨_, rfl⟩, Nat.lt_succ_self _⟩
          · cases h
        · cases h
      · cases h
    · cases h

noncomputable def opAppendV (dst : Option Tmp) (s x : Operand) (T X e sz bytes : Nat) (z : Value) (hT : ElemOf P T e sz bytes z) (dx : TypeDesc) (hX : P.underlying X = some dx) (hdx : isSeq dx = true) (ty : TypeId) (pos : String) (after : Array Edge) (hok : okE sz e = true := by rfl) : MSim P :=
  MSim.makes (mkOp dst (.call { callee := .builtin .append, args := #[s, x], argTypes := #[T, X] }) ty pos after) rfl [s, x] (fun ev st k => aappV sz bytes (ev s) (ev x) st k) (fun ev ev' st k h => by simp only [h s (by simp), h x (by simp)]) fun ev st k fin h g w a he hs => by
    obtain ⟨r, v, st', g', w', h1, h2, h3⟩ := aappV_run (P := P) hok hT hX hdx ty hs (he s (by simp)) (he x (by simp)) h
    refine ⟨r, v, st', g', w', h1, ?_, h3⟩
    rw [callBuiltin]
    simp only [builtin, List.map_toArray, List.map_cons, List.map_nil, Sem.run_bind, h2]
    rfl
theorem opAppendV_nat {dst : Option Tmp} {s x : Operand} {T X e sz bytes : Nat} {z : Value} {hT : ElemOf P T e sz bytes z} {dx : TypeDesc} {hX : P.underlying X = some dx} {hdx : isSeq dx = true} {ty : TypeId} {pos : String} {after : Array Edge} {hok : okE sz e = true} : (opAppendV (P := P) dst s x T X e sz bytes z hT dx hX hdx ty pos after hok).NatM := fun ev st k => aappV_nat _ _ _ _ _ _
end
end Go.V

/- Callees that only read the objects that they are handed: shown at the empty state, where these never change. -/
set_option linter.unusedVariables false
set_option linter.unusedSimpArgs false
namespace Go.V
section
variable {P : Program}

/-- The picture of a callee that changes nothing of what is there. -/
def Gh.all (size : Nat) : Gh := ⟨fun b => if b < size then .part (fun _ => True) else .solid, [], [], fun _ => 0⟩
theorem all_prot (size b off : Nat) : (Gh.all size).prot b off := by
  unfold Gh.prot
  simp only [Gh.all]
  split
  · rename_i h; split at h <;> first | trivial | cases h
  · rename_i S h; split at h
    · cases h; trivial
    · cases h
  · rename_i h; split at h <;> cases h
  · rename_i h; split at h <;> cases h
  · rename_i h; split at h <;> cases h
theorem all_st (w : World) : StRel (Gh.all w.heap.size) ⟨[], []⟩ w := by
  refine ⟨rfl, rfl, fun k b o hk _ => by simp [Gh.all] at hk, fun b k hb hk => ?_, fun b t hb hk => ?_, fun b k hb hk => ?_⟩
  · simp only [Gh.all] at hk; rw [if_pos hb] at hk; cases hk
  · simp only [Gh.all] at hk; rw [if_pos hb] at hk; cases hk
  · simp only [Gh.all] at hk; rw [if_pos hb] at hk; cases hk
theorem hardAll {g : Gh} {st : St} {w : World} (hs : StRel g st w) : HardOk g (Gh.all w.heap.size) st.objs w := by
  refine ⟨fun b off u _ _ => all_prot _ _ _, fun j b cs hg ho => ⟨fun off => all_prot _ _ _, (hs.obj j b _ hg ho).2⟩, fun j v b cs hj ho e1 e2 => ?_⟩
  obtain ⟨q1, b', q2, q3, C, E, q4, q5, q6⟩ := (hs.obj j _ _ (List.getElem?_eq_getElem hj) ho).2
  obtain rfl := (hs.vec b j (e2 q1.symm) (e1 q1.symm)).2 b' q2 q3
  refine ⟨_, q5, q6, fun off => all_prot _ _ _, fun i v hv => ?_⟩
  rw [cell_of q4]
  rw [List.getElem?_take] at hv
  split at hv
  · simpa using hv
  · cases hv

/-- A value, read as what never changes while a callee looks at it. -/
def WkS (st : St) (x y : AV) : Prop := ∀ g w u, StRel g st w → Rel g w x u → Rel (Gh.all w.heap.size) w y u
def WksS (st : St) (xs ys : List AV) : Prop := ∀ g w us, StRel g st w → RelAll g w xs us → RelAll (Gh.all w.heap.size) w ys us
theorem WksS.nil {st : St} : WksS st [] [] := fun _ _ _ _ h => h
theorem WksS.cons {st : St} {x y : AV} {xs ys : List AV} (h : WkS st x y) (k : WksS st xs ys) : WksS st (x :: xs) (y :: ys) :=
  fun g w vs hs ⟨v, vr, e, h1, h2⟩ => ⟨v, vr, e, h _ _ _ hs h1, k _ _ _ hs h2⟩
theorem WkS.agg {st : St} {xs ys : List AV} (h : WksS st xs ys) : WkS st (.agg xs) (.agg ys) := fun g w v hs ⟨vs, h1, h2, h3⟩ => ⟨vs, h1, h _ _ _ hs h2, h3⟩
theorem WkS.hard {st : St} {x : AV} (h : Scoped 0 0 (V.hard st.objs x)) : WkS st x (V.hard st.objs x) := fun g w u hs hr => hard_rel (hardAll hs) x u h hr
theorem WkS.wk {st : St} {x y z : AV} (h : WkS st x y) (k : Wk y z) : WkS st x z := fun g w u hs hr => k _ _ _ (h g w u hs hr)
theorem WkS.of {st : St} {x y : AV} (h : Wk x y) (s : Scoped 0 0 y) : WkS st x y := fun g w u hs hr => Rel.toProt (fun b off _ _ _ => all_prot _ _ _) y u s (h _ _ _ hr)
theorem WkS.vs {st : St} {j v sz n : Nat} {cs : List AV} {l : List (List AV)} (h : st.objs[j]? = some (.vec v cs)) (hl : rowsOf sz n cs = some l) (s : ScopedR 0 0 l) : WkS st (.vs j v sz n) (.ns false sz l) := by
  have e : V.hard st.objs (.vs j v sz n) = .sl sz false l := by simp only [V.hard, h, Nat.beq_refl, hl]
  have := WkS.hard (st := st) (x := .vs j v sz n) (by rw [e]; exact s)
  rw [e] at this
  exact this.wk Wk.sl
theorem WkS.ms {st : St} {j sz o n cap : Nat} {cs : List AV} {l : List (List AV)} (h : st.objs[j]? = some (.cells cs)) (hl : rowsOf sz n (cs.drop o) = some l) (s : ScopedR 0 0 l) : WkS st (.ms j sz o n cap) (.ns false sz l) := by
  have e : V.hard st.objs (.ms j sz o n cap) = .sl sz (Nat.beq n cap) l := by simp only [V.hard, h, hl]
  have := WkS.hard (st := st) (x := .ms j sz o n cap) (by rw [e]; exact s)
  rw [e] at this
  exact this.wk Wk.sl

/-- An answer that shares nothing with what never changed: scalars, and objects of scalars. -/
def Own1 (os : List Ob) (x : AV) : Prop :=
  match x with
  | .ms j _ _ _ _ => ∃ cs, os[j]? = some (.cells cs) ∧ ∀ c ∈ cs, Flat c
  | .vs j v _ _ => ∃ cs, os[j]? = some (.vec v cs) ∧ ∀ c ∈ cs, Flat c
  | .sl _ _ l => l = []
  | x => Flat x
def Own (os : List Ob) (x : AV) : Prop :=
  match x with
  | .tup xs => ∀ y ∈ xs, Own1 os y
  | x => Own1 os x
theorem flat_rel {g g' : Gh} {w w' : World} : ∀ {cs : List AV} {vs : List Value}, (∀ c ∈ cs, Flat c) → RelAll g w cs vs → RelAll g' w' cs vs
  | [], _, _, h => h
  | c :: cs, _, hf, ⟨v, vr, e, h1, h2⟩ => ⟨v, vr, e, (hf c (by simp)).any h1, flat_rel (fun x hx => hf x (by simp [hx])) h2⟩
theorem own1_rel {g g2 : Gh} {st : St} {w : World} {size : Nat} (hs : StRel g st w) (hold : ∀ b, b < size → fixedK (g.kind b) = true) (h2 : ∀ b off, size ≤ b → g2.prot b off) {x : AV} {v : Value} (ho : Own1 st.objs x) (hx : Rel g w x v) (hsc : Scoped 0 0 (hard st.objs x)) : Rel g2 w (hard st.objs x) v := by
  cases x with
  | ms j sz o n cap =>
    obtain ⟨cs, h1, hf⟩ := ho
    obtain ⟨b, hg, hv, hle⟩ := hx
    obtain ⟨k1, C, E, hC, hr, hrc⟩ := ob_of hs hg h1
    have hb : size ≤ b := by
      rcases Nat.lt_or_ge b size with h | h
      · have := hold b h; rw [k1] at this; cases this
      · exact h
    cases hl : rowsOf sz n (cs.drop o) with
    | none => simp only [hard, h1, hl] at hsc; exact absurd hsc (Nat.not_lt_zero _)
    | some l =>
      simp only [hard, h1, hl]
      obtain ⟨e1, e2, e3⟩ := rowsOf_list sz n _ l hl
      refine ⟨b, o, none, cap, by rw [e1]; exact hv, by rw [e1]; exact hle, fun e => by rw [e1]; exact (Nat.eq_of_beq_eq_true e).symm, .inl rfl, ?_⟩
      refine RelRows.of sz l (((C.toList.take cs.length).drop o).take (n * sz)) b o e2 ?_ fun i u hi => ?_
      · rw [e3]
        exact RelAll.take _ _ _ (RelAll.drop o _ _ (flat_rel hf hr))
      · rw [List.getElem?_take] at hi
        split at hi
        · rw [List.getElem?_drop] at hi
          refine ⟨?_, h2 b _ hb, hrc u (List.mem_of_getElem? hi)⟩
          rw [cell_of hC]
          rw [List.getElem?_take] at hi
          split at hi
          · simpa using hi
          · cases hi
        · cases hi
  | vs j ve sz n =>
    obtain ⟨cs, h1, hf⟩ := ho
    have hx0 := hx
    obtain ⟨b, cap, hv, hle, _⟩ := hx
    obtain ⟨k1, C, E, hC, hr, hrc, _⟩ := vs_of hs hx0 hv h1
    have hb : size ≤ b := by
      rcases Nat.lt_or_ge b size with h | h
      · have := hold b h; rw [k1] at this; cases this
      · exact h
    cases hl : rowsOf sz n cs with
    | none => simp only [hard, h1, Nat.beq_refl, hl] at hsc; exact absurd hsc (Nat.not_lt_zero _)
    | some l =>
      simp only [hard, h1, Nat.beq_refl, hl]
      obtain ⟨e1, e2, e3⟩ := rowsOf_list sz n _ l hl
      refine ⟨b, 0, none, cap, by rw [e1]; exact hv, by rw [e1]; exact hle, (fun e => by cases e), .inl rfl, ?_⟩
      refine RelRows.of sz l ((C.toList.take cs.length).take (n * sz)) b 0 e2 ?_ fun i u hi => ?_
      · rw [e3]
        exact RelAll.take _ _ _ (flat_rel hf hr)
      · rw [List.getElem?_take] at hi
        split at hi
        · refine ⟨?_, h2 b _ hb, hrc u (List.mem_of_getElem? hi)⟩
          rw [cell_of hC, Nat.zero_add]
          rw [List.getElem?_take] at hi
          split at hi
          · simpa using hi
          · cases hi
        · cases hi
  | sl sz f l =>
    obtain rfl : l = [] := ho
    obtain ⟨b, off, sp, cap, r1, r2, r3, rs, r4⟩ := hx
    exact ⟨b, off, sp, cap, r1, r2, r3, rs, trivial⟩
  | _ => first | (simp only [hard]; exact hx) | exact False.elim ho
theorem own1_all {g g2 : Gh} {st : St} {w : World} {size : Nat} (hs : StRel g st w) (hold : ∀ b, b < size → fixedK (g.kind b) = true) (h2 : ∀ b off, size ≤ b → g2.prot b off) : ∀ {xs : List AV} {vs : List Value}, (∀ y ∈ xs, Own1 st.objs y) → RelAll g w xs vs → ScopedL 0 0 (hardL st.objs xs) → RelAll g2 w (hardL st.objs xs) vs
  | [], _, _, h, _ => h
  | x :: xs, _, ho, ⟨v, vr, e, h1, h3⟩, ⟨s1, s2⟩ => ⟨v, vr, e, own1_rel hs hold h2 (ho x (by simp)) h1 s1, own1_all hs hold h2 (fun y hy => ho y (by simp [hy])) h3 s2⟩
theorem own_rel {g g2 : Gh} {st : St} {w : World} {size : Nat} (hs : StRel g st w) (hold : ∀ b, b < size → fixedK (g.kind b) = true) (h2 : ∀ b off, size ≤ b → g2.prot b off) {x : AV} {v : Value} (ho : Own st.objs x) (hx : Rel g w x v) (hsc : Scoped 0 0 (hard st.objs x)) : Rel g2 w (hard st.objs x) v := by
  by_cases h : ∃ xs, x = .tup xs
  · obtain ⟨xs, rfl⟩ := h
    obtain ⟨vs, h1, h3⟩ := hx
    exact ⟨vs, h1, own1_all hs hold h2 ho h3 hsc⟩
  · have ho : Own1 st.objs x := by
      cases x <;> first | exact ho | exact absurd ⟨_, rfl⟩ h
    exact own1_rel hs hold h2 ho hx hsc

theorem framedR {id : FuncId} {args args' : List AV} {st st' : St} {r : AV} (h : CallsTo P id args' ⟨[], []⟩ (.ret r, st')) (hw : WksS st args args') (ho : Own st'.objs r) (hr : Scoped 0 0 (hard st'.objs r)) : CallsTo P id args st (.ret (hard st'.objs r), st) := by
  intro g w vals hv hst
  refine (h (Gh.all w.heap.size) w vals (hw _ _ _ hst hv) (all_st w)).mono fun e w' ⟨g', h1, h2, h3⟩ => ?_
  obtain ⟨v, rfl, hv'⟩ := h1
  have hold : ∀ b, b < w.heap.size → fixedK (g'.kind b) = true ∧ w'.heap[b]? = w.heap[b]? := fun b hb => by
    obtain ⟨k1, k2⟩ := h3.part b (S := fun _ => True) hb (by simp only [Gh.all]; rw [if_pos hb])
    exact ⟨by rw [k1]; rfl, k2⟩
  obtain ⟨k1, k2⟩ := kept hst h3.os h3.tape h3.output h3.size fun b hb => (hold b hb).2
  refine ⟨_, ⟨v, rfl, own_rel (g2 := g.kept w.heap.size) (size := w.heap.size) h2 (fun b hb => (hold b hb).1) (fun b off hb => ?_) ho hv' hr⟩, k1, k2⟩
  unfold Gh.prot
  simp only [Gh.kept]
  rw [if_neg (by omega)]
  trivial

/-- A function shown at the empty state that only reads what it is handed, objects too; its answer is its own. -/
def Fun.farR (f : Fun P) (sem : List AV → St → (AV → Ans) → Ans)
    (hs : ∀ args st k fin, sem args st k = some fin → ∃ args' r, k r = some fin ∧ WksS st args args' ∧ ∃ F r' st', f.run F args' ⟨[], []⟩ = some (.ret r', st') ∧ Own st'.objs r' ∧ Scoped 0 0 (hard st'.objs r') ∧ Wk (hard st'.objs r') r) : OrcQ P where
  id := f.id
  fn := f.fn
  hf := f.hf
  hname := f.hname
  hb := by rw [f.hbody]; rfl
  F := sem
  sound k args st fin h := by
    obtain ⟨args', r, h1, h2, F, r', st', h4, h5, h6, h7⟩ := hs args st k fin h
    refine ⟨_, h1, fun g w vals hv hst => (framedR (f.sound h4) h2 h5 h6 g w vals hv hst).mono fun e w' ⟨g', k1, k2, k3⟩ => ?_⟩
    obtain ⟨v, rfl, hv'⟩ := k1
    exact ⟨g', ⟨v, rfl, h7 _ _ _ hv'⟩, k2, k3⟩

/-- A slice, read as one that never changes and may be nil; objects, too. -/
noncomputable def onNsQ (sz : Nat) (x : AV) (st : St) (k : Bool → List (List AV) → Ans) : Ans :=
  match x with
  | .vs j v s n => match Nat.beq s sz with
    | true => match st.objs[j]? with
      | some (.vec v' cs) => match Nat.beq v v' && inC cs 0 (mulN n sz) with
        | true => k false (rowsC sz n cs 0)
        | false => none
      | _ => none
    | false => none
  | .ms j s o n cap => match Nat.beq s sz with
    | true => match st.objs[j]? with
      | some (.cells cs) => match inC cs o (mulN n sz) with
        | true => k false (rowsC sz n cs o)
        | false => none
      | _ => none
    | false => none
  | x => onNs sz x k
theorem onNsQ_spec {sz : Nat} {x : AV} {st : St} {k : Bool → List (List AV) → Ans} {fin : Fin × St} (h : onNsQ sz x st k = some fin) :
    ∃ z l, k z l = some fin ∧ (ScopedR 0 0 l → WkS st x (.ns z sz l)) := by
  unfold onNsQ at h
  split at h
  · split at h
    · rename_i hs
      obtain rfl := Nat.eq_of_beq_eq_true hs
      split at h
      · rename_i h0
        split at h
        · rename_i hc
          rw [Bool.and_eq_true] at hc
          obtain rfl := Nat.eq_of_beq_eq_true hc.1
          have := rowsC_some hc.2
          rw [List.drop_zero] at this
          exact ⟨_, _, h, WkS.vs h0 this⟩
        · cases h
      · cases h
    · cases h
  · split at h
    · rename_i hs
      obtain rfl := Nat.eq_of_beq_eq_true hs
      split at h
      · rename_i h0
        split at h
        · rename_i hc
          exact ⟨_, _, h, WkS.ms h0 (rowsC_some hc)⟩
        · cases h
      · cases h
    · cases h
  · obtain ⟨z, l, h1, h2⟩ := onNs_spec h
    exact ⟨z, l, h1, fun s => WkS.of h2 s⟩
theorem onNsQ_nat {sz : Nat} {x : AV} {st : St} {s s' : Bool → List (List AV) → Ans} {K : AV → Ans} (h : ∀ z l, s z l = thenA (s' z l) K) : onNsQ sz x st s = thenA (onNsQ sz x st s') K := by
  unfold onNsQ
  split
  · split
    · split
      · split
        · exact h _ _
        · rfl
      · rfl
    · rfl
  · split
    · split
      · split
        · exact h _ _
        · rfl
      · rfl
    · rfl
  · exact onNs_nat h
theorem onNsQ_ns {sz : Nat} {st : St} {z : Bool} {l : List (List AV)} {k : Bool → List (List AV) → Ans} : onNsQ sz (.ns z sz l) st k = k z l := by
  simp only [onNsQ, onNs, Nat.beq_refl]
end
end Go.V

/- Growing objects with elements of one cell. -/
set_option linter.unusedVariables false
set_option linter.unusedSimpArgs false
namespace Go.V

/-- Cells as rows of one cell each. -/
def cR (cs : List AV) : List (List AV) := cs.map fun c => [c]
theorem cR_length (cs : List AV) : (cR cs).length = cs.length := by simp [cR]
theorem cR_append (a b : List AV) : cR (a ++ b) = cR a ++ cR b := by simp [cR]
theorem cR_take (n : Nat) (a : List AV) : (cR a).take n = cR (a.take n) := by simp [cR]
theorem cR_flat (a : List AV) : (cR a).flatten = a := by
  induction a with
  | nil => rfl
  | cons c a ih => simp only [cR, List.map_cons, List.flatten_cons, List.singleton_append] at ih ⊢; rw [ih]
theorem rowsOf_one : ∀ (n : Nat) (cs : List AV), n ≤ cs.length → rowsOf 1 n cs = some (cR (cs.take n))
  | 0, cs, _ => by simp [rowsOf, cR]
  | n + 1, [], h => by simp at h
  | n + 1, c :: cs, h => by
    have ih := rowsOf_one n cs (by simpa using h)
    simp only [rowsOf, takeN, List.drop_succ_cons, List.drop_zero, ih, List.take_succ_cons]
    rfl
theorem rowsC_one {n : Nat} {cs : List AV} (h : n ≤ cs.length) : rowsC 1 n cs 0 = cR (cs.take n) := by
  rw [rowsC, opq_eq, List.drop_zero, rowsOf_one n cs h]; rfl
theorem inC_one {n : Nat} {cs : List AV} (h : n ≤ cs.length) : inC cs 0 (mulN n 1) = true := by
  rw [inC_iff, mulN, opq_eq]; omega
theorem catC_one {n : Nat} {cs : List AV} {x : AV} (h : n = cs.length) : catC cs (mulN n 1) [[x]] = cs ++ [x] := by
  rw [catC, opq_eq, mulN, opq_eq, Nat.mul_one, h, List.take_length]; rfl
theorem catC_nil (rows : List (List AV)) : catC [] 0 rows = rows.flatten := by rw [catC, opq_eq]; rfl
theorem setC_one {cs : List AV} {i : Nat} {x : AV} (h : i < cs.length) : setC cs i [x] = cs.set i x := by
  rw [setC, opq_eq]
  induction cs generalizing i with
  | nil => simp at h
  | cons c cs ih =>
    cases i with
    | zero => simp [setAt]
    | succ i => simp only [setAt, List.set_cons_succ]; rw [ih (by simpa using h)]
theorem drop_head {cs : List AV} {i : Nat} (h : i < cs.length) : cs.drop i = cs[i] :: cs.drop (i + 1) := List.drop_eq_getElem_cons h
theorem isLT_head (t : LT) (c : AV) (r : List AV) : isLT t (c :: r) = isLT t [c] := by
  cases t <;> cases c <;> rfl
theorem nilA_head (c : AV) (r : List AV) : nilA (c :: r) = nilA [c] := by cases c <;> rfl
theorem rwA_head (c : AV) (r : List AV) : rwA (c :: r) = rwA [c] := by cases c <;> rfl
theorem hdI_head (c : AV) (r : List AV) : hdI (c :: r) = hdI [c] := by cases c <;> rfl
theorem is_at {t : LT} {cs : List AV} {i : Nat} (h : i < cs.length) : (LD.one t).is (cs.drop i) = (LD.one t).is [cs[i]] := by
  rw [drop_head h]; exact isLT_head _ _ _
theorem nilA_at {cs : List AV} {i : Nat} (h : i < cs.length) : nilA (cs.drop i) = nilA [cs[i]] := by rw [drop_head h]; exact nilA_head _ _
theorem rwA_at {cs : List AV} {i : Nat} (h : i < cs.length) : rwA (cs.drop i) = rwA [cs[i]] := by rw [drop_head h]; exact rwA_head _ _
theorem hdI_at {cs : List AV} {i : Nat} (h : i < cs.length) : hdI (cs.drop i) = hdI [cs[i]] := by rw [drop_head h]; exact hdI_head _ _

/-- A slice over the first object, that grows; its elements have one cell. -/
noncomputable def onVs0 (x : AV) (st : St) (k : Nat → Nat → List AV → List Ob → Ans) : Ans :=
  match x with
  | .vs j v s n => match Nat.beq j 0 && Nat.beq s 1 with
    | true => match st.objs with
      | .vec v' cs :: os => match Nat.beq v v' with
        | true => k v n cs os
        | false => none
      | _ => none
    | false => none
  | _ => none
theorem onVs0_spec {x : AV} {st : St} {k : Nat → Nat → List AV → List Ob → Ans} {fin : Fin × St} (h : onVs0 x st k = some fin) : ∃ v n cs os, x = .vs 0 v 1 n ∧ st = ⟨.vec v cs :: os, st.tk⟩ ∧ k v n cs os = some fin := by
  unfold onVs0 at h
  split at h
  · split at h
    · rename_i hj
      rw [Bool.and_eq_true] at hj
      obtain rfl := Nat.eq_of_beq_eq_true hj.1
      obtain rfl := Nat.eq_of_beq_eq_true hj.2
      split at h
      · rename_i ho
        split at h
        · rename_i hv
          obtain rfl := Nat.eq_of_beq_eq_true hv
          refine ⟨_, _, _, _, rfl, ?_, h⟩
          rw [← ho]
        · cases h
      · cases h
    · cases h
  · cases h
theorem onVs0_nat {x : AV} {st : St} {s s' : Nat → Nat → List AV → List Ob → Ans} {K : AV → Ans} (h : ∀ v n cs os, s v n cs os = thenA (s' v n cs os) K) : onVs0 x st s = thenA (onVs0 x st s') K := by
  unfold onVs0
  split
  · split
    · split
      · split
        · exact h _ _ _ _
        · rfl
      · rfl
    · rfl
  · rfl

section
variable {P : Program}
/-- A callee that looks at no objects. -/
def POrc.q (O : POrc P) : OrcQ P where
  id := O.id
  fn := O.fn
  hf := O.hf
  hname := O.hname
  hb := O.hb
  F args st k := O.F args k
  sound k args st fin h := by
    obtain ⟨r, h1, h2⟩ := O.sound _ _ _ h
    exact ⟨r, h1, h2 st⟩
theorem POrc.q_nat {O : POrc P} (h : O.Nat) : O.q.NatQ := fun args st k => h args k
/-- One callee, told in two ways. -/
def OrcQ.alt (A B : OrcQ P) (hid : B.id = A.id) (pick : List AV → Bool) : OrcQ P where
  id := A.id
  fn := A.fn
  hf := A.hf
  hname := A.hname
  hb := A.hb
  F args st k := match pick args with
    | true => A.F args st k
    | false => B.F args st k
  sound k args st fin h := by
    split at h
    · exact A.sound _ _ _ _ h
    · have := B.sound _ _ _ _ h
      rw [hid] at this
      exact this
theorem OrcQ.alt_nat {A B : OrcQ P} {hid : B.id = A.id} {pick : List AV → Bool} (h : A.NatQ) (k : B.NatQ) : (OrcQ.alt A B hid pick).NatQ := by
  intro args st K
  simp only [OrcQ.alt]
  split
  · exact h _ _ _
  · exact k _ _ _
def isVs1 (args : List AV) : Bool :=
  match args with
  | [.vs ..] => true
  | _ => false
/-- A callee, by what its calls come to. -/
def Fun.by' (f : Fun P) (sem : List AV → St → (Fin → St → Ans) → Ans)
    (hs : ∀ args st k fin, sem args st k = some fin → ∃ r st', k r st' = some fin ∧ CallsTo P f.id args st (r, st')) : OrcS P where
  id := f.id
  fn := f.fn
  hf := f.hf
  hname := f.hname
  hb := by rw [f.hbody]; rfl
  sem := sem
  sound k args st fin h := hs args st k fin h
/-- A caller's state without objects. -/
def onNone (st : St) (k : Ans) : Ans :=
  match st.objs with
  | [] => match st.tk with
    | [] => k
    | _ => none
  | _ => none
theorem onNone_spec {st : St} {k : Ans} {fin : Fin × St} (h : onNone st k = some fin) : st = ⟨[], []⟩ ∧ k = some fin := by
  obtain ⟨os, tk⟩ := st
  cases os with
  | cons o os => cases h
  | nil => cases tk with
    | nil => exact ⟨rfl, h⟩
    | cons t tk => cases h
end
end Go.V

/- Objects that never change any more; literals of bytes. -/
set_option linter.unusedVariables false
set_option linter.unusedSimpArgs false
namespace Go.V
section
variable {P : Program}

/-- An object never changes from now on (its block may get a mark). -/
theorem frozen_obj {g : Gh} {st : St} {w w' : World} (hs : StRel g st w) {j b : Nat} (hg : g.objs[j]? = some b) {cs : List AV} (hcs : st.objs[j]? = some (.cells cs)) {C : Array Value} {E : TypeId} {fz : Nat × Nat} (hC0 : w.heap[b]? = some (.cells C E (0, 0)))
    (h1 : w'.os = w.os) (h2 : w'.tape = w.tape) (h3 : w'.output = w.output) (h4 : w'.heap.size = w.heap.size) (h5 : ∀ x, x ≠ b → w'.heap[x]? = w.heap[x]?) (h6 : w'.heap[b]? = some (.cells C E fz)) :
    ∃ g', StRel g' ⟨st.objs.set j .gone, st.tk⟩ w' ∧ Ev g w g' w' ∧ ∀ sz o n cap l, n ≤ cap → rowsOf sz n (cs.drop o) = some l → Rel g' w' (.sl sz (Nat.beq n cap) l) (.slice (some ⟨b, o, none⟩) n cap) := by
  obtain ⟨hkind, C', E', hC', hr, hrc⟩ := ob_of hs hg hcs
  rw [hC0] at hC'
  cases hC'
  let g' : Gh := ⟨fun x => if x = b then .solid else g.kind x, g.objs, g.tk, g.ver⟩
  have hk : ∀ x, x ≠ b → g'.kind x = g.kind x := fun x hx => by simp only [g']; rw [if_neg hx]
  have hne : ∀ x, g.kind x ≠ .obj j → x ≠ b := fun x hx e => hx (by rw [e]; exact hkind)
  have hE : Ev g w g' w' := by
    refine ⟨h1, h2, h3, Nat.le_of_eq h4.symm, fun x hx hf => ?_, fun x t hx hf => ?_, fun x k hx hf => ?_, fun _ _ h => h, tk_refl _, fun _ _ => Nat.le_refl _, fun x k hx _ hf _ => ?_, fun x C1 E1 f1 hC1 => ?_⟩
    · have := hne x (by intro e; rw [e] at hf; cases hf)
      exact ⟨hk x this, h5 x this⟩
    · have := hne x (by intro e; rw [e] at hf; cases hf)
      exact ⟨(hk x this).trans hf, fun C1 E1 f1 hC1 => ⟨C1, (h5 x this).trans hC1, rfl, fun _ _ => rfl⟩⟩
    · by_cases hxb : x = b
      · exact .inr (by simp only [g']; rw [if_pos hxb])
      · exact .inl ((hk x hxb).trans hf)
    · have := hne x (by intro e; rw [e] at hf; cases hf)
      exact ⟨(hk x this).trans hf, fun C1 E1 f1 hC1 => ⟨C1, (h5 x this).trans hC1, rfl⟩⟩
    · by_cases hxb : x = b
      · subst hxb
        rw [hC0] at hC1
        cases hC1
        exact ⟨_, _, h6, rfl⟩
      · exact ⟨C1, f1, (h5 x hxb).trans hC1, rfl⟩
  have hback : ∀ x y, g'.kind x = y → y ≠ .solid → x ≠ b ∧ g.kind x = y := by
    intro x y hx hy
    by_cases hxb : x = b
    · simp only [g'] at hx; rw [if_pos hxb] at hx; exact absurd hx.symm hy
    · exact ⟨hxb, (hk x hxb).symm.trans hx⟩
  refine ⟨g', ⟨hs.tk, by simp [hs.len]; exact hs.len, fun k b' o hk' ho => ?_, fun x k hx hf => ?_, fun x t hx hf => ?_, fun x k hx hf => ?_⟩, hE, fun sz o n cap l hle hl => ?_⟩
  · by_cases hkj : k = j
    · subst hkj
      rw [List.getElem?_set_self (getElem?_lt hcs)] at ho
      cases ho
      exact ⟨by rw [h4]; exact (hs.obj k b' _ hk' hcs).1, trivial⟩
    · rw [List.getElem?_set_ne (fun e => hkj e.symm)] at ho
      obtain ⟨p1, p2⟩ := hs.obj k b' o hk' ho
      refine ⟨by rw [h4]; exact p1, ?_⟩
      have hv : ∀ b'', b'' < w.heap.size → g.kind b'' = .vec k → w'.heap[b'']? = w.heap[b'']? ∧ g'.kind b'' = .vec k := fun b'' _ hh => by
        have := hne b'' (by rw [hh]; intro e; cases e)
        exact ⟨h5 b'' this, (hk b'' this).trans hh⟩
      cases o with
      | gone => trivial
      | nov v => exact p2
      | cells cs' =>
        have := hne b' (by rw [p2.1]; intro e; cases e; exact hkj rfl)
        exact p2.keep hE (h5 b' this) (hk b' this) hv rfl
      | map es =>
        have := hne b' (by rw [p2.1]; intro e; cases e; exact hkj rfl)
        exact p2.keep hE (h5 b' this) (hk b' this) hv rfl
      | vec v cs' =>
        obtain ⟨e1, b'', e2, e3, C1, E1, e4, e5, e6⟩ := p2
        obtain ⟨f1, f2⟩ := hv b'' e2 e3
        exact ⟨e1, b'', by rw [h4]; exact e2, f2, C1, E1, f1.trans e4, RelAll.mono hE _ _ e5, e6⟩
  · obtain ⟨k1, k2⟩ := hback x _ hf (by intro e; cases e)
    obtain ⟨o, k3, k4, k5⟩ := hs.back x k (by rw [h4] at hx; exact hx) k2
    have hkj : k ≠ j := by intro e; subst e; rw [hg] at k4; cases k4; exact k1 rfl
    exact ⟨o, by rw [List.getElem?_set_ne (fun e => hkj e.symm)]; exact k3, k4, k5⟩
  · obtain ⟨k1, k2⟩ := hback x _ hf (by intro e; cases e)
    exact hs.rowlt x t (by rw [h4] at hx; exact hx) k2
  · obtain ⟨k1, k2⟩ := hback x _ hf (by intro e; cases e)
    obtain ⟨⟨v, cs', k3⟩, k4⟩ := hs.vec x k (by rw [h4] at hx; exact hx) k2
    have hkj : k ≠ j := by intro e; subst e; rw [hcs] at k3; cases k3
    refine ⟨⟨v, cs', by rw [List.getElem?_set_ne (fun e => hkj e.symm)]; exact k3⟩, fun x' hx' hf' => ?_⟩
    obtain ⟨k5, k6⟩ := hback x' _ hf' (by intro e; cases e)
    exact k4 x' (by rw [h4] at hx'; exact hx') k6
  · obtain ⟨e1, e2, e3⟩ := rowsOf_list sz n _ l hl
    refine ⟨b, o, none, cap, by rw [e1], by rw [e1]; exact hle, fun e => by rw [e1]; exact (Nat.eq_of_beq_eq_true e).symm, .inl rfl, ?_⟩
    refine RelRows.of sz l (((C.toList.take cs.length).drop o).take (n * sz)) b o e2 (by rw [e3]; exact RelAll.mono hE _ _ (RelAll.take _ _ _ (RelAll.drop o _ _ hr))) fun i u hi => ?_
    rw [List.getElem?_take] at hi
    split at hi
    · rw [List.getElem?_drop] at hi
      refine ⟨?_, ?_, hrc u (List.mem_of_getElem? hi)⟩
      · rw [cell_of h6]
        rw [List.getElem?_take] at hi
        split at hi
        · simpa using hi
        · cases hi
      · simp [Gh.prot, g']
    · cases hi

/-- A literal of a slice, as an object. -/
def abuildO (sz len : Nat) (parts : List (Nat × Nat × AV)) (st : St) (k : AV → St → Ans) : Ans :=
  aparts parts (List.replicate (len * sz) .dead) fun cs => k (.ms st.objs.length sz 0 len len) ⟨st.objs ++ [.cells cs], st.tk⟩
def opBuildSliceO (dst : Option Tmp) (T : TypeId) (len : Nat) (parts : List (Nat × Operand)) (e sz bytes : Nat) (z : Value) (hT : ElemOf P T e sz bytes z) (h1 : z.cells.toList.all Value.oneCell' = true) (hl : len * sz ≤ 16777216) (ty : TypeId) (pos : String) (after : Array Edge) : MSim P :=
  MSim.makes (mkOp dst (.buildSlice T len parts.toArray) ty pos after) rfl (parts.map (·.2)) (fun ev st k => abuildO sz len (parts.map fun p => (p.1 * sz, sz, frz (ev p.2))) st k)
    (fun ev ev' st k h => by rw [parts_evZ h]) fun ev st k fin h g w a he hs => by
    have hbig : ¬ (len * sz > 2 ^ 24) := by omega
    generalize hZ : (if len * sz = 0 then #[] else (Array.range (len * sz)).map (fun j => z.cells[j % z.cells.size]!)) = Z
    have hZ1 : ∀ u ∈ Z.toList, u.oneCell' = true := by
      subst hZ
      split
      · simp
      · exact zeroArr_cells h1 hT.cells len
    have hZs : Z.size = len * sz := by
      subst hZ
      split
      · rename_i h; simp [h]
      · simp
    have hr0 : RelAll g w (List.replicate (len * sz) .dead) Z.toList := by
      have := deads_rel (g := g) (w := w) Z.toList
      rw [Array.length_toList, hZs] at this; exact this
    have hfill : ∃ ds us, k (.ms st.objs.length sz 0 len len) ⟨st.objs ++ [.cells ds], st.tk⟩ = some fin ∧ Instr.fill (fun i => some (i * sz, sz)) Z (parts.map fun p => (p.1, a.eval p.2)) = some us ∧ RelAll g w ds us.toList ∧ ∀ u ∈ us.toList, u.oneCell' = true := by
      have := aparts_run (ev := fun x => frz (ev x)) (xs := parts.map (·.2)) (fun x hx => frz_rel (he x hx)) (fun i => some (i * sz, sz)) (parts.map fun p => (p.1, p.1 * sz, sz, p.2)) (fun p hp => by
        simp only [List.mem_map] at hp
        obtain ⟨q, hq, rfl⟩ := hp
        exact List.mem_map.mpr ⟨q, hq, rfl⟩) (fun p hp => by
        simp only [List.mem_map] at hp
        obtain ⟨q, hq, rfl⟩ := hp
        rfl) _ Z hr0 hZ1 (by rw [List.map_map]; exact h)
      obtain ⟨ds, us, a1, a2, a3, a4⟩ := this
      exact ⟨ds, us, a1, by rw [List.map_map] at a2; exact a2, a3, a4⟩
    obtain ⟨ds, us, f1, f2, f3, f4⟩ := hfill
    have hp := Push.alloc w (.cells us e)
    have hrel := hs.pushObj hp (.cells ds) trivial (fun hE => ⟨by simp [Gh.use], us, e, hp.new, by rw [List.take_of_length_le (by rw [RelAll.length _ _ f3]; exact Nat.le_refl _)]; exact RelAll.mono hE _ _ f3, fun u hu => f4 u (List.mem_of_mem_take hu)⟩)
    refine ⟨_, .slice (some ⟨w.heap.size, 0, none⟩) len len, _, _, w.alloc (.cells us e), f1, ?_, ⟨w.heap.size, ?_, rfl, Nat.le_refl _⟩, hrel, Ev.push hp _ _ _ (tk_refl _)⟩
    · simp only [execOp, mkOp, Instr.buildSlice, Sem.run_bind, run_underlying hT.ty, Result.andThen_ok, run_sizeOf' hT.size, if_neg hbig]
      by_cases h0 : len * sz = 0
      · rw [if_pos h0] at hZ
        simp only [if_pos h0, Sem.run_bind, Sem.run_pure, Result.andThen_ok, List.map_toArray]
        rw [show Array.range (len * sz) = #[] by rw [h0]; rfl, Array.map_empty, hZ]
        rw [show (Instr.fill (fun i => some (i * sz, sz)) Z (List.map (fun x => (x.fst, a.eval x.snd)) parts)) = some us from f2]
        rfl
      · rw [if_neg h0] at hZ
        simp only [if_neg h0, Sem.run_bind, Sem.run_pure, run_zeroValue' hT.zero, Result.andThen_ok, List.map_toArray]
        rw [hZ]
        rw [show (Instr.fill (fun i => some (i * sz, sz)) Z (List.map (fun x => (x.fst, a.eval x.snd)) parts)) = some us from f2]
        rfl
    · show (g.objs ++ [w.heap.size])[st.objs.length]? = some w.heap.size
      rw [List.getElem?_append_right (by rw [hs.len]; exact Nat.le_refl _)]; simp [hs.len]

/-- The conversion behind a literal of bytes. -/
def aconvSl (x : AV) (st : St) (k : AV → St → Ans) : Ans :=
  match x with
  | .ms j s o n cap => match Nat.beq s 1 with
    | true => match st.objs[j]? with
      | some (.cells cs) => match rowsOf 1 n (cs.drop o) with
        | some l => k (.sl 1 (Nat.beq n cap) l) ⟨st.objs.set j .gone, st.tk⟩
        | none => none
      | _ => none
    | false => none
  | _ => none
def opConvSl (dst : Option Tmp) (T : TypeId) (x : Operand) (e : TypeId) (hT : P.underlying T = some (.slice e)) (he : P.underlying e = some (.int .u8)) (ty : TypeId) (pos : String) (after : Array Edge) : MSim P :=
  MSim.makes (mkOp dst (.convert T T x) ty pos after) rfl [x] (fun ev st k => aconvSl (ev x) st k) (fun ev ev' st k h => by simp only [h x (by simp)]) fun ev st k fin h g w a hev hs => by
    have hv := hev x (by simp)
    unfold aconvSl at h
    split at h
    · rename_i j s o n cap hb
      rw [hb] at hv
      split at h
      · rename_i hsz
        obtain rfl := Nat.eq_of_beq_eq_true hsz
        obtain ⟨b, hg, hv, hle⟩ := hv
        split at h
        · rename_i cs hcs
          split at h
          · rename_i l hl
            obtain ⟨hkind, C, E, hC, hr, hrc⟩ := ob_of hs hg hcs
            have hsh : w.shape? b = some (E, C.size) := by unfold World.shape?; rw [hC]
            have hlt := lt_of_block hC
            obtain ⟨g', k1, k2, k3⟩ := frozen_obj (w' := w.freeze ⟨b, C.size, none⟩ 1) (fz := (C.size, C.size + 1)) hs hg hcs hC (by unfold World.freeze; rw [if_neg (by decide)]) (by unfold World.freeze; rw [if_neg (by decide)]) (by unfold World.freeze; rw [if_neg (by decide)])
              (by unfold World.freeze; rw [if_neg (by decide)]; simp) (fun y hy => by
                unfold World.freeze; rw [if_neg (by decide)]
                simp only [Array.getElem?_modify]
                rw [if_neg (by omega)]) (by
                unfold World.freeze; rw [if_neg (by decide)]
                simp only [Array.getElem?_modify, if_true, hC]
                rfl)
            refine ⟨_, _, _, g', _, h, ?_, k3 1 o n cap l hle hl, k1, k2⟩
            simp [execOp, mkOp, hv, convert, run_underlying hT, run_underlying he, markStringish, hsh]
          · cases h
        · cases h
      · cases h
    · cases h
end
end Go.V

/- What a law's arguments are, as abstract values: read off their reading. -/
set_option linter.unusedVariables false
set_option linter.unusedSimpArgs false
namespace Go.V
open Go.WideShapes

/-- A shape of values. -/
inductive Ty where
  | bool
  | int (k : IntKind)
  | str
  | sl (e : Ty) (bytes : Nat)
  | st (fs : List Ty)

mutual
def Ty.size : Ty → Nat
  | .bool => 1
  | .int _ => 1
  | .str => 1
  | .sl _ _ => 1
  | .st fs => Ty.sizes fs
def Ty.sizes : List Ty → Nat
  | [] => 0
  | y :: r => y.size + Ty.sizes r
end

mutual
/-- A type of the program has this shape. -/
def Ty.ok (P : Program) : Ty → TypeId → Bool
  | .bool, t => match P.underlying t with
    | some .bool => true
    | _ => false
  | .int k, t => match P.underlying t with
    | some (.int k') => decide (k' = k)
    | _ => false
  | .str, t => match P.underlying t with
    | some .string => true
    | _ => false
  | .sl e b, t => match P.underlying t with
    | some (.slice u) => Nat.beq (P.cellsOf u) e.size && (Nat.blt 0 e.size && (Nat.beq (P.bytesOf u) b && e.ok P u))
    | _ => false
  | .st fs, t => match P.underlying t with
    | some (.struct F) => Nat.beq (P.cellsOf t) (Ty.sizes fs) && Ty.oks P fs F.toList 0
    | _ => false
def Ty.oks (P : Program) : List Ty → List Field → Nat → Bool
  | [], [], _ => true
  | y :: r, f :: F, o => Nat.beq f.offset o && (Nat.beq (P.cellsOf f.type) y.size && (y.ok P f.type && Ty.oks P r F (o + y.size)))
  | _, _, _ => false
end

mutual
/-- Cells of this shape. -/
def Ty.Shape : Ty → List AV → Prop
  | .bool, ays => ∃ b, ays = [.bool b]
  | .int k, ays => ∃ n, ays = [.int k n] ∧ (Lit.int k n).wf = true
  | .str, ays => ∃ s : ByteArray, ays = [.str s] ∧ s.size ≤ reachBytes
  | .sl e b, ays => ∃ z l, ays = [.ns z e.size l] ∧ (z = true → l = []) ∧ l.length * b ≤ reachBytes ∧ l.length ≤ maxLen ∧ ∀ r ∈ l, e.Shape r
  | .st fs, ays => Ty.Shapes fs ays
def Ty.Shapes : List Ty → List AV → Prop
  | [], ays => ays = []
  | y :: r, ays => ∃ a b, ays = a ++ b ∧ y.Shape a ∧ Ty.Shapes r b
end

section
variable {P : Program} {H : Type} {enc : TypeId × Value → H} {W : World} {base : Nat} {spare : Nat → Bool} {held : Bool}

theorem RelCells.ofCells : ∀ (ays : List AV) (cs : List Value) (b off : Nat), RelAll g0 W ays cs → (∀ u ∈ cs, u.oneCell' = true) → (∀ i u, cs[i]? = some u → W.cell? ⟨b, off + i, none⟩ = some u) → RelCells g0 W ays b off
  | [], _, _, _, _, _, _ => trivial
  | a :: ays, _, b, off, ⟨v, vr, rfl, h1, h2⟩, h3, h4 => by
    refine ⟨⟨v, by simpa using h4 0 v rfl, trivial, h3 v (by simp), h1⟩, RelCells.ofCells ays vr b (off + 1) h2 (fun u hu => h3 u (by simp [hu])) fun i u hu => ?_⟩
    have := h4 (i + 1) u (by simpa using hu)
    rwa [show off + (i + 1) = off + 1 + i by omega] at this

theorem cell_spot {a : Addr} {u : Value} (h : W.cell? a = some u) : a.spot = none := by
  unfold World.cell? at h
  split at h
  · split at h
    · cases h
    · rename_i hs; cases hsp : a.spot with
      | none => rfl
      | some s => rw [hsp] at hs; simp at hs
  · cases h

/-- Rows, one by one. -/
theorem rows_of_reads {sz : Nat} (hsz : 0 < sz) {Q : List AV → Prop} {b off : Nat} : ∀ (n k : Nat), (∀ i, i < n → ∃ ays cs, RelAll g0 W ays cs ∧ ays.length = sz ∧ Q ays ∧ (∀ u ∈ cs, u.oneCell' = true) ∧ ∀ j u, cs[j]? = some u → W.cell? ⟨b, off + (k + i) * sz + j, none⟩ = some u) →
    ∃ l, l.length = n ∧ (∀ r ∈ l, Q r) ∧ RelRows g0 W sz l b (off + k * sz)
  | 0, k, _ => ⟨[], rfl, by simp, trivial⟩
  | n + 1, k, h => by
    obtain ⟨l, h1, h2, h3⟩ := rows_of_reads hsz (b := b) (off := off) (Q := Q) n (k + 1) fun i hi => by
      have := h (i + 1) (by omega)
      rwa [show k + (i + 1) = k + 1 + i by omega] at this
    obtain ⟨ays, cs, k1, k2, k3, k4, k5⟩ := h 0 (by omega)
    refine ⟨ays :: l, by simp [h1], fun r hr => ?_, k2, RelCells.ofCells ays cs b _ k1 k4 (by simpa using k5), ?_⟩
    · rcases List.mem_cons.mp hr with rfl | hr
      · exact k3
      · exact h2 r hr
    · rw [show off + k * sz + sz = off + (k + 1) * sz by rw [Nat.add_mul]; omega]; exact h3

mutual
theorem Ty.read : ∀ (y : Ty) (t : TypeId) (cs : List Value) (x : DataW H × List MemPlace) (fuel : Nat), y.ok P t = true → DataW.trod enc P W base spare held fuel t cs = some x → (∀ n ∈ x.1.weights P t, n ≤ reachBytes) →
    ∃ ays, RelAll g0 W ays cs ∧ y.Shape ays ∧ ays.length = y.size ∧ ∀ u ∈ cs, u.oneCell' = true
  | .bool, t, cs, x, fuel, hk, h, hw => by
    unfold Ty.ok at hk
    split at hk
    · rename_i ht
      obtain ⟨b, rfl, _⟩ := DataW.trod_bool ht h
      exact ⟨[.bool b], ⟨_, _, rfl, rfl, rfl⟩, ⟨b, rfl⟩, rfl, by simp [Value.oneCell']⟩
    · cases hk
  | .int k, t, cs, x, fuel, hk, h, hw => by
    unfold Ty.ok at hk
    split at hk
    · rename_i k' ht
      obtain rfl : k' = k := by simpa using hk
      obtain ⟨n, rfl, _, hwf⟩ := DataW.trod_int ht h
      exact ⟨[.int k' n], ⟨_, _, rfl, rfl, rfl⟩, ⟨n, rfl, hwf⟩, rfl, by simp [Value.oneCell']⟩
    · cases hk
  | .str, t, cs, x, fuel, hk, h, hw => by
    unfold Ty.ok at hk
    split at hk
    · rename_i ht
      obtain ⟨s, rfl, rfl, _⟩ := DataW.trod_string ht h
      refine ⟨[.str s], ⟨_, _, rfl, rfl, rfl⟩, ⟨s, rfl, ?_⟩, rfl, by simp [Value.oneCell']⟩
      have := hw s.data.toList.length (by simp [DataW.weights])
      simpa using this
    · cases hk
  | .sl e b, t, cs, x, fuel, hk, h, hw => by
    unfold Ty.ok at hk
    split at hk
    · rename_i u ht
      simp only [Bool.and_eq_true] at hk
      obtain ⟨hc, h0, hb, he⟩ := hk
      have hc : P.cellsOf u = e.size := by simpa using hc
      have h0 : 0 < e.size := by simpa using h0
      have hb : P.bytesOf u = b := by simpa using hb
      rcases DataW.trod_slice ht h with ⟨rfl, _⟩ | ⟨a, len, cap, elems, rest, n, _, rfl, rfl, _, hl, hm, hlen, hel, hsp, hns⟩
      · exact ⟨[.ns true e.size []], ⟨_, _, rfl, .inl ⟨rfl, rfl, rfl⟩, rfl⟩, ⟨true, [], rfl, fun _ => rfl, by simp, by simp, by simp⟩, rfl, by simp [Value.oneCell']⟩
      · have hws : ∀ (i : Nat) (y : DataW H × List MemPlace), elems[i]? = some y → ∀ m ∈ y.1.weights P u, m ≤ reachBytes := by
          intro i y hy m hm'
          refine hw m ?_
          simp only [DataW.weights, ht]
          refine List.mem_cons_of_mem _ (List.mem_append_left _ ?_)
          have : y.1 ∈ elems.map (·.1) := List.mem_map.mpr ⟨y, List.mem_of_getElem? hy, rfl⟩
          clear hw hel hsp hns
          generalize elems.map (·.1) = ds at this
          induction ds with
          | nil => simp at this
          | cons d ds ih =>
            simp only [DataW.weightsAll]
            rcases List.mem_cons.mp this with rfl | h'
            · exact List.mem_append_left _ hm'
            · exact List.mem_append_right _ (ih h')
        have hsize : len * b ≤ reachBytes := by
          have := hw ((elems.map (·.1)).length * P.bytesOf u + (rest.map (·.1)).length * P.bytesOf u) (by
            simp only [DataW.weights, ht]
            rw [← Nat.add_mul]
            exact List.mem_cons_self)
          rw [hb, List.length_map, hlen] at this
          omega
        obtain ⟨bl, off, sp⟩ := a
        have hspot : sp = none ∨ len = 0 := by
          rcases Nat.eq_zero_or_pos len with h1 | h1
          · exact .inr h1
          · have h2 := hel 0 h1
            rw [List.getElem?_eq_getElem (by omega)] at h2
            obtain ⟨ci, k1, k2⟩ := Option.bind_eq_some_iff.mp h2
            obtain ⟨_, k4, k5⟩ := World.cells?_some k1
            have k6 := k5 0 (by omega)
            rw [List.getElem?_eq_getElem (by omega)] at k6
            have := cell_spot k6
            simp [Addr.add] at this
            exact .inl this
        have hrow : ∀ i, i < len → ∃ ays cs, RelAll g0 W ays cs ∧ ays.length = e.size ∧ e.Shape ays ∧ (∀ u ∈ cs, u.oneCell' = true) ∧ ∀ j u, cs[j]? = some u → W.cell? ⟨bl, off + (0 + i) * e.size + j, none⟩ = some u := by
          intro i hi
          have h2 := hel i hi
          rw [List.getElem?_eq_getElem (by omega)] at h2
          obtain ⟨ci, k1, k2⟩ := Option.bind_eq_some_iff.mp h2
          obtain ⟨ays, r1, r2, r3, r4⟩ := Ty.read e u ci _ n he k2 (hws i _ (List.getElem?_eq_getElem (by omega)))
          obtain ⟨_, k4, k5⟩ := World.cells?_some k1
          obtain rfl : sp = none := hspot.resolve_right (by omega)
          refine ⟨ays, ci, r1, r3, r2, r4, fun j v hj => ?_⟩
          have := k5 j (by rw [← k4]; exact getElem?_lt hj)
          rw [hj, hc, add_none, add_none] at this
          rw [Nat.zero_add]; exact this
        obtain ⟨l, l1, l2, l3⟩ := rows_of_reads h0 len 0 hrow
        refine ⟨[.ns false e.size l], ⟨_, _, rfl, .inr ⟨rfl, bl, off, sp, cap, by rw [l1], by omega, ?_, by simpa using l3⟩, rfl⟩, ⟨false, l, rfl, (fun h => by cases h), by rw [l1]; exact hsize, by omega, l2⟩, rfl, by simp [Value.oneCell']⟩
        rcases hspot with h1 | h1
        · exact .inl h1
        · exact .inr (List.eq_nil_of_length_eq_zero (by omega))
    · cases hk
  | .st fs, t, cs, x, fuel, hk, h, hw => by
    unfold Ty.ok at hk
    split at hk
    · rename_i F ht
      simp only [Bool.and_eq_true] at hk
      obtain ⟨hc, hos⟩ := hk
      have hc : P.cellsOf t = Ty.sizes fs := by simpa using hc
      obtain ⟨xs, n, _, rfl, hl, hxl, hel⟩ := DataW.trod_struct ht h
      obtain ⟨ays, r1, r2, r3, r4⟩ := Ty.reads fs F.toList 0 cs n xs hos (fun i f hf => hel i f (by simpa using hf)) (by simpa using hxl) (by omega) (fun m hm => hw m (by simpa [DataW.weights, ht] using hm))
      exact ⟨ays, by simpa using r1, r2, r3, by simpa using r4⟩
    · cases hk
theorem Ty.reads : ∀ (ys : List Ty) (F : List Field) (o : Nat) (cs : List Value) (n : Nat) (xs : List (DataW H × List MemPlace)), Ty.oks P ys F o = true →
    (∀ (i : Nat) f, F[i]? = some f → DataW.trod enc P W base spare held n f.type ((cs.drop f.offset).take (P.cellsOf f.type)) = xs[i]?) → xs.length = F.length → cs.length = o + Ty.sizes ys →
    (∀ m ∈ DataW.weightsEach P (F.map (·.type)) (xs.map (·.1)), m ≤ reachBytes) →
    ∃ ays, RelAll g0 W ays (cs.drop o) ∧ Ty.Shapes ys ays ∧ ays.length = Ty.sizes ys ∧ ∀ u ∈ cs.drop o, u.oneCell' = true
  | [], [], o, cs, n, xs, hk, hel, hxl, hl, hw => by
    have : cs.drop o = [] := List.drop_eq_nil_of_le (by simp [Ty.sizes] at hl; omega)
    exact ⟨[], this, rfl, rfl, by simp [this]⟩
  | [], _ :: _, o, cs, n, xs, hk, hel, hxl, hl, hw => by simp [Ty.oks] at hk
  | _ :: _, [], o, cs, n, xs, hk, hel, hxl, hl, hw => by simp [Ty.oks] at hk
  | y :: ys, f :: F, o, cs, n, [], hk, hel, hxl, hl, hw => by simp at hxl
  | y :: ys, f :: F, o, cs, n, x :: xs, hk, hel, hxl, hl, hw => by
    simp only [Ty.oks, Bool.and_eq_true] at hk
    obtain ⟨h1, h2, h3, h4⟩ := hk
    have h1 : f.offset = o := by simpa using h1
    have h2 : P.cellsOf f.type = y.size := by simpa using h2
    have hx := hel 0 f rfl
    rw [h1, h2] at hx
    obtain ⟨ays, r1, r2, r3, r4⟩ := Ty.read y f.type _ x n h3 hx (fun m hm => hw m (by simp only [List.map_cons, DataW.weightsEach]; exact List.mem_append_left _ hm))
    obtain ⟨bs, s1, s2, s3, s4⟩ := Ty.reads ys F (o + y.size) cs n xs h4 (fun i g hg => by have := hel (i + 1) g (by simpa using hg); simpa using this) (by simpa using hxl) (by rw [hl, Ty.sizes]; omega) (fun m hm => hw m (by simp only [List.map_cons, DataW.weightsEach]; exact List.mem_append_right _ hm))
    have hsplit : cs.drop o = (cs.drop o).take y.size ++ cs.drop (o + y.size) := by
      rw [← List.drop_drop, List.take_append_drop]
    refine ⟨ays ++ bs, by rw [hsplit]; exact RelAll.append _ _ _ _ r1 s1, ⟨ays, bs, rfl, r2, s2⟩, by rw [List.length_append, r3, s3, Ty.sizes], fun u hu => ?_⟩
    rw [hsplit] at hu
    rcases List.mem_append.mp hu with hu | hu
    · exact r4 u hu
    · exact s4 u hu
end

/-- An argument. -/
def Ty.AV' : Ty → List AV → AV
  | .st _, ays => .agg ays
  | _, ays => ays.headD .dead

theorem Ty.arg {y : Ty} {t : TypeId} {v : Value} {d : DataW H} {ps : List MemPlace} {r : Reach} {b0 : Nat} (hk : y.ok P t = true) (hval : Value.okWide P W r b0 t v) (h : DataW.Trod enc P W base spare held t v d ps) (hw : ∀ n ∈ d.weights P t, n ≤ reachBytes) :
    ∃ ays, y.Shape ays ∧ Rel g0 W (y.AV' ays) v := by
  obtain ⟨fuel, hf⟩ := h
  obtain ⟨ays, r1, r2, r3, r4⟩ := Ty.read y t _ _ fuel hk hf hw
  refine ⟨ays, r2, ?_⟩
  cases y with
  | st fs =>
    unfold Ty.ok at hk
    split at hk
    · rename_i F ht
      obtain ⟨cs, rfl, hcs⟩ := okWide_struct ht hval
      exact ⟨cs, rfl, by simpa [Value.cells] using r1, by simpa [Value.cells] using r4⟩
    · cases hk
  | bool =>
    obtain ⟨b, rfl⟩ := r2
    unfold Ty.ok at hk
    split at hk
    · rename_i ht
      obtain ⟨u, rfl⟩ := okWide_bool ht hval
      obtain ⟨w, wr, e, k1, _⟩ := r1
      simp [Value.cells] at e
      rw [← e.1] at k1; exact k1
    · cases hk
  | int k =>
    obtain ⟨b, rfl, _⟩ := r2
    unfold Ty.ok at hk
    split at hk
    · rename_i ht
      obtain ⟨u, rfl⟩ := okWide_int ht hval
      obtain ⟨w, wr, e, k1, _⟩ := r1
      simp [Value.cells] at e
      rw [← e.1] at k1; exact k1
    · cases hk
  | str =>
    obtain ⟨b, rfl, _⟩ := r2
    unfold Ty.ok at hk
    split at hk
    · rename_i ht
      obtain ⟨u, rfl⟩ := okWide_string ht hval
      obtain ⟨w, wr, e, k1, _⟩ := r1
      simp [Value.cells] at e
      rw [← e.1] at k1; exact k1
    · cases hk
  | sl e b =>
    unfold Ty.ok at hk
    split at hk
    · rename_i u ht
      obtain ⟨a, n, c, rfl⟩ := okWide_slice ht hval
      obtain ⟨z, l, rfl, _⟩ := r2
      obtain ⟨w, wr, e', k1, _⟩ := r1
      simp [Value.cells] at e'
      rw [← e'.1] at k1; exact k1
    · cases hk
end
end Go.V

/- A law's arguments: bounds of numbers, bytes. -/
set_option linter.unusedVariables false
namespace Go.V
open Go.WideShapes

theorem wf_i64 {n : Int} (h : (Lit.int .i64 n).wf = true) : -9223372036854775808 ≤ n ∧ n ≤ 9223372036854775807 := by
  have h2 : (decide (IntKind.i64.min ≤ n) && decide (n ≤ IntKind.i64.max)) = true := h
  rw [Bool.and_eq_true, decide_eq_true_eq, decide_eq_true_eq] at h2
  exact h2
theorem wf_u8 {n : Int} (h : (Lit.int .u8 n).wf = true) : 0 ≤ n ∧ n < 256 := by
  have h2 : (decide (IntKind.u8.min ≤ n) && decide (n ≤ IntKind.u8.max)) = true := h
  rw [Bool.and_eq_true, decide_eq_true_eq, decide_eq_true_eq] at h2
  have h3 : 0 ≤ n ∧ n ≤ 255 := h2
  omega
/-- A law's bytes. -/
theorem bytes_shape {xs : List AV} (h : Ty.Shape (.sl (.int .u8) 1) xs) : ∃ z d, xs = [.ns z 1 d] ∧ okR d = true ∧ (z = true → d = []) ∧ d.length < 4611686018427387904 := by
  obtain ⟨z, l, rfl, hz, h1, h2, h3⟩ := h
  refine ⟨z, l, rfl, List.all_eq_true.mpr fun r hr => ?_, hz, ?_⟩
  · obtain ⟨n, rfl, hn⟩ := h3 r hr
    have := wf_u8 hn
    show (decide (0 ≤ n) && decide (n < 256)) = true
    simp [this]
  · rw [Nat.mul_one] at h1
    have : reachBytes < 4611686018427387904 := by decide
    omega
end Go.V

/- Maps. -/
set_option linter.unusedVariables false
set_option linter.unusedSimpArgs false
namespace Go.V

/-- The same key. -/
def eqK : AV → AV → Bool
  | .int _ a, .int _ b => a == b
  | .str a, .str b => a == b
  | .bool a, .bool b => a == b
  | _, _ => false
def findK : List (AV × AV) → AV → Option AV
  | [], _ => none
  | e :: es, k => match eqK k e.1 with
    | true => some e.2
    | false => findK es k
def putK : List (AV × AV) → AV → AV → List (AV × AV)
  | [], k, v => [(k, v)]
  | e :: es, k, v => match eqK k e.1 with
    | true => (k, v) :: es
    | false => e :: putK es k v
def hasK (es : List (AV × AV)) (k : AV) : Bool := (findK es k).isSome
def valK (es : List (AV × AV)) (k : AV) : AV := (findK es k).getD .dead
/-- A key's kind. -/
def keyT (t : LT) : Bool :=
  match t with
  | .int _ => true
  | .str => true
  | _ => false
def keyIs (t : LT) (k : AV) : Bool :=
  match t with
  | .int K => match k with
    | .int k _ => decide (k = K)
    | _ => false
  | .str => match k with
    | .str _ => true
    | _ => false
  | _ => false
def keysOk (t : LT) (es : List (AV × AV)) : Bool := es.all fun e => keyIs t e.1
/-- A map type's keys. -/
def keyD (t : LT) (d : TypeDesc) : Bool :=
  match t with
  | .int K => match d with
    | .int k => decide (k = K)
    | _ => false
  | .str => match d with
    | .string => true
    | _ => false
  | _ => false

theorem key_rel {t : LT} {d : TypeDesc} (ht : keyD t d = true) {g : Gh} {w : World} {k : AV} {v : Value} (hk : keyIs t k = true) (h : Rel g w k v) : MapKept.IsKey d v := by
  cases t with
  | int K =>
    simp only [keyD] at ht
    simp only [keyIs] at hk
    split at ht
    · simp only [decide_eq_true_eq] at ht
      split at hk
      · simp only [decide_eq_true_eq] at hk
        obtain rfl : v = _ := h
        subst ht; subst hk; rfl
      · cases hk
    · cases ht
  | str =>
    simp only [keyD] at ht
    simp only [keyIs] at hk
    split at ht
    · split at hk
      · obtain rfl : v = _ := h; trivial
      · cases hk
    · cases ht
  | _ => cases ht
theorem key_eq {t : LT} {g : Gh} {w : World} {k k' : AV} {v v' : Value} (hk : keyIs t k = true) (hk' : keyIs t k' = true) (h : Rel g w k v) (h' : Rel g w k' v') : (eqK k k' = true ↔ v = v') := by
  cases t with
  | int K =>
    simp only [keyIs] at hk hk'
    split at hk
    · split at hk'
      · simp only [decide_eq_true_eq] at hk hk'
        obtain rfl : v = _ := h
        obtain rfl : v' = _ := h'
        subst hk; subst hk'
        simp only [eqK, Value.int.injEq, true_and, beq_iff_eq]
      · cases hk'
    · cases hk
  | str =>
    simp only [keyIs] at hk hk'
    split at hk
    · split at hk'
      · obtain rfl : v = _ := h
        obtain rfl : v' = _ := h'
        simp only [eqK, Value.string.injEq, MapKept.bytes_beq]
      · cases hk'
    · cases hk
  | _ => cases hk

/-- What is found, and what is put. -/
theorem find_rel {t : LT} {d : TypeDesc} (ht : keyD t d = true) {g : Gh} {w : World} {k : AV} {kv : Value} (hk : keyIs t k = true) (hr : Rel g w k kv) : ∀ (es : List (AV × AV)) (L : List MapEntry) (i : Nat), keysOk t es = true → RelAll g w (es.map (·.1)) (L.map (·.key)) → RelAll g w (es.map (·.2)) (L.map (·.val)) →
    (findK es k = none ∧ Instr.findNow d kv L i = some none ∧ ∀ x, putK es k x = es ++ [(k, x)]) ∨
    (∃ a v j e, findK es k = some a ∧ Instr.findNow d kv L i = some (some (i + j, v)) ∧ Rel g w a v ∧ L[j]? = some e ∧ e.key = kv ∧ j < es.length ∧ ∀ x, putK es k x = es.set j (k, x))
  | [], [], i, _, _, _ => .inl ⟨rfl, rfl, fun _ => rfl⟩
  | [], e :: L, i, _, h, _ => by cases h
  | e :: es, [], i, _, h, _ => by obtain ⟨_, _, h, _⟩ := h; cases h
  | e :: es, m :: L, i, hok, h1, h2 => by
    obtain ⟨v1, r1, e1, k1, k2⟩ := h1
    obtain ⟨v2, r2, e2, k3, k4⟩ := h2
    cases e1; cases e2
    simp only [keysOk, List.all_cons, Bool.and_eq_true] at hok
    have hkey := key_rel ht hk hr
    have hkey' := key_rel ht hok.1 k1
    have heq := key_eq hk hok.1 hr k1
    obtain ⟨r, hs, hiff⟩ := MapKept.sameNow_of_keys hkey hkey'
    simp only [findK, Instr.findNow]
    rw [hs]
    by_cases hv : kv = m.key
    · rw [hiff.mpr hv, heq.mpr hv]
      exact .inr ⟨e.2, m.val, 0, m, rfl, rfl, k3, rfl, hv.symm, by simp, fun x => by simp only [putK, heq.mpr hv]; rfl⟩
    · have hno : eqK k e.1 = false := by
        cases he : eqK k e.1 with
        | false => rfl
        | true => exact absurd (heq.mp he) hv
      rw [show r = false by cases r with | false => rfl | true => exact absurd (hiff.mp rfl) hv, hno]
      simp only
      rcases find_rel ht hk hr es L (i + 1) hok.2 k2 k4 with ⟨a1, a2, a3⟩ | ⟨a, v, j, e', a1, a2, a3, a4, a5, a6, a7⟩
      · exact .inl ⟨a1, a2, fun x => by simp only [putK, hno, a3]; rfl⟩
      · exact .inr ⟨a, v, j + 1, e', a1, by simp only [a2]; rw [Nat.add_right_comm, Nat.add_assoc], a3, a4, a5, by simp; omega, fun x => by simp only [putK, hno, a7]; rfl⟩

/-- What is looked up: one cell of a kind, or several cells. -/
inductive LK where
  | one (t : LT)
  | agg (sz : Nat)
  /-- a slice that never changes, maybe nil -/
  | sl (sz : Nat)
def isAgg (n : Nat) (v : AV) : Bool :=
  match v with
  | .agg cs => Nat.beq cs.length n
  | _ => false
def aggL (v : AV) : List AV :=
  match v with
  | .agg cs => cs
  | _ => []
def LK.is (l : LK) (v : AV) : Bool :=
  match l with
  | .one t => flatT t && isLT t [v]
  | .agg n => isAgg n v
  | .sl n => isLT (.ns n) [v]
def LK.val (l : LK) (v : AV) : AV :=
  match l with
  | .one t => valLT t [v]
  | .agg _ => .agg (aggL v)
  | .sl n => valLT (.ns n) [v]
theorem LK.val_rel {l : LK} {v : AV} (h : l.is v = true) {g : Gh} {w : World} {u : Value} (hr : Rel g w v u) : Rel g w (l.val v) u := by
  cases l with
  | one t =>
    simp only [LK.is, Bool.and_eq_true] at h
    obtain ⟨r, hr'⟩ := isLT_eq h.1 h.2
    simp only [List.cons.injEq] at hr'
    show Rel g w (valLT t [v]) u
    rw [← hr'.1]; exact hr
  | agg n =>
    simp only [LK.is, isAgg] at h
    split at h
    · exact hr
    · cases h
  | sl n =>
    obtain ⟨x, r, h1, h2⟩ := isLT_spec (t := .ns n) h
    simp only [List.cons.injEq] at h1
    show Rel g w (valLT (.ns n) [v]) u
    rw [h2, ← h1.1]; exact wk_rel hr
def okRes (b : Bool) (ok : Bool) (v : AV) : AV :=
  match b with
  | true => .tup [v, .bool ok]
  | false => v
def alookup (t : LT) (l : LK) (z : AV) (co : Bool) (m key : AV) (st : St) (k : AV → Ans) : Ans :=
  match m with
  | .mp j => match st.objs[j]? with
    | some (.map es) => match keyIs t key && keysOk t es with
      | true => match hasK es key with
        | true => match l.is (valK es key) with
          | true => k (okRes co true (l.val (valK es key)))
          | false => none
        | false => k (okRes co false z)
      | false => none
    | _ => none
  | _ => none
def aupd (t : LT) (m key x : AV) (st : St) (k : AV → St → Ans) : Ans :=
  match m with
  | .mp j => match st.objs[j]? with
    | some (.map es) => match keyIs t key && keysOk t es with
      | true => k .dead ⟨st.objs.set j (.map (putK es key x)), st.tk⟩
      | false => none
    | _ => none
  | _ => none
def aclear (m : AV) (st : St) (k : AV → St → Ans) : Ans :=
  match m with
  | .mp j => match st.objs[j]? with
    | some (.map es) => k (.tup []) ⟨st.objs.set j (.map []), st.tk⟩
    | _ => none
  | _ => none

section
variable {P : Program}
def opMakeMap (dst : Option Tmp) (T : TypeId) (ty : TypeId) (pos : String) (after : Array Edge) : MSim P :=
  MSim.makes (mkOp dst (.makeMap T none) ty pos after) rfl [] (fun ev st k => k (.mp st.objs.length) ⟨st.objs ++ [.map []], st.tk⟩) (fun ev ev' st k h => rfl) fun ev st k fin h g w a he hs => by
    have hp := Push.alloc w (.map #[] 0)
    refine ⟨_, .map (some w.heap.size), _, _, w.alloc (.map #[] 0), h, ?_, ?_, hs.pushObj hp (.map []) trivial (fun hE => ⟨by simp [Gh.use], #[], 0, hp.new, rfl, rfl⟩), Ev.push hp _ _ _ (tk_refl _)⟩
    · rfl
    · refine ⟨w.heap.size, ?_, rfl⟩
      show (g.objs ++ [w.heap.size])[st.objs.length]? = some w.heap.size
      rw [List.getElem?_append_right (by rw [hs.len]; exact Nat.le_refl _)]; simp [hs.len]

def opLookup (t : LT) (l : LK) (dst : Option Tmp) (T : TypeId) (x i : Operand) (co : Bool) (K E : TypeId) (dk : TypeDesc) (hT : P.underlying T = some (.map K E)) (hK : P.underlying K = some dk) (ht : keyD t dk = true) (z : Value) (hz : (P.info? E).bind (·.zero) = some z) (ty : TypeId) (pos : String) (after : Array Edge) : QSim P :=
  QSim.quiet (mkOp dst (.lookup T x i co) ty pos after) rfl [x, i] (fun ev st k => alookup t l (ofLit z) co (ev x) (ev i) st k) (fun ev ev' st k h => by simp only [h x (by simp), h i (by simp)]) fun ev st k fin h g w a he hs => by
    have hv := he x (by simp)
    have hi := he i (by simp)
    unfold alookup at h
    split at h
    · rename_i j hb
      rw [hb] at hv
      obtain ⟨b, hg, hv⟩ := hv
      split at h
      · rename_i es hes
        split at h
        · rename_i hk
          rw [Bool.and_eq_true] at hk
          obtain ⟨_, M, clock, hM, h1, h2⟩ := ob_of hs hg hes
          have hkey := key_rel ht hk.1 hi
          have hrun : ∀ r, Instr.findNow dk (a.eval i) M.toList 0 = some r → (execOp a.eval (mkOp dst (.lookup T x i co) ty pos after)).run P w = .ok (.value (if co then .tuple #[match r with | some (_, v) => v | none => z, .bool r.isSome] else match r with | some (_, v) => v | none => z)) w := by
            intro r hr
            have hc := MapKept.run_checkKey (w := w) hK hkey M.isEmpty 9999
            cases r with
            | none => simp [execOp, mkOp, hv, Instr.lookup, run_underlying hT, MapKept.run_getObj_map hM, hc, MapKept.run_findKey hK hr, run_zeroValue' hz, Result.andThen]
            | some r => simp [execOp, mkOp, hv, Instr.lookup, run_underlying hT, MapKept.run_getObj_map hM, hc, MapKept.run_findKey hK hr, Result.andThen]
          rcases find_rel ht hk.1 hi es M.toList 0 hk.2 h1 h2 with ⟨a1, a2, a3⟩ | ⟨u, v, jj, e, a1, a2, a3, a4, a5, a6, a7⟩
          · have : hasK es (ev i) = false := by rw [hasK, a1]; rfl
            rw [this] at h
            refine ⟨_, _, h, hrun _ a2, ?_⟩
            cases co with
            | true => exact ⟨#[z, .bool false], rfl, z, _, rfl, ofLit_rel g w z, .bool false, [], rfl, rfl, rfl⟩
            | false => exact ofLit_rel g w z
          · have : hasK es (ev i) = true := by rw [hasK, a1]; rfl
            rw [this] at h
            have hval : valK es (ev i) = u := by rw [valK, a1]; rfl
            rw [hval] at h
            simp only at h
            split at h
            · rename_i hl
              refine ⟨_, _, h, hrun _ a2, ?_⟩
              cases co with
              | true => exact ⟨#[v, .bool true], rfl, v, _, rfl, LK.val_rel hl a3, .bool true, [], rfl, rfl, rfl⟩
              | false => exact LK.val_rel hl a3
            · cases h
        · cases h
      · cases h
    · cases h
theorem alookup_nat (t : LT) (l : LK) (z : AV) (co : Bool) (m key : AV) (st : St) (k : AV → Ans) : alookup t l z co m key st k = thenA (alookup t l z co m key st retA) k := by
  unfold alookup
  split
  · split
    · split
      · split
        · split <;> rfl
        · rfl
      · rfl
    · rfl
  · rfl
theorem opLookup_nat {t : LT} {l : LK} {dst : Option Tmp} {T : TypeId} {x i : Operand} {co : Bool} {K E : TypeId} {dk : TypeDesc} {hT : P.underlying T = some (.map K E)} {hK : P.underlying K = some dk} {ht : keyD t dk = true} {z : Value} {hz : (P.info? E).bind (·.zero) = some z} {ty : TypeId} {pos : String} {after : Array Edge} : (opLookup (P := P) t l dst T x i co K E dk hT hK ht z hz ty pos after).Nat := fun ev st k => alookup_nat _ _ _ _ _ _ _ _

/-- A map's block is written; what it has from now on. -/
theorem write_map {g : Gh} {st : St} {w : World} (hs : StRel g st w) {j b : Nat} (hg : g.objs[j]? = some b) {es es' : List (AV × AV)} (hes : st.objs[j]? = some (.map es)) {M M' : Array MapEntry} {c c' : Nat} (hM : w.heap[b]? = some (.map M c))
    (h1 : RelAll g w (es'.map (·.1)) (M'.toList.map (·.key))) (h2 : RelAll g w (es'.map (·.2)) (M'.toList.map (·.val))) :
    ∃ w', (setObj b (.map M' c')).run P w = .ok () w' ∧ StRel g ⟨st.objs.set j (.map es'), st.tk⟩ w' ∧ Ev g w g w' := by
  obtain ⟨hkind, _⟩ := ob_of hs hg hes
  have hlt := lt_of_block hM
  have hrun := MapKept.run_setObj_map (P := P) (.map M' c') hM
  obtain ⟨hnew, hold⟩ := MapKept.heap_set (o' := .map M' c') hM
  have hne : ∀ x, g.kind x ≠ .obj j → x ≠ b := fun x hx e => hx (by rw [e]; exact hkind)
  have hE : Ev g w g { w with heap := w.heap.setIfInBounds b (.map M' c') } := by
    refine ⟨rfl, rfl, rfl, by simp, fun x hx hk => ⟨rfl, ?_⟩, fun x t hx hk => ⟨hk, fun C' E' fz hC' => ⟨C', ?_, rfl, fun _ _ => rfl⟩⟩, fun x k hx hk => .inl hk, fun _ _ h => h, tk_refl _, fun _ _ => Nat.le_refl _, fun x k hx _ hk _ => ⟨hk, fun C' E' fz hC' => ⟨C', ?_, rfl⟩⟩, fun x C' E' fz hC' => ⟨C', fz, ?_, rfl⟩⟩
    · refine hold x (hne x ?_)
      intro e; rw [e] at hk; cases hk
    · rw [← hC']; exact hold x (hne x (by rw [hk]; intro e; cases e))
    · rw [← hC']; exact hold x (hne x (by rw [hk]; intro e; cases e))
    · rw [← hC']; exact hold x (fun e => by rw [e, hM] at hC'; cases hC')
  refine ⟨_, hrun, ⟨hs.tk, by simp [hs.len], fun k b' y hk hy => ?_, fun b' k hb' hk => ?_, fun b' t hb' hk => hs.rowlt b' t (by simpa using hb') hk, fun b' k hb' hk => ?_⟩, hE⟩
  · by_cases hkj : k = j
    · subst hkj
      rw [hg] at hk
      cases hk
      rw [List.getElem?_set_self (getElem?_lt hes)] at hy
      cases hy
      exact ⟨by simpa using hlt, hkind, M', c', hnew, RelAll.mono hE _ _ h1, RelAll.mono hE _ _ h2⟩
    · rw [List.getElem?_set_ne (fun e => hkj e.symm)] at hy
      obtain ⟨h2, h3⟩ := hs.obj k b' y hk hy
      refine ⟨by simpa using h2, ?_⟩
      have hvk : ∀ b'', b'' < w.heap.size → g.kind b'' = .vec k → (w.heap.setIfInBounds b (.map M' c'))[b'']? = w.heap[b'']? ∧ g.kind b'' = .vec k := fun b'' _ h5 =>
        ⟨hold b'' (hne b'' (by rw [h5]; intro e; cases e)), h5⟩
      by_cases hbb : b' = b
      · subst hbb
        cases y with
        | gone => trivial
        | nov v => exact h3
        | cells cs' => have := h3.1; rw [hkind] at this; cases this; exact absurd rfl hkj
        | map es => have := h3.1; rw [hkind] at this; cases this; exact absurd rfl hkj
        | vec v cs' =>
          obtain ⟨e1, b'', e2, e3, C', E', e4, e5, e6⟩ := h3
          exact ⟨e1, b'', by simpa using e2, e3, C', E', (hvk b'' e2 e3).1.trans e4, RelAll.mono hE _ _ e5, e6⟩
      · exact h3.keep hE (hold _ hbb) rfl hvk rfl
  · obtain ⟨y, h2, h3, h4⟩ := hs.back b' k (by simpa using hb') hk
    by_cases hkj : k = j
    · subst hkj
      exact ⟨_, List.getElem?_set_self (getElem?_lt hes), h3, trivial⟩
    · exact ⟨y, by rw [List.getElem?_set_ne (fun e => hkj e.symm)]; exact h2, h3, h4⟩
  · obtain ⟨⟨v, cs', h2⟩, h3⟩ := hs.vec b' k (by simpa using hb') hk
    refine ⟨⟨v, cs', ?_⟩, fun b'' hb'' h5 => h3 b'' (by simpa using hb'') h5⟩
    have hkj : k ≠ j := by intro e; subst e; rw [hes] at h2; cases h2
    rw [List.getElem?_set_ne (fun e => hkj e.symm)]; exact h2

theorem RelAll.set {g : Gh} {w : World} : ∀ {cs : List AV} {vs : List Value} (j : Nat) {c : AV} {v : Value}, RelAll g w cs vs → Rel g w c v → RelAll g w (cs.set j c) (vs.set j v)
  | [], _, _, _, _, h, _ => by obtain rfl := h; exact rfl
  | x :: cs, _, 0, _, _, ⟨u, r, e, h1, h2⟩, hc => by subst e; exact ⟨_, _, rfl, hc, h2⟩
  | x :: cs, _, j + 1, _, _, ⟨u, r, e, h1, h2⟩, hc => by subst e; exact ⟨_, _, rfl, h1, RelAll.set j h2 hc⟩

def opMapUpdate (t : LT) (dst : Option Tmp) (T : TypeId) (x i y : Operand) (K E : TypeId) (dk : TypeDesc) (hT : P.underlying T = some (.map K E)) (hK : P.underlying K = some dk) (ht : keyD t dk = true) (ty : TypeId) (pos : String) (after : Array Edge) : MSim P :=
  MSim.does (mkOp dst (.mapUpdate T x i y) ty pos after) rfl [x, i, y] (fun ev st k => aupd t (ev x) (ev i) (ev y) st k) (fun ev ev' st k h => by simp only [h x (by simp), h i (by simp), h y (by simp)]) fun ev st k fin h g w a he hs => by
    have hv := he x (by simp)
    have hi := he i (by simp)
    have hy := he y (by simp)
    unfold aupd at h
    split at h
    · rename_i j hb
      rw [hb] at hv
      obtain ⟨b, hg, hv⟩ := hv
      split at h
      · rename_i es hes
        split at h
        · rename_i hk
          rw [Bool.and_eq_true] at hk
          obtain ⟨_, M, clock, hM, h1, h2⟩ := ob_of hs hg hes
          have hkey := key_rel ht hk.1 hi
          have hc := MapKept.run_checkKey (w := w) hK hkey false 9999
          rcases find_rel ht hk.1 hi es M.toList 0 hk.2 h1 h2 with ⟨a1, a2, a3⟩ | ⟨u, v, jj, e, a1, a2, a3, a4, a5, a6, a7⟩
          · rw [a3] at h
            obtain ⟨w', k1, k2, k3⟩ := write_map (P := P) (es' := es ++ [(ev i, ev y)]) (M' := M.push { key := a.eval i, val := a.eval y, born := clock }) (c' := clock + 1) hs hg hes hM (by simp only [List.map_append, Array.toList_push]; exact RelAll.append _ _ _ _ h1 ⟨_, _, rfl, hi, rfl⟩) (by simp only [List.map_append, Array.toList_push]; exact RelAll.append _ _ _ _ h2 ⟨_, _, rfl, hy, rfl⟩)
            refine ⟨_, g, w', h, ?_, k2, k3⟩
            simp [execOp, mkOp, hv, Instr.mapUpdate, run_underlying hT, MapKept.run_getObj_map hM, hc, MapKept.run_findKey hK a2, Result.andThen, k1]
          · rw [a7] at h
            rw [Nat.zero_add] at a2
            have hj : M[jj]? = some e := by rw [← Array.getElem?_toList]; exact a4
            have hm : (M.modify jj fun e => { e with key := a.eval i, val := a.eval y }).toList = M.toList.set jj { e with key := a.eval i, val := a.eval y } := by
              rw [Array.toList_modify]
              apply List.ext_getElem?
              intro n
              rw [List.getElem?_modify, List.getElem?_set]
              by_cases hn : jj = n
              · subst hn
                have := getElem?_lt a4
                simp only [if_true, a4, if_pos this]
                rfl
              · simp only [if_neg hn]
                cases M.toList[n]? <;> rfl
            obtain ⟨w', k1, k2, k3⟩ := write_map (P := P) (es' := es.set jj (ev i, ev y)) (M' := M.modify jj fun e => { e with key := a.eval i, val := a.eval y }) (c' := clock) hs hg hes hM (by rw [hm, List.map_set, List.map_set]; exact RelAll.set jj h1 hi) (by rw [hm, List.map_set, List.map_set]; exact RelAll.set jj h2 hy)
            refine ⟨_, g, w', h, ?_, k2, k3⟩
            simp [execOp, mkOp, hv, Instr.mapUpdate, run_underlying hT, MapKept.run_getObj_map hM, hc, MapKept.run_findKey hK a2, Result.andThen, hj, a5, MapKept.run_keyThatStays hkey, k1]
        · cases h
      · cases h
    · cases h
theorem aupd_nat (t : LT) (m key x : AV) (st : St) (k : AV → St → Ans) : aupd t m key x st k = thenM (aupd t m key x st retM) k := by
  unfold aupd
  split
  · split
    · split <;> rfl
    · rfl
  · rfl
theorem opMapUpdate_nat {t : LT} {dst : Option Tmp} {T : TypeId} {x i y : Operand} {K E : TypeId} {dk : TypeDesc} {hT : P.underlying T = some (.map K E)} {hK : P.underlying K = some dk} {ht : keyD t dk = true} {ty : TypeId} {pos : String} {after : Array Edge} : (opMapUpdate (P := P) t dst T x i y K E dk hT hK ht ty pos after).NatM := fun ev st k => aupd_nat _ _ _ _ _ _

def opClearMap (dst : Option Tmp) (x : Operand) (T K E : TypeId) (hT : P.underlying T = some (.map K E)) (ty : TypeId) (pos : String) (after : Array Edge) : MSim P :=
  MSim.makes (mkOp dst (.call { callee := .builtin .clear, args := #[x], argTypes := #[T] }) ty pos after) rfl [x] (fun ev st k => aclear (ev x) st k) (fun ev ev' st k h => by simp only [h x (by simp)]) fun ev st k fin h g w a he hs => by
    have hv := he x (by simp)
    rw [callBuiltin]
    unfold aclear at h
    split at h
    · rename_i j hb
      rw [hb] at hv
      obtain ⟨b, hg, hv⟩ := hv
      split at h
      · rename_i es hes
        obtain ⟨_, M, clock, hM, h1, h2⟩ := ob_of hs hg hes
        obtain ⟨w', k1, k2, k3⟩ := write_map (P := P) (es' := []) (M' := #[]) (c' := clock) hs hg hes hM rfl rfl
        refine ⟨_, .tuple #[], _, g, w', h, ?_, ⟨#[], rfl, rfl⟩, k2, k3⟩
        simp [builtin, Builtin.clear_, hv, run_underlying hT, MapKept.run_getObj_map hM, k1]
      · cases h
    · cases h
end
end Go.V

/- Callees shown with the objects alone that they are handed: what they come to wherever these lie. -/
set_option linter.unusedVariables false
set_option linter.unusedSimpArgs false
namespace Go.V
section
variable {P : Program}

mutual
/-- Objects have other numbers. -/
def ren (ρ : Nat → Nat) : AV → AV
  | .ptr k off => .ptr (ρ k) off
  | .tp k E m' => .tp (ρ k) E m'
  | .ms k sz off n cap => .ms (ρ k) sz off n cap
  | .mp k => .mp (ρ k)
  | .vs k v sz n => .vs (ρ k) v sz n
  | .vp k v off => .vp (ρ k) v off
  | .fn f a c => .fn f (renL ρ a) (renL ρ c)
  | .ifc t v => .ifc t (ren ρ v)
  | .agg cs => .agg (renL ρ cs)
  | .tup cs => .tup (renL ρ cs)
  | x => x
def renL (ρ : Nat → Nat) : List AV → List AV
  | [] => []
  | x :: l => ren ρ x :: renL ρ l
end
def renO (ρ : Nat → Nat) : Ob → Ob
  | .cells cs => .cells (renL ρ cs)
  | .map es => .map (es.map fun e => (ren ρ e.1, ren ρ e.2))
  | .vec v cs => .vec v (renL ρ cs)
  | o => o
theorem renL_eq (ρ : Nat → Nat) : ∀ l, renL ρ l = l.map (ren ρ)
  | [] => rfl
  | x :: l => by rw [renL, renL_eq ρ l]; rfl
theorem renL_length (ρ : Nat → Nat) (l : List AV) : (renL ρ l).length = l.length := by rw [renL_eq, List.length_map]
mutual
/-- Its objects are among the first; what never changes leads to none. -/
def Near (n : Nat) : AV → Prop
  | .ptr k _ => k < n
  | .tp k _ _ => k < n
  | .ms k _ _ _ _ => k < n
  | .mp k => k < n
  | .vs k _ _ _ => k < n
  | .vp k _ _ => k < n
  | .fn _ a c => NearL n a ∧ NearL n c
  | .ifc _ v => Near n v
  | .agg cs => NearL n cs
  | .tup cs => NearL n cs
  | .eptr cs => ScopedL 0 0 cs
  | .sl _ _ l => ScopedR 0 0 l
  | .ns _ _ l => ScopedR 0 0 l
  | .lg _ _ _ => False
  | _ => True
def NearL (n : Nat) : List AV → Prop
  | [] => True
  | x :: l => Near n x ∧ NearL n l
end
def NearO (n : Nat) : Ob → Prop
  | .cells cs => NearL n cs
  | .map es => NearL n (es.map (·.1)) ∧ NearL n (es.map (·.2))
  | .vec _ cs => NearL n cs
  | _ => True

/-- Where the first n stand. -/
structure Inv (ρ : Nat → Nat) (n : Nat) (inv : Nat → Option Nat) : Prop where
  to : ∀ i, i < n → inv (ρ i) = some i
  of : ∀ k i, inv k = some i → i < n ∧ ρ i = k
theorem Inv.none {ρ : Nat → Nat} {n : Nat} {inv : Nat → Option Nat} (h : Inv ρ n inv) {i k : Nat} (hi : i < n) (hk : inv k = .none) : ρ i ≠ k := fun e => by rw [← e, h.to i hi] at hk; cases hk
theorem Inv.inj {ρ : Nat → Nat} {n : Nat} {inv : Nat → Option Nat} (h : Inv ρ n inv) {i j : Nat} (hi : i < n) (hj : j < n) (e : ρ i = ρ j) : i = j := by
  have h1 := h.to i hi
  rw [e, h.to j hj] at h1
  cases h1; rfl

def nearK (g : Gh) (inv : Nat → Option Nat) (b : Nat) : BK :=
  match g.kind b with
  | .obj k => match inv k with
    | some i => .obj i
    | none => .part fun _ => False
  | .vec k => match inv k with
    | some i => .vec i
    | none => .part fun _ => False
  | _ => .part fun off => g.prot b off
/-- The picture of a callee that knows of these objects alone. -/
def Gh.near (g : Gh) (size n : Nat) (ρ : Nat → Nat) (inv : Nat → Option Nat) : Gh :=
  ⟨fun b => if b < size then nearK g inv b else .solid, (List.range n).map fun i => g.objs.getD (ρ i) 0, [], fun i => g.ver (ρ i)⟩

theorem near_objs {g : Gh} {size n : Nat} {ρ : Nat → Nat} {inv : Nat → Option Nat} {i : Nat} (hi : i < n) (hl : ρ i < g.objs.length) : (g.near size n ρ inv).objs[i]? = g.objs[ρ i]? := by
  simp only [Gh.near, List.getElem?_map, List.getElem?_range hi, Option.map_some, List.getD_eq_getElem?_getD, List.getElem?_eq_getElem hl, Option.getD_some]
theorem near_len {g : Gh} {size n : Nat} {ρ : Nat → Nat} {inv : Nat → Option Nat} : (g.near size n ρ inv).objs.length = n := by simp [Gh.near]
theorem near_kind {g : Gh} {size n : Nat} {ρ : Nat → Nat} {inv : Nat → Option Nat} {b : Nat} (hb : b < size) : (g.near size n ρ inv).kind b = nearK g inv b := by
  simp only [Gh.near]; rw [if_pos hb]
theorem nearK_obj {g : Gh} {inv : Nat → Option Nat} {b k i : Nat} (h : g.kind b = .obj k) (hi : inv k = some i) : nearK g inv b = .obj i := by
  simp only [nearK, h, hi]
theorem nearK_vec {g : Gh} {inv : Nat → Option Nat} {b k i : Nat} (h : g.kind b = .vec k) (hi : inv k = some i) : nearK g inv b = .vec i := by
  simp only [nearK, h, hi]
theorem nearK_obj' {g : Gh} {inv : Nat → Option Nat} {b i : Nat} (h : nearK g inv b = .obj i) : ∃ k, g.kind b = .obj k ∧ inv k = some i := by
  unfold nearK at h
  split at h
  · split at h
    · rename_i hk _ _ hi; cases h; exact ⟨_, hk, hi⟩
    · cases h
  · split at h <;> cases h
  · cases h
theorem nearK_vec' {g : Gh} {inv : Nat → Option Nat} {b i : Nat} (h : nearK g inv b = .vec i) : ∃ k, g.kind b = .vec k ∧ inv k = some i := by
  unfold nearK at h
  split at h
  · split at h <;> cases h
  · split at h
    · rename_i hk _ _ hi; cases h; exact ⟨_, hk, hi⟩
    · cases h
  · cases h
theorem nearK_row {g : Gh} {inv : Nat → Option Nat} {b t : Nat} (h : nearK g inv b = .row t) : False := by
  unfold nearK at h
  split at h
  · split at h <;> cases h
  · split at h <;> cases h
  · cases h
theorem near_prot {g : Gh} {size n : Nat} {ρ : Nat → Nat} {inv : Nat → Option Nat} {b off : Nat} (hb : b < size) (hp : g.prot b off) : (g.near size n ρ inv).prot b off := by
  have hp0 := hp
  unfold Gh.prot
  rw [near_kind hb, nearK]
  unfold Gh.prot at hp
  cases hk : g.kind b with
  | obj k => rw [hk] at hp; exact hp.elim
  | vec k => rw [hk] at hp; exact hp.elim
  | solid => exact hp0
  | part S => exact hp0
  | row t => exact hp0
theorem near_protC {g : Gh} {n : Nat} {ρ : Nat → Nat} {inv : Nat → Option Nat} {w : World} (b off : Nat) (u : Value) (hc : w.cell? ⟨b, off, none⟩ = some u) (hp : g.prot b off) : (g.near w.heap.size n ρ inv).prot b off := by
  obtain ⟨C, E, fz, hb, _⟩ := cell_some hc
  exact near_prot (lt_of_block hb) hp

mutual
theorem Rel.near {g : Gh} {w : World} {n : Nat} {ρ : Nat → Nat} {inv : Nat → Option Nat} (hI : Inv ρ n inv) (hl : ∀ i, i < n → ρ i < g.objs.length) : ∀ (a : AV) (v : Value), Near n a → Rel g w (ren ρ a) v → Rel (g.near w.heap.size n ρ inv) w a v
  | .bool _, _, _, r => r
  | .int _ _, _, _, r => r
  | .str _, _, _, r => r
  | .nilptr, _, _, r => r
  | .nilsl, _, _, r => r
  | .nilmap, _, _, r => r
  | .nilfn, _, _, r => r
  | .nilif, _, _, r => r
  | .ptr k off, _, s, ⟨b, r1, r2⟩ => ⟨b, (near_objs s (hl k s)).trans r1, r2⟩
  | .tp k E m', _, s, ⟨b, r1, r2⟩ => ⟨b, (near_objs s (hl k s)).trans r1, r2⟩
  | .eptr cs, _, s, ⟨b, off, r1, r2⟩ => ⟨b, off, r1, RelCells.toProt near_protC cs b off s r2⟩
  | .sl sz full l, _, s, ⟨b, off, sp, cap, r1, r2, r3, rs, r4⟩ => ⟨b, off, sp, cap, r1, r2, r3, rs, RelRows.toProt near_protC sz l b off s r4⟩
  | .lg t sz l, _, s, _ => s.elim
  | .ms k sz off n cap, _, s, ⟨b, r1, r2⟩ => ⟨b, (near_objs s (hl k s)).trans r1, r2⟩
  | .mp k, _, s, ⟨b, r1, r2⟩ => ⟨b, (near_objs s (hl k s)).trans r1, r2⟩
  | .fn f a c, _, ⟨s1, s2⟩, ⟨va, vc, r1, r2, r3⟩ => ⟨va, vc, r1, RelAll.near hI hl a va.toList s1 r2, RelAll.near hI hl c vc.toList s2 r3⟩
  | .ifc t a, _, s, ⟨u, r1, r2⟩ => ⟨u, r1, Rel.near hI hl a u s r2⟩
  | .agg cs, _, s, ⟨vs, r1, r2, r3⟩ => ⟨vs, r1, RelAll.near hI hl cs vs.toList s r2, r3⟩
  | .tup cs, _, s, ⟨vs, r1, r2⟩ => ⟨vs, r1, RelAll.near hI hl cs vs.toList s r2⟩
  | .dead, _, _, _ => trivial
  | .ns z sz l, _, s, .inl r => .inl r
  | .ns z sz l, _, s, .inr ⟨r0, b, off, sp, cap, r1, r2, rs, r4⟩ => .inr ⟨r0, b, off, sp, cap, r1, r2, rs, RelRows.toProt near_protC sz l b off s r4⟩
  | .vs k v sz m, _, s, ⟨b, c, r1, r2, r3, r4, r5⟩ => ⟨b, c, r1, r2, by rw [near_len]; exact s, r4, fun e => by
    obtain ⟨k1, C, E, fz, k2, k3⟩ := r5 e
    exact ⟨by rw [near_kind (lt_of_block k2)]; exact nearK_vec k1 (hI.to k s), C, E, fz, k2, k3⟩⟩
  | .vp k v off, _, s, ⟨b, r1, r3, r4, r5⟩ => ⟨b, r1, by rw [near_len]; exact s, r4, fun e => by
    obtain ⟨k1, k2⟩ := r5 e
    exact ⟨by rw [near_kind k2]; exact nearK_vec k1 (hI.to k s), k2⟩⟩
theorem RelAll.near {g : Gh} {w : World} {n : Nat} {ρ : Nat → Nat} {inv : Nat → Option Nat} (hI : Inv ρ n inv) (hl : ∀ i, i < n → ρ i < g.objs.length) : ∀ (ays : List AV) (vs : List Value), NearL n ays → RelAll g w (renL ρ ays) vs → RelAll (g.near w.heap.size n ρ inv) w ays vs
  | [], _, _, r => r
  | a :: ays, _, ⟨s1, s2⟩, ⟨v, vr, r1, r2, r3⟩ => ⟨v, vr, r1, Rel.near hI hl a v s1 r2, RelAll.near hI hl ays vr s2 r3⟩
end

theorem renO_map1 (ρ : Nat → Nat) (es : List (AV × AV)) : (es.map fun e => (ren ρ e.1, ren ρ e.2)).map (·.1) = renL ρ (es.map (·.1)) := by
  rw [renL_eq, List.map_map, List.map_map]; rfl
theorem renO_map2 (ρ : Nat → Nat) (es : List (AV × AV)) : (es.map fun e => (ren ρ e.1, ren ρ e.2)).map (·.2) = renL ρ (es.map (·.2)) := by
  rw [renL_eq, List.map_map, List.map_map]; rfl

theorem ObRel.near {g : Gh} {w : World} {n : Nat} {ρ : Nat → Nat} {inv : Nat → Option Nat} (hI : Inv ρ n inv) (hl : ∀ i, i < n → ρ i < g.objs.length) {i b : Nat} (hi : i < n) (hb : b < w.heap.size) {o : Ob} (ho : NearO n o) (h : ObRel g w (ρ i) b (renO ρ o)) : ObRel (g.near w.heap.size n ρ inv) w i b o := by
  cases o with
  | cells cs =>
    obtain ⟨h1, C, E, h2, h3, h4⟩ := h
    rw [renL_length] at h3 h4
    exact ⟨by rw [near_kind hb]; exact nearK_obj h1 (hI.to i hi), C, E, h2, RelAll.near hI hl _ _ ho h3, h4⟩
  | map es =>
    obtain ⟨h1, M, c, h2, h3, h4⟩ := h
    rw [renO_map1] at h3
    rw [renO_map2] at h4
    exact ⟨by rw [near_kind hb]; exact nearK_obj h1 (hI.to i hi), M, c, h2, RelAll.near hI hl _ _ ho.1 h3, RelAll.near hI hl _ _ ho.2 h4⟩
  | gone => trivial
  | nov v => exact h
  | vec v cs =>
    obtain ⟨h1, b', h2, h3, C, E, h4, h5, h6⟩ := h
    rw [renL_length] at h5 h6
    exact ⟨h1, b', h2, by rw [near_kind h2]; exact nearK_vec h3 (hI.to i hi), C, E, h4, RelAll.near hI hl _ _ ho h5, h6⟩

/-- How the handed objects lie. -/
structure Lies (st : St) (objs0 : List Ob) (ρ : Nat → Nat) (n : Nat) (inv : Nat → Option Nat) : Prop where
  len : objs0.length = n
  inv : Inv ρ n inv
  at_ : ∀ i o, objs0[i]? = some o → st.objs[ρ i]? = some (renO ρ o)
  near : ∀ o ∈ objs0, NearO n o
theorem Lies.lt {st : St} {objs0 : List Ob} {ρ : Nat → Nat} {n : Nat} {inv : Nat → Option Nat} (h : Lies st objs0 ρ n inv) (i : Nat) (hi : i < n) : ρ i < st.objs.length :=
  getElem?_lt (h.at_ i _ (List.getElem?_eq_getElem (by rw [h.len]; exact hi)))

theorem StRel.near {g : Gh} {st : St} {w : World} (hs : StRel g st w) {objs0 : List Ob} {ρ : Nat → Nat} {n : Nat} {inv : Nat → Option Nat} (hL : Lies st objs0 ρ n inv) : StRel (g.near w.heap.size n ρ inv) ⟨objs0, []⟩ w := by
  have hl : ∀ i, i < n → ρ i < g.objs.length := fun i hi => by rw [hs.len]; exact hL.lt i hi
  refine ⟨rfl, by rw [near_len, hL.len], fun i b o hk ho => ?_, fun b i hb hk => ?_, fun b t hb hk => ?_, fun b i hb hk => ?_⟩
  · have hi : i < n := by rw [← hL.len]; exact getElem?_lt ho
    rw [near_objs hi (hl i hi)] at hk
    obtain ⟨h1, h2⟩ := hs.obj (ρ i) b _ hk (hL.at_ i o ho)
    exact ⟨h1, h2.near hL.inv hl hi h1 (hL.near o (List.mem_of_getElem? ho))⟩
  · rw [near_kind hb] at hk
    obtain ⟨k, h1, h2⟩ := nearK_obj' hk
    obtain ⟨hi, rfl⟩ := hL.inv.of k i h2
    obtain ⟨o, h3, h4, h5⟩ := hs.back b _ hb h1
    have ho : objs0[i]? = some (objs0[i]'(by rw [hL.len]; exact hi)) := List.getElem?_eq_getElem _
    have h6 := hL.at_ i _ ho
    rw [h3] at h6
    cases h6
    refine ⟨_, ho, by rw [near_objs hi (hl i hi)]; exact h4, ?_⟩
    generalize objs0[i]'(by rw [hL.len]; exact hi) = y at h5
    cases y <;> first | trivial | exact h5
  · rw [near_kind hb] at hk; exact (nearK_row hk).elim
  · rw [near_kind hb] at hk
    obtain ⟨k, h1, h2⟩ := nearK_vec' hk
    obtain ⟨hi, rfl⟩ := hL.inv.of k i h2
    obtain ⟨⟨v, cs, h3⟩, h4⟩ := hs.vec b _ hb h1
    have ho : objs0[i]? = some (objs0[i]'(by rw [hL.len]; exact hi)) := List.getElem?_eq_getElem _
    have h6 := hL.at_ i _ ho
    rw [h3] at h6
    refine ⟨?_, fun b' hb' hk' => ?_⟩
    · generalize objs0[i]'(by rw [hL.len]; exact hi) = y at ho h6
      cases y <;> simp only [renO, Option.some.injEq, reduceCtorEq] at h6
      exact ⟨_, _, ho⟩
    · rw [near_kind hb'] at hk'
      obtain ⟨k', h7, h8⟩ := nearK_vec' hk'
      obtain ⟨_, e⟩ := hL.inv.of k' i h8
      subst e
      exact h4 b' hb' h7

/-! ### And back -/
/-- Where objects stand afterwards: those that were handed, where they stood; those that were made, behind all. -/
def nx (ρ : Nat → Nat) (n len i : Nat) : Nat := if i < n then ρ i else len + (i - n)
def backK (g2 : Gh) (τ : Nat → Nat) (p b : Nat) : BK :=
  match g2.kind b with
  | .obj i => if i < p then .obj (τ i) else .part fun _ => False
  | .vec i => if i < p then .vec (τ i) else .part fun _ => False
  | .row _ => .part fun off => g2.prot b off
  | x => x
def backG (g g2 : Gh) (τ : Nat → Nat) (p : Nat) (inv : Nat → Option Nat) (b : Nat) : BK :=
  match g.kind b with
  | .obj k => match inv k with
    | some _ => backK g2 τ p b
    | none => .obj k
  | .vec k => match inv k with
    | some _ => backK g2 τ p b
    | none => .vec k
  | x => x
def Gh.back (g g2 : Gh) (size n p : Nat) (τ : Nat → Nat) (inv : Nat → Option Nat) : Gh where
  kind b := if b < size then backG g g2 τ p inv b else backK g2 τ p b
  objs := g.objs ++ (g2.objs.take p).drop n
  tk := g.tk
  ver k := match inv k with
    | some i => g2.ver i
    | none => if k < g.objs.length then g.ver k else g2.ver (n + (k - g.objs.length))

/-- The two pictures agree. -/
structure Bk (G g2 : Gh) (w2 : World) (τ : Nat → Nat) (p : Nat) : Prop where
  objs : ∀ i, i < p → G.objs[τ i]? = g2.objs[i]?
  lt : ∀ i, i < p → τ i < G.objs.length
  ver : ∀ i, i < p → G.ver (τ i) = g2.ver i
  kobj : ∀ b i, b < w2.heap.size → i < p → g2.kind b = .obj i → G.kind b = .obj (τ i)
  kvec : ∀ b i, b < w2.heap.size → i < p → g2.kind b = .vec i → G.kind b = .vec (τ i)
  prot : ∀ b off u, w2.cell? ⟨b, off, none⟩ = some u → g2.prot b off → G.prot b off
mutual
theorem Bk.rel {G g2 : Gh} {w : World} {τ : Nat → Nat} {p : Nat} (h : Bk G g2 w τ p) : ∀ (a : AV) (v : Value), Near p a → Rel g2 w a v → Rel G w (ren τ a) v
  | .bool _, _, _, r => r
  | .int _ _, _, _, r => r
  | .str _, _, _, r => r
  | .nilptr, _, _, r => r
  | .nilsl, _, _, r => r
  | .nilmap, _, _, r => r
  | .nilfn, _, _, r => r
  | .nilif, _, _, r => r
  | .ptr k off, _, s, ⟨b, r1, r2⟩ => ⟨b, (h.objs k s).trans r1, r2⟩
  | .tp k E m', _, s, ⟨b, r1, r2⟩ => ⟨b, (h.objs k s).trans r1, r2⟩
  | .eptr cs, _, s, ⟨b, off, r1, r2⟩ => ⟨b, off, r1, RelCells.toProt h.prot cs b off s r2⟩
  | .sl sz full l, _, s, ⟨b, off, sp, cap, r1, r2, r3, rs, r4⟩ => ⟨b, off, sp, cap, r1, r2, r3, rs, RelRows.toProt h.prot sz l b off s r4⟩
  | .lg t sz l, _, s, _ => s.elim
  | .ms k sz off n cap, _, s, ⟨b, r1, r2⟩ => ⟨b, (h.objs k s).trans r1, r2⟩
  | .mp k, _, s, ⟨b, r1, r2⟩ => ⟨b, (h.objs k s).trans r1, r2⟩
  | .fn f a c, _, ⟨s1, s2⟩, ⟨va, vc, r1, r2, r3⟩ => ⟨va, vc, r1, Bk.relAll h a va.toList s1 r2, Bk.relAll h c vc.toList s2 r3⟩
  | .ifc t a, _, s, ⟨u, r1, r2⟩ => ⟨u, r1, Bk.rel h a u s r2⟩
  | .agg cs, _, s, ⟨vs, r1, r2, r3⟩ => ⟨vs, r1, Bk.relAll h cs vs.toList s r2, r3⟩
  | .tup cs, _, s, ⟨vs, r1, r2⟩ => ⟨vs, r1, Bk.relAll h cs vs.toList s r2⟩
  | .dead, _, _, _ => trivial
  | .ns z sz l, _, s, .inl r => .inl r
  | .ns z sz l, _, s, .inr ⟨r0, b, off, sp, cap, r1, r2, rs, r4⟩ => .inr ⟨r0, b, off, sp, cap, r1, r2, rs, RelRows.toProt h.prot sz l b off s r4⟩
  | .vs k v sz m, _, s, ⟨b, c, r1, r2, r3, r4, r5⟩ => ⟨b, c, r1, r2, h.lt k s, by rw [h.ver k s]; exact r4, fun e => by
    rw [h.ver k s] at e
    obtain ⟨k1, C, E, fz, k2, k3⟩ := r5 e
    exact ⟨h.kvec b k (lt_of_block k2) s k1, C, E, fz, k2, k3⟩⟩
  | .vp k v off, _, s, ⟨b, r1, r3, r4, r5⟩ => ⟨b, r1, h.lt k s, by rw [h.ver k s]; exact r4, fun e => by
    rw [h.ver k s] at e
    obtain ⟨k1, k2⟩ := r5 e
    exact ⟨h.kvec b k k2 s k1, k2⟩⟩
theorem Bk.relAll {G g2 : Gh} {w : World} {τ : Nat → Nat} {p : Nat} (h : Bk G g2 w τ p) : ∀ (ays : List AV) (vs : List Value), NearL p ays → RelAll g2 w ays vs → RelAll G w (renL τ ays) vs
  | [], _, _, r => r
  | a :: ays, _, ⟨s1, s2⟩, ⟨v, vr, r1, r2, r3⟩ => ⟨v, vr, r1, Bk.rel h a v s1 r2, Bk.relAll h ays vr s2 r3⟩
end
theorem Bk.ob {G g2 : Gh} {w : World} {τ : Nat → Nat} {p : Nat} (h : Bk G g2 w τ p) {i b : Nat} (hi : i < p) (hb : b < w.heap.size) {o : Ob} (ho : NearO p o) (hr : ObRel g2 w i b o) : ObRel G w (τ i) b (renO τ o) := by
  cases o with
  | cells cs =>
    obtain ⟨h1, C, E, h2, h3, h4⟩ := hr
    exact ⟨h.kobj b i hb hi h1, C, E, h2, by rw [renL_length]; exact h.relAll _ _ ho h3, by rw [renL_length]; exact h4⟩
  | map es =>
    obtain ⟨h1, M, c, h2, h3, h4⟩ := hr
    exact ⟨h.kobj b i hb hi h1, M, c, h2, by rw [renO_map1]; exact h.relAll _ _ ho.1 h3, by rw [renO_map2]; exact h.relAll _ _ ho.2 h4⟩
  | gone => trivial
  | nov v => exact (h.ver i hi).trans hr
  | vec v cs =>
    obtain ⟨h1, b', h2, h3, C, E, h4, h5, h6⟩ := hr
    exact ⟨(h.ver i hi).trans h1, b', h2, h.kvec b' i h2 hi h3, C, E, h4, by rw [renL_length]; exact h.relAll _ _ ho h5, by rw [renL_length]; exact h6⟩

theorem nx_inj {ρ : Nat → Nat} {n len : Nat} {inv : Nat → Option Nat} (hI : Inv ρ n inv) (hl : ∀ i, i < n → ρ i < len) {i j : Nat} (e : nx ρ n len i = nx ρ n len j) : i = j := by
  unfold nx at e
  split at e
  · rename_i hi
    split at e
    · rename_i hj; exact hI.inj hi hj e
    · have := hl i hi; omega
  · split at e
    · rename_i hj; have := hl j hj; omega
    · omega
theorem nx_lt {ρ : Nat → Nat} {n len : Nat} {inv : Nat → Option Nat} (hI : Inv ρ n inv) {i k : Nat} (hk : k < len) (e : nx ρ n len i = k) : inv k = some i := by
  unfold nx at e
  split at e
  · rename_i hi; rw [← e]; exact hI.to i hi
  · omega

theorem backK_prot {g2 G : Gh} {τ : Nat → Nat} {p b off : Nat} (hk : G.kind b = backK g2 τ p b) (hp : g2.prot b off) : G.prot b off := by
  have hp0 := hp
  unfold Gh.prot at hp ⊢
  rw [hk]
  unfold backK
  cases h : g2.kind b with
  | solid => trivial
  | part S => rw [h] at hp; exact hp
  | obj k => rw [h] at hp; exact hp.elim
  | vec k => rw [h] at hp; exact hp.elim
  | row t => exact hp0

/-- A callee shown with what it is handed alone. -/
theorem placed {id : FuncId} {args0 : List AV} {objs0 objs2 : List Ob} {r0 : AV} {xt : List (Nat × Nat)} (h : CallsTo P id args0 ⟨objs0, []⟩ (.ret r0, ⟨objs2, xt⟩)) {n p : Nat} (hnp : n ≤ p) (hp : p ≤ objs2.length)
    (ha : NearL n args0) (hr : Near p (frz r0)) (ho2 : ∀ (i : Nat) (o : Ob), i < p → objs2[i]? = some o → NearO p o)
    {ρ : Nat → Nat} {inv : Nat → Option Nat} {st st' : St} (hL : Lies st objs0 ρ n inv) (htk : st'.tk = st.tk) (hlen : st'.objs.length = st.objs.length + (p - n))
    (hnew : ∀ (i : Nat) (o : Ob), i < p → objs2[i]? = some o → st'.objs[nx ρ n st.objs.length i]? = some (renO (nx ρ n st.objs.length) o)) (hold : ∀ k, k < st.objs.length → inv k = none → st'.objs[k]? = st.objs[k]?) :
    CallsTo P id (renL ρ args0) st (.ret (ren (nx ρ n st.objs.length) (frz r0)), st') := by
  intro g w vals hv hs
  have hl : ∀ i, i < n → ρ i < g.objs.length := fun i hi => by rw [hs.len]; exact hL.lt i hi
  have hI := hL.inv
  refine (h (g.near w.heap.size n ρ inv) w vals (RelAll.near hI hl _ _ ha hv) (hs.near hL)).mono fun e w2 ⟨g2, h1, hs2, hE⟩ => ?_
  obtain ⟨v, rfl, hv2⟩ := h1
  have hlen2 : g2.objs.length = objs2.length := hs2.len
  have hgl : st.objs.length = g.objs.length := hs.len.symm
  rw [hgl] at hlen hnew ⊢
  have hinvN : ∀ k, g.objs.length ≤ k → inv k = none := fun k hk => by
    cases e : inv k with
    | none => rfl
    | some i =>
      obtain ⟨hi, rfl⟩ := hI.of k i e
      have := hl i hi
      omega
  let τ := nx ρ n g.objs.length
  let G := g.back g2 w.heap.size n p τ inv
  -- blocks of which the callee knows nothing
  have hpart : ∀ b, b < w.heap.size → (∀ k i, g.kind b = .obj k → inv k = some i → False) → (∀ k i, g.kind b = .vec k → inv k = some i → False) → ∃ S, nearK g inv b = .part S ∧ g2.kind b = .part S ∧ w2.heap[b]? = w.heap[b]? := by
    intro b hb q1 q2
    have : ∃ S, nearK g inv b = .part S := by
      unfold nearK
      split
      · rename_i k hk
        split
        · rename_i i hi; exact (q1 k i hk hi).elim
        · exact ⟨_, rfl⟩
      · rename_i k hk
        split
        · rename_i i hi; exact (q2 k i hk hi).elim
        · exact ⟨_, rfl⟩
      · exact ⟨_, rfl⟩
    obtain ⟨S, hS⟩ := this
    obtain ⟨k1, k2⟩ := hE.part b (S := S) hb (by rw [near_kind hb]; exact hS)
    exact ⟨S, hS, k1, k2⟩
  have hGlt : ∀ b, b < w.heap.size → G.kind b = backG g g2 τ p inv b := fun b hb => by
    show (if b < w.heap.size then _ else _) = _
    rw [if_pos hb]
  have hGge : ∀ b, ¬ b < w.heap.size → G.kind b = backK g2 τ p b := fun b hb => by
    show (if b < w.heap.size then _ else _) = _
    rw [if_neg hb]
  -- the callee's objects' blocks
  have hmine : ∀ b, b < w2.heap.size → (∃ i, g2.kind b = .obj i ∨ g2.kind b = .vec i) → G.kind b = backK g2 τ p b := by
    intro b hb ⟨i, hi⟩
    by_cases hb1 : b < w.heap.size
    · rw [hGlt b hb1]
      by_cases q1 : ∃ k j, g.kind b = .obj k ∧ inv k = some j
      · obtain ⟨k, j, e1, e2⟩ := q1
        simp only [backG, e1, e2]
      · by_cases q2 : ∃ k j, g.kind b = .vec k ∧ inv k = some j
        · obtain ⟨k, j, e1, e2⟩ := q2
          simp only [backG, e1, e2]
        · obtain ⟨S, _, e3, _⟩ := hpart b hb1 (fun k i a b => q1 ⟨k, i, a, b⟩) (fun k i a b => q2 ⟨k, i, a, b⟩)
          rcases hi with hi | hi <;> (rw [hi] at e3; cases e3)
    · exact hGge b hb1
  have hB : Bk G g2 w2 τ p := by
    refine ⟨fun i hi => ?_, fun i hi => ?_, fun i hi => ?_, fun b i hb hi hk => ?_, fun b i hb hi hk => ?_, fun b off u hc hpr => ?_⟩
    · show (g.objs ++ (g2.objs.take p).drop n)[nx ρ n g.objs.length i]? = _
      unfold nx
      split
      · rename_i h
        rw [List.getElem?_append_left (hl i h)]
        have e1 : g.objs[ρ i]? = some (g.objs[ρ i]'(hl i h)) := List.getElem?_eq_getElem (hl i h)
        have e2 := hE.objs i _ ((near_objs h (hl i h)).trans e1)
        rw [e1, e2]
      · rw [List.getElem?_append_right (by omega), List.getElem?_drop, List.getElem?_take, if_pos (by omega)]
        congr 1; omega
    · show nx ρ n g.objs.length i < (g.objs ++ (g2.objs.take p).drop n).length
      rw [List.length_append, List.length_drop, List.length_take]
      unfold nx
      split
      · rename_i h; have := hl i h; omega
      · omega
    · show (match inv (nx ρ n g.objs.length i) with | some i => g2.ver i | none => if nx ρ n g.objs.length i < g.objs.length then g.ver (nx ρ n g.objs.length i) else g2.ver (n + (nx ρ n g.objs.length i - g.objs.length))) = _
      by_cases h : i < n
      · rw [show nx ρ n g.objs.length i = ρ i by rw [nx, if_pos h], hI.to i h]
      · rw [show nx ρ n g.objs.length i = g.objs.length + (i - n) by rw [nx, if_neg h], hinvN _ (by omega)]
        simp only
        rw [if_neg (by omega)]
        congr 1; omega
    · rw [hmine b hb ⟨i, .inl hk⟩]
      simp only [backK, hk]
      rw [if_pos hi]
    · rw [hmine b hb ⟨i, .inr hk⟩]
      simp only [backK, hk]
      rw [if_pos hi]
    · obtain ⟨C, E, fz, hbk, _⟩ := cell_some hc
      have hb := lt_of_block hbk
      by_cases hb1 : b < w.heap.size
      · by_cases q1 : ∃ k j, g.kind b = .obj k ∧ inv k = some j
        · obtain ⟨k, j, e1, e2⟩ := q1
          exact backK_prot (τ := τ) (p := p) (by rw [hGlt b hb1]; simp only [backG, e1, e2]) hpr
        · by_cases q2 : ∃ k j, g.kind b = .vec k ∧ inv k = some j
          · obtain ⟨k, j, e1, e2⟩ := q2
            exact backK_prot (τ := τ) (p := p) (by rw [hGlt b hb1]; simp only [backG, e1, e2]) hpr
          · obtain ⟨S, e2, e3, _⟩ := hpart b hb1 (fun k i a b => q1 ⟨k, i, a, b⟩) (fun k i a b => q2 ⟨k, i, a, b⟩)
            have hS : S off := by
              unfold Gh.prot at hpr; rw [e3] at hpr; exact hpr
            unfold Gh.prot
            rw [hGlt b hb1]
            unfold nearK at e2
            unfold backG
            cases hk : g.kind b with
            | obj k =>
              rw [hk] at e2
              simp only at e2
              split at e2
              · cases e2
              · cases e2; exact hS.elim
            | vec k =>
              rw [hk] at e2
              simp only at e2
              split at e2
              · cases e2
              · cases e2; exact hS.elim
            | solid => trivial
            | part T =>
              rw [hk] at e2
              simp only [BK.part.injEq] at e2
              subst e2
              unfold Gh.prot at hS; rw [hk] at hS; exact hS
            | row t =>
              rw [hk] at e2
              simp only [BK.part.injEq] at e2
              subst e2
              unfold Gh.prot at hS; rw [hk] at hS; exact hS
      · exact backK_prot (τ := τ) (p := p) (hGge b hb1) hpr
  have hEG : Ev g w G w2 := by
    refine ⟨hE.os, hE.tape, hE.output, hE.size, fun b hb hk => ?_, fun b t hb hk => ?_, fun b k hb hk => ?_, fun k b hk => ?_, tk_refl _, fun k hk => ?_, fun b k hb hkl hk hvv => ?_, hE.ty⟩
    · obtain ⟨S, _, _, e3⟩ := hpart b hb (fun k i a _ => by rw [a] at hk; cases hk) (fun k i a _ => by rw [a] at hk; cases hk)
      refine ⟨?_, e3⟩
      rw [hGlt b hb]
      unfold backG
      cases e : g.kind b with
      | obj k => rw [e] at hk; cases hk
      | vec k => rw [e] at hk; cases hk
      | _ => rfl
    · obtain ⟨S, _, _, e3⟩ := hpart b hb (fun k i a _ => by rw [a] at hk; cases hk) (fun k i a _ => by rw [a] at hk; cases hk)
      refine ⟨by rw [hGlt b hb]; simp only [backG, hk], fun C E fz hC => ⟨C, e3.trans hC, rfl, fun _ _ => rfl⟩⟩
    · rw [hGlt b hb]
      simp only [backG, hk]
      split
      · rename_i i hi
        obtain ⟨hin, rfl⟩ := hI.of k i hi
        have := hE.obj b i hb (by rw [near_kind hb]; exact nearK_obj hk hi)
        unfold backK
        rcases this with e | e
        · rw [e]; simp only; rw [if_pos (by omega)]
          left
          show BK.obj (nx ρ n g.objs.length i) = _
          rw [nx, if_pos hin]
        · rw [e]; exact .inr rfl
      · exact .inl rfl
    · show (g.objs ++ _)[k]? = _
      rw [List.getElem?_append_left (getElem?_lt hk)]; exact hk
    · show g.ver k ≤ (match inv k with | some i => g2.ver i | none => if k < g.objs.length then g.ver k else g2.ver (n + (k - g.objs.length)))
      split
      · rename_i i hi
        obtain ⟨hin, rfl⟩ := hI.of k i hi
        exact hE.ver i (by rw [near_len]; exact hin)
      · rw [if_pos hk]; exact Nat.le_refl _
    · have hvv : (match inv k with | some i => g2.ver i | none => if k < g.objs.length then g.ver k else g2.ver (n + (k - g.objs.length))) = g.ver k := hvv
      rw [hGlt b hb]
      simp only [backG, hk]
      split at hvv
      · rename_i i hi
        obtain ⟨hin, rfl⟩ := hI.of k i hi
        obtain ⟨k1, k2⟩ := hE.vec b i hb (by rw [near_len]; exact hin) (by rw [near_kind hb]; exact nearK_vec hk hi) hvv
        refine ⟨?_, k2⟩
        simp only [backK, k1]
        rw [if_pos (by omega)]
        show BK.vec (nx ρ n g.objs.length i) = _
        rw [nx, if_pos hin]
      · rename_i hi
        obtain ⟨S, _, _, e3⟩ := hpart b hb (fun k i a _ => by rw [a] at hk; cases hk) (fun k' i a e => by rw [a] at hk; cases hk; rw [hi] at e; cases e)
        exact ⟨rfl, fun C E fz hC => ⟨C, e3.trans hC, rfl⟩⟩
  -- which object a block of the new picture belongs to
  have hcase : ∀ b y, b < w2.heap.size → G.kind b = y → (∃ k, y = .obj k ∨ y = .vec k) → (b < w.heap.size ∧ g.kind b = y ∧ w2.heap[b]? = w.heap[b]? ∧ ∀ k, (y = .obj k ∨ y = .vec k) → inv k = none) ∨ (∃ i, i < p ∧ ((g2.kind b = .obj i ∧ y = .obj (τ i)) ∨ (g2.kind b = .vec i ∧ y = .vec (τ i)))) := by
    intro b y hb hk hy
    have hbk : backK g2 τ p b = y → ∃ i, i < p ∧ ((g2.kind b = .obj i ∧ y = .obj (τ i)) ∨ (g2.kind b = .vec i ∧ y = .vec (τ i))) := by
      intro e
      unfold backK at e
      split at e
      · rename_i i hi
        split at e
        · rename_i hip; exact ⟨i, hip, .inl ⟨hi, e.symm⟩⟩
        · obtain ⟨k, hy | hy⟩ := hy <;> (rw [hy] at e; cases e)
      · rename_i i hi
        split at e
        · rename_i hip; exact ⟨i, hip, .inr ⟨hi, e.symm⟩⟩
        · obtain ⟨k, hy | hy⟩ := hy <;> (rw [hy] at e; cases e)
      · obtain ⟨k, hy | hy⟩ := hy <;> (rw [hy] at e; cases e)
      · rename_i x h1 h2 h3
        obtain ⟨k, hy | hy⟩ := hy
        · rw [hy] at e; exact (h1 k e).elim
        · rw [hy] at e; exact (h2 k e).elim
    by_cases hb1 : b < w.heap.size
    · rw [hGlt b hb1] at hk
      unfold backG at hk
      split at hk
      · rename_i k hkk
        split at hk
        · exact .inr (hbk hk)
        · rename_i hi
          obtain ⟨S, _, _, e3⟩ := hpart b hb1 (fun k' i a e => by rw [a] at hkk; cases hkk; rw [hi] at e; cases e) (fun k' i a e => by rw [a] at hkk; cases hkk)
          refine .inl ⟨hb1, hkk.trans hk, e3, fun k' hk' => ?_⟩
          rcases hk' with hk' | hk' <;> (rw [hk'] at hk; cases hk)
          exact hi
      · rename_i k hkk
        split at hk
        · exact .inr (hbk hk)
        · rename_i hi
          obtain ⟨S, _, _, e3⟩ := hpart b hb1 (fun k' i a e => by rw [a] at hkk; cases hkk) (fun k' i a e => by rw [a] at hkk; cases hkk; rw [hi] at e; cases e)
          refine .inl ⟨hb1, hkk.trans hk, e3, fun k' hk' => ?_⟩
          rcases hk' with hk' | hk' <;> (rw [hk'] at hk; cases hk)
          exact hi
      · rename_i x h1 h2
        obtain ⟨k, hy | hy⟩ := hy
        · rw [hy] at hk; exact (h1 k hk).elim
        · rw [hy] at hk; exact (h2 k hk).elim
    · rw [hGge b hb1] at hk
      exact .inr (hbk hk)
  refine ⟨G, ⟨v, rfl, hB.rel _ _ hr (frz_rel hv2)⟩, ⟨by show g.tk = _; rw [hs.tk, htk], ?_, fun k b o hk ho => ?_, fun b k hb hk => ?_, fun b t hb hk => ?_, fun b k hb hk => ?_⟩, hEG⟩
  · show (g.objs ++ (g2.objs.take p).drop n).length = _
    rw [List.length_append, List.length_drop, List.length_take, hlen]
    omega
  · -- the objects
    have hkl : k < g.objs.length + (p - n) := by rw [← hlen]; exact getElem?_lt ho
    by_cases hki : k < g.objs.length ∧ inv k = none
    · obtain ⟨q1, q2⟩ := hki
      have hk : (g.objs ++ (g2.objs.take p).drop n)[k]? = some b := hk
      rw [List.getElem?_append_left q1] at hk
      rw [hold k (by rw [hgl]; exact q1) q2] at ho
      obtain ⟨p1, p2⟩ := hs.obj k b o hk ho
      refine ⟨Nat.lt_of_lt_of_le p1 hE.size, ?_⟩
      have hver : G.ver k = g.ver k := by
        show (match inv k with | some i => g2.ver i | none => if k < g.objs.length then g.ver k else _) = _
        rw [q2]; simp only; rw [if_pos q1]
      have hkeep : ∀ b, b < w.heap.size → (g.kind b = .obj k ∨ g.kind b = .vec k) → G.kind b = g.kind b ∧ w2.heap[b]? = w.heap[b]? := by
        intro b hb hk
        obtain ⟨S, _, _, e3⟩ := hpart b hb (fun k' i a e => by
          rcases hk with hk | hk <;> (rw [a] at hk; cases hk)
          rw [q2] at e; cases e) (fun k' i a e => by
          rcases hk with hk | hk <;> (rw [a] at hk; cases hk)
          rw [q2] at e; cases e)
        refine ⟨?_, e3⟩
        rw [hGlt b hb]
        rcases hk with hk | hk <;> simp only [backG, hk, q2]
      cases o with
      | gone => trivial
      | nov v => exact hver.trans p2
      | cells cs =>
        obtain ⟨e1, C, E, e2, e3, e4⟩ := p2
        obtain ⟨f1, f2⟩ := hkeep b p1 (.inl e1)
        exact ⟨f1.trans e1, C, E, f2.trans e2, RelAll.mono hEG _ _ e3, e4⟩
      | map es =>
        obtain ⟨e1, M, c, e2, e3, e4⟩ := p2
        obtain ⟨f1, f2⟩ := hkeep b p1 (.inl e1)
        exact ⟨f1.trans e1, M, c, f2.trans e2, RelAll.mono hEG _ _ e3, RelAll.mono hEG _ _ e4⟩
      | vec v cs =>
        obtain ⟨e0, b', e1, e2, C, E, e3, e4, e5⟩ := p2
        obtain ⟨f1, f2⟩ := hkeep b' e1 (.inr e2)
        exact ⟨hver.trans e0, b', Nat.lt_of_lt_of_le e1 hE.size, f1.trans e2, C, E, f2.trans e3, RelAll.mono hEG _ _ e4, e5⟩
    · have : ∃ i, i < p ∧ τ i = k := by
        by_cases q1 : k < g.objs.length
        · cases e : inv k with
          | none => exact absurd ⟨q1, e⟩ hki
          | some i =>
            obtain ⟨hi, rfl⟩ := hI.of k i e
            exact ⟨i, by omega, by show nx ρ n g.objs.length i = _; rw [nx, if_pos hi]⟩
        · exact ⟨n + (k - g.objs.length), by omega, by show nx ρ n g.objs.length _ = _; rw [nx, if_neg (by omega)]; omega⟩
      obtain ⟨i, hi, rfl⟩ := this
      rw [hB.objs i hi] at hk
      have hoi : objs2[i]? = some (objs2[i]'(by omega)) := List.getElem?_eq_getElem _
      have := hnew i _ hi hoi
      rw [show st'.objs[τ i]? = _ from this] at ho
      cases ho
      obtain ⟨p1, p2⟩ := hs2.obj i b _ hk hoi
      exact ⟨p1, hB.ob hi p1 (ho2 i _ hi hoi) p2⟩
  · rcases hcase b _ hb hk ⟨k, .inl rfl⟩ with ⟨h1, h2, _, h3⟩ | ⟨i, hi, ⟨h1, h2⟩ | ⟨h1, h2⟩⟩
    · obtain ⟨o, k1, k2, k3⟩ := hs.back b k h1 h2
      have hkl := getElem?_lt k1
      refine ⟨o, by rw [hold k hkl (h3 k (.inl rfl))]; exact k1, ?_, k3⟩
      show (g.objs ++ _)[k]? = _
      rw [List.getElem?_append_left (getElem?_lt k2)]; exact k2
    · simp only [BK.obj.injEq] at h2
      subst h2
      obtain ⟨o, k1, k2, k3⟩ := hs2.back b i hb h1
      refine ⟨renO τ o, hnew i o hi k1, (hB.objs i hi).trans k2, ?_⟩
      cases o <;> first | trivial | exact k3
    · cases h2
  · by_cases hb1 : b < w.heap.size
    · have hk0 := hk
      rw [hGlt b hb1] at hk
      have : g.kind b = .row t := by
        unfold backG at hk
        split at hk
        · split at hk
          · unfold backK at hk
            split at hk
            · split at hk <;> cases hk
            · split at hk <;> cases hk
            · cases hk
            · rename_i h1 h2 h3; exact (h3 t hk).elim
          · cases hk
        · split at hk
          · unfold backK at hk
            split at hk
            · split at hk <;> cases hk
            · split at hk <;> cases hk
            · cases hk
            · rename_i h1 h2 h3; exact (h3 t hk).elim
          · cases hk
        · exact hk
      rw [htk]
      exact hs.rowlt b t hb1 this
    · rw [hGge b hb1] at hk
      unfold backK at hk
      split at hk
      · split at hk <;> cases hk
      · split at hk <;> cases hk
      · cases hk
      · rename_i h1 h2 h3; exact (h3 t hk).elim
  · rcases hcase b _ hb hk ⟨k, .inr rfl⟩ with ⟨h1, h2, _, h3⟩ | ⟨i, hi, ⟨h1, h2⟩ | ⟨h1, h2⟩⟩
    · obtain ⟨⟨v, cs, k1⟩, k2⟩ := hs.vec b k h1 h2
      have hkl := getElem?_lt k1
      have hin := h3 k (.inr rfl)
      refine ⟨⟨v, cs, by rw [hold k hkl hin]; exact k1⟩, fun b' hb' hk' => ?_⟩
      rcases hcase b' _ hb' hk' ⟨k, .inr rfl⟩ with ⟨q1, q2, _, _⟩ | ⟨i, hi, ⟨q1, q2⟩ | ⟨q1, q2⟩⟩
      · exact k2 b' q1 q2
      · cases q2
      · simp only [BK.vec.injEq] at q2
        have := nx_lt hI (by rw [← hgl]; exact hkl) q2.symm
        rw [hin] at this; cases this
    · cases h2
    · simp only [BK.vec.injEq] at h2
      subst h2
      obtain ⟨⟨v, cs, k1⟩, k2⟩ := hs2.vec b i hb h1
      refine ⟨⟨v, renL τ cs, hnew i _ hi k1⟩, fun b' hb' hk' => ?_⟩
      rcases hcase b' _ hb' hk' ⟨_, .inr rfl⟩ with ⟨q1, q2, _, q3⟩ | ⟨j, hj, ⟨q1, q2⟩ | ⟨q1, q2⟩⟩
      · have hin := q3 _ (.inr rfl)
        obtain ⟨⟨v', cs', k3⟩, _⟩ := hs.vec b' _ q1 q2
        have k4 : τ i < g.objs.length := by rw [← hgl]; exact getElem?_lt k3
        have := nx_lt hI k4 (i := i) rfl
        rw [hin] at this; cases this
      · cases q2
      · simp only [BK.vec.injEq] at q2
        have := nx_inj hI hl q2
        subst this
        exact k2 b' hb' q1

end
end Go.V

/- Registers: growing objects that are used again and again. -/
set_option linter.unusedVariables false
set_option linter.unusedSimpArgs false
namespace Go.V
section
variable {P : Program}

def verO (o : Option Ob) : Option Nat :=
  match o with
  | some o => match o with
    | .vec v _ => some v
    | .nov v => some v
    | _ => none
  | none => none
/-- A register: a number, or so far behind the object to which an operand leads. -/
def rgN (b : Option AV) (d : Nat) : Option Nat :=
  match b with
  | none => some d
  | some x => match x with
    | .ptr i _ => some (i + d)
    | _ => none

theorem verO_some {o : Option Ob} {v : Nat} (h : verO o = some v) : (∃ cs, o = some (.vec v cs)) ∨ o = some (.nov v) := by
  unfold verO at h
  split at h
  · split at h
    · cases h; exact .inl ⟨_, rfl⟩
    · cases h; exact .inr rfl
    · cases h
  · cases h
theorem verO_lt {l : List Ob} {j v : Nat} (h : verO l[j]? = some v) : j < l.length := by
  rcases verO_some h with ⟨cs, h⟩ | h
  · exact getElem?_lt h
  · exact getElem?_lt h

/-- A register has a new block. -/
theorem reg_moved {g : Gh} {st : St} {w w1 : World} {C : Array Value} {E : TypeId} (hs : StRel g st w) (hp : Push w w1 (.cells C E)) {j v : Nat} {cs : List AV} (hv : verO st.objs[j]? = some v) (hr : RelAll g w cs (C.toList.take cs.length)) (h1 : ∀ u ∈ C.toList.take cs.length, u.oneCell' = true) :
    ∃ g', StRel g' ⟨st.objs.set j (.vec (v + 1) cs), st.tk⟩ w1 ∧ Ev g w g' w1 ∧ (∀ c sz n, n ≤ c → c * sz ≤ C.size → okE sz E = true → Rel g' w1 (.vs j (v + 1) sz n) (.slice (some ⟨w.heap.size, 0, none⟩) n c)) ∧ ∀ off, Rel g' w1 (.vp j (v + 1) off) (.pointer (some ⟨w.heap.size, off, none⟩)) := by
  have hjl := verO_lt hv
  refine vec_moved (gos := g.objs) hs hp (fun o ho => ⟨v, ?_, Nat.lt_succ_self v⟩) (by rw [List.getElem?_eq_getElem (by rw [hs.len]; exact hjl)]; rfl) (fun _ _ h => h) (fun _ _ h => .inl h) (by simp [hs.len]) (List.getElem?_set_self hjl) (fun k hk => List.getElem?_set_ne (fun e => hk e.symm)) hr h1
  rcases verO_some hv with ⟨cs0, h⟩ | h
  · rw [h] at ho; cases ho; exact .inl ⟨_, rfl⟩
  · rw [h] at ho; cases ho; exact .inr rfl

def rgOps (b : Option Operand) : List Operand := b.toList
theorem rg_ev {ev ev' : Operand → AV} {xs : List Operand} {b : Option Operand} (h : ∀ x ∈ xs ++ rgOps b, ev x = ev' x) : b.map ev = b.map ev' := by
  cases b with
  | none => rfl
  | some x => simp only [Option.map_some, h x (by simp [rgOps])]

/-- A variable in memory, in a register. -/
def aallocR (z : Value) (r : Option Nat) (st : St) (k : AV → St → Ans) : Ans :=
  match r with
  | some j => match verO st.objs[j]? with
    | some v => match cellsA (ofLit z) with
      | some cs => k (.vp j (v + 1) 0) ⟨st.objs.set j (.vec (v + 1) cs), st.tk⟩
      | none => none
    | none => none
  | none => none
def opAllocR (b : Option Operand) (d : Nat) (dst : Option Tmp) (T : TypeId) (z : Value) (hz : (P.info? T).bind (·.zero) = some z) (ty : TypeId) (pos : String) (after : Array Edge) : MSim P :=
  MSim.makes (mkOp dst (.alloc T) ty pos after) rfl ([] ++ rgOps b) (fun ev st k => aallocR z (rgN (b.map ev) d) st k) (fun ev ev' st k h => by rw [rg_ev h]) fun ev st k fin h g w a he hs => by
    unfold aallocR at h
    split at h
    · rename_i j hj
      split at h
      · rename_i v hv
        split at h
        · rename_i cs hcs
          obtain ⟨h1, h1c⟩ := cellsA_rel hcs (ofLit_rel g w z)
          have e : z.cells.toList.take cs.length = z.cells.toList := List.take_of_length_le (by rw [RelAll.length _ _ h1]; exact Nat.le_refl _)
          obtain ⟨g', k1, k2, _, k4⟩ := reg_moved hs (Push.alloc w (.cells z.cells T)) hv (cs := cs) (by rw [e]; exact h1) (by rw [e]; exact h1c)
          exact ⟨_, _, _, g', _, h, by simp [execOp, mkOp, Instr.alloc, newVar, run_newRow, run_zeroValue' hz] <;> rfl, k4 0, k1, k2⟩
        · cases h
      · cases h
    · cases h
theorem aallocR_nat (z : Value) (r : Option Nat) (st : St) (k : AV → St → Ans) : aallocR z r st k = thenM (aallocR z r st retM) k := by
  unfold aallocR
  split
  · split
    · split <;> rfl
    · rfl
  · rfl
theorem opAllocR_nat {b : Option Operand} {d : Nat} {dst : Option Tmp} {T : TypeId} {z : Value} {hz : (P.info? T).bind (·.zero) = some z} {ty : TypeId} {pos : String} {after : Array Edge} : (opAllocR (P := P) b d dst T z hz ty pos after).NatM := fun ev st k => aallocR_nat _ _ _ _

/-- make of a slice, in a register. -/
noncomputable def amakeR (sz bytes : Nat) (zc : List AV) (r : Option Nat) (x : AV) (st : St) (k : AV → St → Ans) : Ans :=
  match x with
  | .int _ n => match mkOk bytes n with
    | true => match r with
      | some j => match verO st.objs[j]? with
        | some v => k (.vs j (v + 1) sz n.toNat) ⟨st.objs.set j (.vec (v + 1) (zerC n.toNat zc)), st.tk⟩
        | none => none
      | none => none
    | false => none
  | _ => none
noncomputable def opMakeR (b : Option Operand) (d : Nat) (dst : Option Tmp) (T : TypeId) (x : Operand) (e sz bytes : Nat) (z : Value) (hT : ElemOf P T e sz bytes z) (zc : List AV) (hz : cellsA (ofLit z) = some zc) (hsz : Nat.beq z.cells.size sz = true) (ty : TypeId) (pos : String) (after : Array Edge) (hok : okE sz e = true := by rfl) : MSim P :=
  MSim.makes (mkOp dst (.makeSlice T x x) ty pos after) rfl ([x] ++ rgOps b) (fun ev st k => amakeR sz bytes zc (rgN (b.map ev) d) (ev x) st k) (fun ev ev' st k h => by rw [rg_ev h, h x (by simp)]) fun ev st k fin h g w a he hs => by
    have hv := he x (by simp)
    unfold amakeR at h
    split at h
    · rename_i kd n hx
      rw [hx] at hv
      have hv : a.eval x = .int kd n := hv
      split at h
      · rename_i hc
        rw [mkOk_iff] at hc
        split at h
        · rename_i j hj
          split at h
          · rename_i v hvv
            obtain ⟨m, rfl⟩ : ∃ m : Nat, n = m := ⟨n.toNat, by omega⟩
            simp only [Int.toNat_natCast] at hc h
            have hsz := Nat.eq_of_beq_eq_true hsz
            have hpos := hT.pos
            have hm : m ≤ 281474976710656 := Nat.le_trans (Nat.le_mul_of_pos_left _ (Nat.pos_of_ne_zero hpos)) hc.2
            rw [zerC, opq_eq] at h
            obtain ⟨h1, h1c⟩ := cellsA_rel hz (ofLit_rel g w z)
            have hlist : (madeCells z.cells (m * sz)).toList = (List.replicate m z.cells.toList).flatten := by rw [← hsz]; exact madeCells_list _ _
            have hone : ∀ u ∈ (madeCells z.cells (m * sz)).toList, u.oneCell' = true := by
              intro u hm
              rw [hlist] at hm
              obtain ⟨l, hl1, hl2⟩ := List.mem_flatten.mp hm
              rw [List.eq_of_mem_replicate hl1] at hl2
              exact h1c u hl2
            have e1 : (madeCells z.cells (m * sz)).toList.take (List.replicate m zc).flatten.length = (madeCells z.cells (m * sz)).toList := List.take_of_length_le (by rw [RelAll.length _ _ (h1.rep m), ← hlist]; exact Nat.le_refl _)
            obtain ⟨g', k1, k2, k3, _⟩ := reg_moved hs (Push.alloc w (.cells (madeCells z.cells (m * sz)) e)) hvv (cs := (List.replicate m zc).flatten) (by rw [e1, hlist]; exact h1.rep m) (by rw [e1]; exact hone)
            refine ⟨_, .slice (some ⟨w.heap.size, 0, none⟩) m m, _, g', w.alloc (.cells (madeCells z.cells (m * sz)) e), h, ?_, k3 m sz m (Nat.le_refl _) ?_ hok, k1, k2⟩
            · simp [execOp, mkOp, hv, runs_make hT w kd m (by simpa using hc.2) (by simp; omega)]
            · have e2 : (madeCells z.cells (m * sz)).size = (madeCells z.cells (m * sz)).toList.length := by simp
              rw [e2, hlist]
              simp [List.length_flatten, hsz]
          · cases h
        · cases h
      · cases h
    · cases h
theorem amakeR_nat (sz bytes : Nat) (zc : List AV) (r : Option Nat) (x : AV) (st : St) (k : AV → St → Ans) : amakeR sz bytes zc r x st k = thenM (amakeR sz bytes zc r x st retM) k := by
  unfold amakeR
  split
  · split
    · split
      · split <;> rfl
      · rfl
    · rfl
  · rfl
theorem opMakeR_nat {b : Option Operand} {d : Nat} {dst : Option Tmp} {T : TypeId} {x : Operand} {e sz bytes : Nat} {z : Value} {hT : ElemOf P T e sz bytes z} {zc : List AV} {hz : cellsA (ofLit z) = some zc} {hsz : Nat.beq z.cells.size sz = true} {ty : TypeId} {pos : String} {after : Array Edge} {hok : okE sz e = true} : (opMakeR (P := P) b d dst T x e sz bytes z hT zc hz hsz ty pos after hok).NatM := fun ev st k => amakeR_nat _ _ _ _ _ _ _

/-- Append, the first block in a register. -/
noncomputable def aappR (sz bytes : Nat) (r : Option Nat) (s x : AV) (st : St) (k : AV → St → Ans) : Ans :=
  match s with
  | .nilsl => match rowsT sz x st with
    | none => none
    | some rows => match apOk rows.length bytes with
      | true => match Nat.beq rows.length 0 with
        | true => k .nilsl st
        | false => match r with
          | some j => match verO st.objs[j]? with
            | some v => k (.vs j (v + 1) sz rows.length) ⟨st.objs.set j (.vec (v + 1) (catC [] 0 rows)), st.tk⟩
            | none => none
          | none => none
      | false => none
  | s => aappV sz bytes s x st k
theorem aappR_nat (sz bytes : Nat) (r : Option Nat) (s x : AV) (st : St) (k : AV → St → Ans) : aappR sz bytes r s x st k = thenM (aappR sz bytes r s x st retM) k := by
  unfold aappR
  split
  · split
    · rfl
    · split
      · split
        · rfl
        · split
          · split <;> rfl
          · rfl
      · rfl
  · exact aappV_nat _ _ _ _ _ _
theorem aappR_run {T X e sz bytes : Nat} {z : Value} (hok : okE sz e = true) (hT : ElemOf P T e sz bytes z) {dx : TypeDesc} (hX : P.underlying X = some dx) (hdx : isSeq dx = true) (ty : TypeId) {g : Gh} {st : St} {w : World} (hs : StRel g st w) {S Y : AV} {s x : Value} (hS : Rel g w S s) (hY : Rel g w Y x) {r : Option Nat} {k : AV → St → Ans} {fin : Fin × St} (h : aappR sz bytes r S Y st k = some fin) :
    ∃ r v st' g' w', k r st' = some fin ∧ (Builtin.append_ #[T, X] ty #[s, x]).run P w = .ok v w' ∧ Rel g' w' r v ∧ StRel g' st' w' ∧ Ev g w g' w' := by
  have hzc : ∀ n, (Builtin.zeroCells z.cells n).toList.length = n * sz := fun n => by rw [Array.length_toList (xs := Builtin.zeroCells z.cells n), size_zeroCells, hT.cells]
  unfold aappR at h
  split at h
  · obtain rfl : s = .slice none 0 0 := hS
    split at h
    · cases h
    · rename_i rows hrows
      obtain ⟨news, h1, h2, h3, h4, h5, h6⟩ := rowsA_run (P := P) hs hY (rowsT_rowsA hrows)
      split at h
      · rename_i hc
        rw [apOk_iff] at hc
        split at h
        · rename_i h0
          have h0 := Nat.eq_of_beq_eq_true h0
          have hn : news = [] := List.eq_nil_of_length_eq_zero (by rw [h4, h0, Nat.zero_mul])
          have := run_append_fits (P := P) (p := none) (n := 0) (cap := 0) hT hX hdx ty h5 (h6 w rfl) (by omega)
          refine ⟨_, _, _, g, w, h, this, ?_, hs, Ev.refl g w⟩
          rw [h0]; rfl
        · rename_i h0
          have h0 : rows.length ≠ 0 := by intro e; rw [e] at h0; cases h0
          split at h
          · rename_i j
            split at h
            · rename_i v hv
              rw [catC, opq_eq, List.take_nil, List.nil_append] at h
              have hrun := run_append_grows (P := P) (p := none) (n := 0) (cap := 0) (olds := []) hT hX hdx ty h5 (fun w' _ => by simp [Builtin.firstCells]) h6 (by omega) (by simpa using hc)
              rw [List.nil_append, Nat.zero_add] at hrun
              have hge := grownCap_ge w rows.length 0 e
              have hlen : rows.flatten.length = news.length := RelAll.length _ _ h1
              obtain ⟨g', k1, k2, k3, _⟩ := reg_moved hs (Push.drew w (.cells (news ++ (Builtin.zeroCells z.cells (grownCap w rows.length 0 e - rows.length)).toList).toArray e)) hv (cs := rows.flatten)
                (by rw [hlen, List.toList_toArray, List.take_left]; exact h1) (fun u hu => by
                  rw [hlen, List.toList_toArray, List.take_left] at hu
                  exact h3 u hu)
              refine ⟨_, _, _, g', _, h, hrun, k3 _ sz _ hge ?_ hok, k1, k2⟩
              rw [List.size_toArray, List.length_append, hzc, h4, ← Nat.add_mul]
              exact Nat.mul_le_mul_right _ (by omega)
            · cases h
          · cases h
      · cases h
  · exact aappV_run hok hT hX hdx ty hs hS hY h
noncomputable def opAppendR (b : Option Operand) (d : Nat) (dst : Option Tmp) (s x : Operand) (T X e sz bytes : Nat) (z : Value) (hT : ElemOf P T e sz bytes z) (dx : TypeDesc) (hX : P.underlying X = some dx) (hdx : isSeq dx = true) (ty : TypeId) (pos : String) (after : Array Edge) (hok : okE sz e = true := by rfl) : MSim P :=
  MSim.makes (mkOp dst (.call { callee := .builtin .append, args := #[s, x], argTypes := #[T, X] }) ty pos after) rfl ([s, x] ++ rgOps b) (fun ev st k => aappR sz bytes (rgN (b.map ev) d) (ev s) (ev x) st k) (fun ev ev' st k h => by rw [rg_ev h, h s (by simp), h x (by simp)]) fun ev st k fin h g w a he hs => by
    obtain ⟨r, v, st', g', w', h1, h2, h3⟩ := aappR_run (P := P) hok hT hX hdx ty hs (he s (by simp)) (he x (by simp)) h
    refine ⟨r, v, st', g', w', h1, ?_, h3⟩
    rw [callBuiltin]
    simp only [builtin, List.map_toArray, List.map_cons, List.map_nil, Sem.run_bind, h2]
    rfl
theorem opAppendR_nat {b : Option Operand} {d : Nat} {dst : Option Tmp} {s x : Operand} {T X e sz bytes : Nat} {z : Value} {hT : ElemOf P T e sz bytes z} {dx : TypeDesc} {hX : P.underlying X = some dx} {hdx : isSeq dx = true} {ty : TypeId} {pos : String} {after : Array Edge} {hok : okE sz e = true} : (opAppendR (P := P) b d dst s x T X e sz bytes z hT dx hX hdx ty pos after hok).NatM := fun ev st k => aappR_nat _ _ _ _ _ _ _

/-- A register is given up: what it had never changes any more. -/
theorem reg_freed {g : Gh} {st : St} {w : World} (hs : StRel g st w) {j v : Nat} {cs : List AV} (hcs : st.objs[j]? = some (.vec v cs)) :
    ∃ g' b C E, StRel g' ⟨st.objs.set j (.nov (v + 1)), st.tk⟩ w ∧ Ev g w g' w ∧ g'.kind b = .solid ∧ w.heap[b]? = some (.cells C E (0, 0)) ∧ RelAll g w cs (C.toList.take cs.length) ∧ (∀ u ∈ C.toList.take cs.length, u.oneCell' = true) ∧ g.kind b = .vec j ∧ b < w.heap.size := by
  have hjl : j < g.objs.length := by rw [hs.len]; exact getElem?_lt hcs
  obtain ⟨hver, b, hb, hkb, C, E, hC, hr, hrc⟩ := vec_of hs hjl hcs
  have huniq := (hs.vec b j hb hkb).2
  let g' : Gh := ⟨fun x => if x = b then .solid else g.kind x, g.objs, g.tk, fun x => if x = j then v + 1 else g.ver x⟩
  have hk : ∀ x, g.kind x ≠ .vec j → g'.kind x = g.kind x := fun x hx => by simp only [g']; rw [if_neg (fun e => hx (by rw [e]; exact hkb))]
  have hback : ∀ x y, x < w.heap.size → g'.kind x = y → y ≠ .solid → g.kind x = y ∧ y ≠ .vec j := by
    intro x y hs' hx hy
    simp only [g'] at hx
    split at hx
    · exact absurd hx.symm hy
    · rename_i h; exact ⟨hx, fun e => h (huniq x hs' (hx.trans e))⟩
  have hE : Ev g w g' w := by
    refine ⟨rfl, rfl, rfl, Nat.le_refl _, fun x hx hf => ⟨?_, rfl⟩, fun x t hx hf => ⟨?_, fun C E fz h => ⟨C, h, rfl, fun _ _ => rfl⟩⟩, fun x k hx hf => .inl ?_, fun _ _ h => h, tk_refl _, fun k hk => ?_, fun x k hx hkl hf hv => ⟨?_, fun C E fz h => ⟨C, h, rfl⟩⟩, fun _ C _ fz h => ⟨C, fz, h, rfl⟩⟩
    · exact hk x (by intro e; rw [e] at hf; cases hf)
    · exact (hk x (by intro e; rw [e] at hf; cases hf)).trans hf
    · exact (hk x (by intro e; rw [e] at hf; cases hf)).trans hf
    · simp only [g']
      split
      · rename_i e; subst e; omega
      · exact Nat.le_refl _
    · refine (hk x ?_).trans hf
      intro e
      rw [e] at hf
      cases hf
      simp only [g', if_true] at hv
      omega
  refine ⟨g', b, C, E, ⟨hs.tk, by simp [g', hs.len], fun k b' o hk' ho => ?_, fun x k hx hf => ?_, fun x t hx hf => ?_, fun x k hx hf => ?_⟩, hE, by simp [g', hkb], hC, hr, hrc, hkb, hb⟩
  · by_cases hkj : k = j
    · subst hkj
      rw [List.getElem?_set_self (getElem?_lt hcs)] at ho
      cases ho
      exact ⟨(hs.obj k b' _ hk' hcs).1, by show (if k = k then v + 1 else _) = _; rw [if_pos rfl]⟩
    · rw [List.getElem?_set_ne (fun e => hkj e.symm)] at ho
      obtain ⟨p1, p2⟩ := hs.obj k b' o hk' ho
      refine ⟨p1, ?_⟩
      have hver' : g'.ver k = g.ver k := by show (if k = j then v + 1 else _) = _; rw [if_neg hkj]
      have hv : ∀ b'', b'' < w.heap.size → g.kind b'' = .vec k → w.heap[b'']? = w.heap[b'']? ∧ g'.kind b'' = .vec k := fun b'' _ hh =>
        ⟨rfl, (hk b'' (by rw [hh]; intro e; cases e; exact hkj rfl)).trans hh⟩
      cases o with
      | gone => trivial
      | nov v => exact hver'.trans p2
      | cells cs' => exact p2.keep hE rfl (hk b' (by rw [p2.1]; intro e; cases e)) hv hver'
      | map es => exact p2.keep hE rfl (hk b' (by rw [p2.1]; intro e; cases e)) hv hver'
      | vec v cs' =>
        obtain ⟨e1, b'', e2, e3, C1, E1, e4, e5, e6⟩ := p2
        obtain ⟨_, f2⟩ := hv b'' e2 e3
        exact ⟨hver'.trans e1, b'', e2, f2, C1, E1, e4, RelAll.mono hE _ _ e5, e6⟩
  · obtain ⟨k1, _⟩ := hback x _ hx hf (by intro e; cases e)
    obtain ⟨o, k3, k4, k5⟩ := hs.back x k hx k1
    have hkj : k ≠ j := by intro e; subst e; rw [hcs] at k3; cases k3; exact k5.elim
    exact ⟨o, by rw [List.getElem?_set_ne (fun e => hkj e.symm)]; exact k3, k4, k5⟩
  · obtain ⟨k1, _⟩ := hback x _ hx hf (by intro e; cases e)
    exact hs.rowlt x t hx k1
  · obtain ⟨k1, k2⟩ := hback x _ hx hf (by intro e; cases e)
    obtain ⟨⟨v', cs', k3⟩, k4⟩ := hs.vec x k hx k1
    have hkj : k ≠ j := by intro e; subst e; exact k2 rfl
    refine ⟨⟨v', cs', by rw [List.getElem?_set_ne (fun e => hkj e.symm)]; exact k3⟩, fun x' hx' hf' => ?_⟩
    obtain ⟨k5, _⟩ := hback x' _ hx' hf' (by intro e; cases e)
    exact k4 x' hx' k5

/-- A slice in a register, from now on one that never changes. -/
noncomputable def afree (x : AV) (st : St) (k : AV → St → Ans) : Ans :=
  match x with
  | .vs j v sz n => match st.objs[j]? with
    | some (.vec v' cs) => match Nat.beq v v' && inC cs 0 (mulN n sz) with
      | true => k (.ns false sz (rowsC sz n cs 0)) ⟨st.objs.set j (.nov (v' + 1)), st.tk⟩
      | false => none
    | _ => none
  | .ms j sz o n cap => match st.objs[j]? with
    | some (.cells cs) => match inC cs o (mulN n sz) with
      | true => k (.ns false sz (rowsC sz n cs o)) ⟨st.objs.set j .gone, st.tk⟩
      | false => none
    | _ => none
  | _ => none
theorem afree_nat (x : AV) (st : St) (k : AV → St → Ans) : afree x st k = thenM (afree x st retM) k := by
  unfold afree
  split
  · split
    · split <;> rfl
    · rfl
  · split
    · split <;> rfl
    · rfl
  · rfl
theorem afree_rel {g : Gh} {st : St} {w : World} (hs : StRel g st w) {x : AV} {v : Value} (hv : Rel g w x v) {k : AV → St → Ans} {fin : Fin × St} (h : afree x st k = some fin) : ∃ r st' g', k r st' = some fin ∧ Rel g' w r v ∧ StRel g' st' w ∧ Ev g w g' w := by
  unfold afree at h
  split at h
  · rename_i j ve sz n
    split at h
    · rename_i v' cs hcs
      split at h
      · rename_i hc
        rw [Bool.and_eq_true] at hc
        obtain rfl := Nat.eq_of_beq_eq_true hc.1
        have hin := hc.2
        have hrows := rowsC_some hin
        rw [List.drop_zero] at hrows
        obtain ⟨b, c, rfl, hle, hj, _, hb⟩ := hv
        obtain ⟨g', b', C, E, k1, k2, k3, k4, k5, k6, k7, k8⟩ := reg_freed hs hcs
        obtain ⟨hk, C', E', fz', hC', _⟩ := hb (by have := (vec_of hs hj hcs).1; omega)
        obtain rfl := (hs.vec b' j k8 k7).2 b (lt_of_block hC') hk
        obtain ⟨e1, e2, e3⟩ := rowsOf_list sz n _ _ hrows
        refine ⟨_, _, g', h, .inr ⟨rfl, b, 0, none, c, by rw [e1], by rw [e1]; exact hle, .inl rfl, ?_⟩, k1, k2⟩
        refine RelRows.of sz _ ((C.toList.take cs.length).take (n * sz)) b 0 e2 (by rw [e3]; exact RelAll.mono k2 _ _ (RelAll.take _ _ _ k5)) fun i u hi => ?_
        rw [List.getElem?_take] at hi
        split at hi
        · refine ⟨?_, by simp [Gh.prot, k3], k6 u (List.mem_of_getElem? hi)⟩
          rw [cell_of k4, Nat.zero_add]
          rw [List.getElem?_take] at hi
          split at hi
          · simpa using hi
          · cases hi
        · cases hi
      · cases h
    · cases h
  · rename_i j sz o n cap
    split at h
    · rename_i cs hcs
      split at h
      · rename_i hc
        obtain ⟨b, hg, rfl, hle⟩ := hv
        obtain ⟨_, C, E, hC, _⟩ := ob_of hs hg hcs
        obtain ⟨g', k1, k2, k3⟩ := frozen_obj (w' := w) hs hg hcs hC rfl rfl rfl rfl (fun _ _ => rfl) hC
        obtain ⟨b', o', sp, cap', q1, q2, _, q3, q4⟩ := k3 sz o n cap _ hle (rowsC_some hc)
        exact ⟨_, _, g', h, .inr ⟨rfl, b', o', sp, cap', q1, q2, q3, q4⟩, k1, k2⟩
      · cases h
    · cases h
  · cases h
noncomputable def opMoveZ (dst : Option Tmp) (x : Operand) (ty : TypeId) (pos : String) (after : Array Edge) : MSim P :=
  MSim.makes (mkOp dst (.move x) ty pos after) rfl [x] (fun ev st k => afree (ev x) st k) (fun ev ev' st k h => by simp only [h x (by simp)]) fun ev st k fin h g w a he hs => by
    obtain ⟨r, st', g', k1, k2, k3, k4⟩ := afree_rel hs (he x (by simp)) h
    exact ⟨r, _, st', g', w, k1, rfl, k2, k3, k4⟩
noncomputable def opAssignZ (dst : Option Tmp) (x : Operand) (ty : TypeId) (pos : String) (after : Array Edge) : MSim P :=
  MSim.makes (mkOp dst (.assign x) ty pos after) rfl [x] (fun ev st k => afree (ev x) st k) (fun ev ev' st k h => by simp only [h x (by simp)]) fun ev st k fin h g w a he hs => by
    obtain ⟨r, st', g', k1, k2, k3, k4⟩ := afree_rel hs (he x (by simp)) h
    exact ⟨r, _, st', g', w, k1, rfl, k2, k3, k4⟩
theorem opMoveZ_nat {dst : Option Tmp} {x : Operand} {ty : TypeId} {pos : String} {after : Array Edge} : (opMoveZ (P := P) dst x ty pos after).NatM := fun ev st k => afree_nat _ _ _
theorem opAssignZ_nat {dst : Option Tmp} {x : Operand} {ty : TypeId} {pos : String} {after : Array Edge} : (opAssignZ (P := P) dst x ty pos after).NatM := fun ev st k => afree_nat _ _ _

/-- Copy into a register. -/
noncomputable def acopyV (sz : Nat) (d s : AV) (st : St) (k : AV → St → Ans) : Ans :=
  match d with
  | .vs j v s' n => match Nat.beq s' sz with
    | true => match rowsT sz s st with
      | some rows => match st.objs[j]? with
        | some (.vec v' cs) => match Nat.beq v v' && inC cs 0 (mulN (minN rows.length n) sz) with
          | true => k (.int .i64 (minN rows.length n : Nat)) ⟨st.objs.set j (.vec v (setC cs 0 (flC rows (minN rows.length n)))), st.tk⟩
          | false => none
        | _ => none
      | none => none
    | false => none
  | d => acopy sz d s st k
theorem acopyV_nat (sz : Nat) (d s : AV) (st : St) (k : AV → St → Ans) : acopyV sz d s st k = thenM (acopyV sz d s st retM) k := by
  unfold acopyV
  split
  · split
    · split
      · split
        · split <;> rfl
        · rfl
      · rfl
    · rfl
  · exact acopy_nat _ _ _ _ _
noncomputable def opCopyV (dst : Option Tmp) (d s : Operand) (T X e sz : Nat) (hT : P.underlying T = some (.slice e)) (hz : (P.info? e).map (·.size) = some sz) (ty : TypeId) (pos : String) (after : Array Edge) : MSim P :=
  ⟨mkOp dst (.call { callee := .builtin .copy, args := #[d, s], argTypes := #[T, X] }) ty pos after, rfl, [d, s], fun ev st k => acopyV sz (ev d) (ev s) st k, fun ev ev' st k h => by simp only [h d (by simp), h s (by simp)], fun ev st k fin h g w a he hs => by
    have hv := he d (by simp)
    have hx := he s (by simp)
    unfold acopyV at h
    split at h
    · rename_i j v s' n hd
      split at h
      · rename_i hsz
        obtain rfl : s' = sz := by simpa using hsz
        rw [hd] at hv
        split at h
        · rename_i rows hrows
          split at h
          · rename_i v' cs hcs
            split at h
            · rename_i hin
              rw [Bool.and_eq_true] at hin
              obtain rfl := Nat.eq_of_beq_eq_true hin.1
              have hin := hin.2
              rw [inC_iff, mulN, opq_eq, minN, opq_eq, Nat.zero_add] at hin
              rw [minN, opq_eq, setC, opq_eq, flC, opq_eq] at h
              obtain ⟨vs, k1, k2, k3, k4, k5⟩ := rowsA_first (P := P) hs hx (rowsT_rowsA hrows) (min rows.length n) (by omega)
              have hl := RelAll.length _ _ k1
              obtain ⟨b, cap, hv, hle, hj, hve, hb⟩ := hv
              have hp : Rel g w (.vp j v 0) (.pointer (some ⟨b, 0, none⟩)) := ⟨b, rfl, hj, hve, fun e => by
                obtain ⟨q1, C, E, fz, q2, _⟩ := hb e
                exact ⟨q1, lt_of_block q2⟩⟩
              obtain ⟨b', g', w', s0, s1, s2, s3⟩ := store_vec (P := P) hs hp hcs k1 k2 (by rw [hl, k3, Nat.zero_add]; exact hin)
              cases s0
              refine ⟨_, _, h, told_value (g' := g') (w' := w') (v := .int .i64 (min rows.length n : Nat)) ?_ rfl s2 s3⟩
              rw [callBuiltin]
              have hrun : (Builtin.copy_ #[T, X] ty #[a.eval d, a.eval s]).run P w = .ok (.int .i64 (min rows.length n : Nat)) w' := by
                unfold Builtin.copy_
                simp only [List.getElem?_toArray, List.getElem?_cons_zero, List.getElem?_cons_succ, Sem.run_bind, run_underlying hT w, Result.andThen_ok, hv, k4, run_sizeOf' hz w]
                rw [show Nat.min rows.length n = min rows.length n from rfl, k5]
                simp only [Result.andThen_ok, s1, Sem.run_pure, goInt]
              simp [builtin, hrun]
            · cases h
          · cases h
        · cases h
      · cases h
    · exact (opCopy dst d s T X e sz hT hz ty pos after).sound ev st k fin h g w a he hs⟩
theorem opCopyV_nat {dst : Option Tmp} {d s : Operand} {T X e sz : Nat} {hT : P.underlying T = some (.slice e)} {hz : (P.info? e).map (·.size) = some sz} {ty : TypeId} {pos : String} {after : Array Edge} : (opCopyV (P := P) dst d s T X e sz hT hz ty pos after).NatM := fun ev st k => acopyV_nat _ _ _ _ _
end
end Go.V

/- Arrays; variables that are written once; objects kept ready. -/
set_option linter.unusedVariables false
set_option linter.unusedSimpArgs false
namespace Go.V
section
variable {P : Program}

/-! ### Objects kept ready -/
theorem more_nov {g : Gh} {st : St} {w : World} (hs : StRel g st w) {b0 : Nat} (hb0 : b0 < w.heap.size) (m : Nat) : ∃ g', StRel g' ⟨st.objs ++ List.replicate m (.nov 0), st.tk⟩ w ∧ Ev g w g' w := by
  let g' : Gh := ⟨g.kind, g.objs ++ List.replicate m b0, g.tk, fun x => if x < g.objs.length then g.ver x else 0⟩
  have hE : Ev g w g' w := by
    refine ⟨rfl, rfl, rfl, Nat.le_refl _, fun _ _ _ => ⟨rfl, rfl⟩, fun _ _ _ h => ⟨h, fun C _ _ hb => ⟨C, hb, rfl, fun _ _ => rfl⟩⟩, fun _ _ _ h => .inl h, fun k b hk => ?_, tk_refl _, fun k hk => ?_, fun _ _ _ _ h _ => ⟨h, fun C _ _ hb => ⟨C, hb, rfl⟩⟩, fun _ C _ fz h => ⟨C, fz, h, rfl⟩⟩
    · show (g.objs ++ _)[k]? = _
      rw [List.getElem?_append_left (getElem?_lt hk)]; exact hk
    · show g.ver k ≤ if k < g.objs.length then g.ver k else 0
      rw [if_pos hk]; exact Nat.le_refl _
  refine ⟨g', ⟨hs.tk, by simp [g', hs.len], fun k b o hk ho => ?_, fun b k hb hk => ?_, fun b t hb hk => hs.rowlt b t hb hk, fun b k hb hk => ?_⟩, hE⟩
  · by_cases hkl : k < st.objs.length
    · rw [List.getElem?_append_left hkl] at ho
      have hk : (g.objs ++ List.replicate m b0)[k]? = some b := hk
      rw [List.getElem?_append_left (by rw [hs.len]; exact hkl)] at hk
      obtain ⟨p1, p2⟩ := hs.obj k b o hk ho
      refine ⟨p1, ?_⟩
      have hver : g'.ver k = g.ver k := by show (if k < g.objs.length then _ else _) = _; rw [if_pos (by rw [hs.len]; exact hkl)]
      cases o with
      | gone => trivial
      | nov v => exact hver.trans p2
      | cells cs' => exact p2.keep hE rfl rfl (fun b' hb' hh => ⟨rfl, hh⟩) hver
      | map es => exact p2.keep hE rfl rfl (fun b' hb' hh => ⟨rfl, hh⟩) hver
      | vec v cs' =>
        obtain ⟨e1, b'', e2, e3, C1, E1, e4, e5, e6⟩ := p2
        exact ⟨hver.trans e1, b'', e2, e3, C1, E1, e4, RelAll.mono hE _ _ e5, e6⟩
    · rw [List.getElem?_append_right (by omega)] at ho
      have hk : (g.objs ++ List.replicate m b0)[k]? = some b := hk
      rw [List.getElem?_append_right (by rw [hs.len]; omega)] at hk
      rw [List.getElem?_replicate] at ho hk
      split at ho
      · cases ho
        split at hk
        · cases hk
          refine ⟨hb0, ?_⟩
          show (if k < g.objs.length then _ else _) = _
          rw [if_neg (by rw [hs.len]; exact hkl)]
        · cases hk
      · cases ho
  · obtain ⟨o, h1, h2, h3⟩ := hs.back b k hb hk
    refine ⟨o, by rw [List.getElem?_append_left (getElem?_lt h1)]; exact h1, ?_, h3⟩
    show (g.objs ++ _)[k]? = _
    rw [List.getElem?_append_left (getElem?_lt h2)]; exact h2
  · obtain ⟨⟨v, cs, h1⟩, h2⟩ := hs.vec b k hb hk
    exact ⟨⟨v, cs, by rw [List.getElem?_append_left (getElem?_lt h1)]; exact h1⟩, h2⟩

/-- The same, and objects kept ready behind it. -/
def aph (m : Nat) (st : St) (k : St → Ans) : Ans :=
  match st.objs with
  | [] => none
  | _ :: _ => k ⟨st.objs ++ List.replicate m (.nov 0), st.tk⟩
def MSim.ph (x : MSim P) (m : Nat) : MSim P where
  oper := x.oper
  plain := x.plain
  xs := x.xs
  f ev st k := x.f ev st fun r st' => aph m st' fun st'' => k r st''
  congr ev ev' st k h := x.congr ev ev' st _ h
  sound ev st k fin h g w a he hs := by
    obtain ⟨r, st', h1, h2⟩ := x.sound ev st _ fin h g w a he hs
    unfold aph at h1
    split at h1
    · cases h1
    · rename_i o os ho
      refine ⟨r, _, h1, fun next Q hn => h2 next Q fun v g' w' k1 k2 k3 => ?_⟩
      have hl : 0 < g'.objs.length := by rw [k2.len, ho]; simp
      have hb := (k2.obj 0 _ o (List.getElem?_eq_getElem hl) (by rw [ho]; rfl)).1
      obtain ⟨g'', q1, q2⟩ := more_nov k2 hb m
      exact hn v g'' w' (Rel.mono q2 _ _ k1) q1 (k3.trans q2)

/-! ### Variables that are written once -/
/-- Two operations in one. -/
structure OpSim2 (P : Program) where
  o1 : Oper
  o2 : Oper
  plain1 : o1.guard = none
  plain2 : o2.guard = none
  run : Cont → Env → St → Ans
  sound : ∀ K env st fin, run K env st = some fin → ∀ g w a, EnvRel g w env a → StRel g st w → ∀ next Q, Post K fin g w a.defers (Exit.then next Q) →
    ∀ N : Act → World → Prop, (∀ a w, o2.wp P a w next Q → N a w) → o1.wp P a w N Q

/-- Three operations in one. -/
structure OpSim3 (P : Program) where
  o1 : Oper
  o2 : Oper
  o3 : Oper
  plain1 : o1.guard = none
  plain2 : o2.guard = none
  plain3 : o3.guard = none
  run : Cont → Env → St → Ans
  sound : ∀ K env st fin, run K env st = some fin → ∀ g w a, EnvRel g w env a → StRel g st w → ∀ next Q, Post K fin g w a.defers (Exit.then next Q) →
    ∀ N M : Act → World → Prop, (∀ a w, o3.wp P a w next Q → M a w) → (∀ a w, o2.wp P a w M Q → N a w) → o1.wp P a w N Q

inductive Item (P : Program) where
  | one (o : OpSim P)
  | two (o : OpSim2 P)
  | three (o : OpSim3 P)
def Item.opers : Item P → List Oper
  | .one o => [o.oper]
  | .two o => [o.o1, o.o2]
  | .three o => [o.o1, o.o2, o.o3]
def runItems : List (Item P) → Cont → Env → St → Ans
  | [], K, env, st => K .normal env st
  | .one o :: r, K, env, st => o.run (Cont.then (runItems r K) K) env st
  | .two o :: r, K, env, st => o.run (Cont.then (runItems r K) K) env st
  | .three o :: r, K, env, st => o.run (Cont.then (runItems r K) K) env st

theorem wanted_plain {o : Oper} (h : o.guard = none) (f : Nat → Option Bool) : Region.wanted o f = true := by simp [Region.wanted, h]
theorem wpList_cons {ops : Array Oper} {Q : Exit → Act → World → Prop} {o : Oper} (h : o.guard = none) {r : List Oper} {a : Act} {w : World} (hw : o.wp P a w (wpList P ops Q r) Q) : wpList P ops Q (o :: r) a w := by
  unfold wpList
  rw [if_pos (wanted_plain h _)]
  exact .inl hw
theorem runItems_sound (ops : Array Oper) : ∀ (l : List (Item P)) (K : Cont) (env : Env) (st : St) (fin : Fin × St), runItems l K env st = some fin → ∀ g w a, EnvRel g w env a → StRel g st w → ∀ Q, Post K fin g w a.defers Q →
    wpList P ops Q (l.flatMap Item.opers) a w
  | [], K, env, st, fin, h, g, w, a, he, hs, Q, hp => hp .normal env st g w a .normal h he hs (Ev.refl g w) rfl rfl
  | x :: l, K, env, st, fin, h, g, w, a, he, hs, Q, hp => by
    have ih := runItems_sound ops l K
    have step : Post (Cont.then (runItems l K) K) fin g w a.defers (Exit.then (wpList P ops Q (l.flatMap Item.opers)) Q) := by
      intro ex env' st' g' w' a' e k1 k2 k3 k4 k5 k6
      cases ex with
      | normal =>
        obtain rfl := k6
        exact ih env' st' fin k1 g' w' a' k2 k3 Q (k5 ▸ hp.later k4)
      | exit id => obtain rfl := k6; exact hp _ _ _ _ _ _ _ k1 k2 k3 k4 k5 rfl
      | goto id => obtain rfl := k6; exact hp _ _ _ _ _ _ _ k1 k2 k3 k4 k5 rfl
      | ret => obtain rfl := k6; exact hp _ _ _ _ _ _ _ k1 k2 k3 k4 k5 rfl
      | panic v => obtain ⟨u, rfl, k7⟩ := k6; exact hp _ _ _ _ _ _ _ k1 k2 k3 k4 k5 ⟨u, rfl, k7⟩
    cases x with
    | one o => exact wpList_cons o.plain (o.sound _ env st fin h g w a he hs _ _ step)
    | two o => exact wpList_cons o.plain1 (o.sound _ env st fin h g w a he hs _ _ step _ fun a w hw => wpList_cons o.plain2 hw)
    | three o => exact wpList_cons o.plain1 (o.sound _ env st fin h g w a he hs _ _ step _ _ (fun a w hw => wpList_cons o.plain3 hw) fun a w hw => wpList_cons o.plain2 hw)

/-- A region in the text's order, of such. -/
def Sim.items (id : Nat) (l : List (Item P)) : Sim P where
  code := .region id (l.flatMap Item.opers).toArray false
  run F K env st := runItems l K env st
  sound F K env st fin hr g w a he hs Q hp := by
    refine wp_region_list ?_
    have := runItems_sound (l.flatMap Item.opers).toArray l K env st fin hr g w a he hs Q hp
    simpa using this

theorem setV_all : ∀ (L vs : List Value), vs.length = L.length → setV L 0 vs = vs
  | [], [], _ => rfl
  | l :: L, v :: vs, h => by
    have ih := setV_all L vs (by simpa using h)
    simp [setV, ih]
theorem alloc_setRow (w : World) (C D : Array Value) (E : TypeId) : (w.alloc (.cells C E)).setRow w.heap.size D = w.alloc (.cells D E) := by
  unfold World.setRow World.alloc
  congr 1
  apply Array.ext'
  apply List.ext_getElem?
  intro i
  rw [Array.getElem?_toList, Array.getElem?_toList, Array.getElem?_modify, Array.getElem?_push, Array.getElem?_push]
  by_cases h : i = w.heap.size
  · subst h; simp
  · rw [if_neg (fun e => h e.symm), if_neg h, if_neg h]

/-- Does an operand read another slot? -/
def apartT (x : Operand) (t : Tmp) : Bool :=
  match x with
  | .tmp s => !Nat.beq s t
  | .global _ => false
  | _ => true
theorem eval_put {a : Act} {x : Operand} {t : Tmp} {v : Value} (h : apartT x t = true) : (a.put (some t) v).eval x = a.eval x := by
  cases x with
  | tmp s =>
    have hne : t ≠ s := by
      intro e
      subst e
      simp [apartT] at h
    show ((a.tmps.setIfInBounds t v).getD s undef) = a.tmps.getD s undef
    simp only [Array.getD_eq_getD_getElem?, Array.getElem?_setIfInBounds, if_neg hne]
  | const v => rfl
  | func f => rfl
  | global g => cases h

/-- A variable that is written at once and never again. -/
def op2Box (dst : Tmp) (T : TypeId) (z : Value) (hz : (P.info? T).bind (·.zero) = some z) (x : Operand) (hx : apartT x dst = true) (sz : Nat) (hsz : (P.info? T).map (·.size) = some sz) (hzs : Nat.beq z.cells.size sz = true) (n : Nat) (hn : Nat.blt dst n = true) (ty ty' : TypeId) (pos pos' : String) (after after' : Array Edge) : OpSim2 P where
  o1 := mkOp (some dst) (.alloc T) ty pos after
  o2 := mkOp none (.store T (.tmp dst) x) ty' pos' after'
  plain1 := rfl
  plain2 := rfl
  run K env st := match Nat.beq env.n n with
    | true => match cellsA (env.eval x) with
      | some cs => match Nat.beq cs.length sz with
        | true => K .normal (env.put dst (.eptr cs)) st
        | false => none
      | none => none
    | false => none
  sound K env st fin h g w a he hs next Q hp N hN := by
    split at h
    · rename_i hen
      have hen := Nat.eq_of_beq_eq_true hen
      split at h
      · rename_i cs hcs
        split at h
        · rename_i hlen
          have hlen := Nat.eq_of_beq_eq_true hlen
          have hzs := Nat.eq_of_beq_eq_true hzs
          obtain ⟨h1, h1c⟩ := cellsA_rel hcs (he.eval x)
          have hl := RelAll.length _ _ h1
          have hlt : dst < a.tmps.size := by rw [he.size, hen]; simpa using hn
          have r1 : (execOp a.eval (mkOp (some dst) (.alloc T) ty pos after)).run P w = .ok (.value (.pointer (some ⟨w.heap.size, 0, none⟩))) (w.alloc (.cells z.cells T)) := by
            simp [execOp, mkOp, Instr.alloc, newVar, run_newRow, run_zeroValue' hz] <;> rfl
          have hp0 := Push.alloc w (.cells (a.eval x).cells T)
          have hE : Ev g w ⟨g.use w.heap.size .solid, g.objs, g.tk, g.ver⟩ (w.alloc (.cells (a.eval x).cells T)) := by simpa using Ev.push hp0 .solid [] g.tk (tk_refl _)
          have hs' := hs.push hp0 .solid g.tk (tk_refl _) trivial
          have hrel : Rel ⟨g.use w.heap.size .solid, g.objs, g.tk, g.ver⟩ (w.alloc (.cells (a.eval x).cells T)) (.eptr cs) (.pointer (some ⟨w.heap.size, 0, none⟩)) :=
            ⟨_, _, rfl, RelCells.of cs _ _ _ (RelAll.mono hE _ _ h1) fun j v hj => ⟨(solid_cells (g := g) hp0 g.tk (tk_refl _) g.objs j v hj).1, (solid_cells (g := g) hp0 g.tk (tk_refl _) g.objs j v hj).2, h1c v (List.mem_of_getElem? hj)⟩⟩
          have e1 : (a.put (some dst) (.pointer (some ⟨w.heap.size, 0, none⟩))).eval (.tmp dst) = .pointer (some ⟨w.heap.size, 0, none⟩) := by
            show (a.tmps.setIfInBounds dst _).getD dst undef = _
            simp only [Array.getD_eq_getD_getElem?, Array.getElem?_setIfInBounds, if_true, if_pos hlt, Option.getD_some]
          have e2 := eval_put (a := a) (v := .pointer (some ⟨w.heap.size, 0, none⟩)) hx
          have hC : (w.alloc (.cells z.cells T)).heap[w.heap.size]? = some (.cells z.cells T (0, 0)) := (Push.alloc w _).new
          have hcsz : (a.eval x).cells.toList.length = z.cells.toList.length := by rw [← hl, hlen, ← hzs]; simp
          have r2 := run_storeCells_gen (P := P) w.heap.size 0 T (0, 0) (a.eval x).cells.toList 0 z.cells (w.alloc (.cells z.cells T)) hC (by rw [hcsz]; simp) (fun j _ _ => by simp) h1c
          rw [Nat.add_zero, setV_all _ _ hcsz, Array.toArray_toList, alloc_setRow] at r2
          have r3 : (execOp (a.put (some dst) (.pointer (some ⟨w.heap.size, 0, none⟩))).eval (mkOp none (.store T (.tmp dst) x) ty' pos' after')).run P (w.alloc (.cells z.cells T)) = .ok .skip (w.alloc (.cells (a.eval x).cells T)) := by
            have hsize : (a.eval x).cells.size = sz := by rw [← hlen]; simpa using hl.symm
            simp [execOp, mkOp, Instr.storeAt, e1, e2, Instr.sureAddr, storeVar, run_sizeOf' hsz, hsize, r2]
          show Oper.upon P _ a N Q ((execOp a.eval _).run P w)
          rw [r1, Oper.upon_value]
          refine hN _ _ ?_
          show Oper.upon P _ _ next Q ((execOp _ _).run P _)
          rw [show (mkOp (some dst) (Op.alloc T) ty pos after).dst = some dst from rfl, r3, Oper.upon_skip]
          have hstr : StRel ⟨g.use w.heap.size .solid, g.objs, g.tk, g.ver⟩ st (w.alloc (.cells (a.eval x).cells T)) := by rw [hs.tk] at hs' ⊢; exact hs'
          exact hp .normal _ st _ _ _ .normal h ((he.mono hE).put dst hrel) hstr hE (put_defers ..) rfl
        · cases h
      · cases h
    · cases h
/-- The same, with a move between. -/
def op3Box (dst : Tmp) (T : TypeId) (z : Value) (hz : (P.info? T).bind (·.zero) = some z) (x : Operand) (hx : apartT x dst = true) (sz : Nat) (hsz : (P.info? T).map (·.size) = some sz) (hzs : Nat.beq z.cells.size sz = true) (n : Nat) (hn : Nat.blt dst n = true) (m : Tmp) (y : Operand) (hy : apartT y dst = true) (hm : apartT (.tmp dst) m = true) (hxm : apartT x m = true) (ty ty' tyM : TypeId) (pos pos' posM : String) (after after' afterM : Array Edge) : OpSim3 P where
  o1 := mkOp (some dst) (.alloc T) ty pos after
  o2 := mkOp (some m) (.assign y) tyM posM afterM
  o3 := mkOp none (.store T (.tmp dst) x) ty' pos' after'
  plain1 := rfl
  plain2 := rfl
  plain3 := rfl
  run K env st := match Nat.beq env.n n with
    | true => match cellsA (env.eval x) with
      | some cs => match Nat.beq cs.length sz with
        | true => K .normal ((env.put dst (.eptr cs)).put m (env.eval y)) st
        | false => none
      | none => none
    | false => none
  sound K env st fin h g w a he hs next Q hp N M hM hN := by
    split at h
    · rename_i hen
      have hen := Nat.eq_of_beq_eq_true hen
      split at h
      · rename_i cs hcs
        split at h
        · rename_i hlen
          have hlen := Nat.eq_of_beq_eq_true hlen
          have hzs := Nat.eq_of_beq_eq_true hzs
          obtain ⟨h1, h1c⟩ := cellsA_rel hcs (he.eval x)
          have hl := RelAll.length _ _ h1
          have hlt : dst < a.tmps.size := by rw [he.size, hen]; simpa using hn
          have r1 : (execOp a.eval (mkOp (some dst) (.alloc T) ty pos after)).run P w = .ok (.value (.pointer (some ⟨w.heap.size, 0, none⟩))) (w.alloc (.cells z.cells T)) := by
            simp [execOp, mkOp, Instr.alloc, newVar, run_newRow, run_zeroValue' hz] <;> rfl
          have hp0 := Push.alloc w (.cells (a.eval x).cells T)
          have hE : Ev g w ⟨g.use w.heap.size .solid, g.objs, g.tk, g.ver⟩ (w.alloc (.cells (a.eval x).cells T)) := by simpa using Ev.push hp0 .solid [] g.tk (tk_refl _)
          have hs' := hs.push hp0 .solid g.tk (tk_refl _) trivial
          have hrel : Rel ⟨g.use w.heap.size .solid, g.objs, g.tk, g.ver⟩ (w.alloc (.cells (a.eval x).cells T)) (.eptr cs) (.pointer (some ⟨w.heap.size, 0, none⟩)) :=
            ⟨_, _, rfl, RelCells.of cs _ _ _ (RelAll.mono hE _ _ h1) fun j v hj => ⟨(solid_cells (g := g) hp0 g.tk (tk_refl _) g.objs j v hj).1, (solid_cells (g := g) hp0 g.tk (tk_refl _) g.objs j v hj).2, h1c v (List.mem_of_getElem? hj)⟩⟩
          have e1 : (a.put (some dst) (.pointer (some ⟨w.heap.size, 0, none⟩))).eval (.tmp dst) = .pointer (some ⟨w.heap.size, 0, none⟩) := by
            show (a.tmps.setIfInBounds dst _).getD dst undef = _
            simp only [Array.getD_eq_getD_getElem?, Array.getElem?_setIfInBounds, if_true, if_pos hlt, Option.getD_some]
          have e2 := eval_put (a := a) (v := .pointer (some ⟨w.heap.size, 0, none⟩)) hx
          have e3 := eval_put (a := a) (v := .pointer (some ⟨w.heap.size, 0, none⟩)) hy
          have e4 := eval_put (a := a.put (some dst) (.pointer (some ⟨w.heap.size, 0, none⟩))) (v := a.eval y) hm
          have e5 := eval_put (a := a.put (some dst) (.pointer (some ⟨w.heap.size, 0, none⟩))) (v := a.eval y) hxm
          rw [e1] at e4
          rw [e2] at e5
          have hC : (w.alloc (.cells z.cells T)).heap[w.heap.size]? = some (.cells z.cells T (0, 0)) := (Push.alloc w _).new
          have hcsz : (a.eval x).cells.toList.length = z.cells.toList.length := by rw [← hl, hlen, ← hzs]; simp
          have r2 := run_storeCells_gen (P := P) w.heap.size 0 T (0, 0) (a.eval x).cells.toList 0 z.cells (w.alloc (.cells z.cells T)) hC (by rw [hcsz]; simp) (fun j _ _ => by simp) h1c
          rw [Nat.add_zero, setV_all _ _ hcsz, Array.toArray_toList, alloc_setRow] at r2
          have r3 : (execOp ((a.put (some dst) (.pointer (some ⟨w.heap.size, 0, none⟩))).put (some m) (a.eval y)).eval (mkOp none (.store T (.tmp dst) x) ty' pos' after')).run P (w.alloc (.cells z.cells T)) = .ok .skip (w.alloc (.cells (a.eval x).cells T)) := by
            have hsize : (a.eval x).cells.size = sz := by rw [← hlen]; simpa using hl.symm
            simp [execOp, mkOp, Instr.storeAt, e4, e5, Instr.sureAddr, storeVar, run_sizeOf' hsz, hsize, r2]
          show Oper.upon P _ a N Q ((execOp a.eval _).run P w)
          rw [r1, Oper.upon_value]
          refine hN _ _ ?_
          show Oper.upon P _ _ M Q ((execOp _ _).run P _)
          have rM : (execOp (a.put (some dst) (.pointer (some ⟨w.heap.size, 0, none⟩))).eval (mkOp (some m) (.assign y) tyM posM afterM)).run P (w.alloc (.cells z.cells T)) = .ok (.value (a.eval y)) (w.alloc (.cells z.cells T)) := by
            simp [execOp, mkOp, e3]
          rw [show (mkOp (some dst) (Op.alloc T) ty pos after).dst = some dst from rfl, rM, Oper.upon_value]
          refine hM _ _ ?_
          show Oper.upon P _ _ next Q ((execOp _ _).run P _)
          rw [show (mkOp (some m) (Op.assign y) tyM posM afterM).dst = some m from rfl, r3, Oper.upon_skip]
          have hstr : StRel ⟨g.use w.heap.size .solid, g.objs, g.tk, g.ver⟩ st (w.alloc (.cells (a.eval x).cells T)) := by rw [hs.tk] at hs' ⊢; exact hs'
          exact hp .normal _ st _ _ _ .normal h (((he.mono hE).put dst hrel).put m (Rel.mono hE _ _ (he.eval y))) hstr hE ((put_defers ..).trans (put_defers ..)) rfl
        · cases h
      · cases h
    · cases h
end
end Go.V
