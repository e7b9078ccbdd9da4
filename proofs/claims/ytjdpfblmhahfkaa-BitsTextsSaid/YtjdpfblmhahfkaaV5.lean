/- Pieces of slices and texts; structs and slices that are made of parts; least and greatest. -/
import Derived.Test.YtjdpfblmhahfkaaV4
set_option linter.unusedVariables false
set_option linter.unusedSimpArgs false
namespace Go.V
section
variable {P : Program}

/-- A bound. -/
def bnd (x : Option AV) (y dflt : Nat) (k : Nat → Ans) : Ans :=
  match x with
  | none => k dflt
  | some x => match x with
    | .int _ i => if 0 ≤ i ∧ i ≤ (y : Int) then k i.toNat else none
    | _ => none

theorem bnd_run {xo : Option Operand} {ev : Operand → AV} {xs : List Operand} {g : Gh} {w : World} {a : Act} (he : EvR g w ev a xs) (hx : ∀ o, xo = some o → o ∈ xs) {y dflt : Nat} {k : Nat → Ans} {fin : Fin × St} (h : bnd (xo.map ev) y dflt k = some fin) :
    ∃ n, k n = some fin ∧ (xo = none → n = dflt) ∧ ∀ o, xo = some o → n ≤ y ∧ ∀ y' code, y ≤ y' → (Instr.sliceBound (a.eval o) y' code).run P w = .ok n w := by
  cases xo with
  | none => exact ⟨dflt, h, fun _ => rfl, fun o ho => by cases ho⟩
  | some o =>
    have hv := he o (hx o rfl)
    simp only [Option.map_some, bnd] at h
    split at h
    · rename_i kd i hb
      rw [hb] at hv
      have hv : a.eval o = .int kd i := hv
      split at h
      · rename_i hc
        refine ⟨_, h, fun e => (by cases e), fun o' ho => ?_⟩
        cases ho
        refine ⟨by omega, fun y' code hy => ?_⟩
        rw [hv]
        exact run_sliceBound w kd i y' code hc.1 (by omega)
      · cases h
    · cases h

def abounds (n : Nat) (lo hi mx : Option AV) (k : Nat → Nat → Option Nat → Ans) : Ans :=
  match mx with
  | none => bnd hi n n fun h => bnd lo h 0 fun l => k l h none
  | some _ => match hi with
    | none => none
    | some _ => bnd mx n n fun m => bnd hi m 0 fun h => bnd lo h 0 fun l => k l h (some m)

theorem abounds_run {lo hi mx : Option Operand} {ev : Operand → AV} {xs : List Operand} {g : Gh} {w : World} {a : Act} (he : EvR g w ev a xs) (hlo : ∀ o, lo = some o → o ∈ xs) (hhi : ∀ o, hi = some o → o ∈ xs) (hmx : ∀ o, mx = some o → o ∈ xs) {n : Nat} {k : Nat → Nat → Option Nat → Ans} {fin : Fin × St}
    (h : abounds n (lo.map ev) (hi.map ev) (mx.map ev) k = some fin) :
    ∃ l r m, k l r m = some fin ∧ l ≤ r ∧ r ≤ m.getD n ∧ m.getD n ≤ n ∧ ∀ s cap, n ≤ cap → (Instr.sliceBounds s n cap (lo.map a.eval) (hi.map a.eval) (mx.map a.eval)).run P w = .ok (l, r, m.getD cap) w := by
  unfold abounds at h
  cases mx with
  | none =>
    simp only [Option.map_none] at h
    obtain ⟨r, h1, h2, h3⟩ := bnd_run (P := P) he hhi h
    obtain ⟨l, k1, k2, k3⟩ := bnd_run (P := P) he hlo h1
    have hr : r ≤ n := by
      cases hi with
      | none => rw [h2 rfl]; exact Nat.le_refl _
      | some o => exact (h3 o rfl).1
    have hl : l ≤ r := by
      cases lo with
      | none => rw [k2 rfl]; exact Nat.zero_le _
      | some o => exact (k3 o rfl).1
    refine ⟨l, r, none, k1, hl, hr, Nat.le_refl _, fun s cap hcap => ?_⟩
    unfold Instr.sliceBounds
    cases hi with
    | none =>
      obtain rfl := h2 rfl
      cases lo with
      | none => obtain rfl := k2 rfl; simp
      | some o => simp [(k3 o rfl).2 r _ (Nat.le_refl _)]
    | some o' =>
      cases lo with
      | none => obtain rfl := k2 rfl; simp [(h3 o' rfl).2 cap _ hcap]
      | some o => simp [(h3 o' rfl).2 cap _ hcap, (k3 o rfl).2 r _ (Nat.le_refl _)]
  | some om =>
    simp only [Option.map_some] at h
    cases hi with
    | none => cases h
    | some oh =>
      simp only [Option.map_some] at h
      obtain ⟨m, m1, m2, m3⟩ := bnd_run (P := P) (xo := some om) he hmx h
      obtain ⟨r, h1, h2, h3⟩ := bnd_run (P := P) (xo := some oh) he hhi m1
      obtain ⟨l, k1, k2, k3⟩ := bnd_run (P := P) he hlo h1
      have hl : l ≤ r := by
        cases lo with
        | none => rw [k2 rfl]; exact Nat.zero_le _
        | some o => exact (k3 o rfl).1
      refine ⟨l, r, some m, k1, hl, (h3 oh rfl).1, (m3 om rfl).1, fun s cap hcap => ?_⟩
      unfold Instr.sliceBounds
      cases lo with
      | none => obtain rfl := k2 rfl; simp [(m3 om rfl).2 cap _ hcap, (h3 oh rfl).2 m _ (Nat.le_refl _)]
      | some o => simp [(m3 om rfl).2 cap _ hcap, (h3 oh rfl).2 m _ (Nat.le_refl _), (k3 o rfl).2 r _ (Nat.le_refl _)]

/-- A piece of a text. -/
def asliceStr (x : AV) (lo hi mx : Option AV) (k : AV → Ans) : Ans :=
  match x with
  | .str s => match mx with
    | none => abounds s.size lo hi none fun l h _ => k (.str (s.extract l h))
    | some _ => none
  | _ => none

theorem map_evO {ev ev' : Operand → AV} {xs : List Operand} (h : ∀ x ∈ xs, ev x = ev' x) {o : Option Operand} (ho : ∀ x, o = some x → x ∈ xs) : o.map ev = o.map ev' := by
  cases o with
  | none => rfl
  | some x => simp only [Option.map_some, h x (ho x rfl)]

/-- The operands of a piece. -/
def sliceOps (x : Operand) (lo hi mx : Option Operand) : List Operand := x :: (lo.toList ++ (hi.toList ++ mx.toList))
theorem sliceOps_lo {x : Operand} {lo hi mx : Option Operand} : ∀ o, lo = some o → o ∈ sliceOps x lo hi mx := fun o h => by subst h; simp [sliceOps]
theorem sliceOps_hi {x : Operand} {lo hi mx : Option Operand} : ∀ o, hi = some o → o ∈ sliceOps x lo hi mx := fun o h => by subst h; simp [sliceOps]
theorem sliceOps_mx {x : Operand} {lo hi mx : Option Operand} : ∀ o, mx = some o → o ∈ sliceOps x lo hi mx := fun o h => by subst h; simp [sliceOps]
theorem sliceOps_x {x : Operand} {lo hi mx : Option Operand} : x ∈ sliceOps x lo hi mx := by simp [sliceOps]

def opSliceStr (dst : Option Tmp) (T : TypeId) (x : Operand) (lo hi : Option Operand) (hT : P.underlying T = some .string) (ty : TypeId) (pos : String) (after : Array Edge) : PSim P :=
  PSim.quiet (mkOp dst (.slice T x lo hi none) ty pos after) rfl (sliceOps x lo hi none) (fun ev k => asliceStr (ev x) (lo.map ev) (hi.map ev) none k)
    (fun ev ev' k h => by simp only [h x sliceOps_x, map_evO h (o := lo) sliceOps_lo, map_evO h (o := hi) sliceOps_hi]) fun ev k fin h g w a st he hs => by
    have hv := he x sliceOps_x
    unfold asliceStr at h
    split at h
    · rename_i s hb
      rw [hb] at hv
      have hv : a.eval x = .string s := hv
      obtain ⟨l, r, m, h1, h2, h3, h4, h5⟩ := abounds_run (P := P) (mx := none) he sliceOps_lo sliceOps_hi sliceOps_mx h
      have h6 := h5 false s.size (Nat.le_refl _)
      exact ⟨_, _, h1, by simp only [Option.map_none] at h6; simp [execOp, mkOp, Instr.sliceAt, Instr.slice, hv, run_underlying hT, h6], rfl⟩
    · cases h

/-- A piece of a slice. -/
def asl (sz : Nat) (x : AV) (lo hi mx : Option AV) (k : AV → Ans) : Ans :=
  match x with
  | .nilsl => abounds 0 lo hi mx fun _ _ _ => k .nilsl
  | .sl s full l => match Nat.beq s sz with
    | true => abounds l.length lo hi mx fun i j m => k (.sl sz (match m with | none => full && Nat.beq j l.length | some m => Nat.beq j m) ((l.take j).drop i))
    | false => none
  | .lg _ s l => match Nat.beq s sz with
    | true => abounds l.length lo hi mx fun i j m => k (.sl sz (match m with | none => false | some m => Nat.beq j m) ((l.take j).drop i))
    | false => none
  | .ms b s o n cap => match Nat.beq s sz with
    | true => abounds n lo hi mx fun i j m => if i < m.getD cap then k (.ms b sz (o + i * sz) (j - i) (m.getD cap - i)) else k (.sl sz true [])
    | false => none
  | _ => none

theorem run_slice_of {T e sz : Nat} (hT : P.underlying T = some (.slice e)) (hz : (P.info? e).map (·.size) = some sz) {w : World} {p : Option Addr} {n cap l r m : Nat} {lo hi mx : Option Value}
    (h : (Instr.sliceBounds true n cap lo hi mx).run P w = .ok (l, r, m) w) :
    (Instr.sliceAt T (.slice p n cap) lo hi mx).run P w = .ok (.slice (if m = l then p else p.map (·.add (l * sz))) (r - l) (m - l)) w := by
  simp [Instr.sliceAt, Instr.slice, run_underlying hT, h, run_sizeOf' hz]

theorem rows_piece {g : Gh} {w : World} {sz : Nat} {l : List (List AV)} {b o : Nat} (h : RelRows g w sz l b o) (i j : Nat) : RelRows g w sz ((l.take j).drop i) b (o + i * sz) :=
  RelRows.drop sz i _ b o (RelRows.take sz j l b o h)

def opSlice (dst : Option Tmp) (T : TypeId) (x : Operand) (lo hi mx : Option Operand) (e sz : Nat) (hT : P.underlying T = some (.slice e)) (hz : (P.info? e).map (·.size) = some sz) (ty : TypeId) (pos : String) (after : Array Edge) : PSim P :=
  PSim.quiet (mkOp dst (.slice T x lo hi mx) ty pos after) rfl (sliceOps x lo hi mx) (fun ev k => asl sz (ev x) (lo.map ev) (hi.map ev) (mx.map ev) k)
    (fun ev ev' k h => by simp only [h x sliceOps_x, map_evO h (o := lo) sliceOps_lo, map_evO h (o := hi) sliceOps_hi, map_evO h (o := mx) sliceOps_mx]) fun ev k fin h g w a st he hs => by
    have hv := he x sliceOps_x
    have key : ∀ p n cap l r m, a.eval x = .slice p n cap → (Instr.sliceBounds true n cap (lo.map a.eval) (hi.map a.eval) (mx.map a.eval)).run P w = .ok (l, r, m) w →
        (execOp a.eval (mkOp dst (.slice T x lo hi mx) ty pos after)).run P w = .ok (.value (.slice (if m = l then p else p.map (·.add (l * sz))) (r - l) (m - l))) w := by
      intro p n cap l r m h1 h2
      have := run_slice_of (P := P) hT hz (p := p) h2
      simp [execOp, mkOp, h1, this]
    have frozen : ∀ b o sp cap full' (l : List (List AV)) i j m, (sp = none ∨ l = []) → a.eval x = .slice (some ⟨b, o, sp⟩) l.length cap → l.length ≤ cap → RelRows g w sz l b o → k (.sl sz full' ((l.take j).drop i)) = some fin → i ≤ j → j ≤ (Option.getD m l.length) → Option.getD m l.length ≤ l.length →
        (full' = true → Option.getD m cap = j) →
        (Instr.sliceBounds true l.length cap (lo.map a.eval) (hi.map a.eval) (mx.map a.eval)).run P w = .ok (i, j, Option.getD m cap) w → ∃ r v, k r = some fin ∧ (execOp a.eval (mkOp dst (.slice T x lo hi mx) ty pos after)).run P w = .ok (.value v) w ∧ Rel g w r v := by
      intro b o sp cap full' l i j m hsp h1 h2 h3 h4 h5 h6 h7 h8 h9
      have hlen : ((l.take j).drop i).length = j - i := by simp; omega
      have hmc : j ≤ Option.getD m cap := by cases m <;> simp at h6 h7 ⊢ <;> omega
      refine ⟨_, _, h4, key _ _ _ _ _ _ h1 h9, ?_⟩
      by_cases hm : Option.getD m cap = i
      · rw [if_pos hm]
        have h0 : (l.take j).drop i = [] := by apply List.eq_nil_of_length_eq_zero; omega
        refine ⟨b, o, sp, Option.getD m cap - i, by rw [h0]; simp; omega, by rw [hlen]; omega, fun _ => by rw [hlen]; omega, .inr h0, by rw [h0]; trivial⟩
      · rw [if_neg hm]
        rcases hsp with rfl | rfl
        · exact ⟨b, o + i * sz, none, Option.getD m cap - i, by rw [hlen, Option.map_some, add_none], by rw [hlen]; omega, fun hf => by rw [hlen, h8 hf], .inl rfl, rows_piece h3 i j⟩
        · simp only [List.length_nil] at h6 h7
          have hj0 : j = 0 := by omega
          have hi0 : i = 0 := by omega
          subst hj0; subst hi0
          exact ⟨b, o, sp, Option.getD m cap, by simp [Addr.add], by simp, fun hf => by simp [h8 hf], .inr rfl, trivial⟩
    unfold asl at h
    split at h
    · rename_i hb
      rw [hb] at hv
      have hv : a.eval x = .slice none 0 0 := hv
      obtain ⟨i, j, m, h1, h2, h3, h4, h5⟩ := abounds_run (P := P) he sliceOps_lo sliceOps_hi sliceOps_mx h
      refine ⟨_, _, h1, key _ _ _ _ _ _ hv (h5 true 0 (Nat.le_refl _)), ?_⟩
      have hm0 : Option.getD m 0 = 0 := by omega
      have hi0 : i = 0 := by omega
      have hj0 : j = 0 := by omega
      subst hi0; subst hj0
      simp [Rel, hm0]
    · rename_i s full l hb
      split at h
      · rename_i hsz
        obtain rfl : s = sz := by simpa using hsz
        rw [hb] at hv
        obtain ⟨b, o, sp, cap, hv, hle, hf, hsp, hr⟩ := hv
        obtain ⟨i, j, m, h1, h2, h3, h4, h5⟩ := abounds_run (P := P) he sliceOps_lo sliceOps_hi sliceOps_mx h
        refine frozen b o sp cap _ l i j m hsp hv hle hr h1 h2 h3 h4 ?_ (h5 true cap hle)
        intro hfull
        cases m with
        | none =>
          simp only [Bool.and_eq_true] at hfull
          have : j = l.length := by simpa using hfull.2
          simp [hf hfull.1, this]
        | some m => have : j = m := by simpa using hfull
                    simp [this]
      · cases h
    · rename_i t s l hb
      split at h
      · rename_i hsz
        obtain rfl : s = sz := by simpa using hsz
        rw [hb] at hv
        obtain ⟨b, cap, C, E, fz, hv, hle, _, _, _, _, _, hr⟩ := hv
        obtain ⟨i, j, m, h1, h2, h3, h4, h5⟩ := abounds_run (P := P) he sliceOps_lo sliceOps_hi sliceOps_mx h
        refine frozen b 0 none cap _ l i j m (.inl rfl) hv hle hr h1 h2 h3 h4 ?_ (h5 true cap hle)
        intro hfull
        cases m with
        | none => cases hfull
        | some m => have : j = m := by simpa using hfull
                    simp [this]
      · cases h
    · rename_i b s o n cap hb
      split at h
      · rename_i hsz
        obtain rfl : s = sz := by simpa using hsz
        rw [hb] at hv
        obtain ⟨B, hg, hv, hle⟩ := hv
        obtain ⟨i, j, m, h1, h2, h3, h4, h5⟩ := abounds_run (P := P) he sliceOps_lo sliceOps_hi sliceOps_mx h
        have hm : Option.getD m n ≤ Option.getD m cap := by cases m <;> simp [hle]
        split at h1
        · rename_i hlt
          refine ⟨_, _, h1, key _ _ _ _ _ _ hv (h5 true cap hle), B, hg, ?_, by omega⟩
          rw [if_neg (by omega), Option.map_some, add_none]
        · rename_i hlt
          have : Option.getD m cap = i := by omega
          refine ⟨_, _, h1, key _ _ _ _ _ _ hv (h5 true cap hle), B, o, none, 0, ?_, Nat.le_refl _, fun _ => rfl, .inl rfl, trivial⟩
          rw [if_pos this]
          simp; omega
      · cases h
    · cases h

/-- The whole of an array behind a pointer, as a slice: its rows. -/
def rowsOf (sz : Nat) : Nat → List AV → Option (List (List AV))
  | 0, _ => some []
  | n + 1, cs => match takeN sz cs with
    | some r => match rowsOf sz n (cs.drop sz) with
      | some l => some (r :: l)
      | none => none
    | none => none

theorem rowsOf_rel {g : Gh} {w : World} (sz : Nat) : ∀ (n : Nat) (cs : List AV) (b o : Nat) (l : List (List AV)), rowsOf sz n cs = some l → RelCells g w cs b o → l.length = n ∧ RelRows g w sz l b o
  | 0, cs, b, o, l, h, _ => by simp [rowsOf] at h; subst h; exact ⟨rfl, trivial⟩
  | n + 1, cs, b, o, l, h, hc => by
    simp only [rowsOf] at h
    split at h
    · rename_i r hr
      split at h
      · rename_i l' hl
        simp only [Option.some.injEq] at h
        subst h
        obtain ⟨rfl, hle⟩ := takeN_eq _ _ _ hr
        obtain ⟨h1, h2⟩ := rowsOf_rel sz n _ b (o + sz) l' hl (RelCells.drop sz cs b o hc)
        refine ⟨by simp [h1], by simp; omega, ?_, h2⟩
        obtain ⟨vs, k1, k2⟩ := RelCells.values cs b o hc
        exact RelCells.of _ (vs.take sz) b o (RelAll.take sz _ _ k1) fun j v hj => k2 j v (by
          rw [List.getElem?_take] at hj
          split at hj
          · exact hj
          · cases hj)
      · cases h
    · cases h

def aslArr (n sz : Nat) (x : AV) (k : AV → Ans) : Ans :=
  match x with
  | .ptr b o => k (.ms b sz o n n)
  | .eptr cs => match rowsOf sz n cs with
    | some l => k (.sl sz true l)
    | none => none
  | _ => none

/-- The whole of an array behind a pointer, as a slice. -/
def opSliceArr (dst : Option Tmp) (T : TypeId) (x : Operand) (n e sz : Nat) (hT : P.underlying T = some (.array n e)) (hn : n ≠ 0) (hz : (P.info? e).map (·.size) = some sz) (ty : TypeId) (pos : String) (after : Array Edge) : PSim P :=
  PSim.quiet (mkOp dst (.slice T x none none none) ty pos after) rfl [x] (fun ev k => aslArr n sz (ev x) k) (fun ev ev' k h => by simp only [h x (by simp)]) fun ev k fin h g w a st he hs => by
    have hv := he x (by simp)
    have key : ∀ b o, a.eval x = .pointer (some ⟨b, o, none⟩) → (execOp a.eval (mkOp dst (.slice T x none none none) ty pos after)).run P w = .ok (.value (.slice (some ⟨b, o, none⟩) n n)) w := by
      intro b o hv
      simp [execOp, mkOp, Instr.sliceAt, run_underlying hT, hv, Instr.sureAddr, Instr.sliceBounds, run_sizeOf' hz, hn, add_none]
    unfold aslArr at h
    split at h
    · rename_i b o hb
      rw [hb] at hv
      obtain ⟨B, hg, hv⟩ := hv
      exact ⟨_, _, h, key B o hv, B, hg, rfl, Nat.le_refl _⟩
    · rename_i cs hb
      rw [hb] at hv
      obtain ⟨B, o, hv, hc⟩ := hv
      split at h
      · rename_i l hl
        obtain ⟨h1, h2⟩ := rowsOf_rel sz n cs B o l hl hc
        exact ⟨_, _, h, key B o hv, B, o, none, n, by rw [h1], by omega, fun _ => h1.symm, .inl rfl, h2⟩
      · cases h
    · cases h

/-! ### Structs out of parts -/
def cellsA (x : AV) : Option (List AV) :=
  match x with
  | .agg cs => some cs
  | .tup _ => none
  | .dead => none
  | x => some [x]

theorem cellsA_rel {g : Gh} {w : World} {x : AV} {v : Value} {cs : List AV} (h : cellsA x = some cs) (hv : Rel g w x v) : RelAll g w cs v.cells.toList ∧ ∀ u ∈ v.cells.toList, u.oneCell' = true := by
  cases x <;> simp only [cellsA, Option.some.injEq] at h <;> (try (cases h; done)) <;> subst h
  case agg cs => obtain ⟨vs, rfl, hr, h1c⟩ := hv; exact ⟨hr, h1c⟩
  all_goals
    have hv' := hv
    simp only [Rel] at hv'
    first
      | (subst hv'; exact ⟨⟨_, [], rfl, hv, rfl⟩, by simp [Value.cells, Value.oneCell']⟩)
      | (obtain ⟨_, _, _, rfl, _⟩ := hv'; exact ⟨⟨_, [], rfl, hv, rfl⟩, by simp [Value.cells, Value.oneCell']⟩)
      | (obtain ⟨_, _, _, _, rfl, _⟩ := hv'; exact ⟨⟨_, [], rfl, hv, rfl⟩, by simp [Value.cells, Value.oneCell']⟩)
      | (obtain ⟨_, _, _, _, _, rfl, _⟩ := hv'; exact ⟨⟨_, [], rfl, hv, rfl⟩, by simp [Value.cells, Value.oneCell']⟩)
      | (obtain ⟨_, _, rfl⟩ := hv'; exact ⟨⟨_, [], rfl, hv, rfl⟩, by simp [Value.cells, Value.oneCell']⟩)
      | (obtain ⟨_, _, rfl, _⟩ := hv'; exact ⟨⟨_, [], rfl, hv, rfl⟩, by simp [Value.cells, Value.oneCell']⟩)
      | (obtain ⟨_, rfl, _⟩ := hv'; exact ⟨⟨_, [], rfl, hv, rfl⟩, by simp [Value.cells, Value.oneCell']⟩)

/-- Cells from a place on are replaced. -/
def setAt : List AV → Nat → List AV → List AV
  | cs, _, [] => cs
  | [], _, _ => []
  | _ :: cs, 0, x :: xs => x :: setAt cs 0 xs
  | c :: cs, n + 1, xs => c :: setAt cs n xs

def setV : List Value → Nat → List Value → List Value
  | cs, _, [] => cs
  | [], _, _ => []
  | _ :: cs, 0, x :: xs => x :: setV cs 0 xs
  | c :: cs, n + 1, xs => c :: setV cs n xs

theorem setAt_rel {g : Gh} {w : World} : ∀ (cs : List AV) (n : Nat) (xs : List AV) (vs us : List Value), RelAll g w cs vs → RelAll g w xs us → RelAll g w (setAt cs n xs) (setV vs n us)
  | cs, n, [], vs, us, h, k => by obtain rfl : us = [] := k; cases cs <;> cases vs <;> simpa [setAt, setV] using h
  | [], n, x :: xs, vs, us, h, k => by obtain rfl : vs = [] := h; obtain ⟨u, ur, rfl, _, _⟩ := k; rfl
  | c :: cs, 0, x :: xs, vs, us, ⟨v, vr, e, _, h⟩, ⟨u, ur, e', hu, k⟩ => by
    subst e; subst e'
    exact ⟨u, _, rfl, hu, setAt_rel cs 0 xs vr ur h k⟩
  | c :: cs, n + 1, x :: xs, vs, us, ⟨v, vr, e, hv, h⟩, ⟨u, ur, e', hu, k⟩ => by
    subst e; subst e'
    exact ⟨v, _, rfl, hv, setAt_rel cs n (x :: xs) vr (u :: ur) h ⟨u, ur, rfl, hu, k⟩⟩

theorem length_setV : ∀ (cs : List Value) (n : Nat) (xs : List Value), (setV cs n xs).length = cs.length
  | cs, n, [] => by cases cs <;> rfl
  | [], n, x :: xs => rfl
  | c :: cs, 0, x :: xs => by simp [setV, length_setV cs 0 xs]
  | c :: cs, n + 1, x :: xs => by simp [setV, length_setV cs n (x :: xs)]

theorem set_setV : ∀ (cs : List Value) (n : Nat) (x : Value) (xs : List Value), n < cs.length → setV (cs.set n x) (n + 1) xs = setV cs n (x :: xs)
  | [], n, x, xs, h => by simp at h
  | c :: cs, 0, x, xs, h => by
    cases xs with
    | nil => cases cs <;> rfl
    | cons y ys => rfl
  | c :: cs, n + 1, x, xs, h => by
    have := set_setV cs n x xs (by simpa using h)
    cases xs with
    | nil => simp only [List.set_cons_succ, setV]; rw [← this]; cases hc : (cs.set n x) <;> rfl
    | cons y ys => simp only [List.set_cons_succ, setV]; rw [this]

theorem mem_setV : ∀ (cs : List Value) (n : Nat) (xs : List Value) (u : Value), u ∈ setV cs n xs → u ∈ cs ∨ u ∈ xs
  | [], n, [], u, h => .inl h
  | c :: cs, n, [], u, h => .inl h
  | [], n, x :: xs, u, h => .inl h
  | c :: cs, 0, x :: xs, u, h => by
    simp only [setV, List.mem_cons] at h ⊢
    rcases h with h | h
    · exact .inr (.inl h)
    · rcases mem_setV cs 0 xs u h with h | h
      · exact .inl (.inr h)
      · exact .inr (.inr h)
  | c :: cs, n + 1, x :: xs, u, h => by
    simp only [setV, List.mem_cons] at h
    rcases h with h | h
    · exact .inl (by simp [h])
    · rcases mem_setV cs n (x :: xs) u h with h | h
      · exact .inl (by simp [h])
      · exact .inr h

theorem foldl_setV : ∀ (xs : List Value) (cs : Array Value) (off k : Nat), off + k + xs.length ≤ cs.size →
    ((xs.zipIdx k).foldl (fun cs (x : Value × Nat) => cs.setIfInBounds (off + x.2) x.1) cs).toList = setV cs.toList (off + k) xs
  | [], cs, off, k, h => by cases hc : cs.toList <;> simp [setV, hc]
  | x :: xs, cs, off, k, h => by
    simp only [List.zipIdx_cons, List.foldl_cons]
    rw [foldl_setV xs _ off (k + 1) (by simp at h ⊢; omega)]
    rw [Array.toList_setIfInBounds, ← Nat.add_assoc]
    exact set_setV _ _ _ _ (by simp at h ⊢; omega)

/-- Parts into cells: where each begins, how many cells it has. -/
def aparts : List (Nat × Nat × AV) → List AV → (List AV → Ans) → Ans
  | [], cs, k => k cs
  | (off, sz, x) :: r, cs, k => match cellsA x with
    | some xs => if xs.length = sz ∧ off + sz ≤ cs.length then aparts r (setAt cs off xs) k else none
    | none => none

theorem aparts_run {g : Gh} {w : World} {ev : Operand → AV} {a : Act} {xs : List Operand} (he : EvR g w ev a xs) (place : Nat → Option (Nat × Nat)) {k : List AV → Ans} {fin : Fin × St} :
    ∀ (parts : List (Nat × Nat × Nat × Operand)), (∀ p ∈ parts, p.2.2.2 ∈ xs) → (∀ p ∈ parts, place p.1 = some (p.2.1, p.2.2.1)) → ∀ (cs : List AV) (vs : Array Value), RelAll g w cs vs.toList → (∀ u ∈ vs.toList, u.oneCell' = true) →
      aparts (parts.map fun p => (p.2.1, p.2.2.1, ev p.2.2.2)) cs k = some fin →
      ∃ ds us, k ds = some fin ∧ Instr.fill place vs (parts.map fun p => (p.1, a.eval p.2.2.2)) = some us ∧ RelAll g w ds us.toList ∧ ∀ u ∈ us.toList, u.oneCell' = true
  | [], _, _, cs, vs, hr, h1c, h => ⟨cs, vs, h, rfl, hr, h1c⟩
  | (i, off, sz, x) :: parts, hpx, hp, cs, vs, hr, h1c, h => by
    simp only [List.map_cons, aparts] at h
    split at h
    · rename_i xs' hxs
      split at h
      · rename_i hc
        obtain ⟨hv, hvc⟩ := cellsA_rel hxs (he x (hpx _ (List.mem_cons_self)))
        have hlen := RelAll.length _ _ hv
        have hlen2 := RelAll.length _ _ hr
        have hlen : xs'.length = (a.eval x).cells.size := by simpa using hlen
        have hlen2 : cs.length = vs.size := by simpa using hlen2
        have e := foldl_setV (a.eval x).cells.toList vs off 0 (by simp; omega)
        have e : ((((a.eval x).cells.zipIdx).foldl (fun cs (c, j) => cs.setIfInBounds (off + j) c) vs)).toList = setV vs.toList off (a.eval x).cells.toList := by
          rw [← Array.foldl_toList, Array.toList_zipIdx]; exact e
        obtain ⟨ds, us, h1, h2, h3⟩ := aparts_run he place parts (fun q hq => hpx q (List.mem_cons_of_mem _ hq)) (fun q hq => hp q (List.mem_cons_of_mem _ hq)) _ ((((a.eval x).cells.zipIdx).foldl (fun cs (c, j) => cs.setIfInBounds (off + j) c) vs)) (by
          rw [e]
          exact setAt_rel cs off xs' _ _ hr hv) (by
          rw [e]
          intro u hu
          rcases mem_setV _ _ _ _ hu with hu | hu
          · exact h1c u hu
          · exact hvc u hu) h
        refine ⟨ds, us, h1, ?_, h3⟩
        simp only [List.map_cons, Instr.fill, hp _ (List.mem_cons_self)]
        rw [if_neg (by simp; omega)]
        exact h2
      · cases h
    · cases h

def placesOf (P : Program) : List Field → Option (List (Nat × Nat))
  | [] => some []
  | f :: r => match P.info? f.type with
    | some i => match placesOf P r with
      | some l => some ((f.offset, i.size) :: l)
      | none => none
    | none => none

theorem placesOf_run {w : World} : ∀ (fs : List Field) (l : List (Nat × Nat)), placesOf P fs = some l → (fs.mapM (m := Sem) fun f => do pure (f.offset, ← sizeOf f.type)).run P w = .ok l w
  | [], l, h => by simp [placesOf] at h; subst h; rfl
  | f :: r, l, h => by
    simp only [placesOf] at h
    split at h
    · rename_i i hi
      split at h
      · rename_i l' hl
        simp only [Option.some.injEq] at h
        subst h
        rw [List.mapM_cons]
        have h1 := run_sizeOf' (P := P) (t := f.type) (n := i.size) (by rw [hi]; rfl) w
        have h2 := placesOf_run (w := w) r l' hl
        simp only [Sem.run_bind, Sem.run_pure, h1, Result.andThen_ok]
        rw [h2]
        rfl
      · cases h
    · cases h

/-- What a struct is made of: its zero value, where its fields lie. -/
def buildB (P : Program) (T : TypeId) (Z : Array Value) (parts : List (Nat × Nat × Nat × Operand)) : Bool :=
  match P.underlying T with
  | some (.struct fs) => match placesOf P fs.toList with
    | some l => Z.toList.all Value.oneCell' && parts.all fun p => match l[p.1]? with
      | some x => Nat.beq x.1 p.2.1 && Nat.beq x.2 p.2.2.1
      | none => false
    | none => false
  | _ => false

def abuild (Z : Array Value) (parts : List (Nat × Nat × AV)) (k : AV → Ans) : Ans := aparts parts (Z.toList.map ofLitS) fun cs => k (.agg cs)

theorem parts_ev {ev ev' : Operand → AV} {parts : List (Nat × Nat × Nat × Operand)} (h : ∀ x ∈ parts.map (·.2.2.2), ev x = ev' x) : (parts.map fun p => (p.2.1, p.2.2.1, ev p.2.2.2)) = parts.map fun p => (p.2.1, p.2.2.1, ev' p.2.2.2) :=
  List.map_congr_left fun p hp => by rw [h p.2.2.2 (List.mem_map_of_mem hp)]

def opBuild (dst : Option Tmp) (T : TypeId) (Z : Array Value) (parts : List (Nat × Nat × Nat × Operand)) (hz : (P.info? T).bind (·.zero) = some (.agg Z)) (hb : buildB P T Z parts = true) (ty : TypeId) (pos : String) (after : Array Edge) : PSim P :=
  PSim.quiet (mkOp dst (.build T (parts.map fun p => (p.1, p.2.2.2)).toArray) ty pos after) rfl (parts.map (·.2.2.2)) (fun ev k => abuild Z (parts.map fun p => (p.2.1, p.2.2.1, ev p.2.2.2)) k)
    (fun ev ev' k h => by rw [parts_ev h]) fun ev k fin h g w a st he hs => by
    unfold buildB at hb
    split at hb
    · rename_i fs hu
      split at hb
      · rename_i l hl
        rw [Bool.and_eq_true] at hb
        have hb2 := List.all_eq_true.mp hb.2
        have hp : ∀ p ∈ parts, (l.toArray)[p.1]? = some (p.2.1, p.2.2.1) := by
          intro p hp
          have := hb2 p hp
          rw [List.getElem?_toArray]
          split at this
          · rename_i x hx
            simp only [Bool.and_eq_true] at this
            rw [hx]
            have e1 : x.1 = p.2.1 := by simpa using this.1
            have e2 : x.2 = p.2.2.1 := by simpa using this.2
            rw [← e1, ← e2]
          · cases this
        obtain ⟨ds, us, h1, h2, h3, h4⟩ := aparts_run he (fun i => l.toArray[i]?) parts (fun p hp => List.mem_map_of_mem hp) hp _ Z (ofLits_rel g w Z.toList) (List.all_eq_true.mp hb.1) h
        refine ⟨_, _, h1, ?_, us, rfl, h3, h4⟩
        have hpl : (fs.mapM (m := Sem) fun f => do pure (f.offset, ← sizeOf f.type)).run P w = .ok l.toArray w := by
          rw [Array.mapM_eq_mapM_toList, Sem.run_map, placesOf_run _ _ hl]; rfl
        have h2' : Instr.fill (fun i => l.toArray[i]?) Z (List.map (fun x => match x with | (i, x) => (i, a.eval x)) (parts.map fun p => (p.1, p.2.2.2))) = some us := by
          rw [List.map_map]; exact h2
        simp only [execOp, mkOp, Instr.build, Sem.run_bind, run_zeroValue' hz, Result.andThen_ok, run_underlying hu, hpl, Value.cells, List.map_toArray]
        rw [h2']
        rfl
      · cases hb
    · cases hb

/-! ### Least and greatest -/
def leastI (mx : Bool) (a b : Int) : Int :=
  match mx with
  | true => if b > a then b else a
  | false => if b < a then b else a

def aminmax (mx : Bool) (x : AV) : List AV → (AV → Ans) → Ans
  | [], k => k x
  | y :: r, k => match x with
    | .int kx a => match y with
      | .int _ b => aminmax mx (.int kx (leastI mx a b)) r k
      | _ => none
    | _ => none

theorem aminmax_run (mx : Bool) {g : Gh} {w : World} {k : AV → Ans} {fin : Fin × St} : ∀ (ys : List AV) (us : List Value) (x : AV) (v : Value), Rel g w x v → RelAll g w ys us → aminmax mx x ys k = some fin →
    ∃ r u, k r = some fin ∧ (us.foldlM (match mx with | true => Builtin.max2 | false => Builtin.min2) v).run P w = .ok u w ∧ Rel g w r u
  | [], us, x, v, hx, hy, h => by obtain rfl : us = [] := hy; exact ⟨x, v, h, rfl, hx⟩
  | y :: ys, us, x, v, hx, ⟨u, ur, e, hu, hy⟩, h => by
    subst e
    simp only [aminmax] at h
    split at h
    · rename_i kx p
      split at h
      · rename_i ky q
        obtain rfl : v = .int kx p := hx
        obtain rfl : u = .int ky q := hu
        obtain ⟨r, z, h1, h2, h3⟩ := aminmax_run mx ys ur (.int kx (leastI mx p q)) (.int kx (leastI mx p q)) rfl hy h
        refine ⟨r, z, h1, ?_, h3⟩
        rw [List.foldlM_cons, Sem.run_bind]
        cases mx <;> simpa [Builtin.max2, Builtin.min2, leastI] using h2
      · cases h
    · cases h

def opMinMax (dst : Option Tmp) (mx : Bool) (x : Operand) (ys : List Operand) (tys : Array TypeId) (ty : TypeId) (pos : String) (after : Array Edge) : PSim P :=
  PSim.quiet (mkOp dst (.call { callee := .builtin (match mx with | true => .max | false => .min), args := (x :: ys).toArray, argTypes := tys }) ty pos after) rfl (x :: ys) (fun ev k => aminmax mx (ev x) (ys.map ev) k)
    (fun ev ev' k h => by rw [h x (by simp), map_ev h (ys := ys) (fun y hy => by simp [hy])]) fun ev k fin h g w a st he hs => by
    obtain ⟨r, v, h1, h2, h3⟩ := aminmax_run (P := P) mx _ _ _ _ (he x (by simp)) (he.list ys fun y hy => by simp [hy]) h
    refine ⟨r, v, h1, ?_, h3⟩
    rw [callBuiltin]
    cases mx
    · simp only [builtin, Builtin.min_, List.map_toArray, List.map_cons, Sem.run_bind]
      rw [h2]; rfl
    · simp only [builtin, Builtin.max_, List.map_toArray, List.map_cons, Sem.run_bind]
      rw [h2]; rfl

end
end Go.V
