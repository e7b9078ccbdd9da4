/- Slices that are made and that grow; copies; texts and bytes. -/
import Derived.Test.YtjdpfblmhahfkaaV6
import Derived.Laws.MakeOwn
set_option linter.unusedVariables false
set_option linter.unusedSimpArgs false
namespace Go.V
section
variable {P : Program}

/-! ### Rows and their cells -/
theorem RelAll.split {g : Gh} {w : World} : ∀ (cs ds : List AV) (vs : List Value), RelAll g w (cs ++ ds) vs → ∃ us ws, vs = us ++ ws ∧ RelAll g w cs us ∧ RelAll g w ds ws
  | [], ds, vs, h => ⟨[], vs, rfl, rfl, h⟩
  | c :: cs, ds, vs, ⟨v, vr, e, hv, h⟩ => by
    subst e
    obtain ⟨us, ws, rfl, h1, h2⟩ := RelAll.split cs ds vr h
    exact ⟨v :: us, ws, rfl, ⟨v, us, rfl, hv, h1⟩, h2⟩

theorem RelRows.values {g : Gh} {w : World} (sz : Nat) : ∀ (l : List (List AV)) (b off : Nat), RelRows g w sz l b off →
    ∃ vs : List Value, RelAll g w l.flatten vs ∧ vs.length = l.length * sz ∧ ∀ j v, vs[j]? = some v → w.cell? ⟨b, off + j, none⟩ = some v ∧ g.prot b (off + j) ∧ v.oneCell' = true
  | [], b, off, _ => ⟨[], rfl, by simp, fun j v h => by simp at h⟩
  | x :: l, b, off, ⟨h1, h2, h3⟩ => by
    obtain ⟨us, k1, k2⟩ := RelCells.values x b off h2
    obtain ⟨vs, k3, k4, k5⟩ := RelRows.values sz l b (off + sz) h3
    have hul : us.length = sz := by rw [← RelAll.length _ _ k1, h1]
    refine ⟨us ++ vs, RelAll.append _ _ _ _ k1 k3, by simp [hul, k4, Nat.add_mul]; omega, fun j v hj => ?_⟩
    rcases Nat.lt_or_ge j us.length with hlt | hge
    · rw [List.getElem?_append_left hlt] at hj; exact k2 j v hj
    · rw [List.getElem?_append_right hge] at hj
      have := k5 _ v hj
      rwa [show off + sz + (j - us.length) = off + j by omega] at this

theorem RelRows.of {g : Gh} {w : World} (sz : Nat) : ∀ (l : List (List AV)) (vs : List Value) (b off : Nat), (∀ x ∈ l, x.length = sz) → RelAll g w l.flatten vs → (∀ j v, vs[j]? = some v → w.cell? ⟨b, off + j, none⟩ = some v ∧ g.prot b (off + j) ∧ v.oneCell' = true) → RelRows g w sz l b off
  | [], vs, b, off, _, _, _ => trivial
  | x :: l, vs, b, off, hl, h, k => by
    obtain ⟨us, ws, rfl, h1, h2⟩ := RelAll.split x l.flatten vs (by simpa using h)
    have hx := hl x (by simp)
    have hul : us.length = sz := by rw [← RelAll.length _ _ h1, hx]
    refine ⟨hx, RelCells.of x us b off h1 fun j v hj => k j v (by rw [List.getElem?_append_left (getElem?_lt hj)]; exact hj), RelRows.of sz l ws b (off + sz) (fun y hy => hl y (by simp [hy])) h2 fun j v hj => ?_⟩
    have := k (sz + j) v (by rw [List.getElem?_append_right (by omega)]; simpa [hul] using hj)
    rwa [show off + (sz + j) = off + sz + j by omega] at this

theorem RelRows.lens {g : Gh} {w : World} (sz : Nat) : ∀ (l : List (List AV)) (b off : Nat), RelRows g w sz l b off → ∀ x ∈ l, x.length = sz
  | [], _, _, _, x, hx => by simp at hx
  | y :: l, b, off, ⟨h1, _, h3⟩, x, hx => by
    simp at hx
    rcases hx with rfl | hx
    · exact h1
    · exact RelRows.lens sz l b (off + sz) h3 x hx

theorem rowsOf_list (sz : Nat) : ∀ (n : Nat) (cs : List AV) (l : List (List AV)), rowsOf sz n cs = some l → l.length = n ∧ (∀ x ∈ l, x.length = sz) ∧ l.flatten = cs.take (n * sz)
  | 0, cs, l, h => by simp [rowsOf] at h; subst h; simp
  | n + 1, cs, l, h => by
    simp only [rowsOf] at h
    split at h
    · rename_i r hr
      split at h
      · rename_i l' hl
        simp only [Option.some.injEq] at h
        subst h
        obtain ⟨rfl, hle⟩ := takeN_eq _ _ _ hr
        obtain ⟨h1, h2, h3⟩ := rowsOf_list sz n _ l' hl
        refine ⟨by simp [h1], ?_, ?_⟩
        · intro x hx
          simp only [List.mem_cons] at hx
          rcases hx with rfl | hx
          · simp; omega
          · exact h2 x hx
        · simp only [List.flatten_cons, h3]
          rw [Nat.add_mul, Nat.one_mul, Nat.add_comm, List.take_add]
      · cases h
    · cases h

theorem flat_len {sz : Nat} : ∀ (l : List (List AV)), (∀ x ∈ l, x.length = sz) → l.flatten.length = l.length * sz
  | [], _ => by simp
  | x :: l, h => by
    rw [List.flatten_cons, List.length_append, flat_len l (fun y hy => h y (by simp [hy])), h x (by simp), List.length_cons, Nat.add_mul]; omega

/-- The rows of a slice, or the bytes of a text. -/
def rowsA (sz : Nat) (x : AV) (st : St) : Option (List (List AV)) :=
  match x with
  | .nilsl => some []
  | .sl s _ l => match Nat.beq s sz with
    | true => some l
    | false => none
  | .lg _ s l => match Nat.beq s sz with
    | true => some l
    | false => none
  | .ms j s o n _ => match Nat.beq s sz with
    | true => match st.objs[j]? with
      | some (.cells cs) => rowsOf sz n (cs.drop o)
      | _ => none
    | false => none
  | .str s => match Nat.beq 1 sz with
    | true => some (s.data.toList.map fun c => [.int .u8 c.toNat])
    | false => none
  | _ => none

theorem flat_bytes {g : Gh} {w : World} : ∀ l : List UInt8, RelAll g w (l.map fun c => [AV.int .u8 c.toNat]).flatten (l.map fun c => Value.int .u8 c.toNat)
  | [] => rfl
  | c :: l => ⟨_, _, rfl, rfl, flat_bytes l⟩

theorem sl_cells {w : World} {sz : Nat} {l : List (List AV)} {b o : Nat} {sp : Option Nat} {vs : List Value} (hsp : sp = none ∨ l = []) (h2 : vs.length = l.length * sz) (h3 : ∀ j u, vs[j]? = some u → w.cell? ⟨b, o + j, none⟩ = some u) :
    ∀ j u, vs[j]? = some u → w.cell? ((⟨b, o, sp⟩ : Addr).add j) = some u := by
  intro j u hj
  rcases hsp with rfl | rfl
  · rw [add_none]; exact h3 j u hj
  · have : vs = [] := List.eq_nil_of_length_eq_zero (by simpa using h2)
    subst this; simp at hj

theorem rowsA_run {g : Gh} {st : St} {w : World} (hs : StRel g st w) {sz : Nat} {x : AV} {v : Value} (hx : Rel g w x v) {l : List (List AV)} (h : rowsA sz x st = some l) :
    ∃ vs : List Value, RelAll g w l.flatten vs ∧ (∀ r ∈ l, r.length = sz) ∧ (∀ u ∈ vs, u.oneCell' = true) ∧ vs.length = l.length * sz ∧ (∀ w', (Builtin.lenOf v).run P w' = .ok l.length w') ∧ ∀ w', w'.heap = w.heap → (Builtin.firstCells sz l.length v).run P w' = .ok vs.toArray w' := by
  have slice : ∀ b o sp (vs : List Value) n cap, v = .slice (some ⟨b, o, sp⟩) n cap → n = l.length → vs.length = l.length * sz → (sp = none ∨ l = []) → (∀ j u, vs[j]? = some u → w.cell? ⟨b, o + j, none⟩ = some u) →
      (∀ w', (Builtin.lenOf v).run P w' = .ok l.length w') ∧ ∀ w', w'.heap = w.heap → (Builtin.firstCells sz l.length v).run P w' = .ok vs.toArray w' := by
    intro b o sp vs n cap hv hn hvl hsp hc
    subst hv; subst hn
    refine ⟨fun w' => rfl, fun w' hw => ?_⟩
    simp only [Builtin.firstCells]
    have := run_loadCells_list (P := P) w' ⟨b, o, sp⟩ vs (fun j u hj => by
      have := sl_cells hsp hvl hc j u hj
      simp only [World.cell?, hw] at this ⊢
      exact this)
    rw [← hvl]
    exact this
  unfold rowsA at h
  split at h
  · simp only [Option.some.injEq] at h; subst h
    obtain rfl : v = .slice none 0 0 := hx
    exact ⟨[], rfl, by simp, by simp, by simp, fun w' => rfl, fun w' _ => by simp [Builtin.firstCells]⟩
  · rename_i s full l'
    split at h
    · rename_i hsz
      obtain rfl : s = sz := by simpa using hsz
      simp only [Option.some.injEq] at h; subst h
      obtain ⟨b, o, sp, cap, hv, hle, hf, hsp, hr⟩ := hx
      obtain ⟨vs, h1, h2, h3⟩ := RelRows.values s l' b o hr
      obtain ⟨h4, h5⟩ := slice b o sp vs _ cap hv rfl h2 hsp (fun j u hj => (h3 j u hj).1)
      exact ⟨vs, h1, RelRows.lens s l' b o hr, fun u hu => by obtain ⟨j, hj⟩ := List.getElem?_of_mem hu; exact (h3 j u hj).2.2, h2, h4, h5⟩
    · cases h
  · rename_i t s l'
    split at h
    · rename_i hsz
      obtain rfl : s = sz := by simpa using hsz
      simp only [Option.some.injEq] at h; subst h
      obtain ⟨b, cap, C, E, fz, hv, hle, _, _, _, _, _, hr⟩ := hx
      obtain ⟨vs, h1, h2, h3⟩ := RelRows.values s l' b 0 hr
      obtain ⟨h4, h5⟩ := slice b 0 none vs _ cap hv rfl h2 (.inl rfl) (fun j u hj => (h3 j u hj).1)
      exact ⟨vs, h1, RelRows.lens s l' b 0 hr, fun u hu => by obtain ⟨j, hj⟩ := List.getElem?_of_mem hu; exact (h3 j u hj).2.2, h2, h4, h5⟩
    · cases h
  · rename_i j s o n cap
    split at h
    · rename_i hsz
      obtain rfl : s = sz := by simpa using hsz
      obtain ⟨b, hg, hv, hle⟩ := hx
      split at h
      · rename_i cs hcs
        obtain ⟨_, C, E, hC, hr, hrc⟩ := ob_of hs hg hcs
        obtain ⟨h1, h2, h3⟩ := rowsOf_list s n _ l h
        have hr' := RelAll.take (n * s) _ _ (RelAll.drop o _ _ hr)
        rw [← h3] at hr'
        have hfl := flat_len l h2
        have hvl : ((C.toList.drop o).take (n * s)).length = l.length * s := by rw [← RelAll.length _ _ hr', hfl]
        obtain ⟨h4, h5⟩ := slice b o none ((C.toList.drop o).take (n * s)) n cap hv h1.symm hvl (.inl rfl) (fun j u hj => by
          rw [cell_of hC]
          rw [List.getElem?_take] at hj
          split at hj
          · simpa using hj
          · cases hj)
        exact ⟨_, hr', h2, fun u hu => hrc u (List.mem_of_mem_drop (List.mem_of_mem_take hu)), hvl, h4, h5⟩
      · cases h
    · cases h
  · rename_i s
    split at h
    · rename_i hsz
      obtain rfl : 1 = sz := by simpa using hsz
      simp only [Option.some.injEq] at h; subst h
      obtain rfl : v = .string s := hx
      refine ⟨s.data.toList.map fun c => .int .u8 c.toNat, flat_bytes _, by simp, by simp [Value.oneCell'], by simp, fun w' => ?_, fun w' _ => ?_⟩
      · simp [Builtin.lenOf]
      · have hx : (Array.map (fun b : UInt8 => Value.int IntKind.u8 (b.toNat : Int)) s.data).extract 0 s.data.size = Array.map (fun b : UInt8 => Value.int IntKind.u8 (b.toNat : Int)) s.data := by
          have hs : s.data.size = (Array.map (fun b : UInt8 => Value.int IntKind.u8 (b.toNat : Int)) s.data).size := by rw [Array.size_map]
          rw [hs, Array.extract_size]
        simp [Builtin.firstCells, hx]
        rw [← Array.toList_map]
    · cases h
  · cases h

/-! ### append -/
/-- What may be appended: a slice or a text. -/
def isSeq (d : TypeDesc) : Bool :=
  match d with
  | .slice _ => true
  | .string => true
  | _ => false

theorem isSeq_run {X : TypeId} {d : TypeDesc} (hX : P.underlying X = some d) (h : isSeq d = true) (w : World) :
    (do pure ((← underlying X) matches .int _) : Sem Bool).run P w = .ok false w := by
  cases d <;> first
    | (simp [isSeq] at h; done)
    | simp [run_underlying hX]

/-- What is known of a slice's elements. -/
structure ElemOf (P : Program) (T e sz bytes : Nat) (z : Value) : Prop where
  ty : P.underlying T = some (.slice e)
  size : (P.info? e).map (·.size) = some sz
  byte : (P.info? e).map (·.bytes) = some bytes
  zero : (P.info? e).bind (·.zero) = some z
  cells : z.cells.size = sz
  pos : bytes ≠ 0

theorem ElemOf.info {T e sz bytes : Nat} {z : Value} (h : ElemOf P T e sz bytes z) : ∃ i, P.info? e = some i ∧ i.size = sz ∧ i.bytes = bytes ∧ i.zero = some z := by
  cases hi : P.info? e with
  | none => have := h.size; rw [hi] at this; cases this
  | some i =>
    have h1 := h.size; have h2 := h.byte; have h3 := h.zero
    rw [hi] at h1 h2 h3
    exact ⟨i, rfl, by simpa using h1, by simpa using h2, by simpa using h3⟩

theorem run_append_fits {T X e sz bytes : Nat} {z : Value} (hT : ElemOf P T e sz bytes z) {dx : TypeDesc} (hX : P.underlying X = some dx) (hdx : isSeq dx = true) (ty : TypeId) {w : World} {p : Option Addr} {n cap m : Nat} {x : Value} {news : List Value}
    (hlen : ∀ w', (Builtin.lenOf x).run P w' = .ok m w') (hnew : (Builtin.firstCells sz m x).run P w = .ok news.toArray w) (hfit : n + m ≤ cap) :
    (Builtin.append_ #[T, X] ty #[.slice p n cap, x]).run P w = ((match p with | some a => storeCells (a.add (n * sz)) news | none => pure ()).run P w).andThen fun _ w' => .ok (.slice p (n + m) cap) w' := by
  unfold Builtin.append_
  have h1 := run_underlying hX w
  have h2 := run_underlying hT.ty w
  have h3 := run_sizeOf' hT.size w
  cases dx <;> simp only [isSeq, Bool.false_eq_true] at hdx <;>
    simp only [List.getElem?_toArray, List.getElem?_cons_zero, List.getElem?_cons_succ, Sem.run_bind, Sem.run_pure, h1, h2, h3, Result.andThen_ok, hlen, if_pos hfit, Bool.false_eq_true, if_false, Bool.not_false, if_true, hnew] <;> cases p <;> simp

theorem run_append_grows {T X e sz bytes : Nat} {z : Value} (hT : ElemOf P T e sz bytes z) {dx : TypeDesc} (hX : P.underlying X = some dx) (hdx : isSeq dx = true) (ty : TypeId) {w : World} {p : Option Addr} {n cap m : Nat} {x : Value} {olds news : List Value}
    (hlen : ∀ w', (Builtin.lenOf x).run P w' = .ok m w') (hold : ∀ w', w'.heap = w.heap → (Builtin.firstCells sz n (.slice p n cap)).run P w' = .ok olds.toArray w') (hnew : ∀ w', w'.heap = w.heap → (Builtin.firstCells sz m x).run P w' = .ok news.toArray w') (hfit : cap < n + m) (hb : (n + m) * bytes ≤ 140737488355328) :
    (Builtin.append_ #[T, X] ty #[.slice p n cap, x]).run P w = .ok (.slice (some ⟨w.heap.size, 0, none⟩) (n + m) (grownCap w (n + m) cap e)) (w.drew.alloc (.cells (olds ++ news ++ (Builtin.zeroCells z.cells (grownCap w (n + m) cap e - (n + m))).toList).toArray e)) := by
  obtain ⟨i, hi, h1, h2, h3⟩ := hT.info
  have hnf : ¬ (n + m ≤ cap) := by omega
  have hpos := hT.pos
  have hbs : n + m ≤ 140737488355328 := Nat.le_trans (Nat.le_mul_of_pos_right _ (Nat.pos_of_ne_zero hpos)) hb
  have h63 : ¬ (((n + m : Nat) : Int) > IntKind.i64.max ∧ (False ∨ i.bytes = 0)) := by
    intro hc
    rcases hc.2 with h | h
    · cases h
    · exact hpos (h2.symm.trans h)
  have h48 : ¬ (Builtin.nextslicecap (n + m) cap * i.bytes > 2 ^ 48) := by rw [h2]; have := growslice_fits (bytes := bytes) hfit hb; omega
  have ho := hold w.drew rfl
  have hn := hnew w.drew rfl
  have k1 := run_underlying hX w
  have k2 := run_underlying hT.ty w
  have k3 := run_sizeOf' hT.size w
  have k4 : ∀ w, (typeInfo e).run P w = .ok i w := fun w => by simp [typeInfo, hi]
  have k5 : ∀ w, (zeroValue e).run P w = .ok z w := fun w => run_zeroValue' hT.zero w
  have k6 : (choose (.appendCap (n + m) cap e)).run P w = .ok (grownCap w (n + m) cap e) w.drew := by rw [run_choose]; rfl
  unfold Builtin.append_
  cases dx <;> simp only [isSeq, Bool.false_eq_true] at hdx <;>
    simp only [List.getElem?_toArray, List.getElem?_cons_zero, List.getElem?_cons_succ, Sem.run_bind, Sem.run_pure, k1, k2, k3, Result.andThen_ok, hlen, if_neg hnf, Bool.false_eq_true, if_false, k4, if_neg h63, if_neg h48, k6, run_askRoom, ho, hn, Bool.not_false, if_true, k5, run_newRow] <;>
    (congr 3; apply Array.ext'; simp)

theorem RelRows.append {g : Gh} {w : World} (sz : Nat) : ∀ (l r : List (List AV)) (b off : Nat), RelRows g w sz l b off → RelRows g w sz r b (off + l.length * sz) → RelRows g w sz (l ++ r) b off
  | [], r, b, off, _, h => by simpa using h
  | x :: l, r, b, off, ⟨h1, h2, h3⟩, h => ⟨h1, h2, RelRows.append sz l r b (off + sz) h3 (by rwa [show off + sz + l.length * sz = off + (x :: l).length * sz by simp [Nat.add_mul]; omega])⟩

theorem grow_rel {g : Gh} {st : St} {w : World} (hs : StRel g st w) {t sz cap e : Nat} {L : List (List AV)} {vs rest : List Value} (tk' : List (Nat × Nat)) (htk : ∀ t sz n : Nat, g.tk[t]? = some (sz, n) → ∃ n', tk'[t]? = some (sz, n') ∧ n ≤ n') (ht : tk'[t]? = some (sz, L.length))
    (hr : RelAll g w L.flatten vs) (h1 : ∀ u ∈ vs, u.oneCell' = true) (hL : ∀ x ∈ L, x.length = sz) (hle : L.length ≤ cap) (hfit : cap * sz ≤ vs.length + rest.length) :
    Rel ⟨g.use w.heap.size (.row t), g.objs, tk'⟩ (w.drew.alloc (.cells (vs ++ rest).toArray e)) (.lg t sz L) (.slice (some ⟨w.heap.size, 0, none⟩) L.length cap) ∧
    StRel ⟨g.use w.heap.size (.row t), g.objs, tk'⟩ ⟨st.objs, tk'⟩ (w.drew.alloc (.cells (vs ++ rest).toArray e)) ∧
    Ev g w ⟨g.use w.heap.size (.row t), g.objs, tk'⟩ (w.drew.alloc (.cells (vs ++ rest).toArray e)) := by
  have hp := Push.drew w (.cells (vs ++ rest).toArray e)
  have hE : Ev g w ⟨g.use w.heap.size (.row t), g.objs, tk'⟩ (w.drew.alloc (.cells (vs ++ rest).toArray e)) := by simpa using Ev.push hp (.row t) [] tk' htk
  have hvl : vs.length = L.length * sz := by rw [← RelAll.length _ _ hr, flat_len L hL]
  refine ⟨⟨w.heap.size, cap, _, e, (0, 0), rfl, hle, by simp [Gh.use], hp.new, by simpa using hfit, fun i _ => by simp, ⟨_, ht, Nat.le_refl _⟩, ?_⟩, hs.push hp (.row t) tk' htk (getElem?_lt ht), hE⟩
  refine RelRows.of sz L vs _ _ hL (RelAll.mono hE _ _ hr) fun j v hj => ?_
  have hlt := getElem?_lt hj
  refine ⟨?_, ?_, h1 v (List.mem_of_getElem? hj)⟩
  · rw [cell_of hp.new, Nat.zero_add, List.getElem?_toArray, List.getElem?_append_left hlt]; exact hj
  · simp only [Gh.prot, Gh.use, if_true]
    exact ⟨sz, _, ht, by omega⟩

theorem inplace_rel {g : Gh} {st : St} {w : World} (hs : StRel g st w) {t sz cap b : Nat} {l rows : List (List AV)} {C : Array Value} {E : TypeId} {fz : Nat × Nat} (hk : g.kind b = .row t) (hC : w.heap[b]? = some (.cells C E fz)) (hfz : ∀ i, i < C.size → ¬ (fz.1 ≤ i ∧ i < fz.2)) (hcap : cap * sz ≤ C.size)
    (ht : st.tk[t]? = some (sz, l.length)) (hrl : RelRows g w sz l b 0) {vs : List Value} (hr : RelAll g w rows.flatten vs) (h1 : ∀ u ∈ vs, u.oneCell' = true) (hL : ∀ x ∈ rows, x.length = sz) (hfit : l.length + rows.length ≤ cap) :
    ∃ w1, (storeCells ⟨b, l.length * sz, none⟩ vs).run P w = .ok () w1 ∧
    Rel ⟨g.kind, g.objs, st.tk.set t (sz, l.length + rows.length)⟩ w1 (.lg t sz (l ++ rows)) (.slice (some ⟨b, 0, none⟩) (l.length + rows.length) cap) ∧
    StRel ⟨g.kind, g.objs, st.tk.set t (sz, l.length + rows.length)⟩ ⟨st.objs, st.tk.set t (sz, l.length + rows.length)⟩ w1 ∧
    Ev g w ⟨g.kind, g.objs, st.tk.set t (sz, l.length + rows.length)⟩ w1 := by
  have hvl : vs.length = rows.length * sz := by rw [← RelAll.length _ _ hr, flat_len rows hL]
  have hmul : (l.length + rows.length) * sz ≤ cap * sz := Nat.mul_le_mul_right _ hfit
  rw [Nat.add_mul] at hmul
  have hrun := run_storeCells_gen (P := P) b (l.length * sz) E fz vs 0 C w hC (by omega) (fun j _ _ => hfz j (by omega)) h1
  rw [Nat.add_zero] at hrun
  have htl := getElem?_lt ht
  have ht' : (st.tk.set t (sz, l.length + rows.length))[t]? = some (sz, l.length + rows.length) := by rw [List.getElem?_set, if_pos rfl, if_pos htl]
  have hold : ∀ off, off < l.length * sz → (setV C.toList (l.length * sz) vs).toArray[off]? = C[off]? := by
    intro off ho
    rw [List.getElem?_toArray, ← Array.getElem?_toList]
    clear hrun hmul hcap hC hfz
    generalize C.toList = D
    generalize l.length * sz = N at ho
    induction D generalizing N off with
    | nil => cases vs <;> rfl
    | cons d D ih =>
      cases vs with
      | nil => rfl
      | cons v vs =>
        cases N with
        | zero => omega
        | succ N => cases off with
          | zero => rfl
          | succ off => simpa [setV] using ih off N (by omega)
  have hE : Ev g w ⟨g.kind, g.objs, st.tk.set t (sz, l.length + rows.length)⟩ (w.setRow b (setV C.toList (l.length * sz) vs).toArray) := by
    refine ⟨rfl, rfl, rfl, by simp, fun x hx hkx => ⟨hkx, ?_⟩, fun x t' hx hkx => ⟨hkx, fun C' E' fz' hC' => ?_⟩, fun x k hx hkx => .inl hkx, fun _ _ h => h, by rw [hs.tk]; exact tk_set _ _ _ _ _ ht (by omega)⟩
    · refine setRow_other' _ _ _ _ ?_
      intro e; subst e; rw [hk] at hkx; cases hkx
    · by_cases hxb : x = b
      · subst hxb
        rw [hC] at hC'; cases hC'
        rw [hk] at hkx; cases hkx
        refine ⟨_, setRow_heap w x C _ E fz hC, by simp [length_setV], fun off ho => hold off ?_⟩
        simp only [Gh.prot, hk] at ho
        obtain ⟨s', n', h2, h3⟩ := ho
        rw [hs.tk, ht] at h2; cases h2
        exact h3
      · exact ⟨C', by rw [setRow_other' _ _ _ _ hxb]; exact hC', rfl, fun _ _ => rfl⟩
  have hnew : ∀ j v, vs[j]? = some v → (setV C.toList (l.length * sz) vs).toArray[l.length * sz + j]? = some v := by
    intro j v hj
    rw [List.getElem?_toArray]
    have hfitD : l.length * sz + vs.length ≤ C.toList.length := by simp; omega
    clear hrun hmul hcap hC hfz hold hE hvl h1 hr
    generalize C.toList = D at hfitD
    generalize l.length * sz = N at hfitD
    induction D generalizing N j vs with
    | nil => have := getElem?_lt hj; simp only [List.length_nil] at hfitD; omega
    | cons d D ih =>
      cases vs with
      | nil => simp at hj
      | cons u vs =>
        cases N with
        | zero =>
          cases j with
          | zero => simpa [setV] using hj
          | succ j => simpa [setV] using ih (vs := vs) j (by simpa using hj) 0 (by simp at hfitD ⊢; omega)
        | succ N =>
          rw [show N + 1 + j = (N + j) + 1 by omega]
          simpa [setV] using ih (vs := u :: vs) j hj N (by simp at hfitD ⊢; omega)
  refine ⟨_, hrun, ⟨b, cap, _, E, fz, by simp, by simpa using hfit, hk, setRow_heap w b C _ E fz hC, by simpa [length_setV] using hcap, by simpa [length_setV] using hfz, ⟨_, ht', by simp⟩, ?_⟩, ⟨rfl, hs.len, fun k b' y hk' hy => ?_, fun b' k hb' hk' => hs.back b' k (by simpa using hb') hk', fun b' t' hb' hk' => by simpa using hs.rowlt b' t' (by simpa using hb') hk'⟩, hE⟩
  · have h5 := RelRows.mono hE sz l b 0 hrl
    have h6 : RelRows ⟨g.kind, g.objs, st.tk.set t (sz, l.length + rows.length)⟩ (w.setRow b (setV C.toList (l.length * sz) vs).toArray) sz rows b (0 + l.length * sz) := by
      refine RelRows.of sz rows vs _ _ hL (RelAll.mono hE _ _ hr) fun j v hj => ⟨?_, ?_, h1 v (List.mem_of_getElem? hj)⟩
      · rw [cell_of (setRow_heap w b C _ E fz hC), Nat.zero_add]; exact hnew j v hj
      · simp only [Gh.prot, hk]
        have := getElem?_lt hj
        refine ⟨sz, _, ht', ?_⟩
        rw [Nat.add_mul, Nat.zero_add]
        exact Nat.add_lt_add_left (by rw [← hvl]; exact this) _
    exact RelRows.append sz l rows b 0 h5 h6
  · obtain ⟨h2, h3⟩ := hs.obj k b' y hk' hy
    refine ⟨by simpa using h2, ?_⟩
    by_cases hbb : b' = b
    · subst hbb
      cases y with
      | gone => trivial
      | cells cs' => have := h3.1; rw [hk] at this; cases this
      | map es => have := h3.1; rw [hk] at this; cases this
    · exact h3.keep hE (setRow_other' _ _ _ _ hbb) rfl

/-- More behind a slice. -/
def aappend (sz bytes : Nat) (s x : AV) (st : St) (k : AV → St → Ans) : Ans :=
  match rowsA sz x st with
  | none => none
  | some rows => match s with
    | .nilsl => match rows with
      | [] => k .nilsl st
      | r :: rows => if (r :: rows).length * bytes ≤ 140737488355328 then k (.lg st.tk.length sz (r :: rows)) ⟨st.objs, st.tk ++ [(sz, (r :: rows).length)]⟩ else none
    | .sl s' full l => match Nat.beq s' sz with
      | true => match rows with
        | [] => k (.sl sz full l) st
        | r :: rows => match full with
          | true => if (l.length + (r :: rows).length) * bytes ≤ 140737488355328 then k (.lg st.tk.length sz (l ++ r :: rows)) ⟨st.objs, st.tk ++ [(sz, (l ++ r :: rows).length)]⟩ else none
          | false => none
      | false => none
    | .lg t s' l => match Nat.beq s' sz with
      | true => if st.tk[t]? = some (sz, l.length) ∧ (l.length + rows.length) * bytes ≤ 140737488355328 then k (.lg t sz (l ++ rows)) ⟨st.objs, st.tk.set t (sz, l.length + rows.length)⟩ else none
      | false => none
    | _ => none

theorem aappend_run {T X e sz bytes : Nat} {z : Value} (hT : ElemOf P T e sz bytes z) {dx : TypeDesc} (hX : P.underlying X = some dx) (hdx : isSeq dx = true) (ty : TypeId) {g : Gh} {st : St} {w : World} (hs : StRel g st w) {S Y : AV} {s x : Value} (hS : Rel g w S s) (hY : Rel g w Y x) {k : AV → St → Ans} {fin : Fin × St} (h : aappend sz bytes S Y st k = some fin) :
    ∃ r v st' g' w', k r st' = some fin ∧ (Builtin.append_ #[T, X] ty #[s, x]).run P w = .ok v w' ∧ Rel g' w' r v ∧ StRel g' st' w' ∧ Ev g w g' w' := by
  have hzc : ∀ n, (Builtin.zeroCells z.cells n).toList.length = n * sz := fun n => by rw [Array.length_toList (xs := Builtin.zeroCells z.cells n), size_zeroCells, hT.cells]
  unfold aappend at h
  split at h
  · cases h
  · rename_i rows hrows
    obtain ⟨news, h1, h2, h3, h4, h5, h6⟩ := rowsA_run (P := P) hs hY hrows
    have grows : ∀ p (l : List (List AV)) (olds : List Value) cap t tk', s = .slice p l.length cap → (∀ t sz n : Nat, g.tk[t]? = some (sz, n) → ∃ n', tk'[t]? = some (sz, n') ∧ n ≤ n') → tk'[t]? = some (sz, l.length + rows.length) → RelAll g w l.flatten olds → (∀ u ∈ olds, u.oneCell' = true) → (∀ x ∈ l, x.length = sz) →
        (∀ w', w'.heap = w.heap → (Builtin.firstCells sz l.length (.slice p l.length cap)).run P w' = .ok olds.toArray w') → cap < l.length + rows.length → (l.length + rows.length) * bytes ≤ 140737488355328 → k (.lg t sz (l ++ rows)) ⟨st.objs, tk'⟩ = some fin →
        ∃ r v st' g' w', k r st' = some fin ∧ (Builtin.append_ #[T, X] ty #[s, x]).run P w = .ok v w' ∧ Rel g' w' r v ∧ StRel g' st' w' ∧ Ev g w g' w' := by
      intro p l olds cap t tk' hs' htk ht ho ho1 hol hfirst hcap hb hk
      subst hs'
      have hrun := run_append_grows (P := P) hT hX hdx ty h5 hfirst h6 hcap hb
      have hge := grownCap_ge w (l.length + rows.length) cap e
      have hal := RelAll.append _ _ _ _ ho h1
      rw [← List.flatten_append] at hal
      have holen : olds.length = l.length * sz := by rw [← RelAll.length _ _ ho, flat_len l hol]
      obtain ⟨k1, k2, k3⟩ := grow_rel (e := e) hs tk' htk (L := l ++ rows) (by rw [List.length_append]; exact ht) hal (fun u hu => by
        rcases List.mem_append.mp hu with hu | hu
        · exact ho1 u hu
        · exact h3 u hu) (fun y hy => by
        rcases List.mem_append.mp hy with hy | hy
        · exact hol y hy
        · exact h2 y hy) (cap := grownCap w (l.length + rows.length) cap e) (by rw [List.length_append]; exact hge) (rest := (Builtin.zeroCells z.cells (grownCap w (l.length + rows.length) cap e - (l.length + rows.length))).toList) (by
        rw [hzc, List.length_append, holen, h4, ← Nat.add_mul, ← Nat.add_mul]
        exact Nat.mul_le_mul_right _ (by omega))
      rw [List.length_append] at k1
      exact ⟨_, _, _, _, _, hk, hrun, k1, k2, k3⟩
    split at h
    · obtain rfl : s = .slice none 0 0 := hS
      split at h
      · have hn : news = [] := List.eq_nil_of_length_eq_zero (by simpa using h4)
        have := run_append_fits (P := P) (p := none) (n := 0) (cap := 0) hT hX hdx ty h5 (h6 w rfl) (by simp)
        exact ⟨_, _, _, g, w, h, by simpa using this, rfl, hs, Ev.refl g w⟩
      · rename_i r rows
        split at h
        · rename_i hb
          refine grows none [] [] 0 st.tk.length _ rfl (by rw [hs.tk]; exact tk_more _ _) ?_ rfl (by simp) (by simp) (fun w' _ => by simp [Builtin.firstCells]) (by simp) (by simpa using hb) h
          rw [List.getElem?_append_right (Nat.le_refl _)]; simp
        · cases h
    · rename_i s' full l
      split at h
      · rename_i hsz
        obtain rfl : s' = sz := by simpa using hsz
        obtain ⟨b, o, sp, cap, rfl, hle, hf, hsp, hr⟩ := hS
        split at h
        · have hn : news = [] := List.eq_nil_of_length_eq_zero (by simpa using h4)
          subst hn
          have := run_append_fits (P := P) (p := some ⟨b, o, sp⟩) (n := l.length) (cap := cap) hT hX hdx ty h5 (h6 w rfl) (by simpa using hle)
          refine ⟨_, _, _, g, w, h, by simpa [storeCells] using this, ⟨b, o, sp, cap, rfl, hle, hf, hsp, hr⟩, hs, Ev.refl g w⟩
        · rename_i r rows
          split at h
          · split at h
            · rename_i hb
              have hcap := hf rfl
              obtain ⟨olds, o1, o2, o3⟩ := RelRows.values s' l b o hr
              have hlens := RelRows.lens s' l b o hr
              refine grows (some ⟨b, o, sp⟩) l olds cap st.tk.length _ rfl (by rw [hs.tk]; exact tk_more _ _) ?_ o1 (fun u hu => by obtain ⟨j, hj⟩ := List.getElem?_of_mem hu; exact (o3 j u hj).2.2) hlens (fun w' hw => ?_) (by simp; omega) hb h
              · rw [List.getElem?_append_right (Nat.le_refl _)]; simp
              · simp only [Builtin.firstCells]
                rw [← o2]
                exact run_loadCells_list (P := P) w' ⟨b, o, sp⟩ olds (fun j u hj => by
                  have := sl_cells hsp o2 (fun j u hj => (o3 j u hj).1) j u hj
                  simp only [World.cell?, hw] at this ⊢
                  exact this)
            · cases h
          · cases h
      · cases h
    · rename_i t s' l
      split at h
      · rename_i hsz
        obtain rfl : s' = sz := by simpa using hsz
        obtain ⟨b, cap, C, E, fz, rfl, hle, hkd, hC, hcs, hfz, ⟨n0, hn0, hn1⟩, hr⟩ := hS
        split at h
        · rename_i hc
          obtain ⟨ht, hb⟩ := hc
          by_cases hfit : l.length + rows.length ≤ cap
          · obtain ⟨w1, i1, i2, i3, i4⟩ := inplace_rel (P := P) hs hkd hC hfz hcs ht hr h1 h3 h2 hfit
            have := run_append_fits (P := P) (p := some ⟨b, 0, none⟩) (n := l.length) (cap := cap) hT hX hdx ty h5 (h6 w rfl) hfit
            refine ⟨_, _, _, _, w1, h, ?_, i2, i3, i4⟩
            rw [this]
            simp [add_none, i1]
          · obtain ⟨olds, o1, o2, o3⟩ := RelRows.values s' l b 0 hr
            have hlens := RelRows.lens s' l b 0 hr
            refine grows (some ⟨b, 0, none⟩) l olds cap t _ rfl (by rw [hs.tk]; exact tk_set _ _ _ _ _ ht (by omega)) ?_ o1 (fun u hu => by obtain ⟨j, hj⟩ := List.getElem?_of_mem hu; exact (o3 j u hj).2.2) hlens (fun w' hw => ?_) (by omega) hb h
            · rw [List.getElem?_set, if_pos rfl, if_pos (getElem?_lt ht)]
            · simp only [Builtin.firstCells]
              rw [← o2]
              exact run_loadCells_list (P := P) w' ⟨b, 0, none⟩ olds (fun j u hj => by
                rw [add_none]
                have := (o3 j u hj).1
                simp only [World.cell?, hw] at this ⊢
                exact this)
        · cases h
      · cases h
    · cases h

def opAppend (dst : Option Tmp) (s x : Operand) (T X e sz bytes : Nat) (z : Value) (hT : ElemOf P T e sz bytes z) (dx : TypeDesc) (hX : P.underlying X = some dx) (hdx : isSeq dx = true) (ty : TypeId) (pos : String) (after : Array Edge) : MSim P :=
  MSim.makes (mkOp dst (.call { callee := .builtin .append, args := #[s, x], argTypes := #[T, X] }) ty pos after) rfl [s, x] (fun ev st k => aappend sz bytes (ev s) (ev x) st k) (fun ev ev' st k h => by simp only [h s (by simp), h x (by simp)]) fun ev st k fin h g w a he hs => by
    obtain ⟨r, v, st', g', w', h1, h2, h3⟩ := aappend_run (P := P) hT hX hdx ty hs (he s (by simp)) (he x (by simp)) h
    refine ⟨r, v, st', g', w', h1, ?_, h3⟩
    rw [callBuiltin]
    simp only [builtin, List.map_toArray, List.map_cons, List.map_nil, Sem.run_bind, h2]
    rfl

end
end Go.V
