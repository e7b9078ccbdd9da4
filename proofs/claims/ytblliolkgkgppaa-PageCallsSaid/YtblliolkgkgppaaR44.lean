/- Merged out of 28 texts: what the claim's code comes to, and why. -/
import Derived.Test.YtblliolkgkgppaaRows
import Derived.Test.YtblliolkgkgppaaR43
/- Data kept in objects that lie together: told by the objects, wherever these lie. -/
set_option linter.unusedVariables false
set_option linter.unusedSimpArgs false
namespace Go.V
section
variable {P : Program}

mutual
theorem ren_ren (σ ρ τ : Nat → Nat) (h : ∀ k, σ (ρ k) = τ k) : ∀ a : AV, ren σ (ren ρ a) = ren τ a
  | .bool _ => rfl
  | .int _ _ => rfl
  | .str _ => rfl
  | .nilptr => rfl
  | .nilsl => rfl
  | .nilmap => rfl
  | .nilfn => rfl
  | .nilif => rfl
  | .ptr k off => by simp only [ren, h]
  | .eptr cs => rfl
  | .sl _ _ _ => rfl
  | .lg _ _ _ => rfl
  | .ms k sz off n cap => by simp only [ren, h]
  | .mp k => by simp only [ren, h]
  | .fn f a c => by simp only [ren, renL_renL σ ρ τ h a, renL_renL σ ρ τ h c]
  | .ifc t v => by simp only [ren, ren_ren σ ρ τ h v]
  | .agg cs => by simp only [ren, renL_renL σ ρ τ h cs]
  | .tup cs => by simp only [ren, renL_renL σ ρ τ h cs]
  | .dead => rfl
  | .ns _ _ _ => rfl
  | .vs k v sz n => by simp only [ren, h]
  | .vp k v off => by simp only [ren, h]
theorem renL_renL (σ ρ τ : Nat → Nat) (h : ∀ k, σ (ρ k) = τ k) : ∀ l : List AV, renL σ (renL ρ l) = renL τ l
  | [] => rfl
  | x :: l => by simp only [renL, ren_ren σ ρ τ h x, renL_renL σ ρ τ h l]
end
mutual
theorem ren_id : ∀ a : AV, ren (fun k => k) a = a
  | .bool _ => rfl
  | .int _ _ => rfl
  | .str _ => rfl
  | .nilptr => rfl
  | .nilsl => rfl
  | .nilmap => rfl
  | .nilfn => rfl
  | .nilif => rfl
  | .ptr k off => rfl
  | .eptr cs => rfl
  | .sl _ _ _ => rfl
  | .lg _ _ _ => rfl
  | .ms k sz off n cap => rfl
  | .mp k => rfl
  | .fn f a c => by simp only [ren, renL_id a, renL_id c]
  | .ifc t v => by simp only [ren, ren_id v]
  | .agg cs => by simp only [ren, renL_id cs]
  | .tup cs => by simp only [ren, renL_id cs]
  | .dead => rfl
  | .ns _ _ _ => rfl
  | .vs k v sz n => rfl
  | .vp k v off => rfl
theorem renL_id : ∀ l : List AV, renL (fun k => k) l = l
  | [] => rfl
  | x :: l => by simp only [renL, ren_id x, renL_id l]
end
theorem renO_renO (σ ρ τ : Nat → Nat) (h : ∀ k, σ (ρ k) = τ k) (o : Ob) : renO σ (renO ρ o) = renO τ o := by
  cases o with
  | cells cs => simp only [renO, renL_renL σ ρ τ h]
  | map es => simp only [renO, List.map_map, Function.comp_def, ren_ren σ ρ τ h]
  | vec v cs => simp only [renO, renL_renL σ ρ τ h]
  | gone => rfl
  | nov v => rfl
theorem renO_id (o : Ob) : renO (fun k => k) o = o := by
  cases o with
  | cells cs => simp only [renO, renL_id]
  | map es => simp only [renO, ren_id]; simp
  | vec v cs => simp only [renO, renL_id]
  | gone => rfl
  | nov v => rfl
mutual
theorem ren_near {n : Nat} {ρ τ : Nat → Nat} (h : ∀ k, k < n → ρ k = τ k) : ∀ a : AV, Near n a → ren ρ a = ren τ a
  | .bool _, _ => rfl
  | .int _ _, _ => rfl
  | .str _, _ => rfl
  | .nilptr, _ => rfl
  | .nilsl, _ => rfl
  | .nilmap, _ => rfl
  | .nilfn, _ => rfl
  | .nilif, _ => rfl
  | .ptr k off, s => by simp only [ren, h k s]
  | .eptr cs, _ => rfl
  | .sl _ _ _, _ => rfl
  | .lg _ _ _, _ => rfl
  | .ms k sz off n cap, s => by simp only [ren, h k s]
  | .mp k, s => by simp only [ren, h k s]
  | .fn f a c, s => by simp only [ren, renL_near h a s.1, renL_near h c s.2]
  | .ifc t v, s => by simp only [ren, ren_near h v s]
  | .agg cs, s => by simp only [ren, renL_near h cs s]
  | .tup cs, s => by simp only [ren, renL_near h cs s]
  | .dead, _ => rfl
  | .ns _ _ _, _ => rfl
  | .vs k v sz n, s => by simp only [ren, h k s]
  | .vp k v off, s => by simp only [ren, h k s]
theorem renL_near {n : Nat} {ρ τ : Nat → Nat} (h : ∀ k, k < n → ρ k = τ k) : ∀ l : List AV, NearL n l → renL ρ l = renL τ l
  | [], _ => rfl
  | x :: l, s => by simp only [renL, ren_near h x s.1, renL_near h l s.2]
end
theorem renO_near {n : Nat} {ρ τ : Nat → Nat} (h : ∀ k, k < n → ρ k = τ k) (o : Ob) (s : NearO n o) : renO ρ o = renO τ o := by
  cases o with
  | cells cs => simp only [renO, renL_near h cs s]
  | map es =>
    simp only [renO]
    congr 1
    have : ∀ es : List (AV × AV), NearL n (es.map (·.1)) → NearL n (es.map (·.2)) → es.map (fun e => (ren ρ e.1, ren ρ e.2)) = es.map (fun e => (ren τ e.1, ren τ e.2)) := by
      intro es
      induction es with
      | nil => intro _ _; rfl
      | cons e es ih => intro s1 s2; simp only [List.map_cons, ren_near h _ s1.1, ren_near h _ s2.1, ih s1.2 s2.2]
    exact this es s.1 s.2
  | vec v cs => simp only [renO, renL_near h cs s]
  | gone => rfl
  | nov v => rfl

/-- Data kept in m objects; p: the object to which its pointer leads. -/
structure ADT (X : Type) where
  m : Nat
  p : Nat
  hp : p < m
  obs : X → List Ob
  Ok : X → Prop
  len : ∀ x, (obs x).length = m
  near : ∀ x, Ok x → ∀ o ∈ obs x, NearO m o
  inj : ∀ x y, Ok x → Ok y → obs x = obs y → x = y
variable {X : Type}
def sh (i j : Nat) : Nat := i + j
def invS (m i k : Nat) : Option Nat := if i ≤ k ∧ k < i + m then some (k - i) else none
theorem inv_sh (m i : Nat) : Inv (sh i) m (invS m i) := by
  refine ⟨fun j hj => ?_, fun k j h => ?_⟩
  · show (if i ≤ i + j ∧ i + j < i + m then some (i + j - i) else none) = some j
    rw [if_pos (by omega), Nat.add_sub_cancel_left]
  · simp only [invS] at h
    split at h
    · cases h; exact ⟨by omega, by show i + (k - i) = k; omega⟩
    · cases h
def ADT.at_ (A : ADT X) (i : Nat) (x : X) : List Ob := (A.obs x).map (renO (sh i))
theorem ADT.at_len (A : ADT X) (i : Nat) (x : X) : (A.at_ i x).length = A.m := by rw [ADT.at_, List.length_map, A.len]
theorem ADT.at_inj (A : ADT X) {i : Nat} {x y : X} (hx : A.Ok x) (hy : A.Ok y) (h : A.at_ i x = A.at_ i y) : x = y := by
  refine A.inj x y hx hy ?_
  have h2 := congrArg (List.map (renO fun k => k - i)) h
  rw [ADT.at_, ADT.at_, List.map_map, List.map_map] at h2
  have e : (renO (fun k => k - i)) ∘ (renO (sh i)) = id := by
    funext o
    rw [Function.comp_apply, renO_renO _ _ (fun k => k) (fun k => by show i + k - i = k; omega), renO_id]; rfl
  rw [e, List.map_id, List.map_id] at h2
  exact h2
def ADT.is (A : ADT X) (i : Nat) (l : List Ob) (x : X) : Prop := A.Ok x ∧ A.at_ i x = l
open Classical in
noncomputable def ADT.G (A : ADT X) (i : Nat) (l : List Ob) : Option X := opq (if h : ∃ x, A.is i l x then some (Classical.choose h) else none)
theorem ADT.G_spec {A : ADT X} {i : Nat} {l : List Ob} {x : X} (h : A.G i l = some x) : A.is i l x := by
  rw [ADT.G, opq_eq] at h
  split at h
  · rename_i hx; cases h; exact Classical.choose_spec hx
  · cases h
theorem ADT.G_of {A : ADT X} {i : Nat} {l : List Ob} {x : X} (h : A.is i l x) : A.G i l = some x := by
  have hx : ∃ x, A.is i l x := ⟨x, h⟩
  rw [ADT.G, opq_eq, dif_pos hx]
  have h1 := Classical.choose_spec hx
  rw [A.at_inj h1.1 h.1 (h1.2.trans h.2.symm)]
noncomputable def ADT.ob (A : ADT X) (i : Nat) (x : X) (j : Nat) : Ob := opq ((A.at_ i x).getD j .gone)
noncomputable def obl (A : ADT X) (i : Nat) (x : X) : Nat → Nat → List Ob
  | 0, _ => []
  | k + 1, j => A.ob i x j :: obl A i x k (j + 1)
theorem obl_eq (A : ADT X) (i : Nat) (x : X) : ∀ k j, j + k ≤ A.m → obl A i x k j = ((A.at_ i x).drop j).take k
  | 0, j, _ => by rw [List.take_zero]; rfl
  | k + 1, j, h => by
    have hl : j < (A.at_ i x).length := by rw [ADT.at_len]; omega
    rw [obl, obl_eq A i x k (j + 1) (by omega), List.drop_eq_getElem_cons hl, List.take_succ_cons, ADT.ob, opq_eq, List.getD_eq_getElem?_getD, List.getElem?_eq_getElem hl]
    rfl
noncomputable def ADT.obl (A : ADT X) (i : Nat) (x : X) : List Ob := V.obl A i x A.m 0
theorem ADT.obl_eq (A : ADT X) (i : Nat) (x : X) : A.obl i x = A.at_ i x := by
  rw [ADT.obl, V.obl_eq A i x A.m 0 (by omega), List.drop_zero, List.take_of_length_le (by rw [ADT.at_len]; exact Nat.le_refl _)]
/-- The objects tell it. -/
theorem ADT.G_obl (A : ADT X) {x : X} (h : A.Ok x) (i : Nat) : A.G i (A.obl i x) = some x := ADT.G_of ⟨h, (A.obl_eq i x).symm⟩
theorem ADT.obl_zero (A : ADT X) {x : X} (h : A.Ok x) : A.obl 0 x = A.obs x := by
  rw [ADT.obl_eq, ADT.at_]
  conv => rhs; rw [← List.map_id (A.obs x)]
  refine List.map_congr_left fun o ho => ?_
  rw [show sh 0 = fun k => k from funext fun k => Nat.zero_add k, renO_id]; rfl
/-- The first m of a list, if there are so many. -/
def getN : Nat → List Ob → Option (List Ob)
  | 0, _ => some []
  | _ + 1, [] => none
  | k + 1, o :: l => match getN k l with
    | some r => some (o :: r)
    | none => none
theorem getN_some : ∀ {k : Nat} {l r : List Ob}, getN k l = some r → r = l.take k ∧ k ≤ l.length
  | 0, l, r, h => by cases h; exact ⟨by rw [List.take_zero], by omega⟩
  | k + 1, [], r, h => by cases h
  | k + 1, o :: l, r, h => by
    simp only [getN] at h
    split at h
    · rename_i r' h'
      cases h
      obtain ⟨h1, h2⟩ := getN_some h'
      exact ⟨by rw [List.take_succ_cons, h1], by simp; omega⟩
    · cases h
/-- The objects from one on are others. -/
def plc : List Ob → Nat → List Ob → List Ob
  | l, 0, xs => xs ++ l.drop xs.length
  | [], _ + 1, _ => []
  | o :: l, i + 1, xs => o :: plc l i xs
theorem plc_eq : ∀ (l : List Ob) (i : Nat) (xs : List Ob), i + xs.length ≤ l.length → plc l i xs = l.take i ++ xs ++ l.drop (i + xs.length)
  | l, 0, xs, _ => by rw [plc.eq_def]; simp
  | [], i + 1, xs, h => by simp at h
  | o :: l, i + 1, xs, h => by
    rw [plc, plc_eq l i xs (by simp at h; omega), show i + 1 + xs.length = (i + xs.length) + 1 by omega]
    simp
noncomputable def ADT.pl (A : ADT X) (st : St) (i : Nat) (x : X) : St := ⟨plc st.objs i (A.obl i x), st.tk⟩
/-- Data in a state: where it is, what it is. -/
noncomputable def ADT.on (A : ADT X) (x : AV) (st : St) (k : Nat → X → Ans) : Ans :=
  match x with
  | .ptr j o => match Nat.beq o 0 && Nat.ble A.p j with
    | true => match getN A.m (st.objs.drop (j - A.p)) with
      | some l => onSome (A.G (j - A.p) l) none fun X => k (j - A.p) X
      | none => none
    | false => none
  | _ => none
/-- Data at a place. -/
structure ADT.Here (A : ADT X) (st : St) (i : Nat) (x : X) : Prop where
  ok : A.Ok x
  le : i + A.m ≤ st.objs.length
  eq : (st.objs.drop i).take A.m = A.at_ i x
theorem ADT.on_spec {A : ADT X} {x : AV} {st : St} {k : Nat → X → Ans} {fin : Fin × St} (h : A.on x st k = some fin) : ∃ i y, x = .ptr (i + A.p) 0 ∧ A.Here st i y ∧ k i y = some fin := by
  unfold ADT.on at h
  split at h
  · rename_i j o
    split at h
    · rename_i ho
      rw [Bool.and_eq_true] at ho
      obtain ⟨h1, h2⟩ := ho
      obtain rfl := Nat.eq_of_beq_eq_true h1
      have h2 := Nat.le_of_ble_eq_true h2
      split at h
      · rename_i l hl
        unfold onSome at h
        split at h
        · cases h
        · rename_i y hy
          obtain ⟨g1, g2⟩ := getN_some hl
          obtain ⟨g3, g4⟩ := ADT.G_spec hy
          have hm := A.hp
          rw [List.length_drop] at g2
          exact ⟨j - A.p, y, by rw [Nat.sub_add_cancel h2], ⟨g3, by omega, by rw [← g1, g4]⟩, h⟩
      · cases h
    · cases h
  · cases h
theorem ADT.Here.lies {A : ADT X} {st : St} {i : Nat} {x : X} (h : A.Here st i x) : Lies st (A.obs x) (sh i) A.m (invS A.m i) := by
  refine ⟨A.len x, inv_sh _ i, fun j o ho => ?_, A.near x h.ok⟩
  have hj : j < A.m := by rw [← A.len x]; exact getElem?_lt ho
  have e := congrArg (fun l => l[j]?) h.eq
  simp only [List.getElem?_take, if_pos hj, List.getElem?_drop, ADT.at_, List.getElem?_map, ho, Option.map_some] at e
  exact e
theorem ADT.pl_len {A : ADT X} {st : St} {i : Nat} {x : X} (h : i + A.m ≤ st.objs.length) : (A.pl st i x).objs.length = st.objs.length := by
  have hl : (A.obl i x).length = A.m := by rw [ADT.obl_eq, ADT.at_len]
  rw [ADT.pl, plc_eq _ _ _ (by omega)]
  simp only [List.length_append, List.length_take, List.length_drop, hl]
  omega
theorem ADT.pl_in {A : ADT X} {st : St} {i : Nat} {x : X} (h : i + A.m ≤ st.objs.length) {j : Nat} (hj : j < A.m) : (A.pl st i x).objs[i + j]? = (A.at_ i x)[j]? := by
  have hl : (A.obl i x).length = A.m := by rw [ADT.obl_eq, ADT.at_len]
  rw [ADT.pl, plc_eq _ _ _ (by omega)]
  simp only [List.append_assoc]
  rw [List.getElem?_append_right (by rw [List.length_take]; omega), List.length_take, Nat.min_eq_left (by omega), Nat.add_sub_cancel_left, List.getElem?_append_left (by omega), ADT.obl_eq]
theorem ADT.pl_out {A : ADT X} {st : St} {i : Nat} {x : X} (h : i + A.m ≤ st.objs.length) {k : Nat} (hk : ¬ (i ≤ k ∧ k < i + A.m)) : (A.pl st i x).objs[k]? = st.objs[k]? := by
  have hl : (A.obl i x).length = A.m := by rw [ADT.obl_eq, ADT.at_len]
  rw [ADT.pl, plc_eq _ _ _ (by omega)]
  simp only [List.append_assoc]
  by_cases h1 : k < i
  · rw [List.getElem?_append_left (by rw [List.length_take]; omega), List.getElem?_take, if_pos h1]
  · rw [List.getElem?_append_right (by rw [List.length_take]; omega), List.length_take, Nat.min_eq_left (by omega), List.getElem?_append_right (by omega), List.getElem?_drop]
    congr 1; omega
theorem ADT.Here.same {A : ADT X} {st : St} {i : Nat} {x : X} (h : A.Here st i x) : A.pl st i x = st := by
  have e : (A.pl st i x).objs = st.objs := by
    apply List.ext_getElem?
    intro k
    by_cases hk : i ≤ k ∧ k < i + A.m
    · obtain ⟨j, rfl⟩ := Nat.exists_eq_add_of_le hk.1
      have hj : j < A.m := by omega
      rw [ADT.pl_in h.le hj]
      have e := congrArg (fun l => l[j]?) h.eq
      simp only [List.getElem?_take, if_pos hj, List.getElem?_drop] at e
      exact e.symm
    · rw [ADT.pl_out h.le hk]
  cases st
  simp only [ADT.pl] at e ⊢
  rw [e]
theorem ADT.near_at {A : ADT X} {y : X} (hy : A.Ok y) {i j : Nat} {o : Ob} (ho : (A.obs y)[j]? = some o) {τ : Nat → Nat} (hτ : ∀ k, k < A.m → τ k = i + k) : (A.at_ i y)[j]? = some (renO τ o) := by
  rw [ADT.at_, List.getElem?_map, ho, Option.map_some, renO_near (n := A.m) (ρ := sh i) (τ := τ) (fun k hk => (hτ k hk).symm) o (A.near y hy o (List.mem_of_getElem? ho))]
/-- A method, shown at the data's objects alone. -/
theorem ADT.placed {A : ADT X} {f : Fun P} {F : Nat} {x y : X} {args0 : List AV} {r : AV} {xs : List Ob} (hrun : f.run F args0 ⟨A.obs x, []⟩ = some (.ret r, ⟨A.obs y ++ xs, []⟩)) (hy : A.Ok y) (ha : NearL A.m args0) (hr : Near A.m (frz r))
    {st : St} {i : Nat} (hd : A.Here st i x) : CallsTo P f.id (renL (sh i) args0) st (.ret (ren (sh i) (frz r)), A.pl st i y) := by
  have n4 : ∀ j, j < A.m → nx (sh i) A.m st.objs.length j = i + j := fun j hj => by rw [nx, if_pos hj]; rfl
  have e : ren (nx (sh i) A.m st.objs.length) (frz r) = ren (sh i) (frz r) := ren_near (fun k hk => n4 k hk) _ hr
  rw [← e]
  refine V.placed (f.sound hrun) (Nat.le_refl _) (by simp [A.len]) ha hr (fun j o hj ho => ?_) hd.lies rfl (by rw [ADT.pl_len hd.le]; omega) (fun j o hj ho => ?_) (fun k hk hi => ?_)
  · rw [List.getElem?_append_left (by rw [A.len]; exact hj)] at ho
    exact A.near y hy o (List.mem_of_getElem? ho)
  · rw [List.getElem?_append_left (by rw [A.len]; exact hj)] at ho
    rw [n4 j hj, ADT.pl_in hd.le hj]
    exact ADT.near_at hy ho n4
  · refine ADT.pl_out hd.le fun e => ?_
    simp only [invS] at hi
    rw [if_pos e] at hi; cases hi
noncomputable def ADT.add (A : ADT X) (st : St) (x : X) : St := ⟨st.objs ++ A.obl st.objs.length x, st.tk⟩
/-- What makes data, shown at no objects. -/
theorem ADT.fresh {A : ADT X} {f : Fun P} {F : Nat} {x : X} {args0 : List AV} {r : AV} {xs : List Ob} (hrun : f.run F args0 ⟨[], []⟩ = some (.ret r, ⟨A.obs x ++ xs, []⟩)) (hx : A.Ok x) (ha : NearL 0 args0) (hr : Near A.m (frz r)) (st : St) :
    CallsTo P f.id args0 st (.ret (ren (sh st.objs.length) (frz r)), A.add st x) := by
  have n4 : ∀ j, nx (fun _ => 0) 0 st.objs.length j = st.objs.length + j := fun j => by rw [nx, if_neg (by omega)]; omega
  have e : ren (nx (fun _ => 0) 0 st.objs.length) (frz r) = ren (sh st.objs.length) (frz r) := ren_near (n := A.m) (fun k hk => n4 k) _ hr
  have e2 : renL (fun _ => 0) args0 = args0 := by
    have := renL_near (n := 0) (ρ := fun _ => 0) (τ := fun k => k) (fun k hk => by omega) args0 ha
    rw [this, renL_id]
  have hl : (A.obl st.objs.length x).length = A.m := by rw [ADT.obl_eq, ADT.at_len]
  rw [← e]
  have := V.placed (ρ := fun _ => 0) (f.sound hrun) (Nat.zero_le A.m) (by simp [A.len]) ha hr (fun j o hj ho => by
    rw [List.getElem?_append_left (by rw [A.len]; exact hj)] at ho
    exact A.near x hx o (List.mem_of_getElem? ho)) (inv := fun _ => none) (st := st) (st' := A.add st x) ⟨rfl, ⟨fun i hi => (by omega), fun k i h => (by cases h)⟩, fun i o h => (by simp at h), fun o h => (by simp at h)⟩ rfl (by simp [ADT.add, hl]) (fun j o hj ho => ?_) (fun k hk hi => ?_)
  · rw [e2] at this; exact this
  · rw [List.getElem?_append_left (by rw [A.len]; exact hj)] at ho
    rw [n4 j, ADT.add]
    simp only
    rw [List.getElem?_append_right (by omega), Nat.add_sub_cancel_left, ADT.obl_eq]
    exact ADT.near_at hx ho fun k _ => n4 k
  · rw [ADT.add]
    simp only
    rw [List.getElem?_append_left hk]
theorem CallsTo.wk {id : FuncId} {args args' : List AV} {st : St} {fin : Fin × St} (h : CallsTo P id args' st fin) (hw : ∀ g w vs, RelAll g w args vs → RelAll g w args' vs) : CallsTo P id args st fin := fun g w vals hv hs => h g w vals (hw g w _ hv) hs
theorem CallsTo.wkR {id : FuncId} {args : List AV} {st st' : St} {r r' : AV} (h : CallsTo P id args st (.ret r, st')) (hw : ∀ g w v, Rel g w r v → Rel g w r' v) : CallsTo P id args st (.ret r', st') := by
  intro g w vals hv hs
  refine (h g w vals hv hs).mono fun e w' ⟨g', k1, k2, k3⟩ => ?_
  obtain ⟨v, rfl, hv'⟩ := k1
  exact ⟨g', ⟨v, rfl, hw _ _ _ hv'⟩, k2, k3⟩

/-! ### An operation that freezes the slice it is handed -/
def updE (ev : Operand → AV) (i : Nat) (r : AV) : Operand → AV
  | .tmp j => match Nat.beq j i with
    | true => r
    | false => ev (.tmp j)
  | o => ev o
noncomputable def MSim.fz (y : MSim P) (i : Nat) : MSim P where
  oper := y.oper
  plain := y.plain
  xs := .tmp i :: y.xs
  f ev st k := afree (ev (.tmp i)) st fun r st' => y.f (updE ev i r) st' k
  congr ev ev' st k h := by
    rw [h (.tmp i) (by simp)]
    congr 1
    funext r st'
    refine y.congr _ _ _ _ fun o ho => ?_
    have := h o (by simp [ho])
    unfold updE
    split
    · split
      · rfl
      · exact this
    · exact this
  sound ev st k fin h g w a he hs := by
    obtain ⟨r, st', g', k1, k2, k3, k4⟩ := afree_rel hs (he (.tmp i) (by simp)) h
    obtain ⟨r2, st2, q1, q2⟩ := y.sound (updE ev i r) st' k fin k1 g' w a (fun o ho => by
      unfold updE
      split
      · rename_i j
        split
        · rename_i hj
          obtain rfl := Nat.eq_of_beq_eq_true hj
          exact k2
        · exact Rel.mono k4 _ _ (he _ (by simp [ho]))
      · exact Rel.mono k4 _ _ (he _ (by simp [ho]))) k3
    exact ⟨r2, st2, q1, fun next Q hn => q2 next Q fun v g2 w2 a1 a2 a3 => hn v g2 w2 a1 a2 (k4.trans a3)⟩
theorem MSim.fz_nat {y : MSim P} {i : Nat} (h : y.NatM) : (y.fz i).NatM := fun ev st k => by
  show afree _ st (fun r st' => y.f (updE ev i r) st' k) = thenM (afree _ st (fun r st' => y.f (updE ev i r) st' retM)) k
  rw [afree_nat, afree_nat (k := fun r st' => y.f (updE ev i r) st' retM)]
  cases afree (ev (.tmp i)) st retM with
  | none => rfl
  | some fin =>
    obtain ⟨fn, s⟩ := fin
    cases fn with
    | ret r => exact h (updE ev i r) s k
    | _ => rfl

/-! ### What goes on does not sway a callee's answer -/
def thS (a : Ans) (k : Fin → St → Ans) : Ans :=
  match a with
  | some (r, st') => k r st'
  | none => none
theorem onInt_th {x : AV} {s s' : IntKind → Int → Ans} {k : Fin → St → Ans} (h : ∀ i n, s i n = thS (s' i n) k) : onInt x s = thS (onInt x s') k := by
  unfold onInt
  split
  · exact h _ _
  · rfl
theorem onNs_th {sz : Nat} {x : AV} {s s' : Bool → List (List AV) → Ans} {k : Fin → St → Ans} (h : ∀ z l, s z l = thS (s' z l) k) : onNs sz x s = thS (onNs sz x s') k := by
  unfold onNs
  split
  · exact h _ _
  all_goals first
    | rfl
    | (split
       · exact h _ _
       · rfl)
theorem ifT_th {b : Bool} {s s' : Ans} {k : Fin → St → Ans} (h : s = thS s' k) : ifT b s = thS (ifT b s') k := by
  cases b
  · rfl
  · exact h
theorem ADT.on_th {A : ADT X} {x : AV} {st : St} {s s' : Nat → X → Ans} {k : Fin → St → Ans} (h : ∀ i y, s i y = thS (s' i y) k) : A.on x st s = thS (A.on x st s') k := by
  unfold ADT.on
  split
  · split
    · split
      · unfold onSome
        split
        · rfl
        · exact h _ _
      · rfl
    · rfl
  · rfl
theorem ADT.on_nat {A : ADT X} {x : AV} {st : St} {s s' : Nat → X → Ans} {K : AV → Ans} (h : ∀ i y, s i y = thenA (s' i y) K) : A.on x st s = thenA (A.on x st s') K := by
  unfold ADT.on
  split
  · split
    · split
      · unfold onSome
        split
        · rfl
        · exact h _ _
      · rfl
    · rfl
  · rfl
/-- A callee that only reads objects. -/
def Fun.byQ (f : Fun P) (sem : List AV → St → (AV → Ans) → Ans)
    (hs : ∀ args st k fin, sem args st k = some fin → ∃ r, k r = some fin ∧ CallsTo P f.id args st (.ret r, st)) : OrcQ P where
  id := f.id
  fn := f.fn
  hf := f.hf
  hname := f.hname
  hb := by rw [f.hbody]; rfl
  F := sem
  sound k args st fin h := hs args st k fin h
/-- So many rounds as one likes, for a callee within. -/
noncomputable def fuel : Nat := opq 1000000
theorem fuel_eq : fuel = 1000000 := opq_eq _

/-! ### Two data -/
mutual
theorem near_ren {n m : Nat} {ρ : Nat → Nat} (h : ∀ k, k < n → ρ k < m) : ∀ a : AV, Near n a → Near m (ren ρ a)
  | .bool _, _ => trivial
  | .int _ _, _ => trivial
  | .str _, _ => trivial
  | .nilptr, _ => trivial
  | .nilsl, _ => trivial
  | .nilmap, _ => trivial
  | .nilfn, _ => trivial
  | .nilif, _ => trivial
  | .ptr k off, s => h k s
  | .eptr cs, s => s
  | .sl _ _ _, s => s
  | .lg _ _ _, s => s.elim
  | .ms k sz off n cap, s => h k s
  | .mp k, s => h k s
  | .fn f a c, s => ⟨nearL_ren h a s.1, nearL_ren h c s.2⟩
  | .ifc t v, s => near_ren h v s
  | .agg cs, s => nearL_ren h cs s
  | .tup cs, s => nearL_ren h cs s
  | .dead, _ => trivial
  | .ns _ _ _, s => s
  | .vs k v sz n, s => h k s
  | .vp k v off, s => h k s
theorem nearL_ren {n m : Nat} {ρ : Nat → Nat} (h : ∀ k, k < n → ρ k < m) : ∀ l : List AV, NearL n l → NearL m (renL ρ l)
  | [], _ => trivial
  | x :: l, s => ⟨near_ren h x s.1, nearL_ren h l s.2⟩
end
theorem nearO_ren {n m : Nat} {ρ : Nat → Nat} (h : ∀ k, k < n → ρ k < m) (o : Ob) (s : NearO n o) : NearO m (renO ρ o) := by
  cases o with
  | cells cs => exact nearL_ren h cs s
  | map es =>
    refine ⟨?_, ?_⟩
    · rw [renO_map1]; exact nearL_ren h _ s.1
    · rw [renO_map2]; exact nearL_ren h _ s.2
  | vec v cs => exact nearL_ren h cs s
  | gone => trivial
  | nov v => trivial
theorem nearO_mono {n m : Nat} (h : n ≤ m) (o : Ob) (s : NearO n o) : NearO m o := by
  have := nearO_ren (ρ := fun k => k) (m := m) (fun k hk => Nat.lt_of_lt_of_le hk h) o s
  rwa [renO_id] at this
variable {Y : Type}
def sh2 (m i j k : Nat) : Nat := if k < m then i + k else j + (k - m)
def inv2 (m n i j k : Nat) : Option Nat := if i ≤ k ∧ k < i + m then some (k - i) else if j ≤ k ∧ k < j + n then some (m + (k - j)) else none
theorem inv_sh2 {m n i j : Nat} (hd : i + m ≤ j ∨ j + n ≤ i) : Inv (sh2 m i j) (m + n) (inv2 m n i j) := by
  refine ⟨fun k hk => ?_, fun k t h => ?_⟩
  · unfold sh2 inv2
    by_cases h1 : k < m
    · rw [if_pos h1, if_pos (by omega)]; congr 1; omega
    · rw [if_neg h1, if_neg (by omega), if_pos (by omega)]; congr 1; omega
  · unfold inv2 at h
    unfold sh2
    split at h
    · cases h; exact ⟨by omega, by rw [if_pos (by omega)]; omega⟩
    · split at h
      · cases h; exact ⟨by omega, by rw [if_neg (by omega)]; omega⟩
      · cases h
/-- A callee of two data, shown at their objects alone. -/
theorem ADT.placed2 {A : ADT X} {B : ADT Y} {f : Fun P} {F : Nat} {x x' : X} {y y' : Y} {args0 : List AV} {r : AV} {xs : List Ob} (hrun : f.run F args0 ⟨A.obs x ++ B.at_ A.m y, []⟩ = some (.ret r, ⟨A.obs x' ++ (B.at_ A.m y' ++ xs), []⟩)) (hx' : A.Ok x') (hy' : B.Ok y') (ha : NearL (A.m + B.m) args0) (hr : Near (A.m + B.m) (frz r))
    {st : St} {i j : Nat} (hx : A.Here st i x) (hy : B.Here st j y) (hd : i + A.m ≤ j ∨ j + B.m ≤ i) : CallsTo P f.id (renL (sh2 A.m i j) args0) st (.ret (ren (sh2 A.m i j) (frz r)), B.pl (A.pl st i x') j y') := by
  have hA := A.hp
  have hB := B.hp
  have s1 : ∀ k, k < A.m → sh2 A.m i j k = i + k := fun k hk => by rw [sh2, if_pos hk]
  have s2 : ∀ k, sh2 A.m i j (A.m + k) = j + k := fun k => by rw [sh2, if_neg (by omega), Nat.add_sub_cancel_left]
  have n4 : ∀ k, k < A.m + B.m → nx (sh2 A.m i j) (A.m + B.m) st.objs.length k = sh2 A.m i j k := fun k hk => by rw [nx, if_pos hk]
  have e : ren (nx (sh2 A.m i j) (A.m + B.m) st.objs.length) (frz r) = ren (sh2 A.m i j) (frz r) := ren_near (fun k hk => n4 k hk) _ hr
  have nearA : ∀ (z : X), A.Ok z → ∀ o ∈ A.obs z, NearO (A.m + B.m) o := fun z hz o ho => nearO_mono (by omega) o (A.near z hz o ho)
  have nearB : ∀ (z : Y), B.Ok z → ∀ o ∈ B.at_ A.m z, NearO (A.m + B.m) o := fun z hz o ho => by
    obtain ⟨o', ho', rfl⟩ := List.mem_map.mp ho
    exact nearO_ren (n := B.m) (fun k hk => by show A.m + k < _; omega) o' (B.near z hz o' ho')
  have renA : ∀ (z : X), A.Ok z → ∀ (k : Nat) (o : Ob), (A.obs z)[k]? = some o → (A.at_ i z)[k]? = some (renO (sh2 A.m i j) o) := fun z hz k o ho => ADT.near_at hz ho fun k hk => s1 k hk
  have renB : ∀ (z : Y), B.Ok z → ∀ (k : Nat) (o : Ob), (B.at_ A.m z)[k]? = some o → (B.at_ j z)[k]? = some (renO (sh2 A.m i j) o) := fun z hz k o ho => by
    rw [ADT.at_, List.getElem?_map] at ho
    cases h1 : (B.obs z)[k]? with
    | none => rw [h1] at ho; cases ho
    | some o' =>
      rw [h1, Option.map_some] at ho
      cases ho
      rw [renO_renO (sh2 A.m i j) (sh A.m) (fun t => j + t) (fun t => s2 t)]
      exact ADT.near_at hz h1 fun k hk => rfl
  rw [← e]
  have lenA : ∀ z : X, (A.obs z).length = A.m := A.len
  have lenB : ∀ z : Y, (B.at_ A.m z).length = B.m := B.at_len A.m
  have hlA := ADT.pl_len (A := A) (st := st) (i := i) (x := x') hx.le
  have hle2 : j + B.m ≤ (A.pl st i x').objs.length := by rw [hlA]; exact hy.le
  refine V.placed (f.sound hrun) (Nat.le_refl _) (by simp [lenA, lenB]) ha hr (fun k o hk ho => ?_) ⟨by simp [lenA, lenB], inv_sh2 hd, fun k o ho => ?_, fun o ho => ?_⟩ rfl (by rw [ADT.pl_len hle2, hlA]; omega) (fun k o hk ho => ?_) (fun k hk hi => ?_)
  · by_cases h1 : k < A.m
    · rw [List.getElem?_append_left (by rw [lenA]; exact h1)] at ho
      exact nearA x' hx' o (List.mem_of_getElem? ho)
    · rw [List.getElem?_append_right (by rw [lenA]; omega), lenA, List.getElem?_append_left (by rw [lenB]; omega)] at ho
      exact nearB y' hy' o (List.mem_of_getElem? ho)
  · by_cases h1 : k < A.m
    · rw [List.getElem?_append_left (by rw [lenA]; exact h1)] at ho
      rw [s1 k h1, ← renA x hx.ok k o ho]
      have e := congrArg (fun l => l[k]?) hx.eq
      simp only [List.getElem?_take, if_pos h1, List.getElem?_drop] at e
      exact e
    · rw [List.getElem?_append_right (by rw [lenA]; omega), lenA] at ho
      have hk2 : k - A.m < B.m := by rw [← lenB y]; exact getElem?_lt ho
      obtain ⟨t, rfl⟩ : ∃ t, k = A.m + t := ⟨k - A.m, by omega⟩
      rw [Nat.add_sub_cancel_left] at ho hk2
      rw [s2 t, ← renB y hy.ok t o ho]
      have e := congrArg (fun l => l[t]?) hy.eq
      simp only [List.getElem?_take, if_pos hk2, List.getElem?_drop] at e
      exact e
  · rcases List.mem_append.mp ho with ho | ho
    · exact nearA x hx.ok o ho
    · exact nearB y hy.ok o ho
  · have e2 : nx (sh2 A.m i j) (A.m + B.m) st.objs.length k = sh2 A.m i j k := n4 k hk
    have e3 : ∀ o, NearO (A.m + B.m) o → renO (nx (sh2 A.m i j) (A.m + B.m) st.objs.length) o = renO (sh2 A.m i j) o := fun o h => renO_near (fun k hk => n4 k hk) o h
    rw [e2]
    by_cases h1 : k < A.m
    · rw [List.getElem?_append_left (by rw [lenA]; exact h1)] at ho
      rw [e3 o (nearA x' hx' o (List.mem_of_getElem? ho)), s1 k h1, ADT.pl_out hle2 (by omega), ADT.pl_in hx.le h1]
      exact renA x' hx' k o ho
    · rw [List.getElem?_append_right (by rw [lenA]; omega), lenA, List.getElem?_append_left (by rw [lenB]; omega)] at ho
      obtain ⟨t, rfl⟩ : ∃ t, k = A.m + t := ⟨k - A.m, by omega⟩
      rw [Nat.add_sub_cancel_left] at ho
      rw [e3 o (nearB y' hy' o (List.mem_of_getElem? ho)), s2 t, ADT.pl_in hle2 (by omega)]
      exact renB y' hy' t o ho
  · have h1 : ¬ (i ≤ k ∧ k < i + A.m) := fun e => by
      simp only [inv2] at hi
      rw [if_pos e] at hi; cases hi
    have h2 : ¬ (j ≤ k ∧ k < j + B.m) := fun e => by
      simp only [inv2] at hi
      rw [if_neg h1, if_pos e] at hi; cases hi
    rw [ADT.pl_out hle2 h2, ADT.pl_out hx.le h1]
theorem opMakeF_nat {dst : Option Tmp} {T : TypeId} {x : Operand} {e sz bytes : Nat} {z : Value} {hT : ElemOf P T e sz bytes z} {zc : List AV} {hz : cellsA (ofLit z) = some zc} {hsz : Nat.beq z.cells.size sz = true} {hl : Nat.beq zc.length sz = true} {ty : TypeId} {pos : String} {after : Array Edge} : (opMakeF (P := P) dst T x e sz bytes z hT zc hz hsz hl ty pos after).Nat := fun ev k => by
  show amakeF sz bytes zc (ev x) k = thenA (amakeF sz bytes zc (ev x) retA) k
  unfold amakeF
  split
  · split <;> rfl
  · rfl
end
end Go.V

/- The functions' pieces, as told by gen.py. -/
set_option linter.unusedVariables false
set_option maxRecDepth 20000
namespace Go.Proofs.Ytblliolkgkgppaa.V
open Go Go.V Go.RowKit

theorem sz5 : (Try.prog.info? 5).map (·.size) = some 1 := by kernel_rfl
theorem ze5 : (Try.prog.info? 5).bind (·.zero) = some (.int .u8 0) := by kernel_rfl
theorem by5 : (Try.prog.info? 5).map (·.bytes) = some 1 := by kernel_rfl
theorem el25 : ElemOf Try.prog 25 5 1 1 (.int .u8 0) := ⟨Try.underlying25, sz5, by5, ze5, by kernel_rfl, by decide⟩
theorem sz25 : (Try.prog.info? 25).map (·.size) = some 1 := by kernel_rfl
theorem mixed : Try.prog.follows .mixedOrders = true := by kernel_rfl

/-! ### 12: interlock/interlockref00.SameBytes (25, 25); results 4; slots: 0 a, 1 b, 2 a, 3 b, 5 i -/
/-- A loop's round; at its head live: 0 a, 1 b, 5 i -/
noncomputable def f12_l0 : Sim Try.prog :=
  (.seq (.seq (.live [0, 1, 5, 14] (.region 4 [
    ⟨(opMove (some 11) (.tmp 5) 3 "ref.go:18" #[]).op, none⟩,
    ⟨(opMove (some 12) (.tmp 0) 25 "ref.go:18" #[]).op, none⟩,
    ⟨(opLen (some 13) (.tmp 12) 25 (.slice 5) Try.underlying25 3 "ref.go:18" #[{ on := 1, ground := Ground.data }]).op, none⟩,
    ⟨(opBin (some 14) .lss 3 (.tmp 11) (.tmp 13) 3 4 "ref.go:18" #[{ on := 0, ground := Ground.data }, { on := 2, ground := Ground.data }]).op, none⟩
  ] (by kernel_rfl)))
  (.cond (.tmp 14)
    .skip
    (.live [] (.exit 0))))
  (.seq (.block 1 (.seq (.live [0, 1, 5, 25] (.draw 6 [
      ⟨.p (opMove (some 17) (.tmp 0) 25 "ref.go:19" #[]), none⟩,
      ⟨.p (opMove (some 18) (.tmp 5) 3 "ref.go:19" #[]), none⟩,
      ⟨.pn (opIndexAddrT (some 19) 25 (.tmp 17) (.tmp 18) 5 1 Try.underlying25 sz5 0 "ref.go:19" #[{ on := 0, ground := Ground.data }, { on := 1, ground := Ground.data }]) opIndexAddrT_nat, none⟩,
      ⟨.qn (opLoadT (.one (.int .u8)) (some 20) 5 (.tmp 19) (.int .u8) Try.underlying5 1 sz5 (by kernel_rfl) 5 "ref.go:19" #[{ on := 2, ground := Ground.data }]) opLoadT_nat, none⟩,
      ⟨.p (opMove (some 21) (.tmp 1) 25 "ref.go:19" #[]), none⟩,
      ⟨.p (opMove (some 22) (.tmp 5) 3 "ref.go:19" #[]), none⟩,
      ⟨.pn (opIndexAddrT (some 23) 25 (.tmp 21) (.tmp 22) 5 1 Try.underlying25 sz5 0 "ref.go:19" #[{ on := 4, ground := Ground.data }, { on := 5, ground := Ground.data }]) opIndexAddrT_nat, none⟩,
      ⟨.qn (opLoadT (.one (.int .u8)) (some 24) 5 (.tmp 23) (.int .u8) Try.underlying5 1 sz5 (by kernel_rfl) 5 "ref.go:19" #[{ on := 6, ground := Ground.data }]) opLoadT_nat, none⟩,
      ⟨.pn (opBin (some 25) .neq 5 (.tmp 20) (.tmp 24) 5 4 "ref.go:19" #[{ on := 3, ground := Ground.data }, { on := 7, ground := Ground.data }]) opBin_nat, none⟩
    ] mixed (by kernel_rfl)))
    (.cond (.tmp 25)
      (.seq (.live [4] (.region 7 [
        ⟨(opAssign (some 4) (.const (Value.bool false)) 4 "ref.go:20" #[]).op, none⟩
      ] (by kernel_rfl)))
      (.live [4] .ret))
      .skip)))
  (.live [0, 1, 5] (.region 5 [
    ⟨(opMove (some 15) (.tmp 5) 3 "ref.go:18" #[]).op, none⟩,
    ⟨(opBin (some 16) .add 3 (.tmp 15) (.const (Value.int IntKind.i64 1)) 3 3 "ref.go:18" #[{ on := 0, ground := Ground.data }]).op, none⟩,
    ⟨(opAssign (some 5) (.tmp 16) 3 "ref.go:18" #[{ on := 1, ground := Ground.data }, { on := 0, ground := Ground.phase }, { on := 1, ground := Ground.phase }]).op, none⟩
  ] (by kernel_rfl)))))

/-- What follows a loop. -/
noncomputable def f12_r0 : Sim Try.prog :=
  (.seq (.live [4] (.region 8 [
    ⟨(opAssign (some 4) (.const (Value.bool true)) 4 "ref.go:23" #[]).op, none⟩
  ] (by kernel_rfl)))
  (.live [4] .ret))

noncomputable def f12_b : Sim Try.prog :=
  (.seq (.live [0, 1] (.region 0 [
    ⟨(opAssign (some 4) (.const (Value.bool false)) 4 "ref.go:14" #[]).op, none⟩
  ] (by kernel_rfl)))
  (.seq (.seq (.live [0, 1, 10] (.region 1 [
    ⟨(opMove (some 6) (.tmp 0) 25 "ref.go:15" #[]).op, none⟩,
    ⟨(opLen (some 7) (.tmp 6) 25 (.slice 5) Try.underlying25 3 "ref.go:15" #[{ on := 0, ground := Ground.data }]).op, none⟩,
    ⟨(opMove (some 8) (.tmp 1) 25 "ref.go:15" #[]).op, none⟩,
    ⟨(opLen (some 9) (.tmp 8) 25 (.slice 5) Try.underlying25 3 "ref.go:15" #[{ on := 2, ground := Ground.data }]).op, none⟩,
    ⟨(opBin (some 10) .neq 3 (.tmp 7) (.tmp 9) 3 4 "ref.go:15" #[{ on := 1, ground := Ground.data }, { on := 3, ground := Ground.data }]).op, none⟩
  ] (by kernel_rfl)))
  (.cond (.tmp 10)
    (.seq (.live [4] (.region 2 [
      ⟨(opAssign (some 4) (.const (Value.bool false)) 4 "ref.go:16" #[]).op, none⟩
    ] (by kernel_rfl)))
    (.live [4] .ret))
    .skip))
  (.seq (.seq (.live [0, 1, 5] (.region 3 [
    ⟨(opAssign (some 5) (.const (Value.int IntKind.i64 0)) 3 "ref.go:18" #[]).op, none⟩
  ] (by kernel_rfl)))
  (.block 0 (.loop [0, 1, 5] f12_l0)))
  f12_r0)))

noncomputable def f12 : Fun Try.prog where
  id := 12
  fn := Try.f12
  hf := Try.func12
  hname := by kernel_rfl
  body := f12_b
  hbody := by kernel_rfl
  res := [rTmp 4]
  hres := by kernel_rfl
  n := 26
  hn := by kernel_rfl

/-! ### 19: interlock/interlockref00.CopyBytes (25); results 2; slots: 0 b, 1 b, 3 out -/
noncomputable def f19_b : Sim Try.prog :=
  (.seq (.live [0] (.region 0 [
    ⟨(opAssign (some 2) (.const (Value.slice none 0 0)) 25 "ref.go:7" #[]).op, none⟩
  ] (by kernel_rfl)))
  (.seq (.live [0, 3] (.region 1 [
    ⟨(opBuildSlice (some 4) 25 0 [] 5 1 1 (.int .u8 0) el25 (by kernel_rfl) (by decide) 25 "ref.go:8" #[]).op, none⟩,
    ⟨(opAssign (some 3) (.tmp 4) 25 "ref.go:8" #[{ on := 0, ground := Ground.data }, { on := 0, ground := Ground.phase }]).op, none⟩
  ] (by kernel_rfl)))
  (.seq (.live [3] (.region 2 [
    ⟨(opMove (some 5) (.tmp 3) 25 "ref.go:9" #[]).op, none⟩,
    ⟨(opMove (some 6) (.tmp 0) 25 "ref.go:9" #[]).op, none⟩,
    ⟨(opAppendF (some 7) (.tmp 5) (.tmp 6) 25 25 5 1 1 (.int .u8 0) el25 (.slice 5) Try.underlying25 rfl 25 "ref.go:9" #[{ on := 0, ground := Ground.data }, { on := 1, ground := Ground.data }]).op, none⟩,
    ⟨(opAssign (some 3) (.tmp 7) 25 "ref.go:9" #[{ on := 2, ground := Ground.data }, { on := 2, ground := Ground.chain }, { on := 0, ground := Ground.phase }, { on := 1, ground := Ground.phase }, { on := 2, ground := Ground.phase }]).op, none⟩
  ] (by kernel_rfl)))
  (.seq (.live [2] (.region 3 [
    ⟨(opMove (some 8) (.tmp 3) 25 "ref.go:10" #[]).op, none⟩,
    ⟨(opAssign (some 2) (.tmp 8) 25 "ref.go:10" #[{ on := 0, ground := Ground.data }, { on := 0, ground := Ground.phase }]).op, none⟩
  ] (by kernel_rfl)))
  (.live [2] .ret)))))

noncomputable def f19 : Fun Try.prog where
  id := 19
  fn := Try.f19
  hf := Try.func19
  hname := by kernel_rfl
  body := f19_b
  hbody := by kernel_rfl
  res := [rTmp 2]
  hres := by kernel_rfl
  n := 9
  hn := by kernel_rfl

/-! ### 10: interlock/page.New (); results 0; slots:  -/
noncomputable def f10_b : Sim Try.prog :=
  (.seq (.live [] (.region 0 [
    ⟨(opAssign (some 0) (.const (Value.slice none 0 0)) 25 "page.go:82" #[]).op, none⟩
  ] (by kernel_rfl)))
  (.seq (.live [0] (.region 1 [
    ⟨(opMakeC (some 1) 25 (.const (Value.int IntKind.i64 256)) 5 1 1 (.int .u8 0) el25 [AV.int .u8 0] (by kernel_rfl) (by kernel_rfl) 25 "page.go:82" #[]).op, none⟩,
    ⟨(opAssign (some 0) (.tmp 1) 25 "page.go:82" #[{ on := 0, ground := Ground.data }, { on := 0, ground := Ground.phase }]).op, none⟩
  ] (by kernel_rfl)))
  (.live [0] .ret)))

noncomputable def f10 : Fun Try.prog where
  id := 10
  fn := Try.f10
  hf := Try.func10
  hname := by kernel_rfl
  body := f10_b
  hbody := by kernel_rfl
  res := [rTmp 0]
  hres := by kernel_rfl
  n := 2
  hn := by kernel_rfl

/-! ### 36: (interlock/page.slots).trimmed (44); results 2; slots: 0 s, 1 s -/
/-- A loop's round; at its head live: 0 s -/
noncomputable def f36_l0 : Sim Try.prog :=
  (.seq (.seq (.live [0, 14] (.region 1 [
    ⟨(opMove (some 3) (.tmp 0) 44 "page.go:21" #[]).op, none⟩,
    ⟨(opLen (some 4) (.tmp 3) 44 (.slice 25) Try.underlying44 3 "page.go:21" #[{ on := 0, ground := Ground.data }]).op, none⟩,
    ⟨(opBin (some 5) .gtr 3 (.tmp 4) (.const (Value.int IntKind.i64 0)) 3 4 "page.go:21" #[{ on := 1, ground := Ground.data }]).op, none⟩,
    ⟨(opMove (some 6) (.tmp 5) 4 "page.go:21" #[{ on := 2, ground := Ground.data }]).op, none⟩,
    ⟨(opMove (some 7) (.tmp 0) 44 "page.go:21" #[{ on := 3, ground := Ground.guard }]).op, (some (3, 6, true))⟩,
    ⟨(opMove (some 8) (.tmp 0) 44 "page.go:21" #[{ on := 3, ground := Ground.guard }]).op, (some (3, 6, true))⟩,
    ⟨(opLen (some 9) (.tmp 8) 44 (.slice 25) Try.underlying44 3 "page.go:21" #[{ on := 5, ground := Ground.data }, { on := 3, ground := Ground.guard }]).op, (some (3, 6, true))⟩,
    ⟨(opBin (some 10) .sub 3 (.tmp 9) (.const (Value.int IntKind.i64 1)) 3 3 "page.go:21" #[{ on := 6, ground := Ground.data }, { on := 3, ground := Ground.guard }]).op, (some (3, 6, true))⟩,
    ⟨(opIndexAddrT (some 11) 44 (.tmp 7) (.tmp 10) 25 1 Try.underlying44 sz25 0 "page.go:21" #[{ on := 4, ground := Ground.data }, { on := 7, ground := Ground.data }, { on := 3, ground := Ground.guard }]).op, (some (3, 6, true))⟩,
    ⟨(opLoadT (.one (.ns 1)) (some 12) 25 (.tmp 11) (.slice 5) Try.underlying25 1 sz25 (by kernel_rfl) 25 "page.go:21" #[{ on := 8, ground := Ground.data }, { on := 3, ground := Ground.guard }]).op, (some (3, 6, true))⟩,
    ⟨(opEq (some 13) 25 (.slice 5) Try.underlying25 (.tmp 12) (.const (Value.slice none 0 0)) (.inl rfl) 25 4 "page.go:21" #[{ on := 9, ground := Ground.data }, { on := 3, ground := Ground.guard }]).op, (some (3, 6, true))⟩,
    ⟨(opPick (some 14) (.tmp 6) (.tmp 13) (.const (Value.bool false)) 4 "page.go:21" #[{ on := 3, ground := Ground.data }, { on := 10, ground := Ground.data }]).op, none⟩
  ] (by kernel_rfl)))
  (.cond (.tmp 14)
    .skip
    (.live [0] (.exit 0))))
  (.block 1 (.live [0] (.region 2 [
      ⟨(opMove (some 15) (.tmp 0) 44 "page.go:22" #[]).op, none⟩,
      ⟨(opMove (some 16) (.tmp 0) 44 "page.go:22" #[]).op, none⟩,
      ⟨(opLen (some 17) (.tmp 16) 44 (.slice 25) Try.underlying44 3 "page.go:22" #[{ on := 1, ground := Ground.data }]).op, none⟩,
      ⟨(opBin (some 18) .sub 3 (.tmp 17) (.const (Value.int IntKind.i64 1)) 3 3 "page.go:22" #[{ on := 2, ground := Ground.data }]).op, none⟩,
      ⟨(opSlice (some 19) 44 (.tmp 15) none (some (.tmp 18)) none 25 1 Try.underlying44 sz25 44 "page.go:22" #[{ on := 0, ground := Ground.data }, { on := 3, ground := Ground.data }]).op, none⟩,
      ⟨(opAssign (some 0) (.tmp 19) 44 "page.go:22" #[{ on := 4, ground := Ground.data }, { on := 0, ground := Ground.phase }, { on := 1, ground := Ground.phase }, { on := 2, ground := Ground.phase }, { on := 3, ground := Ground.phase }, { on := 4, ground := Ground.phase }]).op, none⟩
    ] (by kernel_rfl)))))

/-- What follows a loop. -/
noncomputable def f36_r0 : Sim Try.prog :=
  (.seq (.live [2] (.region 3 [
    ⟨(opMove (some 20) (.tmp 0) 44 "page.go:24" #[]).op, none⟩,
    ⟨(opAssign (some 2) (.tmp 20) 44 "page.go:24" #[{ on := 0, ground := Ground.data }, { on := 0, ground := Ground.phase }]).op, none⟩
  ] (by kernel_rfl)))
  (.live [2] .ret))

noncomputable def f36_b : Sim Try.prog :=
  (.seq (.live [0] (.region 0 [
    ⟨(opAssign (some 2) (.const (Value.slice none 0 0)) 44 "page.go:20" #[]).op, none⟩
  ] (by kernel_rfl)))
  (.seq (.block 0 (.loop [0] f36_l0))
  f36_r0))

noncomputable def f36 : Fun Try.prog where
  id := 36
  fn := Try.f36
  hf := Try.func36
  hname := by kernel_rfl
  body := f36_b
  hbody := by kernel_rfl
  res := [rTmp 2]
  hres := by kernel_rfl
  n := 21
  hn := by kernel_rfl

/-! ### 37: (interlock/page.slots).page$1 (25); results 2; slots: 0 b, 1 b -/
noncomputable def f37_b : Sim Try.prog :=
  (.seq (.live [0] (.region 0 [
    ⟨(opAssign (some 2) (.const (Value.bool false)) 4 "page.go:38" #[]).op, none⟩
  ] (by kernel_rfl)))
  (.seq (.live [2] (.region 1 [
    ⟨(opMove (some 3) (.tmp 0) 25 "page.go:38" #[]).op, none⟩,
    ⟨(opLen (some 4) (.tmp 3) 25 (.slice 5) Try.underlying25 3 "page.go:38" #[{ on := 0, ground := Ground.data }]).op, none⟩,
    ⟨(opBin (some 5) .gtr 3 (.tmp 4) (.const (Value.int IntKind.i64 200)) 3 4 "page.go:38" #[{ on := 1, ground := Ground.data }]).op, none⟩,
    ⟨(opAssign (some 2) (.tmp 5) 4 "page.go:38" #[{ on := 2, ground := Ground.data }, { on := 0, ground := Ground.phase }, { on := 1, ground := Ground.phase }, { on := 2, ground := Ground.phase }]).op, none⟩
  ] (by kernel_rfl)))
  (.live [2] .ret)))

noncomputable def f37 : Fun Try.prog where
  id := 37
  fn := Try.f37
  hf := Try.func37
  hname := by kernel_rfl
  body := f37_b
  hbody := by kernel_rfl
  res := [rTmp 2]
  hres := by kernel_rfl
  n := 6
  hn := by kernel_rfl

/-! ### 28: (interlock/page.slots).size (44); results 2; slots: 0 s, 1 s, 3 n, 4 _, 5 b -/
/-- A loop's round; at its head live: 3 n, 9 , 10 , 11  -/
noncomputable def f28_l0 : Sim Try.prog :=
  (.seq (.live [3, 9, 10, 11, 12] (.region 3 [
    ⟨(opBin (some 12) .lss 3 (.tmp 11) (.tmp 10) 3 0 "page.go:30" #[]).op, none⟩
  ] (by kernel_rfl)))
  (.seq (.cond (.tmp 12)
    .skip
    (.live [3] (.exit 0)))
  (.seq (.block 1 (.seq (.live [3, 5, 9, 10, 11] (.region 4 [
      ⟨(opIndexAddrT (some 13) 44 (.tmp 9) (.tmp 11) 25 1 Try.underlying44 sz25 0 "page.go:30" #[]).op, none⟩,
      ⟨(opLoadT (.one (.ns 1)) (some 14) 25 (.tmp 13) (.slice 5) Try.underlying25 1 sz25 (by kernel_rfl) 25 "page.go:30" #[{ on := 0, ground := Ground.data }]).op, none⟩,
      ⟨(opAssign (some 5) (.tmp 14) 25 "page.go:30" #[{ on := 1, ground := Ground.data }, { on := 0, ground := Ground.phase }, { on := 1, ground := Ground.phase }]).op, none⟩
    ] (by kernel_rfl)))
    (.live [3, 9, 10, 11] (.region 5 [
      ⟨(opMove (some 15) (.tmp 3) 3 "page.go:31" #[]).op, none⟩,
      ⟨(opMove (some 16) (.tmp 5) 25 "page.go:31" #[]).op, none⟩,
      ⟨(opLen (some 17) (.tmp 16) 25 (.slice 5) Try.underlying25 3 "page.go:31" #[{ on := 1, ground := Ground.data }]).op, none⟩,
      ⟨(opBin (some 18) .add 3 (.tmp 15) (.tmp 17) 3 3 "page.go:31" #[{ on := 0, ground := Ground.data }, { on := 2, ground := Ground.data }]).op, none⟩,
      ⟨(opAssign (some 3) (.tmp 18) 3 "page.go:31" #[{ on := 3, ground := Ground.data }, { on := 0, ground := Ground.phase }, { on := 1, ground := Ground.phase }, { on := 2, ground := Ground.phase }, { on := 3, ground := Ground.phase }]).op, none⟩
    ] (by kernel_rfl)))))
  (.live [3, 9, 10, 11] (.region 6 [
    ⟨(opBin (some 19) .add 3 (.tmp 11) (.const (Value.int IntKind.i64 1)) 3 3 "page.go:30" #[]).op, none⟩,
    ⟨(opMove (some 11) (.tmp 19) 3 "page.go:30" #[{ on := 0, ground := Ground.data }]).op, none⟩
  ] (by kernel_rfl))))))

/-- What follows a loop. -/
noncomputable def f28_r0 : Sim Try.prog :=
  (.seq (.live [2] (.region 7 [
    ⟨(opMove (some 20) (.tmp 3) 3 "page.go:33" #[]).op, none⟩,
    ⟨(opAssign (some 2) (.tmp 20) 3 "page.go:33" #[{ on := 0, ground := Ground.data }, { on := 0, ground := Ground.phase }]).op, none⟩
  ] (by kernel_rfl)))
  (.live [2] .ret))

noncomputable def f28_b : Sim Try.prog :=
  (.seq (.live [0] (.region 0 [
    ⟨(opAssign (some 2) (.const (Value.int IntKind.i64 0)) 3 "page.go:28" #[]).op, none⟩
  ] (by kernel_rfl)))
  (.seq (.live [0, 3] (.region 1 [
    ⟨(opMove (some 6) (.tmp 0) 44 "page.go:29" #[]).op, none⟩,
    ⟨(opLen (some 7) (.tmp 6) 44 (.slice 25) Try.underlying44 3 "page.go:29" #[{ on := 0, ground := Ground.data }]).op, none⟩,
    ⟨(opBin (some 8) .add 3 (.const (Value.int IntKind.i64 1)) (.tmp 7) 3 3 "page.go:29" #[{ on := 1, ground := Ground.data }]).op, none⟩,
    ⟨(opAssign (some 3) (.tmp 8) 3 "page.go:29" #[{ on := 2, ground := Ground.data }, { on := 0, ground := Ground.phase }, { on := 1, ground := Ground.phase }, { on := 2, ground := Ground.phase }]).op, none⟩
  ] (by kernel_rfl)))
  (.seq (.seq (.live [3, 9, 10, 11] (.region 2 [
    ⟨(opMove (some 9) (.tmp 0) 44 "page.go:30" #[]).op, none⟩,
    ⟨(opLen (some 10) (.tmp 9) 44 (.slice 25) Try.underlying44 3 "page.go:30" #[{ on := 0, ground := Ground.data }]).op, none⟩,
    ⟨(opMove (some 11) (.const (Value.int IntKind.i64 0)) 3 "page.go:30" #[]).op, none⟩
  ] (by kernel_rfl)))
  (.block 0 (.loop [3, 9, 10, 11] f28_l0)))
  f28_r0)))

noncomputable def f28 : Fun Try.prog where
  id := 28
  fn := Try.f28
  hf := Try.func28
  hname := by kernel_rfl
  body := f28_b
  hbody := by kernel_rfl
  res := [rTmp 2]
  hres := by kernel_rfl
  n := 21
  hn := by kernel_rfl

/-! ### 25: interlock/page.Add$1 (25); results 2; slots: 0 b, 1 b -/
noncomputable def f25_b : Sim Try.prog :=
  (.seq (.live [0] (.region 0 [
    ⟨(opAssign (some 2) (.const (Value.bool false)) 4 "page.go:123" #[]).op, none⟩
  ] (by kernel_rfl)))
  (.seq (.live [2] (.region 1 [
    ⟨(opMove (some 3) (.tmp 0) 25 "page.go:123" #[]).op, none⟩,
    ⟨(opEq (some 4) 25 (.slice 5) Try.underlying25 (.tmp 3) (.const (Value.slice none 0 0)) (.inl rfl) 25 4 "page.go:123" #[{ on := 0, ground := Ground.data }]).op, none⟩,
    ⟨(opAssign (some 2) (.tmp 4) 4 "page.go:123" #[{ on := 1, ground := Ground.data }, { on := 0, ground := Ground.phase }, { on := 1, ground := Ground.phase }]).op, none⟩
  ] (by kernel_rfl)))
  (.live [2] .ret)))

noncomputable def f25 : Fun Try.prog where
  id := 25
  fn := Try.f25
  hf := Try.func25
  hname := by kernel_rfl
  body := f25_b
  hbody := by kernel_rfl
  res := [rTmp 2]
  hres := by kernel_rfl
  n := 5
  hn := by kernel_rfl

/-! ### 27: interlock/page.Room$1 (25); results 2; slots: 0 b, 1 b -/
noncomputable def f27_b : Sim Try.prog :=
  (.seq (.live [0] (.region 0 [
    ⟨(opAssign (some 2) (.const (Value.bool false)) 4 "page.go:162" #[]).op, none⟩
  ] (by kernel_rfl)))
  (.seq (.live [2] (.region 1 [
    ⟨(opMove (some 3) (.tmp 0) 25 "page.go:162" #[]).op, none⟩,
    ⟨(opEq (some 4) 25 (.slice 5) Try.underlying25 (.tmp 3) (.const (Value.slice none 0 0)) (.inl rfl) 25 4 "page.go:162" #[{ on := 0, ground := Ground.data }]).op, none⟩,
    ⟨(opAssign (some 2) (.tmp 4) 4 "page.go:162" #[{ on := 1, ground := Ground.data }, { on := 0, ground := Ground.phase }, { on := 1, ground := Ground.phase }]).op, none⟩
  ] (by kernel_rfl)))
  (.live [2] .ret)))

noncomputable def f27 : Fun Try.prog where
  id := 27
  fn := Try.f27
  hf := Try.func27
  hname := by kernel_rfl
  body := f27_b
  hbody := by kernel_rfl
  res := [rTmp 2]
  hres := by kernel_rfl
  n := 5
  hn := by kernel_rfl

end Go.Proofs.Ytblliolkgkgppaa.V

/- What the functions' runs come to; the right sides were printed by a tool, Lean checks them. -/
set_option linter.unusedVariables false
set_option maxRecDepth 100000
namespace Go.Proofs.Ytblliolkgkgppaa.V
open Go Go.V Go.RowKit

theorem same_run (F : Nat) (z y : Bool) (l r : List (List AV)) (st : St) :
    (f12.run F [.ns z 1 l, .ns y 1 r] st : Ans) =
    branch (AV.bool ((↑l.length : Int) != (↑r.length : Int))) (some (Fin.ret (AV.bool false), st))
      (loopRun (f12_l0.run F) [0, 1, 5]
        (Cont.block 0 (Cont.then (f12_r0.run F (f12.leaveK Fun.done)) (f12.leaveK Fun.done))) F
        (Env.mk 26
          [(0, AV.ns z 1 l), (1, AV.ns y 1 r), (5, AV.int IntKind.i64 (0 : Int))])
        st) := by kernel_rfl

theorem same_round (F n : Nat) (K : Cont) (z y : Bool) (i : Int) (l r : List (List AV)) (st : St) :
    (loopRun (f12_l0.run F) [0, 1, 5] K n.succ (Env.mk 26 [(0, .ns z 1 l), (1, .ns y 1 r), (5, .int .i64 i)]) st : Ans) =
    branch (AV.bool (decide (i < (↑l.length : Int))))
      (branch (AV.bool (inR l i))
        (branch (AV.bool ((LD.one (LT.int IntKind.u8)).is (V.rowAt l i)))
          (branch (AV.bool (inR r i))
            (branch (AV.bool ((LD.one (LT.int IntKind.u8)).is (V.rowAt r i)))
              (branch (AV.bool (hdI (V.rowAt l i) != hdI (V.rowAt r i)))
                (K AX.ret (Env.mk 26 [(4, AV.bool false)]) st)
                (loopRun (f12_l0.run F) [0, 1, 5] K n
                  (Env.mk 26
                    [(0, AV.ns z 1 l), (1, AV.ns y 1 r),
                      (5, AV.int IntKind.i64 (IntKind.i64.wrap (i + (1 : Int))))])
                  st))
              none)
            none)
          none)
        none)
      (K (AX.exit 0) (Env.mk 26 []) st) := by kernel_rfl

theorem same_out (F : Nat) (st : St) :
    ((Cont.block 0 (Cont.then (f12_r0.run F (f12.leaveK Fun.done)) (f12.leaveK Fun.done))) (.exit 0) (Env.mk 26 []) st : Ans) =
    some (Fin.ret (AV.bool true), st) := by kernel_rfl

theorem same_ret (F : Nat) (st : St) :
    ((Cont.block 0 (Cont.then (f12_r0.run F (f12.leaveK Fun.done)) (f12.leaveK Fun.done))) .ret (Env.mk 26 [(4, .bool false)]) st : Ans) =
    some (Fin.ret (AV.bool false), st) := by kernel_rfl

theorem copy_run (F : Nat) (z : Bool) (l : List (List AV)) (st : St) :
    (f19.run F [.ns z 1 l] st : Ans) =
    branch (AV.bool (true && apOk l.length 1)) (some (Fin.ret (AV.sl 1 false l), st)) none := by kernel_rfl

theorem new_run (F : Nat) (st : St) :
    (f10.run F [] st : Ans) =
    branch (AV.bool (mkOk 1 (256 : Int)))
      (some
        (Fin.ret (AV.ms st.objs.length 1 0 256 256),
          St.mk (st.objs ++ [Ob.cells (zerC 256 [AV.int IntKind.u8 (0 : Int)])]) st.tk))
      none := by kernel_rfl

theorem free_run (F : Nat) (z : Bool) (l : List (List AV)) (st : St) :
    (f25.run F [.ns z 1 l] st : Ans) =
    some (Fin.ret (AV.bool z), st) := by kernel_rfl

theorem free2_run (F : Nat) (z : Bool) (l : List (List AV)) (st : St) :
    (f27.run F [.ns z 1 l] st : Ans) =
    some (Fin.ret (AV.bool z), st) := by kernel_rfl

theorem big_run (F : Nat) (z : Bool) (l : List (List AV)) (st : St) :
    (f37.run F [.ns z 1 l] st : Ans) =
    some (Fin.ret (AV.bool (decide ((↑l.length : Int) > (200 : Int)))), st) := by kernel_rfl

theorem trim_run (F : Nat) (z : Bool) (l : List (List AV)) (st : St) :
    (f36.run F [.ns z 1 l] st : Ans) =
    loopRun (f36_l0.run F) [0]
      (Cont.block 0 (Cont.then (f36_r0.run F (f36.leaveK Fun.done)) (f36.leaveK Fun.done))) F
      (Env.mk 21 [(0, AV.ns z 1 l)]) st := by kernel_rfl

theorem trim_round (F n : Nat) (K : Cont) (z : Bool) (l : List (List AV)) (st : St) :
    (loopRun (f36_l0.run F) [0] K n.succ (Env.mk 21 [(0, .ns z 1 l)]) st : Ans) =
    branch (AV.bool (decide ((↑l.length : Int) > (0 : Int))))
      (branch (AV.bool (inR l (IntKind.i64.wrap ((↑l.length : Int) - (1 : Int)))))
        (branch (AV.bool ((LD.one (LT.ns 1)).is (V.rowAt l (IntKind.i64.wrap ((↑l.length : Int) - (1 : Int))))))
          (branch (AV.bool (nilA (V.rowAt l (IntKind.i64.wrap ((↑l.length : Int) - (1 : Int))))))
            (if
                (0 : Int) ≤ IntKind.i64.wrap ((↑l.length : Int) - (1 : Int)) ∧
                  IntKind.i64.wrap ((↑l.length : Int) - (1 : Int)) ≤ (↑l.length : Int) then
              loopRun (f36_l0.run F) [0] K n
                (Env.mk 21
                  [(0,
                      AV.ns z 1
                        (List.drop 0 (List.take (IntKind.i64.wrap ((↑l.length : Int) - (1 : Int))).toNat l)))])
                st
            else none)
            (K (AX.exit 0) (Env.mk 21 [(0, AV.ns z 1 l)]) st))
          none)
        none)
      (K (AX.exit 0) (Env.mk 21 [(0, AV.ns z 1 l)]) st) := by kernel_rfl

theorem trim_out (F : Nat) (z : Bool) (l : List (List AV)) (st : St) :
    ((Cont.block 0 (Cont.then (f36_r0.run F (f36.leaveK Fun.done)) (f36.leaveK Fun.done))) (.exit 0) (Env.mk 21 [(0, .ns z 1 l)]) st : Ans) =
    some (Fin.ret (AV.ns z 1 l), st) := by kernel_rfl

theorem size_run (F : Nat) (z : Bool) (l : List (List AV)) (st : St) :
    (f28.run F [.ns z 1 l] st : Ans) =
    loopRun (f28_l0.run F) [3, 9, 10, 11]
      (Cont.block 0 (Cont.then (f28_r0.run F (f28.leaveK Fun.done)) (f28.leaveK Fun.done))) F
      (Env.mk 21
        [(3, AV.int IntKind.i64 (IntKind.i64.wrap ((1 : Int) + (↑l.length : Int)))),
          (9, AV.ns z 1 l), (10, AV.int IntKind.i64 (↑l.length : Int)),
          (11, AV.int IntKind.i64 (0 : Int))])
      st := by kernel_rfl

theorem size_round (F m : Nat) (K : Cont) (z : Bool) (l : List (List AV)) (n i e : Int) (st : St) :
    (loopRun (f28_l0.run F) [3, 9, 10, 11] K m.succ (Env.mk 21 [(3, .int .i64 n), (9, .ns z 1 l), (10, .int .i64 e), (11, .int .i64 i)]) st : Ans) =
    branch (AV.bool (decide (i < e)))
      (branch (AV.bool (inR l i))
        (branch (AV.bool ((LD.one (LT.ns 1)).is (V.rowAt l i)))
          (loopRun (f28_l0.run F) [3, 9, 10, 11] K m
            (Env.mk 21
              [(3, AV.int IntKind.i64 (IntKind.i64.wrap (n + (↑(rwA (V.rowAt l i)).length : Int)))),
                (9, AV.ns z 1 l), (10, AV.int IntKind.i64 e),
                (11, AV.int IntKind.i64 (IntKind.i64.wrap (i + (1 : Int))))])
            st)
          none)
        none)
      (K (AX.exit 0) (Env.mk 21 [(3, AV.int IntKind.i64 n)]) st) := by kernel_rfl

theorem size_out (F : Nat) (n : Int) (st : St) :
    ((Cont.block 0 (Cont.then (f28_r0.run F (f28.leaveK Fun.done)) (f28.leaveK Fun.done))) (.exit 0) (Env.mk 21 [(3, .int .i64 n)]) st : Ans) =
    some (Fin.ret (AV.int IntKind.i64 n), st) := by kernel_rfl

end Go.Proofs.Ytblliolkgkgppaa.V

/- Page: small functions, as callees. -/
set_option linter.unusedVariables false
namespace Go.Proofs.Ytblliolkgkgppaa.V
open Go Go.V Go.RowKit

/-! ### Bytes, compared -/
theorem same_loop (F : Nat) (z y : Bool) (l r : List (List AV)) (hl : byOk l = true) (hr : byOk r = true) (hlen : l.length = r.length) (st : St) : ∀ (k n i : Nat), l.length - i = k → i ≤ l.length → k < n →
    loopRun (f12_l0.run F) [0, 1, 5] (Cont.block 0 (Cont.then (f12_r0.run F (f12.leaveK Fun.done)) (f12.leaveK Fun.done))) n (Env.mk 26 [(0, .ns z 1 l), (1, .ns y 1 r), (5, .int .i64 (i : Int))]) st
      = some (.ret (.bool ((nR l).drop i == (nR r).drop i)), st)
  | k, 0, i, hk, hi, hn => by omega
  | 0, n + 1, i, hk, hi, hn => by
    rw [show n + 1 = n.succ from rfl, same_round, branch_not (by simp; omega), same_out]
    rw [List.drop_eq_nil_of_le (by rw [nR_length]; omega), List.drop_eq_nil_of_le (by rw [nR_length]; omega)]
    rfl
  | k + 1, n + 1, i, hk, hi, hn => by
    rw [byOk_iff] at hl hr
    have h1 : i < l.length := by omega
    have h2 : i < r.length := by omega
    obtain ⟨l1, l2⟩ := okR_at hl.1 h1
    obtain ⟨r1, r2⟩ := okR_at hr.1 h2
    rw [show n + 1 = n.succ from rfl, same_round, branch_of (by simp; omega), branch_of (inR_nat h1), branch_of l1, branch_of (inR_nat h2), branch_of r1, l2, r2]
    rw [beq_drop (by rw [nR_length]; exact h1) (by rw [nR_length]; exact h2)]
    by_cases hb : (nR l)[i]'(by rw [nR_length]; exact h1) = (nR r)[i]'(by rw [nR_length]; exact h2)
    · rw [branch_not (by rw [hb]; simp), wrap_succ (by omega), same_loop F z y l r (byOk_iff.mpr hl) (byOk_iff.mpr hr) hlen st k n (i + 1) (by omega) (by omega) (by omega), hb]
      simp
    · rw [branch_of (by simpa using fun e => hb (Int.ofNat.inj e)), same_ret]
      simp [hb]
theorem same_all (z y : Bool) (l r : List (List AV)) (hl : byOk l = true) (hr : byOk r = true) (st : St) : f12.run (l.length + 1) [.ns z 1 l, .ns y 1 r] st = some (.ret (.bool (nR l == nR r)), st) := by
  rw [same_run]
  by_cases h : l.length = r.length
  · rw [branch_not (by simp [h])]
    exact same_loop _ z y l r hl hr h st l.length _ 0 (by omega) (by omega) (by omega)
  · rw [branch_of (by simp; omega)]
    have : (nR l == nR r) = false := by
      simp only [beq_eq_false_iff_ne, ne_eq]
      intro e
      exact h (by rw [← nR_length l, ← nR_length r, e])
    rw [this]
noncomputable def p12 : POrc Try.prog := f12.farN
  (fun args k => match args with
    | [x, y] => onNs 1 x fun _ l => onNs 1 y fun _ r => ifT (byOk l && byOk r) (k (.bool (nR l == nR r)))
    | _ => none)
  fun args k fin h => by
    split at h
    · rename_i x y
      obtain ⟨z, l, h, hx⟩ := onNs_spec h
      obtain ⟨z', r, h, hy⟩ := onNs_spec h
      obtain ⟨h1, h⟩ := ifT_spec h
      simp only [Bool.and_eq_true] at h1
      exact ⟨_, _, h, .cons hx (.cons hy .nil), ⟨okR_scoped (byOk_iff.mp h1.1).1, okR_scoped (byOk_iff.mp h1.2).1, trivial⟩, trivial, _, .bool _, ⟨[], []⟩, rfl, same_all z z' l r h1.1 h1.2 _⟩
    · cases h
theorem p12_nat : p12.Nat := by
  intro args k
  show (match args with | [x, y] => _ | _ => _) = thenA (match args with | [x, y] => _ | _ => _) k
  split
  · exact onNs_nat fun _ _ => onNs_nat fun _ _ => ifT_nat rfl
  · rfl
end Go.Proofs.Ytblliolkgkgppaa.V

/- Page: small functions, as callees. -/
set_option linter.unusedVariables false
namespace Go.Proofs.Ytblliolkgkgppaa.V
open Go Go.V Go.RowKit

noncomputable def p19 : POrc Try.prog := f19.farN
  (fun args k => match args with
    | [x] => onNs 1 x fun _ l => ifT (byOk l && apOk l.length 1) (k (.sl 1 false l))
    | _ => none)
  fun args k fin h => by
    split at h
    · rename_i x
      obtain ⟨z, l, h, hx⟩ := onNs_spec h
      obtain ⟨h1, h⟩ := ifT_spec h
      simp only [Bool.and_eq_true] at h1
      have hs := okR_scoped (n := 0) (m := 0) (byOk_iff.mp h1.1).1
      exact ⟨_, _, h, .cons hx .nil, ⟨hs, trivial⟩, hs, 0, _, _, hard_id _ _ hs, (copy_run 0 z l _).trans (branch_of (by simpa using h1.2))⟩
    · cases h
theorem p19_nat : p19.Nat := by
  intro args k
  show (match args with | [x] => _ | _ => _) = thenA (match args with | [x] => _ | _ => _) k
  split
  · exact onNs_nat fun _ _ => ifT_nat rfl
  · rfl
/-- A page without slots. -/
noncomputable def zeroP : List Nat := opq (List.replicate 256 0)
noncomputable def p10 : POrc Try.prog := f10.farW
  (fun args k => match args with
    | [] => k (.ns false 1 (bR zeroP))
    | _ => none)
  fun args k fin h => by
    split at h
    · have hh : hard [Ob.cells (zerC 256 [.int .u8 0])] (.ms 0 1 0 256 256) = .sl 1 true (bR zeroP) := by
        simp only [hard, List.getElem?_cons_zero, List.drop_zero, zerC_byte]
        rw [rowsOf_bC 256 _ (by rw [List.length_replicate]; exact Nat.le_refl _), zeroP, opq_eq, List.take_of_length_le (by rw [List.length_replicate]; exact Nat.le_refl _)]
        rfl
      refine ⟨[], _, h, .nil, trivial, 0, .ms 0 1 0 256 256, ⟨[.cells (zerC 256 [.int .u8 0])], []⟩, (new_run 0 _).trans (branch_of (by rw [mkOk_iff]; exact ⟨by decide, by decide⟩)), ?_, ?_⟩
      · rw [hh]; exact bR_scoped _
      · rw [hh]; exact .sl
    · cases h
theorem p10_nat : p10.Nat := by
  intro args k
  show (match args with | [] => _ | _ => _) = thenA (match args with | [] => _ | _ => _) k
  split <;> rfl
/-- Is a slot free? -/
noncomputable def p25 : POrc Try.prog := f25.farN
  (fun args k => match args with
    | [x] => onNs 1 x fun z l => ifT (byOk l) (k (.bool z))
    | _ => none)
  fun args k fin h => by
    split at h
    · rename_i x
      obtain ⟨z, l, h, hx⟩ := onNs_spec h
      obtain ⟨h1, h⟩ := ifT_spec h
      exact ⟨_, _, h, .cons hx .nil, ⟨okR_scoped (byOk_iff.mp h1).1, trivial⟩, trivial, 0, _, _, rfl, free_run 0 z l _⟩
    · cases h
theorem p25_nat : p25.Nat := by
  intro args k
  show (match args with | [x] => _ | _ => _) = thenA (match args with | [x] => _ | _ => _) k
  split
  · exact onNs_nat fun _ _ => ifT_nat rfl
  · rfl
noncomputable def p27 : POrc Try.prog := f27.farN
  (fun args k => match args with
    | [x] => onNs 1 x fun z l => ifT (byOk l) (k (.bool z))
    | _ => none)
  fun args k fin h => by
    split at h
    · rename_i x
      obtain ⟨z, l, h, hx⟩ := onNs_spec h
      obtain ⟨h1, h⟩ := ifT_spec h
      exact ⟨_, _, h, .cons hx .nil, ⟨okR_scoped (byOk_iff.mp h1).1, trivial⟩, trivial, 0, _, _, rfl, free2_run 0 z l _⟩
    · cases h
theorem p27_nat : p27.Nat := by
  intro args k
  show (match args with | [x] => _ | _ => _) = thenA (match args with | [x] => _ | _ => _) k
  split
  · exact onNs_nat fun _ _ => ifT_nat rfl
  · rfl
noncomputable def p37 : POrc Try.prog := f37.farN
  (fun args k => match args with
    | [x] => onNs 1 x fun z l => ifT (byOk l) (k (.bool (decide ((l.length : Int) > 200))))
    | _ => none)
  fun args k fin h => by
    split at h
    · rename_i x
      obtain ⟨z, l, h, hx⟩ := onNs_spec h
      obtain ⟨h1, h⟩ := ifT_spec h
      exact ⟨_, _, h, .cons hx .nil, ⟨okR_scoped (byOk_iff.mp h1).1, trivial⟩, trivial, 0, _, _, rfl, big_run 0 z l _⟩
    · cases h
theorem p37_nat : p37.Nat := by
  intro args k
  show (match args with | [x] => _ | _ => _) = thenA (match args with | [x] => _ | _ => _) k
  split
  · exact onNs_nat fun _ _ => ifT_nat rfl
  · rfl

/-! ### Free slots at the end -/
noncomputable def trR (l : List (List AV)) : List (List AV) := opq (l.reverse.dropWhile nilA).reverse
theorem trR_nil : trR [] = [] := by rw [trR, opq_eq]; rfl
theorem trR_snoc (l : List (List AV)) (x : List AV) : trR (l ++ [x]) = bif nilA x then trR l else l ++ [x] := by
  rw [trR, trR, opq_eq, opq_eq, List.reverse_append, List.reverse_singleton, List.singleton_append, List.dropWhile_cons]
  cases nilA x <;> simp
theorem trR_take (l : List (List AV)) : ∃ k, k ≤ l.length ∧ trR l = l.take k := by
  rw [trR, opq_eq]
  have h1 : (l.reverse.dropWhile nilA) <:+ l.reverse := List.dropWhile_suffix _
  have h2 : (l.reverse.dropWhile nilA).reverse <+: l := by
    have := List.reverse_prefix.mpr h1
    simpa using this
  exact ⟨_, h2.length_le, (List.prefix_iff_eq_take.mp h2)⟩
theorem trR_len (l : List (List AV)) : (trR l).length ≤ l.length := by
  obtain ⟨k, h1, h2⟩ := trR_take l
  rw [h2, List.length_take]; omega
theorem okS_tr {l : List (List AV)} (h : okS l = true) : okS (trR l) = true := by
  obtain ⟨k, h1, h2⟩ := trR_take l
  exact okS_sub h (fun x hx => by rw [h2] at hx; exact List.mem_of_mem_take hx) (trR_len l)
theorem trim_loop (F : Nat) (z : Bool) (st : St) : ∀ (n : Nat) (l : List (List AV)), okS l = true → l.length < n →
    loopRun (f36_l0.run F) [0] (Cont.block 0 (Cont.then (f36_r0.run F (f36.leaveK Fun.done)) (f36.leaveK Fun.done))) n (Env.mk 21 [(0, .ns z 1 l)]) st = some (.ret (.ns z 1 (trR l)), st)
  | 0, l, h, hn => by omega
  | n + 1, l, h, hn => by
    rw [show n + 1 = n.succ from rfl, trim_round]
    rcases List.eq_nil_or_concat l with rfl | ⟨l', x, rfl⟩
    · rw [branch_not (by simp), trim_out, trR_nil]
    · rw [List.concat_eq_append] at *
      have hl : (l' ++ [x]).length = l'.length + 1 := by simp
      have hb : l'.length + 1 < 4611686018427387904 := by have := (okS_iff.mp h).2; rw [hl] at this; exact this
      have hw : IntKind.i64.wrap (((l' ++ [x]).length : Int) - 1) = ((l'.length : Nat) : Int) := by
        rw [hl, show ((l'.length + 1 : Nat) : Int) - 1 = ((l'.length : Nat) : Int) by omega, wrap_nat (by omega)]
      have hi : l'.length < (l' ++ [x]).length := by omega
      obtain ⟨h1, h2, h3, h4⟩ := okS_at h hi
      have hr : V.rowAt (l' ++ [x]) ((l'.length : Nat) : Int) = x := by rw [rowAt_nat hi]; simp
      rw [branch_of (by simp), hw, branch_of (inR_nat hi), branch_of h1, hr, trR_snoc]
      cases hx : nilA x with
      | false => exact trim_out F z (l' ++ [x]) st
      | true =>
        rw [branch_true, if_pos ⟨by omega, by omega⟩, Int.toNat_natCast, List.drop_zero, List.take_left]
        exact trim_loop F z st n l' (okS_sub h (fun y hy => by simp [hy]) (by omega)) (by omega)
noncomputable def p36 : POrc Try.prog := f36.farN
  (fun args k => match args with
    | [x] => onNs 1 x fun z l => ifT (okS l) (k (.ns z 1 (trR l)))
    | _ => none)
  fun args k fin h => by
    split at h
    · rename_i x
      obtain ⟨z, l, h, hx⟩ := onNs_spec h
      obtain ⟨h1, h⟩ := ifT_spec h
      have hs := okS_scoped (n := 0) (m := 0) (okS_iff.mp (okS_tr h1)).1
      exact ⟨_, _, h, .cons hx .nil, ⟨okS_scoped (okS_iff.mp h1).1, trivial⟩, hs, l.length + 1, _, _, hard_id _ _ hs, (trim_run _ z l _).trans (trim_loop _ z _ _ l h1 (by omega))⟩
    · cases h
theorem p36_nat : p36.Nat := by
  intro args k
  show (match args with | [x] => _ | _ => _) = thenA (match args with | [x] => _ | _ => _) k
  split
  · exact onNs_nat fun _ _ => ifT_nat rfl
  · rfl

/-! ### How many bytes slots need -/
def olen (o : Option (List Nat)) : Nat := (o.getD []).length
def sumN (s : List (Option (List Nat))) : Nat := (s.map olen).sum
def szN (s : List (Option (List Nat))) : Nat := 1 + s.length + sumN s
theorem sumN_cons (o : Option (List Nat)) (s : List (Option (List Nat))) : sumN (o :: s) = olen o + sumN s := rfl
theorem sumN_append (s t : List (Option (List Nat))) : sumN (s ++ t) = sumN s + sumN t := by simp [sumN]
theorem slot_len {r : List AV} (h : nilA r = true → rwA r = []) : olen (slot r) = (rwA r).length := by
  unfold slot
  cases hn : nilA r with
  | true => rw [h hn]; rfl
  | false => simp [olen, nR_length]
theorem drop_at {α : Type} {l : List α} {i : Nat} (h : i < l.length) : l.drop i = l[i] :: l.drop (i + 1) := List.drop_eq_getElem_cons h
theorem size_loop (F : Nat) (z : Bool) (st : St) (l : List (List AV)) (h : okS l = true) : ∀ (k n i m : Nat), l.length - i = k → i ≤ l.length → k < n → m + sumN ((sR l).drop i) < 4611686018427387904 →
    loopRun (f28_l0.run F) [3, 9, 10, 11] (Cont.block 0 (Cont.then (f28_r0.run F (f28.leaveK Fun.done)) (f28.leaveK Fun.done))) n
      (Env.mk 21 [(3, .int .i64 (m : Int)), (9, .ns z 1 l), (10, .int .i64 (l.length : Int)), (11, .int .i64 (i : Int))]) st = some (.ret (.int .i64 ((m + sumN ((sR l).drop i) : Nat) : Int)), st)
  | k, 0, i, m, hk, hi, hn, hm => by omega
  | 0, n + 1, i, m, hk, hi, hn, hm => by
    rw [show n + 1 = n.succ from rfl, size_round, branch_not (by simp; omega), size_out, List.drop_eq_nil_of_le (by rw [sR_length]; omega)]
    rfl
  | k + 1, n + 1, i, m, hk, hi, hn, hm => by
    have h1 : i < l.length := by omega
    obtain ⟨l1, l2, l3, l4⟩ := okS_at h h1
    have hb := (okS_iff.mp h).2
    rw [drop_at (by rw [sR_length]; exact h1), sumN_cons, ← l3, slot_len l4] at hm ⊢
    rw [show n + 1 = n.succ from rfl, size_round, branch_of (by simp; omega), branch_of (inR_nat h1), branch_of l1, wrap_succ (by omega), show (m : Int) + ((rwA (V.rowAt l (i : Int))).length : Int) = ((m + (rwA (V.rowAt l (i : Int))).length : Nat) : Int) by omega, wrap_nat (by omega),
      size_loop F z st l h k n (i + 1) (m + (rwA (V.rowAt l (i : Int))).length) (by omega) (by omega) (by omega) (by omega)]
    rw [Nat.add_assoc]
noncomputable def p28 : POrc Try.prog := f28.farN
  (fun args k => match args with
    | [x] => onNs 1 x fun z l => ifT (okS l && fit (szN (sR l))) (k (.int .i64 (szN (sR l) : Nat)))
    | _ => none)
  fun args k fin h => by
    split at h
    · rename_i x
      obtain ⟨z, l, h, hx⟩ := onNs_spec h
      obtain ⟨h1, h⟩ := ifT_spec h
      simp only [Bool.and_eq_true, fit_iff] at h1
      refine ⟨_, _, h, .cons hx .nil, ⟨okS_scoped (okS_iff.mp h1.1).1, trivial⟩, trivial, l.length + 1, .int .i64 (szN (sR l) : Nat), ⟨[], []⟩, rfl, (size_run _ z l _).trans ?_⟩
      have h2 := h1.2
      rw [szN, sR_length] at h2
      have := size_loop (l.length + 1) z ⟨[], []⟩ l h1.1 l.length (l.length + 1) 0 (1 + l.length) (by omega) (by omega) (by omega) (by rw [List.drop_zero]; exact h2)
      rw [show (1 : Int) + (l.length : Int) = ((1 + l.length : Nat) : Int) by omega, wrap_nat (by omega)]
      rw [List.drop_zero] at this
      rw [szN, sR_length]
      exact this
    · cases h
theorem p28_nat : p28.Nat := by
  intro args k
  show (match args with | [x] => _ | _ => _) = thenA (match args with | [x] => _ | _ => _) k
  split
  · exact onNs_nat fun _ _ => ifT_nat rfl
  · rfl
end Go.Proofs.Ytblliolkgkgppaa.V

/- The functions' pieces, as told by gen.py. -/
set_option linter.unusedVariables false
set_option maxRecDepth 20000
namespace Go.Proofs.Ytblliolkgkgppaa.V
open Go Go.V Go.RowKit


/-! ### 24: slices.IndexFunc[interlock/page.slots,[]byte] (44, 37); results 4; slots: 0 s, 1 f, 2 s, 3 f, 5 i -/
/-- A loop's round; at its head live: 0 s, 1 f, 7 , 8  -/
noncomputable def f24_l0 (Os : List (Orc Try.prog)) : Sim Try.prog :=
  (.seq (.live [0, 1, 7, 8, 9] (.region 2 [
    ⟨(opBin (some 9) .lss 3 (.tmp 8) (.tmp 7) 3 0 "slices.go:108" #[]).op, none⟩
  ] (by kernel_rfl)))
  (.seq (.cond (.tmp 9)
    .skip
    (.live [] (.exit 0)))
  (.seq (.block 1 (.seq (.live [0, 1, 5, 7, 8] (.region 3 [
      ⟨(opMove (some 10) (.tmp 8) 3 "slices.go:108" #[]).op, none⟩,
      ⟨(opAssign (some 5) (.tmp 10) 3 "slices.go:108" #[{ on := 0, ground := Ground.data }, { on := 0, ground := Ground.phase }]).op, none⟩
    ] (by kernel_rfl)))
    (.seq (.live [0, 1, 5, 7, 8, 16] (.region 4 [
      ⟨(opMove (some 11) (.tmp 1) 37 "slices.go:109" #[]).op, none⟩,
      ⟨(opMove (some 12) (.tmp 0) 44 "slices.go:109" #[]).op, none⟩,
      ⟨(opMove (some 13) (.tmp 5) 3 "slices.go:109" #[]).op, none⟩,
      ⟨(opIndexAddrT (some 14) 44 (.tmp 12) (.tmp 13) 25 1 Try.underlying44 sz25 0 "slices.go:109" #[{ on := 1, ground := Ground.data }, { on := 2, ground := Ground.data }]).op, none⟩,
      ⟨(opLoadT (.one (.ns 1)) (some 15) 25 (.tmp 14) (.slice 5) Try.underlying25 1 sz25 (by kernel_rfl) 25 "slices.go:109" #[{ on := 3, ground := Ground.data }]).op, none⟩,
      ⟨opCallDyn Os (some 16) 11 [(.tmp 15)] #[25] 4 "slices.go:109" #[{ on := 0, ground := Ground.data }, { on := 4, ground := Ground.data }], none⟩
    ] (by kernel_rfl)))
    (.cond (.tmp 16)
      (.seq (.live [4] (.region 5 [
        ⟨(opMove (some 17) (.tmp 5) 3 "slices.go:110" #[]).op, none⟩,
        ⟨(opAssign (some 4) (.tmp 17) 3 "slices.go:110" #[{ on := 0, ground := Ground.data }, { on := 0, ground := Ground.phase }]).op, none⟩
      ] (by kernel_rfl)))
      (.live [4] .ret))
      .skip))))
  (.live [0, 1, 7, 8] (.region 6 [
    ⟨(opBin (some 18) .add 3 (.tmp 8) (.const (Value.int IntKind.i64 1)) 3 3 "slices.go:108" #[]).op, none⟩,
    ⟨(opMove (some 8) (.tmp 18) 3 "slices.go:108" #[{ on := 0, ground := Ground.data }]).op, none⟩
  ] (by kernel_rfl))))))

/-- What follows a loop. -/
noncomputable def f24_r0 (Os : List (Orc Try.prog)) : Sim Try.prog :=
  (.seq (.live [4] (.region 7 [
    ⟨(opAssign (some 4) (.const (Value.int IntKind.i64 (-1))) 3 "slices.go:113" #[]).op, none⟩
  ] (by kernel_rfl)))
  (.live [4] .ret))

noncomputable def f24_b (Os : List (Orc Try.prog)) : Sim Try.prog :=
  (.seq (.live [0, 1] (.region 0 [
    ⟨(opAssign (some 4) (.const (Value.int IntKind.i64 0)) 3 "slices.go:107" #[]).op, none⟩
  ] (by kernel_rfl)))
  (.seq (.seq (.live [0, 1, 7, 8] (.region 1 [
    ⟨(opMove (some 6) (.tmp 0) 44 "slices.go:108" #[]).op, none⟩,
    ⟨(opLen (some 7) (.tmp 6) 44 (.slice 25) Try.underlying44 3 "slices.go:108" #[{ on := 0, ground := Ground.data }]).op, none⟩,
    ⟨(opMove (some 8) (.const (Value.int IntKind.i64 0)) 3 "slices.go:108" #[]).op, none⟩
  ] (by kernel_rfl)))
  (.block 0 (.loop [0, 1, 7, 8] (f24_l0 Os))))
  (f24_r0 Os)))

noncomputable def f24 (Os : List (Orc Try.prog)) : Fun Try.prog where
  id := 24
  fn := Try.f24
  hf := Try.func24
  hname := by kernel_rfl
  body := f24_b Os
  hbody := by kernel_rfl
  res := [rTmp 4]
  hres := by kernel_rfl
  n := 19
  hn := by kernel_rfl

end Go.Proofs.Ytblliolkgkgppaa.V

/- What the functions' runs come to; the right sides were printed by a tool, Lean checks them. -/
set_option linter.unusedVariables false
set_option maxRecDepth 100000
namespace Go.Proofs.Ytblliolkgkgppaa.V
open Go Go.V Go.RowKit

noncomputable def OsC : List (Orc Try.prog) := [p25.orcS.orc, p27.orcS.orc, p37.orcS.orc]
theorem idx_run (F f : Nat) (z : Bool) (l : List (List AV)) (st : St) :
    ((f24 OsC).run F [.ns z 1 l, .fn (.func f) [] []] st : Ans) =
    loopRun ((f24_l0 OsC).run F) [0, 1, 7, 8]
      (Cont.block 0 (Cont.then ((f24_r0 OsC).run F ((f24 OsC).leaveK Fun.done)) ((f24 OsC).leaveK Fun.done))) F
      (Env.mk 19
        [(0, AV.ns z 1 l), (1, AV.fn (Fn.func f) [] []),
          (7, AV.int IntKind.i64 (↑l.length : Int)), (8, AV.int IntKind.i64 (0 : Int))])
      st := by kernel_rfl

theorem idx_round25 (F n : Nat) (K : Cont) (z : Bool) (l : List (List AV)) (i e : Int) (st : St) :
    (loopRun ((f24_l0 OsC).run F) [0, 1, 7, 8] K n.succ (Env.mk 19 [(0, .ns z 1 l), (1, .fn (.func 25) [] []), (7, .int .i64 e), (8, .int .i64 i)]) st : Ans) =
    branch (AV.bool (decide (i < e)))
      (branch (AV.bool (inR l i))
        (branch (AV.bool ((LD.one (LT.ns 1)).is (V.rowAt l i)))
          (branch (AV.bool (byOk (rwA (V.rowAt l i))))
            (branch (AV.bool (nilA (V.rowAt l i))) (K AX.ret (Env.mk 19 [(4, AV.int IntKind.i64 i)]) st)
              (loopRun ((f24_l0 OsC).run F) [0, 1, 7, 8] K n
                (Env.mk 19
                  [(0, AV.ns z 1 l), (1, AV.fn (Fn.func (25 : FuncId)) [] []),
                    (7, AV.int IntKind.i64 e), (8, AV.int IntKind.i64 (IntKind.i64.wrap (i + (1 : Int))))])
                st))
            none)
          none)
        none)
      (K (AX.exit 0) (Env.mk 19 []) st) := by kernel_rfl

theorem idx_round27 (F n : Nat) (K : Cont) (z : Bool) (l : List (List AV)) (i e : Int) (st : St) :
    (loopRun ((f24_l0 OsC).run F) [0, 1, 7, 8] K n.succ (Env.mk 19 [(0, .ns z 1 l), (1, .fn (.func 27) [] []), (7, .int .i64 e), (8, .int .i64 i)]) st : Ans) =
    branch (AV.bool (decide (i < e)))
      (branch (AV.bool (inR l i))
        (branch (AV.bool ((LD.one (LT.ns 1)).is (V.rowAt l i)))
          (branch (AV.bool (byOk (rwA (V.rowAt l i))))
            (branch (AV.bool (nilA (V.rowAt l i))) (K AX.ret (Env.mk 19 [(4, AV.int IntKind.i64 i)]) st)
              (loopRun ((f24_l0 OsC).run F) [0, 1, 7, 8] K n
                (Env.mk 19
                  [(0, AV.ns z 1 l), (1, AV.fn (Fn.func (27 : FuncId)) [] []),
                    (7, AV.int IntKind.i64 e), (8, AV.int IntKind.i64 (IntKind.i64.wrap (i + (1 : Int))))])
                st))
            none)
          none)
        none)
      (K (AX.exit 0) (Env.mk 19 []) st) := by kernel_rfl

theorem idx_round37 (F n : Nat) (K : Cont) (z : Bool) (l : List (List AV)) (i e : Int) (st : St) :
    (loopRun ((f24_l0 OsC).run F) [0, 1, 7, 8] K n.succ (Env.mk 19 [(0, .ns z 1 l), (1, .fn (.func 37) [] []), (7, .int .i64 e), (8, .int .i64 i)]) st : Ans) =
    branch (AV.bool (decide (i < e)))
      (branch (AV.bool (inR l i))
        (branch (AV.bool ((LD.one (LT.ns 1)).is (V.rowAt l i)))
          (branch (AV.bool (byOk (rwA (V.rowAt l i))))
            (branch (AV.bool (decide ((↑(rwA (V.rowAt l i)).length : Int) > (200 : Int))))
              (K AX.ret (Env.mk 19 [(4, AV.int IntKind.i64 i)]) st)
              (loopRun ((f24_l0 OsC).run F) [0, 1, 7, 8] K n
                (Env.mk 19
                  [(0, AV.ns z 1 l), (1, AV.fn (Fn.func (37 : FuncId)) [] []),
                    (7, AV.int IntKind.i64 e), (8, AV.int IntKind.i64 (IntKind.i64.wrap (i + (1 : Int))))])
                st))
            none)
          none)
        none)
      (K (AX.exit 0) (Env.mk 19 []) st) := by kernel_rfl

theorem idx_out (F : Nat) (st : St) :
    ((Cont.block 0 (Cont.then ((f24_r0 OsC).run F ((f24 OsC).leaveK Fun.done)) ((f24 OsC).leaveK Fun.done))) (.exit 0) (Env.mk 19 []) st : Ans) =
    some (Fin.ret (AV.int IntKind.i64 (-1 : Int)), st) := by kernel_rfl

theorem idx_ret (F : Nat) (i : Int) (st : St) :
    ((Cont.block 0 (Cont.then ((f24_r0 OsC).run F ((f24 OsC).leaveK Fun.done)) ((f24 OsC).leaveK Fun.done))) .ret (Env.mk 19 [(4, .int .i64 i)]) st : Ans) =
    some (Fin.ret (AV.int IntKind.i64 i), st) := by kernel_rfl

end Go.Proofs.Ytblliolkgkgppaa.V

/- Page: the first slot that a predicate holds for. -/
set_option linter.unusedVariables false
namespace Go.Proofs.Ytblliolkgkgppaa.V
open Go Go.V Go.RowKit

/-- What the closures ask. -/
def prd (f : Nat) (r : List AV) : Bool := bif Nat.beq f 37 then decide (((rwA r).length : Int) > 200) else nilA r
def prdF (f : Nat) : Bool := Nat.beq f 25 || (Nat.beq f 27 || Nat.beq f 37)
theorem idx_round (F n f : Nat) (hf : prdF f = true) (K : Cont) (z : Bool) (l : List (List AV)) (h : okS l = true) (i : Nat) (hi : i < l.length) (st : St) :
    loopRun ((f24_l0 OsC).run F) [0, 1, 7, 8] K n.succ (Env.mk 19 [(0, .ns z 1 l), (1, .fn (.func f) [] []), (7, .int .i64 (l.length : Int)), (8, .int .i64 (i : Int))]) st =
      branch (.bool (prd f (V.rowAt l (i : Int)))) (K AX.ret (Env.mk 19 [(4, AV.int IntKind.i64 i)]) st)
        (loopRun ((f24_l0 OsC).run F) [0, 1, 7, 8] K n (Env.mk 19 [(0, .ns z 1 l), (1, .fn (.func f) [] []), (7, .int .i64 (l.length : Int)), (8, .int .i64 ((i + 1 : Nat) : Int))]) st) := by
  obtain ⟨h1, h2, h3, h4⟩ := okS_at h hi
  have hb := (okS_iff.mp h).2
  simp only [prdF, Bool.or_eq_true] at hf
  rcases hf with hf | hf | hf <;> obtain rfl := Nat.eq_of_beq_eq_true hf
  · rw [idx_round25, branch_of (by simpa using hi), branch_of (inR_nat hi), branch_of h1, branch_of h2, wrap_succ (by omega)]; rfl
  · rw [idx_round27, branch_of (by simpa using hi), branch_of (inR_nat hi), branch_of h1, branch_of h2, wrap_succ (by omega)]; rfl
  · rw [idx_round37, branch_of (by simpa using hi), branch_of (inR_nat hi), branch_of h1, branch_of h2, wrap_succ (by omega)]; rfl
theorem idx_stop (F n f : Nat) (hf : prdF f = true) (K : Cont) (z : Bool) (l : List (List AV)) (st : St) :
    loopRun ((f24_l0 OsC).run F) [0, 1, 7, 8] K n.succ (Env.mk 19 [(0, .ns z 1 l), (1, .fn (.func f) [] []), (7, .int .i64 (l.length : Int)), (8, .int .i64 (l.length : Int))]) st = K (.exit 0) (Env.mk 19 []) st := by
  simp only [prdF, Bool.or_eq_true] at hf
  rcases hf with hf | hf | hf <;> obtain rfl := Nat.eq_of_beq_eq_true hf
  · rw [idx_round25, branch_not (by simp)]
  · rw [idx_round27, branch_not (by simp)]
  · rw [idx_round37, branch_not (by simp)]
theorem idx_loop (F f : Nat) (hf : prdF f = true) (z : Bool) (l : List (List AV)) (h : okS l = true) (st : St) : ∀ (k n i : Nat), i + k = l.length → k < n →
    loopRun ((f24_l0 OsC).run F) [0, 1, 7, 8] (Cont.block 0 (Cont.then ((f24_r0 OsC).run F ((f24 OsC).leaveK Fun.done)) ((f24 OsC).leaveK Fun.done))) n (Env.mk 19 [(0, .ns z 1 l), (1, .fn (.func f) [] []), (7, .int .i64 (l.length : Int)), (8, .int .i64 (i : Int))]) st
      = some (.ret (.int .i64 (idxI (idxFrom (prd f) (l.drop i) i))), st)
  | k, 0, i, hi, hn => by omega
  | 0, n + 1, i, hi, hn => by
    obtain rfl : i = l.length := by omega
    rw [show n + 1 = n.succ from rfl, idx_stop F n f hf, idx_out, List.drop_length]
    rfl
  | k + 1, n + 1, i, hi, hn => by
    have h1 : i < l.length := by omega
    rw [show n + 1 = n.succ from rfl, idx_round F n f hf _ z l h i h1, drop_at h1, idxFrom, rowAt_nat h1]
    cases hp : prd f l[i] with
    | true => exact idx_ret F i st
    | false => exact idx_loop F f hf z l h st k n (i + 1) (by omega) (by omega)
noncomputable def p24 : POrc Try.prog := (f24 OsC).farN
  (fun args k => match args with
    | [x, .fn (.func f) [] []] => onNs 1 x fun _ l => ifT (prdF f && okS l) (k (.int .i64 (idxI (idxFrom (prd f) l 0))))
    | _ => none)
  fun args k fin h => by
    split at h
    · rename_i x f
      obtain ⟨z, l, h, hx⟩ := onNs_spec h
      obtain ⟨h1, h⟩ := ifT_spec h
      simp only [Bool.and_eq_true] at h1
      refine ⟨_, _, h, .cons hx (.cons (.refl _) .nil), ⟨okS_scoped (okS_iff.mp h1.2).1, ⟨trivial, trivial⟩, trivial⟩, trivial, l.length + 1, .int .i64 _, ⟨[], []⟩, rfl, (idx_run _ f z l _).trans ?_⟩
      exact idx_loop _ f h1.1 z l h1.2 _ l.length _ 0 (by omega) (by omega)
    · cases h
theorem p24_nat : p24.Nat := by
  intro args k
  show (match args with | [x, .fn (.func f) [] []] => _ | _ => _) = thenA (match args with | [x, .fn (.func f) [] []] => _ | _ => _) k
  split
  · exact onNs_nat fun _ _ => ifT_nat rfl
  · rfl
end Go.Proofs.Ytblliolkgkgppaa.V

/- The functions' pieces, as told by gen.py. -/
set_option linter.unusedVariables false
set_option maxRecDepth 20000
namespace Go.Proofs.Ytblliolkgkgppaa.V
open Go Go.V Go.RowKit


/-! ### 26: slices.ContainsFunc[interlock/page.slots,[]byte] (44, 37); results 4; slots: 0 s, 1 f, 2 s, 3 f -/
noncomputable def f26_b : Sim Try.prog :=
  (.seq (.live [0, 1] (.region 0 [
    ⟨(opAssign (some 4) (.const (Value.bool false)) 4 "slices.go:124" #[]).op, none⟩
  ] (by kernel_rfl)))
  (.seq (.live [4] (.region 1 [
    ⟨(opMove (some 5) (.tmp 0) 44 "slices.go:125" #[]).op, none⟩,
    ⟨(opMove (some 6) (.tmp 1) 37 "slices.go:125" #[]).op, none⟩,
    ⟨(opCallP p24 (some 7) [(.tmp 5), (.tmp 6)] #[44, 37] 3 "slices.go:125" #[{ on := 0, ground := Ground.data }, { on := 1, ground := Ground.data }]).op, none⟩,
    ⟨(opBin (some 8) .geq 3 (.tmp 7) (.const (Value.int IntKind.i64 0)) 3 4 "slices.go:125" #[{ on := 2, ground := Ground.data }]).op, none⟩,
    ⟨(opAssign (some 4) (.tmp 8) 4 "slices.go:125" #[{ on := 3, ground := Ground.data }, { on := 2, ground := Ground.chain }, { on := 0, ground := Ground.phase }, { on := 1, ground := Ground.phase }, { on := 2, ground := Ground.phase }, { on := 3, ground := Ground.phase }]).op, none⟩
  ] (by kernel_rfl)))
  (.live [4] .ret)))

noncomputable def f26 : Fun Try.prog where
  id := 26
  fn := Try.f26
  hf := Try.func26
  hname := by kernel_rfl
  body := f26_b
  hbody := by kernel_rfl
  res := [rTmp 4]
  hres := by kernel_rfl
  n := 9
  hn := by kernel_rfl

end Go.Proofs.Ytblliolkgkgppaa.V

/- What the functions' runs come to; the right sides were printed by a tool, Lean checks them. -/
set_option linter.unusedVariables false
set_option maxRecDepth 100000
namespace Go.Proofs.Ytblliolkgkgppaa.V
open Go Go.V Go.RowKit

theorem has_run (F f : Nat) (z : Bool) (l : List (List AV)) (st : St) :
    (f26.run F [.ns z 1 l, .fn (.func f) [] []] st : Ans) =
    branch (AV.bool (prdF f && okS l))
      (some (Fin.ret (AV.bool (decide (idxI (idxFrom (prd f) l 0) ≥ (0 : Int)))), st)) none := by kernel_rfl

end Go.Proofs.Ytblliolkgkgppaa.V

/- Page: is there a slot that a predicate holds for. -/
set_option linter.unusedVariables false
namespace Go.Proofs.Ytblliolkgkgppaa.V
open Go Go.V Go.RowKit

theorem idxI_ge (o : Option Nat) : decide (idxI o ≥ 0) = o.isSome := by
  cases o with
  | none => rfl
  | some j => simp [idxI]
noncomputable def p26 : POrc Try.prog := f26.farN
  (fun args k => match args with
    | [x, .fn (.func f) [] []] => onNs 1 x fun _ l => ifT (prdF f && okS l) (k (.bool (l.any (prd f))))
    | _ => none)
  fun args k fin h => by
    split at h
    · rename_i x f
      obtain ⟨z, l, h, hx⟩ := onNs_spec h
      obtain ⟨h1, h⟩ := ifT_spec h
      have h2 := h1
      simp only [Bool.and_eq_true] at h1
      refine ⟨_, _, h, .cons hx (.cons (.refl _) .nil), ⟨okS_scoped (okS_iff.mp h1.2).1, ⟨trivial, trivial⟩, trivial⟩, trivial, 0, .bool _, ⟨[], []⟩, rfl, (has_run _ f z l _).trans ?_⟩
      rw [branch_of h2, idxI_ge, idxFrom_isSome]
    · cases h
theorem p26_nat : p26.Nat := by
  intro args k
  show (match args with | [x, .fn (.func f) [] []] => _ | _ => _) = thenA (match args with | [x, .fn (.func f) [] []] => _ | _ => _) k
  split
  · exact onNs_nat fun _ _ => ifT_nat rfl
  · rfl
end Go.Proofs.Ytblliolkgkgppaa.V

/- The functions' pieces, as told by gen.py. -/
set_option linter.unusedVariables false
set_option maxRecDepth 20000
namespace Go.Proofs.Ytblliolkgkgppaa.V
open Go Go.V Go.RowKit


/-! ### 23: (interlock/page.slots).page (44); results 2, 3; slots: 0 s, 1 s, 4 p, 5 end, 6 i, 7 b -/
/-- A loop's round; at its head live: 4 p, 5 end, 23 , 24 , 25  -/
noncomputable def f23_l0 : Sim Try.prog :=
  (.seq (.live [4, 5, 23, 24, 25, 26] (.region 7 [
    ⟨(opBin (some 26) .lss 3 (.tmp 25) (.tmp 24) 3 0 "page.go:44" #[]).op, none⟩
  ] (by kernel_rfl)))
  (.seq (.cond (.tmp 26)
    .skip
    (.live [4] (.exit 0)))
  (.seq (.block 1 (.seq (.live [4, 5, 6, 7, 23, 24, 25] (.region 8 [
      ⟨(opMove (some 27) (.tmp 25) 3 "page.go:44" #[]).op, none⟩,
      ⟨(opIndexAddrT (some 28) 44 (.tmp 23) (.tmp 25) 25 1 Try.underlying44 sz25 0 "page.go:44" #[]).op, none⟩,
      ⟨(opLoadT (.one (.ns 1)) (some 29) 25 (.tmp 28) (.slice 5) Try.underlying25 1 sz25 (by kernel_rfl) 25 "page.go:44" #[{ on := 1, ground := Ground.data }]).op, none⟩,
      ⟨(opAssign (some 6) (.tmp 27) 3 "page.go:44" #[{ on := 0, ground := Ground.data }, { on := 0, ground := Ground.phase }, { on := 1, ground := Ground.phase }, { on := 2, ground := Ground.phase }]).op, none⟩,
      ⟨(opAssign (some 7) (.tmp 29) 25 "page.go:44" #[{ on := 2, ground := Ground.data }, { on := 3, ground := Ground.chain }, { on := 0, ground := Ground.phase }, { on := 1, ground := Ground.phase }, { on := 2, ground := Ground.phase }, { on := 3, ground := Ground.phase }]).op, none⟩
    ] (by kernel_rfl)))
    (.seq (.live [4, 5, 6, 7, 23, 24, 25, 31] (.region 9 [
      ⟨(opMove (some 30) (.tmp 7) 25 "page.go:45" #[]).op, none⟩,
      ⟨(opNe (some 31) 25 (.slice 5) Try.underlying25 (.tmp 30) (.const (Value.slice none 0 0)) (.inl rfl) 25 4 "page.go:45" #[{ on := 0, ground := Ground.data }]).op, none⟩
    ] (by kernel_rfl)))
    (.cond (.tmp 31)
      (.seq (.live [4, 5, 7, 23, 24, 25] (.region 10 [
        ⟨(opMove (some 32) (.tmp 4) 25 "page.go:46" #[]).op, none⟩,
        ⟨(opMove (some 33) (.tmp 6) 3 "page.go:46" #[]).op, none⟩,
        ⟨(opBin (some 34) .add 3 (.const (Value.int IntKind.i64 1)) (.tmp 33) 3 3 "page.go:46" #[{ on := 1, ground := Ground.data }]).op, none⟩,
        ⟨(opMove (some 35) (.tmp 7) 25 "page.go:46" #[]).op, none⟩,
        ⟨(opLen (some 36) (.tmp 35) 25 (.slice 5) Try.underlying25 3 "page.go:46" #[{ on := 3, ground := Ground.data }]).op, none⟩,
        ⟨(opBin (some 37) .add 3 (.tmp 36) (.const (Value.int IntKind.i64 1)) 3 3 "page.go:46" #[{ on := 4, ground := Ground.data }]).op, none⟩,
        ⟨(opConvInt (some 38) 3 5 (.tmp 37) (.int .i64) Try.underlying3 .u8 Try.underlying5 5 "page.go:46" #[{ on := 5, ground := Ground.data }]).op, none⟩,
        ⟨(opIndexAddrT (some 39) 25 (.tmp 32) (.tmp 34) 5 1 Try.underlying25 sz5 0 "page.go:46" #[{ on := 0, ground := Ground.data }, { on := 2, ground := Ground.data }, { on := 0, ground := Ground.phase }, { on := 1, ground := Ground.phase }, { on := 2, ground := Ground.phase }, { on := 3, ground := Ground.phase }, { on := 4, ground := Ground.phase }, { on := 5, ground := Ground.phase }, { on := 6, ground := Ground.phase }]).op, none⟩,
        ⟨(opStoreC none 5 (.tmp 39) (.tmp 38) 1 sz5 0 "page.go:46" #[{ on := 7, ground := Ground.data }, { on := 6, ground := Ground.data }, { on := 0, ground := Ground.phase }, { on := 1, ground := Ground.phase }, { on := 2, ground := Ground.phase }, { on := 3, ground := Ground.phase }, { on := 4, ground := Ground.phase }, { on := 5, ground := Ground.phase }, { on := 6, ground := Ground.phase }]).op, none⟩
      ] (by kernel_rfl)))
      (.seq (.live [4, 5, 7, 23, 24, 25] (.region 11 [
        ⟨(opMove (some 40) (.tmp 5) 3 "page.go:47" #[]).op, none⟩,
        ⟨(opMove (some 41) (.tmp 7) 25 "page.go:47" #[]).op, none⟩,
        ⟨(opLen (some 42) (.tmp 41) 25 (.slice 5) Try.underlying25 3 "page.go:47" #[{ on := 1, ground := Ground.data }]).op, none⟩,
        ⟨(opBin (some 43) .sub 3 (.tmp 40) (.tmp 42) 3 3 "page.go:47" #[{ on := 0, ground := Ground.data }, { on := 2, ground := Ground.data }]).op, none⟩,
        ⟨(opAssign (some 5) (.tmp 43) 3 "page.go:47" #[{ on := 3, ground := Ground.data }, { on := 0, ground := Ground.phase }, { on := 1, ground := Ground.phase }, { on := 2, ground := Ground.phase }, { on := 3, ground := Ground.phase }]).op, none⟩
      ] (by kernel_rfl)))
      (.live [4, 5, 23, 24, 25] (.region 12 [
        ⟨(opMove (some 44) (.tmp 4) 25 "page.go:48" #[]).op, none⟩,
        ⟨(opMove (some 45) (.tmp 5) 3 "page.go:48" #[]).op, none⟩,
        ⟨(opSlice (some 46) 25 (.tmp 44) (some (.tmp 45)) none none 5 1 Try.underlying25 sz5 25 "page.go:48" #[{ on := 0, ground := Ground.data }, { on := 1, ground := Ground.data }]).op, none⟩,
        ⟨(opMove (some 47) (.tmp 7) 25 "page.go:48" #[]).op, none⟩,
        ⟨(opCopyV (some 48) (.tmp 46) (.tmp 47) 25 25 5 1 Try.underlying25 sz5 3 "page.go:48" #[{ on := 2, ground := Ground.data }, { on := 3, ground := Ground.data }]).op, none⟩
      ] (by kernel_rfl)))))
      .skip))))
  (.live [4, 5, 23, 24, 25] (.region 13 [
    ⟨(opBin (some 49) .add 3 (.tmp 25) (.const (Value.int IntKind.i64 1)) 3 3 "page.go:44" #[]).op, none⟩,
    ⟨(opMove (some 25) (.tmp 49) 3 "page.go:44" #[{ on := 0, ground := Ground.data }]).op, none⟩
  ] (by kernel_rfl))))))

/-- What follows a loop. -/
noncomputable def f23_r0 : Sim Try.prog :=
  (.seq (.live [2, 3] (.region 14 [
    ⟨(opMove (some 50) (.tmp 4) 25 "page.go:51" #[]).op, none⟩,
    ⟨(opAssign (some 2) (.tmp 50) 25 "page.go:51" #[{ on := 0, ground := Ground.data }, { on := 0, ground := Ground.phase }]).op, none⟩,
    ⟨(opAssign (some 3) (.const (Value.bool true)) 4 "page.go:51" #[{ on := 1, ground := Ground.chain }, { on := 0, ground := Ground.phase }, { on := 1, ground := Ground.phase }]).op, none⟩
  ] (by kernel_rfl)))
  (.live [2, 3] .ret))

noncomputable def f23_b : Sim Try.prog :=
  (.seq (.live [0] (.region 0 [
    ⟨(opAssign (some 2) (.const (Value.slice none 0 0)) 25 "page.go:37" #[]).op, none⟩,
    ⟨(opAssign (some 3) (.const (Value.bool false)) 4 "page.go:37" #[{ on := 0, ground := Ground.chain }]).op, none⟩
  ] (by kernel_rfl)))
  (.seq (.seq (.live [0, 14] (.region 1 [
    ⟨(opMove (some 8) (.tmp 0) 44 "page.go:38" #[]).op, none⟩,
    ⟨(opCallP p28 (some 9) [(.tmp 8)] #[44] 3 "page.go:38" #[{ on := 0, ground := Ground.data }]).op, none⟩,
    ⟨(opBin (some 10) .gtr 3 (.tmp 9) (.const (Value.int IntKind.i64 256)) 3 4 "page.go:38" #[{ on := 1, ground := Ground.data }]).op, none⟩,
    ⟨(opMove (some 11) (.tmp 10) 4 "page.go:38" #[{ on := 2, ground := Ground.data }, { on := 1, ground := Ground.chain }]).op, none⟩,
    ⟨(opMove (some 12) (.tmp 0) 44 "page.go:38" #[{ on := 3, ground := Ground.guard }]).op, (some (3, 11, false))⟩,
    ⟨(opCallP p26 (some 13) [(.tmp 12), (.func 37)] #[44, 37] 4 "page.go:38" #[{ on := 4, ground := Ground.data }, { on := 3, ground := Ground.chain }, { on := 3, ground := Ground.guard }]).op, (some (3, 11, false))⟩,
    ⟨(opPick (some 14) (.tmp 11) (.const (Value.bool true)) (.tmp 13) 4 "page.go:38" #[{ on := 3, ground := Ground.data }, { on := 5, ground := Ground.data }]).op, none⟩
  ] (by kernel_rfl)))
  (.cond (.tmp 14)
    (.seq (.live [2, 3] (.region 2 [
      ⟨(opAssign (some 2) (.const (Value.slice none 0 0)) 25 "page.go:39" #[]).op, none⟩,
      ⟨(opAssign (some 3) (.const (Value.bool false)) 4 "page.go:39" #[{ on := 0, ground := Ground.chain }, { on := 0, ground := Ground.phase }]).op, none⟩
    ] (by kernel_rfl)))
    (.live [2, 3] .ret))
    .skip))
  (.seq (.live [0, 4] (.region 3 [
    ⟨(opMakeC (some 15) 25 (.const (Value.int IntKind.i64 256)) 5 1 1 (.int .u8 0) el25 [AV.int .u8 0] (by kernel_rfl) (by kernel_rfl) 25 "page.go:41" #[]).op, none⟩,
    ⟨(opAssign (some 4) (.tmp 15) 25 "page.go:41" #[{ on := 0, ground := Ground.data }, { on := 0, ground := Ground.phase }]).op, none⟩
  ] (by kernel_rfl)))
  (.seq (.live [0, 4] (.region 4 [
    ⟨(opMove (some 16) (.tmp 4) 25 "page.go:42" #[]).op, none⟩,
    ⟨(opMove (some 17) (.tmp 0) 44 "page.go:42" #[]).op, none⟩,
    ⟨(opLen (some 18) (.tmp 17) 44 (.slice 25) Try.underlying44 3 "page.go:42" #[{ on := 1, ground := Ground.data }]).op, none⟩,
    ⟨(opConvInt (some 19) 3 5 (.tmp 18) (.int .i64) Try.underlying3 .u8 Try.underlying5 5 "page.go:42" #[{ on := 2, ground := Ground.data }]).op, none⟩,
    ⟨(opIndexAddrT (some 20) 25 (.tmp 16) (.const (Value.int IntKind.i64 0)) 5 1 Try.underlying25 sz5 0 "page.go:42" #[{ on := 0, ground := Ground.data }, { on := 0, ground := Ground.phase }, { on := 1, ground := Ground.phase }, { on := 2, ground := Ground.phase }, { on := 3, ground := Ground.phase }]).op, none⟩,
    ⟨(opStoreC none 5 (.tmp 20) (.tmp 19) 1 sz5 0 "page.go:42" #[{ on := 4, ground := Ground.data }, { on := 3, ground := Ground.data }, { on := 0, ground := Ground.phase }, { on := 1, ground := Ground.phase }, { on := 2, ground := Ground.phase }, { on := 3, ground := Ground.phase }]).op, none⟩
  ] (by kernel_rfl)))
  (.seq (.live [0, 4, 5] (.region 5 [
    ⟨(opMove (some 21) (.tmp 4) 25 "page.go:43" #[]).op, none⟩,
    ⟨(opLen (some 22) (.tmp 21) 25 (.slice 5) Try.underlying25 3 "page.go:43" #[{ on := 0, ground := Ground.data }]).op, none⟩,
    ⟨(opAssign (some 5) (.tmp 22) 3 "page.go:43" #[{ on := 1, ground := Ground.data }, { on := 0, ground := Ground.phase }, { on := 1, ground := Ground.phase }]).op, none⟩
  ] (by kernel_rfl)))
  (.seq (.seq (.live [4, 5, 23, 24, 25] (.region 6 [
    ⟨(opMove (some 23) (.tmp 0) 44 "page.go:44" #[]).op, none⟩,
    ⟨(opLen (some 24) (.tmp 23) 44 (.slice 25) Try.underlying44 3 "page.go:44" #[{ on := 0, ground := Ground.data }]).op, none⟩,
    ⟨(opMove (some 25) (.const (Value.int IntKind.i64 0)) 3 "page.go:44" #[]).op, none⟩
  ] (by kernel_rfl)))
  (.block 0 (.loop [4, 5, 23, 24, 25] f23_l0)))
  f23_r0))))))

noncomputable def f23 : Fun Try.prog where
  id := 23
  fn := Try.f23
  hf := Try.func23
  hname := by kernel_rfl
  body := f23_b
  hbody := by kernel_rfl
  res := [rTmp 2, rTmp 3]
  hres := by kernel_rfl
  n := 51
  hn := by kernel_rfl

end Go.Proofs.Ytblliolkgkgppaa.V

/- What the functions' runs come to; the right sides were printed by a tool, Lean checks them. -/
set_option linter.unusedVariables false
set_option maxRecDepth 100000
namespace Go.Proofs.Ytblliolkgkgppaa.V
open Go Go.V Go.RowKit

theorem pg_run (F : Nat) (z : Bool) (l : List (List AV)) :
    (f23.run F [.ns z 1 l] ⟨[], []⟩ : Ans) =
    branch (AV.bool (okS l && fit (szN (sR l))))
      (branch (AV.bool (decide ((↑(szN (sR l)) : Int) > (256 : Int))))
        (some (Fin.ret (AV.tup [AV.nilsl, AV.bool false]), St.mk [] []))
        (branch (AV.bool (true && okS l))
          (branch (AV.bool (l.any (prd (37 : FuncId)))) (some (Fin.ret (AV.tup [AV.nilsl, AV.bool false]), St.mk [] []))
            (branch (AV.bool (mkOk 1 (256 : Int)))
              (branch (AV.bool (true && inC (zerC 256 [AV.int IntKind.u8 (0 : Int)]) 0 1))
                (loopRun (f23_l0.run F) [4, 5, 23, 24, 25]
                  (Cont.block 0 (Cont.then (f23_r0.run F (f23.leaveK Fun.done)) (f23.leaveK Fun.done))) F
                  (Env.mk 51
                    [(4, AV.ms 0 1 0 256 256),
                      (5, AV.int IntKind.i64 (256 : Int)), (23, AV.ns z 1 l),
                      (24, AV.int IntKind.i64 (↑l.length : Int)), (25, AV.int IntKind.i64 (0 : Int))])
                  (St.mk
                    [Ob.cells
                        (setC (zerC 256 [AV.int IntKind.u8 (0 : Int)]) 0
                          [AV.int IntKind.u8 (IntKind.u8.wrap (↑l.length : Int))])]
                    []))
                none)
              none))
          none))
      none := by kernel_rfl

theorem pg_round (F m : Nat) (K : Cont) (z : Bool) (l : List (List AV)) (cs : List AV) (n : Nat) (d i e : Int) (tk : List (Nat × Nat)) :
    (loopRun (f23_l0.run F) [4, 5, 23, 24, 25] K m.succ (Env.mk 51 [(4, .ms 0 1 0 n n), (5, .int .i64 d), (23, .ns z 1 l), (24, .int .i64 e), (25, .int .i64 i)]) ⟨[.cells cs], tk⟩ : Ans) =
    branch (AV.bool (decide (i < e)))
      (branch (AV.bool (inR l i))
        (branch (AV.bool ((LD.one (LT.ns 1)).is (V.rowAt l i)))
          (branch (AV.bool !nilA (V.rowAt l i))
            (if (0 : Int) ≤ IntKind.i64.wrap ((1 : Int) + i) ∧ IntKind.i64.wrap ((1 : Int) + i) < (↑n : Int) then
              branch (AV.bool (true && inC cs (0 + (IntKind.i64.wrap ((1 : Int) + i)).toNat * 1) 1))
                (if
                    (0 : Int) ≤ IntKind.i64.wrap (d - (↑(rwA (V.rowAt l i)).length : Int)) ∧
                      IntKind.i64.wrap (d - (↑(rwA (V.rowAt l i)).length : Int)) ≤ (↑n : Int) then
                  if (IntKind.i64.wrap (d - (↑(rwA (V.rowAt l i)).length : Int))).toNat < n then
                    branch
                      (AV.bool
                        (inC
                          (setC cs (0 + (IntKind.i64.wrap ((1 : Int) + i)).toNat * 1)
                            [AV.int IntKind.u8
                                (IntKind.u8.wrap (IntKind.i64.wrap ((↑(rwA (V.rowAt l i)).length : Int) + (1 : Int))))])
                          (0 + (IntKind.i64.wrap (d - (↑(rwA (V.rowAt l i)).length : Int))).toNat * 1)
                          (mulN
                            (minN (rwA (V.rowAt l i)).length
                              (n - (IntKind.i64.wrap (d - (↑(rwA (V.rowAt l i)).length : Int))).toNat))
                            1)))
                      (loopRun (f23_l0.run F) [4, 5, 23, 24, 25] K m
                        (Env.mk 51
                          [(4, AV.ms 0 1 0 n n),
                            (5, AV.int IntKind.i64 (IntKind.i64.wrap (d - (↑(rwA (V.rowAt l i)).length : Int)))),
                            (23, AV.ns z 1 l), (24, AV.int IntKind.i64 e),
                            (25, AV.int IntKind.i64 (IntKind.i64.wrap (i + (1 : Int))))])
                        (St.mk
                          [Ob.cells
                              (setC
                                (setC cs (0 + (IntKind.i64.wrap ((1 : Int) + i)).toNat * 1)
                                  [AV.int IntKind.u8
                                      (IntKind.u8.wrap
                                        (IntKind.i64.wrap ((↑(rwA (V.rowAt l i)).length : Int) + (1 : Int))))])
                                (0 + (IntKind.i64.wrap (d - (↑(rwA (V.rowAt l i)).length : Int))).toNat * 1)
                                (flC (rwA (V.rowAt l i))
                                  (minN (rwA (V.rowAt l i)).length
                                    (n - (IntKind.i64.wrap (d - (↑(rwA (V.rowAt l i)).length : Int))).toNat))))]
                          tk))
                      none
                  else
                    loopRun (f23_l0.run F) [4, 5, 23, 24, 25] K m
                      (Env.mk 51
                        [(4, AV.ms 0 1 0 n n),
                          (5, AV.int IntKind.i64 (IntKind.i64.wrap (d - (↑(rwA (V.rowAt l i)).length : Int)))),
                          (23, AV.ns z 1 l), (24, AV.int IntKind.i64 e),
                          (25, AV.int IntKind.i64 (IntKind.i64.wrap (i + (1 : Int))))])
                      (St.mk
                        [Ob.cells
                            (setC cs (0 + (IntKind.i64.wrap ((1 : Int) + i)).toNat * 1)
                              [AV.int IntKind.u8
                                  (IntKind.u8.wrap (IntKind.i64.wrap ((↑(rwA (V.rowAt l i)).length : Int) + (1 : Int))))])]
                        tk)
                else none)
                none
            else none)
            (loopRun (f23_l0.run F) [4, 5, 23, 24, 25] K m
              (Env.mk 51
                [(4, AV.ms 0 1 0 n n), (5, AV.int IntKind.i64 d),
                  (23, AV.ns z 1 l), (24, AV.int IntKind.i64 e),
                  (25, AV.int IntKind.i64 (IntKind.i64.wrap (i + (1 : Int))))])
              (St.mk [Ob.cells cs] tk)))
          none)
        none)
      (K (AX.exit 0) (Env.mk 51 [(4, AV.ms 0 1 0 n n)])
        (St.mk [Ob.cells cs] tk)) := by kernel_rfl

theorem pg_out (F n : Nat) (st : St) :
    ((Cont.block 0 (Cont.then (f23_r0.run F (f23.leaveK Fun.done)) (f23.leaveK Fun.done))) (.exit 0) (Env.mk 51 [(4, .ms 0 1 0 n n)]) st : Ans) =
    some (Fin.ret (AV.tup [AV.ms 0 1 0 n n, AV.bool true]), st) := by kernel_rfl

theorem tv_run (F v n : Nat) (cs : List AV) (os : List Ob) (tk : List (Nat × Nat)) :
    (f36.run F [.vs 0 v 1 n] ⟨.vec v cs :: os, tk⟩ : Ans) =
    loopRun (f36_l0.run F) [0]
      (Cont.block 0 (Cont.then (f36_r0.run F (f36.leaveK Fun.done)) (f36.leaveK Fun.done))) F
      (Env.mk 21 [(0, AV.vs 0 v 1 n)]) (St.mk (Ob.vec v cs :: os) tk) := by kernel_rfl

theorem tv_round (F m v n : Nat) (K : Cont) (cs : List AV) (os : List Ob) (tk : List (Nat × Nat)) :
    (loopRun (f36_l0.run F) [0] K m.succ (Env.mk 21 [(0, .vs 0 v 1 n)]) ⟨.vec v cs :: os, tk⟩ : Ans) =
    branch (AV.bool (decide ((↑n : Int) > (0 : Int))))
      (if
          (0 : Int) ≤ IntKind.i64.wrap ((↑n : Int) - (1 : Int)) ∧
            IntKind.i64.wrap ((↑n : Int) - (1 : Int)) < (↑n : Int) then
        branch (AV.bool (v.beq v))
          (branch
            (AV.bool
              ((LD.one (LT.ns 1)).is
                (List.drop ((IntKind.i64.wrap ((↑n : Int) - (1 : Int))).toNat * 1) cs)))
            (branch (AV.bool (nilA (List.drop ((IntKind.i64.wrap ((↑n : Int) - (1 : Int))).toNat * 1) cs)))
              (if
                  (0 : Int) ≤ IntKind.i64.wrap ((↑n : Int) - (1 : Int)) ∧
                    IntKind.i64.wrap ((↑n : Int) - (1 : Int)) ≤ (↑n : Int) then
                loopRun (f36_l0.run F) [0] K m
                  (Env.mk 21
                    [(0, AV.vs 0 v 1 (IntKind.i64.wrap ((↑n : Int) - (1 : Int))).toNat)])
                  (St.mk (Ob.vec v cs :: os) tk)
              else none)
              (K (AX.exit 0) (Env.mk 21 [(0, AV.vs 0 v 1 n)])
                (St.mk (Ob.vec v cs :: os) tk)))
            none)
          none
      else none)
      (K (AX.exit 0) (Env.mk 21 [(0, AV.vs 0 v 1 n)])
        (St.mk (Ob.vec v cs :: os) tk)) := by kernel_rfl

theorem tv_out (F v n : Nat) (st : St) :
    ((Cont.block 0 (Cont.then (f36_r0.run F (f36.leaveK Fun.done)) (f36.leaveK Fun.done))) (.exit 0) (Env.mk 21 [(0, .vs 0 v 1 n)]) st : Ans) =
    some (Fin.ret (AV.vs 0 v 1 n), st) := by kernel_rfl

end Go.Proofs.Ytblliolkgkgppaa.V

/- Page: slots as a page. -/
set_option linter.unusedVariables false
namespace Go.Proofs.Ytblliolkgkgppaa.V
open Go Go.V Go.RowKit

abbrev Sl := List (Option (List Nat))
def pgFold : Sl → Nat → List Nat → Nat → List Nat
  | [], _, p, _ => p
  | none :: s, i, p, e => pgFold s (i + 1) p e
  | some b :: s, i, p, e => pgFold s (i + 1) (putN (p.set (1 + i) (b.length + 1)) (e - b.length) b) (e - b.length)
/-- Slots as a page's bytes. -/
def pgB (s : Sl) : List Nat := pgFold s 0 ((List.replicate 256 0).set 0 s.length) 256
def pgOk (s : Sl) : Bool := decide (szN s ≤ 256) && s.all (fun o => decide (olen o ≤ 200))
noncomputable def pgR (l : List (List AV)) : List (List AV) := opq (bif pgOk (sR l) then bR (pgB (sR l)) else [])
theorem pgOk_iff {s : Sl} : pgOk s = true ↔ szN s ≤ 256 ∧ ∀ o ∈ s, olen o ≤ 200 := by
  simp [pgOk]
theorem pgFold_len : ∀ (s : Sl) (i : Nat) (p : List Nat) (e : Nat), e ≤ p.length → sumN s ≤ e → (pgFold s i p e).length = p.length
  | [], _, _, _, _, _ => rfl
  | none :: s, i, p, e, h, hs => by rw [pgFold]; exact pgFold_len s _ _ _ h (by rw [sumN_cons] at hs; omega)
  | some b :: s, i, p, e, h, hs => by
    rw [sumN_cons] at hs
    have hb : olen (some b) = b.length := rfl
    have hl : (putN (p.set (1 + i) (b.length + 1)) (e - b.length) b).length = p.length := by rw [putN_length (by rw [List.length_set]; omega), List.length_set]
    rw [pgFold, pgFold_len s _ _ _ (by rw [hl]; omega) (by omega), hl]
theorem pgB_len {s : Sl} (h : pgOk s = true) : (pgB s).length = 256 := by
  have := (pgOk_iff.mp h).1
  rw [pgB, pgFold_len _ _ _ _ (by rw [List.length_set, List.length_replicate]; exact Nat.le_refl _) (by rw [szN] at this; omega), List.length_set, List.length_replicate]
theorem rows_slot {r : List AV} (h : okR (rwA r) = true) (hn : nilA r = false) : ∃ b, slot r = some b ∧ rwA r = bR b := by
  refine ⟨nR (rwA r), by rw [slot, hn]; rfl, okR_rows h⟩
theorem pg_loop (F : Nat) (z : Bool) (l : List (List AV)) (h : okS l = true) (tk : List (Nat × Nat)) : ∀ (k m i e : Nat) (p : List Nat), i + k = l.length → k < m → p.length = 256 → e ≤ 256 → 1 + l.length + sumN ((sR l).drop i) ≤ e → (∀ o ∈ sR l, olen o ≤ 200) →
    loopRun (f23_l0.run F) [4, 5, 23, 24, 25] (Cont.block 0 (Cont.then (f23_r0.run F (f23.leaveK Fun.done)) (f23.leaveK Fun.done))) m
      (Env.mk 51 [(4, .ms 0 1 0 256 256), (5, .int .i64 (e : Int)), (23, .ns z 1 l), (24, .int .i64 (l.length : Int)), (25, .int .i64 (i : Int))]) ⟨[.cells (bC p)], tk⟩
      = some (.ret (.tup [.ms 0 1 0 256 256, .bool true]), ⟨[.cells (bC (pgFold ((sR l).drop i) i p e))], tk⟩)
  | k, 0, i, e, p, hi, hm, hp, he, hs, ho => by omega
  | 0, m + 1, i, e, p, hi, hm, hp, he, hs, ho => by
    rw [show m + 1 = m.succ from rfl, pg_round, branch_not (by simp; omega), pg_out, List.drop_eq_nil_of_le (by rw [sR_length]; omega)]
    rfl
  | k + 1, m + 1, i, e, p, hi, hm, hp, he, hs, ho => by
    have h1 : i < l.length := by omega
    obtain ⟨l1, l2, l3, l4⟩ := okS_at h h1
    have hd : (sR l).drop i = slot (V.rowAt l (i : Int)) :: (sR l).drop (i + 1) := by rw [drop_at (by rw [sR_length]; exact h1), l3]
    have hmem : slot (V.rowAt l (i : Int)) ∈ sR l := by rw [l3]; exact List.getElem_mem _
    rw [hd, sumN_cons] at hs
    rw [hd]
    have h200 := ho _ hmem
    rw [show m + 1 = m.succ from rfl, pg_round, branch_of (by simp; omega), branch_of (inR_nat h1), branch_of l1, wrap_succ (i := i) (by omega)]
    cases hn : nilA (V.rowAt l (i : Int)) with
    | true =>
      have hsl : slot (V.rowAt l (i : Int)) = none := by rw [slot, hn]; rfl
      rw [hsl] at hs ⊢
      rw [branch_not (b := !true) rfl, pg_loop F z l h tk k m (i + 1) e p (by omega) (by omega) hp he (by have : olen none = 0 := rfl; omega) ho]
      rfl
    | false =>
      obtain ⟨b, hb, hr⟩ := rows_slot (byOk_iff.mp l2).1 hn
      rw [hb] at hs h200 ⊢
      have hob : olen (some b) = b.length := rfl
      rw [hob] at hs h200
      rw [hr, bR_length]
      have w1 : IntKind.i64.wrap (1 + (i : Int)) = ((1 + i : Nat) : Int) := by rw [show 1 + (i : Int) = ((1 + i : Nat) : Int) by omega, wrap_nat (by omega)]
      have w2 : IntKind.i64.wrap ((e : Int) - (b.length : Int)) = ((e - b.length : Nat) : Int) := by rw [show (e : Int) - (b.length : Int) = ((e - b.length : Nat) : Int) by omega, wrap_nat (by omega)]
      have w3 : IntKind.u8.wrap (IntKind.i64.wrap ((b.length : Int) + 1)) = ((b.length + 1 : Nat) : Int) := by
        rw [wrap_succ (by omega)]
        exact wrapU rfl (by omega) (by simp only [IntKind.bits]; omega)
      have hpl : 1 + i < p.length := by omega
      have hsl : (p.set (1 + i) (b.length + 1)).length = 256 := by rw [List.length_set]; exact hp
      rw [branch_of (b := !false) rfl, w1, w2, w3, if_pos ⟨by omega, by omega⟩, Int.toNat_natCast, Int.toNat_natCast, Nat.zero_add, Nat.mul_one, Nat.zero_add, Nat.mul_one, branch_of (by rw [Bool.true_and, inC_iff, bC_length]; omega), if_pos ⟨by omega, by omega⟩, setC_byte hpl]
      by_cases hlt : e - b.length < 256
      · have hmin : minN b.length (256 - (e - b.length)) = b.length := by rw [minN, opq_eq]; omega
        rw [if_pos hlt, hmin, mulN, opq_eq, Nat.mul_one, branch_of (by rw [inC_iff, bC_length]; omega), flC_bR, List.take_of_length_le (Nat.le_refl _), setC_bC (by omega),
          pg_loop F z l h tk k m (i + 1) (e - b.length) _ (by omega) (by omega) (by rw [putN_length (by omega)]; exact hsl) (by omega) (by omega) ho]
        rfl
      · have hb0 : b = [] := List.eq_nil_of_length_eq_zero (by omega)
        subst hb0
        rw [if_neg hlt, pg_loop F z l h tk k m (i + 1) _ _ (by omega) (by omega) hsl (by omega) (by simp at hs ⊢; omega) ho, pgFold, putN_nil]
theorem big_any {l : List (List AV)} (h : okS l = true) : l.any (prd 37) = !(sR l).all (fun o => decide (olen o ≤ 200)) := by
  have hr : ∀ r ∈ l, olen (slot r) = (rwA r).length := fun r hr => slot_len (okSlot_spec ((okS_iff.mp h).1 r hr).1).2.2.1
  rw [sR, List.all_map]
  induction l with
  | nil => rfl
  | cons r l ih =>
    have h2 : okS l = true := okS_sub h (fun x hx => by simp [hx]) (by simp)
    rw [List.any_cons, List.all_cons, ih h2 (fun x hx => hr x (by simp [hx])), Bool.not_and]
    congr 1
    simp only [Function.comp, hr r (by simp), prd, Nat.beq_refl, cond_true]
    by_cases hh : (rwA r).length ≤ 200
    · simp [hh]; omega
    · simp [hh]; omega
theorem pgR_ok {l : List (List AV)} (h : pgOk (sR l) = true) : pgR l = bR (pgB (sR l)) := by rw [pgR, opq_eq, h]; rfl
theorem pgR_no {l : List (List AV)} (h : pgOk (sR l) = false) : pgR l = [] := by rw [pgR, opq_eq, h]; rfl
theorem bC_flat (l : List Nat) : ∀ c ∈ bC l, Flat c := by
  intro c hc
  obtain ⟨b, _, rfl⟩ := List.mem_map.mp hc
  trivial
noncomputable def q23 : OrcQ Try.prog := f23.farR
  (fun args st k => match args with
    | [x] => onNsQ 1 x st fun _ l => ifT (okS l && fit (szN (sR l))) (k (.tup [.ns (!pgOk (sR l)) 1 (pgR l), .bool (pgOk (sR l))]))
    | _ => none)
  fun args st k fin h => by
    split at h
    · rename_i x
      obtain ⟨z, l, h, hx⟩ := onNsQ_spec h
      obtain ⟨h1, h⟩ := ifT_spec h
      have h2 := h1
      simp only [Bool.and_eq_true, fit_iff] at h1
      refine ⟨_, _, h, .cons (hx (okS_scoped (okS_iff.mp h1.1).1)) .nil, l.length + 1, ?_⟩
      have no : pgOk (sR l) = false → Wk (AV.tup [AV.nilsl, AV.bool false]) (.tup [.ns (!pgOk (sR l)) 1 (pgR l), .bool (pgOk (sR l))]) := by
        intro e
        rw [pgR_no e, e]
        exact .tup (.cons .nil (.cons (.refl _) .nil))
      have own0 : Own [] (.tup [.nilsl, .bool false]) := by
        intro y hy
        simp only [List.mem_cons, List.not_mem_nil, or_false] at hy
        rcases hy with rfl | rfl <;> trivial
      rw [pg_run, branch_of h2]
      by_cases hb : szN (sR l) > 256
      · have e : pgOk (sR l) = false := by simp [pgOk]; omega
        exact ⟨.tup [.nilsl, .bool false], ⟨[], []⟩, branch_of (by simp only [decide_eq_true_eq]; omega), own0, ⟨trivial, trivial, trivial⟩, no e⟩
      · rw [branch_not (by simp only [decide_eq_false_iff_not]; omega), branch_of (by simpa using h1.1), big_any h1.1]
        cases ha : (sR l).all (fun o => decide (olen o ≤ 200)) with
        | false =>
          have e : pgOk (sR l) = false := by simp only [pgOk, ha, Bool.and_false]
          exact ⟨.tup [.nilsl, .bool false], ⟨[], []⟩, branch_of (b := !false) rfl, own0, ⟨trivial, trivial, trivial⟩, no e⟩
        | true =>
          have e : pgOk (sR l) = true := by simp only [pgOk, ha, Bool.and_true, decide_eq_true_eq]; omega
          have hsz : 1 + l.length + sumN (sR l) ≤ 256 := by rw [szN, sR_length] at hb; omega
          have w1 : IntKind.u8.wrap (l.length : Int) = ((l.length : Nat) : Int) := wrapU rfl (by omega) (by simp only [IntKind.bits]; omega)
          have hz : (List.replicate 256 0).length = 256 := List.length_replicate
          have hl := pg_loop (l.length + 1) z l h1.1 [] l.length (l.length + 1) 0 256 ((List.replicate 256 0).set 0 l.length) (by omega) (by omega) (by rw [List.length_set]; exact hz) (by omega) (by rw [List.drop_zero]; exact hsz) (fun o ho => by simpa using List.all_eq_true.mp ha o ho)
          rw [List.drop_zero, show pgFold (sR l) 0 ((List.replicate 256 0).set 0 l.length) 256 = pgB (sR l) by rw [pgB, sR_length]] at hl
          have hh : hard [Ob.cells (bC (pgB (sR l)))] (.tup [.ms 0 1 0 256 256, .bool true]) = .tup [.sl 1 true (bR (pgB (sR l))), .bool true] := by
            simp only [hard, hardL, List.getElem?_cons_zero, List.drop_zero]
            rw [rowsOf_bC 256 _ (by rw [pgB_len e]; exact Nat.le_refl _), List.take_of_length_le (by rw [pgB_len e]; exact Nat.le_refl _)]
            rfl
          refine ⟨.tup [.ms 0 1 0 256 256, .bool true], ⟨[.cells (bC (pgB (sR l)))], []⟩, ?_, ?_, ?_, ?_⟩
          · rw [branch_not (b := !true) rfl, branch_of (by rw [mkOk_iff]; exact ⟨by decide, by decide⟩), zerC_byte, w1, branch_of (by rw [Bool.true_and, inC_iff, bC_length, hz]; omega), setC_byte (by rw [hz]; omega)]
            exact hl
          · intro y hy
            simp only [List.mem_cons, List.not_mem_nil, or_false] at hy
            rcases hy with rfl | rfl
            · exact ⟨_, rfl, bC_flat _⟩
            · trivial
          · rw [hh]; exact ⟨bR_scoped _, trivial, trivial⟩
          · rw [hh, pgR_ok e, e]
            exact .tup (.cons .sl (.cons (.refl _) .nil))
    · cases h
theorem q23_nat : q23.NatQ := by
  intro args st k
  show (match args with | [x] => _ | _ => _) = thenA (match args with | [x] => _ | _ => _) k
  split
  · exact onNsQ_nat fun _ _ => ifT_nat rfl
  · rfl
end Go.Proofs.Ytblliolkgkgppaa.V

/- The functions' pieces, as told by gen.py. -/
set_option linter.unusedVariables false
set_option maxRecDepth 20000
namespace Go.Proofs.Ytblliolkgkgppaa.V
open Go Go.V Go.RowKit


/-! ### 35: bytes.Equal (25, 25); results 4; slots: 0 a, 1 b, 2 a, 3 b -/
noncomputable def f35_b : Sim Try.prog :=
  (.seq (.live [0, 1] (.region 0 [
    ⟨(opAssign (some 4) (.const (Value.bool false)) 4 "bytes.go:20" #[]).op, none⟩
  ] (by kernel_rfl)))
  (.seq (.live [4] (.region 1 [
    ⟨(opMove (some 5) (.tmp 0) 25 "bytes.go:22" #[]).op, none⟩,
    ⟨(opBytesStr (some 6) 25 9 (.tmp 5) 5 Try.underlying25 Try.underlying5 Try.underlying9 9 "bytes.go:22" #[{ on := 0, ground := Ground.data }]).op, none⟩,
    ⟨(opMove (some 7) (.tmp 1) 25 "bytes.go:22" #[]).op, none⟩,
    ⟨(opBytesStr (some 8) 25 9 (.tmp 7) 5 Try.underlying25 Try.underlying5 Try.underlying9 9 "bytes.go:22" #[{ on := 2, ground := Ground.data }]).op, none⟩,
    ⟨(opBinS (some 9) .eql 9 (.tmp 6) (.tmp 8) 9 4 "bytes.go:22" #[{ on := 1, ground := Ground.data }, { on := 3, ground := Ground.data }]).op, none⟩,
    ⟨(opAssign (some 4) (.tmp 9) 4 "bytes.go:22" #[{ on := 4, ground := Ground.data }, { on := 0, ground := Ground.phase }, { on := 1, ground := Ground.phase }, { on := 2, ground := Ground.phase }, { on := 3, ground := Ground.phase }, { on := 4, ground := Ground.phase }]).op, none⟩
  ] (by kernel_rfl)))
  (.live [4] .ret)))

noncomputable def f35 : Fun Try.prog where
  id := 35
  fn := Try.f35
  hf := Try.func35
  hname := by kernel_rfl
  body := f35_b
  hbody := by kernel_rfl
  res := [rTmp 4]
  hres := by kernel_rfl
  n := 10
  hn := by kernel_rfl

end Go.Proofs.Ytblliolkgkgppaa.V

/- What the functions' runs come to; the right sides were printed by a tool, Lean checks them. -/
set_option linter.unusedVariables false
set_option maxRecDepth 100000
namespace Go.Proofs.Ytblliolkgkgppaa.V
open Go Go.V Go.RowKit

theorem eq_run (F : Nat) (z y : Bool) (l r : List (List AV)) (st : St) :
    (f35.run F [.ns z 1 l, .ns y 1 r] st : Ans) =
    onSome (numsOf l) none fun (o : List Int) =>
      onSome (numsOf r) none fun (o_1 : List Int) => some (Fin.ret (AV.bool ((textOf o).toList == (textOf o_1).toList)), st) := by kernel_rfl

end Go.Proofs.Ytblliolkgkgppaa.V

/- Page: bytes, compared as texts. -/
set_option linter.unusedVariables false
namespace Go.Proofs.Ytblliolkgkgppaa.V
open Go Go.V Go.RowKit
noncomputable def p35 : POrc Try.prog := f35.farN
  (fun args k => match args with
    | [x, y] => onNs 1 x fun _ l => onNs 1 y fun _ r => ifT (byOk l && byOk r) (k (.bool (nR l == nR r)))
    | _ => none)
  fun args k fin h => by
    split at h
    · rename_i x y
      obtain ⟨z, l, h, hx⟩ := onNs_spec h
      obtain ⟨z', r, h, hy⟩ := onNs_spec h
      obtain ⟨h1, h⟩ := ifT_spec h
      simp only [Bool.and_eq_true] at h1
      have hl := (byOk_iff.mp h1.1).1
      have hr := (byOk_iff.mp h1.2).1
      refine ⟨_, _, h, .cons hx (.cons hy .nil), ⟨okR_scoped hl, okR_scoped hr, trivial⟩, trivial, 0, .bool _, ⟨[], []⟩, rfl, (eq_run 0 z z' l r _).trans ?_⟩
      rw [numsOf_nR hl, numsOf_nR hr, onSome_some, onSome_some, text_beq]
      rw [show textOf ((nR l).map fun (b : Nat) => (b : Int)) = txt (nR l) from rfl, show textOf ((nR r).map fun (b : Nat) => (b : Int)) = txt (nR r) from rfl, own_txt (fun b hb => okR_lt hl hb), own_txt (fun b hb => okR_lt hr hb)]
    · cases h
theorem p35_nat : p35.Nat := by
  intro args k
  show (match args with | [x, y] => _ | _ => _) = thenA (match args with | [x, y] => _ | _ => _) k
  split
  · exact onNs_nat fun _ _ => onNs_nat fun _ _ => ifT_nat rfl
  · rfl
end Go.Proofs.Ytblliolkgkgppaa.V

/- Page: slots without free ones at the end, of slots that are written. -/
set_option linter.unusedVariables false
namespace Go.Proofs.Ytblliolkgkgppaa.V
open Go Go.V Go.RowKit

/-- The first of so many cells are slots. -/
noncomputable def okV (n : Nat) (cs : List AV) : Bool := cdec (n ≤ cs.length) && okS (cR (cs.take n))
theorem okV_iff {n : Nat} {cs : List AV} : okV n cs = true ↔ n ≤ cs.length ∧ okS (cR (cs.take n)) = true := by rw [okV, Bool.and_eq_true, cdec_iff]
noncomputable def trN (n : Nat) (cs : List AV) : Nat := opq (trR (cR (cs.take n))).length
theorem cR_snoc {n : Nat} {cs : List AV} (h : n < cs.length) : cR (cs.take (n + 1)) = cR (cs.take n) ++ [[cs[n]]] := by
  rw [List.take_succ_eq_append_getElem h, cR_append]; rfl
theorem tv_loop (F v : Nat) (cs : List AV) (os : List Ob) (tk : List (Nat × Nat)) : ∀ (m n : Nat), okV n cs = true → n < m →
    loopRun (f36_l0.run F) [0] (Cont.block 0 (Cont.then (f36_r0.run F (f36.leaveK Fun.done)) (f36.leaveK Fun.done))) m (Env.mk 21 [(0, .vs 0 v 1 n)]) ⟨.vec v cs :: os, tk⟩ = some (.ret (.vs 0 v 1 (trR (cR (cs.take n))).length), ⟨.vec v cs :: os, tk⟩)
  | 0, n, h, hn => by omega
  | m + 1, 0, h, hn => by
    rw [show m + 1 = m.succ from rfl, tv_round, branch_not (by simp), tv_out, List.take_zero, show cR [] = [] from rfl, trR_nil]; rfl
  | m + 1, n + 1, h, hn => by
    obtain ⟨h1, h2⟩ := okV_iff.mp h
    have h0 : n < cs.length := by omega
    have hlen : (cR (cs.take (n + 1))).length = n + 1 := by rw [cR_length, List.length_take]; omega
    have hb := (okS_iff.mp h2).2
    rw [hlen] at hb
    have hw : IntKind.i64.wrap (((n + 1 : Nat) : Int) - 1) = ((n : Nat) : Int) := by
      rw [show ((n + 1 : Nat) : Int) - 1 = ((n : Nat) : Int) by omega, wrap_nat (by omega)]
    have hi : n < (cR (cs.take (n + 1))).length := by omega
    obtain ⟨k1, k2, k3, k4⟩ := okS_at h2 hi
    have hr : V.rowAt (cR (cs.take (n + 1))) ((n : Nat) : Int) = [cs[n]] := by rw [rowAt_nat hi]; simp [cR]
    rw [hr] at k1
    rw [show m + 1 = m.succ from rfl, tv_round, branch_of (by simp), hw, if_pos ⟨by omega, by omega⟩, branch_of (Nat.beq_refl v), Int.toNat_natCast, Nat.mul_one, is_at h0, branch_of k1, nilA_at h0, cR_snoc h0, trR_snoc]
    cases hx : nilA [cs[n]] with
    | false =>
      rw [branch_not rfl, tv_out, cond_false, List.length_append, cR_length, List.length_take, Nat.min_eq_left (by omega)]; rfl
    | true =>
      rw [branch_true, if_pos ⟨by omega, by omega⟩, cond_true]
      refine tv_loop F v cs os tk m n (okV_iff.mpr ⟨by omega, okS_sub h2 (fun y hy => ?_) ?_⟩) (by omega)
      · rw [cR_snoc h0]; exact List.mem_append_left _ hy
      · rw [hlen, cR_length, List.length_take]; omega
noncomputable def q36v : OrcQ Try.prog := f36.ask
  (fun args st k => match args with
    | [x] => onVs0 x st fun v n cs _ => ifT (okV n cs) (k (.vs 0 v 1 (trN n cs)))
    | _ => none)
  fun args st k fin h => by
    split at h
    · obtain ⟨v, n, cs, os, rfl, e, h⟩ := onVs0_spec h
      obtain ⟨h1, h⟩ := ifT_spec h
      refine ⟨_, h, n + 1, ?_⟩
      rw [e, tv_run, tv_loop _ v cs os _ _ n h1 (by omega), trN, opq_eq]
    · cases h
theorem q36v_nat : q36v.NatQ := by
  intro args st k
  show (match args with | [x] => _ | _ => _) = thenA (match args with | [x] => _ | _ => _) k
  split
  · exact onVs0_nat fun _ _ _ _ => ifT_nat rfl
  · rfl
noncomputable def q36 : OrcQ Try.prog := q36v.alt p36.q rfl isVs1
theorem q36_nat : q36.NatQ := OrcQ.alt_nat q36v_nat (POrc.q_nat p36_nat)
end Go.Proofs.Ytblliolkgkgppaa.V

/- The functions' pieces, as told by gen.py. -/
set_option linter.unusedVariables false
set_option maxRecDepth 20000
namespace Go.Proofs.Ytblliolkgkgppaa.V
open Go Go.V Go.RowKit

theorem ze25 : (Try.prog.info? 25).bind (·.zero) = some (.slice none 0 0) := by kernel_rfl
theorem by25 : (Try.prog.info? 25).map (·.bytes) = some 24 := by kernel_rfl
theorem el44 : ElemOf Try.prog 44 25 1 24 (.slice none 0 0) := ⟨Try.underlying44, sz25, by25, ze25, by kernel_rfl, by decide⟩

/-! ### 21: interlock/page.of (25); results 2, 3; slots: 0 p, 1 p, 4 n, 5 s, 6 end, 7 _, 8 c, 9 b, 10 size, 11 back, 12 ok -/
/-- A loop's round; at its head live: 0 p, 5 s, 6 end, 25 , 26 , 27  -/
noncomputable def f21_l0 : Sim Try.prog :=
  (.seq (.live [0, 5, 6, 25, 26, 27, 28] (.region 7 [
    ⟨(opBin (some 28) .lss 3 (.tmp 27) (.tmp 26) 3 0 "page.go:62" #[]).op, none⟩
  ] (by kernel_rfl)))
  (.seq (.cond (.tmp 28)
    .skip
    (.live [0, 5] (.exit 0)))
  (.seq (.block 1 (.seq (.live [0, 5, 6, 8, 25, 26, 27] (.region 8 [
      ⟨(opIndexAddrT (some 29) 25 (.tmp 25) (.tmp 27) 5 1 Try.underlying25 sz5 0 "page.go:62" #[]).op, none⟩,
      ⟨(opLoadT (.one (.int .u8)) (some 30) 5 (.tmp 29) (.int .u8) Try.underlying5 1 sz5 (by kernel_rfl) 5 "page.go:62" #[{ on := 0, ground := Ground.data }]).op, none⟩,
      ⟨(opAssign (some 8) (.tmp 30) 5 "page.go:62" #[{ on := 1, ground := Ground.data }, { on := 0, ground := Ground.phase }, { on := 1, ground := Ground.phase }]).op, none⟩
    ] (by kernel_rfl)))
    (.seq (.live [0, 5, 6, 8, 9, 25, 26, 27] (.region 9 [
      ⟨(opAssign (some 9) (.const (Value.slice none 0 0)) 25 "page.go:63" #[]).op, none⟩
    ] (by kernel_rfl)))
    (.seq (.seq (.live [0, 5, 6, 8, 9, 25, 26, 27, 32] (.region 10 [
      ⟨(opMove (some 31) (.tmp 8) 5 "page.go:64" #[]).op, none⟩,
      ⟨(opBin (some 32) .gtr 5 (.tmp 31) (.const (Value.int IntKind.u8 0)) 5 4 "page.go:64" #[{ on := 0, ground := Ground.data }]).op, none⟩
    ] (by kernel_rfl)))
    (.cond (.tmp 32)
      (.seq (.live [0, 5, 6, 10, 25, 26, 27] (.region 11 [
        ⟨(opMove (some 33) (.tmp 8) 5 "page.go:65" #[]).op, none⟩,
        ⟨(opConvInt (some 34) 5 3 (.tmp 33) (.int .u8) Try.underlying5 .i64 Try.underlying3 3 "page.go:65" #[{ on := 0, ground := Ground.data }]).op, none⟩,
        ⟨(opBin (some 35) .sub 3 (.tmp 34) (.const (Value.int IntKind.i64 1)) 3 3 "page.go:65" #[{ on := 1, ground := Ground.data }]).op, none⟩,
        ⟨(opAssign (some 10) (.tmp 35) 3 "page.go:65" #[{ on := 2, ground := Ground.data }, { on := 0, ground := Ground.phase }, { on := 1, ground := Ground.phase }, { on := 2, ground := Ground.phase }]).op, none⟩
      ] (by kernel_rfl)))
      (.seq (.seq (.live [0, 5, 6, 10, 25, 26, 27, 38] (.region 12 [
        ⟨(opMove (some 36) (.tmp 10) 3 "page.go:66" #[]).op, none⟩,
        ⟨(opMove (some 37) (.tmp 6) 3 "page.go:66" #[]).op, none⟩,
        ⟨(opBin (some 38) .gtr 3 (.tmp 36) (.tmp 37) 3 4 "page.go:66" #[{ on := 0, ground := Ground.data }, { on := 1, ground := Ground.data }]).op, none⟩
      ] (by kernel_rfl)))
      (.cond (.tmp 38)
        (.seq (.live [2, 3] (.region 13 [
          ⟨(opAssign (some 2) (.const (Value.slice none 0 0)) 44 "page.go:67" #[]).op, none⟩,
          ⟨(opAssign (some 3) (.const (Value.bool false)) 4 "page.go:67" #[{ on := 0, ground := Ground.chain }, { on := 0, ground := Ground.phase }]).op, none⟩
        ] (by kernel_rfl)))
        (.live [2, 3] .ret))
        .skip))
      (.seq (.live [0, 5, 6, 10, 25, 26, 27] (.region 14 [
        ⟨(opMove (some 39) (.tmp 6) 3 "page.go:69" #[]).op, none⟩,
        ⟨(opMove (some 40) (.tmp 10) 3 "page.go:69" #[]).op, none⟩,
        ⟨(opBin (some 41) .sub 3 (.tmp 39) (.tmp 40) 3 3 "page.go:69" #[{ on := 0, ground := Ground.data }, { on := 1, ground := Ground.data }]).op, none⟩,
        ⟨(opAssign (some 6) (.tmp 41) 3 "page.go:69" #[{ on := 2, ground := Ground.data }, { on := 0, ground := Ground.phase }, { on := 1, ground := Ground.phase }, { on := 2, ground := Ground.phase }]).op, none⟩
      ] (by kernel_rfl)))
      (.live [0, 5, 6, 9, 25, 26, 27] (.region 15 [
        ⟨(opBuildSlice (some 42) 25 0 [] 5 1 1 (.int .u8 0) el25 (by kernel_rfl) (by decide) 25 "page.go:70" #[]).op, none⟩,
        ⟨(opMove (some 43) (.tmp 0) 25 "page.go:70" #[]).op, none⟩,
        ⟨(opMove (some 44) (.tmp 6) 3 "page.go:70" #[]).op, none⟩,
        ⟨(opMove (some 45) (.tmp 6) 3 "page.go:70" #[]).op, none⟩,
        ⟨(opMove (some 46) (.tmp 10) 3 "page.go:70" #[]).op, none⟩,
        ⟨(opBin (some 47) .add 3 (.tmp 45) (.tmp 46) 3 3 "page.go:70" #[{ on := 3, ground := Ground.data }, { on := 4, ground := Ground.data }]).op, none⟩,
        ⟨(opSlice (some 48) 25 (.tmp 43) (some (.tmp 44)) (some (.tmp 47)) none 5 1 Try.underlying25 sz5 25 "page.go:70" #[{ on := 1, ground := Ground.data }, { on := 2, ground := Ground.data }, { on := 5, ground := Ground.data }]).op, none⟩,
        ⟨(opAppendF (some 49) (.tmp 42) (.tmp 48) 25 25 5 1 1 (.int .u8 0) el25 (.slice 5) Try.underlying25 rfl 25 "page.go:70" #[{ on := 0, ground := Ground.data }, { on := 6, ground := Ground.data }]).op, none⟩,
        ⟨(opAssign (some 9) (.tmp 49) 25 "page.go:70" #[{ on := 7, ground := Ground.data }, { on := 7, ground := Ground.chain }, { on := 0, ground := Ground.phase }, { on := 1, ground := Ground.phase }, { on := 2, ground := Ground.phase }, { on := 3, ground := Ground.phase }, { on := 4, ground := Ground.phase }, { on := 5, ground := Ground.phase }, { on := 6, ground := Ground.phase }, { on := 7, ground := Ground.phase }]).op, none⟩
      ] (by kernel_rfl))))))
      .skip))
    (.live [0, 5, 6, 25, 26, 27] (.region 16 [
      ⟨(opMove (some 50) (.tmp 5) 44 "page.go:72" #[]).op, none⟩,
      ⟨(opMove (some 51) (.tmp 9) 25 "page.go:72" #[]).op, none⟩,
      ⟨(opBuildSlice (some 52) 44 1 [(0, (.tmp 51))] 25 1 24 (.slice none 0 0) el44 (by kernel_rfl) (by decide) 44 "page.go:72" #[{ on := 1, ground := Ground.data }]).op, none⟩,
      ⟨(opAppendV (some 53) (.tmp 50) (.tmp 52) 44 44 25 1 24 (.slice none 0 0) el44 (.slice 25) Try.underlying44 rfl 44 "page.go:72" #[{ on := 0, ground := Ground.data }, { on := 2, ground := Ground.data }]).op, none⟩,
      ⟨(opAssign (some 5) (.tmp 53) 44 "page.go:72" #[{ on := 3, ground := Ground.data }, { on := 3, ground := Ground.chain }, { on := 0, ground := Ground.phase }, { on := 1, ground := Ground.phase }, { on := 2, ground := Ground.phase }, { on := 3, ground := Ground.phase }]).op, none⟩
    ] (by kernel_rfl)))))))
  (.live [0, 5, 6, 25, 26, 27] (.region 17 [
    ⟨(opBin (some 54) .add 3 (.tmp 27) (.const (Value.int IntKind.i64 1)) 3 3 "page.go:62" #[]).op, none⟩,
    ⟨(opMove (some 27) (.tmp 54) 3 "page.go:62" #[{ on := 0, ground := Ground.data }]).op, none⟩
  ] (by kernel_rfl))))))

/-- What follows a loop. -/
noncomputable def f21_r0 : Sim Try.prog :=
  (.seq (.live [0, 5, 11, 12] (.region 18 [
    ⟨(opMove (some 56) (.tmp 5) 44 "page.go:74" #[]).op, none⟩,
    ⟨(opCallQ q23 (some 57) [(.tmp 56)] #[44] 30 "page.go:74" #[{ on := 0, ground := Ground.data }]).op, none⟩,
    ⟨(opMove (some 55) (.tmp 57) 30 "page.go:74" #[{ on := 1, ground := Ground.data }]).op, none⟩,
    ⟨(opExtract (some 58) (.tmp 55) 0 25 "page.go:74" #[{ on := 2, ground := Ground.data }]).op, none⟩,
    ⟨(opExtract (some 59) (.tmp 55) 1 4 "page.go:74" #[{ on := 2, ground := Ground.data }, { on := 5, ground := (Ground.gcOnly Departure.lateStores) }]).op, none⟩,
    ⟨(opAssign (some 11) (.tmp 58) 25 "page.go:74" #[{ on := 3, ground := Ground.data }, { on := 1, ground := Ground.chain }, { on := 0, ground := Ground.phase }, { on := 1, ground := Ground.phase }, { on := 2, ground := Ground.phase }, { on := 3, ground := Ground.phase }, { on := 4, ground := (Ground.textOnly Departure.lateStores) }]).op, none⟩,
    ⟨(opAssign (some 12) (.tmp 59) 4 "page.go:74" #[{ on := 4, ground := Ground.data }, { on := 5, ground := Ground.chain }, { on := 0, ground := Ground.phase }, { on := 1, ground := Ground.phase }, { on := 2, ground := Ground.phase }, { on := 3, ground := Ground.phase }, { on := 4, ground := Ground.phase }, { on := 5, ground := Ground.phase }]).op, none⟩
  ] (by kernel_rfl)))
  (.seq (.seq (.live [5, 75] (.region 19 [
    ⟨(opMove (some 60) (.tmp 12) 4 "page.go:75" #[]).op, none⟩,
    ⟨(opNot (some 61) 4 (.tmp 60) 4 "page.go:75" #[{ on := 0, ground := Ground.data }]).op, none⟩,
    ⟨(opMove (some 62) (.tmp 61) 4 "page.go:75" #[{ on := 1, ground := Ground.data }]).op, none⟩,
    ⟨(opMove (some 63) (.tmp 11) 25 "page.go:75" #[{ on := 2, ground := Ground.guard }]).op, (some (2, 62, false))⟩,
    ⟨(opMove (some 64) (.tmp 0) 25 "page.go:75" #[{ on := 2, ground := Ground.guard }]).op, (some (2, 62, false))⟩,
    ⟨(opCallP p35 (some 65) [(.tmp 63), (.tmp 64)] #[25, 25] 4 "page.go:75" #[{ on := 3, ground := Ground.data }, { on := 4, ground := Ground.data }, { on := 2, ground := Ground.chain }, { on := 2, ground := Ground.guard }]).op, (some (2, 62, false))⟩,
    ⟨(opNot (some 66) 4 (.tmp 65) 4 "page.go:75" #[{ on := 5, ground := Ground.data }, { on := 2, ground := Ground.guard }]).op, (some (2, 62, false))⟩,
    ⟨(opPick (some 67) (.tmp 62) (.const (Value.bool true)) (.tmp 66) 4 "page.go:75" #[{ on := 2, ground := Ground.data }, { on := 6, ground := Ground.data }]).op, none⟩,
    ⟨(opMove (some 68) (.tmp 67) 4 "page.go:75" #[{ on := 7, ground := Ground.data }, { on := 5, ground := Ground.chain }]).op, none⟩,
    ⟨(opMove (some 69) (.tmp 5) 44 "page.go:75" #[{ on := 8, ground := Ground.guard }]).op, (some (8, 68, false))⟩,
    ⟨(opCallQ q36 (some 70) [(.tmp 69)] #[44] 44 "page.go:75" #[{ on := 9, ground := Ground.data }, { on := 8, ground := Ground.chain }, { on := 8, ground := Ground.guard }]).op, (some (8, 68, false))⟩,
    ⟨(opLen (some 71) (.tmp 70) 44 (.slice 25) Try.underlying44 3 "page.go:75" #[{ on := 10, ground := Ground.data }, { on := 8, ground := Ground.guard }]).op, (some (8, 68, false))⟩,
    ⟨(opMove (some 72) (.tmp 5) 44 "page.go:75" #[{ on := 8, ground := Ground.guard }]).op, (some (8, 68, false))⟩,
    ⟨(opLen (some 73) (.tmp 72) 44 (.slice 25) Try.underlying44 3 "page.go:75" #[{ on := 12, ground := Ground.data }, { on := 8, ground := Ground.guard }]).op, (some (8, 68, false))⟩,
    ⟨(opBin (some 74) .neq 3 (.tmp 71) (.tmp 73) 3 4 "page.go:75" #[{ on := 11, ground := Ground.data }, { on := 13, ground := Ground.data }, { on := 8, ground := Ground.guard }]).op, (some (8, 68, false))⟩,
    ⟨(opPick (some 75) (.tmp 68) (.const (Value.bool true)) (.tmp 74) 4 "page.go:75" #[{ on := 8, ground := Ground.data }, { on := 14, ground := Ground.data }]).op, none⟩
  ] (by kernel_rfl)))
  (.cond (.tmp 75)
    (.seq (.live [2, 3] (.region 20 [
      ⟨(opAssign (some 2) (.const (Value.slice none 0 0)) 44 "page.go:76" #[]).op, none⟩,
      ⟨(opAssign (some 3) (.const (Value.bool false)) 4 "page.go:76" #[{ on := 0, ground := Ground.chain }, { on := 0, ground := Ground.phase }]).op, none⟩
    ] (by kernel_rfl)))
    (.live [2, 3] .ret))
    .skip))
  (.seq (.live [2, 3] (.region 21 [
    ⟨(opMove (some 76) (.tmp 5) 44 "page.go:78" #[]).op, none⟩,
    ⟨(opAssign (some 2) (.tmp 76) 44 "page.go:78" #[{ on := 0, ground := Ground.data }, { on := 0, ground := Ground.phase }]).op, none⟩,
    ⟨(opAssign (some 3) (.const (Value.bool true)) 4 "page.go:78" #[{ on := 1, ground := Ground.chain }, { on := 0, ground := Ground.phase }, { on := 1, ground := Ground.phase }]).op, none⟩
  ] (by kernel_rfl)))
  (.live [2, 3] .ret))))

noncomputable def f21_b : Sim Try.prog :=
  (.seq (.live [0] (.region 0 [
    ⟨(opAssign (some 2) (.const (Value.slice none 0 0)) 44 "page.go:55" #[]).op, none⟩,
    ⟨(opAssign (some 3) (.const (Value.bool false)) 4 "page.go:55" #[{ on := 0, ground := Ground.chain }]).op, none⟩
  ] (by kernel_rfl)))
  (.seq (.seq (.live [0, 15] (.region 1 [
    ⟨(opMove (some 13) (.tmp 0) 25 "page.go:56" #[]).op, none⟩,
    ⟨(opLen (some 14) (.tmp 13) 25 (.slice 5) Try.underlying25 3 "page.go:56" #[{ on := 0, ground := Ground.data }]).op, none⟩,
    ⟨(opBin (some 15) .neq 3 (.tmp 14) (.const (Value.int IntKind.i64 256)) 3 4 "page.go:56" #[{ on := 1, ground := Ground.data }]).op, none⟩
  ] (by kernel_rfl)))
  (.cond (.tmp 15)
    (.seq (.live [2, 3] (.region 2 [
      ⟨(opAssign (some 2) (.const (Value.slice none 0 0)) 44 "page.go:57" #[]).op, none⟩,
      ⟨(opAssign (some 3) (.const (Value.bool false)) 4 "page.go:57" #[{ on := 0, ground := Ground.chain }, { on := 0, ground := Ground.phase }]).op, none⟩
    ] (by kernel_rfl)))
    (.live [2, 3] .ret))
    .skip))
  (.seq (.live [0, 4] (.region 3 [
    ⟨(opMove (some 16) (.tmp 0) 25 "page.go:59" #[]).op, none⟩,
    ⟨(opIndexAddrT (some 17) 25 (.tmp 16) (.const (Value.int IntKind.i64 0)) 5 1 Try.underlying25 sz5 0 "page.go:59" #[{ on := 0, ground := Ground.data }]).op, none⟩,
    ⟨(opLoadT (.one (.int .u8)) (some 18) 5 (.tmp 17) (.int .u8) Try.underlying5 1 sz5 (by kernel_rfl) 5 "page.go:59" #[{ on := 1, ground := Ground.data }]).op, none⟩,
    ⟨(opConvInt (some 19) 5 3 (.tmp 18) (.int .u8) Try.underlying5 .i64 Try.underlying3 3 "page.go:59" #[{ on := 2, ground := Ground.data }]).op, none⟩,
    ⟨(opAssign (some 4) (.tmp 19) 3 "page.go:59" #[{ on := 3, ground := Ground.data }, { on := 0, ground := Ground.phase }, { on := 1, ground := Ground.phase }, { on := 2, ground := Ground.phase }, { on := 3, ground := Ground.phase }]).op, none⟩
  ] (by kernel_rfl)))
  (.seq (.live [0, 4, 5] (.region 4 [
    ⟨(opAssign (some 5) (.const (Value.slice none 0 0)) 44 "page.go:60" #[]).op, none⟩
  ] (by kernel_rfl)))
  (.seq (.live [0, 4, 5, 6] (.region 5 [
    ⟨(opMove (some 20) (.tmp 0) 25 "page.go:61" #[]).op, none⟩,
    ⟨(opLen (some 21) (.tmp 20) 25 (.slice 5) Try.underlying25 3 "page.go:61" #[{ on := 0, ground := Ground.data }]).op, none⟩,
    ⟨(opAssign (some 6) (.tmp 21) 3 "page.go:61" #[{ on := 1, ground := Ground.data }, { on := 0, ground := Ground.phase }, { on := 1, ground := Ground.phase }]).op, none⟩
  ] (by kernel_rfl)))
  (.seq (.seq (.live [0, 5, 6, 25, 26, 27] (.region 6 [
    ⟨(opMove (some 22) (.tmp 0) 25 "page.go:62" #[]).op, none⟩,
    ⟨(opMove (some 23) (.tmp 4) 3 "page.go:62" #[]).op, none⟩,
    ⟨(opBin (some 24) .add 3 (.const (Value.int IntKind.i64 1)) (.tmp 23) 3 3 "page.go:62" #[{ on := 1, ground := Ground.data }]).op, none⟩,
    ⟨(opSlice (some 25) 25 (.tmp 22) (some (.const (Value.int IntKind.i64 1))) (some (.tmp 24)) none 5 1 Try.underlying25 sz5 25 "page.go:62" #[{ on := 0, ground := Ground.data }, { on := 2, ground := Ground.data }]).op, none⟩,
    ⟨(opLen (some 26) (.tmp 25) 25 (.slice 5) Try.underlying25 3 "page.go:62" #[{ on := 3, ground := Ground.data }]).op, none⟩,
    ⟨(opMove (some 27) (.const (Value.int IntKind.i64 0)) 3 "page.go:62" #[]).op, none⟩
  ] (by kernel_rfl)))
  (.block 0 (.loop [0, 5, 6, 25, 26, 27] f21_l0)))
  f21_r0))))))

noncomputable def f21 : Fun Try.prog where
  id := 21
  fn := Try.f21
  hf := Try.func21
  hname := by kernel_rfl
  body := f21_b
  hbody := by kernel_rfl
  res := [rTmp 2, rTmp 3]
  hres := by kernel_rfl
  n := 77
  hn := by kernel_rfl

end Go.Proofs.Ytblliolkgkgppaa.V

/- What the functions' runs come to; the right sides were printed by a tool, Lean checks them. -/
set_option linter.unusedVariables false
set_option maxRecDepth 100000
namespace Go.Proofs.Ytblliolkgkgppaa.V
open Go Go.V Go.RowKit

theorem of_run (F : Nat) (z : Bool) (l : List (List AV)) :
    (f21.run F [.ns z 1 l] ⟨[], []⟩ : Ans) =
    branch (AV.bool ((↑l.length : Int) != (256 : Int))) (some (Fin.ret (AV.tup [AV.nilsl, AV.bool false]), St.mk [] []))
      (branch (AV.bool (inR l (0 : Int)))
        (branch (AV.bool ((LD.one (LT.int IntKind.u8)).is (V.rowAt l (0 : Int))))
          (if
              (0 : Int) ≤ IntKind.i64.wrap ((1 : Int) + IntKind.i64.wrap (hdI (V.rowAt l (0 : Int)))) ∧
                IntKind.i64.wrap ((1 : Int) + IntKind.i64.wrap (hdI (V.rowAt l (0 : Int)))) ≤ (↑l.length : Int) then
            if
                (0 : Int) ≤ (1 : Int) ∧
                  (1 : Int) ≤
                    (↑(IntKind.i64.wrap ((1 : Int) + IntKind.i64.wrap (hdI (V.rowAt l (0 : Int))))).toNat : Int) then
              loopRun (f21_l0.run F) [0, 5, 6, 25, 26, 27]
                (Cont.block 0 (Cont.then (f21_r0.run F (f21.leaveK Fun.done)) (f21.leaveK Fun.done))) F
                (Env.mk 77
                  [(0, AV.ns z 1 l), (5, AV.nilsl),
                    (6, AV.int IntKind.i64 (↑l.length : Int)),
                    (25,
                      AV.ns z 1
                        (List.drop 1
                          (List.take (IntKind.i64.wrap ((1 : Int) + IntKind.i64.wrap (hdI (V.rowAt l (0 : Int))))).toNat
                            l))),
                    (26,
                      AV.int IntKind.i64
                        (↑(List.drop 1
                                (List.take
                                  (IntKind.i64.wrap ((1 : Int) + IntKind.i64.wrap (hdI (V.rowAt l (0 : Int))))).toNat
                                  l)).length :
                          Int)),
                    (27, AV.int IntKind.i64 (0 : Int))])
                (St.mk [] [])
            else none
          else none)
          none)
        none) := by kernel_rfl

theorem of_round0 (F m : Nat) (K : Cont) (z : Bool) (l r : List (List AV)) (d i e : Int) :
    (loopRun (f21_l0.run F) [0, 5, 6, 25, 26, 27] K m.succ (Env.mk 77 [(0, .ns z 1 l), (5, .nilsl), (6, .int .i64 d), (25, .ns z 1 r), (26, .int .i64 e), (27, .int .i64 i)]) ⟨[], []⟩ : Ans) =
    branch (AV.bool (decide (i < e)))
      (branch (AV.bool (inR r i))
        (branch (AV.bool ((LD.one (LT.int IntKind.u8)).is (V.rowAt r i)))
          (branch (AV.bool (decide (hdI (V.rowAt r i) > (0 : Int))))
            (branch (AV.bool (decide (IntKind.i64.wrap (IntKind.i64.wrap (hdI (V.rowAt r i)) - (1 : Int)) > d)))
              (K AX.ret (Env.mk 77 [(2, AV.nilsl), (3, AV.bool false)]) (St.mk [] []))
              (if
                  (0 : Int) ≤
                      IntKind.i64.wrap
                        (IntKind.i64.wrap (d - IntKind.i64.wrap (IntKind.i64.wrap (hdI (V.rowAt r i)) - (1 : Int))) +
                          IntKind.i64.wrap (IntKind.i64.wrap (hdI (V.rowAt r i)) - (1 : Int))) ∧
                    IntKind.i64.wrap
                        (IntKind.i64.wrap (d - IntKind.i64.wrap (IntKind.i64.wrap (hdI (V.rowAt r i)) - (1 : Int))) +
                          IntKind.i64.wrap (IntKind.i64.wrap (hdI (V.rowAt r i)) - (1 : Int))) ≤
                      (↑l.length : Int) then
                if
                    (0 : Int) ≤ IntKind.i64.wrap (d - IntKind.i64.wrap (IntKind.i64.wrap (hdI (V.rowAt r i)) - (1 : Int))) ∧
                      IntKind.i64.wrap (d - IntKind.i64.wrap (IntKind.i64.wrap (hdI (V.rowAt r i)) - (1 : Int))) ≤
                        (↑(IntKind.i64.wrap
                                (IntKind.i64.wrap
                                    (d - IntKind.i64.wrap (IntKind.i64.wrap (hdI (V.rowAt r i)) - (1 : Int))) +
                                  IntKind.i64.wrap (IntKind.i64.wrap (hdI (V.rowAt r i)) - (1 : Int)))).toNat :
                          Int) then
                  branch
                    (AV.bool
                      (true &&
                        apOk
                          ([] ++
                              List.drop
                                (IntKind.i64.wrap
                                    (d - IntKind.i64.wrap (IntKind.i64.wrap (hdI (V.rowAt r i)) - (1 : Int)))).toNat
                                (List.take
                                  (IntKind.i64.wrap
                                      (IntKind.i64.wrap
                                          (d - IntKind.i64.wrap (IntKind.i64.wrap (hdI (V.rowAt r i)) - (1 : Int))) +
                                        IntKind.i64.wrap (IntKind.i64.wrap (hdI (V.rowAt r i)) - (1 : Int)))).toNat
                                  l)).length
                          1))
                    (branch (AV.bool (apOk 1 24))
                      (loopRun (f21_l0.run F) [0, 5, 6, 25, 26, 27] K m
                        (Env.mk 77
                          [(0, AV.ns z 1 l), (5, AV.vs 0 0 1 1),
                            (6,
                              AV.int IntKind.i64
                                (IntKind.i64.wrap
                                  (d - IntKind.i64.wrap (IntKind.i64.wrap (hdI (V.rowAt r i)) - (1 : Int))))),
                            (25, AV.ns z 1 r), (26, AV.int IntKind.i64 e),
                            (27, AV.int IntKind.i64 (IntKind.i64.wrap (i + (1 : Int))))])
                        (St.mk
                          [Ob.vec 0
                              (catC [] 0
                                [[AV.sl 1 false
                                      ([] ++
                                        List.drop
                                          (IntKind.i64.wrap
                                              (d -
                                                IntKind.i64.wrap (IntKind.i64.wrap (hdI (V.rowAt r i)) - (1 : Int)))).toNat
                                          (List.take
                                            (IntKind.i64.wrap
                                                (IntKind.i64.wrap
                                                    (d -
                                                      IntKind.i64.wrap (IntKind.i64.wrap (hdI (V.rowAt r i)) - (1 : Int))) +
                                                  IntKind.i64.wrap
                                                    (IntKind.i64.wrap (hdI (V.rowAt r i)) - (1 : Int)))).toNat
                                            l))]])]
                          []))
                      none)
                    none
                else none
              else none))
            (branch (AV.bool (apOk 1 24))
              (loopRun (f21_l0.run F) [0, 5, 6, 25, 26, 27] K m
                (Env.mk 77
                  [(0, AV.ns z 1 l), (5, AV.vs 0 0 1 1),
                    (6, AV.int IntKind.i64 d), (25, AV.ns z 1 r),
                    (26, AV.int IntKind.i64 e),
                    (27, AV.int IntKind.i64 (IntKind.i64.wrap (i + (1 : Int))))])
                (St.mk [Ob.vec 0 (catC [] 0 [[AV.nilsl]])] []))
              none))
          none)
        none)
      (K (AX.exit 0) (Env.mk 77 [(0, AV.ns z 1 l), (5, AV.nilsl)]) (St.mk [] [])) := by kernel_rfl

theorem of_round (F m : Nat) (K : Cont) (z : Bool) (l r : List (List AV)) (v n : Nat) (cs : List AV) (d i e : Int) :
    (loopRun (f21_l0.run F) [0, 5, 6, 25, 26, 27] K m.succ (Env.mk 77 [(0, .ns z 1 l), (5, .vs 0 v 1 n), (6, .int .i64 d), (25, .ns z 1 r), (26, .int .i64 e), (27, .int .i64 i)]) ⟨[.vec v cs], []⟩ : Ans) =
    branch (AV.bool (decide (i < e)))
      (branch (AV.bool (inR r i))
        (branch (AV.bool ((LD.one (LT.int IntKind.u8)).is (V.rowAt r i)))
          (branch (AV.bool (decide (hdI (V.rowAt r i) > (0 : Int))))
            (branch (AV.bool (decide (IntKind.i64.wrap (IntKind.i64.wrap (hdI (V.rowAt r i)) - (1 : Int)) > d)))
              (K AX.ret (Env.mk 77 [(2, AV.nilsl), (3, AV.bool false)]) (St.mk [Ob.vec v cs] []))
              (if
                  (0 : Int) ≤
                      IntKind.i64.wrap
                        (IntKind.i64.wrap (d - IntKind.i64.wrap (IntKind.i64.wrap (hdI (V.rowAt r i)) - (1 : Int))) +
                          IntKind.i64.wrap (IntKind.i64.wrap (hdI (V.rowAt r i)) - (1 : Int))) ∧
                    IntKind.i64.wrap
                        (IntKind.i64.wrap (d - IntKind.i64.wrap (IntKind.i64.wrap (hdI (V.rowAt r i)) - (1 : Int))) +
                          IntKind.i64.wrap (IntKind.i64.wrap (hdI (V.rowAt r i)) - (1 : Int))) ≤
                      (↑l.length : Int) then
                if
                    (0 : Int) ≤ IntKind.i64.wrap (d - IntKind.i64.wrap (IntKind.i64.wrap (hdI (V.rowAt r i)) - (1 : Int))) ∧
                      IntKind.i64.wrap (d - IntKind.i64.wrap (IntKind.i64.wrap (hdI (V.rowAt r i)) - (1 : Int))) ≤
                        (↑(IntKind.i64.wrap
                                (IntKind.i64.wrap
                                    (d - IntKind.i64.wrap (IntKind.i64.wrap (hdI (V.rowAt r i)) - (1 : Int))) +
                                  IntKind.i64.wrap (IntKind.i64.wrap (hdI (V.rowAt r i)) - (1 : Int)))).toNat :
                          Int) then
                  branch
                    (AV.bool
                      (true &&
                        apOk
                          ([] ++
                              List.drop
                                (IntKind.i64.wrap
                                    (d - IntKind.i64.wrap (IntKind.i64.wrap (hdI (V.rowAt r i)) - (1 : Int)))).toNat
                                (List.take
                                  (IntKind.i64.wrap
                                      (IntKind.i64.wrap
                                          (d - IntKind.i64.wrap (IntKind.i64.wrap (hdI (V.rowAt r i)) - (1 : Int))) +
                                        IntKind.i64.wrap (IntKind.i64.wrap (hdI (V.rowAt r i)) - (1 : Int)))).toNat
                                  l)).length
                          1))
                    (branch (AV.bool (v.beq v && (inC cs 0 (mulN n 1) && apOk (n + 1) 24)))
                      (loopRun (f21_l0.run F) [0, 5, 6, 25, 26, 27] K m
                        (Env.mk 77
                          [(0, AV.ns z 1 l),
                            (5, AV.vs 0 (v + 1) 1 (n + 1)),
                            (6,
                              AV.int IntKind.i64
                                (IntKind.i64.wrap
                                  (d - IntKind.i64.wrap (IntKind.i64.wrap (hdI (V.rowAt r i)) - (1 : Int))))),
                            (25, AV.ns z 1 r), (26, AV.int IntKind.i64 e),
                            (27, AV.int IntKind.i64 (IntKind.i64.wrap (i + (1 : Int))))])
                        (St.mk
                          [Ob.vec (v + 1)
                              (catC cs (mulN n 1)
                                [[AV.sl 1 false
                                      ([] ++
                                        List.drop
                                          (IntKind.i64.wrap
                                              (d -
                                                IntKind.i64.wrap (IntKind.i64.wrap (hdI (V.rowAt r i)) - (1 : Int)))).toNat
                                          (List.take
                                            (IntKind.i64.wrap
                                                (IntKind.i64.wrap
                                                    (d -
                                                      IntKind.i64.wrap (IntKind.i64.wrap (hdI (V.rowAt r i)) - (1 : Int))) +
                                                  IntKind.i64.wrap
                                                    (IntKind.i64.wrap (hdI (V.rowAt r i)) - (1 : Int)))).toNat
                                            l))]])]
                          []))
                      none)
                    none
                else none
              else none))
            (branch (AV.bool (v.beq v && (inC cs 0 (mulN n 1) && apOk (n + 1) 24)))
              (loopRun (f21_l0.run F) [0, 5, 6, 25, 26, 27] K m
                (Env.mk 77
                  [(0, AV.ns z 1 l), (5, AV.vs 0 (v + 1) 1 (n + 1)),
                    (6, AV.int IntKind.i64 d), (25, AV.ns z 1 r),
                    (26, AV.int IntKind.i64 e),
                    (27, AV.int IntKind.i64 (IntKind.i64.wrap (i + (1 : Int))))])
                (St.mk [Ob.vec (v + 1) (catC cs (mulN n 1) [[AV.nilsl]])] []))
              none))
          none)
        none)
      (K (AX.exit 0)
        (Env.mk 77 [(0, AV.ns z 1 l), (5, AV.vs 0 v 1 n)])
        (St.mk [Ob.vec v cs] [])) := by kernel_rfl

theorem of_out0 (F : Nat) (z : Bool) (l : List (List AV)) (st : St) :
    ((Cont.block 0 (Cont.then (f21_r0.run F (f21.leaveK Fun.done)) (f21.leaveK Fun.done))) (.exit 0) (Env.mk 77 [(0, .ns z 1 l), (5, .nilsl)]) st : Ans) =
    branch (AV.bool (okS [] && fit 1))
      (branch (AV.bool (byOk (pgR []) && byOk l))
        (branch (AV.bool !nR (pgR []) == nR l) (some (Fin.ret (AV.tup [AV.nilsl, AV.bool false]), st))
          (branch (AV.bool (okS []))
            (branch (AV.bool ((↑(trR []).length : Int) != (0 : Int)))
              (some (Fin.ret (AV.tup [AV.nilsl, AV.bool false]), st))
              (some (Fin.ret (AV.tup [AV.nilsl, AV.bool true]), st)))
            none))
        none)
      none := by kernel_rfl

theorem of_out (F v n : Nat) (z : Bool) (l : List (List AV)) (cs : List AV) :
    ((Cont.block 0 (Cont.then (f21_r0.run F (f21.leaveK Fun.done)) (f21.leaveK Fun.done))) (.exit 0) (Env.mk 77 [(0, .ns z 1 l), (5, .vs 0 v 1 n)]) ⟨[.vec v cs], []⟩ : Ans) =
    branch (AV.bool (v.beq v && inC cs 0 (mulN n 1)))
      (branch (AV.bool (okS (rowsC 1 n cs 0) && fit (szN (sR (rowsC 1 n cs 0)))))
        (branch (AV.bool !pgOk (sR (rowsC 1 n cs 0)))
          (some (Fin.ret (AV.tup [AV.nilsl, AV.bool false]), St.mk [Ob.vec v cs] []))
          (branch (AV.bool (byOk (pgR (rowsC 1 n cs 0)) && byOk l))
            (branch (AV.bool !nR (pgR (rowsC 1 n cs 0)) == nR l)
              (some (Fin.ret (AV.tup [AV.nilsl, AV.bool false]), St.mk [Ob.vec v cs] []))
              (branch (AV.bool (v.beq v))
                (branch (AV.bool (okV n cs))
                  (branch (AV.bool ((↑(trN n cs) : Int) != (↑n : Int)))
                    (some (Fin.ret (AV.tup [AV.nilsl, AV.bool false]), St.mk [Ob.vec v cs] []))
                    (some (Fin.ret (AV.tup [AV.vs 0 v 1 n, AV.bool true]), St.mk [Ob.vec v cs] [])))
                  none)
                none))
            none))
        none)
      none := by kernel_rfl

theorem of_ret (F : Nat) (st : St) :
    ((Cont.block 0 (Cont.then (f21_r0.run F (f21.leaveK Fun.done)) (f21.leaveK Fun.done))) .ret (Env.mk 77 [(2, .nilsl), (3, .bool false)]) st : Ans) =
    some (Fin.ret (AV.tup [AV.nilsl, AV.bool false]), st) := by kernel_rfl

end Go.Proofs.Ytblliolkgkgppaa.V

/- Page: a page's slots. -/
set_option linter.unusedVariables false
namespace Go.Proofs.Ytblliolkgkgppaa.V
open Go Go.V Go.RowKit

/-- Slots, told by their sizes and where they end. -/
def decL : List Nat → Nat → List Nat → Option Sl
  | [], _, _ => some []
  | c :: r, e, p => if c = 0 then (decL r e p).map (none :: ·) else if c - 1 > e then none else (decL r (e - (c - 1)) p).map (some ((p.take e).drop (e - (c - 1))) :: ·)
/-- Is there no free slot at the end? -/
def trm (s : Sl) : Bool := match s.getLast? with
  | some none => false
  | _ => true
def fine (s : Sl) (p : List Nat) : Bool := pgOk s && (pgB s == p && trm s)
/-- The slots of a page. -/
def ofP (p : List Nat) : Option Sl :=
  bif p.length == 256 then match decL ((p.take (1 + p.headD 0)).drop 1) 256 p with
    | some s => bif fine s p then some s else none
    | none => none
  else none
def ofS (p : List Nat) : Sl := (ofP p).getD []
def ofB (p : List Nat) : Bool := (ofP p).isSome
def rowS (o : Option (List Nat)) : List AV := match o with
  | none => [.nilsl]
  | some b => [.sl 1 false (bR b)]
/-- Slots as rows. -/
def sA (s : Sl) : List (List AV) := s.map rowS
noncomputable def ofA (p : List Nat) : List (List AV) := opq (sA (ofS p))
theorem sA_length (s : Sl) : (sA s).length = s.length := by simp [sA]
theorem sA_append (s t : Sl) : sA (s ++ t) = sA s ++ sA t := by simp [sA]
theorem slot_row (o : Option (List Nat)) : slot (rowS o) = o := by
  cases o with
  | none => rfl
  | some b => simp [rowS, slot, nilA, rwA, nR_bR]
theorem sR_sA (s : Sl) : sR (sA s) = s := by
  simp only [sR, sA, List.map_map]
  conv => rhs; rw [← List.map_id s]
  exact List.map_congr_left fun o _ => slot_row o
/-- Slots of bytes. -/
def okSl (s : Sl) : Prop := (∀ b, some b ∈ s → (∀ x ∈ b, x < 256) ∧ b.length < 4611686018427387904) ∧ s.length < 4611686018427387904
theorem okS_sA {s : Sl} (h : okSl s) : okS (sA s) = true := by
  rw [okS_iff, sA_length]
  refine ⟨fun r hr => ?_, h.2⟩
  obtain ⟨o, ho, rfl⟩ := List.mem_map.mp hr
  cases o with
  | none => exact ⟨rfl, by simp [rowS, rwA]⟩
  | some b =>
    obtain ⟨h1, h2⟩ := h.1 b ho
    exact ⟨okR_bR h1, by simpa [rowS, rwA, bR_length] using h2⟩
theorem scoped_sA {n m : Nat} (s : Sl) : ScopedR n m (sA s) := by
  induction s with
  | nil => trivial
  | cons o s ih =>
    refine ⟨?_, ih⟩
    cases o with
    | none => exact ⟨trivial, trivial⟩
    | some b => exact ⟨bR_scoped b, trivial⟩
theorem trR_trm (s : Sl) : ((((trR (sA s)).length : Int)) != ((sA s).length : Int)) = !trm s := by
  rcases List.eq_nil_or_concat s with rfl | ⟨t, o, rfl⟩
  · rw [show sA [] = [] from rfl, trR_nil]; rfl
  · rw [List.concat_eq_append, sA_append, show sA [o] = [rowS o] from rfl, trR_snoc]
    cases o with
    | none =>
      have := trR_len (sA t)
      simp only [rowS, nilA, cond_true, trm, List.getLast?_append, List.getLast?_singleton]
      simp only [Option.or, Bool.not_false, bne_iff_ne, ne_eq, List.length_append, List.length_singleton]
      omega
    | some b => simp [rowS, nilA, trm]
theorem mem_decL : ∀ {c : List Nat} {e : Nat} {p : List Nat} {s : Sl}, decL c e p = some s → s.length = c.length ∧ sumN s ≤ e ∧ ∀ b, some b ∈ s → ∀ x ∈ b, x ∈ p
  | [], e, p, s, h => by
    simp only [decL, Option.some.injEq] at h
    subst h
    exact ⟨rfl, Nat.zero_le _, fun b hb => by cases hb⟩
  | c :: r, e, p, s, h => by
    rw [decL] at h
    split at h
    · obtain ⟨t, ht, rfl⟩ := Option.map_eq_some_iff.mp h
      obtain ⟨h1, h2, h3⟩ := mem_decL ht
      exact ⟨by simp [h1], by rw [sumN_cons]; exact (by simpa [olen] using h2), fun b hb => h3 b (by simpa using hb)⟩
    · split at h
      · cases h
      · rename_i h0 hc
        obtain ⟨t, ht, rfl⟩ := Option.map_eq_some_iff.mp h
        obtain ⟨h1, h2, h3⟩ := mem_decL ht
        refine ⟨by simp [h1], ?_, fun b hb => ?_⟩
        · rw [sumN_cons]
          have : olen (some ((p.take e).drop (e - (c - 1)))) ≤ c - 1 := by
            show ((p.take e).drop (e - (c - 1))).length ≤ c - 1
            simp; omega
          omega
        · rcases List.mem_cons.mp hb with hb | hb
          · cases hb
            exact fun x hx => List.mem_of_mem_take (List.mem_of_mem_drop hx)
          · exact h3 b hb
end Go.Proofs.Ytblliolkgkgppaa.V

/- Page: a page's slots, as a callee. -/
set_option linter.unusedVariables false
namespace Go.Proofs.Ytblliolkgkgppaa.V
open Go Go.V Go.RowKit

theorem bR_at {c : List Nat} (h : ∀ b ∈ c, b < 256) {i : Nat} (hi : i < c.length) : inR (bR c) (i : Int) = true ∧ (LD.one (.int .u8)).is (V.rowAt (bR c) (i : Int)) = true ∧ hdI (V.rowAt (bR c) (i : Int)) = (c[i] : Nat) := by
  have hl : i < (bR c).length := by rw [bR_length]; exact hi
  obtain ⟨h1, h2⟩ := okR_at (okR_bR h) hl
  exact ⟨inR_nat hl, h1, by rw [h2]; simp [nR_bR]⟩
def cellS (o : Option (List Nat)) : AV := match o with
  | none => .nilsl
  | some b => .sl 1 false (bR b)
/-- Slots as cells. -/
def sC (s : Sl) : List AV := s.map cellS
theorem sC_length (s : Sl) : (sC s).length = s.length := by simp [sC]
theorem sC_append (s t : Sl) : sC (s ++ t) = sC s ++ sC t := by simp [sC]
theorem cR_sC (s : Sl) : cR (sC s) = sA s := by
  simp only [cR, sC, sA, List.map_map]
  exact List.map_congr_left fun o _ => by cases o <;> rfl
theorem cR_sC_take (s : Sl) (n : Nat) : cR ((sC s).take n) = sA (s.take n) := by
  rw [show (sC s).take n = sC (s.take n) by simp [sC], cR_sC]
/-- The slots so far. -/
def sV (t : Sl) : AV := match t with
  | [] => .nilsl
  | _ :: r => .vs 0 r.length 1 (r.length + 1)
def obV (t : Sl) : List Ob := match t with
  | [] => []
  | o :: r => [.vec r.length (sC (o :: r))]
theorem sV_snoc (t : Sl) (o : Option (List Nat)) : sV (t ++ [o]) = .vs 0 t.length 1 (t.length + 1) ∧ obV (t ++ [o]) = [.vec t.length (sC t ++ [cellS o])] := by
  cases t <;> simp [sV, obV, sC]
theorem ap_one : apOk 1 24 = true := by rw [apOk_iff]; decide
theorem vs_guard {v n : Nat} {cs : List AV} (h : n = cs.length) (h2 : n ≤ 1000000) : (v.beq v && (inC cs 0 (mulN n 1) && apOk (n + 1) 24)) = true := by
  rw [Nat.beq_refl, inC_one (by omega), Bool.true_and, Bool.true_and, apOk_iff]; omega
theorem of_step (F m : Nat) (K : Cont) (z : Bool) (p c : List Nat) (hp : p.length = 256) (hpb : ∀ b ∈ p, b < 256) (hcb : ∀ b ∈ c, b < 256) (t : Sl) (ht : t.length ≤ 256) (e i : Nat) (he : e ≤ 256) (hi : i < c.length) (hc : c.length ≤ 256) :
    loopRun (f21_l0.run F) [0, 5, 6, 25, 26, 27] K m.succ (Env.mk 77 [(0, .ns z 1 (bR p)), (5, sV t), (6, .int .i64 (e : Int)), (25, .ns z 1 (bR c)), (26, .int .i64 (c.length : Int)), (27, .int .i64 (i : Int))]) ⟨obV t, []⟩ =
      (if c[i] = 0 then loopRun (f21_l0.run F) [0, 5, 6, 25, 26, 27] K m (Env.mk 77 [(0, .ns z 1 (bR p)), (5, sV (t ++ [none])), (6, .int .i64 (e : Int)), (25, .ns z 1 (bR c)), (26, .int .i64 (c.length : Int)), (27, .int .i64 ((i + 1 : Nat) : Int))]) ⟨obV (t ++ [none]), []⟩
      else if c[i] - 1 > e then K .ret (Env.mk 77 [(2, .nilsl), (3, .bool false)]) ⟨obV t, []⟩
      else loopRun (f21_l0.run F) [0, 5, 6, 25, 26, 27] K m (Env.mk 77 [(0, .ns z 1 (bR p)), (5, sV (t ++ [some ((p.take e).drop (e - (c[i] - 1)))])), (6, .int .i64 ((e - (c[i] - 1) : Nat) : Int)), (25, .ns z 1 (bR c)), (26, .int .i64 (c.length : Int)), (27, .int .i64 ((i + 1 : Nat) : Int))]) ⟨obV (t ++ [some ((p.take e).drop (e - (c[i] - 1)))]), []⟩) := by
  obtain ⟨c1, c2, c3⟩ := bR_at hcb hi
  have hlt : c[i] < 256 := hcb _ (List.getElem_mem hi)
  obtain ⟨n1, n2⟩ := sV_snoc t none
  obtain ⟨n3, n4⟩ := sV_snoc t (some ((p.take e).drop (e - (c[i] - 1))))
  rw [n1, n2, n3, n4]
  have hb : (sC t).length ≤ 256 := by rw [sC_length]; exact ht
  have w0 : IntKind.i64.wrap ((i : Int) + 1) = ((i + 1 : Nat) : Int) := wrap_succ (by omega)
  by_cases h0 : c[i] = 0
  · rw [if_pos h0]
    cases t with
    | nil =>
      simp only [sV, obV]
      rw [of_round0, branch_of (by simpa using hi), branch_of c1, branch_of c2, c3, h0, branch_not (by simp), w0, branch_of ap_one, catC_nil]
      rfl
    | cons o t =>
      simp only [sV, obV]
      rw [of_round, branch_of (by simpa using hi), branch_of c1, branch_of c2, c3, h0, branch_not (by simp), w0, branch_of (vs_guard (by simp [sC]) (by rw [sC_length, List.length_cons] at hb; omega)), catC_one (by simp [sC])]
      rfl
  · rw [if_neg h0]
    have w1 : IntKind.i64.wrap ((c[i] : Nat) : Int) = (c[i] : Nat) := wrap_nat (by omega)
    have w2 : IntKind.i64.wrap (((c[i] : Nat) : Int) - 1) = ((c[i] - 1 : Nat) : Int) := by rw [show ((c[i] : Nat) : Int) - 1 = ((c[i] - 1 : Nat) : Int) by omega]; exact wrap_nat (by omega)
    by_cases h1 : c[i] - 1 > e
    · rw [if_pos h1]
      cases t with
      | nil =>
        simp only [sV, obV]
        rw [of_round0, branch_of (by simpa using hi), branch_of c1, branch_of c2, c3, w1, w2, branch_of (by simp only [decide_eq_true_eq]; omega), branch_of (by simp only [decide_eq_true_eq]; omega)]
      | cons o t =>
        simp only [sV, obV]
        rw [of_round, branch_of (by simpa using hi), branch_of c1, branch_of c2, c3, w1, w2, branch_of (by simp only [decide_eq_true_eq]; omega), branch_of (by simp only [decide_eq_true_eq]; omega)]
    · rw [if_neg h1]
      have w3 : IntKind.i64.wrap ((e : Int) - ((c[i] - 1 : Nat) : Int)) = ((e - (c[i] - 1) : Nat) : Int) := by rw [show (e : Int) - ((c[i] - 1 : Nat) : Int) = ((e - (c[i] - 1) : Nat) : Int) by omega]; exact wrap_nat (by omega)
      have w4 : IntKind.i64.wrap (((e - (c[i] - 1) : Nat) : Int) + ((c[i] - 1 : Nat) : Int)) = (e : Int) := by rw [show ((e - (c[i] - 1) : Nat) : Int) + ((c[i] - 1 : Nat) : Int) = (e : Int) by omega]; exact wrap_nat (by omega)
      have hr : List.drop (e - (c[i] - 1)) (List.take e (bR p)) = bR ((p.take e).drop (e - (c[i] - 1))) := by rw [bR_take, bR_drop]
      have hap : apOk ([] ++ bR ((p.take e).drop (e - (c[i] - 1)))).length 1 = true := by
        rw [apOk_iff, List.nil_append, bR_length, List.length_drop, List.length_take]; omega
      cases t with
      | nil =>
        simp only [sV, obV]
        rw [of_round0, branch_of (by simpa using hi), branch_of c1, branch_of c2, c3, w1, w2, branch_of (by simp only [decide_eq_true_eq]; omega), branch_not (by simp only [decide_eq_false_iff_not]; omega), w3, w4, w0, Int.toNat_natCast, Int.toNat_natCast, hr,
          if_pos ⟨by omega, by rw [bR_length]; omega⟩, if_pos ⟨by omega, by omega⟩, branch_of (by rw [hap]; rfl), List.nil_append, branch_of ap_one, catC_nil]
        rfl
      | cons o t =>
        simp only [sV, obV]
        rw [of_round, branch_of (by simpa using hi), branch_of c1, branch_of c2, c3, w1, w2, branch_of (by simp only [decide_eq_true_eq]; omega), branch_not (by simp only [decide_eq_false_iff_not]; omega), w3, w4, w0, Int.toNat_natCast, Int.toNat_natCast, hr,
          if_pos ⟨by omega, by rw [bR_length]; omega⟩, if_pos ⟨by omega, by omega⟩, branch_of (by rw [hap]; rfl), branch_of (vs_guard (by simp [sC]) (by rw [sC_length, List.length_cons] at hb; omega)), List.nil_append, catC_one (by simp [sC])]
        rfl
/-- What the run answers. -/
def ofAns (o : Option Sl) : AV := match o with
  | some s => .tup [sV s, .bool true]
  | none => .tup [.nilsl, .bool false]
theorem pgFold_lt : ∀ (s : Sl) (i : Nat) (p : List Nat) (e : Nat), (∀ b ∈ p, b < 256) → (∀ o ∈ s, olen o ≤ 200) → (∀ b, some b ∈ s → ∀ x ∈ b, x < 256) → ∀ b ∈ pgFold s i p e, b < 256
  | [], _, _, _, h, _, _ => h
  | none :: s, i, p, e, h, h1, h2 => by
    rw [pgFold]
    exact pgFold_lt s _ _ _ h (fun o ho => h1 o (by simp [ho])) (fun b hb => h2 b (by simp [hb]))
  | some b :: s, i, p, e, h, h1, h2 => by
    rw [pgFold]
    refine pgFold_lt s _ _ _ (fun x hx => ?_) (fun o ho => h1 o (by simp [ho])) (fun b hb => h2 b (by simp [hb]))
    rcases mem_putN hx with hx | hx
    · rcases List.mem_or_eq_of_mem_set hx with hx | hx
      · exact h x hx
      · have : olen (some b) ≤ 200 := h1 _ (by simp)
        have hob : olen (some b) = b.length := rfl
        omega
    · exact h2 b (by simp) x hx
theorem pgB_lt {s : Sl} (h : okSl s) (hk : pgOk s = true) : ∀ b ∈ pgB s, b < 256 := by
  obtain ⟨h1, h2⟩ := pgOk_iff.mp hk
  refine pgFold_lt s _ _ _ (fun x hx => ?_) h2 (fun b hb => (h.1 b hb).1)
  rcases List.mem_or_eq_of_mem_set hx with hx | hx
  · rw [List.eq_of_mem_replicate hx]; omega
  · rw [szN] at h1; omega
theorem byOk_pg {s : Sl} (h : okSl s) : byOk (pgR (sA s)) = true := by
  cases hk : pgOk s with
  | true =>
    rw [pgR_ok (by rw [sR_sA]; exact hk), sR_sA]
    exact byOk_bR (pgB_lt h hk) (by rw [pgB_len hk]; omega)
  | false =>
    rw [pgR_no (by rw [sR_sA]; exact hk)]
    exact byOk_bR (l := []) (by simp) (by simp)
theorem of_end (F : Nat) (z : Bool) (p : List Nat) (hpb : ∀ b ∈ p, b < 256) (hp : p.length = 256) (t : Sl) (ht : okSl t) (hs : fit (szN t) = true) :
    (Cont.block 0 (Cont.then (f21_r0.run F (f21.leaveK Fun.done)) (f21.leaveK Fun.done))) (.exit 0) (Env.mk 77 [(0, .ns z 1 (bR p)), (5, sV t)]) ⟨obV t, []⟩ = some (.ret (ofAns (bif fine t p then some t else none)), ⟨obV t, []⟩) := by
  have hby : byOk (bR p) = true := byOk_bR hpb (by omega)
  have hok := okS_sA ht
  have hpg := byOk_pg ht
  cases t with
  | nil =>
    have e0 : pgOk [] = true := by decide
    have e1 : nR (pgR []) = pgB [] := by rw [show ([] : List (List AV)) = sA [] from rfl, pgR_ok (by rw [sR_sA]; exact e0), sR_sA, nR_bR]
    simp only [sV, obV]
    rw [of_out0, branch_of (by rw [show okS [] = true from hok]; exact (fit_iff.mpr (by omega))), branch_of (by rw [show byOk (pgR []) = true from hpg, hby]; rfl), e1, nR_bR]
    cases hb : pgB [] == p with
    | false => rw [branch_of (by simp), show fine [] p = false by rw [fine, hb]; simp]; rfl
    | true =>
      rw [branch_not (by simp), branch_of (show okS [] = true from hok), trR_nil, show fine [] p = true by rw [fine, hb]; rfl]
      rfl
  | cons o t =>
    have hl : t.length + 1 ≤ (sC (o :: t)).length := by simp [sC]
    have hrow : rowsC 1 (t.length + 1) (sC (o :: t)) 0 = sA (o :: t) := by
      rw [rowsC_one hl, List.take_of_length_le (by simp [sC]), cR_sC]
    have htr : (trN (t.length + 1) (sC (o :: t)) : Int) = ((trR (sA (o :: t))).length : Nat) := by
      rw [trN, opq_eq, List.take_of_length_le (by simp [sC]), cR_sC]
    have hlen : ((t.length + 1 : Nat) : Int) = ((sA (o :: t)).length : Nat) := by rw [sA_length]; rfl
    have hv : okV (t.length + 1) (sC (o :: t)) = true := by
      rw [okV_iff]
      refine ⟨hl, ?_⟩
      rw [List.take_of_length_le (by simp [sC]), cR_sC]
      exact hok
    simp only [sV, obV]
    rw [of_out, branch_of (by rw [Nat.beq_refl, inC_one hl]; rfl), hrow, sR_sA, branch_of (by rw [hok, hs]; rfl)]
    cases hk : pgOk (o :: t) with
    | false => rw [branch_of (by simp), show fine (o :: t) p = false by rw [fine, hk]; rfl]; rfl
    | true =>
      have e1 : nR (pgR (sA (o :: t))) = pgB (o :: t) := by rw [pgR_ok (by rw [sR_sA]; exact hk), sR_sA, nR_bR]
      rw [branch_not (by simp), branch_of (by rw [hpg, hby]; rfl), e1, nR_bR]
      cases hb : pgB (o :: t) == p with
      | false => rw [branch_of (by simp), show fine (o :: t) p = false by rw [fine, hb]; simp]; rfl
      | true =>
        rw [branch_not (by simp), branch_of (Nat.beq_refl _), branch_of hv, htr, hlen, trR_trm]
        cases hm : trm (o :: t) with
        | false => rw [branch_of (by simp), show fine (o :: t) p = false by rw [fine, hm]; simp]; rfl
        | true => rw [branch_not (by simp), show fine (o :: t) p = true by rw [fine, hk, hb, hm]; rfl]; rfl
theorem szN_append (s t : Sl) : szN (s ++ t) = szN s + t.length + sumN t := by
  rw [szN, szN, sumN_append, List.length_append]; omega
/-- What is told of the sizes that are left. -/
def ofD (t : Sl) (c : List Nat) (e : Nat) (p : List Nat) : Option Sl :=
  match decL c e p with
  | some s => bif fine (t ++ s) p then some (t ++ s) else none
  | none => none
theorem ofD_nil (t : Sl) (e : Nat) (p : List Nat) : ofD t [] e p = bif fine t p then some t else none := by simp [ofD, decL]
theorem ofD_free (t : Sl) (r : List Nat) (e : Nat) (p : List Nat) : ofD t (0 :: r) e p = ofD (t ++ [none]) r e p := by
  simp only [ofD, decL, if_true]
  cases decL r e p <;> simp
theorem ofD_bad (t : Sl) {c : Nat} (r : List Nat) {e : Nat} (p : List Nat) (h0 : c ≠ 0) (h : c - 1 > e) : ofD t (c :: r) e p = none := by
  simp only [ofD, decL, if_neg h0, if_pos h]
theorem ofD_some (t : Sl) {c : Nat} (r : List Nat) {e : Nat} (p : List Nat) (h0 : c ≠ 0) (h : ¬ c - 1 > e) : ofD t (c :: r) e p = ofD (t ++ [some ((p.take e).drop (e - (c - 1)))]) r (e - (c - 1)) p := by
  simp only [ofD, decL, if_neg h0, if_neg h]
  cases decL r (e - (c - 1)) p <;> simp
theorem of_loop (F : Nat) (z : Bool) (p c : List Nat) (hp : p.length = 256) (hpb : ∀ b ∈ p, b < 256) (hcb : ∀ b ∈ c, b < 256) (hc : c.length ≤ 256) : ∀ (k m i e : Nat) (t : Sl), i + k = c.length → k < m → e ≤ 256 → t.length = i → sumN t + e ≤ 256 → (∀ b, some b ∈ t → ∀ x ∈ b, x ∈ p) →
    ∃ s' : Sl, loopRun (f21_l0.run F) [0, 5, 6, 25, 26, 27] (Cont.block 0 (Cont.then (f21_r0.run F (f21.leaveK Fun.done)) (f21.leaveK Fun.done))) m (Env.mk 77 [(0, .ns z 1 (bR p)), (5, sV t), (6, .int .i64 (e : Int)), (25, .ns z 1 (bR c)), (26, .int .i64 (c.length : Int)), (27, .int .i64 (i : Int))]) ⟨obV t, []⟩
      = some (.ret (ofAns (ofD t (c.drop i) e p)), ⟨obV s', []⟩) ∧ ∀ s, ofD t (c.drop i) e p = some s → s' = s
  | k, 0, i, e, t, hi, hm, he, htl, hs, ht => by omega
  | 0, m + 1, i, e, t, hi, hm, he, htl, hs, ht => by
    have hlen : ∀ b, some b ∈ t → b.length ≤ 256 := by
      intro b hb
      have : olen (some b) ≤ sumN t := by
        clear hs ht htl hi
        induction t with
        | nil => cases hb
        | cons o t ih =>
          rw [sumN_cons]
          rcases List.mem_cons.mp hb with rfl | hb
          · omega
          · have := ih hb; omega
      have hob : olen (some b) = b.length := rfl
      omega
    have hok : okSl t := ⟨fun b hb => ⟨fun x hx => hpb x (ht b hb x hx), by have := hlen b hb; omega⟩, by omega⟩
    have hend := of_end F z p hpb hp t hok (by rw [fit_iff, szN]; omega)
    rw [List.drop_eq_nil_of_le (by omega), ofD_nil]
    refine ⟨t, ?_, fun s hs' => ?_⟩
    · rw [← hend]
      cases t with
      | nil =>
        simp only [sV, obV]
        rw [show m + 1 = m.succ from rfl, of_round0, branch_not (by simp; omega)]
      | cons o t =>
        simp only [sV, obV]
        rw [show m + 1 = m.succ from rfl, of_round, branch_not (by simp; omega)]
    · cases hf : fine t p with
      | true => rw [hf] at hs'; exact Option.some.inj hs'
      | false => rw [hf] at hs'; cases hs'
  | k + 1, m + 1, i, e, t, hi, hm, he, htl, hs, ht => by
    have h1 : i < c.length := by omega
    rw [show m + 1 = m.succ from rfl, of_step F m _ z p c hp hpb hcb t (by omega) e i he h1 hc, drop_at h1]
    by_cases h0 : c[i] = 0
    · rw [if_pos h0, h0, ofD_free]
      exact of_loop F z p c hp hpb hcb hc k m (i + 1) e (t ++ [none]) (by omega) (by omega) he (by simp [htl]) (by rw [sumN_append]; exact (by simpa [sumN, olen] using hs)) (fun b hb => ht b (by simpa using hb))
    · rw [if_neg h0]
      by_cases h2 : c[i] - 1 > e
      · rw [if_pos h2, ofD_bad _ _ _ h0 h2]
        exact ⟨t, of_ret F _, fun s hs => by cases hs⟩
      · rw [if_neg h2, ofD_some _ _ _ h0 h2]
        have hol : olen (some ((p.take e).drop (e - (c[i] - 1)))) = c[i] - 1 := by
          show ((p.take e).drop (e - (c[i] - 1))).length = c[i] - 1
          simp; omega
        exact of_loop F z p c hp hpb hcb hc k m (i + 1) (e - (c[i] - 1)) (t ++ [some ((p.take e).drop (e - (c[i] - 1)))]) (by omega) (by omega) (by omega) (by simp [htl]) (by
          rw [sumN_append, show sumN [some ((p.take e).drop (e - (c[i] - 1)))] = olen (some ((p.take e).drop (e - (c[i] - 1)))) from by simp [sumN], hol]; omega) (fun b hb x hx => by
          rcases List.mem_append.mp hb with hb | hb
          · exact ht b hb x hx
          · simp only [List.mem_singleton, Option.some.injEq] at hb
            subst hb
            exact List.mem_of_mem_take (List.mem_of_mem_drop hx))
end Go.Proofs.Ytblliolkgkgppaa.V

/- Page: a page's slots, as a callee. -/
set_option linter.unusedVariables false
namespace Go.Proofs.Ytblliolkgkgppaa.V
open Go Go.V Go.RowKit

noncomputable def ofV (p : List Nat) : AV := .tup [.ns (ofS p).isEmpty 1 (ofA p), .bool (ofB p)]
theorem hard_sV (o : Option (List Nat)) (s : Sl) : hard (obV (o :: s)) (sV (o :: s)) = .sl 1 false (sA (o :: s)) := by
  have h := rowsOf_one (s.length + 1) (sC (o :: s)) (by simp [sC])
  rw [List.take_of_length_le (by simp [sC]), cR_sC] at h
  simp only [obV, sV, hard, List.getElem?_cons_zero, Nat.beq_refl, h]
theorem ofAns_wk (p : List Nat) (s' : Sl) (hs : ∀ s, ofP p = some s → s' = s) : Scoped 0 0 (hard (obV s') (ofAns (ofP p))) ∧ Wk (hard (obV s') (ofAns (ofP p))) (ofV p) := by
  cases h : ofP p with
  | none =>
    have h1 : ofS p = [] := by rw [ofS, h]; rfl
    have h2 : ofB p = false := by rw [ofB, h]; rfl
    refine ⟨⟨trivial, trivial, trivial⟩, ?_⟩
    rw [ofV, ofA, opq_eq, h1, h2]
    exact .tup (.cons .nil (.cons (.refl _) .nil))
  | some s =>
    have h1 : ofS p = s := by rw [ofS, h]; rfl
    have h2 : ofB p = true := by rw [ofB, h]; rfl
    rw [ofV, ofA, opq_eq, h1, h2, hs s h]
    cases s with
    | nil =>
      refine ⟨⟨trivial, trivial, trivial⟩, ?_⟩
      exact .tup (.cons .nil (.cons (.refl _) .nil))
    | cons o s =>
      have hh : hard (obV (o :: s)) (ofAns (some (o :: s))) = .tup [.sl 1 false (sA (o :: s)), .bool true] := by
        simp only [ofAns, hard, hardL]
        rw [hard_sV]
      rw [hh]
      exact ⟨⟨scoped_sA _, trivial, trivial⟩, .tup (.cons .sl (.cons (.refl _) .nil))⟩
theorem ofP_ofD {p : List Nat} (hp : p.length = 256) (h0 : 0 < p.length) : ofP p = ofD [] ((p.take (1 + p[0])).drop 1) 256 p := by
  have hd : p.headD 0 = p[0] := by cases p with
    | nil => simp at hp
    | cons a p => rfl
  rw [ofP, show (p.length == 256) = true by simpa using hp, hd]
  unfold ofD
  generalize decL ((p.take (1 + p[0])).drop 1) 256 p = x
  cases x with
  | none => rfl
  | some s => rfl
theorem of_all (z : Bool) (p : List Nat) (hpb : ∀ b ∈ p, b < 256) (hl : p.length < 4611686018427387904) : ∃ F s', f21.run F [.ns z 1 (bR p)] ⟨[], []⟩ = some (.ret (ofAns (ofP p)), ⟨obV s', []⟩) ∧ ∀ s, ofP p = some s → s' = s := by
  by_cases hp : p.length = 256
  · have h0 : 0 < p.length := by omega
    obtain ⟨b1, b2, b3⟩ := bR_at hpb h0
    have hn : p[0] < 256 := hpb _ (List.getElem_mem h0)
    have w1 : IntKind.i64.wrap ((p[0] : Nat) : Int) = (p[0] : Nat) := wrap_nat (by omega)
    have w2 : IntKind.i64.wrap ((1 : Int) + ((p[0] : Nat) : Int)) = ((1 + p[0] : Nat) : Int) := by rw [show (1 : Int) + ((p[0] : Nat) : Int) = ((1 + p[0] : Nat) : Int) by omega]; exact wrap_nat (by omega)
    have hr : List.drop 1 (List.take (1 + p[0]) (bR p)) = bR ((p.take (1 + p[0])).drop 1) := by rw [bR_take, bR_drop]
    have hcl : ((p.take (1 + p[0])).drop 1).length = p[0] := by simp; omega
    obtain ⟨s', h, hs⟩ := of_loop 300 z p ((p.take (1 + p[0])).drop 1) hp hpb (fun b hb => hpb b (List.mem_of_mem_take (List.mem_of_mem_drop hb))) (by omega) p[0] 300 0 256 [] (by omega) (by omega) (by omega) rfl (by simp [sumN]) (fun b hb => by cases hb)
    rw [List.drop_zero, ← ofP_ofD hp h0] at h hs
    refine ⟨300, s', ?_, hs⟩
    rw [of_run, branch_not (by rw [bR_length, hp]; rfl), branch_of (show inR (bR p) 0 = true from b1), branch_of (show (LD.one (.int .u8)).is (V.rowAt (bR p) 0) = true from b2), show hdI (V.rowAt (bR p) 0) = (p[0] : Nat) from b3, w1, w2, Int.toNat_natCast,
      if_pos ⟨by omega, by rw [bR_length]; omega⟩, if_pos ⟨by omega, by omega⟩, hr, bR_length, bR_length, hp]
    exact h
  · refine ⟨0, [], ?_, fun s hs => ?_⟩
    · rw [of_run, branch_of (by rw [bR_length]; simp; omega), ofP, show (p.length == 256) = false by simpa using hp]
      rfl
    · rw [ofP, show (p.length == 256) = false by simpa using hp] at hs
      cases hs
noncomputable def p21 : POrc Try.prog := f21.farW
  (fun args k => match args with
    | [x] => onNs 1 x fun _ l => ifT (byOk l) (k (ofV (nR l)))
    | _ => none)
  fun args k fin h => by
    split at h
    · rename_i x
      obtain ⟨z, l, h, hx⟩ := onNs_spec h
      obtain ⟨h1, h⟩ := ifT_spec h
      obtain ⟨h1, h2⟩ := byOk_iff.mp h1
      obtain ⟨F, s', hF, hs⟩ := of_all z (nR l) (fun b hb => okR_lt h1 hb) (by rw [nR_length]; exact h2)
      rw [← okR_rows h1] at hF
      obtain ⟨w1, w2⟩ := ofAns_wk (nR l) s' hs
      exact ⟨_, _, h, .cons hx .nil, ⟨okR_scoped h1, trivial⟩, F, _, _, hF, w1, w2⟩
    · cases h
theorem p21_nat : p21.Nat := by
  intro args k
  show (match args with | [x] => _ | _ => _) = thenA (match args with | [x] => _ | _ => _) k
  split
  · exact onNs_nat fun _ _ => ifT_nat rfl
  · rfl
/-- A page's slots, as what may be written: are there any; how many but one; their cells. -/
noncomputable def ofE (p : List Nat) : Bool := opq (ofS p).isEmpty
noncomputable def ofN (p : List Nat) : Nat := opq ((ofS p).length - 1)
noncomputable def ofC (p : List Nat) : List AV := opq (sC (ofS p))
noncomputable def ofO (p : List Nat) : Bool := opq (ofB p)
noncomputable def o21 : OrcS Try.prog := f21.by'
  (fun args st k => match args with
    | [x] => onNone st (onNs 1 x fun _ l => ifT (byOk l) (branch (.bool (ofO (nR l)))
        (branch (.bool (ofE (nR l))) (k (.ret (.tup [.nilsl, .bool true])) ⟨[], []⟩) (k (.ret (.tup [.vs 0 (ofN (nR l)) 1 (ofN (nR l) + 1), .bool true])) ⟨[.vec (ofN (nR l)) (ofC (nR l))], []⟩))
        (k (.ret (.tup [.nilsl, .bool false])) ⟨[], []⟩)))
    | _ => none)
  fun args st k fin h => by
    split at h
    · rename_i x
      obtain ⟨e, h5⟩ := onNone_spec h
      clear h
      subst e
      obtain ⟨z, l, h, hx⟩ := onNs_spec h5
      obtain ⟨h1, h⟩ := ifT_spec h
      obtain ⟨h1, h2⟩ := byOk_iff.mp h1
      obtain ⟨F, s', hF, hs⟩ := of_all z (nR l) (fun b hb => okR_lt h1 hb) (by rw [nR_length]; exact h2)
      rw [← okR_rows h1] at hF
      have hw : Wks [x] [.ns z 1 l] := .cons hx .nil
      have hc : CallsTo Try.prog f21.id [x] ⟨[], []⟩ (.ret (ofAns (ofP (nR l))), ⟨obV s', []⟩) := fun g w vals hv hst => f21.sound hF g w vals (hw _ _ _ hv) hst
      simp only [ofO, ofE, ofN, ofC, opq_eq, ofB, ofS] at h
      cases hp : ofP (nR l) with
      | none =>
        rw [hp] at h hc
        refine ⟨_, _, h, ?_⟩
        exact forget (os := []) (xo := obV s') (xt := []) hc rfl (.inl rfl) (fun _ => ⟨trivial, trivial, trivial⟩)
      | some s =>
        rw [hp] at h hc
        obtain rfl := hs s hp
        cases s' with
        | nil => exact ⟨_, _, h, hc⟩
        | cons o s => exact ⟨_, _, h, hc⟩
    · cases h
end Go.Proofs.Ytblliolkgkgppaa.V

/- The functions' pieces, as told by gen.py. -/
set_option linter.unusedVariables false
set_option maxRecDepth 20000
namespace Go.Proofs.Ytblliolkgkgppaa.V
open Go Go.V Go.RowKit


/-! ### 22: (interlock/page.slots).with (44, 3, 25); results 6; slots: 0 s, 1 slot, 2 b, 3 s, 4 slot, 5 b -/
/-- A loop's round; at its head live: 0 s, 1 slot, 2 b -/
noncomputable def f22_l0 : Sim Try.prog :=
  (.seq (.seq (.live [0, 1, 2, 10] (.region 1 [
    ⟨(opMove (some 7) (.tmp 0) 44 "page.go:101" #[]).op, none⟩,
    ⟨(opLen (some 8) (.tmp 7) 44 (.slice 25) Try.underlying44 3 "page.go:101" #[{ on := 0, ground := Ground.data }]).op, none⟩,
    ⟨(opMove (some 9) (.tmp 1) 3 "page.go:101" #[]).op, none⟩,
    ⟨(opBin (some 10) .leq 3 (.tmp 8) (.tmp 9) 3 4 "page.go:101" #[{ on := 1, ground := Ground.data }, { on := 2, ground := Ground.data }]).op, none⟩
  ] (by kernel_rfl)))
  (.cond (.tmp 10)
    .skip
    (.live [0, 1, 2] (.exit 0))))
  (.block 1 (.live [0, 1, 2] (.region 2 [
      ⟨(opMove (some 11) (.tmp 0) 44 "page.go:102" #[]).op, none⟩,
      ⟨(opBuildSlice (some 12) 44 1 [(0, (.const (Value.slice none 0 0)))] 25 1 24 (.slice none 0 0) el44 (by kernel_rfl) (by decide) 44 "page.go:102" #[]).op, none⟩,
      ⟨(opAppendV (some 13) (.tmp 11) (.tmp 12) 44 44 25 1 24 (.slice none 0 0) el44 (.slice 25) Try.underlying44 rfl 44 "page.go:102" #[{ on := 0, ground := Ground.data }, { on := 1, ground := Ground.data }]).op, none⟩,
      ⟨(opAssign (some 0) (.tmp 13) 44 "page.go:102" #[{ on := 2, ground := Ground.data }, { on := 2, ground := Ground.chain }, { on := 0, ground := Ground.phase }, { on := 1, ground := Ground.phase }, { on := 2, ground := Ground.phase }]).op, none⟩
    ] (by kernel_rfl)))))

/-- What follows a loop. -/
noncomputable def f22_r0 : Sim Try.prog :=
  (.seq (.live [0] (.region 3 [
    ⟨(opMove (some 14) (.tmp 0) 44 "page.go:104" #[]).op, none⟩,
    ⟨(opMove (some 15) (.tmp 1) 3 "page.go:104" #[]).op, none⟩,
    ⟨(opMove (some 16) (.tmp 2) 25 "page.go:104" #[]).op, none⟩,
    ⟨(opIndexAddrT (some 17) 44 (.tmp 14) (.tmp 15) 25 1 Try.underlying44 sz25 0 "page.go:104" #[{ on := 0, ground := Ground.data }, { on := 1, ground := Ground.data }, { on := 0, ground := Ground.phase }, { on := 1, ground := Ground.phase }, { on := 2, ground := Ground.phase }]).op, none⟩,
    ⟨(opStoreC none 25 (.tmp 17) (.tmp 16) 1 sz25 0 "page.go:104" #[{ on := 3, ground := Ground.data }, { on := 2, ground := Ground.data }, { on := 0, ground := Ground.phase }, { on := 1, ground := Ground.phase }, { on := 2, ground := Ground.phase }]).op, none⟩
  ] (by kernel_rfl)))
  (.seq (.live [6] (.region 4 [
    ⟨(opMove (some 18) (.tmp 0) 44 "page.go:105" #[]).op, none⟩,
    ⟨(opCallQ q36 (some 19) [(.tmp 18)] #[44] 44 "page.go:105" #[{ on := 0, ground := Ground.data }]).op, none⟩,
    ⟨(opAssign (some 6) (.tmp 19) 44 "page.go:105" #[{ on := 1, ground := Ground.data }, { on := 1, ground := Ground.chain }, { on := 0, ground := Ground.phase }, { on := 1, ground := Ground.phase }]).op, none⟩
  ] (by kernel_rfl)))
  (.live [6] .ret)))

noncomputable def f22_b : Sim Try.prog :=
  (.seq (.live [0, 1, 2] (.region 0 [
    ⟨(opAssign (some 6) (.const (Value.slice none 0 0)) 44 "page.go:100" #[]).op, none⟩
  ] (by kernel_rfl)))
  (.seq (.block 0 (.loop [0, 1, 2] f22_l0))
  f22_r0))

noncomputable def f22 : Fun Try.prog where
  id := 22
  fn := Try.f22
  hf := Try.func22
  hname := by kernel_rfl
  body := f22_b
  hbody := by kernel_rfl
  res := [rTmp 6]
  hres := by kernel_rfl
  n := 20
  hn := by kernel_rfl

end Go.Proofs.Ytblliolkgkgppaa.V

/- What the functions' runs come to; the right sides were printed by a tool, Lean checks them. -/
set_option linter.unusedVariables false
set_option maxRecDepth 100000
namespace Go.Proofs.Ytblliolkgkgppaa.V
open Go Go.V Go.RowKit

theorem wi_run (F : Nat) (k : Int) (x b : AV) (st : St) :
    (f22.run F [x, .int .i64 k, b] st : Ans) =
    loopRun (f22_l0.run F) [0, 1, 2]
      (Cont.block 0 (Cont.then (f22_r0.run F (f22.leaveK Fun.done)) (f22.leaveK Fun.done))) F
      (Env.mk 20 [(0, x), (1, AV.int IntKind.i64 k), (2, b)]) st := by kernel_rfl

theorem wi_round0 (F m : Nat) (K : Cont) (k : Int) (b : AV) :
    (loopRun (f22_l0.run F) [0, 1, 2] K m.succ (Env.mk 20 [(0, .nilsl), (1, .int .i64 k), (2, b)]) ⟨[], []⟩ : Ans) =
    branch (AV.bool (decide ((0 : Int) ≤ k)))
      (branch (AV.bool (apOk 1 24))
        (loopRun (f22_l0.run F) [0, 1, 2] K m
          (Env.mk 20
            [(0, AV.vs 0 0 1 1), (1, AV.int IntKind.i64 k), (2, b)])
          (St.mk [Ob.vec 0 (catC [] 0 [[AV.nilsl]])] []))
        none)
      (K (AX.exit 0) (Env.mk 20 [(0, AV.nilsl), (1, AV.int IntKind.i64 k), (2, b)])
        (St.mk [] [])) := by kernel_rfl

theorem wi_round (F m v n : Nat) (K : Cont) (k : Int) (b : AV) (cs : List AV) :
    (loopRun (f22_l0.run F) [0, 1, 2] K m.succ (Env.mk 20 [(0, .vs 0 v 1 n), (1, .int .i64 k), (2, b)]) ⟨[.vec v cs], []⟩ : Ans) =
    branch (AV.bool (decide ((↑n : Int) ≤ k)))
      (branch (AV.bool (v.beq v && (inC cs 0 (mulN n 1) && apOk (n + 1) 24)))
        (loopRun (f22_l0.run F) [0, 1, 2] K m
          (Env.mk 20
            [(0, AV.vs 0 (v + 1) 1 (n + 1)), (1, AV.int IntKind.i64 k),
              (2, b)])
          (St.mk [Ob.vec (v + 1) (catC cs (mulN n 1) [[AV.nilsl]])] []))
        none)
      (K (AX.exit 0)
        (Env.mk 20 [(0, AV.vs 0 v 1 n), (1, AV.int IntKind.i64 k), (2, b)])
        (St.mk [Ob.vec v cs] [])) := by kernel_rfl

theorem wi_out0 (F v n : Nat) (k : Int) (cs : List AV) :
    ((Cont.block 0 (Cont.then (f22_r0.run F (f22.leaveK Fun.done)) (f22.leaveK Fun.done))) (.exit 0) (Env.mk 20 [(0, .vs 0 v 1 n), (1, .int .i64 k), (2, .nilsl)]) ⟨[.vec v cs], []⟩ : Ans) =
    if (0 : Int) ≤ k ∧ k < (↑n : Int) then
      branch (AV.bool (v.beq v && (true && inC cs (k.toNat * 1) 1)))
        (branch (AV.bool (v.beq v))
          (branch (AV.bool (okV n (setC cs (k.toNat * 1) [AV.nilsl])))
            (some
              (Fin.ret (AV.vs 0 v 1 (trN n (setC cs (k.toNat * 1) [AV.nilsl]))),
                St.mk [Ob.vec v (setC cs (k.toNat * 1) [AV.nilsl])] []))
            none)
          none)
        none
    else none := by kernel_rfl

theorem wi_out (F v n : Nat) (f : Bool) (k : Int) (l : List (List AV)) (cs : List AV) :
    ((Cont.block 0 (Cont.then (f22_r0.run F (f22.leaveK Fun.done)) (f22.leaveK Fun.done))) (.exit 0) (Env.mk 20 [(0, .vs 0 v 1 n), (1, .int .i64 k), (2, .sl 1 f l)]) ⟨[.vec v cs], []⟩ : Ans) =
    if (0 : Int) ≤ k ∧ k < (↑n : Int) then
      branch (AV.bool (v.beq v && (true && inC cs (k.toNat * 1) 1)))
        (branch (AV.bool (v.beq v))
          (branch (AV.bool (okV n (setC cs (k.toNat * 1) [AV.sl 1 f l])))
            (some
              (Fin.ret (AV.vs 0 v 1 (trN n (setC cs (k.toNat * 1) [AV.sl 1 f l]))),
                St.mk [Ob.vec v (setC cs (k.toNat * 1) [AV.sl 1 f l])] []))
            none)
          none)
        none
    else none := by kernel_rfl

end Go.Proofs.Ytblliolkgkgppaa.V

/- Page: slots of which one has bytes. -/
set_option linter.unusedVariables false
namespace Go.Proofs.Ytblliolkgkgppaa.V
open Go Go.V Go.RowKit

/-- Cells, so many at least: free slots behind. -/
def padC (cs : List AV) (m : Nat) : List AV := cs ++ List.replicate (m - cs.length) .nilsl
theorem padC_length (cs : List AV) (m : Nat) : (padC cs m).length = max cs.length m := by simp [padC]; omega
noncomputable abbrev wiK (F : Nat) : Cont := Cont.block 0 (Cont.then (f22_r0.run F (f22.leaveK Fun.done)) (f22.leaveK Fun.done))
theorem wi_loop (F k : Nat) (hk : k ≤ 1000) (b : AV) : ∀ (d m v : Nat) (cs : List AV), cs.length + d = max cs.length (k + 1) → d < m →
    loopRun (f22_l0.run F) [0, 1, 2] (wiK F) m (Env.mk 20 [(0, .vs 0 v 1 cs.length), (1, .int .i64 (k : Int)), (2, b)]) ⟨[.vec v cs], []⟩
      = wiK F (.exit 0) (Env.mk 20 [(0, .vs 0 (v + d) 1 (padC cs (k + 1)).length), (1, .int .i64 (k : Int)), (2, b)]) ⟨[.vec (v + d) (padC cs (k + 1))], []⟩
  | d, 0, v, cs, hd, hm => by omega
  | 0, m + 1, v, cs, hd, hm => by
    have : padC cs (k + 1) = cs := by rw [padC, show k + 1 - cs.length = 0 by omega]; simp
    rw [show m + 1 = m.succ from rfl, wi_round, branch_not (by simp; omega), this]
    rfl
  | d + 1, m + 1, v, cs, hd, hm => by
    have hlt : cs.length ≤ k := by omega
    have hp : padC (cs ++ [.nilsl]) (k + 1) = padC cs (k + 1) := by
      simp only [padC, List.length_append, List.length_singleton, List.append_assoc]
      rw [show k + 1 - cs.length = (k + 1 - (cs.length + 1)) + 1 by omega, List.replicate_succ]
      rfl
    rw [show m + 1 = m.succ from rfl, wi_round, branch_of (by simpa using hlt), branch_of (vs_guard rfl (by omega)), catC_one rfl]
    have ih := wi_loop F k hk b d m (v + 1) (cs ++ [.nilsl]) (by rw [List.length_append, List.length_singleton]; omega) (by omega)
    rw [hp, List.length_append, List.length_singleton, show v + 1 + d = v + (d + 1) by omega] at ih
    exact ih
/-- What a slot may be made of. -/
noncomputable def okB (b : AV) : Bool :=
  match b with
  | .nilsl => true
  | .sl s _ l => Nat.beq s 1 && byOk l
  | _ => false
theorem okB_spec {b : AV} (h : okB b = true) : (b = .nilsl ∨ ∃ f l, b = .sl 1 f l) ∧ okSlot [b] = true ∧ (rwA [b]).length < 4611686018427387904 := by
  unfold okB at h
  split at h
  · exact ⟨.inl rfl, rfl, by simp [rwA]⟩
  · rename_i s f l
    rw [Bool.and_eq_true] at h
    obtain rfl := Nat.eq_of_beq_eq_true h.1
    obtain ⟨h1, h2⟩ := byOk_iff.mp h.2
    exact ⟨.inr ⟨_, _, rfl⟩, h1, h2⟩
  · cases h
/-- Cells that are slots, not too many. -/
noncomputable def okW (cs : List AV) : Bool := okS (cR cs) && cdec (cs.length ≤ 1000)
theorem okW_iff {cs : List AV} : okW cs = true ↔ okS (cR cs) = true ∧ cs.length ≤ 1000 := by rw [okW, Bool.and_eq_true, cdec_iff]
noncomputable def wC (cs : List AV) (k : Nat) (b : AV) : List AV := opq ((padC cs (k + 1)).set k b)
noncomputable def wN (cs : List AV) (k : Nat) (b : AV) : Nat := opq (trR (cR ((padC cs (k + 1)).set k b))).length
noncomputable def wV (v : Nat) (cs : List AV) (k : Nat) : Nat := opq (v + (k + 1 - cs.length))
theorem okS_set {cs : List AV} (h : okW cs = true) {k : Nat} (hk : k ≤ 1000) {b : AV} (hb : okB b = true) : okS (cR ((padC cs (k + 1)).set k b)) = true := by
  obtain ⟨h1, h2⟩ := okW_iff.mp h
  rw [okS_iff] at h1 ⊢
  refine ⟨fun r hr => ?_, by rw [cR_length, List.length_set, padC_length]; omega⟩
  obtain ⟨x, hx, rfl⟩ := List.mem_map.mp hr
  rcases List.mem_or_eq_of_mem_set hx with hx | rfl
  · rcases List.mem_append.mp hx with hx | hx
    · exact h1.1 _ (List.mem_map.mpr ⟨x, hx, rfl⟩)
    · rw [List.eq_of_mem_replicate hx]
      exact ⟨rfl, by simp [rwA]⟩
  · exact (okB_spec hb).2
theorem wi_end (F k v : Nat) (hk : k ≤ 1000) (cs : List AV) (hcs : okW cs = true) (b : AV) (hb : okB b = true) :
    wiK F (.exit 0) (Env.mk 20 [(0, .vs 0 v 1 (padC cs (k + 1)).length), (1, .int .i64 (k : Int)), (2, b)]) ⟨[.vec v (padC cs (k + 1))], []⟩ = some (.ret (.vs 0 v 1 (wN cs k b)), ⟨[.vec v (wC cs k b)], []⟩) := by
  have hl : k < (padC cs (k + 1)).length := by rw [padC_length]; omega
  have hs := okS_set hcs hk hb
  have hset : setC (padC cs (k + 1)) k [b] = (padC cs (k + 1)).set k b := setC_one hl
  have hv : okV (padC cs (k + 1)).length ((padC cs (k + 1)).set k b) = true := by
    rw [okV_iff, List.length_set]
    refine ⟨Nat.le_refl _, ?_⟩
    rw [List.take_of_length_le (by rw [List.length_set]; exact Nat.le_refl _)]
    exact hs
  have hn : trN (padC cs (k + 1)).length ((padC cs (k + 1)).set k b) = wN cs k b := by
    rw [trN, wN, opq_eq, opq_eq, List.take_of_length_le (by rw [List.length_set]; exact Nat.le_refl _)]
  have hg : (v.beq v && (true && inC (padC cs (k + 1)) (k * 1) 1)) = true := by
    rw [Nat.beq_refl, Bool.true_and, Bool.true_and, inC_iff]; omega
  rcases (okB_spec hb).1 with rfl | ⟨f, l, rfl⟩
  · rw [wiK, wi_out0, if_pos ⟨by omega, by omega⟩, Int.toNat_natCast, branch_of hg, branch_of (Nat.beq_refl v), Nat.mul_one, hset, branch_of hv, hn, wC, opq_eq]
  · rw [wiK, wi_out, if_pos ⟨by omega, by omega⟩, Int.toNat_natCast, branch_of hg, branch_of (Nat.beq_refl v), Nat.mul_one, hset, branch_of hv, hn, wC, opq_eq]
theorem wi_all (k v : Nat) (hk : k ≤ 1000) (cs : List AV) (hcs : okW cs = true) (b : AV) (hb : okB b = true) :
    f22.run (k + 3) [.vs 0 v 1 cs.length, .int .i64 (k : Int), b] ⟨[.vec v cs], []⟩ = some (.ret (.vs 0 (wV v cs k) 1 (wN cs k b)), ⟨[.vec (wV v cs k) (wC cs k b)], []⟩) := by
  rw [wi_run, wi_loop _ k hk b (k + 1 - cs.length) (k + 3) v cs (by omega) (by omega), wi_end _ k _ hk cs hcs b hb, wV, opq_eq]
theorem wi_all0 (k : Nat) (hk : k ≤ 1000) (b : AV) (hb : okB b = true) :
    f22.run (k + 3) [.nilsl, .int .i64 (k : Int), b] ⟨[], []⟩ = some (.ret (.vs 0 k 1 (wN [] k b)), ⟨[.vec k (wC [] k b)], []⟩) := by
  have hp : padC [.nilsl] (k + 1) = padC [] (k + 1) := by
    simp only [padC, List.length_nil, List.length_singleton]
    rw [show k + 1 - 0 = (k + 1 - 1) + 1 by omega, List.replicate_succ]
    rfl
  have h0 : okW [] = true := by rw [okW_iff]; exact ⟨by rw [okS_iff]; exact ⟨by simp [cR], by simp [cR]⟩, by simp⟩
  have hl := wi_loop (k + 3) k hk b k (k + 2) 0 [.nilsl] (by simp; omega) (by omega)
  have he := wi_end (k + 3) k (0 + k) hk [] h0 b hb
  rw [hp] at hl
  rw [wi_run, show k + 3 = (k + 2).succ from rfl, wi_round0, branch_of (by simp), branch_of ap_one, catC_nil]
  rw [he, Nat.zero_add] at hl
  exact hl
noncomputable def o22 : OrcS Try.prog := f22.by'
  (fun args st k => match args with
    | [.nilsl, .int .i64 i, b] => onNone st (ifT (cdec (0 ≤ i ∧ i ≤ 1000) && okB b) (k (.ret (.vs 0 i.toNat 1 (wN [] i.toNat b))) ⟨[.vec i.toNat (wC [] i.toNat b)], []⟩))
    | [.vs j v s n, .int .i64 i, b] => match Nat.beq j 0 && Nat.beq s 1 with
      | true => match st with
        | ⟨[.vec v' cs], []⟩ => ifT (Nat.beq v v' && (cdec (n = cs.length) && (cdec (0 ≤ i ∧ i ≤ 1000) && (okW cs && okB b)))) (k (.ret (.vs 0 (wV v cs i.toNat) 1 (wN cs i.toNat b))) ⟨[.vec (wV v cs i.toNat) (wC cs i.toNat b)], []⟩)
        | _ => none
      | false => none
    | _ => none)
  fun args st k fin h => by
    split at h
    · obtain ⟨e, h5⟩ := onNone_spec h
      clear h
      subst e
      obtain ⟨h1, h⟩ := ifT_spec h5
      rw [Bool.and_eq_true, cdec_iff] at h1
      obtain ⟨m, rfl⟩ := Int.eq_ofNat_of_zero_le h1.1.1
      simp only [Int.toNat_natCast] at h
      exact ⟨_, _, h, f22.sound (wi_all0 m (by omega) _ h1.2)⟩
    · split at h
      · rename_i hj
        rw [Bool.and_eq_true] at hj
        obtain rfl := Nat.eq_of_beq_eq_true hj.1
        obtain rfl := Nat.eq_of_beq_eq_true hj.2
        split at h
        · obtain ⟨h1, h6⟩ := ifT_spec h
          clear h
          simp only [Bool.and_eq_true, cdec_iff] at h1
          obtain ⟨e1, e2, e3, e4, e5⟩ := h1
          obtain rfl := Nat.eq_of_beq_eq_true e1
          subst e2
          obtain ⟨m, rfl⟩ := Int.eq_ofNat_of_zero_le e3.1
          simp only [Int.toNat_natCast] at h6
          exact ⟨_, _, h6, f22.sound (wi_all m _ (by omega) _ e4 _ e5)⟩
        · cases h
      · cases h
    · cases h
end Go.Proofs.Ytblliolkgkgppaa.V

/- The functions' pieces, as told by gen.py. -/
set_option linter.unusedVariables false
set_option maxRecDepth 20000
namespace Go.Proofs.Ytblliolkgkgppaa.V
open Go Go.V Go.RowKit

theorem ze3 : (Try.prog.info? 3).bind (·.zero) = some (.int .i64 0) := by kernel_rfl
theorem by3 : (Try.prog.info? 3).map (·.bytes) = some 8 := by kernel_rfl
theorem sz3 : (Try.prog.info? 3).map (·.size) = some 1 := by kernel_rfl
theorem el38 : ElemOf Try.prog 38 3 1 8 (.int .i64 0) := ⟨Try.underlying38, sz3, by3, ze3, by kernel_rfl, by decide⟩

/-! ### 15: interlock/page.Get (25, 3); results 4, 5; slots: 0 p, 1 slot, 2 p, 3 slot, 6 s, 7 _ -/
noncomputable def f15_b : Sim Try.prog :=
  (.seq (.live [0, 1] (.region 0 [
    ⟨(opAssign (some 4) (.const (Value.slice none 0 0)) 25 "page.go:91" #[]).op, none⟩,
    ⟨(opAssign (some 5) (.const (Value.bool false)) 4 "page.go:91" #[{ on := 0, ground := Ground.chain }]).op, none⟩
  ] (by kernel_rfl)))
  (.seq (.live [1, 6] (.region 1 [
    ⟨(opMove (some 9) (.tmp 0) 25 "page.go:92" #[]).op, none⟩,
    ⟨(opCallP p21 (some 10) [(.tmp 9)] #[25] 45 "page.go:92" #[{ on := 0, ground := Ground.data }]).op, none⟩,
    ⟨(opMove (some 8) (.tmp 10) 45 "page.go:92" #[{ on := 1, ground := Ground.data }]).op, none⟩,
    ⟨(opExtract (some 11) (.tmp 8) 0 44 "page.go:92" #[{ on := 2, ground := Ground.data }]).op, none⟩,
    ⟨(opExtract (some 12) (.tmp 8) 1 4 "page.go:92" #[{ on := 2, ground := Ground.data }, { on := 5, ground := (Ground.gcOnly Departure.lateStores) }]).op, none⟩,
    ⟨(opAssign (some 6) (.tmp 11) 44 "page.go:92" #[{ on := 3, ground := Ground.data }, { on := 1, ground := Ground.chain }, { on := 0, ground := Ground.phase }, { on := 1, ground := Ground.phase }, { on := 2, ground := Ground.phase }, { on := 3, ground := Ground.phase }, { on := 4, ground := (Ground.textOnly Departure.lateStores) }]).op, none⟩,
    ⟨(opAssign (some 7) (.tmp 12) 4 "page.go:92" #[{ on := 4, ground := Ground.data }, { on := 5, ground := Ground.chain }, { on := 0, ground := Ground.phase }, { on := 1, ground := Ground.phase }, { on := 2, ground := Ground.phase }, { on := 3, ground := Ground.phase }, { on := 4, ground := Ground.phase }, { on := 5, ground := Ground.phase }]).op, none⟩
  ] (by kernel_rfl)))
  (.seq (.seq (.live [1, 6, 27] (.region 2 [
    ⟨(opMove (some 13) (.tmp 1) 3 "page.go:93" #[]).op, none⟩,
    ⟨(opBin (some 14) .lss 3 (.tmp 13) (.const (Value.int IntKind.i64 0)) 3 4 "page.go:93" #[{ on := 0, ground := Ground.data }]).op, none⟩,
    ⟨(opMove (some 15) (.tmp 14) 4 "page.go:93" #[{ on := 1, ground := Ground.data }]).op, none⟩,
    ⟨(opMove (some 16) (.tmp 1) 3 "page.go:93" #[{ on := 2, ground := Ground.guard }]).op, (some (2, 15, false))⟩,
    ⟨(opMove (some 17) (.tmp 6) 44 "page.go:93" #[{ on := 2, ground := Ground.guard }]).op, (some (2, 15, false))⟩,
    ⟨(opLen (some 18) (.tmp 17) 44 (.slice 25) Try.underlying44 3 "page.go:93" #[{ on := 4, ground := Ground.data }, { on := 2, ground := Ground.guard }]).op, (some (2, 15, false))⟩,
    ⟨(opBin (some 19) .geq 3 (.tmp 16) (.tmp 18) 3 4 "page.go:93" #[{ on := 3, ground := Ground.data }, { on := 5, ground := Ground.data }, { on := 2, ground := Ground.guard }]).op, (some (2, 15, false))⟩,
    ⟨(opPick (some 20) (.tmp 15) (.const (Value.bool true)) (.tmp 19) 4 "page.go:93" #[{ on := 2, ground := Ground.data }, { on := 6, ground := Ground.data }]).op, none⟩,
    ⟨(opMove (some 21) (.tmp 20) 4 "page.go:93" #[{ on := 7, ground := Ground.data }, { on := 2, ground := Ground.chain }]).op, none⟩,
    ⟨(opMove (some 22) (.tmp 6) 44 "page.go:93" #[{ on := 8, ground := Ground.guard }]).op, (some (8, 21, false))⟩,
    ⟨(opMove (some 23) (.tmp 1) 3 "page.go:93" #[{ on := 8, ground := Ground.guard }]).op, (some (8, 21, false))⟩,
    ⟨(opIndexAddrT (some 24) 44 (.tmp 22) (.tmp 23) 25 1 Try.underlying44 sz25 0 "page.go:93" #[{ on := 9, ground := Ground.data }, { on := 10, ground := Ground.data }, { on := 8, ground := Ground.guard }]).op, (some (8, 21, false))⟩,
    ⟨(opLoadT (.one (.ns 1)) (some 25) 25 (.tmp 24) (.slice 5) Try.underlying25 1 sz25 (by kernel_rfl) 25 "page.go:93" #[{ on := 11, ground := Ground.data }, { on := 8, ground := Ground.guard }]).op, (some (8, 21, false))⟩,
    ⟨(opEq (some 26) 25 (.slice 5) Try.underlying25 (.tmp 25) (.const (Value.slice none 0 0)) (.inl rfl) 25 4 "page.go:93" #[{ on := 12, ground := Ground.data }, { on := 8, ground := Ground.guard }]).op, (some (8, 21, false))⟩,
    ⟨(opPick (some 27) (.tmp 21) (.const (Value.bool true)) (.tmp 26) 4 "page.go:93" #[{ on := 8, ground := Ground.data }, { on := 13, ground := Ground.data }]).op, none⟩
  ] (by kernel_rfl)))
  (.cond (.tmp 27)
    (.seq (.live [4, 5] (.region 3 [
      ⟨(opAssign (some 4) (.const (Value.slice none 0 0)) 25 "page.go:94" #[]).op, none⟩,
      ⟨(opAssign (some 5) (.const (Value.bool false)) 4 "page.go:94" #[{ on := 0, ground := Ground.chain }, { on := 0, ground := Ground.phase }]).op, none⟩
    ] (by kernel_rfl)))
    (.live [4, 5] .ret))
    .skip))
  (.seq (.live [4, 5] (.region 4 [
    ⟨(opMove (some 28) (.tmp 6) 44 "page.go:96" #[]).op, none⟩,
    ⟨(opMove (some 29) (.tmp 1) 3 "page.go:96" #[]).op, none⟩,
    ⟨(opIndexAddrT (some 30) 44 (.tmp 28) (.tmp 29) 25 1 Try.underlying44 sz25 0 "page.go:96" #[{ on := 0, ground := Ground.data }, { on := 1, ground := Ground.data }]).op, none⟩,
    ⟨(opLoadT (.one (.ns 1)) (some 31) 25 (.tmp 30) (.slice 5) Try.underlying25 1 sz25 (by kernel_rfl) 25 "page.go:96" #[{ on := 2, ground := Ground.data }]).op, none⟩,
    ⟨(opAssign (some 4) (.tmp 31) 25 "page.go:96" #[{ on := 3, ground := Ground.data }, { on := 0, ground := Ground.phase }, { on := 1, ground := Ground.phase }, { on := 2, ground := Ground.phase }, { on := 3, ground := Ground.phase }]).op, none⟩,
    ⟨(opAssign (some 5) (.const (Value.bool true)) 4 "page.go:96" #[{ on := 4, ground := Ground.chain }, { on := 0, ground := Ground.phase }, { on := 1, ground := Ground.phase }, { on := 2, ground := Ground.phase }, { on := 3, ground := Ground.phase }, { on := 4, ground := Ground.phase }]).op, none⟩
  ] (by kernel_rfl)))
  (.live [4, 5] .ret)))))

noncomputable def f15 : Fun Try.prog where
  id := 15
  fn := Try.f15
  hf := Try.func15
  hname := by kernel_rfl
  body := f15_b
  hbody := by kernel_rfl
  res := [rTmp 4, rTmp 5]
  hres := by kernel_rfl
  n := 32
  hn := by kernel_rfl

/-! ### 16: interlock/page.Right (25); results 2; slots: 0 p, 1 p, 3 _, 4 ok -/
noncomputable def f16_b : Sim Try.prog :=
  (.seq (.live [0] (.region 0 [
    ⟨(opAssign (some 2) (.const (Value.bool false)) 4 "page.go:85" #[]).op, none⟩
  ] (by kernel_rfl)))
  (.seq (.live [4] (.region 1 [
    ⟨(opMove (some 6) (.tmp 0) 25 "page.go:86" #[]).op, none⟩,
    ⟨(opCallP p21 (some 7) [(.tmp 6)] #[25] 45 "page.go:86" #[{ on := 0, ground := Ground.data }]).op, none⟩,
    ⟨(opMove (some 5) (.tmp 7) 45 "page.go:86" #[{ on := 1, ground := Ground.data }]).op, none⟩,
    ⟨(opExtract (some 8) (.tmp 5) 0 44 "page.go:86" #[{ on := 2, ground := Ground.data }]).op, none⟩,
    ⟨(opExtract (some 9) (.tmp 5) 1 4 "page.go:86" #[{ on := 2, ground := Ground.data }, { on := 5, ground := (Ground.gcOnly Departure.lateStores) }]).op, none⟩,
    ⟨(opAssign (some 3) (.tmp 8) 44 "page.go:86" #[{ on := 3, ground := Ground.data }, { on := 1, ground := Ground.chain }, { on := 0, ground := Ground.phase }, { on := 1, ground := Ground.phase }, { on := 2, ground := Ground.phase }, { on := 3, ground := Ground.phase }, { on := 4, ground := (Ground.textOnly Departure.lateStores) }]).op, none⟩,
    ⟨(opAssign (some 4) (.tmp 9) 4 "page.go:86" #[{ on := 4, ground := Ground.data }, { on := 5, ground := Ground.chain }, { on := 0, ground := Ground.phase }, { on := 1, ground := Ground.phase }, { on := 2, ground := Ground.phase }, { on := 3, ground := Ground.phase }, { on := 4, ground := Ground.phase }, { on := 5, ground := Ground.phase }]).op, none⟩
  ] (by kernel_rfl)))
  (.seq (.live [2] (.region 2 [
    ⟨(opMove (some 10) (.tmp 4) 4 "page.go:87" #[]).op, none⟩,
    ⟨(opAssign (some 2) (.tmp 10) 4 "page.go:87" #[{ on := 0, ground := Ground.data }, { on := 0, ground := Ground.phase }]).op, none⟩
  ] (by kernel_rfl)))
  (.live [2] .ret))))

noncomputable def f16 : Fun Try.prog where
  id := 16
  fn := Try.f16
  hf := Try.func16
  hname := by kernel_rfl
  body := f16_b
  hbody := by kernel_rfl
  res := [rTmp 2]
  hres := by kernel_rfl
  n := 11
  hn := by kernel_rfl

/-! ### 14: interlock/page.Room (25); results 2; slots: 0 p, 1 p, 3 s, 4 ok, 5 more, 6 n -/
noncomputable def f14_b : Sim Try.prog :=
  (.seq (.live [0] (.region 0 [
    ⟨(opAssign (some 2) (.const (Value.int IntKind.i64 0)) 3 "page.go:156" #[]).op, none⟩
  ] (by kernel_rfl)))
  (.seq (.live [3, 4] (.region 1 [
    ⟨(opMove (some 8) (.tmp 0) 25 "page.go:157" #[]).op, none⟩,
    ⟨(opCallP p21 (some 9) [(.tmp 8)] #[25] 45 "page.go:157" #[{ on := 0, ground := Ground.data }]).op, none⟩,
    ⟨(opMove (some 7) (.tmp 9) 45 "page.go:157" #[{ on := 1, ground := Ground.data }]).op, none⟩,
    ⟨(opExtract (some 10) (.tmp 7) 0 44 "page.go:157" #[{ on := 2, ground := Ground.data }]).op, none⟩,
    ⟨(opExtract (some 11) (.tmp 7) 1 4 "page.go:157" #[{ on := 2, ground := Ground.data }, { on := 5, ground := (Ground.gcOnly Departure.lateStores) }]).op, none⟩,
    ⟨(opAssign (some 3) (.tmp 10) 44 "page.go:157" #[{ on := 3, ground := Ground.data }, { on := 1, ground := Ground.chain }, { on := 0, ground := Ground.phase }, { on := 1, ground := Ground.phase }, { on := 2, ground := Ground.phase }, { on := 3, ground := Ground.phase }, { on := 4, ground := (Ground.textOnly Departure.lateStores) }]).op, none⟩,
    ⟨(opAssign (some 4) (.tmp 11) 4 "page.go:157" #[{ on := 4, ground := Ground.data }, { on := 5, ground := Ground.chain }, { on := 0, ground := Ground.phase }, { on := 1, ground := Ground.phase }, { on := 2, ground := Ground.phase }, { on := 3, ground := Ground.phase }, { on := 4, ground := Ground.phase }, { on := 5, ground := Ground.phase }]).op, none⟩
  ] (by kernel_rfl)))
  (.seq (.seq (.live [3, 13] (.region 2 [
    ⟨(opMove (some 12) (.tmp 4) 4 "page.go:158" #[]).op, none⟩,
    ⟨(opNot (some 13) 4 (.tmp 12) 4 "page.go:158" #[{ on := 0, ground := Ground.data }]).op, none⟩
  ] (by kernel_rfl)))
  (.cond (.tmp 13)
    (.seq (.live [2] (.region 3 [
      ⟨(opAssign (some 2) (.const (Value.int IntKind.i64 0)) 3 "page.go:159" #[]).op, none⟩
    ] (by kernel_rfl)))
    (.live [2] .ret))
    .skip))
  (.seq (.live [3, 5] (.region 4 [
    ⟨(opAssign (some 5) (.const (Value.int IntKind.i64 1)) 3 "page.go:161" #[]).op, none⟩
  ] (by kernel_rfl)))
  (.seq (.seq (.live [3, 5, 15] (.region 5 [
    ⟨(opMove (some 14) (.tmp 3) 44 "page.go:162" #[]).op, none⟩,
    ⟨(opCallP p26 (some 15) [(.tmp 14), (.func 27)] #[44, 37] 4 "page.go:162" #[{ on := 0, ground := Ground.data }]).op, none⟩
  ] (by kernel_rfl)))
  (.cond (.tmp 15)
    (.live [3, 5] (.region 6 [
      ⟨(opAssign (some 5) (.const (Value.int IntKind.i64 0)) 3 "page.go:163" #[]).op, none⟩
    ] (by kernel_rfl)))
    .skip))
  (.seq (.live [3, 5, 6] (.region 7 [
    ⟨(opMove (some 16) (.tmp 3) 44 "page.go:165" #[]).op, none⟩,
    ⟨(opCallP p28 (some 17) [(.tmp 16)] #[44] 3 "page.go:165" #[{ on := 0, ground := Ground.data }]).op, none⟩,
    ⟨(opBin (some 18) .sub 3 (.const (Value.int IntKind.i64 256)) (.tmp 17) 3 3 "page.go:165" #[{ on := 1, ground := Ground.data }]).op, none⟩,
    ⟨(opMove (some 19) (.tmp 5) 3 "page.go:165" #[]).op, none⟩,
    ⟨(opBin (some 20) .sub 3 (.tmp 18) (.tmp 19) 3 3 "page.go:165" #[{ on := 2, ground := Ground.data }, { on := 3, ground := Ground.data }]).op, none⟩,
    ⟨(opMinMax (some 21) false (.tmp 20) [(.const (Value.int IntKind.i64 200))] #[3, 3] 3 "page.go:165" #[{ on := 4, ground := Ground.data }]).op, none⟩,
    ⟨(opAssign (some 6) (.tmp 21) 3 "page.go:165" #[{ on := 5, ground := Ground.data }, { on := 1, ground := Ground.chain }, { on := 0, ground := Ground.phase }, { on := 1, ground := Ground.phase }, { on := 2, ground := Ground.phase }, { on := 3, ground := Ground.phase }, { on := 4, ground := Ground.phase }, { on := 5, ground := Ground.phase }]).op, none⟩
  ] (by kernel_rfl)))
  (.seq (.seq (.live [6, 32] (.region 8 [
    ⟨(opMove (some 22) (.tmp 6) 3 "page.go:166" #[]).op, none⟩,
    ⟨(opBin (some 23) .lss 3 (.tmp 22) (.const (Value.int IntKind.i64 0)) 3 4 "page.go:166" #[{ on := 0, ground := Ground.data }]).op, none⟩,
    ⟨(opMove (some 24) (.tmp 23) 4 "page.go:166" #[{ on := 1, ground := Ground.data }]).op, none⟩,
    ⟨(opMove (some 25) (.tmp 3) 44 "page.go:166" #[{ on := 2, ground := Ground.guard }]).op, (some (2, 24, false))⟩,
    ⟨(opLen (some 26) (.tmp 25) 44 (.slice 25) Try.underlying44 3 "page.go:166" #[{ on := 3, ground := Ground.data }, { on := 2, ground := Ground.guard }]).op, (some (2, 24, false))⟩,
    ⟨(opBin (some 27) .gtr 3 (.tmp 26) (.const (Value.int IntKind.i64 250)) 3 4 "page.go:166" #[{ on := 4, ground := Ground.data }, { on := 2, ground := Ground.guard }]).op, (some (2, 24, false))⟩,
    ⟨(opMove (some 28) (.tmp 27) 4 "page.go:166" #[{ on := 5, ground := Ground.data }, { on := 2, ground := Ground.chain }, { on := 2, ground := Ground.guard }]).op, (some (2, 24, false))⟩,
    ⟨(opMove (some 29) (.tmp 5) 3 "page.go:166" #[{ on := 6, ground := Ground.guard }]).op, (some (6, 28, true))⟩,
    ⟨(opBin (some 30) .gtr 3 (.tmp 29) (.const (Value.int IntKind.i64 0)) 3 4 "page.go:166" #[{ on := 7, ground := Ground.data }, { on := 6, ground := Ground.guard }]).op, (some (6, 28, true))⟩,
    ⟨(opPick (some 31) (.tmp 28) (.tmp 30) (.const (Value.bool false)) 4 "page.go:166" #[{ on := 6, ground := Ground.data }, { on := 8, ground := Ground.data }, { on := 2, ground := Ground.guard }]).op, (some (2, 24, false))⟩,
    ⟨(opPick (some 32) (.tmp 24) (.const (Value.bool true)) (.tmp 31) 4 "page.go:166" #[{ on := 2, ground := Ground.data }, { on := 9, ground := Ground.data }]).op, none⟩
  ] (by kernel_rfl)))
  (.cond (.tmp 32)
    (.seq (.live [2] (.region 9 [
      ⟨(opAssign (some 2) (.const (Value.int IntKind.i64 (-1))) 3 "page.go:167" #[]).op, none⟩
    ] (by kernel_rfl)))
    (.live [2] .ret))
    .skip))
  (.seq (.live [2] (.region 10 [
    ⟨(opMove (some 33) (.tmp 6) 3 "page.go:169" #[]).op, none⟩,
    ⟨(opAssign (some 2) (.tmp 33) 3 "page.go:169" #[{ on := 0, ground := Ground.data }, { on := 0, ground := Ground.phase }]).op, none⟩
  ] (by kernel_rfl)))
  (.live [2] .ret)))))))))

noncomputable def f14 : Fun Try.prog where
  id := 14
  fn := Try.f14
  hf := Try.func14
  hname := by kernel_rfl
  body := f14_b
  hbody := by kernel_rfl
  res := [rTmp 2]
  hres := by kernel_rfl
  n := 34
  hn := by kernel_rfl

/-! ### 17: interlock/page.Slots (25); results 2; slots: 0 p, 1 p, 3 s, 4 _, 5 out, 6 i, 7 b -/
/-- A loop's round; at its head live: 5 out, 13 , 14 , 15  -/
noncomputable def f17_l0 : Sim Try.prog :=
  (.seq (.live [5, 13, 14, 15, 16] (.region 4 [
    ⟨(opBin (some 16) .lss 3 (.tmp 15) (.tmp 14) 3 0 "page.go:147" #[]).op, none⟩
  ] (by kernel_rfl)))
  (.seq (.cond (.tmp 16)
    .skip
    (.live [5] (.exit 0)))
  (.seq (.block 1 (.seq (.live [5, 6, 7, 13, 14, 15] (.region 5 [
      ⟨(opMove (some 17) (.tmp 15) 3 "page.go:147" #[]).op, none⟩,
      ⟨(opIndexAddrT (some 18) 44 (.tmp 13) (.tmp 15) 25 1 Try.underlying44 sz25 0 "page.go:147" #[]).op, none⟩,
      ⟨(opLoadT (.one (.ns 1)) (some 19) 25 (.tmp 18) (.slice 5) Try.underlying25 1 sz25 (by kernel_rfl) 25 "page.go:147" #[{ on := 1, ground := Ground.data }]).op, none⟩,
      ⟨(opAssign (some 6) (.tmp 17) 3 "page.go:147" #[{ on := 0, ground := Ground.data }, { on := 0, ground := Ground.phase }, { on := 1, ground := Ground.phase }, { on := 2, ground := Ground.phase }]).op, none⟩,
      ⟨(opAssign (some 7) (.tmp 19) 25 "page.go:147" #[{ on := 2, ground := Ground.data }, { on := 3, ground := Ground.chain }, { on := 0, ground := Ground.phase }, { on := 1, ground := Ground.phase }, { on := 2, ground := Ground.phase }, { on := 3, ground := Ground.phase }]).op, none⟩
    ] (by kernel_rfl)))
    (.seq (.live [5, 6, 13, 14, 15, 21] (.region 6 [
      ⟨(opMove (some 20) (.tmp 7) 25 "page.go:148" #[]).op, none⟩,
      ⟨(opNe (some 21) 25 (.slice 5) Try.underlying25 (.tmp 20) (.const (Value.slice none 0 0)) (.inl rfl) 25 4 "page.go:148" #[{ on := 0, ground := Ground.data }]).op, none⟩
    ] (by kernel_rfl)))
    (.cond (.tmp 21)
      (.live [5, 13, 14, 15] (.region 7 [
        ⟨(opMove (some 22) (.tmp 5) 38 "page.go:149" #[]).op, none⟩,
        ⟨(opMove (some 23) (.tmp 6) 3 "page.go:149" #[]).op, none⟩,
        ⟨(opBuildSlice (some 24) 38 1 [(0, (.tmp 23))] 3 1 8 (.int .i64 0) el38 (by kernel_rfl) (by decide) 38 "page.go:149" #[{ on := 1, ground := Ground.data }]).op, none⟩,
        ⟨(opAppend (some 25) (.tmp 22) (.tmp 24) 38 38 3 1 8 (.int .i64 0) el38 (.slice 3) Try.underlying38 rfl 38 "page.go:149" #[{ on := 0, ground := Ground.data }, { on := 2, ground := Ground.data }]).op, none⟩,
        ⟨(opAssign (some 5) (.tmp 25) 38 "page.go:149" #[{ on := 3, ground := Ground.data }, { on := 3, ground := Ground.chain }, { on := 0, ground := Ground.phase }, { on := 1, ground := Ground.phase }, { on := 2, ground := Ground.phase }, { on := 3, ground := Ground.phase }]).op, none⟩
      ] (by kernel_rfl)))
      .skip))))
  (.live [5, 13, 14, 15] (.region 8 [
    ⟨(opBin (some 26) .add 3 (.tmp 15) (.const (Value.int IntKind.i64 1)) 3 3 "page.go:147" #[]).op, none⟩,
    ⟨(opMove (some 15) (.tmp 26) 3 "page.go:147" #[{ on := 0, ground := Ground.data }]).op, none⟩
  ] (by kernel_rfl))))))

/-- What follows a loop. -/
noncomputable def f17_r0 : Sim Try.prog :=
  (.seq (.live [2] (.region 9 [
    ⟨(opMove (some 27) (.tmp 5) 38 "page.go:152" #[]).op, none⟩,
    ⟨(opAssign (some 2) (.tmp 27) 38 "page.go:152" #[{ on := 0, ground := Ground.data }, { on := 0, ground := Ground.phase }]).op, none⟩
  ] (by kernel_rfl)))
  (.live [2] .ret))

noncomputable def f17_b : Sim Try.prog :=
  (.seq (.live [0] (.region 0 [
    ⟨(opAssign (some 2) (.const (Value.slice none 0 0)) 38 "page.go:144" #[]).op, none⟩
  ] (by kernel_rfl)))
  (.seq (.live [3] (.region 1 [
    ⟨(opMove (some 9) (.tmp 0) 25 "page.go:145" #[]).op, none⟩,
    ⟨(opCallP p21 (some 10) [(.tmp 9)] #[25] 45 "page.go:145" #[{ on := 0, ground := Ground.data }]).op, none⟩,
    ⟨(opMove (some 8) (.tmp 10) 45 "page.go:145" #[{ on := 1, ground := Ground.data }]).op, none⟩,
    ⟨(opExtract (some 11) (.tmp 8) 0 44 "page.go:145" #[{ on := 2, ground := Ground.data }]).op, none⟩,
    ⟨(opExtract (some 12) (.tmp 8) 1 4 "page.go:145" #[{ on := 2, ground := Ground.data }, { on := 5, ground := (Ground.gcOnly Departure.lateStores) }]).op, none⟩,
    ⟨(opAssign (some 3) (.tmp 11) 44 "page.go:145" #[{ on := 3, ground := Ground.data }, { on := 1, ground := Ground.chain }, { on := 0, ground := Ground.phase }, { on := 1, ground := Ground.phase }, { on := 2, ground := Ground.phase }, { on := 3, ground := Ground.phase }, { on := 4, ground := (Ground.textOnly Departure.lateStores) }]).op, none⟩,
    ⟨(opAssign (some 4) (.tmp 12) 4 "page.go:145" #[{ on := 4, ground := Ground.data }, { on := 5, ground := Ground.chain }, { on := 0, ground := Ground.phase }, { on := 1, ground := Ground.phase }, { on := 2, ground := Ground.phase }, { on := 3, ground := Ground.phase }, { on := 4, ground := Ground.phase }, { on := 5, ground := Ground.phase }]).op, none⟩
  ] (by kernel_rfl)))
  (.seq (.live [3, 5] (.region 2 [
    ⟨(opAssign (some 5) (.const (Value.slice none 0 0)) 38 "page.go:146" #[]).op, none⟩
  ] (by kernel_rfl)))
  (.seq (.seq (.live [5, 13, 14, 15] (.region 3 [
    ⟨(opMove (some 13) (.tmp 3) 44 "page.go:147" #[]).op, none⟩,
    ⟨(opLen (some 14) (.tmp 13) 44 (.slice 25) Try.underlying44 3 "page.go:147" #[{ on := 0, ground := Ground.data }]).op, none⟩,
    ⟨(opMove (some 15) (.const (Value.int IntKind.i64 0)) 3 "page.go:147" #[]).op, none⟩
  ] (by kernel_rfl)))
  (.block 0 (.loop [5, 13, 14, 15] f17_l0)))
  f17_r0))))

noncomputable def f17 : Fun Try.prog where
  id := 17
  fn := Try.f17
  hf := Try.func17
  hname := by kernel_rfl
  body := f17_b
  hbody := by kernel_rfl
  res := [rTmp 2]
  hres := by kernel_rfl
  n := 28
  hn := by kernel_rfl

end Go.Proofs.Ytblliolkgkgppaa.V

/- What the functions' runs come to; the right sides were printed by a tool, Lean checks them. -/
set_option linter.unusedVariables false
set_option maxRecDepth 100000
namespace Go.Proofs.Ytblliolkgkgppaa.V
open Go Go.V Go.RowKit

theorem get_run (F : Nat) (z : Bool) (l : List (List AV)) (i : Int) :
    (f15.run F [.ns z 1 l, .int .i64 i] ⟨[], []⟩ : Ans) =
    branch (AV.bool (byOk l))
      (branch (AV.bool (decide (i < (0 : Int)))) (some (Fin.ret (AV.tup [AV.nilsl, AV.bool false]), St.mk [] []))
        (branch (AV.bool (decide (i ≥ (↑(ofA (nR l)).length : Int))))
          (some (Fin.ret (AV.tup [AV.nilsl, AV.bool false]), St.mk [] []))
          (branch (AV.bool (inR (ofA (nR l)) i))
            (branch (AV.bool ((LD.one (LT.ns 1)).is (V.rowAt (ofA (nR l)) i)))
              (branch (AV.bool (nilA (V.rowAt (ofA (nR l)) i)))
                (some (Fin.ret (AV.tup [AV.nilsl, AV.bool false]), St.mk [] []))
                (branch (AV.bool (inR (ofA (nR l)) i))
                  (branch (AV.bool ((LD.one (LT.ns 1)).is (V.rowAt (ofA (nR l)) i)))
                    (some
                      (Fin.ret
                          (AV.tup
                            [AV.ns (nilA (V.rowAt (ofA (nR l)) i)) 1 (rwA (V.rowAt (ofA (nR l)) i)), AV.bool true]),
                        St.mk [] []))
                    none)
                  none))
              none)
            none)))
      none := by kernel_rfl

theorem right_run (F : Nat) (z : Bool) (l : List (List AV)) :
    (f16.run F [.ns z 1 l] ⟨[], []⟩ : Ans) =
    branch (AV.bool (byOk l)) (some (Fin.ret (AV.bool (ofB (nR l))), St.mk [] [])) none := by kernel_rfl

theorem room_run (F : Nat) (z : Bool) (l : List (List AV)) :
    (f14.run F [.ns z 1 l] ⟨[], []⟩ : Ans) =
    branch (AV.bool (byOk l))
      (branch (AV.bool !ofB (nR l)) (some (Fin.ret (AV.int IntKind.i64 (0 : Int)), St.mk [] []))
        (branch (AV.bool (true && okS (ofA (nR l))))
          (branch (AV.bool ((ofA (nR l)).any (prd (27 : FuncId))))
            (branch (AV.bool (okS (ofA (nR l)) && fit (szN (sR (ofA (nR l))))))
              (branch
                (AV.bool
                  (decide
                    (leastI false
                        (IntKind.i64.wrap (IntKind.i64.wrap ((256 : Int) - (↑(szN (sR (ofA (nR l)))) : Int)) - (0 : Int)))
                        (200 : Int) <
                      (0 : Int))))
                (some (Fin.ret (AV.int IntKind.i64 (-1 : Int)), St.mk [] []))
                (branch (AV.bool (decide ((↑(ofA (nR l)).length : Int) > (250 : Int))))
                  (some
                    (Fin.ret
                        (AV.int IntKind.i64
                          (leastI false
                            (IntKind.i64.wrap
                              (IntKind.i64.wrap ((256 : Int) - (↑(szN (sR (ofA (nR l)))) : Int)) - (0 : Int)))
                            (200 : Int))),
                      St.mk [] []))
                  (some
                    (Fin.ret
                        (AV.int IntKind.i64
                          (leastI false
                            (IntKind.i64.wrap
                              (IntKind.i64.wrap ((256 : Int) - (↑(szN (sR (ofA (nR l)))) : Int)) - (0 : Int)))
                            (200 : Int))),
                      St.mk [] []))))
              none)
            (branch (AV.bool (okS (ofA (nR l)) && fit (szN (sR (ofA (nR l))))))
              (branch
                (AV.bool
                  (decide
                    (leastI false
                        (IntKind.i64.wrap (IntKind.i64.wrap ((256 : Int) - (↑(szN (sR (ofA (nR l)))) : Int)) - (1 : Int)))
                        (200 : Int) <
                      (0 : Int))))
                (some (Fin.ret (AV.int IntKind.i64 (-1 : Int)), St.mk [] []))
                (branch (AV.bool (decide ((↑(ofA (nR l)).length : Int) > (250 : Int))))
                  (some (Fin.ret (AV.int IntKind.i64 (-1 : Int)), St.mk [] []))
                  (some
                    (Fin.ret
                        (AV.int IntKind.i64
                          (leastI false
                            (IntKind.i64.wrap
                              (IntKind.i64.wrap ((256 : Int) - (↑(szN (sR (ofA (nR l)))) : Int)) - (1 : Int)))
                            (200 : Int))),
                      St.mk [] []))))
              none))
          none))
      none := by kernel_rfl

theorem slots_run (F : Nat) (z : Bool) (l : List (List AV)) :
    (f17.run F [.ns z 1 l] ⟨[], []⟩ : Ans) =
    branch (AV.bool (byOk l))
      (loopRun (f17_l0.run F) [5, 13, 14, 15]
        (Cont.block 0 (Cont.then (f17_r0.run F (f17.leaveK Fun.done)) (f17.leaveK Fun.done))) F
        (Env.mk 28
          [(5, AV.nilsl), (13, AV.ns (List.isEmpty (ofS (nR l))) 1 (ofA (nR l))),
            (14, AV.int IntKind.i64 (↑(ofA (nR l)).length : Int)), (15, AV.int IntKind.i64 (0 : Int))])
        (St.mk [] []))
      none := by kernel_rfl

theorem slots_round0 (F m : Nat) (K : Cont) (z : Bool) (l : List (List AV)) (i e : Int) :
    (loopRun (f17_l0.run F) [5, 13, 14, 15] K m.succ (Env.mk 28 [(5, .nilsl), (13, .ns z 1 l), (14, .int .i64 e), (15, .int .i64 i)]) ⟨[], []⟩ : Ans) =
    branch (AV.bool (decide (i < e)))
      (branch (AV.bool (inR l i))
        (branch (AV.bool ((LD.one (LT.ns 1)).is (V.rowAt l i)))
          (branch (AV.bool !nilA (V.rowAt l i))
            (loopRun (f17_l0.run F) [5, 13, 14, 15] K m
              (Env.mk 28
                [(5, AV.lg 0 1 [[AV.int IntKind.i64 i]]), (13, AV.ns z 1 l),
                  (14, AV.int IntKind.i64 e), (15, AV.int IntKind.i64 (IntKind.i64.wrap (i + (1 : Int))))])
              (St.mk [] [(1, 1)]))
            (loopRun (f17_l0.run F) [5, 13, 14, 15] K m
              (Env.mk 28
                [(5, AV.nilsl), (13, AV.ns z 1 l), (14, AV.int IntKind.i64 e),
                  (15, AV.int IntKind.i64 (IntKind.i64.wrap (i + (1 : Int))))])
              (St.mk [] [])))
          none)
        none)
      (K (AX.exit 0) (Env.mk 28 [(5, AV.nilsl)]) (St.mk [] [])) := by kernel_rfl

theorem slots_round (F m : Nat) (K : Cont) (z : Bool) (l s : List (List AV)) (i e : Int) :
    (loopRun (f17_l0.run F) [5, 13, 14, 15] K m.succ (Env.mk 28 [(5, .lg 0 1 s), (13, .ns z 1 l), (14, .int .i64 e), (15, .int .i64 i)]) ⟨[], [(1, s.length)]⟩ : Ans) =
    branch (AV.bool (decide (i < e)))
      (branch (AV.bool (inR l i))
        (branch (AV.bool ((LD.one (LT.ns 1)).is (V.rowAt l i)))
          (branch (AV.bool !nilA (V.rowAt l i))
            (if
                some (1, s.length) = some (1, s.length) ∧
                  (s.length + 1) * 8 ≤ 140737488355328 then
              loopRun (f17_l0.run F) [5, 13, 14, 15] K m
                (Env.mk 28
                  [(5, AV.lg 0 1 (s ++ [[AV.int IntKind.i64 i]])),
                    (13, AV.ns z 1 l), (14, AV.int IntKind.i64 e),
                    (15, AV.int IntKind.i64 (IntKind.i64.wrap (i + (1 : Int))))])
                (St.mk [] [(1, s.length + 1)])
            else none)
            (loopRun (f17_l0.run F) [5, 13, 14, 15] K m
              (Env.mk 28
                [(5, AV.lg 0 1 s), (13, AV.ns z 1 l),
                  (14, AV.int IntKind.i64 e), (15, AV.int IntKind.i64 (IntKind.i64.wrap (i + (1 : Int))))])
              (St.mk [] [(1, s.length)])))
          none)
        none)
      (K (AX.exit 0) (Env.mk 28 [(5, AV.lg 0 1 s)])
        (St.mk [] [(1, s.length)])) := by kernel_rfl

theorem slots_out (F : Nat) (x : AV) (st : St) :
    ((Cont.block 0 (Cont.then (f17_r0.run F (f17.leaveK Fun.done)) (f17.leaveK Fun.done))) (.exit 0) (Env.mk 28 [(5, x)]) st : Ans) =
    some (Fin.ret x, st) := by kernel_rfl

end Go.Proofs.Ytblliolkgkgppaa.V
