/- Equality of structs whose fields are numbers, bools, texts. -/
import Derived.Test.YtjdpfblmhahfkaaVA
import Derived.Laws.StructEq
set_option linter.unusedVariables false
set_option linter.unusedSimpArgs false
namespace Go.V
section
variable {P : Program}

def kindB (P : Program) (t : TypeId) (c : Nat) : Bool :=
  match P.underlying t with
  | some (.int _) => Nat.beq c 0
  | some .bool => Nat.beq c 1
  | some .string => Nat.beq c 2
  | _ => false
def eqFlat (P : Program) : List Field → List (Nat × Nat) → Bool
  | [], [] => true
  | f :: fs, x :: l => !(f.name == "_") && (Nat.beq f.offset x.1 && (kindB P f.type x.2 && eqFlat P fs l))
  | _, _ => false
/-- A struct that is compared field by field: where each lies, and what it is (0: a number, 1: a bool, 2: a text). -/
def eqFlatB (P : Program) (t : TypeId) (l : List (Nat × Nat)) : Bool :=
  match P.underlying t with
  | some (.struct fs) => !P.stoodInHeld t && (!P.eqGuardType P.depth t && eqFlat P fs.toList l)
  | _ => false

def eqCell (c : Nat) (x y : Option AV) : Option Bool :=
  match x, y with
  | some (.int k a), some (.int k' b) => if k = k' ∧ c = 0 then some (a == b) else none
  | some (.bool a), some (.bool b) => if c = 1 then some (a == b) else none
  | some (.str a), some (.str b) => if c = 2 then some (a.toList == b.toList) else none
  | _, _ => none
def eqCells (xs ys : List AV) : List (Nat × Nat) → Option Bool
  | [] => some true
  | x :: l => match eqCell x.2 xs[x.1]? ys[x.1]? with
    | some b => match eqCells xs ys l with
      | some r => some (b && r)
      | none => none
    | none => none
def aeqS (l : List (Nat × Nat)) (x y : AV) (k : Bool → Ans) : Ans :=
  match x, y with
  | .agg xs, .agg ys => match eqCells xs ys l with
    | some b => k b
    | none => none
  | _, _ => none

theorem RelAll.at {g : Gh} {w : World} : ∀ {as : List AV} {vs : List Value} {i : Nat} {a : AV}, RelAll g w as vs → as[i]? = some a → ∃ v, vs[i]? = some v ∧ Rel g w a v
  | [], _, i, a, _, h => by simp at h
  | x :: as, _, 0, a, ⟨v, vr, rfl, h1, h2⟩, h => by simp at h; subst h; exact ⟨v, by simp, h1⟩
  | x :: as, _, i + 1, a, ⟨v, vr, rfl, h1, h2⟩, h => by
    obtain ⟨u, k1, k2⟩ := RelAll.at h2 (by simpa using h)
    exact ⟨u, by simpa using k1, k2⟩

theorem part_one {t : TypeId} {c : Nat} (h : kindB P t c = true) {vs : Array Value} {o : Nat} {v : Value} (hv : vs.toList[o]? = some v) (w : World) : (part t vs o).run P w = .ok v w := by
  have hv' : vs[o]? = some v := by simpa using hv
  unfold kindB at h
  unfold part
  split at h <;> first
    | (rename_i hd; simp [run_isAgg hd, isAggD, hv'])
    | cases h

theorem eqFields_run {g : Gh} {w : World} {xs ys : List AV} {vs us : Array Value} (hx : RelAll g w xs vs.toList) (hy : RelAll g w ys us.toList) (d : Nat) : ∀ (fs : List Field) (l : List (Nat × Nat)) (r : Bool), eqFlat P fs l = true → eqCells xs ys l = some r →
    (Op.eqFields (d + 1) vs us fs).run P w = .ok r w
  | [], [], r, _, h => by simp only [eqCells, Option.some.injEq] at h; subst h; simp [Op.eqFields]
  | [], _ :: _, r, h, _ => by simp [eqFlat] at h
  | _ :: _, [], r, h, _ => by simp [eqFlat] at h
  | f :: fs, (o, c) :: l, r, h, hr => by
    simp only [eqFlat, Bool.and_eq_true] at h
    obtain ⟨h1, h2, h3, h4⟩ := h
    simp only [eqCells] at hr
    cases h5 : eqCell c xs[o]? ys[o]? with
    | none => rw [h5] at hr; cases hr
    | some b =>
      rw [h5] at hr
      simp only at hr
      cases h6 : eqCells xs ys l with
      | none => rw [h6] at hr; cases hr
      | some r' =>
        rw [h6] at hr
        simp only [Option.some.injEq] at hr
        subst hr
        have ih := eqFields_run hx hy d fs l r' h4 h6
        have ho : f.offset = o := by simpa using h2
        have key : ∃ a v, (part f.type vs f.offset).run P w = .ok a w ∧ (part f.type us f.offset).run P w = .ok v w ∧ (Op.equalIn (d + 1) f.type a v).run P w = .ok b w := by
          rw [ho]
          unfold eqCell at h5
          split at h5
          · rename_i k a k' b' e1 e2
            split at h5
            · rename_i hk
              obtain ⟨rfl, rfl⟩ := hk
              simp only [Option.some.injEq] at h5
              obtain ⟨v, p1, p2⟩ := RelAll.at hx e1
              obtain ⟨u, q1, q2⟩ := RelAll.at hy e2
              obtain rfl : v = .int k a := p2
              obtain rfl : u = .int k b' := q2
              refine ⟨_, _, part_one h3 p1 w, part_one h3 q1 w, ?_⟩
              unfold kindB at h3
              split at h3
              · rename_i hd; rw [← h5]; exact run_equalIn_int w d f.type _ _ a b' hd
              · cases h3
              · cases h3
              · cases h3
            · cases h5
          · rename_i a b' e1 e2
            split at h5
            · rename_i hk
              subst hk
              simp only [Option.some.injEq] at h5
              obtain ⟨v, p1, p2⟩ := RelAll.at hx e1
              obtain ⟨u, q1, q2⟩ := RelAll.at hy e2
              obtain rfl : v = .bool a := p2
              obtain rfl : u = .bool b' := q2
              refine ⟨_, _, part_one h3 p1 w, part_one h3 q1 w, ?_⟩
              unfold kindB at h3
              split at h3
              · cases h3
              · rename_i hd; rw [← h5]; exact run_equalIn_bool' w d f.type a b' hd
              · cases h3
              · cases h3
            · cases h5
          · rename_i a b' e1 e2
            split at h5
            · rename_i hk
              subst hk
              simp only [Option.some.injEq] at h5
              obtain ⟨v, p1, p2⟩ := RelAll.at hx e1
              obtain ⟨u, q1, q2⟩ := RelAll.at hy e2
              obtain rfl : v = .string a := p2
              obtain rfl : u = .string b' := q2
              refine ⟨_, _, part_one h3 p1 w, part_one h3 q1 w, ?_⟩
              unfold kindB at h3
              split at h3
              · cases h3
              · cases h3
              · rename_i hd; rw [← h5]; exact run_equalIn_string w d f.type a b' hd
              · cases h3
            · cases h5
          · cases h5
        obtain ⟨a, v, p1, p2, p3⟩ := key
        have hn : f.name ≠ "_" := by simpa using h1
        rw [Op.eqFields]
        simp only [if_pos hn, Sem.run_bind, p1, p2, p3, Result.andThen_ok]
        cases b
        · simp
        · simpa using ih

theorem aeqS_run {t : TypeId} {l : List (Nat × Nat)} (ht : eqFlatB P t l = true) {g : Gh} {w : World} {X Y : AV} {a b : Value} (hx : Rel g w X a) (hy : Rel g w Y b) {k : Bool → Ans} {fin : Fin × St} (h : aeqS l X Y k = some fin) (x y : Operand) :
    ∃ r, k r = some fin ∧ (do eqGuard .eql t x y a b; binOp .eql t a b : Sem Value).run P w = .ok (.bool r) w ∧ (do eqGuard .neq t x y a b; binOp .neq t a b : Sem Value).run P w = .ok (.bool !r) w := by
  unfold aeqS at h
  split at h
  · rename_i xs ys
    split at h
    · rename_i r hr
      obtain ⟨vs, rfl, h1, _⟩ := hx
      obtain ⟨us, rfl, h2, _⟩ := hy
      unfold eqFlatB at ht
      split at ht
      · rename_i fs hu
        simp only [Bool.and_eq_true, Bool.not_eq_true'] at ht
        obtain ⟨t1, t2, t3⟩ := ht
        have hf : P.fieldsOf t = fs := by simp [Program.fieldsOf, hu]
        have he : (Op.equalIn 10000 t (.agg vs) (.agg us)).run P w = .ok r w := by
          rw [run_equalIn_struct w 9999 t vs us (by rw [hf]; exact hu) t1, hf]
          exact eqFields_run h1 h2 9998 fs.toList l r t3 hr
        refine ⟨r, h, ?_, ?_⟩
        · simp only [Sem.run_bind, run_eqGuard_agg w .eql t x y vs us t2, Result.andThen_ok, run_eql_struct, he]
        · simp only [Sem.run_bind, run_eqGuard_agg w .neq t x y vs us t2, Result.andThen_ok, run_neq_struct, he]
      · cases ht
    · cases h
  · cases h

def opEqS (dst : Option Tmp) (T : TypeId) (l : List (Nat × Nat)) (ht : eqFlatB P T l = true) (x y : Operand) (T' : TypeId) (ty : TypeId) (pos : String) (after : Array Edge) : PSim P :=
  PSim.quiet (mkOp dst (.binOp .eql T x y T') ty pos after) rfl [x, y] (fun ev k => aeqS l (ev x) (ev y) fun b => k (.bool b)) (fun ev ev' k h => by simp only [h x (by simp), h y (by simp)]) fun ev k fin h g w a st he hs => by
    obtain ⟨r, h1, h2, h3⟩ := aeqS_run (P := P) ht (he x (by simp)) (he y (by simp)) h x y
    exact ⟨_, _, h1, by simp only [execOp, mkOp]; rw [Sem.run_bind, h2]; rfl, rfl⟩
def opNeS (dst : Option Tmp) (T : TypeId) (l : List (Nat × Nat)) (ht : eqFlatB P T l = true) (x y : Operand) (T' : TypeId) (ty : TypeId) (pos : String) (after : Array Edge) : PSim P :=
  PSim.quiet (mkOp dst (.binOp .neq T x y T') ty pos after) rfl [x, y] (fun ev k => aeqS l (ev x) (ev y) fun b => k (.bool !b)) (fun ev ev' k h => by simp only [h x (by simp), h y (by simp)]) fun ev k fin h g w a st he hs => by
    obtain ⟨r, h1, h2, h3⟩ := aeqS_run (P := P) ht (he x (by simp)) (he y (by simp)) h x y
    exact ⟨_, _, h1, by simp only [execOp, mkOp]; rw [Sem.run_bind, h3]; rfl, rfl⟩
end
end Go.V
