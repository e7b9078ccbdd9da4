/- Words in which runs are told: tests on what is not known. -/
import Derived.Test.YtjdpfblmhahfkaaVG
set_option linter.unusedVariables false
namespace Go.V

def onSome {α : Type} (o : Option α) (n : Ans) (s : α → Ans) : Ans :=
  match o with
  | none => n
  | some x => s x
def onCons {α : Type} (l : List α) (n : Ans) (s : α → List α → Ans) : Ans :=
  match l with
  | [] => n
  | x :: r => s x r
@[simp] theorem onSome_some {α : Type} (x : α) (n : Ans) (s : α → Ans) : onSome (some x) n s = s x := rfl
@[simp] theorem onSome_none {α : Type} (n : Ans) (s : α → Ans) : onSome none n s = n := rfl
@[simp] theorem onCons_cons {α : Type} (x : α) (r : List α) (n : Ans) (s : α → List α → Ans) : onCons (x :: r) n s = s x r := rfl
@[simp] theorem onCons_nil {α : Type} (n : Ans) (s : α → List α → Ans) : onCons [] n s = n := rfl
@[simp] theorem onInt_int (k : IntKind) (n : Int) (s : IntKind → Int → Ans) : onInt (.int k n) s = s k n := rfl
@[simp] theorem onStr_str (b : ByteArray) (s : ByteArray → Ans) : onStr (.str b) s = s b := rfl
@[simp] theorem onBool_bool (b : Bool) (s : Bool → Ans) : onBool (.bool b) s = s b := rfl
@[simp] theorem branch_true (y n : Ans) : branch (.bool true) y n = y := rfl
@[simp] theorem branch_false (y n : Ans) : branch (.bool false) y n = n := rfl
theorem branch_of {b : Bool} {y n : Ans} (h : b = true) : branch (.bool b) y n = y := by rw [h]; rfl
theorem branch_not {b : Bool} {y n : Ans} (h : b = false) : branch (.bool b) y n = n := by rw [h]; rfl
theorem branch_ite (b : Bool) (y n : Ans) : branch (.bool b) y n = if b then y else n := by cases b <;> rfl

/-- An element of a list of rows made of a plain list. -/
theorem elemAt_map {α : Type} (f : α → List AV) (l : List α) (i : Int) (h0 : 0 ≤ i) (h : i.toNat < l.length) : elemAt (l.map f) i = some (f l[i.toNat]) := by
  simp [elemAt, h0, h]
theorem elemAt_nat {α : Type} (f : α → List AV) (l : List α) (i : Nat) (h : i < l.length) : elemAt (l.map f) (i : Int) = some (f l[i]) := by
  simp [elemAt, h]

section
variable {P : Program}

/-- A function whose answer hangs on its arguments alone, told by a plain function of what the arguments stand for. -/
def Fun.pureOf {α : Type} (f : Fun P) (dec : List AV → Option α) (enc : α → List AV) (hde : ∀ l a, dec l = some a → l = enc a) (g : α → AV)
    (hs : ∀ a, frz (g a) = g a ∧ ∀ n m, Scoped n m (g a)) (hrun : ∀ a, ∃ F, ∀ st, f.run F (enc a) st = some (.ret (g a), st)) : POrc P :=
  f.pure (fun l => (dec l).map g) fun args r h => by
    cases hd : dec args with
    | none => rw [hd] at h; cases h
    | some a =>
      rw [hd] at h
      obtain rfl : g a = r := by simpa using h
      obtain ⟨F, hF⟩ := hrun a
      refine ⟨fun n m _ => (hs a).2 n m, F, fun st => ⟨g a, [], [], (hs a).1, ?_⟩⟩
      rw [hde args a hd, hF st]
      simp

/-- The same, where it makes things that it doesn't hand back. -/
def Fun.pureOfX {α : Type} (f : Fun P) (dec : List AV → Option α) (enc : α → List AV) (hde : ∀ l a, dec l = some a → l = enc a) (g : α → AV)
    (hs : ∀ a, ∀ n m, Scoped n m (g a)) (hrun : ∀ a, ∃ F, ∀ st, ∃ r' xo xt, frz r' = g a ∧ f.run F (enc a) st = some (.ret r', ⟨st.objs ++ xo, st.tk ++ xt⟩)) : POrc P :=
  f.pure (fun l => (dec l).map g) fun args r h => by
    cases hd : dec args with
    | none => rw [hd] at h; cases h
    | some a =>
      rw [hd] at h
      obtain rfl : g a = r := by simpa using h
      obtain ⟨F, hF⟩ := hrun a
      refine ⟨fun n m _ => hs a n m, F, fun st => ?_⟩
      rw [hde args a hd]
      exact hF st

/-- The same, where something must hold of the arguments. -/
def Fun.pureIf {α : Type} (f : Fun P) (dec : List AV → Option α) (enc : α → List AV) (hde : ∀ l a, dec l = some a → l = enc a) (pre : α → Bool) (g : α → AV)
    (hs : ∀ a, pre a = true → frz (g a) = g a ∧ ∀ n m, Scoped n m (g a)) (hrun : ∀ a, pre a = true → ∃ F, ∀ st, f.run F (enc a) st = some (.ret (g a), st)) : POrc P where
  id := f.id
  fn := f.fn
  hf := f.hf
  hname := f.hname
  hb := by rw [f.hbody]; rfl
  F args k := match dec args with
    | some a => match pre a with
      | true => k (g a)
      | false => none
    | none => none
  sound k args fin h := by
    split at h
    · rename_i a hd
      split at h
      · rename_i hp
        refine ⟨g a, h, fun st => ?_⟩
        obtain ⟨F, hF⟩ := hrun a hp
        have h4 := hF st
        rw [← hde args a hd] at h4
        have := forget (xo := []) (xt := []) (f.sound (by rw [h4, List.append_nil, List.append_nil] : f.run F args st = some (.ret (g a), ⟨st.objs ++ [], st.tk ++ []⟩))) rfl (.inl rfl) (fun _ => by rw [(hs a hp).1]; exact (hs a hp).2 _ _)
        rwa [(hs a hp).1] at this
      · cases h
    · cases h

/-- The same, where it makes things that it doesn't hand back. -/
def Fun.pureIfX {α : Type} (f : Fun P) (dec : List AV → Option α) (enc : α → List AV) (hde : ∀ l a, dec l = some a → l = enc a) (pre : α → Bool) (g : α → AV)
    (hs : ∀ a n m, Scoped n m (g a)) (hrun : ∀ a, pre a = true → ∃ F, ∀ st, ∃ r' xo xt, frz r' = g a ∧ f.run F (enc a) st = some (.ret r', ⟨st.objs ++ xo, st.tk ++ xt⟩)) : POrc P where
  id := f.id
  fn := f.fn
  hf := f.hf
  hname := f.hname
  hb := by rw [f.hbody]; rfl
  F args k := match dec args with
    | some a => match pre a with
      | true => k (g a)
      | false => none
    | none => none
  sound k args fin h := by
    split at h
    · rename_i a hd
      split at h
      · rename_i hp
        refine ⟨g a, h, fun st => ?_⟩
        obtain ⟨F, hF⟩ := hrun a hp
        obtain ⟨r', xo, xt, h1, h4⟩ := hF st
        rw [← hde args a hd] at h4
        have := forget (f.sound h4) rfl (.inl rfl) (fun _ => by rw [h1]; exact hs a _ _)
        rwa [h1] at this
      · cases h
    · cases h

/-- A function told by what it answers and what it makes of the state. -/
def Fun.effIf {α : Type} (f : Fun P) (dec : List AV → Option α) (enc : α → List AV) (hde : ∀ l a, dec l = some a → l = enc a) (pre : α → St → Bool) (g : α → St → AV × St)
    (hrun : ∀ a st, pre a st = true → ∃ F, f.run F (enc a) st = some (.ret (g a st).1, (g a st).2)) : OrcS P where
  id := f.id
  fn := f.fn
  hf := f.hf
  hname := f.hname
  hb := by rw [f.hbody]; rfl
  sem args st k := match dec args with
    | some a => match pre a st with
      | true => k (.ret (g a st).1) (g a st).2
      | false => none
    | none => none
  sound k args st fin h := by
    split at h
    · rename_i a hd
      split at h
      · rename_i hp
        obtain ⟨F, hF⟩ := hrun a st hp
        rw [← hde args a hd] at hF
        exact ⟨_, _, h, f.sound hF⟩
      · cases h
    · cases h

/-- A callee that looks at frozen arguments alone. -/
theorem frzs_all {g : Gh} {w : World} : ∀ {xs : List AV} {vs : List Value}, RelAll g w xs vs → RelAll g w (xs.map frz) vs
  | [], _, h => h
  | x :: xs, _, ⟨v, vr, e, h1, h2⟩ => ⟨v, vr, e, frz_rel h1, frzs_all h2⟩
def POrc.fz (O : POrc P) : POrc P where
  id := O.id
  fn := O.fn
  hf := O.hf
  hname := O.hname
  hb := O.hb
  F args k := O.F (args.map frz) k
  sound k args fin h := by
    obtain ⟨r, h1, h2⟩ := O.sound _ _ _ h
    exact ⟨r, h1, fun st g w vals hr hs => h2 st g w vals (frzs_all hr) hs⟩

theorem scoped_ints (n m : Nat) (k : IntKind) : ∀ l : List Int, ScopedR n m (l.map fun x => [.int k x])
  | [] => trivial
  | x :: l => ⟨⟨trivial, trivial⟩, scoped_ints n m k l⟩

def dec0 : List AV → Option Unit
  | [] => some ()
  | _ => none
def dec1i : List AV → Option Int
  | [.int .i64 a] => some a
  | _ => none
def dec2i : List AV → Option (Int × Int)
  | [.int .i64 a, .int .i64 b] => some (a, b)
  | _ => none
theorem dec0_enc (l : List AV) (a : Unit) (h : dec0 l = some a) : l = [] := by
  unfold dec0 at h; split at h <;> first | rfl | cases h
theorem dec1i_enc (l : List AV) (a : Int) (h : dec1i l = some a) : l = [.int .i64 a] := by
  unfold dec1i at h; split at h <;> first | (cases h; rfl) | cases h
theorem dec2i_enc (l : List AV) (a : Int × Int) (h : dec2i l = some a) : l = [.int .i64 a.1, .int .i64 a.2] := by
  unfold dec2i at h; split at h <;> first | (cases h; rfl) | cases h
end

/-! ### Numbers that fit -/
theorem wrapS {n : Int} (h1 : -9223372036854775808 ≤ n) (h2 : n ≤ 9223372036854775807) : IntKind.i64.wrap n = n := by
  unfold IntKind.wrap
  simp only [IntKind.bits, IntKind.signed, Bool.true_and]
  split
  · rename_i h; simp only [ge_iff_le, decide_eq_true_eq] at h; omega
  · rename_i h; simp only [ge_iff_le, decide_eq_true_eq] at h; omega
theorem wrapU {k : IntKind} {n : Int} (hs : k.signed = false) (h1 : 0 ≤ n) (h2 : n < 2 ^ k.bits) : k.wrap n = n := by
  unfold IntKind.wrap
  simp only [hs, Bool.false_and, Bool.false_eq_true, if_false]
  exact Int.emod_eq_of_lt h1 h2
end Go.V
