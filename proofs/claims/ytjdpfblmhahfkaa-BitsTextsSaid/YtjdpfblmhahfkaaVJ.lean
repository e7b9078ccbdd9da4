/- Callees told again: arguments and answers that are read no deeper than they must; rows of bytes. -/
import Derived.Test.YtjdpfblmhahfkaaVI
import Derived.Test.YtjdpfblmhahfkaaVF
set_option linter.unusedVariables false
set_option linter.unusedSimpArgs false
namespace Go.V
section
variable {P : Program}

/-- A test that the core never runs (great numbers beside unknown ones would take it forever). -/
noncomputable def cdec (p : Prop) : Bool := @decide p (Classical.propDecidable p)
theorem cdec_iff {p : Prop} : cdec p = true ↔ p := by simp [cdec]

/-- A callee known by another, its arguments read anew. -/
def POrc.re {α : Type} (p : POrc P) (dec : List AV → Option α) (pre : α → Bool) (g : α → AV)
    (h : ∀ args a, dec args = some a → pre a = true → ∀ k, p.F args k = k (g a)) : POrc P where
  id := p.id
  fn := p.fn
  hf := p.hf
  hname := p.hname
  hb := p.hb
  F args k := match dec args with
    | some a => match pre a with
      | true => k (g a)
      | false => none
    | none => none
  sound k args fin h' := by
    split at h'
    · rename_i a hd
      split at h'
      · rename_i hp
        exact p.sound k args fin (by rw [h args a hd hp]; exact h')
      · cases h'
    · cases h'

theorem pureIf_fz {α : Type} {f : Fun P} {dec : List AV → Option α} {enc : α → List AV} {hde} {pre : α → Bool} {g : α → AV} {hs} {hr} {args : List AV} {a : α} (hd : dec (args.map frz) = some a) (hp : pre a = true) (k : AV → Ans) :
    (Fun.pureIf f dec enc hde pre g hs hr).fz.F args k = k (g a) := by
  simp only [POrc.fz, Fun.pureIf, hd, hp]
theorem pureIfX_fz {α : Type} {f : Fun P} {dec : List AV → Option α} {enc : α → List AV} {hde} {pre : α → Bool} {g : α → AV} {hs} {hr} {args : List AV} {a : α} (hd : dec (args.map frz) = some a) (hp : pre a = true) (k : AV → Ans) :
    (Fun.pureIfX f dec enc hde pre g hs hr).fz.F args k = k (g a) := by
  simp only [POrc.fz, Fun.pureIfX, hd, hp]
/-- A callee told by what is known of arguments and state. -/
def Fun.cps (f : Fun P) (sem : List AV → St → (Fin → St → Ans) → Ans)
    (hs : ∀ args st k fin, sem args st k = some fin → ∃ r st', k r st' = some fin ∧ ∃ F, f.run F args st = some (r, st')) : OrcS P where
  id := f.id
  fn := f.fn
  hf := f.hf
  hname := f.hname
  hb := by rw [f.hbody]; rfl
  sem := sem
  sound k args st fin h := by
    obtain ⟨r, st', h1, F, h2⟩ := hs args st k fin h
    exact ⟨r, st', h1, f.sound h2⟩
end

def byteOf : List AV → Nat
  | [.int _ n] => n.toNat
  | _ => 0
def isByte : List AV → Bool
  | [.int .u8 n] => decide (0 ≤ n) && decide (n < 256)
  | _ => false
/-- Rows that are bytes. -/
def okR (l : List (List AV)) : Bool := l.all isByte
/-- The bytes of rows. -/
def nR (l : List (List AV)) : List Nat := l.map byteOf
theorem isByte_row {r : List AV} (h : isByte r = true) : r = [.int .u8 (byteOf r : Int)] ∧ byteOf r < 256 := by
  unfold isByte at h
  split at h
  · rename_i n
    simp only [Bool.and_eq_true, decide_eq_true_eq] at h
    simp only [byteOf]
    exact ⟨by rw [Int.toNat_of_nonneg h.1], by omega⟩
  · cases h
/-- Bytes as rows. -/
def bR (l : List Nat) : List (List AV) := l.map fun (b : Nat) => [.int .u8 (b : Int)]
theorem okR_rows : ∀ {l : List (List AV)}, okR l = true → l = bR (nR l)
  | [], _ => rfl
  | r :: l, h => by
    simp only [okR, List.all_cons, Bool.and_eq_true] at h
    have := okR_rows (l := l) h.2
    simp only [bR, nR, List.map_cons, List.map_map] at this ⊢
    rw [← (isByte_row h.1).1, ← this]
theorem okR_lt {l : List (List AV)} (h : okR l = true) {b : Nat} (hb : b ∈ nR l) : b < 256 := by
  obtain ⟨r, hr, rfl⟩ := List.mem_map.mp hb
  exact (isByte_row (List.all_eq_true.mp h r hr)).2
theorem nR_bR (l : List Nat) : nR (bR l) = l := by
  simp only [nR, bR, List.map_map]
  conv => rhs; rw [← List.map_id l]
  exact List.map_congr_left fun b _ => by simp [byteOf]
theorem okR_bR {l : List Nat} (h : ∀ b ∈ l, b < 256) : okR (bR l) = true := by
  simp only [okR, bR, List.all_map, List.all_eq_true]
  intro b hb
  simp only [Function.comp, isByte, Bool.and_eq_true, decide_eq_true_eq]
  have := h b hb
  omega
theorem okR_append {a b : List (List AV)} : okR (a ++ b) = (okR a && okR b) := by simp [okR]
theorem nR_append (a b : List (List AV)) : nR (a ++ b) = nR a ++ nR b := by simp [nR]
theorem nR_take (n : Nat) (a : List (List AV)) : nR (a.take n) = (nR a).take n := by simp [nR]
theorem nR_drop (n : Nat) (a : List (List AV)) : nR (a.drop n) = (nR a).drop n := by simp [nR]
theorem nR_length (a : List (List AV)) : (nR a).length = a.length := by simp [nR]
theorem bR_length (a : List Nat) : (bR a).length = a.length := by simp [bR]
theorem bR_append (a b : List Nat) : bR (a ++ b) = bR a ++ bR b := by simp [bR]
theorem bR_take (n : Nat) (a : List Nat) : (bR a).take n = bR (a.take n) := by simp [bR]
theorem bR_drop (n : Nat) (a : List Nat) : (bR a).drop n = bR (a.drop n) := by simp [bR]
theorem okR_take {l : List (List AV)} (h : okR l = true) (n : Nat) : okR (l.take n) = true :=
  List.all_eq_true.mpr fun x hx => List.all_eq_true.mp h x (List.mem_of_mem_take hx)
theorem okR_drop {l : List (List AV)} (h : okR l = true) (n : Nat) : okR (l.drop n) = true :=
  List.all_eq_true.mpr fun x hx => List.all_eq_true.mp h x (List.mem_of_mem_drop hx)

/-- Bytes, read no deeper than the slice. -/
inductive Br where
  | nil
  | sl (f : Bool) (l : List (List AV))
def byt (x : AV) : Option Br :=
  match x with
  | .nilsl => some .nil
  | .sl 1 f l => some (.sl f l)
  | .lg _ 1 l => some (.sl false l)
  | _ => none
def Br.list : Br → List (List AV)
  | .nil => []
  | .sl _ l => l
def Br.av : Br → AV
  | .nil => .nilsl
  | .sl f l => .sl 1 f l
theorem byt_frz {x : AV} {b : Br} (h : byt x = some b) : frz x = b.av := by
  unfold byt at h; split at h <;> first | (cases h; rfl) | cases h
/-- The same, of a slice that is no growing one (behind fz). -/
def sl1 : List AV → Option Br
  | [.nilsl] => some .nil
  | [.sl 1 f l] => some (.sl f l)
  | _ => none
theorem sl1_enc (l : List AV) (a : Br) (h : sl1 l = some a) : l = [a.av] := by
  unfold sl1 at h; split at h <;> first | (cases h; rfl) | cases h
def sl2 : List AV → Option (Br × Br)
  | [.nilsl, .nilsl] => some (.nil, .nil)
  | [.nilsl, .sl 1 f l] => some (.nil, .sl f l)
  | [.sl 1 f l, .nilsl] => some (.sl f l, .nil)
  | [.sl 1 f l, .sl 1 f' l'] => some (.sl f l, .sl f' l')
  | _ => none
theorem sl2_enc (l : List AV) (a : Br × Br) (h : sl2 l = some a) : l = [a.1.av, a.2.av] := by
  unfold sl2 at h; split at h <;> first | (cases h; rfl) | cases h
def byt1 : List AV → Option Br
  | [x] => byt x
  | _ => none
def byt2 : List AV → Option (Br × Br)
  | [x, y] => match byt x, byt y with
    | some a, some b => some (a, b)
    | _, _ => none
  | _ => none
theorem byt1_of {args : List AV} {b : Br} (h : byt1 args = some b) : args.map frz = [b.av] := by
  unfold byt1 at h
  split at h
  · simp [byt_frz h]
  · cases h
theorem byt2_of {args : List AV} {b : Br × Br} (h : byt2 args = some b) : args.map frz = [b.1.av, b.2.av] := by
  unfold byt2 at h
  split at h
  · split at h
    · rename_i h1 h2; cases h; simp [byt_frz h1, byt_frz h2]
    · cases h
  · cases h
end Go.V
