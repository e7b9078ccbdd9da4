/- Bits: a reader's next number. -/
import Derived.Test.YtjdpfblmhahfkaaBB
set_option linter.unusedVariables false
namespace Go.Proofs.Ytjdpfblmhahfkaa.V
open Go Go.V Go.RowKit

/-- A reader's cells. -/
inductive Rd where
  | nil (b : Bool)
  | sl (f b : Bool) (l : List (List AV))
def Rd.cells : Rd → List AV
  | .nil b => [.nilsl, .bool b]
  | .sl f b l => [.sl 1 f l, .bool b]
def rdOf : List AV → Option Rd
  | [.nilsl, .bool b] => some (.nil b)
  | [.sl 1 f l, .bool b] => some (.sl f b l)
  | _ => none
theorem rdOf_eq {cs : List AV} {r : Rd} (h : rdOf cs = some r) : cs = r.cells := by
  unfold rdOf at h; split at h <;> first | (cases h; rfl) | cases h
/-- A reader at the first or at the second object, and how it is put anew. -/
def rdAt (p : AV) (st : St) : Option (Rd × (AV → Bool → St)) :=
  match p with
  | .ptr 0 0 => match st.objs with
    | .cells cs :: os => match rdOf cs with
      | some r => some (r, fun a b => ⟨.cells [a, .bool b] :: os, st.tk⟩)
      | none => none
    | _ => none
  | .ptr 1 0 => match st.objs with
    | o :: .cells cs :: os => match rdOf cs with
      | some r => some (r, fun a b => ⟨o :: .cells [a, .bool b] :: os, st.tk⟩)
      | none => none
    | _ => none
  | _ => none
theorem rdAt_eq {p : AV} {st : St} {r : Rd} {put : AV → Bool → St} (h : rdAt p st = some (r, put)) :
    (p = .ptr 0 0 ∧ ∃ os, st = ⟨.cells r.cells :: os, st.tk⟩ ∧ put = fun a b => ⟨.cells [a, .bool b] :: os, st.tk⟩) ∨
    (p = .ptr 1 0 ∧ ∃ o os, st = ⟨o :: .cells r.cells :: os, st.tk⟩ ∧ put = fun a b => ⟨o :: .cells [a, .bool b] :: os, st.tk⟩) := by
  obtain ⟨objs, tk⟩ := st
  unfold rdAt at h
  split at h
  · split at h
    · rename_i h1
      split at h
      · rename_i h2
        cases h; simp only at h1; subst h1
        rw [rdOf_eq h2]
        exact .inl ⟨rfl, _, rfl, rfl⟩
      · cases h
    · cases h
  · split at h
    · rename_i h1
      split at h
      · rename_i h2
        cases h; simp only at h1; subst h1
        rw [rdOf_eq h2]
        exact .inr ⟨rfl, _, _, rfl, rfl⟩
      · cases h
    · cases h
  · cases h

theorem f11_spec {p : AV} {st : St} {f b : Bool} {l : List (List AV)} {put : AV → Bool → St} (h : rdAt p st = some (.sl f b l, put)) (hf : fit (.sl f l) = true) :
    f11.run 0 [p] st = match getN (nR l) with
      | none => some (.ret (.int .i64 0), put .nilsl true)
      | some o => some (.ret (.int .i64 o.1), put (.sl 1 f (l.drop o.2)) b) := by
  obtain ⟨h1, h2⟩ := fit_spec hf
  have hb : Nat.beq l.length l.length = true := Nat.beq_refl _
  rcases rdAt_eq h with ⟨rfl, os, hs, rfl⟩ | ⟨rfl, o, os, hs, rfl⟩
  all_goals rw [hs]; simp only [Rd.cells]
  · rw [rdint_run0, branch_of hf, getN_digR]
    by_cases h0 : (digR l).2 = 0
    · rw [branch_of (by simp [h0]), if_pos h0]
    · obtain ⟨h3, h4⟩ := digR_lt (l := l) h1 h0
      rw [branch_not (by simp [h0]), if_pos (by omega), if_neg h0, branch_of (cdec_iff.mpr (by omega))]
      simp
  · rw [rdint_run1, branch_of hf, getN_digR]
    by_cases h0 : (digR l).2 = 0
    · rw [branch_of (by simp [h0]), if_pos h0]
    · obtain ⟨h3, h4⟩ := digR_lt (l := l) h1 h0
      rw [branch_not (by simp [h0]), if_pos (by omega), if_neg h0, branch_of (cdec_iff.mpr (by omega))]
      simp
theorem f11_nil {p : AV} {st : St} {b : Bool} {put : AV → Bool → St} (h : rdAt p st = some (.nil b, put)) : f11.run 0 [p] st = some (.ret (.int .i64 0), put .nilsl true) := by
  rcases rdAt_eq h with ⟨rfl, os, hs, rfl⟩ | ⟨rfl, o, os, hs, rfl⟩
  all_goals rw [hs]; simp only [Rd.cells]
  · rw [rdint_nil0]
  · rw [rdint_nil1]

/-- Reader.Int. -/
noncomputable def q11 : OrcS Try.prog := f11.cps
  (fun args st k => match args with
    | [p] => match rdAt p st with
      | some (.nil _, put) => k (.ret (.int .i64 0)) (put .nilsl true)
      | some (.sl f b l, put) => match fit (.sl f l) with
        | true => match getN (nR l) with
          | none => k (.ret (.int .i64 0)) (put .nilsl true)
          | some o => k (.ret (.int .i64 o.1)) (put (.sl 1 f (l.drop o.2)) b)
        | false => none
      | none => none
    | _ => none)
  fun args st k fin h => by
    split at h
    · split at h
      · rename_i h1; exact ⟨_, _, h, 0, f11_nil h1⟩
      · rename_i h1
        split at h
        · rename_i h2
          have := f11_spec h1 h2
          split at h
          · rename_i h3; rw [h3] at this; exact ⟨_, _, h, 0, this⟩
          · rename_i h3; rw [h3] at this; exact ⟨_, _, h, 0, this⟩
        · cases h
      · cases h
    · cases h
end Go.Proofs.Ytjdpfblmhahfkaa.V
