/- Modes: what is above. -/
import Derived.Test.YtfifiepbfnkelaaMA
set_option linter.unusedVariables false
namespace Go.Proofs.Ytfifiepbfnkelaa.V
open Go Go.V Go.RowKit

noncomputable def p16 : POrc Try.prog := f16.pureOf decT (fun a => [thing a]) decT_enc (fun a => slOf true (aboveL a)) (fun _ => slOf_plain _ _) fun a => ⟨0, fun st => by
  obtain ⟨k, t, u⟩ := a
  rw [above_run]
  simp only [branch_ite, aboveL]
  cases fitsF (k, t, u) with
  | false => rfl
  | true =>
    cases h3 : k == 3 with
    | true => rfl
    | false => cases h4 : k == 4 <;> rfl⟩
noncomputable def p17 : POrc Try.prog := f17.pureOfX decT (fun a => [thing a]) decT_enc (fun a => slOf (a.1 == 3) (aboveL a)) (fun _ => (slOf_plain _ _).2) fun a => ⟨0, fun st => by
  obtain ⟨k, t, u⟩ := a
  rw [above2_run]
  simp only [branch_ite, aboveL]
  cases hf : fitsF (k, t, u) with
  | false => exact ⟨_, [], [], rfl, by simp; rfl⟩
  | true =>
    cases h4 : k == 4 with
    | true =>
      obtain rfl : k = 4 := by simpa using h4
      exact ⟨.lg st.tk.length 3 [rowA top, rowA (3, t, ByteArray.mk #[])], [], [(3, 2)], rfl, by simp; exact ⟨rfl, rfl⟩⟩
    | false =>
      cases h3 : k == 3 with
      | true =>
        obtain rfl : k = 3 := by simpa using h3
        exact ⟨_, [], [], rfl, by simp; rfl⟩
      | false =>
        have : k < 3 := by
          simp only [fitsF] at hf
          cases h1 : k == 1 with
          | true => obtain rfl : k = 1 := by simpa using h1
                    decide
          | false =>
            cases h2 : k == 2 with
            | true => obtain rfl : k = 2 := by simpa using h2
                      decide
            | false => rw [h1, h2, h3] at hf; simp [h4] at hf
        exact ⟨.nilsl, [], [], rfl, by simp [this]⟩⟩
end Go.Proofs.Ytfifiepbfnkelaa.V
