/- Modes: the laws on things are true. -/
import Derived.Test.YtfifiepbfnkelaaMJ
import Derived.Test.YtfifiepbfnkelaaVE
set_option linter.unusedVariables false
namespace Go.Proofs.Ytfifiepbfnkelaa.V
open Go Go.V Go.RowKit

theorem fits_small {a : Int × ByteArray × ByteArray} (hf : fitsF a = true) (h3 : (a.1 == 3) = false) (h4 : (a.1 == 4) = false) : a.1 < 3 := by
  obtain ⟨k, t, u⟩ := a
  simp only [fitsF] at hf
  cases h1 : k == 1 with
  | true => obtain rfl : k = 1 := by simpa using h1
            simp
  | false =>
    cases h2 : k == 2 with
    | true => obtain rfl : k = 2 := by simpa using h2
              simp
    | false =>
      simp only at h3 h4
      rw [h1, h2, h3] at hf; simp [h4] at hf

theorem things_true (k : Int) (t u : ByteArray) : ∃ st, f4.run 6 [thing (k, t, u)] ⟨[], []⟩ = some (.ret (.bool true), st) := by
  rw [things_run]
  have hs := @fits_small (k, t, u)
  cases hf : fitsF (k, t, u) with
  | false => exact ⟨_, by simp; rfl⟩
  | true =>
    cases h3 : k == 3 with
    | true =>
      obtain rfl : k = 3 := by simpa using h3
      exact ⟨_, by simp; rfl⟩
    | false =>
      cases h4 : k == 4 with
      | true =>
        obtain rfl : k = 4 := by simpa using h4
        exact ⟨_, by simp; rfl⟩
      | false =>
        have := hs hf h3 h4
        have : decide (k < 3) = true := by simpa using this
        exact ⟨_, by simp [this]; rfl⟩

theorem above_true (k : Int) (t u : ByteArray) : ∃ st, f7.run 6 [thing (k, t, u)] ⟨[], []⟩ = some (.ret (.bool true), st) := by
  rw [law7_run]
  cases hf : fitsF (k, t, u) with
  | false => exact ⟨_, by simp; rfl⟩
  | true =>
    cases h3 : k == 3 with
    | true =>
      obtain rfl : k = 3 := by simpa using h3
      exact ⟨_, by simp; rfl⟩
    | false =>
      cases h4 : k == 4 with
      | true =>
        obtain rfl : k = 4 := by simpa using h4
        exact ⟨_, by simp; rfl⟩
      | false => exact ⟨_, by simp; rfl⟩

theorem thing_shape {xs : List AV} (h : Ty.Shape (.st [.int .i64, .str, .str]) xs) : ∃ k t u, Ty.AV' (.st [.int .i64, .str, .str]) xs = thing (k, t, u) := by
  obtain ⟨a, b, rfl, ⟨k, rfl, _⟩, a2, b2, rfl, ⟨t, rfl, _⟩, a3, b3, rfl, ⟨u, rfl, _⟩, rfl⟩ := h
  exact ⟨k, t, u, rfl⟩
theorem things_law (xs : List AV) (h : Ty.Shape (.st [.int .i64, .str, .str]) xs) : ∃ F st, f4.run F [Ty.AV' (.st [.int .i64, .str, .str]) xs] ⟨[], []⟩ = some (.ret (.bool true), st) := by
  obtain ⟨k, t, u, e⟩ := thing_shape h
  rw [e]; exact ⟨6, things_true k t u⟩
theorem above_law (xs : List AV) (h : Ty.Shape (.st [.int .i64, .str, .str]) xs) : ∃ F st, f7.run F [Ty.AV' (.st [.int .i64, .str, .str]) xs] ⟨[], []⟩ = some (.ret (.bool true), st) := by
  obtain ⟨k, t, u, e⟩ := thing_shape h
  rw [e]; exact ⟨6, above_true k t u⟩
end Go.Proofs.Ytfifiepbfnkelaa.V
