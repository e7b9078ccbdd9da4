/- Modes: the laws on numbers are true. -/
import Derived.Test.YtfifiepbfnkelaaMG
set_option linter.unusedVariables false
namespace Go.Proofs.Ytfifiepbfnkelaa.V
open Go Go.V Go.RowKit

theorem all8 (p : Int → Bool) (h : [1, 2, 3, 4, 5, 6, 7, 8].all p = true) {m : Int} (hm : rightF m = true) : p m = true := by
  have h' := List.all_eq_true.mp h
  rcases range8 hm with rfl | rfl | rfl | rfl | rfl | rfl | rfl | rfl <;> exact h' _ (by simp)

theorem table_true (a b : Int) (st : St) : f3.run 0 [.int .i64 a, .int .i64 b] st = some (.ret (.bool true), st) := by
  rw [table_run]
  simp only [beq_self_eq_true, branch_true]
  unfold rightF
  cases decide (a ≥ 1) <;> simp

theorem covF_out1 {a b : Int} (h : rightF a = false) : covF a b = false := by simp [covF, h]
theorem covF_out2 {a b : Int} (h : rightF b = false) : covF a b = false := by simp [covF, h]
theorem confF_sym (a b : Int) : confF a b = confF b a := by
  cases h : rightF a with
  | false =>
    rw [confF_out h]
    cases h2 : rightF b with
    | false => rw [confF_out h2]
    | true => rw [confF_out2 h2 h]
  | true =>
    cases h2 : rightF b with
    | false => rw [confF_out h2, confF_out2 h h2]
    | true => exact eq_of_beq (all8 (fun b => confF a b == confF b a) (all8 (fun a => [1, 2, 3, 4, 5, 6, 7, 8].all fun b => confF a b == confF b a) (by kernel_rfl) h) h2)
theorem cov_refl {a : Int} (h : rightF a = true) : covF a a = true := all8 (fun a => covF a a) (by kernel_rfl) h
theorem cov_eight {a : Int} (h : rightF a = true) : covF 8 a = true := all8 (fun a => covF 8 a) (by kernel_rfl) h
theorem cov_right {a b : Int} (h : covF a b = true) : rightF a = true ∧ rightF b = true := by
  simp only [covF, Bool.and_eq_true] at h
  exact ⟨h.1, h.2.1⟩
theorem conf_right {a b : Int} (h : confF a b = true) : rightF a = true ∧ rightF b = true := by
  cases ha : rightF a with
  | false => rw [confF_out ha] at h; cases h
  | true =>
    cases hb : rightF b with
    | false => rw [confF_out2 ha hb] at h; cases h
    | true => exact ⟨rfl, rfl⟩
theorem cov_conf {a b c : Int} (h : covF a b = true) (k : confF b c = true) : confF a c = true := by
  obtain ⟨ha, hb⟩ := cov_right h
  obtain ⟨_, hc⟩ := conf_right k
  have := all8 (fun c => !covF a b || (!confF b c || confF a c)) (all8 (fun b => [1, 2, 3, 4, 5, 6, 7, 8].all fun c => !covF a b || (!confF b c || confF a c)) (all8 (fun a => [1, 2, 3, 4, 5, 6, 7, 8].all fun b => [1, 2, 3, 4, 5, 6, 7, 8].all fun c => !covF a b || (!confF b c || confF a c)) (by kernel_rfl) ha) hb) hc
  simpa [h, k] using this
theorem cov_trans {a b c : Int} (h : covF a b = true) (k : covF b c = true) : covF a c = true := by
  obtain ⟨ha, hb⟩ := cov_right h
  obtain ⟨_, hc⟩ := cov_right k
  have := all8 (fun c => !covF a b || (!covF b c || covF a c)) (all8 (fun b => [1, 2, 3, 4, 5, 6, 7, 8].all fun c => !covF a b || (!covF b c || covF a c)) (all8 (fun a => [1, 2, 3, 4, 5, 6, 7, 8].all fun b => [1, 2, 3, 4, 5, 6, 7, 8].all fun c => !covF a b || (!covF b c || covF a c)) (by kernel_rfl) ha) hb) hc
  simpa [h, k] using this

theorem ways_true (a b c : Int) (st : St) : f5.run 0 [.int .i64 a, .int .i64 b, .int .i64 c] st = some (.ret (.bool true), st) := by
  rw [ways_run]
  simp only [branch_ite]
  rw [confF_sym b a]
  have h1 := @cov_conf a b c
  have h2 := @cov_trans a b c
  have h3 := @cov_refl a
  have h4 := @cov_eight a
  revert h1 h2 h3 h4
  simp only [beq_self_eq_true]
  generalize covF a b = x1
  generalize confF b c = x2
  generalize confF a c = x3
  generalize covF b c = x4
  generalize covF a c = x5
  generalize rightF a = x6
  generalize covF a a = x7
  generalize covF 8 a = x8
  cases x1 <;> cases x2 <;> cases x3 <;> cases x4 <;> cases x5 <;> cases x6 <;> cases x7 <;> cases x8 <;> simp

theorem join_out0 {a b : Int} (h : rightF a = false ∨ rightF b = false) : joinF a b = 0 := by
  have hs : ∀ best i, joinStep a b best i = best := by
    intro best i
    unfold joinStep
    rcases h with h | h
    · rw [covF_out2 h]; rfl
    · rw [covF_out2 (a := i) h]; split <;> rfl
  have : ∀ k i best, joinRec a b k i best = best := by
    intro k
    induction k with
    | zero => intros; rfl
    | succ k ih => intro i best; rw [joinRec, ih, hs]
  exact this 8 1 0

noncomputable def joinsAll (a b c : Int) : Bool := match f6.run 10 [.int .i64 a, .int .i64 b, .int .i64 c] ⟨[], []⟩ with
  | some (.ret (.bool true), ⟨[], []⟩) => true
  | _ => false
theorem joinsAll_true {a b c : Int} (h : joinsAll a b c = true) : f6.run 10 [.int .i64 a, .int .i64 b, .int .i64 c] ⟨[], []⟩ = some (.ret (.bool true), ⟨[], []⟩) := by
  unfold joinsAll at h
  split at h
  · assumption
  · cases h
theorem joins_all : ([1, 2, 3, 4, 5, 6, 7, 8].all fun a => [1, 2, 3, 4, 5, 6, 7, 8].all fun b => [1, 2, 3, 4, 5, 6, 7, 8].all fun c => joinsAll a b c) = true := by kernel_rfl

theorem joins_true (a b c : Int) : f6.run 10 [.int .i64 a, .int .i64 b, .int .i64 c] ⟨[], []⟩ = some (.ret (.bool true), ⟨[], []⟩) := by
  cases ha : rightF a with
  | false => rw [joins_run, ha, join_out0 (.inl ha)]; rfl
  | true =>
    cases hb : rightF b with
    | false => rw [joins_run, ha, hb, join_out0 (.inr hb)]; rfl
    | true =>
      cases hc : rightF c with
      | true => exact joinsAll_true (all8 (fun c => joinsAll a b c) (all8 (fun b => [1, 2, 3, 4, 5, 6, 7, 8].all fun c => joinsAll a b c) (all8 (fun a => [1, 2, 3, 4, 5, 6, 7, 8].all fun b => [1, 2, 3, 4, 5, 6, 7, 8].all fun c => joinsAll a b c) joins_all ha) hb) hc)
      | false =>
        have h1 : covF (joinF a b) a = true := all8 (fun b => covF (joinF a b) a) (all8 (fun a => [1, 2, 3, 4, 5, 6, 7, 8].all fun b => covF (joinF a b) a) (by kernel_rfl) ha) hb
        have h2 : covF (joinF a b) b = true := all8 (fun b => covF (joinF a b) b) (all8 (fun a => [1, 2, 3, 4, 5, 6, 7, 8].all fun b => covF (joinF a b) b) (by kernel_rfl) ha) hb
        have h3 : (joinF a b == joinF b a) = true := all8 (fun b => joinF a b == joinF b a) (all8 (fun a => [1, 2, 3, 4, 5, 6, 7, 8].all fun b => joinF a b == joinF b a) (by kernel_rfl) ha) hb
        have h4 : (joinF a a != 0) = true := all8 (fun a => joinF a a != 0) (by kernel_rfl) ha
        have h5 : joinF b a = joinF a b := (eq_of_beq h3).symm
        have h6 : (joinF a a == 0) = false := by simpa using h4
        rw [joins_run, ha, hb, h5, h6]
        simp only [h1, h2, covF_out1 hc]
        simp
end Go.Proofs.Ytfifiepbfnkelaa.V
