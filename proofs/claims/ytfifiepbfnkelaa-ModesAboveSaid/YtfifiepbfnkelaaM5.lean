/- Modes: conflicts and covers. -/
import Derived.Test.YtfifiepbfnkelaaM4
set_option linter.unusedVariables false
namespace Go.Proofs.Ytfifiepbfnkelaa.V
open Go Go.V Go.RowKit

def covF (a b : Int) : Bool := rightF a && (rightF b && (bitsI .andNot .u16 (maskF b) (maskF a) == 0))

theorem confF_out {a b : Int} (h : rightF a = false) : confF a b = false := by
  obtain ⟨h1, h2, h3, h4, h5, h6, h7, h8⟩ := out8 h
  simp [confF, rowF, h1, h2, h3, h4, h5, h6, h7, h8]
theorem confF_out2 {a b : Int} (h : rightF a = true) (h2 : rightF b = false) : confF a b = false := by
  obtain ⟨h1, h2, h3, h4, h5, h6, h7, h8⟩ := out8 h2
  rw [beq_flip] at h1 h2 h3 h4 h5 h6 h7 h8
  rcases range8 h with rfl | rfl | rfl | rfl | rfl | rfl | rfl | rfl <;> simp [confF, rowF, h1, h2, h3, h4, h5, h6, h7, h8]

noncomputable def p10 : POrc Try.prog := f10.pureOf dec2i (fun m => [.int .i64 m.1, .int .i64 m.2]) dec2i_enc (fun m => .bool (confF m.1 m.2)) (fun _ => plainB _) fun m => ⟨12, fun st => by
  obtain ⟨a, b⟩ := m
  cases h : rightF a with
  | false => rw [cf_run, h, branch_false]; simp only; rw [confF_out h]
  | true =>
    cases h2 : rightF b with
    | false => rw [cf_run, h, h2, branch_true, branch_false]; simp only; rw [confF_out2 h h2]
    | true => rcases range8 h with rfl | rfl | rfl | rfl | rfl | rfl | rfl | rfl <;> rcases range8 h2 with rfl | rfl | rfl | rfl | rfl | rfl | rfl | rfl <;> kernel_rfl⟩
noncomputable def p12 : POrc Try.prog := f12.pureOf dec2i (fun m => [.int .i64 m.1, .int .i64 m.2]) dec2i_enc (fun m => .bool (covF m.1 m.2)) (fun _ => plainB _) fun m => ⟨0, fun st => by
  obtain ⟨a, b⟩ := m
  rw [cv_run]
  simp only [covF]
  cases h : rightF a <;> cases h2 : rightF b <;> rfl⟩
noncomputable def p13 : POrc Try.prog := f13.pureOf dec2i (fun m => [.int .i64 m.1, .int .i64 m.2]) dec2i_enc (fun m => .bool (covF m.1 m.2)) (fun _ => plainB _) fun m => ⟨12, fun st => by
  obtain ⟨a, b⟩ := m
  cases h : rightF a with
  | false => rw [cv2_run, h]; simp only [covF, h]; rfl
  | true =>
    cases h2 : rightF b with
    | false => rw [cv2_run, h, h2]; simp only [covF, h, h2]; rfl
    | true => rcases range8 h with rfl | rfl | rfl | rfl | rfl | rfl | rfl | rfl <;> rcases range8 h2 with rfl | rfl | rfl | rfl | rfl | rfl | rfl | rfl <;> kernel_rfl⟩
end Go.Proofs.Ytfifiepbfnkelaa.V
