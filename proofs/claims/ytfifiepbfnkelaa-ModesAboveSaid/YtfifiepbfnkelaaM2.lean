/- Modes: the tables. -/
import Derived.Test.YtfifiepbfnkelaaM1
set_option linter.unusedVariables false
namespace Go.Proofs.Ytfifiepbfnkelaa.V
open Go Go.V Go.RowKit

def rightF (m : Int) : Bool := decide (m ≥ 1) && decide (m ≤ 8)
def maskF (m : Int) : Int := if m == 1 then 320 else if m == 2 then 360 else if m == 3 then 356 else if m == 4 then 336 else if m == 5 then 364 else if m == 6 then 382 else if m == 7 then 256 else if m == 8 then 510 else 0
def sizeF (m : Int) : Int := if m == 1 then 2 else if m == 2 then 4 else if m == 3 then 4 else if m == 4 then 3 else if m == 5 then 5 else if m == 6 then 7 else if m == 7 then 1 else if m == 8 then 8 else 0
def rowF (m : Int) : List Int := if m == 1 then [6, 8] else if m == 2 then [3, 5, 6, 8] else if m == 3 then [2, 5, 6, 8] else if m == 4 then [4, 6, 8] else if m == 5 then [2, 3, 5, 6, 8] else if m == 6 then [1, 2, 3, 4, 5, 6, 8] else if m == 7 then [8] else if m == 8 then [1, 2, 3, 4, 5, 6, 7, 8] else []
def confF (a b : Int) : Bool := (rowF a).any (· == b)

theorem range8 {m : Int} (h : rightF m = true) : m = 1 ∨ m = 2 ∨ m = 3 ∨ m = 4 ∨ m = 5 ∨ m = 6 ∨ m = 7 ∨ m = 8 := by
  simp only [rightF, Bool.and_eq_true, decide_eq_true_eq] at h
  omega
theorem out8 {m : Int} (h : rightF m = false) : (m == 1) = false ∧ (m == 2) = false ∧ (m == 3) = false ∧ (m == 4) = false ∧ (m == 5) = false ∧ (m == 6) = false ∧ (m == 7) = false ∧ (m == 8) = false := by
  simp only [rightF, Bool.and_eq_false_iff, decide_eq_false_iff_not] at h
  refine ⟨?_, ?_, ?_, ?_, ?_, ?_, ?_, ?_⟩ <;> (rw [beq_eq_false_iff_ne]; omega)

theorem plainB (b : Bool) : frz (.bool b) = .bool b ∧ ∀ n m, Scoped n m (.bool b) := ⟨rfl, fun _ _ => trivial⟩
theorem plainI (k : IntKind) (b : Int) : frz (.int k b) = .int k b ∧ ∀ n m, Scoped n m (.int k b) := ⟨rfl, fun _ _ => trivial⟩

noncomputable def p9 : POrc Try.prog := f9.pureOf dec1i (fun m => [.int .i64 m]) dec1i_enc (fun m => .bool (rightF m)) (fun _ => plainB _) fun m => ⟨0, fun st => by
  rw [right_run, branch_ite]
  unfold rightF
  cases decide (m ≥ 1) <;> rfl⟩
noncomputable def p23 : POrc Try.prog := f23.pureOf dec1i (fun m => [.int .i64 m]) dec1i_enc (fun m => .bool (rightF m)) (fun _ => plainB _) fun m => ⟨0, fun st => by
  rw [right2_run, branch_ite]
  unfold rightF
  cases decide (m ≥ 1) <;> rfl⟩
noncomputable def p20 : POrc Try.prog := f20.pureOf dec1i (fun m => [.int .i64 m]) dec1i_enc (fun m => .int .u16 (maskF m)) (fun _ => plainI _ _) fun m => ⟨0, fun st => by
  rw [conf_run]
  simp only [branch_ite]
  unfold maskF
  repeat' split
  all_goals rfl⟩
noncomputable def p22 : POrc Try.prog := f22.pureIf dec1i (fun m => [.int .i64 m]) dec1i_enc rightF (fun m => .sl 1 true ((rowF m).map fun x => [.int .i64 x])) (fun m _ => ⟨rfl, fun _ _ => scoped_ints _ _ _ _⟩) fun m h => ⟨0, fun st => by
  rw [row_run]
  rcases range8 h with rfl | rfl | rfl | rfl | rfl | rfl | rfl | rfl <;> rfl⟩
noncomputable def p24 : POrc Try.prog := f24.pureOf dec1i (fun m => [.int .i64 m]) dec1i_enc (fun m => .int .i64 (sizeF m)) (fun _ => plainI _ _) fun m => ⟨0, fun st => by
  rw [size_run]
  simp only [branch_ite]
  unfold sizeF
  repeat' split
  all_goals rfl⟩
theorem beq_flip (a b : Int) : (a == b) = (b == a) := by rw [Bool.eq_iff_iff, beq_iff_eq, beq_iff_eq]; exact eq_comm
noncomputable def p11 : POrc Try.prog := f11.pureOf dec2i (fun m => [.int .i64 m.1, .int .i64 m.2]) dec2i_enc (fun m => .bool (confF m.1 m.2)) (fun _ => plainB _) fun m => ⟨12, fun st => by
  obtain ⟨a, b⟩ := m
  rw [conf2_run]
  simp only [branch_ite]
  unfold confF rowF
  cases h : rightF a with
  | false =>
    obtain ⟨h1, h2, h3, h4, h5, h6, h7, h8⟩ := out8 h
    simp only [h1, h2, h3, h4, h5, h6, h7, h8]
    rfl
  | true =>
    cases h2 : rightF b with
    | true => rcases range8 h with rfl | rfl | rfl | rfl | rfl | rfl | rfl | rfl <;> rcases range8 h2 with rfl | rfl | rfl | rfl | rfl | rfl | rfl | rfl <;> rfl
    | false =>
      obtain ⟨h1, h2, h3, h4, h5, h6, h7, h8⟩ := out8 h2
      rw [beq_flip] at h1 h2 h3 h4 h5 h6 h7 h8
      rcases range8 h with rfl | rfl | rfl | rfl | rfl | rfl | rfl | rfl <;> simp [h1, h2, h3, h4, h5, h6, h7, h8]⟩
end Go.Proofs.Ytfifiepbfnkelaa.V
