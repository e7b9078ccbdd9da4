/- Modes: joins, and what is above. -/
import Derived.Test.YtfifiepbfnkelaaM7
set_option linter.unusedVariables false
namespace Go.Proofs.Ytfifiepbfnkelaa.V
open Go Go.V Go.RowKit

def joinStep (a b best i : Int) : Int := if covF i a then if covF i b then if best == 0 then i else if decide (sizeF i < sizeF best) then i else best else best else best
def joinRec (a b : Int) : Nat → Int → Int → Int
  | 0, _, best => best
  | k + 1, i, best => joinRec a b k (i + 1) (joinStep a b best i)
def joinF (a b : Int) : Int := joinRec a b 8 1 0

theorem join_loop (F : Nat) (K : Cont) (a b : Int) (st : St) : ∀ (k n : Nat) (best i : Int), i = 9 - k → k ≤ 9 → k < n →
    loopRun (f14_l0.run F) [0, 1, 5, 7] K n (Env.mk 32 [(0, .int .i64 a), (1, .int .i64 b), (5, .int .i64 best), (7, .int .i64 i)]) st = K (.exit 0) (Env.mk 32 [(5, .int .i64 (joinRec a b k i best))]) st
  | 0, n + 1, best, i, hi, hk, hn => by
    rw [show n + 1 = n.succ from rfl, join_round, branch_not (by simp; omega)]
    rfl
  | k + 1, n + 1, best, i, hi, hk, hn => by
    have ih := fun best => join_loop F K a b st k n best (i + 1) (by omega) (by omega) (by omega)
    rw [show n + 1 = n.succ from rfl, join_round, branch_of (by simp; omega), wrapS (by omega) (by omega)]
    simp only [branch_ite, ih, joinRec, joinStep]
    repeat' split
    all_goals rfl
theorem size_row {m : Int} (h : rightF m = true) : sizeF m = ((List.map (fun x => [AV.int IntKind.i64 x]) (rowF m)).length : Int) := by
  rcases range8 h with rfl | rfl | rfl | rfl | rfl | rfl | rfl | rfl <;> rfl
theorem join2_loop (F : Nat) (K : Cont) (a b : Int) (st : St) : ∀ (k n : Nat) (best i : Int), i = 9 - k → k ≤ 8 → k < n → (best = 0 ∨ rightF best = true) →
    loopRun (f15_l0.run F) [0, 1, 5, 6] K n (Env.mk 34 [(0, .int .i64 a), (1, .int .i64 b), (5, .int .i64 best), (6, .int .i64 i)]) st = K (.exit 0) (Env.mk 34 [(5, .int .i64 (joinRec a b k i best))]) st
  | 0, n + 1, best, i, hi, hk, hn, hb => by
    rw [show n + 1 = n.succ from rfl, join2_round, branch_not (by simp; omega)]
    rfl
  | k + 1, n + 1, best, i, hi, hk, hn, hb => by
    have hri : rightF i = true := by simp only [rightF, Bool.and_eq_true, decide_eq_true_eq]; omega
    have ih := fun best hb => join2_loop F K a b st k n best (i + 1) (by omega) (by omega) (by omega) hb
    rw [show n + 1 = n.succ from rfl, join2_round, branch_of (by simp; omega), wrapS (by omega) (by omega), branch_of hri]
    simp only [branch_ite, ih i (.inr hri), ih best hb, joinRec, joinStep]
    split
    · split
      · split
        · rfl
        · rename_i h0
          have hrb : rightF best = true := by
            rcases hb with rfl | hb
            · exact absurd rfl h0
            · exact hb
          rw [if_pos hrb, size_row hri, size_row hrb]
          split <;> rfl
      · rfl
    · rfl

noncomputable def p14 : POrc Try.prog := f14.pureOf dec2i (fun m => [.int .i64 m.1, .int .i64 m.2]) dec2i_enc (fun m => .int .i64 (joinF m.1 m.2)) (fun _ => plainI _ _) fun m => ⟨10, fun st => by
  obtain ⟨a, b⟩ := m
  rw [join_run, join_loop _ _ _ _ _ 9 10 0 0 (by decide) (by decide) (by decide), join_out]
  rfl⟩
noncomputable def p15 : POrc Try.prog := f15.pureOf dec2i (fun m => [.int .i64 m.1, .int .i64 m.2]) dec2i_enc (fun m => .int .i64 (joinF m.1 m.2)) (fun _ => plainI _ _) fun m => ⟨10, fun st => by
  obtain ⟨a, b⟩ := m
  rw [join2_run, join2_loop _ _ _ _ _ 8 10 0 1 (by decide) (by decide) (by decide) (.inl rfl), join2_out]
  rfl⟩

/-! ### Things -/
def decT : List AV → Option (Int × ByteArray × ByteArray)
  | [.agg [.int .i64 k, .str t, .str u]] => some (k, t, u)
  | _ => none
def thing (a : Int × ByteArray × ByteArray) : AV := .agg [.int .i64 a.1, .str a.2.1, .str a.2.2]
theorem decT_enc (l : List AV) (a : Int × ByteArray × ByteArray) (h : decT l = some a) : l = [thing a] := by
  unfold decT at h; split at h <;> first | (cases h; rfl) | cases h
def noB (t : ByteArray) : Bool := t.toList == (ByteArray.mk #[]).toList
def fitsF (a : Int × ByteArray × ByteArray) : Bool := if a.1 == 1 then noB a.2.1 && noB a.2.2 else if a.1 == 2 then noB a.2.1 && noB a.2.2 else if a.1 == 3 then noB a.2.2 else a.1 == 4
def rowA (a : Int × ByteArray × ByteArray) : List AV := [.int .i64 a.1, .str a.2.1, .str a.2.2]
def top : Int × ByteArray × ByteArray := (1, ByteArray.mk #[], ByteArray.mk #[])
def aboveL (a : Int × ByteArray × ByteArray) : List (Int × ByteArray × ByteArray) :=
  if fitsF a then if a.1 == 3 then [top] else if a.1 == 4 then [top, (3, a.2.1, ByteArray.mk #[])] else [] else []
def slOf (full : Bool) (l : List (Int × ByteArray × ByteArray)) : AV :=
  match l with
  | [] => .nilsl
  | x :: l => .sl 3 full (rowA x :: l.map rowA)
theorem slOf_plain (b : Bool) (l : List (Int × ByteArray × ByteArray)) : frz (slOf b l) = slOf b l ∧ ∀ n m, Scoped n m (slOf b l) := by
  cases l with
  | nil => exact ⟨rfl, fun _ _ => trivial⟩
  | cons x l =>
    refine ⟨rfl, fun n m => ⟨⟨trivial, trivial, trivial, trivial⟩, ?_⟩⟩
    induction l with
    | nil => trivial
    | cons y l ih => exact ⟨⟨trivial, trivial, trivial, trivial⟩, ih⟩

noncomputable def p18 : POrc Try.prog := f18.pureOf decT (fun a => [thing a]) decT_enc (fun a => .bool (fitsF a)) (fun _ => plainB _) fun a => ⟨0, fun st => by
  obtain ⟨k, t, u⟩ := a
  unfold thing
  rw [fits_run]
  simp only [branch_ite, fitsF, noB]
  repeat' split
  all_goals simp_all⟩
noncomputable def p19 : POrc Try.prog := f19.pureOf decT (fun a => [thing a]) decT_enc (fun a => .bool (fitsF a)) (fun _ => plainB _) fun a => ⟨0, fun st => by
  obtain ⟨k, t, u⟩ := a
  unfold thing
  rw [fits2_run]
  simp only [branch_ite, fitsF, noB]
  repeat' split
  all_goals simp_all⟩
end Go.Proofs.Ytfifiepbfnkelaa.V
