/- Bits: numbers as bytes, as callees; equal bytes; copies. -/
import Derived.Test.YtjdpfblmhahfkaaB4
set_option linter.unusedVariables false
namespace Go.Proofs.Ytjdpfblmhahfkaa.V
open Go Go.V Go.RowKit

noncomputable def p15 : POrc Try.prog := f15.pureIfX dec1i (fun m => [.int .i64 m]) dec1i_enc i64B (fun n => .sl 1 false (rb (intBytes n))) (fun _ n m => scoped_rb n m _) fun n h =>
  ⟨11, fun st => ⟨_, [], [(1, (intBytes n).length)], rfl, by rw [f15_spec n h, List.append_nil]⟩⟩
noncomputable def p18 : POrc Try.prog := f18.pureIfX dec1i (fun m => [.int .i64 m]) dec1i_enc i64B (fun n => .sl 1 false (rb (intBytes n))) (fun _ n m => scoped_rb n m _) fun n h =>
  ⟨11, fun st => ⟨_, [], [(1, (intBytes n).length)], rfl, by rw [f18_spec n h, List.append_nil]⟩⟩

noncomputable def q15 : OrcS Try.prog := f15.effIf dec1i (fun m => [.int .i64 m]) dec1i_enc (fun n _ => i64B n) (fun n st => (.lg st.tk.length 1 (rb (intBytes n)), ⟨st.objs, st.tk ++ [(1, (intBytes n).length)]⟩)) fun n st h => ⟨11, f15_spec n h st⟩
noncomputable def q18 : OrcS Try.prog := f18.effIf dec1i (fun m => [.int .i64 m]) dec1i_enc (fun n _ => i64B n) (fun n st => (.lg st.tk.length 1 (rb (intBytes n)), ⟨st.objs, st.tk ++ [(1, (intBytes n).length)]⟩)) fun n st h => ⟨11, f18_spec n h st⟩

/-! ### Equal bytes -/
def bytesA (x : AV) : Option (Option (Bool × List (List AV))) :=
  match x with
  | .nilsl => some none
  | .sl 1 f l => some (some (f, l))
  | _ => none
def sameRows : List Int → List Int → Bool
  | [], [] => true
  | a :: l, b :: m => a == b && sameRows l m
  | _, _ => false
theorem same_loop (F : Nat) (f f' : Bool) (st : St) (K : Cont) (bs cs : List Int) (hl : bs.length = cs.length) (hb : bs.length < 9223372036854775807) : ∀ (k i n : Nat), i + k = bs.length → k < n →
    loopRun (f14_l0.run F) [0, 1, 5] K n (Env.mk 26 [(0, .sl 1 f (bs.map fun b => [.int .u8 b])), (1, .sl 1 f' (cs.map fun b => [.int .u8 b])), (5, .int .i64 i)]) st
      = branch (.bool (sameRows (bs.drop i) (cs.drop i))) (K (.exit 0) (Env.mk 26 []) st) (K .ret (Env.mk 26 [(4, .bool false)]) st)
  | 0, i, n + 1, hi, hk => by
    have e1 : bs.drop i = [] := List.drop_eq_nil_of_le (by omega)
    have e2 : cs.drop i = [] := List.drop_eq_nil_of_le (by omega)
    rw [e1, e2, show n + 1 = n.succ from rfl, same_end _ _ _ _ _ _ _ _ _ (by simp; omega)]
    rfl
  | k + 1, i, n + 1, hi, hk => by
    have hi1 : i < bs.length := by omega
    have hi2 : i < cs.length := by omega
    have ih := same_loop F f f' st K bs cs hl hb k (i + 1) n (by omega) (by omega)
    rw [show n + 1 = n.succ from rfl, same_round F n K i bs[i] cs[i] f f' _ _ st (elemAt_nat _ _ _ hi1) (elemAt_nat _ _ _ hi2), branch_of (by simp; omega), wrapS (by omega) (by omega)]
    rw [show ((i : Int) + 1) = ((i + 1 : Nat) : Int) by omega, ih]
    rw [List.drop_eq_getElem_cons hi1, List.drop_eq_getElem_cons hi2]
    simp only [sameRows, branch_ite, bne]
    cases (bs[i] == cs[i]) <;> simp
end Go.Proofs.Ytjdpfblmhahfkaa.V
