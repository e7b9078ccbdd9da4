/- Bits: digits as a callee. -/
import Derived.Test.YtjdpfblmhahfkaaB7
set_option linter.unusedVariables false
namespace Go.Proofs.Ytjdpfblmhahfkaa.V
open Go Go.V Go.RowKit

def digB (bs : List Int) : Nat × Nat := digF 0 0 (bs.take 10)
theorem okB_take {bs : List Int} (h : okB bs = true) (n : Nat) : okB (bs.take n) = true :=
  List.all_eq_true.mpr fun x hx => List.all_eq_true.mp h x (List.mem_of_mem_take hx)
theorem digits_spec (f : Bool) (bs : List Int) (hs : bs.length < 140737488355328) (hok : okB bs = true) (st : St) :
    f33.run 11 [.sl 1 f (ri bs)] st = some (.ret (.tup [.int .u64 ((digB bs).1 : Int), .int .i64 ((digB bs).2 : Int)]), st) := by
  have hl : (ri bs).length = bs.length := by simp [ri]
  have hmin : (leastI false ((ri bs).length : Int) 10).toNat = min 10 bs.length := by
    simp only [leastI]; rw [hl]; split <;> omega
  have ht : List.drop 0 (List.take (leastI false ((ri bs).length : Int) 10).toNat (ri bs)) = ri (bs.take 10) := by
    rw [hmin, List.drop_zero]
    simp only [ri, ← List.map_take]
    congr 1
    rw [List.take_eq_take_iff]
    omega
  have hle : (0 : Int) ≤ leastI false ((ri bs).length : Int) 10 ∧ leastI false ((ri bs).length : Int) 10 ≤ ((ri bs).length : Int) := by
    simp only [leastI]; split <;> omega
  rw [digits_run, if_pos hle, ht]
  exact dig_loop 11 _ st (bs.take 10) (by simp; omega) (okB_take hok 10) (bs.take 10).length 0 0 11 (by omega) (by simp; omega) (by decide)

noncomputable def p33 : POrc Try.prog := (f33.pureIf dec1b (fun a => [a.av]) dec1b_enc (fun a => small a && okB a.list) (fun a => .tup [.int .u64 ((digB a.list).1 : Int), .int .i64 ((digB a.list).2 : Int)]) (fun a _ => ⟨rfl, fun _ _ => ⟨trivial, trivial, trivial⟩⟩) fun a h => ⟨11, fun st => by
  cases a with
  | nil => exact digits_nil 10 st
  | sl f bs =>
    simp only [Bool.and_eq_true] at h
    exact digits_spec f bs (small_sl h.1) h.2 st⟩).fz
end Go.Proofs.Ytjdpfblmhahfkaa.V
