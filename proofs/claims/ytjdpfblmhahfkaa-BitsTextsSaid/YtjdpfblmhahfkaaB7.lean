/- Bits: the number that stands next. -/
import Derived.Test.YtjdpfblmhahfkaaB6
set_option linter.unusedVariables false
namespace Go.Proofs.Ytjdpfblmhahfkaa.V
open Go Go.V Go.RowKit

/-- The number that stands next, and how many bytes it has; i: the place, u: what has been read. -/
def digF : Nat → Nat → List Int → Nat × Nat
  | _, _, [] => (0, 0)
  | i, u, c :: r => if i = 9 ∧ c.toNat % 128 > 1 then (0, 0) else
    if c.toNat < 128 then (if c.toNat % 128 = 0 ∧ i > 0 then (0, 0) else (u + c.toNat % 128 * 2 ^ (7 * i), i + 1))
    else digF (i + 1) (u + c.toNat % 128 * 2 ^ (7 * i)) r
def okB (bs : List Int) : Bool := bs.all fun b => decide (0 ≤ b) && decide (b < 256)
theorem okB_at {bs : List Int} (h : okB bs = true) {i : Nat} (hi : i < bs.length) : ∃ c : Nat, bs[i] = (c : Int) ∧ c < 256 := by
  have := List.all_eq_true.mp h bs[i] (List.getElem_mem hi)
  simp only [Bool.and_eq_true, decide_eq_true_eq] at this
  exact ⟨bs[i].toNat, by omega, by omega⟩

theorem dig_or {i u d : Nat} (hi : i ≤ 9) (hu : u < 2 ^ (7 * i)) (hd : d < 128) (h9 : ¬ (i = 9 ∧ d > 1)) :
    bitsI .or .u64 (u : Int) (IntKind.u64.wrap (IntKind.u64.wrap (d : Int) * 2 ^ min (IntKind.i64.wrap (7 * (i : Int))).toNat 64)) = ((u + d * 2 ^ (7 * i) : Nat) : Int) ∧ u + d * 2 ^ (7 * i) < 2 ^ 64 ∧ u + d * 2 ^ (7 * i) < 2 ^ (7 * (i + 1)) := by
  have e1 : (IntKind.i64.wrap (7 * (i : Int))).toNat = 7 * i := by rw [wrapS (by omega) (by omega)]; omega
  have e2 : min (7 * i) 64 = 7 * i := by omega
  have hP : 2 ^ (7 * i) ≤ 2 ^ 63 := Nat.pow_le_pow_right (by omega) (by omega)
  have hdP : u + d * 2 ^ (7 * i) < 2 ^ 64 := by
    by_cases h : i = 9
    · have : d ≤ 1 := by omega
      have : d * 2 ^ (7 * i) ≤ 1 * 2 ^ (7 * i) := Nat.mul_le_mul_right _ this
      omega
    · have hQ : 2 ^ (7 * i) ≤ 2 ^ 56 := Nat.pow_le_pow_right (by omega) (by omega)
      have : d * 2 ^ (7 * i) ≤ 127 * 2 ^ (7 * i) := Nat.mul_le_mul_right _ (by omega)
      omega
  have hdP' : u + d * 2 ^ (7 * i) < 2 ^ (7 * (i + 1)) := by
    have : d * 2 ^ (7 * i) ≤ 127 * 2 ^ (7 * i) := Nat.mul_le_mul_right _ (by omega)
    rw [show 7 * (i + 1) = 7 * i + 7 by omega, Nat.pow_add]
    omega
  refine ⟨?_, hdP, hdP'⟩
  rw [e1, e2, wrapU64 (by omega), show (d : Int) * 2 ^ (7 * i) = ((d * 2 ^ (7 * i) : Nat) : Int) by rw [Int.natCast_mul, Int.natCast_pow]; rfl, wrapU64 (by omega), bitsOr rfl (by simp only [IntKind.bits]; omega) (by simp only [IntKind.bits]; omega), or_above hu]

theorem dig_loop (F : Nat) (f : Bool) (st : St) (cs : List Int) (hc : cs.length ≤ 10) (hok : okB cs = true) : ∀ (k i u n : Nat), i + k = cs.length → k < n → u < 2 ^ (7 * i) →
    loopRun (f33_l0.run F) [4, 12, 13, 14] (Cont.block 0 (Cont.then (f33_r0.run F (f33.leaveK Fun.done)) (f33.leaveK Fun.done))) n (Env.mk 46 [(4, .int .u64 u), (12, .sl 1 f (ri cs)), (13, .int .i64 (ri cs).length), (14, .int .i64 i)]) st
      = some (.ret (.tup [.int .u64 ((digF i u (cs.drop i)).1 : Int), .int .i64 ((digF i u (cs.drop i)).2 : Int)]), st)
  | 0, i, u, n + 1, hi, hk, hu => by
    rw [show n + 1 = n.succ from rfl, digits_end _ _ _ _ _ _ _ _ (by simp [ri]; omega), digits_out, List.drop_eq_nil_of_le (by omega)]
    rfl
  | k + 1, i, u, n + 1, hi, hk, hu => by
    have hi1 : i < cs.length := by omega
    obtain ⟨c, hc1, hc2⟩ := okB_at hok hi1
    have hel : elemAt (ri cs) (i : Int) = some [.int .u8 (c : Int)] := by rw [← hc1]; exact elemAt_nat _ _ _ hi1
    have hd : IntKind.u64.wrap (bitsI .andNot .u8 (c : Int) 128) = ((c % 128 : Nat) : Int) := by rw [andNot128 hc2]; exact wrapU64 (by omega)
    have ih := dig_loop F f st cs hc hok k (i + 1) (u + c % 128 * 2 ^ (7 * i)) n (by omega) (by omega)
    rw [show n + 1 = n.succ from rfl, digits_round F n _ u i c f (ri cs) st hel, branch_of (by simp [ri]; omega), hd, List.drop_eq_getElem_cons hi1, hc1]
    simp only [digF, Int.toNat_natCast]
    by_cases h9 : i = 9 ∧ c % 128 > 1
    · rw [if_pos h9, branch_of (by simp; omega), branch_of (by simp; omega), digits_ret]
      rfl
    · obtain ⟨o1, o2, o3⟩ := dig_or (d := c % 128) (by omega) hu (by omega) h9
      have hrest : (if 0 ≤ IntKind.i64.wrap (7 * (i : Int)) then
          branch (.bool (decide ((c : Int) < 128)))
            (branch (.bool (((c % 128 : Nat) : Int) == 0))
              (branch (.bool (decide ((i : Int) > 0)))
                ((Cont.block 0 (Cont.then (f33_r0.run F (f33.leaveK Fun.done)) (f33.leaveK Fun.done))) .ret (Env.mk 46 [(2, .int .u64 0), (3, .int .i64 0)]) st)
                ((Cont.block 0 (Cont.then (f33_r0.run F (f33.leaveK Fun.done)) (f33.leaveK Fun.done))) .ret (Env.mk 46 [(2, .int .u64 (bitsI .or .u64 (u : Int) (IntKind.u64.wrap (((c % 128 : Nat) : Int) * 2 ^ min (IntKind.i64.wrap (7 * (i : Int))).toNat 64)))), (3, .int .i64 (IntKind.i64.wrap ((i : Int) + 1)))]) st))
              ((Cont.block 0 (Cont.then (f33_r0.run F (f33.leaveK Fun.done)) (f33.leaveK Fun.done))) .ret (Env.mk 46 [(2, .int .u64 (bitsI .or .u64 (u : Int) (IntKind.u64.wrap (((c % 128 : Nat) : Int) * 2 ^ min (IntKind.i64.wrap (7 * (i : Int))).toNat 64)))), (3, .int .i64 (IntKind.i64.wrap ((i : Int) + 1)))]) st))
            (loopRun (f33_l0.run F) [4, 12, 13, 14] (Cont.block 0 (Cont.then (f33_r0.run F (f33.leaveK Fun.done)) (f33.leaveK Fun.done))) n (Env.mk 46 [(4, .int .u64 (bitsI .or .u64 (u : Int) (IntKind.u64.wrap (((c % 128 : Nat) : Int) * 2 ^ min (IntKind.i64.wrap (7 * (i : Int))).toNat 64)))), (12, .sl 1 f (ri cs)), (13, .int .i64 (ri cs).length), (14, .int .i64 (IntKind.i64.wrap ((i : Int) + 1)))]) st)
          else none) = some (.ret (.tup [.int .u64 ((if c < 128 then (if c % 128 = 0 ∧ i > 0 then (0, 0) else (u + c % 128 * 2 ^ (7 * i), i + 1)) else digF (i + 1) (u + c % 128 * 2 ^ (7 * i)) (cs.drop (i + 1))).1 : Int), .int .i64 ((if c < 128 then (if c % 128 = 0 ∧ i > 0 then (0, 0) else (u + c % 128 * 2 ^ (7 * i), i + 1)) else digF (i + 1) (u + c % 128 * 2 ^ (7 * i)) (cs.drop (i + 1))).2 : Int)]), st) := by
        rw [wrapU64 (n := c % 128) (by omega)] at o1
        rw [if_pos (by rw [wrapS (by omega) (by omega)]; omega), o1, wrapS (by omega) (by omega), show ((i : Int) + 1) = ((i + 1 : Nat) : Int) by omega]
        by_cases h1 : c < 128
        · rw [branch_of (by simp; omega), if_pos h1]
          by_cases h2 : c % 128 = 0
          · rw [branch_of (by simp; omega)]
            by_cases h3 : i > 0
            · rw [branch_of (by simp; omega), if_pos ⟨h2, h3⟩, digits_ret]; rfl
            · rw [branch_not (by simp; omega), if_neg (by omega), digits_ret]
          · rw [branch_not (by simp; omega), if_neg (by omega), digits_ret]
        · rw [branch_not (by simp; omega), if_neg h1, ih o3]
      rw [if_neg h9]
      by_cases h : i = 9
      · rw [branch_of (by simp; omega), branch_not (by simp; omega)]
        exact hrest
      · rw [branch_not (by simp; omega)]
        exact hrest
end Go.Proofs.Ytjdpfblmhahfkaa.V
