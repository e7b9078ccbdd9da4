/- Bits: numbers as bytes. -/
import Derived.Test.YtjdpfblmhahfkaaB3
set_option linter.unusedVariables false
namespace Go.Proofs.Ytjdpfblmhahfkaa.V
open Go Go.V Go.RowKit

/-- Bytes as rows. -/
def rb (bs : List Nat) : List (List AV) := bs.map fun (b : Nat) => [.int .u8 (b : Int)]
/-- A number's digits, the lowest first; k: how many may follow the first. -/
def encN : Nat → Nat → List Nat
  | 0, u => [u]
  | k + 1, u => if u < 128 then [u] else (u % 128 + 128) :: encN k (u / 128)
/-- A number without a sign. -/
def foldN (n : Int) : Nat := if n < 0 then (-n).toNat * 2 - 1 else n.toNat * 2

theorem rb_append (a b : List Nat) : rb (a ++ b) = rb a ++ rb b := by simp [rb]
theorem rb_length (a : List Nat) : (rb a).length = a.length := by simp [rb]
theorem scoped_rb (n m : Nat) : ∀ l : List Nat, ScopedR n m (rb l)
  | [] => trivial
  | x :: l => ⟨⟨trivial, trivial⟩, scoped_rb n m l⟩
theorem encN_len : ∀ k u, (encN k u).length ≤ k + 1
  | 0, u => by simp [encN]
  | k + 1, u => by
    rw [encN]; split
    · simp
    · simp; exact encN_len k (u / 128)

theorem wrapU64 {n : Nat} (h : n < 18446744073709551616) : IntKind.u64.wrap (n : Int) = n := wrapNat rfl (by simpa [IntKind.bits] using h)
theorem wrapU8 {n : Nat} (h : n < 256) : IntKind.u8.wrap (n : Int) = n := wrapNat rfl (by simpa [IntKind.bits] using h)
theorem wrapU8mod (n : Nat) : IntKind.u8.wrap (n : Int) = ((n % 256 : Nat) : Int) := by
  unfold IntKind.wrap
  simp [IntKind.signed, IntKind.bits]

theorem tk_at (tk : List (Nat × Nat)) (x : Nat × Nat) : (tk ++ [x])[tk.length]? = some x := by simp
theorem tk_set (tk : List (Nat × Nat)) (x y : Nat × Nat) : (tk ++ [x]).set tk.length y = tk ++ [y] := by simp

theorem u_div {u : Nat} (h : u < 18446744073709551616) : IntKind.u64.wrap ((u : Int).tdiv 128) = ((u / 128 : Nat) : Int) := by
  rw [show (u : Int).tdiv 128 = ((u / 128 : Nat) : Int) by rw [show (128 : Int) = ((128 : Nat) : Int) from rfl]; exact (Int.ofNat_tdiv u 128).symm]
  exact wrapU64 (by omega)
theorem u_mod (u : Nat) : IntKind.u8.wrap (IntKind.u8.wrap ((u : Int).tmod 128) + 128) = ((u % 128 + 128 : Nat) : Int) := by
  rw [show (u : Int).tmod 128 = ((u % 128 : Nat) : Int) by rw [show (128 : Int) = ((128 : Nat) : Int) from rfl]; exact (Int.ofNat_tmod u 128).symm]
  rw [wrapU8 (by omega), show ((u % 128 : Nat) : Int) + 128 = ((u % 128 + 128 : Nat) : Int) by omega]
  exact wrapU8 (by omega)

theorem u_shr (u : Nat) : (u : Int).fdiv 128 = ((u / 128 : Nat) : Int) := by
  rw [Int.fdiv_eq_ediv_of_nonneg _ (by omega)]; rfl
theorem u_or (u : Nat) : bitsI .or .u8 (IntKind.u8.wrap (u : Int)) 128 = ((u % 128 + 128 : Nat) : Int) := by
  rw [wrapU8mod, or128 (by omega), show u % 256 % 128 = u % 128 by omega]

theorem rint_loop (F : Nat) (objs : List Ob) (tk : List (Nat × Nat)) : ∀ (k n u : Nat) (l : List (List AV)), u < 128 ^ (k + 1) → u < 18446744073709551616 → k < n → l.length + k < 1000 →
    loopRun (f18_l0.run F) [3, 4] (Cont.block 0 (Cont.then (f18_r0.run F (f18.leaveK Fun.done)) (f18.leaveK Fun.done))) n (Env.mk 33 [(3, .int .u64 u), (4, .lg tk.length 1 l)]) ⟨objs, tk ++ [(1, l.length)]⟩
      = some (.ret (.lg tk.length 1 (l ++ rb (encN k u))), ⟨objs, tk ++ [(1, l.length + (encN k u).length)]⟩)
  | k, 0, u, l, h, hu, hk, hl => by omega
  | 0, n + 1, u, l, h, hu, hk, hl => by
    rw [show n + 1 = n.succ from rfl, rint_round, branch_not (by simp; omega), rint_out, if_pos ⟨tk_at _ _, by omega⟩]
    rw [wrapU8 (by omega)]
    simp [encN, rb]
  | k + 1, n + 1, u, l, h, hu, hk, hl => by
    rw [show n + 1 = n.succ from rfl, rint_round]
    by_cases hb : u < 128
    · rw [branch_not (by simp; omega), rint_out, if_pos ⟨tk_at _ _, by omega⟩, wrapU8 (by omega)]
      simp [encN, rb, hb]
    · rw [branch_of (by simp; omega), if_pos ⟨tk_at _ _, by omega⟩, u_div hu, u_mod]
      simp only [tk_set]
      have ih := rint_loop F objs tk k n (u / 128) (l ++ [[.int .u8 ((u % 128 + 128 : Nat) : Int)]]) (Nat.div_lt_of_lt_mul (by rw [Nat.pow_succ] at h; omega)) (by omega) (by omega) (by simp; omega)
      rw [List.length_append, List.length_singleton] at ih
      rw [ih, show l.length + 1 + (encN k (u / 128)).length = l.length + ((encN k (u / 128)).length + 1) by omega]
      simp only [encN, if_neg hb, rb, List.map_cons, List.append_assoc, List.singleton_append, List.length_cons]

theorem int_loop (F : Nat) (objs : List Ob) (tk : List (Nat × Nat)) : ∀ (k n u : Nat) (l : List (List AV)), u < 128 ^ (k + 1) → u < 18446744073709551616 → k < n → l.length + k < 1000 →
    loopRun (f15_l0.run F) [3, 4] (Cont.block 0 (Cont.then (f15_r0.run F (f15.leaveK Fun.done)) (f15.leaveK Fun.done))) n (Env.mk 22 [(3, .lg tk.length 1 l), (4, .int .u64 u)]) ⟨objs, tk ++ [(1, l.length)]⟩
      = some (.ret (.lg tk.length 1 (l ++ rb (encN k u))), ⟨objs, tk ++ [(1, l.length + (encN k u).length)]⟩)
  | k, 0, u, l, h, hu, hk, hl => by omega
  | 0, n + 1, u, l, h, hu, hk, hl => by
    rw [show n + 1 = n.succ from rfl, int_round, branch_not (by simp; omega), int_out, if_pos ⟨tk_at _ _, by omega⟩]
    rw [wrapU8 (by omega)]
    simp [encN, rb]
  | k + 1, n + 1, u, l, h, hu, hk, hl => by
    rw [show n + 1 = n.succ from rfl, int_round]
    by_cases hb : u < 128
    · rw [branch_not (by simp; omega), int_out, if_pos ⟨tk_at _ _, by omega⟩, wrapU8 (by omega)]
      simp [encN, rb, hb]
    · rw [branch_of (by simp; omega), if_pos ⟨tk_at _ _, by omega⟩, u_shr, u_or]
      simp only [tk_set]
      have ih := int_loop F objs tk k n (u / 128) (l ++ [[.int .u8 ((u % 128 + 128 : Nat) : Int)]]) (Nat.div_lt_of_lt_mul (by rw [Nat.pow_succ] at h; omega)) (by omega) (by omega) (by simp; omega)
      rw [List.length_append, List.length_singleton] at ih
      rw [ih, show l.length + 1 + (encN k (u / 128)).length = l.length + ((encN k (u / 128)).length + 1) by omega]
      simp only [encN, if_neg hb, rb, List.map_cons, List.append_assoc, List.singleton_append, List.length_cons]

theorem rint_all (F n : Nat) (st : St) (u : Nat) (hu : u < 18446744073709551616) :
    loopRun (f18_l0.run F) [3, 4] (Cont.block 0 (Cont.then (f18_r0.run F (f18.leaveK Fun.done)) (f18.leaveK Fun.done))) (n + 11) (Env.mk 33 [(3, .int .u64 u), (4, .sl 1 true [])]) st
      = some (.ret (.lg st.tk.length 1 (rb (encN 9 u))), ⟨st.objs, st.tk ++ [(1, (encN 9 u).length)]⟩) := by
  rw [show n + 11 = (n + 10).succ from rfl, rint_first]
  by_cases hb : u < 128
  · rw [branch_not (by simp; omega), rint_out0, wrapU8 (by omega)]
    simp [encN, rb, hb]
  · rw [branch_of (by simp; omega), u_div hu, u_mod]
    have ih := rint_loop F st.objs st.tk 8 (n + 10) (u / 128) [[.int .u8 ((u % 128 + 128 : Nat) : Int)]] (by omega) (by omega) (by omega) (by simp)
    rw [List.length_singleton] at ih
    rw [ih, show 1 + (encN 8 (u / 128)).length = (encN 8 (u / 128)).length + 1 by omega]
    rw [show encN 9 u = (u % 128 + 128) :: encN 8 (u / 128) from if_neg hb]
    simp only [rb, List.map_cons, List.singleton_append, List.length_cons]
theorem int_all (F n : Nat) (st : St) (u : Nat) (hu : u < 18446744073709551616) :
    loopRun (f15_l0.run F) [3, 4] (Cont.block 0 (Cont.then (f15_r0.run F (f15.leaveK Fun.done)) (f15.leaveK Fun.done))) (n + 11) (Env.mk 22 [(3, .nilsl), (4, .int .u64 u)]) st
      = some (.ret (.lg st.tk.length 1 (rb (encN 9 u))), ⟨st.objs, st.tk ++ [(1, (encN 9 u).length)]⟩) := by
  rw [show n + 11 = (n + 10).succ from rfl, int_first]
  by_cases hb : u < 128
  · rw [branch_not (by simp; omega), int_out0, wrapU8 (by omega)]
    simp [encN, rb, hb]
  · rw [branch_of (by simp; omega), u_shr, u_or]
    have ih := int_loop F st.objs st.tk 8 (n + 10) (u / 128) [[.int .u8 ((u % 128 + 128 : Nat) : Int)]] (by omega) (by omega) (by omega) (by simp)
    rw [List.length_singleton] at ih
    rw [ih, show 1 + (encN 8 (u / 128)).length = (encN 8 (u / 128)).length + 1 by omega]
    rw [show encN 9 u = (u % 128 + 128) :: encN 8 (u / 128) from if_neg hb]
    simp only [rb, List.map_cons, List.singleton_append, List.length_cons]

theorem foldN_lt {n : Int} (h1 : -9223372036854775808 ≤ n) (h2 : n ≤ 9223372036854775807) : foldN n < 18446744073709551616 := by
  unfold foldN; split <;> omega
/-- The reference's fold. -/
theorem rfold_neg {n : Int} (h1 : -9223372036854775808 ≤ n) (h : n < 0) : IntKind.u64.wrap (IntKind.u64.wrap (IntKind.u64.wrap (IntKind.i64.wrap (0 - IntKind.i64.wrap (n + 1))) * 2) + 1) = ((foldN n : Nat) : Int) := by
  rw [wrapS (n := n + 1) (by omega) (by omega), wrapS (by omega) (by omega)]
  obtain ⟨m, hm⟩ : ∃ m : Nat, 0 - (n + 1) = m := ⟨(0 - (n + 1)).toNat, by omega⟩
  rw [hm, wrapU64 (by omega), show (m : Int) * 2 = ((m * 2 : Nat) : Int) by omega, wrapU64 (by omega), show ((m * 2 : Nat) : Int) + 1 = ((m * 2 + 1 : Nat) : Int) by omega, wrapU64 (by omega)]
  unfold foldN
  rw [if_pos h]
  omega
theorem rfold_pos {n : Int} (h2 : n ≤ 9223372036854775807) (h : ¬ n < 0) : IntKind.u64.wrap (IntKind.u64.wrap n * 2) = ((foldN n : Nat) : Int) := by
  obtain ⟨m, rfl⟩ : ∃ m : Nat, n = m := ⟨n.toNat, by omega⟩
  rw [wrapU64 (by omega), show (m : Int) * 2 = ((m * 2 : Nat) : Int) by omega, wrapU64 (by omega)]
  unfold foldN
  rw [if_neg h]
  omega
/-- The program's fold. -/
theorem fold_eq {n : Int} (h1 : -9223372036854775808 ≤ n) (h2 : n ≤ 9223372036854775807) :
    bitsI .xor .u64 (IntKind.u64.wrap (IntKind.u64.wrap n * 2)) (IntKind.u64.wrap (n.fdiv 9223372036854775808)) = ((foldN n : Nat) : Int) := by
  by_cases h : n < 0
  · have e1 : n.fdiv 9223372036854775808 = -1 := by
      rw [Int.fdiv_eq_ediv_of_nonneg _ (by omega)]; omega
    have e2 : IntKind.u64.wrap (-1) = ((18446744073709551615 : Nat) : Int) := by decide
    obtain ⟨m, rfl⟩ : ∃ m : Nat, n = -(m : Int) := ⟨(-n).toNat, by omega⟩
    have e3 : IntKind.u64.wrap (-(m : Int)) = ((18446744073709551616 - m : Nat) : Int) := by
      unfold IntKind.wrap
      simp only [IntKind.signed, IntKind.bits, Bool.false_and, Bool.false_eq_true, if_false]
      omega
    have e4 : IntKind.u64.wrap (((18446744073709551616 - m : Nat) : Int) * 2) = ((18446744073709551616 - 2 * m : Nat) : Int) := by
      unfold IntKind.wrap
      simp only [IntKind.signed, IntKind.bits, Bool.false_and, Bool.false_eq_true, if_false]
      omega
    rw [e1, e2, e3, e4, bitsXor rfl (by simp only [IntKind.bits]; omega) (by decide), show (18446744073709551615 : Nat) = 2 ^ 64 - 1 from rfl, xor_ones (by omega)]
    unfold foldN
    rw [if_pos h]
    omega
  · obtain ⟨m, rfl⟩ : ∃ m : Nat, n = m := ⟨n.toNat, by omega⟩
    have e1 : (m : Int).fdiv 9223372036854775808 = 0 := by
      rw [Int.fdiv_eq_ediv_of_nonneg _ (by omega)]; omega
    rw [e1, rfold_pos h2 h, show IntKind.u64.wrap 0 = ((0 : Nat) : Int) from rfl, bitsXor rfl (by have := foldN_lt (n := (m : Int)) (by omega) h2; simpa [IntKind.bits] using this) (by decide), Nat.xor_zero]

def i64B (n : Int) : Bool := decide (-9223372036854775808 ≤ n) && decide (n ≤ 9223372036854775807)
theorem i64B_spec {n : Int} (h : i64B n = true) : -9223372036854775808 ≤ n ∧ n ≤ 9223372036854775807 := by
  simpa [i64B] using h
/-- A number's bytes. -/
def intBytes (n : Int) : List Nat := encN 9 (foldN n)

theorem f18_spec (n : Int) (h : i64B n = true) (st : St) : f18.run 11 [.int .i64 n] st = some (.ret (.lg st.tk.length 1 (rb (intBytes n))), ⟨st.objs, st.tk ++ [(1, (intBytes n).length)]⟩) := by
  obtain ⟨h1, h2⟩ := i64B_spec h
  rw [rint_run]
  by_cases hn : n < 0
  · rw [branch_of (by simpa using hn), rfold_neg h1 hn]
    exact rint_all 11 0 st _ (foldN_lt h1 h2)
  · rw [branch_not (by simpa using hn), rfold_pos h2 hn]
    exact rint_all 11 0 st _ (foldN_lt h1 h2)
theorem f15_spec (n : Int) (h : i64B n = true) (st : St) : f15.run 11 [.int .i64 n] st = some (.ret (.lg st.tk.length 1 (rb (intBytes n))), ⟨st.objs, st.tk ++ [(1, (intBytes n).length)]⟩) := by
  obtain ⟨h1, h2⟩ := i64B_spec h
  rw [int_run, fold_eq h1 h2]
  exact int_all 11 0 st _ (foldN_lt h1 h2)
end Go.Proofs.Ytjdpfblmhahfkaa.V
