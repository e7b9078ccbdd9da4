/- Bits: numbers read and written, in plain words. -/
import Derived.Test.YtjdpfblmhahfkaaBJ
set_option linter.unusedVariables false
namespace Go.Proofs.Ytjdpfblmhahfkaa.V
open Go Go.V Go.RowKit

/-- The number that stands next; i: the place, u: what has been read. -/
def digN : Nat → Nat → List Nat → Nat × Nat
  | _, _, [] => (0, 0)
  | i, u, c :: r => if i = 9 ∧ c % 128 > 1 then (0, 0) else
    if c < 128 then (if c % 128 = 0 ∧ i > 0 then (0, 0) else (u + c % 128 * 2 ^ (7 * i), i + 1))
    else digN (i + 1) (u + c % 128 * 2 ^ (7 * i)) r
theorem digF_nat : ∀ (l : List Nat) (i u : Nat), digF i u (l.map fun (b : Nat) => (b : Int)) = digN i u l
  | [], _, _ => rfl
  | c :: r, i, u => by
    simp only [List.map_cons, digF, digN, Int.toNat_natCast, digF_nat r]
theorem digR_nat (l : List (List AV)) : digR l = digN 0 0 ((nR l).take 10) := by
  simp only [digR, digB, iR, ← List.map_take, digF_nat]

/-- A number out of one without a sign. -/
def unfN (u : Nat) : Int := if u % 2 = 0 then (u / 2 : Nat) else -((u / 2 : Nat) : Int) - 1
theorem foldN_unfN (u : Nat) : foldN (unfN u) = u := by
  unfold foldN unfN; split <;> split <;> omega
theorem unfN_foldN (n : Int) : unfN (foldN n) = n := by
  unfold foldN unfN; split <;> split <;> omega
theorem unfN_i64 {u : Nat} (h : u < 18446744073709551616) : -9223372036854775808 ≤ unfN u ∧ unfN u ≤ 9223372036854775807 := by
  unfold unfN; split <;> omega

theorem dig_enc : ∀ (k i v u : Nat) (r : List Nat), i + k = 9 → v < 2 ^ (64 - 7 * i) → (0 < i → 0 < v) →
    digN i u (encN k v ++ r) = (u + v * 2 ^ (7 * i), i + (encN k v).length)
  | 0, i, v, u, r, hi, hv, h0 => by
    obtain rfl : i = 9 := by omega
    have hv : v < 2 := by simpa using hv
    have := h0 (by omega)
    obtain rfl : v = 1 := by omega
    simp [encN, digN]
  | k + 1, i, v, u, r, hi, hv, h0 => by
    rw [encN]
    split
    · rename_i h
      simp only [List.singleton_append, digN, Nat.mod_eq_of_lt h, List.length_singleton]
      rw [if_neg (by omega), if_pos h, if_neg (by omega)]
    · rename_i h
      have hp : 2 ^ (64 - 7 * i) = 128 * 2 ^ (64 - 7 * (i + 1)) := by
        rw [show 64 - 7 * i = 7 + (64 - 7 * (i + 1)) by omega, Nat.pow_add]
      rw [List.cons_append, digN, if_neg (by omega), if_neg (by omega), dig_enc k (i + 1) (v / 128) _ r (by omega) (by omega) (by omega)]
      simp only [List.length_cons, Prod.mk.injEq]
      refine ⟨?_, by omega⟩
      rw [show (v % 128 + 128) % 128 = v % 128 by omega, show 7 * (i + 1) = 7 * i + 7 by omega, Nat.pow_add, show v / 128 * (2 ^ (7 * i) * 2 ^ 7) = (v / 128 * 128) * 2 ^ (7 * i) by rw [Nat.mul_comm (2 ^ (7 * i)), ← Nat.mul_assoc], Nat.add_assoc, ← Nat.add_mul, show v % 128 + v / 128 * 128 = v by omega]

theorem dig_short : ∀ (k i v u c : Nat), i + k = 9 → c < (encN k v).length → digN i u ((encN k v).take c) = (0, 0)
  | k, i, v, u, 0, hi, hc => rfl
  | 0, i, v, u, c + 1, hi, hc => by simp [encN] at hc
  | k + 1, i, v, u, c + 1, hi, hc => by
    rw [encN] at hc ⊢
    split at hc
    · simp at hc
    · rename_i h
      rw [if_neg h, List.take_succ_cons, digN, if_neg (by omega), if_neg (by omega)]
      exact dig_short k (i + 1) (v / 128) _ c (by omega) (by simpa using hc)

theorem dig_back : ∀ (l : List Nat) (i u w m : Nat), (∀ b ∈ l, b < 256) → i + l.length ≤ 10 → digN i u l = (w, m) → m ≠ 0 →
    ∃ v j, w = u + v * 2 ^ (7 * i) ∧ m = i + j ∧ j ≤ l.length ∧ 0 < j ∧ i ≤ 9 ∧ encN (9 - i) v = l.take j ∧ v < 2 ^ (64 - 7 * i) ∧ (0 < i → 0 < v)
  | [], i, u, w, m, hb, hl, h, hm => by simp [digN] at h; omega
  | c :: r, i, u, w, m, hb, hl, h, hm => by
    have hc : c < 256 := hb c (by simp)
    have hi9 : i ≤ 9 := by simp at hl; omega
    rw [digN] at h
    split at h
    · simp at h; omega
    · rename_i h9
      split at h
      · rename_i h1
        split at h
        · simp at h; omega
        · rename_i h2
          simp only [Prod.mk.injEq] at h
          refine ⟨c, 1, by rw [← h.1, Nat.mod_eq_of_lt h1], by omega, by simp, by omega, hi9, ?_, ?_, by omega⟩
          · rw [List.take_succ_cons, List.take_zero]
            cases hk : 9 - i with
            | zero => rfl
            | succ k => rw [encN, if_pos h1]
          · by_cases hi : i = 9
            · subst hi; simp; omega
            · have : 2 ^ 7 ≤ 2 ^ (64 - 7 * i) := Nat.pow_le_pow_right (by omega) (by omega)
              omega
      · rename_i h1
        by_cases hi : i = 9
        · subst hi
          have : r = [] := by apply List.eq_nil_of_length_eq_zero; simp at hl; omega
          subst this
          simp [digN] at h; omega
        · obtain ⟨v, j, e1, e2, e3, e4, e5, e6, e7, e8⟩ := dig_back r (i + 1) _ w m (fun b hb' => hb b (by simp [hb'])) (by simp at hl; omega) h hm
          have hv := e8 (by omega)
          have hp : 2 ^ (64 - 7 * i) = 128 * 2 ^ (64 - 7 * (i + 1)) := by
            rw [show 64 - 7 * i = 7 + (64 - 7 * (i + 1)) by omega, Nat.pow_add]
          refine ⟨c % 128 + 128 * v, j + 1, ?_, by omega, by simp; omega, by omega, hi9, ?_, by omega, by omega⟩
          · rw [e1, show 7 * (i + 1) = 7 * i + 7 by omega, Nat.pow_add, Nat.add_mul, Nat.add_assoc, Nat.mul_comm 128 v, Nat.mul_assoc, Nat.mul_comm (2 ^ (7 * i)) (2 ^ 7)]
          · rw [show 9 - i = (9 - (i + 1)) + 1 by omega, encN, if_neg (by omega), List.take_succ_cons, show (c % 128 + 128 * v) / 128 = v by omega, e6, show (c % 128 + 128 * v) % 128 + 128 = c by omega]

/-- The number that bytes begin with, and how many bytes it has. -/
def getN (l : List Nat) : Option (Int × Nat) :=
  if (digN 0 0 (l.take 10)).2 = 0 then none else some (unfN (digN 0 0 (l.take 10)).1, (digN 0 0 (l.take 10)).2)

theorem getN_enc {n : Int} (h1 : -9223372036854775808 ≤ n) (h2 : n ≤ 9223372036854775807) (r : List Nat) : getN (intBytes n ++ r) = some (n, (intBytes n).length) := by
  have hl : (intBytes n).length ≤ 10 := encN_len 9 _
  have hp : 0 < (intBytes n).length := by unfold intBytes encN; split <;> simp
  have e : (intBytes n ++ r).take 10 = encN 9 (foldN n) ++ r.take (10 - (intBytes n).length) := by
    rw [List.take_append, List.take_of_length_le hl]; rfl
  have := dig_enc 9 0 (foldN n) 0 (r.take (10 - (intBytes n).length)) rfl (by simpa using foldN_lt h1 h2) (by omega)
  unfold getN
  rw [e, this]
  simp only [Nat.mul_zero, Nat.pow_zero, Nat.mul_one, Nat.zero_add, unfN_foldN]
  rw [if_neg (by unfold intBytes at hp; omega)]
  rfl
theorem getN_short (n : Int) {c : Nat} (h : c < (intBytes n).length) : getN ((intBytes n).take c) = none := by
  have hl : (intBytes n).length ≤ 10 := encN_len 9 _
  have e : ((intBytes n).take c).take 10 = (encN 9 (foldN n)).take c := by
    rw [List.take_of_length_le (by simp; omega)]; rfl
  unfold getN
  rw [e, dig_short 9 0 (foldN n) 0 c rfl h]
  rfl
theorem getN_back {l : List Nat} (hb : ∀ b ∈ l, b < 256) {n : Int} {k : Nat} (h : getN l = some (n, k)) :
    intBytes n = l.take k ∧ 0 < k ∧ k ≤ l.length ∧ k ≤ 10 ∧ -9223372036854775808 ≤ n ∧ n ≤ 9223372036854775807 := by
  unfold getN at h
  split at h
  · cases h
  · rename_i h0
    simp only [Option.some.injEq, Prod.mk.injEq] at h
    obtain ⟨v, j, e1, e2, e3, e4, e5, e6, e7, e8⟩ := dig_back (l.take 10) 0 0 _ _ (fun b hb' => hb b (List.mem_of_mem_take hb')) (by simp; omega) rfl h0
    simp only [Nat.mul_zero, Nat.pow_zero, Nat.mul_one, Nat.zero_add] at e1 e2
    rw [e1] at h
    rw [e2] at h
    obtain ⟨rfl, rfl⟩ := h
    have hv := unfN_i64 (u := v) (by simpa using e7)
    simp only [List.length_take] at e3
    refine ⟨?_, e4, by omega, by omega, hv⟩
    unfold intBytes
    rw [foldN_unfN, show (9 : Nat) = 9 - 0 from rfl, e6, List.take_take, Nat.min_eq_left (by omega)]
theorem getN_digR {l : List (List AV)} : getN (nR l) = if (digR l).2 = 0 then none else some (unfN (digR l).1, (digR l).2) := by rw [digR_nat]; rfl
theorem digR_lt {l : List (List AV)} (h : okR l = true) (h0 : (digR l).2 ≠ 0) : (digR l).1 < 18446744073709551616 ∧ (digR l).2 ≤ l.length := by
  rw [digR_nat] at h0 ⊢
  obtain ⟨v, j, e1, e2, e3, e4, e5, e6, e7, e8⟩ := dig_back ((nR l).take 10) 0 0 _ _ (fun b hb' => okR_lt h (List.mem_of_mem_take hb')) (by simp; omega) rfl h0
  simp only [List.length_take, nR_length] at e3
  simp only [Nat.mul_zero, Nat.pow_zero, Nat.mul_one, Nat.zero_add] at e1 e2
  exact ⟨by rw [e1]; simpa using e7, by omega⟩
/-- The program's unfold. -/
theorem unfold_eq {u : Nat} (h : u < 18446744073709551616) :
    bitsI .xor .i64 (IntKind.i64.wrap ((u : Int).fdiv 2)) (IntKind.i64.wrap (0 - IntKind.i64.wrap (bitsI .and .u64 (u : Int) 1))) = unfN u := by
  have e1 : (u : Int).fdiv 2 = ((u / 2 : Nat) : Int) := by rw [Int.fdiv_eq_ediv_of_nonneg _ (by omega)]; rfl
  have e2 : bitsI .and .u64 (u : Int) 1 = ((u % 2 : Nat) : Int) := by
    rw [show (1 : Int) = ((1 : Nat) : Int) from rfl, bitsAnd rfl (by simpa [IntKind.bits] using h) (by decide), Nat.and_one_is_mod]
  rw [e1, e2, wrapS (by omega) (by omega), wrapS (n := ((u % 2 : Nat) : Int)) (by omega) (by omega), wrapS (by omega) (by omega)]
  have key : ∀ x : Nat, x < 2 ^ 63 → (BitVec.ofInt 64 (x : Int)).toNat = x := fun x hx => ofIntNat (by omega)
  unfold unfN
  split
  · rename_i h2
    rw [h2]
    show IntKind.i64.wrap ((BitVec.ofInt 64 ((u / 2 : Nat) : Int) ^^^ BitVec.ofInt 64 0).toNat : Int) = _
    rw [show (BitVec.ofInt 64 0) = 0#64 from rfl, BitVec.xor_zero, key _ (by omega), wrapS (by omega) (by omega)]
  · have h2 : u % 2 = 1 := by omega
    rw [h2]
    show IntKind.i64.wrap ((BitVec.ofInt 64 ((u / 2 : Nat) : Int) ^^^ BitVec.ofInt 64 (-1)).toNat : Int) = _
    rw [show (BitVec.ofInt 64 (-1)) = BitVec.allOnes 64 by decide, BitVec.toNat_xor, BitVec.toNat_allOnes, key _ (by omega), xor_ones (by omega)]
    unfold IntKind.wrap
    simp only [IntKind.signed, IntKind.bits]
    have : (((2 ^ 64 - 1 - u / 2 : Nat) : Int)) % (2 ^ 64 : Nat) = ((2 ^ 64 - 1 - u / 2 : Nat) : Int) := Int.emod_eq_of_lt (by omega) (by omega)
    simp
    omega

def dec1u : List AV → Option Int
  | [.int .u64 u] => some u
  | _ => none
theorem dec1u_enc (l : List AV) (a : Int) (h : dec1u l = some a) : l = [.int .u64 a] := by
  unfold dec1u at h; split at h <;> first | (cases h; rfl) | cases h
noncomputable def r35 : POrc Try.prog := f35.pureIf dec1u (fun u => [.int .u64 u]) dec1u_enc (fun u => cdec (0 ≤ u ∧ u < 18446744073709551616)) (fun u => .int .i64 (unfN u.toNat)) (fun a _ => ⟨rfl, fun _ _ => trivial⟩) fun u h => ⟨0, fun st => by
  rw [cdec_iff] at h
  obtain ⟨m, rfl⟩ : ∃ m : Nat, u = m := ⟨u.toNat, by omega⟩
  rw [unfold_run, unfold_eq (by omega)]; rfl⟩
end Go.Proofs.Ytjdpfblmhahfkaa.V
