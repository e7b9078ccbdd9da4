/- Merged out of 45 texts: what the claim's code comes to, and why. -/
import Derived.Test.YtcfedmheblbdnaaDoorR44
/- Values: a number's digits, written from the last one on. -/
set_option linter.unusedVariables false
set_option linter.unusedSimpArgs false
namespace Go.Proofs.YtcfedmheblbdnaaDoor.V
open Go Go.V Go.RowKit

theorem sm_tab : ∀ j : Fin 100, (strL tx_730b8f).getD (j.val * 2) 0 = 48 + j.val / 10 ∧ (strL tx_730b8f).getD (j.val * 2 + 1) 0 = 48 + j.val % 10 := by
  rw [tx_730b8f_eq]; decide +kernel
theorem sm_len : 200 ≤ (strL tx_730b8f).length := by rw [tx_730b8f_eq]; decide +kernel
theorem inS {j : Nat} (h : j < 200) : inT tx_730b8f (j : Int) = true := inT_iff.mpr ⟨by omega, by have := sm_len; rw [Int.toNat_natCast]; omega⟩
theorem vEven {a : Nat} (h : a < 100) : atT tx_730b8f ((a * 2 : Nat) : Int) = ((48 + a / 10 : Nat) : Int) := by
  rw [atT, opq_eq, Int.toNat_natCast, (sm_tab ⟨a, h⟩).1]
theorem vOdd {a : Nat} (h : a < 100) : atT tx_730b8f ((a * 2 + 1 : Nat) : Int) = ((48 + a % 10 : Nat) : Int) := by
  rw [atT, opq_eq, Int.toNat_natCast, (sm_tab ⟨a, h⟩).2]
theorem tm8 (a : Nat) : (a : Int).tmod 100000000 = ((a % 100000000 : Nat) : Int) := (Int.ofNat_tmod a 100000000).symm
theorem tm4 (a : Nat) : (a : Int).tmod 10000 = ((a % 10000 : Nat) : Int) := (Int.ofNat_tmod a 10000).symm
theorem tm2 (a : Nat) : (a : Int).tmod 100 = ((a % 100 : Nat) : Int) := (Int.ofNat_tmod a 100).symm
theorem td8 (a : Nat) : (a : Int).tdiv 100000000 = ((a / 100000000 : Nat) : Int) := (Int.ofNat_tdiv a 100000000).symm
theorem td4 (a : Nat) : (a : Int).tdiv 10000 = ((a / 10000 : Nat) : Int) := (Int.ofNat_tdiv a 10000).symm
theorem td2 (a : Nat) : (a : Int).tdiv 100 = ((a / 100 : Nat) : Int) := (Int.ofNat_tdiv a 100).symm
theorem w32 {a : Nat} (h : a < 4294967296) : IntKind.u32.wrap (a : Int) = (a : Nat) := wrapNat rfl (by simpa [IntKind.bits] using h)
theorem w64 {a : Nat} (h : a < 18446744073709551616) : IntKind.u64.wrap (a : Int) = (a : Nat) := wrapNat rfl (by simpa [IntKind.bits] using h)
theorem w8 {a : Nat} (h : a < 256) : IntKind.u8.wrap (a : Int) = (a : Nat) := wrapNat rfl (by simpa [IntKind.bits] using h)
theorem m2 (a : Nat) : (a : Int) * 2 = ((a * 2 : Nat) : Int) := by omega
theorem a1 (a : Nat) : (a : Int) + 1 = ((a + 1 : Nat) : Int) := by omega
theorem a48 (a : Nat) : 48 + (a : Int) = ((48 + a : Nat) : Int) := by omega
theorem ds1 {D : Nat} (h : 1 ≤ D) (hD : D ≤ 1000) : IntKind.i64.wrap ((D : Int) - 1) = ((D - 1 : Nat) : Int) := by rw [wrapS (by omega) (by omega)]; omega
theorem ds2 {D : Nat} (h : 2 ≤ D) (hD : D ≤ 1000) : IntKind.i64.wrap ((D : Int) - 2) = ((D - 2 : Nat) : Int) := by rw [wrapS (by omega) (by omega)]; omega
theorem ds3 {D : Nat} (h : 3 ≤ D) (hD : D ≤ 1000) : IntKind.i64.wrap ((D : Int) - 3) = ((D - 3 : Nat) : Int) := by rw [wrapS (by omega) (by omega)]; omega
theorem ds4 {D : Nat} (h : 4 ≤ D) (hD : D ≤ 1000) : IntKind.i64.wrap ((D : Int) - 4) = ((D - 4 : Nat) : Int) := by rw [wrapS (by omega) (by omega)]; omega
theorem ds5 {D : Nat} (h : 5 ≤ D) (hD : D ≤ 1000) : IntKind.i64.wrap ((D : Int) - 5) = ((D - 5 : Nat) : Int) := by rw [wrapS (by omega) (by omega)]; omega
theorem ds6 {D : Nat} (h : 6 ≤ D) (hD : D ≤ 1000) : IntKind.i64.wrap ((D : Int) - 6) = ((D - 6 : Nat) : Int) := by rw [wrapS (by omega) (by omega)]; omega
theorem ds7 {D : Nat} (h : 7 ≤ D) (hD : D ≤ 1000) : IntKind.i64.wrap ((D : Int) - 7) = ((D - 7 : Nat) : Int) := by rw [wrapS (by omega) (by omega)]; omega
theorem ds8 {D : Nat} (h : 8 ≤ D) (hD : D ≤ 1000) : IntKind.i64.wrap ((D : Int) - 8) = ((D - 8 : Nat) : Int) := by rw [wrapS (by omega) (by omega)]; omega
/-- The last k digits written, the last one at D. -/
def wr (l : List Nat) (U D : Nat) : Nat → List Nat
  | 0 => l
  | k + 1 => (wr l U D k).set (1 + (D - (k + 1))) (48 + U / 10 ^ k % 10)
theorem wr_len (l : List Nat) (U D : Nat) : ∀ k, (wr l U D k).length = l.length
  | 0 => rfl
  | k + 1 => by rw [wr, List.length_set, wr_len l U D k]
theorem wr_add (l : List Nat) (U D a : Nat) : ∀ k, wr (wr l U D a) (U / 10 ^ a) (D - a) k = wr l U D (a + k)
  | 0 => rfl
  | k + 1 => by
    rw [wr, wr_add l U D a k, show a + (k + 1) = (a + k) + 1 by omega, wr, Nat.div_div_eq_div_mul, ← Nat.pow_add, show D - a - (k + 1) = D - (a + k + 1) by omega]
theorem okB {l : List Nat} {o b : Nat} (h : o < l.length) : (true && inC (bC l) o 1) = true := by
  rw [Bool.true_and, inC_iff, bC_length]; omega
theorem fb_step (F m : Nat) (K' : Cont) (n c U D : Nat) (l : List Nat) (os : List Ob) (tk : List (Nat × Nat)) (h8 : 8 ≤ D) (hn : D ≤ n) (hl : l.length = 24) (h20 : n ≤ 20) (hU : U < 18446744073709551616) :
    loopRun (f86_l0.run F) [0, 1, 4] K' m.succ (Env.mk 167 [(0, .ms 0 1 1 n c), (1, .int .u64 (U : Int)), (4, .int .i64 (D : Int))]) ⟨.cells (bC l) :: os, tk⟩
      = loopRun (f86_l0.run F) [0, 1, 4] K' m (Env.mk 167 [(0, .ms 0 1 1 n c), (1, .int .u64 ((U / 10 ^ 8 : Nat) : Int)), (4, .int .i64 ((D - 8 : Nat) : Int))]) ⟨.cells (bC (wr l U D 8)) :: os, tk⟩ := by
  rw [fb_round]
  simp (disch := omega) only [tm8, tm4, tm2, td8, td4, td2, w32, w64, m2, a1, ds1, ds2, ds3, ds4, ds5, ds6, ds7, ds8, vOdd, vEven, Int.toNat_natCast, Nat.mul_one]
  rw [branch_of (decide_eq_true (by omega))]
  simp (disch := (first | omega | (simp only [List.length_set]; omega))) only [setC_byte]
  iterate 24 (first | rw [branch_of (inS (by omega))] | rw [if_pos ⟨by omega, by omega⟩] | rw [branch_of (okB (b := 0) (by first | omega | (simp only [List.length_set]; omega)))])
  have e0 : U % 100000000 % 10000 % 100 % 10 = U / 10 ^ 0 % 10 := by omega
  have e1 : U % 100000000 % 10000 % 100 / 10 = U / 10 ^ 1 % 10 := by omega
  have e2 : U % 100000000 % 10000 / 100 % 10 = U / 10 ^ 2 % 10 := by omega
  have e3 : U % 100000000 % 10000 / 100 / 10 = U / 10 ^ 3 % 10 := by omega
  have e4 : U % 100000000 / 10000 % 100 % 10 = U / 10 ^ 4 % 10 := by omega
  have e5 : U % 100000000 / 10000 % 100 / 10 = U / 10 ^ 5 % 10 := by omega
  have e6 : U % 100000000 / 10000 / 100 % 10 = U / 10 ^ 6 % 10 := by omega
  have e7 : U % 100000000 / 10000 / 100 / 10 = U / 10 ^ 7 % 10 := by omega
  rw [e0, e1, e2, e3, e4, e5, e6, e7]
  rfl
end Go.Proofs.YtcfedmheblbdnaaDoor.V

/- Values: formatBase10, as a whole. -/
set_option linter.unusedVariables false
set_option linter.unusedSimpArgs false
namespace Go.Proofs.YtcfedmheblbdnaaDoor.V
open Go Go.V Go.RowKit

noncomputable def fbK (F : Nat) : Cont := Cont.block 0 (Cont.then (f86_r0.run F (f86.leaveK Fun.done)) (f86.leaveK Fun.done))

theorem fb_t0 (F n c U : Nat) (l : List Nat) (os : List Ob) (tk : List (Nat × Nat)) (hn : 0 ≤ n) (hl : l.length = 24) (h20 : n ≤ 20) (hU : U < 1) :
    fbK F (.exit 0) (Env.mk 167 [(0, .ms 0 1 1 n c), (1, .int .u64 (U : Int)), (4, .int .i64 ((0 : Nat) : Int))]) ⟨.cells (bC l) :: os, tk⟩ = some (.ret (.tup []), ⟨.cells (bC (wr l U 0 0)) :: os, tk⟩) := by
  rw [fbK, fb_out]
  simp (disch := omega) only [tm4, tm2, td4, td2, w32, w64, w8, m2, a1, a48, ds1, ds2, ds3, ds4, vOdd, vEven, Int.toNat_natCast, Nat.mul_one]
  simp (disch := (first | omega | (simp only [List.length_set]; omega))) only [setC_byte]
  rw [branch_not (decide_eq_false (by omega))]
  rw [branch_not (decide_eq_false (by omega))]
  rw [branch_not (decide_eq_false (by omega))]
  rfl

theorem fb_t1 (F n c U : Nat) (l : List Nat) (os : List Ob) (tk : List (Nat × Nat)) (hn : 1 ≤ n) (hl : l.length = 24) (h20 : n ≤ 20) (hU : U < 10) :
    fbK F (.exit 0) (Env.mk 167 [(0, .ms 0 1 1 n c), (1, .int .u64 (U : Int)), (4, .int .i64 ((1 : Nat) : Int))]) ⟨.cells (bC l) :: os, tk⟩ = some (.ret (.tup []), ⟨.cells (bC (wr l U 1 1)) :: os, tk⟩) := by
  rw [fbK, fb_out]
  simp (disch := omega) only [tm4, tm2, td4, td2, w32, w64, w8, m2, a1, a48, ds1, ds2, ds3, ds4, vOdd, vEven, Int.toNat_natCast, Nat.mul_one]
  simp (disch := (first | omega | (simp only [List.length_set]; omega))) only [setC_byte]
  rw [branch_not (decide_eq_false (by omega))]
  rw [branch_not (decide_eq_false (by omega))]
  rw [branch_of (decide_eq_true (by omega))]
  rw [if_pos ⟨by omega, by omega⟩, branch_of (okB (b := 0) (by first | omega | (simp only [List.length_set]; omega)))]
  have ez : 48 + U = 48 + U / 10 ^ 0 % 10 := by omega
  rw [ez]
  rfl

theorem fb_t2 (F n c U : Nat) (l : List Nat) (os : List Ob) (tk : List (Nat × Nat)) (hn : 2 ≤ n) (hl : l.length = 24) (h20 : n ≤ 20) (hU : U < 100) :
    fbK F (.exit 0) (Env.mk 167 [(0, .ms 0 1 1 n c), (1, .int .u64 (U : Int)), (4, .int .i64 ((2 : Nat) : Int))]) ⟨.cells (bC l) :: os, tk⟩ = some (.ret (.tup []), ⟨.cells (bC (wr l U 2 2)) :: os, tk⟩) := by
  rw [fbK, fb_out]
  simp (disch := omega) only [tm4, tm2, td4, td2, w32, w64, w8, m2, a1, a48, ds1, ds2, ds3, ds4, vOdd, vEven, Int.toNat_natCast, Nat.mul_one]
  simp (disch := (first | omega | (simp only [List.length_set]; omega))) only [setC_byte]
  rw [branch_not (decide_eq_false (by omega))]
  rw [branch_of (decide_eq_true (by omega))]
  rw [branch_of (inS (by omega)), branch_of (inS (by omega))]
  rw [if_pos ⟨by omega, by omega⟩, branch_of (okB (b := 0) (by first | omega | (simp only [List.length_set]; omega)))]
  rw [if_pos ⟨by omega, by omega⟩, branch_of (okB (b := 0) (by first | omega | (simp only [List.length_set]; omega)))]
  rw [branch_not (decide_eq_false (by omega))]
  have e0 : U % 100 % 10 = U / 10 ^ 0 % 10 := by omega
  have e1 : U % 100 / 10 = U / 10 ^ 1 % 10 := by omega
  rw [e0, e1]
  rfl

theorem fb_t3 (F n c U : Nat) (l : List Nat) (os : List Ob) (tk : List (Nat × Nat)) (hn : 3 ≤ n) (hl : l.length = 24) (h20 : n ≤ 20) (hU : U < 1000) :
    fbK F (.exit 0) (Env.mk 167 [(0, .ms 0 1 1 n c), (1, .int .u64 (U : Int)), (4, .int .i64 ((3 : Nat) : Int))]) ⟨.cells (bC l) :: os, tk⟩ = some (.ret (.tup []), ⟨.cells (bC (wr l U 3 3)) :: os, tk⟩) := by
  rw [fbK, fb_out]
  simp (disch := omega) only [tm4, tm2, td4, td2, w32, w64, w8, m2, a1, a48, ds1, ds2, ds3, ds4, vOdd, vEven, Int.toNat_natCast, Nat.mul_one]
  simp (disch := (first | omega | (simp only [List.length_set]; omega))) only [setC_byte]
  rw [branch_not (decide_eq_false (by omega))]
  rw [branch_of (decide_eq_true (by omega))]
  rw [branch_of (inS (by omega)), branch_of (inS (by omega))]
  rw [if_pos ⟨by omega, by omega⟩, branch_of (okB (b := 0) (by first | omega | (simp only [List.length_set]; omega)))]
  rw [if_pos ⟨by omega, by omega⟩, branch_of (okB (b := 0) (by first | omega | (simp only [List.length_set]; omega)))]
  rw [branch_of (decide_eq_true (by omega))]
  rw [if_pos ⟨by omega, by omega⟩, branch_of (okB (b := 0) (by first | omega | (simp only [List.length_set]; omega)))]
  have e0 : U % 100 % 10 = U / 10 ^ 0 % 10 := by omega
  have e1 : U % 100 / 10 = U / 10 ^ 1 % 10 := by omega
  rw [e0, e1]
  have ez : U / 100 = U / 10 ^ 2 % 10 := by omega
  rw [ez]
  rfl

theorem fb_t4 (F n c U : Nat) (l : List Nat) (os : List Ob) (tk : List (Nat × Nat)) (hn : 4 ≤ n) (hl : l.length = 24) (h20 : n ≤ 20) (hU : U < 10000) :
    fbK F (.exit 0) (Env.mk 167 [(0, .ms 0 1 1 n c), (1, .int .u64 (U : Int)), (4, .int .i64 ((4 : Nat) : Int))]) ⟨.cells (bC l) :: os, tk⟩ = some (.ret (.tup []), ⟨.cells (bC (wr l U 4 4)) :: os, tk⟩) := by
  rw [fbK, fb_out]
  simp (disch := omega) only [tm4, tm2, td4, td2, w32, w64, w8, m2, a1, a48, ds1, ds2, ds3, ds4, vOdd, vEven, Int.toNat_natCast, Nat.mul_one]
  simp (disch := (first | omega | (simp only [List.length_set]; omega))) only [setC_byte]
  rw [branch_of (decide_eq_true (by omega))]
  rw [branch_of (inS (by omega)), branch_of (inS (by omega))]
  rw [if_pos ⟨by omega, by omega⟩, branch_of (okB (b := 0) (by first | omega | (simp only [List.length_set]; omega)))]
  rw [if_pos ⟨by omega, by omega⟩, branch_of (okB (b := 0) (by first | omega | (simp only [List.length_set]; omega)))]
  rw [branch_of (inS (by omega)), branch_of (inS (by omega))]
  rw [if_pos ⟨by omega, by omega⟩, branch_of (okB (b := 0) (by first | omega | (simp only [List.length_set]; omega)))]
  rw [if_pos ⟨by omega, by omega⟩, branch_of (okB (b := 0) (by first | omega | (simp only [List.length_set]; omega)))]
  rw [branch_not (decide_eq_false (by omega))]
  rw [branch_not (decide_eq_false (by omega))]
  have e0 : U % 10000 % 100 % 10 = U / 10 ^ 0 % 10 := by omega
  have e1 : U % 10000 % 100 / 10 = U / 10 ^ 1 % 10 := by omega
  have e2 : U % 10000 / 100 % 10 = U / 10 ^ 2 % 10 := by omega
  have e3 : U % 10000 / 100 / 10 = U / 10 ^ 3 % 10 := by omega
  rw [e0, e1, e2, e3]
  rfl

theorem fb_t5 (F n c U : Nat) (l : List Nat) (os : List Ob) (tk : List (Nat × Nat)) (hn : 5 ≤ n) (hl : l.length = 24) (h20 : n ≤ 20) (hU : U < 100000) :
    fbK F (.exit 0) (Env.mk 167 [(0, .ms 0 1 1 n c), (1, .int .u64 (U : Int)), (4, .int .i64 ((5 : Nat) : Int))]) ⟨.cells (bC l) :: os, tk⟩ = some (.ret (.tup []), ⟨.cells (bC (wr l U 5 5)) :: os, tk⟩) := by
  rw [fbK, fb_out]
  simp (disch := omega) only [tm4, tm2, td4, td2, w32, w64, w8, m2, a1, a48, ds1, ds2, ds3, ds4, vOdd, vEven, Int.toNat_natCast, Nat.mul_one]
  simp (disch := (first | omega | (simp only [List.length_set]; omega))) only [setC_byte]
  rw [branch_of (decide_eq_true (by omega))]
  rw [branch_of (inS (by omega)), branch_of (inS (by omega))]
  rw [if_pos ⟨by omega, by omega⟩, branch_of (okB (b := 0) (by first | omega | (simp only [List.length_set]; omega)))]
  rw [if_pos ⟨by omega, by omega⟩, branch_of (okB (b := 0) (by first | omega | (simp only [List.length_set]; omega)))]
  rw [branch_of (inS (by omega)), branch_of (inS (by omega))]
  rw [if_pos ⟨by omega, by omega⟩, branch_of (okB (b := 0) (by first | omega | (simp only [List.length_set]; omega)))]
  rw [if_pos ⟨by omega, by omega⟩, branch_of (okB (b := 0) (by first | omega | (simp only [List.length_set]; omega)))]
  rw [branch_not (decide_eq_false (by omega))]
  rw [branch_of (decide_eq_true (by omega))]
  rw [if_pos ⟨by omega, by omega⟩, branch_of (okB (b := 0) (by first | omega | (simp only [List.length_set]; omega)))]
  have e0 : U % 10000 % 100 % 10 = U / 10 ^ 0 % 10 := by omega
  have e1 : U % 10000 % 100 / 10 = U / 10 ^ 1 % 10 := by omega
  have e2 : U % 10000 / 100 % 10 = U / 10 ^ 2 % 10 := by omega
  have e3 : U % 10000 / 100 / 10 = U / 10 ^ 3 % 10 := by omega
  rw [e0, e1, e2, e3]
  have ez : U / 10000 = U / 10 ^ 4 % 10 := by omega
  rw [ez]
  rfl

theorem fb_t6 (F n c U : Nat) (l : List Nat) (os : List Ob) (tk : List (Nat × Nat)) (hn : 6 ≤ n) (hl : l.length = 24) (h20 : n ≤ 20) (hU : U < 1000000) :
    fbK F (.exit 0) (Env.mk 167 [(0, .ms 0 1 1 n c), (1, .int .u64 (U : Int)), (4, .int .i64 ((6 : Nat) : Int))]) ⟨.cells (bC l) :: os, tk⟩ = some (.ret (.tup []), ⟨.cells (bC (wr l U 6 6)) :: os, tk⟩) := by
  rw [fbK, fb_out]
  simp (disch := omega) only [tm4, tm2, td4, td2, w32, w64, w8, m2, a1, a48, ds1, ds2, ds3, ds4, vOdd, vEven, Int.toNat_natCast, Nat.mul_one]
  simp (disch := (first | omega | (simp only [List.length_set]; omega))) only [setC_byte]
  rw [branch_of (decide_eq_true (by omega))]
  rw [branch_of (inS (by omega)), branch_of (inS (by omega))]
  rw [if_pos ⟨by omega, by omega⟩, branch_of (okB (b := 0) (by first | omega | (simp only [List.length_set]; omega)))]
  rw [if_pos ⟨by omega, by omega⟩, branch_of (okB (b := 0) (by first | omega | (simp only [List.length_set]; omega)))]
  rw [branch_of (inS (by omega)), branch_of (inS (by omega))]
  rw [if_pos ⟨by omega, by omega⟩, branch_of (okB (b := 0) (by first | omega | (simp only [List.length_set]; omega)))]
  rw [if_pos ⟨by omega, by omega⟩, branch_of (okB (b := 0) (by first | omega | (simp only [List.length_set]; omega)))]
  rw [branch_of (decide_eq_true (by omega))]
  rw [branch_of (inS (by omega)), branch_of (inS (by omega))]
  rw [if_pos ⟨by omega, by omega⟩, branch_of (okB (b := 0) (by first | omega | (simp only [List.length_set]; omega)))]
  rw [if_pos ⟨by omega, by omega⟩, branch_of (okB (b := 0) (by first | omega | (simp only [List.length_set]; omega)))]
  rw [branch_not (decide_eq_false (by omega))]
  have e0 : U % 10000 % 100 % 10 = U / 10 ^ 0 % 10 := by omega
  have e1 : U % 10000 % 100 / 10 = U / 10 ^ 1 % 10 := by omega
  have e2 : U % 10000 / 100 % 10 = U / 10 ^ 2 % 10 := by omega
  have e3 : U % 10000 / 100 / 10 = U / 10 ^ 3 % 10 := by omega
  have e4 : U / 10000 % 100 % 10 = U / 10 ^ 4 % 10 := by omega
  have e5 : U / 10000 % 100 / 10 = U / 10 ^ 5 % 10 := by omega
  rw [e0, e1, e2, e3, e4, e5]
  rfl

theorem fb_t7 (F n c U : Nat) (l : List Nat) (os : List Ob) (tk : List (Nat × Nat)) (hn : 7 ≤ n) (hl : l.length = 24) (h20 : n ≤ 20) (hU : U < 10000000) :
    fbK F (.exit 0) (Env.mk 167 [(0, .ms 0 1 1 n c), (1, .int .u64 (U : Int)), (4, .int .i64 ((7 : Nat) : Int))]) ⟨.cells (bC l) :: os, tk⟩ = some (.ret (.tup []), ⟨.cells (bC (wr l U 7 7)) :: os, tk⟩) := by
  rw [fbK, fb_out]
  simp (disch := omega) only [tm4, tm2, td4, td2, w32, w64, w8, m2, a1, a48, ds1, ds2, ds3, ds4, vOdd, vEven, Int.toNat_natCast, Nat.mul_one]
  simp (disch := (first | omega | (simp only [List.length_set]; omega))) only [setC_byte]
  rw [branch_of (decide_eq_true (by omega))]
  rw [branch_of (inS (by omega)), branch_of (inS (by omega))]
  rw [if_pos ⟨by omega, by omega⟩, branch_of (okB (b := 0) (by first | omega | (simp only [List.length_set]; omega)))]
  rw [if_pos ⟨by omega, by omega⟩, branch_of (okB (b := 0) (by first | omega | (simp only [List.length_set]; omega)))]
  rw [branch_of (inS (by omega)), branch_of (inS (by omega))]
  rw [if_pos ⟨by omega, by omega⟩, branch_of (okB (b := 0) (by first | omega | (simp only [List.length_set]; omega)))]
  rw [if_pos ⟨by omega, by omega⟩, branch_of (okB (b := 0) (by first | omega | (simp only [List.length_set]; omega)))]
  rw [branch_of (decide_eq_true (by omega))]
  rw [branch_of (inS (by omega)), branch_of (inS (by omega))]
  rw [if_pos ⟨by omega, by omega⟩, branch_of (okB (b := 0) (by first | omega | (simp only [List.length_set]; omega)))]
  rw [if_pos ⟨by omega, by omega⟩, branch_of (okB (b := 0) (by first | omega | (simp only [List.length_set]; omega)))]
  rw [branch_of (decide_eq_true (by omega))]
  rw [if_pos ⟨by omega, by omega⟩, branch_of (okB (b := 0) (by first | omega | (simp only [List.length_set]; omega)))]
  have e0 : U % 10000 % 100 % 10 = U / 10 ^ 0 % 10 := by omega
  have e1 : U % 10000 % 100 / 10 = U / 10 ^ 1 % 10 := by omega
  have e2 : U % 10000 / 100 % 10 = U / 10 ^ 2 % 10 := by omega
  have e3 : U % 10000 / 100 / 10 = U / 10 ^ 3 % 10 := by omega
  have e4 : U / 10000 % 100 % 10 = U / 10 ^ 4 % 10 := by omega
  have e5 : U / 10000 % 100 / 10 = U / 10 ^ 5 % 10 := by omega
  rw [e0, e1, e2, e3, e4, e5]
  have ez : U / 10000 / 100 = U / 10 ^ 6 % 10 := by omega
  rw [ez]
  rfl

theorem fb_tail (F n c U D : Nat) (l : List Nat) (os : List Ob) (tk : List (Nat × Nat)) (h8 : D < 8) (hn : D ≤ n) (hl : l.length = 24) (h20 : n ≤ 20) (hU : U < 10 ^ D) :
    fbK F (.exit 0) (Env.mk 167 [(0, .ms 0 1 1 n c), (1, .int .u64 (U : Int)), (4, .int .i64 (D : Int))]) ⟨.cells (bC l) :: os, tk⟩ = some (.ret (.tup []), ⟨.cells (bC (wr l U D D)) :: os, tk⟩) := by
  match D, h8, hn, hU with
  | 0, _, hn, hU => exact fb_t0 F n c U l os tk hn hl h20 hU
  | 1, _, hn, hU => exact fb_t1 F n c U l os tk hn hl h20 hU
  | 2, _, hn, hU => exact fb_t2 F n c U l os tk hn hl h20 hU
  | 3, _, hn, hU => exact fb_t3 F n c U l os tk hn hl h20 hU
  | 4, _, hn, hU => exact fb_t4 F n c U l os tk hn hl h20 hU
  | 5, _, hn, hU => exact fb_t5 F n c U l os tk hn hl h20 hU
  | 6, _, hn, hU => exact fb_t6 F n c U l os tk hn hl h20 hU
  | 7, _, hn, hU => exact fb_t7 F n c U l os tk hn hl h20 hU
theorem fb_all (F n c : Nat) (os : List Ob) (tk : List (Nat × Nat)) (h20 : n ≤ 20) : ∀ (m D U : Nat) (l : List Nat), D < 8 * m → D ≤ n → l.length = 24 → U < 10 ^ D → U < 18446744073709551616 →
    loopRun (f86_l0.run F) [0, 1, 4] (fbK F) m (Env.mk 167 [(0, .ms 0 1 1 n c), (1, .int .u64 (U : Int)), (4, .int .i64 (D : Int))]) ⟨.cells (bC l) :: os, tk⟩ = some (.ret (.tup []), ⟨.cells (bC (wr l U D D)) :: os, tk⟩)
  | 0, D, U, l, h, _, _, _, _ => by omega
  | m + 1, D, U, l, h, hn, hl, hU, hU2 => by
    rw [show m + 1 = m.succ from rfl]
    by_cases h8 : D < 8
    · rw [fb_round, branch_not (decide_eq_false (by omega))]
      exact fb_tail F n c U D l os tk h8 hn hl h20 hU
    · have hd : U / 10 ^ 8 < 10 ^ (D - 8) := by
        rw [Nat.div_lt_iff_lt_mul (by decide), ← Nat.pow_add, show D - 8 + 8 = D by omega]; exact hU
      rw [fb_step F m (fbK F) n c U D l os tk (by omega) hn hl h20 hU2, fb_all F n c os tk h20 m (D - 8) (U / 10 ^ 8) _ (by omega) (by omega) (by rw [wr_len]; exact hl) hd (Nat.lt_of_le_of_lt (Nat.div_le_self _ _) hU2), wr_add, show 8 + (D - 8) = D by omega]
theorem fb_eq {F : Nat} (hF : 2 < F) (n c U : Nat) (l : List Nat) (os : List Ob) (tk : List (Nat × Nat)) (h20 : n ≤ 20) (hl : l.length = 24) (hU : U < 10 ^ n) (hU2 : U < 18446744073709551616) :
    f86.run F [.ms 0 1 1 n c, .int .u64 (U : Int)] ⟨.cells (bC l) :: os, tk⟩ = some (.ret (.tup []), ⟨.cells (bC (wr l U n n)) :: os, tk⟩) := by
  rw [fb_run]
  exact fb_all F n c os tk h20 F n U l (by omega) (Nat.le_refl _) hl hU hU2
end Go.Proofs.YtcfedmheblbdnaaDoor.V

/- Values: formatBase10 and small, as callees. -/
set_option linter.unusedVariables false
namespace Go.Proofs.YtcfedmheblbdnaaDoor.V
open Go Go.V Go.RowKit

def unB (C : List AV) : List Nat := C.map fun x => (hdI [x]).toNat
theorem unB_bC (l : List Nat) : unB (bC l) = l := by
  simp only [unB, bC, List.map_map]
  conv => rhs; rw [← List.map_id l]
  exact List.map_congr_left fun x _ => rfl
noncomputable def fbOk (C : List AV) (n : Nat) (u : Int) : Bool := cdec (C = bC (unB C) ∧ C.length = 24 ∧ n ≤ 20 ∧ 0 ≤ u ∧ u < ((10 ^ n : Nat) : Int) ∧ u < 18446744073709551616)
noncomputable def wrC (C : List AV) (u : Int) (n : Nat) : List AV := opq (bC (wr (unB C) u.toNat n n))
/-- formatBase10 of the one array, from its second byte on. -/
noncomputable def s86 : OrcS Tryd.prog := f86.cps
  (fun args st k => match args with
    | [.ms 0 1 1 n c, .int .u64 u] => match st.objs with
      | .cells C :: os => match fbOk C n u with
        | true => k (.ret (.tup [])) ⟨.cells (wrC C u n) :: os, st.tk⟩
        | false => none
      | _ => none
    | _ => none)
  fun args st k fin h => by
    obtain ⟨objs, tk⟩ := st
    split at h
    · rename_i n c u
      simp only at h
      split at h
      · rename_i C os
        split at h
        · rename_i hk
          obtain ⟨h1, h2, h3, h4, h5, h6⟩ := cdec_iff.mp hk
          obtain ⟨U, rfl⟩ := Int.eq_ofNat_of_zero_le h4
          have hr := fb_eq (F := 3) (by omega) n c U (unB C) os tk h3 (by simp [unB, h2]) (by omega) (by omega)
          rw [← h1] at hr
          refine ⟨_, _, h, 3, ?_⟩
          rw [hr, wrC, opq_eq, Int.toNat_natCast]
        · cases h
      · cases h
    · cases h
/-- The last n digits of a number. -/
def digs (U n : Nat) : List Nat := (List.range n).map fun j => 48 + U / 10 ^ (n - 1 - j) % 10
theorem sm_sub {i : Nat} (h : i < 100) : ((strL tx_730b8f).take (i * 2 + 2)).drop (i * 2) = digs i 2 := by
  have h1 := sm_len
  have h2 := sm_tab ⟨i, h⟩
  simp only [List.getD_eq_getElem?_getD] at h2
  rw [List.getElem?_eq_getElem (by omega), List.getElem?_eq_getElem (by omega)] at h2
  simp only [Option.getD_some] at h2
  rw [List.drop_take, show i * 2 + 2 - i * 2 = 2 by omega, List.drop_eq_getElem_cons (by omega), List.drop_eq_getElem_cons (by omega), List.take_succ_cons, List.take_succ_cons, List.take_zero, h2.1, h2.2]
  show [48 + i / 10, 48 + i % 10] = [48 + i / 10 ^ 1 % 10, 48 + i / 10 ^ 0 % 10]
  rw [show i / 10 ^ 1 % 10 = i / 10 by omega, show i / 10 ^ 0 % 10 = i % 10 by omega]
end Go.Proofs.YtcfedmheblbdnaaDoor.V

/- The functions' pieces, as told by gen.py. -/
set_option linter.unusedVariables false
set_option maxRecDepth 20000
namespace Go.Proofs.YtcfedmheblbdnaaDoor.V
open Go Go.V Go.RowKit

theorem ze105 : (Tryd.prog.info? 105).bind (·.zero) = some (.agg #[(.int .u8 0), (.int .u8 0), (.int .u8 0), (.int .u8 0), (.int .u8 0), (.int .u8 0), (.int .u8 0), (.int .u8 0), (.int .u8 0), (.int .u8 0), (.int .u8 0), (.int .u8 0), (.int .u8 0), (.int .u8 0), (.int .u8 0), (.int .u8 0), (.int .u8 0), (.int .u8 0), (.int .u8 0), (.int .u8 0), (.int .u8 0), (.int .u8 0), (.int .u8 0), (.int .u8 0)]) := by kernel_rfl

/-! ### 72: internal/strconv.FormatInt (2, 3); results 4; slots: 0 i, 1 base, 2 i, 3 base, 5 a, 6 u, 7 nd, 8 _, 9 s -/
noncomputable def f72_b : Sim Tryd.prog :=
 (.seq (.live [0, 1] (.region 0 [
 ⟨(opAssign (some 4) (.const (Value.string { data := #[] })) 9 "itoa.go:29" #[]).op, none⟩
 ] (by kernel_rfl)))
 (.seq (.seq (.live [0, 1, 11] (.region 1 [
 ⟨(opMove (some 10) (.tmp 1) 3 "itoa.go:30" #[]).op, none⟩,
 ⟨(opBin (some 11) .eql 3 (.tmp 10) (.const (Value.int IntKind.i64 10)) 3 4 "itoa.go:30" #[eD 0]).op, none⟩
 ] (by kernel_rfl)))
 (.cond (.tmp 11)
 (.seq (.seq (.live [0, 17] (.region 2 [
 ⟨(opMove (some 12) (.tmp 0) 2 "itoa.go:31" #[]).op, none⟩,
 ⟨(opBin (some 13) .leq 2 (.const (Value.int IntKind.i64 0)) (.tmp 12) 2 4 "itoa.go:31" #[eD 0]).op, none⟩,
 ⟨(opMove (some 14) (.tmp 13) 4 "itoa.go:31" #[eD 1]).op, none⟩,
 ⟨(opMove (some 15) (.tmp 0) 2 "itoa.go:31" #[eG 2]).op, (some (2, 14, true))⟩,
 ⟨(opBin (some 16) .lss 2 (.tmp 15) (.const (Value.int IntKind.i64 100)) 2 4 "itoa.go:31" #[eD 3, eG 2]).op, (some (2, 14, true))⟩,
 ⟨(opPick (some 17) (.tmp 14) (.tmp 16) (.const (Value.bool false)) 4 "itoa.go:31" #[eD 2, eD 4]).op, none⟩
 ] (by kernel_rfl)))
 (.cond (.tmp 17)
 (.seq (.live [4] (.region 3 [
 ⟨(opMove (some 18) (.tmp 0) 2 "itoa.go:32" #[]).op, none⟩,
 ⟨opCall (f84.orc 0) (some 19) [(.tmp 18)] #[3] 9 "itoa.go:32" #[eD 0], none⟩,
 ⟨(opAssign (some 4) (.tmp 19) 9 "itoa.go:32" #[eD 1, eC 1, eP 0, eP 1]).op, none⟩
 ] (by kernel_rfl)))
 (.live [4] .ret))
 .skip))
 (.seq (.live [0, 5] (.region 4 [
 ⟨(opAllocZ 24 (AV.int .u8 0) (some 5) 105 (.agg #[(.int .u8 0), (.int .u8 0), (.int .u8 0), (.int .u8 0), (.int .u8 0), (.int .u8 0), (.int .u8 0), (.int .u8 0), (.int .u8 0), (.int .u8 0), (.int .u8 0), (.int .u8 0), (.int .u8 0), (.int .u8 0), (.int .u8 0), (.int .u8 0), (.int .u8 0), (.int .u8 0), (.int .u8 0), (.int .u8 0), (.int .u8 0), (.int .u8 0), (.int .u8 0), (.int .u8 0)]) ze105 (by kernel_rfl) 0 "itoa.go:34" #[]).op, none⟩
 ] (by kernel_rfl)))
 (.seq (.live [0, 5, 6] (.region 5 [
 ⟨(opMove (some 20) (.tmp 0) 2 "itoa.go:35" #[]).op, none⟩,
 ⟨(opConvInt (some 21) 2 84 (.tmp 20) (.int .i64) Tryd.underlying2 .u64 Tryd.underlying84 84 "itoa.go:35" #[eD 0]).op, none⟩,
 ⟨(opAssign (some 6) (.tmp 21) 84 "itoa.go:35" #[eD 1, eP 0, eP 1]).op, none⟩
 ] (by kernel_rfl)))
 (.seq (.seq (.live [0, 5, 6, 23] (.region 6 [
 ⟨(opMove (some 22) (.tmp 0) 2 "itoa.go:36" #[]).op, none⟩,
 ⟨(opBin (some 23) .lss 2 (.tmp 22) (.const (Value.int IntKind.i64 0)) 2 4 "itoa.go:36" #[eD 0]).op, none⟩
 ] (by kernel_rfl)))
 (.cond (.tmp 23)
 (.live [0, 5, 6] (.region 7 [
 ⟨(opMove (some 24) (.tmp 6) 84 "itoa.go:37" #[]).op, none⟩,
 ⟨(opNeg (some 25) 84 (.tmp 24) 84 "itoa.go:37" #[eD 0]).op, none⟩,
 ⟨(opAssign (some 6) (.tmp 25) 84 "itoa.go:37" #[eD 1, eP 0, eP 1]).op, none⟩
 ] (by kernel_rfl)))
 .skip))
 (.seq (.live [0, 5, 6, 7] (.region 8 [
 ⟨(opMove (some 26) (.tmp 6) 84 "itoa.go:39" #[]).op, none⟩,
 ⟨(opCallP p85 (some 27) [(.tmp 26)] #[84] 3 "itoa.go:39" #[eD 0]).op, none⟩,
 ⟨(opAssign (some 7) (.tmp 27) 3 "itoa.go:39" #[eD 1, eC 1, eP 0, eP 1]).op, none⟩
 ] (by kernel_rfl)))
 (.seq (.live [0, 5, 7] (.region 9 [
 ⟨(opMove (some 28) (.tmp 7) 3 "itoa.go:40" #[]).op, none⟩,
 ⟨(opBin (some 29) .add 3 (.const (Value.int IntKind.i64 1)) (.tmp 28) 3 3 "itoa.go:40" #[eD 0]).op, none⟩,
 ⟨(opSliceB (some 30) 105 (.tmp 5) (some (.const (Value.int IntKind.i64 1))) (some (.tmp 29)) none 24 5 1 Tryd.underlying105 (by decide) sz5 46 "itoa.go:40" #[eD 1]).op, none⟩,
 ⟨(opMove (some 31) (.tmp 6) 84 "itoa.go:40" #[]).op, none⟩,
 ⟨opCall (s86).orc (some 32) [(.tmp 30), (.tmp 31)] #[46, 84] 0 "itoa.go:40" #[eD 2, eD 3], none⟩
 ] (by kernel_rfl)))
 (.seq (.seq (.live [5, 7, 34] (.region 10 [
 ⟨(opMove (some 33) (.tmp 0) 2 "itoa.go:41" #[]).op, none⟩,
 ⟨(opBin (some 34) .lss 2 (.tmp 33) (.const (Value.int IntKind.i64 0)) 2 4 "itoa.go:41" #[eD 0]).op, none⟩
 ] (by kernel_rfl)))
 (.cond (.tmp 34)
 (.seq (.live [5, 7] (.region 11 [
 ⟨(opIndexAddrA (some 35) 105 (.tmp 5) (.const (Value.int IntKind.i64 0)) 24 5 1 Tryd.underlying105 sz5 0 "itoa.go:42" #[]).op, none⟩,
 ⟨(opStore none 5 (.tmp 35) (.const (Value.int IntKind.u8 45)) 1 sz5 0 "itoa.go:42" #[eD 0]).op, none⟩
 ] (by kernel_rfl)))
 (.seq (.live [4] (.region 12 [
 ⟨(opMove (some 36) (.tmp 7) 3 "itoa.go:43" #[]).op, none⟩,
 ⟨(opBin (some 37) .add 3 (.const (Value.int IntKind.i64 1)) (.tmp 36) 3 3 "itoa.go:43" #[eD 0]).op, none⟩,
 ⟨(opSliceB (some 38) 105 (.tmp 5) none (some (.tmp 37)) none 24 5 1 Tryd.underlying105 (by decide) sz5 46 "itoa.go:43" #[eD 1]).op, none⟩,
 ⟨(opBytesStr (some 39) 46 9 (.tmp 38) 5 Tryd.underlying46 Tryd.underlying5 Tryd.underlying9 9 "itoa.go:43" #[eD 2]).op, none⟩,
 ⟨(opAssign (some 4) (.tmp 39) 9 "itoa.go:43" #[eD 3, eP 0, eP 1, eP 2, eP 3]).op, none⟩
 ] (by kernel_rfl)))
 (.live [4] .ret)))
 .skip))
 (.seq (.live [4] (.region 13 [
 ⟨(opMove (some 40) (.tmp 7) 3 "itoa.go:45" #[]).op, none⟩,
 ⟨(opBin (some 41) .add 3 (.const (Value.int IntKind.i64 1)) (.tmp 40) 3 3 "itoa.go:45" #[eD 0]).op, none⟩,
 ⟨(opSliceB (some 42) 105 (.tmp 5) (some (.const (Value.int IntKind.i64 1))) (some (.tmp 41)) none 24 5 1 Tryd.underlying105 (by decide) sz5 46 "itoa.go:45" #[eD 1]).op, none⟩,
 ⟨(opBytesStr (some 43) 46 9 (.tmp 42) 5 Tryd.underlying46 Tryd.underlying5 Tryd.underlying9 9 "itoa.go:45" #[eD 2]).op, none⟩,
 ⟨(opAssign (some 4) (.tmp 43) 9 "itoa.go:45" #[eD 3, eP 0, eP 1, eP 2, eP 3]).op, none⟩
 ] (by kernel_rfl)))
 (.live [4] .ret)))))))))
 .skip))
 (.seq (.live [9] (.region 14 [
 ⟨(opMove (some 45) (.tmp 0) 2 "itoa.go:47" #[]).op, none⟩,
 ⟨(opConvInt (some 46) 2 84 (.tmp 45) (.int .i64) Tryd.underlying2 .u64 Tryd.underlying84 84 "itoa.go:47" #[eD 0]).op, none⟩,
 ⟨(opMove (some 47) (.tmp 1) 3 "itoa.go:47" #[]).op, none⟩,
 ⟨(opMove (some 48) (.tmp 0) 2 "itoa.go:47" #[]).op, none⟩,
 ⟨(opBin (some 49) .lss 2 (.tmp 48) (.const (Value.int IntKind.i64 0)) 2 4 "itoa.go:47" #[eD 3]).op, none⟩,
 ⟨opCall (Orc.dead 87 Tryd.f87 Tryd.func87 (by kernel_rfl) (by kernel_rfl)) (some 50) [(.const (Value.slice none 0 0)), (.tmp 46), (.tmp 47), (.tmp 49), (.const (Value.bool false))] #[46, 84, 3, 4, 4] 107 "itoa.go:47" #[eD 1, eD 2, eD 4], none⟩,
 ⟨(opMove (some 44) (.tmp 50) 107 "itoa.go:47" #[eD 5]).op, none⟩,
 ⟨(opExtract (some 51) (.tmp 44) 0 46 "itoa.go:47" #[eD 6]).op, none⟩,
 ⟨(opExtract (some 52) (.tmp 44) 1 9 "itoa.go:47" #[eD 6, { on := 9, ground := (Ground.gcOnly Departure.lateStores) }]).op, none⟩,
 ⟨(opAssign (some 8) (.tmp 51) 46 "itoa.go:47" #[eD 7, eC 5, eP 0, eP 1, eP 2, eP 3, eP 4, eP 5, eP 6, eP 7, { on := 8, ground := (Ground.textOnly Departure.lateStores) }]).op, none⟩,
 ⟨(opAssign (some 9) (.tmp 52) 9 "itoa.go:47" #[eD 8, eC 9, eP 0, eP 1, eP 2, eP 3, eP 4, eP 5, eP 6, eP 7, eP 8, eP 9]).op, none⟩
 ] (by kernel_rfl)))
 (.seq (.live [4] (.region 15 [
 ⟨(opMove (some 53) (.tmp 9) 9 "itoa.go:48" #[]).op, none⟩,
 ⟨(opAssign (some 4) (.tmp 53) 9 "itoa.go:48" #[eD 0, eP 0]).op, none⟩
 ] (by kernel_rfl)))
 (.live [4] .ret)))))

noncomputable def f72 : Fun Tryd.prog where
 id := 72
 fn := Tryd.f72
 hf := Tryd.func72
 hname := by kernel_rfl
 body := f72_b
 hbody := by kernel_rfl
 res := [rTmp 4]
 hres := by kernel_rfl
 n := 54
 hn := by kernel_rfl

end Go.Proofs.YtcfedmheblbdnaaDoor.V

/- What the functions' runs come to; the right sides were printed by a tool, Lean checks them. -/
set_option linter.unusedVariables false
set_option maxRecDepth 100000
namespace Go.Proofs.YtcfedmheblbdnaaDoor.V
open Go Go.V Go.RowKit

theorem fi_run (F : Nat) (i : Int) :
 (f72.run F [.int .i64 i, .int .i64 10] ⟨[], []⟩ : Ans) =
 branch (AV.bool (decide ((0 : Int) ≤ i)))
 (branch (AV.bool (decide (i < (100 : Int))))
 (branch (AV.bool (decide (i < (10 : Int))))
 (branch (AV.bool (inSl tx_b18925 i (IntKind.i64.wrap (i + (1 : Int)))))
 (some (Fin.ret (AV.str (subT tx_b18925 i (IntKind.i64.wrap (i + (1 : Int))))), St.mk [] [])) none)
 (branch
 (AV.bool
 (inSl tx_730b8f (IntKind.i64.wrap (i * (2 : Int)))
 (IntKind.i64.wrap (IntKind.i64.wrap (i * (2 : Int)) + (2 : Int)))))
 (some
 (Fin.ret
 (AV.str
 (subT tx_730b8f (IntKind.i64.wrap (i * (2 : Int)))
 (IntKind.i64.wrap (IntKind.i64.wrap (i * (2 : Int)) + (2 : Int))))),
 St.mk [] []))
 none))
 (branch (AV.bool (decide (i < (0 : Int))))
 (branch (AV.bool (okW (IntKind.u64.wrap ((0 : Int) - IntKind.u64.wrap i))))
 (if
 (0 : Int) ≤ IntKind.i64.wrap ((1 : Int) + ndO (IntKind.u64.wrap ((0 : Int) - IntKind.u64.wrap i))) ∧
 IntKind.i64.wrap ((1 : Int) + ndO (IntKind.u64.wrap ((0 : Int) - IntKind.u64.wrap i))) ≤ (24 : Int) then
 if
 (0 : Int) ≤ (1 : Int) ∧
 (1 : Int) ≤
 (↑(IntKind.i64.wrap ((1 : Int) + ndO (IntKind.u64.wrap ((0 : Int) - IntKind.u64.wrap i)))).toNat :
 Int) then
 branch
 (AV.bool
 (fbOk (zAr 24 (AV.int IntKind.u8 (0 : Int)))
 ((IntKind.i64.wrap ((1 : Int) + ndO (IntKind.u64.wrap ((0 : Int) - IntKind.u64.wrap i)))).toNat -
 1)
 (IntKind.u64.wrap ((0 : Int) - IntKind.u64.wrap i))))
 (branch (AV.bool (decide (i < (0 : Int))))
 (if
 1 = 1 ∧
 1 ≤
 (wrC (zAr 24 (AV.int IntKind.u8 (0 : Int)))
 (IntKind.u64.wrap ((0 : Int) - IntKind.u64.wrap i))
 ((IntKind.i64.wrap
 ((1 : Int) + ndO (IntKind.u64.wrap ((0 : Int) - IntKind.u64.wrap i)))).toNat -
 1)).length then
 if
 (0 : Int) ≤
 IntKind.i64.wrap ((1 : Int) + ndO (IntKind.u64.wrap ((0 : Int) - IntKind.u64.wrap i))) ∧
 IntKind.i64.wrap ((1 : Int) + ndO (IntKind.u64.wrap ((0 : Int) - IntKind.u64.wrap i))) ≤
 (24 : Int) then
 onSome
 (rowsA 1
 (AV.ms 0 1 0
 ((IntKind.i64.wrap
 ((1 : Int) + ndO (IntKind.u64.wrap ((0 : Int) - IntKind.u64.wrap i)))).toNat -
 0)
 24)
 (St.mk
 [Ob.cells
 (setAt
 (wrC (zAr 24 (AV.int IntKind.u8 (0 : Int)))
 (IntKind.u64.wrap ((0 : Int) - IntKind.u64.wrap i))
 ((IntKind.i64.wrap
 ((1 : Int) + ndO (IntKind.u64.wrap ((0 : Int) - IntKind.u64.wrap i)))).toNat -
 1))
 0 [AV.int IntKind.u8 (45 : Int)])]
 []))
 none fun (o : List (List AV)) =>
 onSome (numsOf o) none fun (o : List Int) =>
 some
 (Fin.ret (AV.str (textOf o)),
 St.mk
 [Ob.cells
 (setAt
 (wrC (zAr 24 (AV.int IntKind.u8 (0 : Int)))
 (IntKind.u64.wrap ((0 : Int) - IntKind.u64.wrap i))
 ((IntKind.i64.wrap
 ((1 : Int) +
 ndO (IntKind.u64.wrap ((0 : Int) - IntKind.u64.wrap i)))).toNat -
 1))
 0 [AV.int IntKind.u8 (45 : Int)])]
 [])
 else none
 else none)
 (if
 (0 : Int) ≤ IntKind.i64.wrap ((1 : Int) + ndO (IntKind.u64.wrap ((0 : Int) - IntKind.u64.wrap i))) ∧
 IntKind.i64.wrap ((1 : Int) + ndO (IntKind.u64.wrap ((0 : Int) - IntKind.u64.wrap i))) ≤
 (24 : Int) then
 if
 (0 : Int) ≤ (1 : Int) ∧
 (1 : Int) ≤
 (↑(IntKind.i64.wrap
 ((1 : Int) + ndO (IntKind.u64.wrap ((0 : Int) - IntKind.u64.wrap i)))).toNat :
 Int) then
 onSome
 (rowsA 1
 (AV.ms 0 1 1
 ((IntKind.i64.wrap
 ((1 : Int) + ndO (IntKind.u64.wrap ((0 : Int) - IntKind.u64.wrap i)))).toNat -
 1)
 23)
 (St.mk
 [Ob.cells
 (wrC (zAr 24 (AV.int IntKind.u8 (0 : Int)))
 (IntKind.u64.wrap ((0 : Int) - IntKind.u64.wrap i))
 ((IntKind.i64.wrap
 ((1 : Int) + ndO (IntKind.u64.wrap ((0 : Int) - IntKind.u64.wrap i)))).toNat -
 1))]
 []))
 none fun (o : List (List AV)) =>
 onSome (numsOf o) none fun (o : List Int) =>
 some
 (Fin.ret (AV.str (textOf o)),
 St.mk
 [Ob.cells
 (wrC (zAr 24 (AV.int IntKind.u8 (0 : Int)))
 (IntKind.u64.wrap ((0 : Int) - IntKind.u64.wrap i))
 ((IntKind.i64.wrap
 ((1 : Int) + ndO (IntKind.u64.wrap ((0 : Int) - IntKind.u64.wrap i)))).toNat -
 1))]
 [])
 else none
 else none))
 none
 else none
 else none)
 none)
 (branch (AV.bool (okW (IntKind.u64.wrap i)))
 (if
 (0 : Int) ≤ IntKind.i64.wrap ((1 : Int) + ndO (IntKind.u64.wrap i)) ∧
 IntKind.i64.wrap ((1 : Int) + ndO (IntKind.u64.wrap i)) ≤ (24 : Int) then
 if
 (0 : Int) ≤ (1 : Int) ∧
 (1 : Int) ≤ (↑(IntKind.i64.wrap ((1 : Int) + ndO (IntKind.u64.wrap i))).toNat : Int) then
 branch
 (AV.bool
 (fbOk (zAr 24 (AV.int IntKind.u8 (0 : Int)))
 ((IntKind.i64.wrap ((1 : Int) + ndO (IntKind.u64.wrap i))).toNat - 1) (IntKind.u64.wrap i)))
 (branch (AV.bool (decide (i < (0 : Int))))
 (if
 1 = 1 ∧
 1 ≤
 (wrC (zAr 24 (AV.int IntKind.u8 (0 : Int))) (IntKind.u64.wrap i)
 ((IntKind.i64.wrap ((1 : Int) + ndO (IntKind.u64.wrap i))).toNat - 1)).length then
 if
 (0 : Int) ≤ IntKind.i64.wrap ((1 : Int) + ndO (IntKind.u64.wrap i)) ∧
 IntKind.i64.wrap ((1 : Int) + ndO (IntKind.u64.wrap i)) ≤ (24 : Int) then
 onSome
 (rowsA 1
 (AV.ms 0 1 0
 ((IntKind.i64.wrap ((1 : Int) + ndO (IntKind.u64.wrap i))).toNat - 0) 24)
 (St.mk
 [Ob.cells
 (setAt
 (wrC (zAr 24 (AV.int IntKind.u8 (0 : Int))) (IntKind.u64.wrap i)
 ((IntKind.i64.wrap ((1 : Int) + ndO (IntKind.u64.wrap i))).toNat - 1))
 0 [AV.int IntKind.u8 (45 : Int)])]
 []))
 none fun (o : List (List AV)) =>
 onSome (numsOf o) none fun (o : List Int) =>
 some
 (Fin.ret (AV.str (textOf o)),
 St.mk
 [Ob.cells
 (setAt
 (wrC (zAr 24 (AV.int IntKind.u8 (0 : Int))) (IntKind.u64.wrap i)
 ((IntKind.i64.wrap ((1 : Int) + ndO (IntKind.u64.wrap i))).toNat - 1))
 0 [AV.int IntKind.u8 (45 : Int)])]
 [])
 else none
 else none)
 (if
 (0 : Int) ≤ IntKind.i64.wrap ((1 : Int) + ndO (IntKind.u64.wrap i)) ∧
 IntKind.i64.wrap ((1 : Int) + ndO (IntKind.u64.wrap i)) ≤ (24 : Int) then
 if
 (0 : Int) ≤ (1 : Int) ∧
 (1 : Int) ≤ (↑(IntKind.i64.wrap ((1 : Int) + ndO (IntKind.u64.wrap i))).toNat : Int) then
 onSome
 (rowsA 1
 (AV.ms 0 1 1
 ((IntKind.i64.wrap ((1 : Int) + ndO (IntKind.u64.wrap i))).toNat - 1) 23)
 (St.mk
 [Ob.cells
 (wrC (zAr 24 (AV.int IntKind.u8 (0 : Int))) (IntKind.u64.wrap i)
 ((IntKind.i64.wrap ((1 : Int) + ndO (IntKind.u64.wrap i))).toNat - 1))]
 []))
 none fun (o : List (List AV)) =>
 onSome (numsOf o) none fun (o : List Int) =>
 some
 (Fin.ret (AV.str (textOf o)),
 St.mk
 [Ob.cells
 (wrC (zAr 24 (AV.int IntKind.u8 (0 : Int))) (IntKind.u64.wrap i)
 ((IntKind.i64.wrap ((1 : Int) + ndO (IntKind.u64.wrap i))).toNat - 1))]
 [])
 else none
 else none))
 none
 else none
 else none)
 none)))
 (branch (AV.bool (decide (i < (0 : Int))))
 (branch (AV.bool (okW (IntKind.u64.wrap ((0 : Int) - IntKind.u64.wrap i))))
 (if
 (0 : Int) ≤ IntKind.i64.wrap ((1 : Int) + ndO (IntKind.u64.wrap ((0 : Int) - IntKind.u64.wrap i))) ∧
 IntKind.i64.wrap ((1 : Int) + ndO (IntKind.u64.wrap ((0 : Int) - IntKind.u64.wrap i))) ≤ (24 : Int) then
 if
 (0 : Int) ≤ (1 : Int) ∧
 (1 : Int) ≤
 (↑(IntKind.i64.wrap ((1 : Int) + ndO (IntKind.u64.wrap ((0 : Int) - IntKind.u64.wrap i)))).toNat :
 Int) then
 branch
 (AV.bool
 (fbOk (zAr 24 (AV.int IntKind.u8 (0 : Int)))
 ((IntKind.i64.wrap ((1 : Int) + ndO (IntKind.u64.wrap ((0 : Int) - IntKind.u64.wrap i)))).toNat -
 1)
 (IntKind.u64.wrap ((0 : Int) - IntKind.u64.wrap i))))
 (branch (AV.bool (decide (i < (0 : Int))))
 (if
 1 = 1 ∧
 1 ≤
 (wrC (zAr 24 (AV.int IntKind.u8 (0 : Int)))
 (IntKind.u64.wrap ((0 : Int) - IntKind.u64.wrap i))
 ((IntKind.i64.wrap
 ((1 : Int) + ndO (IntKind.u64.wrap ((0 : Int) - IntKind.u64.wrap i)))).toNat -
 1)).length then
 if
 (0 : Int) ≤ IntKind.i64.wrap ((1 : Int) + ndO (IntKind.u64.wrap ((0 : Int) - IntKind.u64.wrap i))) ∧
 IntKind.i64.wrap ((1 : Int) + ndO (IntKind.u64.wrap ((0 : Int) - IntKind.u64.wrap i))) ≤
 (24 : Int) then
 onSome
 (rowsA 1
 (AV.ms 0 1 0
 ((IntKind.i64.wrap
 ((1 : Int) + ndO (IntKind.u64.wrap ((0 : Int) - IntKind.u64.wrap i)))).toNat -
 0)
 24)
 (St.mk
 [Ob.cells
 (setAt
 (wrC (zAr 24 (AV.int IntKind.u8 (0 : Int)))
 (IntKind.u64.wrap ((0 : Int) - IntKind.u64.wrap i))
 ((IntKind.i64.wrap
 ((1 : Int) + ndO (IntKind.u64.wrap ((0 : Int) - IntKind.u64.wrap i)))).toNat -
 1))
 0 [AV.int IntKind.u8 (45 : Int)])]
 []))
 none fun (o : List (List AV)) =>
 onSome (numsOf o) none fun (o : List Int) =>
 some
 (Fin.ret (AV.str (textOf o)),
 St.mk
 [Ob.cells
 (setAt
 (wrC (zAr 24 (AV.int IntKind.u8 (0 : Int)))
 (IntKind.u64.wrap ((0 : Int) - IntKind.u64.wrap i))
 ((IntKind.i64.wrap
 ((1 : Int) + ndO (IntKind.u64.wrap ((0 : Int) - IntKind.u64.wrap i)))).toNat -
 1))
 0 [AV.int IntKind.u8 (45 : Int)])]
 [])
 else none
 else none)
 (if
 (0 : Int) ≤ IntKind.i64.wrap ((1 : Int) + ndO (IntKind.u64.wrap ((0 : Int) - IntKind.u64.wrap i))) ∧
 IntKind.i64.wrap ((1 : Int) + ndO (IntKind.u64.wrap ((0 : Int) - IntKind.u64.wrap i))) ≤
 (24 : Int) then
 if
 (0 : Int) ≤ (1 : Int) ∧
 (1 : Int) ≤
 (↑(IntKind.i64.wrap
 ((1 : Int) + ndO (IntKind.u64.wrap ((0 : Int) - IntKind.u64.wrap i)))).toNat :
 Int) then
 onSome
 (rowsA 1
 (AV.ms 0 1 1
 ((IntKind.i64.wrap
 ((1 : Int) + ndO (IntKind.u64.wrap ((0 : Int) - IntKind.u64.wrap i)))).toNat -
 1)
 23)
 (St.mk
 [Ob.cells
 (wrC (zAr 24 (AV.int IntKind.u8 (0 : Int)))
 (IntKind.u64.wrap ((0 : Int) - IntKind.u64.wrap i))
 ((IntKind.i64.wrap
 ((1 : Int) + ndO (IntKind.u64.wrap ((0 : Int) - IntKind.u64.wrap i)))).toNat -
 1))]
 []))
 none fun (o : List (List AV)) =>
 onSome (numsOf o) none fun (o : List Int) =>
 some
 (Fin.ret (AV.str (textOf o)),
 St.mk
 [Ob.cells
 (wrC (zAr 24 (AV.int IntKind.u8 (0 : Int)))
 (IntKind.u64.wrap ((0 : Int) - IntKind.u64.wrap i))
 ((IntKind.i64.wrap
 ((1 : Int) + ndO (IntKind.u64.wrap ((0 : Int) - IntKind.u64.wrap i)))).toNat -
 1))]
 [])
 else none
 else none))
 none
 else none
 else none)
 none)
 (branch (AV.bool (okW (IntKind.u64.wrap i)))
 (if
 (0 : Int) ≤ IntKind.i64.wrap ((1 : Int) + ndO (IntKind.u64.wrap i)) ∧
 IntKind.i64.wrap ((1 : Int) + ndO (IntKind.u64.wrap i)) ≤ (24 : Int) then
 if
 (0 : Int) ≤ (1 : Int) ∧
 (1 : Int) ≤ (↑(IntKind.i64.wrap ((1 : Int) + ndO (IntKind.u64.wrap i))).toNat : Int) then
 branch
 (AV.bool
 (fbOk (zAr 24 (AV.int IntKind.u8 (0 : Int)))
 ((IntKind.i64.wrap ((1 : Int) + ndO (IntKind.u64.wrap i))).toNat - 1) (IntKind.u64.wrap i)))
 (branch (AV.bool (decide (i < (0 : Int))))
 (if
 1 = 1 ∧
 1 ≤
 (wrC (zAr 24 (AV.int IntKind.u8 (0 : Int))) (IntKind.u64.wrap i)
 ((IntKind.i64.wrap ((1 : Int) + ndO (IntKind.u64.wrap i))).toNat - 1)).length then
 if
 (0 : Int) ≤ IntKind.i64.wrap ((1 : Int) + ndO (IntKind.u64.wrap i)) ∧
 IntKind.i64.wrap ((1 : Int) + ndO (IntKind.u64.wrap i)) ≤ (24 : Int) then
 onSome
 (rowsA 1
 (AV.ms 0 1 0
 ((IntKind.i64.wrap ((1 : Int) + ndO (IntKind.u64.wrap i))).toNat - 0) 24)
 (St.mk
 [Ob.cells
 (setAt
 (wrC (zAr 24 (AV.int IntKind.u8 (0 : Int))) (IntKind.u64.wrap i)
 ((IntKind.i64.wrap ((1 : Int) + ndO (IntKind.u64.wrap i))).toNat - 1))
 0 [AV.int IntKind.u8 (45 : Int)])]
 []))
 none fun (o : List (List AV)) =>
 onSome (numsOf o) none fun (o : List Int) =>
 some
 (Fin.ret (AV.str (textOf o)),
 St.mk
 [Ob.cells
 (setAt
 (wrC (zAr 24 (AV.int IntKind.u8 (0 : Int))) (IntKind.u64.wrap i)
 ((IntKind.i64.wrap ((1 : Int) + ndO (IntKind.u64.wrap i))).toNat - 1))
 0 [AV.int IntKind.u8 (45 : Int)])]
 [])
 else none
 else none)
 (if
 (0 : Int) ≤ IntKind.i64.wrap ((1 : Int) + ndO (IntKind.u64.wrap i)) ∧
 IntKind.i64.wrap ((1 : Int) + ndO (IntKind.u64.wrap i)) ≤ (24 : Int) then
 if
 (0 : Int) ≤ (1 : Int) ∧
 (1 : Int) ≤ (↑(IntKind.i64.wrap ((1 : Int) + ndO (IntKind.u64.wrap i))).toNat : Int) then
 onSome
 (rowsA 1
 (AV.ms 0 1 1
 ((IntKind.i64.wrap ((1 : Int) + ndO (IntKind.u64.wrap i))).toNat - 1) 23)
 (St.mk
 [Ob.cells
 (wrC (zAr 24 (AV.int IntKind.u8 (0 : Int))) (IntKind.u64.wrap i)
 ((IntKind.i64.wrap ((1 : Int) + ndO (IntKind.u64.wrap i))).toNat - 1))]
 []))
 none fun (o : List (List AV)) =>
 onSome (numsOf o) none fun (o : List Int) =>
 some
 (Fin.ret (AV.str (textOf o)),
 St.mk
 [Ob.cells
 (wrC (zAr 24 (AV.int IntKind.u8 (0 : Int))) (IntKind.u64.wrap i)
 ((IntKind.i64.wrap ((1 : Int) + ndO (IntKind.u64.wrap i))).toNat - 1))]
 [])
 else none
 else none))
 none
 else none
 else none)
 none)) := by kernel_rfl

end Go.Proofs.YtcfedmheblbdnaaDoor.V

/- Values: a number as a text (FormatInt to the base ten). -/
set_option linter.unusedVariables false
namespace Go.Proofs.YtcfedmheblbdnaaDoor.V
open Go Go.V Go.RowKit

theorem wr_at (l : List Nat) (U D : Nat) (hl : D + 1 ≤ l.length) : ∀ k, k ≤ D → ∀ p, p < l.length → (wr l U D k)[p]? = some (if 1 + (D - k) ≤ p ∧ p < 1 + D then 48 + U / 10 ^ (D - p) % 10 else l.getD p 0)
  | 0, _, p, hp => by
    rw [wr, if_neg (by omega), List.getElem?_eq_getElem hp, List.getD_eq_getElem?_getD, List.getElem?_eq_getElem hp]; rfl
  | k + 1, hk, p, hp => by
    rw [wr, List.getElem?_set, wr_len, wr_at l U D hl k (by omega) p hp]
    by_cases h : 1 + (D - (k + 1)) = p
    · rw [if_pos h, if_pos (by omega), if_pos (by omega), show D - p = k by omega]
    · rw [if_neg h]
      by_cases h2 : 1 + (D - k) ≤ p ∧ p < 1 + D
      · rw [if_pos h2, if_pos (by omega)]
      · rw [if_neg h2, if_neg (by omega)]
theorem wr_digs (l : List Nat) (U n : Nat) (hl : n + 1 ≤ l.length) : ((wr l U n n).drop 1).take n = digs U n := by
  apply List.ext_getElem?
  intro j
  rw [List.getElem?_take, digs, List.getElem?_map]
  by_cases hj : j < n
  · rw [if_pos hj, List.getElem?_drop, wr_at l U n hl n (Nat.le_refl _) (1 + j) (by omega), if_pos (by omega), List.getElem?_range hj]
    simp only [Option.map_some]
    rw [show n - (1 + j) = n - 1 - j by omega]
  · rw [if_neg hj, List.getElem?_eq_none (by simp; omega)]; rfl
/-- A number's digits. -/
def dec (U : Nat) : List Nat := if U = 0 then [48] else digs U (ndN U)
def numL (i : Int) : List Nat := if i < 0 then 45 :: dec (-i).toNat else dec i.toNat
theorem digs_lt (U n : Nat) : ∀ b ∈ digs U n, b < 256 := by
  intro b hb
  obtain ⟨j, _, rfl⟩ := List.mem_map.mp hb
  omega
theorem dec_lt (U : Nat) : ∀ b ∈ dec U, b < 256 := by
  unfold dec
  split
  · intro b hb; simp at hb; omega
  · exact digs_lt _ _
theorem numL_lt (i : Int) : ∀ b ∈ numL i, b < 256 := by
  unfold numL
  split
  · intro b hb
    rcases List.mem_cons.mp hb with rfl | hb
    · omega
    · exact dec_lt _ b hb
  · exact dec_lt _
theorem dec_of {U n : Nat} (h1 : 1 ≤ n) (h2 : 10 ^ (n - 1) ≤ U) (h3 : U < 10 ^ n) (h4 : U < 18446744073709551616) : dec U = digs U n := by
  have h0 : U ≠ 0 := by have := Nat.pow_pos (n := n - 1) (show 0 < 10 by omega); omega
  obtain ⟨k1, k2, k3, k4⟩ := ndN_spec h0 h4
  unfold dec
  rw [if_neg h0]
  rcases Nat.lt_trichotomy n (ndN U) with h | h | h
  · have := Nat.pow_le_pow_right (n := 10) (by omega) (show n ≤ ndN U - 1 by omega); omega
  · rw [h]
  · have := Nat.pow_le_pow_right (n := 10) (by omega) (show ndN U ≤ n - 1 by omega); omega
noncomputable def showI (i : Int) : ByteArray := txt (numL i)
theorem strL_txt {l : List Nat} (h : ∀ b ∈ l, b < 256) : strL (txt l) = l := own_txt h
theorem dig_sub {i : Nat} (h : i < 10) : ((strL tx_b18925).take (i + 1)).drop i = [48 + i] := by
  have h1 : ∀ j : Fin 10, ((strL tx_b18925).take (j.val + 1)).drop j.val = [48 + j.val] := by rw [tx_b18925_eq]; decide +kernel
  exact h1 ⟨i, h⟩
theorem dig_len : (strL tx_b18925).length = 36 := by rw [tx_b18925_eq]; decide +kernel
theorem text_rows {l : List Nat} (h : ∀ b ∈ l, b < 256) : numsOf (bR l) = some (l.map fun (b : Nat) => (b : Int)) := by
  rw [numsOf_nR (okR_bR h), nR_bR]
theorem zAr_bC : zAr 24 (AV.int IntKind.u8 (0 : Int)) = bC (List.replicate 24 0) := by rw [zAr, opq_eq]; rfl
theorem fi_eq (i : Int) (h1 : -9223372036854775808 ≤ i) (h2 : i ≤ 9223372036854775807) : ∃ st', f72.run 0 [.int .i64 i, .int .i64 10] ⟨[], []⟩ = some (.ret (.str (showI i)), st') := by
  rw [fi_run]
  by_cases hneg : i < 0
  · rw [branch_not (decide_eq_false (by omega)), branch_of (decide_eq_true hneg)]
    obtain ⟨U, hU⟩ : ∃ U : Nat, -i = (U : Nat) := Int.eq_ofNat_of_zero_le (by omega)
    have hU0 : U ≠ 0 := by omega
    have hUm : U ≤ 9223372036854775808 := by omega
    have e1 : IntKind.u64.wrap (0 - IntKind.u64.wrap i) = (U : Nat) := by
      unfold IntKind.wrap
      simp only [IntKind.signed, IntKind.bits]
      simp
      omega
    obtain ⟨k1, k2, k3, k4⟩ := ndN_spec hU0 (by omega)
    have e2 : ndO ((U : Nat) : Int) = (ndN U : Nat) := by rw [ndO, opq_eq, Int.toNat_natCast]
    have e3 : IntKind.i64.wrap (1 + ((ndN U : Nat) : Int)) = ((ndN U + 1 : Nat) : Int) := by rw [wrapS (by omega) (by omega)]; omega
    have e4 : unB (bC (List.replicate 24 0)) = List.replicate 24 0 := unB_bC _
    have e5 : wrC (bC (List.replicate 24 0)) (U : Nat) (ndN U) = bC (wr (List.replicate 24 0) U (ndN U) (ndN U)) := by rw [wrC, opq_eq, e4, Int.toNat_natCast]
    have hW : (wr (List.replicate 24 0) U (ndN U) (ndN U)).length = 24 := by rw [wr_len]; rfl
    have hd := wr_digs (List.replicate 24 0) U (ndN U) (by simp; omega)
    rw [e1, e2, e3, zAr_bC, Int.toNat_natCast, Nat.add_sub_cancel, e5]
    generalize wr (List.replicate 24 0) U (ndN U) (ndN U) = W at *
    rw [branch_of (show okW (U : Int) = true from cdec_iff.mpr ⟨by omega, by omega⟩), if_pos ⟨by omega, by omega⟩, if_pos ⟨by omega, by omega⟩,
      branch_of (show fbOk (bC (List.replicate 24 0)) (ndN U) (U : Int) = true from cdec_iff.mpr ⟨by rw [e4], by simp [bC], k2, by omega, by exact_mod_cast k4, by omega⟩), branch_of (decide_eq_true hneg), if_pos ⟨rfl, by rw [bC_length, hW]; omega⟩, if_pos ⟨by omega, by omega⟩]
    have e6 : setAt (bC W) 0 [AV.int IntKind.u8 (45 : Int)] = bC (W.set 0 45) := by
      have := setC_byte (l := W) (o := 0) (b := 45) (by omega)
      rw [setC, opq_eq] at this
      exact this
    have e7 : rowsA 1 (.ms 0 1 0 (ndN U + 1 - 0) 24) ⟨[.cells (bC (W.set 0 45))], []⟩ = some (bR ((W.set 0 45).take (ndN U + 1))) := rowsOf_bC (ndN U + 1) (W.set 0 45) (by simp; omega)
    have e8 : (W.set 0 45).take (ndN U + 1) = numL i := by
      match W, hW, hd with
      | x :: W, _, hd =>
        show 45 :: W.take (ndN U) = _
        rw [numL, if_pos hneg, hU, Int.toNat_natCast, dec, if_neg hU0, ← hd]; rfl
    rw [e6, e7]
    simp only [onSome]
    rw [e8, text_rows (numL_lt i)]
    exact ⟨_, rfl⟩
  · obtain ⟨U, rfl⟩ := Int.eq_ofNat_of_zero_le (show 0 ≤ i by omega)
    rw [branch_of (decide_eq_true (by omega))]
    by_cases h100 : U < 100
    · rw [branch_of (decide_eq_true (by omega))]
      by_cases h10 : U < 10
      · have e1 : IntKind.i64.wrap ((U : Int) + 1) = ((U + 1 : Nat) : Int) := by rw [wrapS (by omega) (by omega)]; omega
        have e2 : subT tx_b18925 (U : Int) ((U + 1 : Nat) : Int) = showI (U : Int) := by
          apply strL_inj
          rw [subT_list, showI, strL_txt (numL_lt _), Int.toNat_natCast, Int.toNat_natCast, dig_sub h10, numL, if_neg (by omega), Int.toNat_natCast]
          by_cases h0 : U = 0
          · subst h0; rfl
          · rw [dec_of (n := 1) (by omega) (by simp; omega) (by omega) (by omega), digs]
            simp [List.range_succ]; omega
        rw [branch_of (decide_eq_true (by omega)), e1, branch_of (inSl_iff.mpr ⟨by omega, by omega, by rw [dig_len]; omega⟩), e2]
        exact ⟨_, rfl⟩
      · have e1 : IntKind.i64.wrap ((U : Int) * 2) = ((U * 2 : Nat) : Int) := by rw [wrapS (by omega) (by omega)]; omega
        have e3 : IntKind.i64.wrap (((U * 2 : Nat) : Int) + 2) = ((U * 2 + 2 : Nat) : Int) := by rw [wrapS (by omega) (by omega)]; omega
        have e2 : subT tx_730b8f ((U * 2 : Nat) : Int) ((U * 2 + 2 : Nat) : Int) = showI (U : Int) := by
          apply strL_inj
          rw [subT_list, showI, strL_txt (numL_lt _), Int.toNat_natCast, Int.toNat_natCast, sm_sub h100, numL, if_neg (by omega), Int.toNat_natCast, dec_of (n := 2) (by omega) (by simp; omega) (by omega) (by omega)]
        have hs := sm_len
        rw [branch_not (decide_eq_false (by omega)), e1, e3, branch_of (inSl_iff.mpr ⟨by omega, by omega, by omega⟩), e2]
        exact ⟨_, rfl⟩
    · rw [branch_not (decide_eq_false (by omega)), branch_not (decide_eq_false (by omega))]
      have hU0 : U ≠ 0 := by omega
      have e1 : IntKind.u64.wrap (U : Int) = (U : Nat) := w64 (by omega)
      obtain ⟨k1, k2, k3, k4⟩ := ndN_spec hU0 (by omega)
      have e2 : ndO ((U : Nat) : Int) = (ndN U : Nat) := by rw [ndO, opq_eq, Int.toNat_natCast]
      have e3 : IntKind.i64.wrap (1 + ((ndN U : Nat) : Int)) = ((ndN U + 1 : Nat) : Int) := by rw [wrapS (by omega) (by omega)]; omega
      have e4 : unB (bC (List.replicate 24 0)) = List.replicate 24 0 := unB_bC _
      have e5 : wrC (bC (List.replicate 24 0)) (U : Nat) (ndN U) = bC (wr (List.replicate 24 0) U (ndN U) (ndN U)) := by rw [wrC, opq_eq, e4, Int.toNat_natCast]
      have hW : (wr (List.replicate 24 0) U (ndN U) (ndN U)).length = 24 := by rw [wr_len]; rfl
      have hd := wr_digs (List.replicate 24 0) U (ndN U) (by simp; omega)
      rw [e1, e2, e3, zAr_bC, Int.toNat_natCast, Nat.add_sub_cancel, e5]
      generalize wr (List.replicate 24 0) U (ndN U) (ndN U) = W at *
      rw [branch_of (show okW (U : Int) = true from cdec_iff.mpr ⟨by omega, by omega⟩), if_pos ⟨by omega, by omega⟩, if_pos ⟨by omega, by omega⟩,
        branch_of (show fbOk (bC (List.replicate 24 0)) (ndN U) (U : Int) = true from cdec_iff.mpr ⟨by rw [e4], by simp [bC], k2, by omega, by exact_mod_cast k4, by omega⟩), branch_not (decide_eq_false hneg), if_pos ⟨by omega, by omega⟩, if_pos ⟨by omega, by omega⟩]
      have e7 : rowsA 1 (.ms 0 1 1 (ndN U) 23) ⟨[.cells (bC W)], []⟩ = some (bR ((W.drop 1).take (ndN U))) := by
        show rowsOf 1 (ndN U) ((bC W).drop 1) = _
        rw [bC_drop]; exact rowsOf_bC _ _ (by simp; omega)
      have e8 : (W.drop 1).take (ndN U) = numL (U : Int) := by rw [hd, numL, if_neg (by omega), Int.toNat_natCast, dec, if_neg hU0]
      rw [e7]
      simp only [onSome]
      rw [e8, text_rows (numL_lt _)]
      exact ⟨_, rfl⟩
end Go.Proofs.YtcfedmheblbdnaaDoor.V

/- The functions' pieces, as told by gen.py. -/
set_option linter.unusedVariables false
set_option maxRecDepth 20000
namespace Go.Proofs.YtcfedmheblbdnaaDoor.V
open Go Go.V Go.RowKit


/-! ### 20: interlock/interlockref04.Right (24); results 2; slots: 0 v, 1 v -/
noncomputable def f20_b : Sim Tryd.prog :=
 (.seq (.live [1] (.region 0 [
 ⟨(opBoxF (some 1) 24 (.tmp 0) 0 "ref.go:11" #[]).op, none⟩,
 ⟨(opAssign (some 2) (.const (Value.bool false)) 4 "ref.go:11" #[]).op, none⟩
 ] (by kernel_rfl)))
 (.seq (.seq (.live [1, 4] (.region 1 [
 ⟨(opFieldAddr (some 3) 24 (.tmp 1) 0 0 1 false fl24_0 (by decide) 0 "ref.go:12" #[]).op, none⟩,
 ⟨(opLoadT (.one (.int .i64)) (some 4) 3 (.tmp 3) (.int .i64) Tryd.underlying3 1 sz3 (by kernel_rfl) 3 "ref.go:12" #[eD 0]).op, none⟩
 ] (by kernel_rfl)))
 (.block 0 (.seq (.live [1, 4, 5] (.region 2 [
 ⟨(opBin (some 6) .eql 3 (.tmp 4) (.const (Value.int IntKind.i64 0)) 3 4 "ref.go:13" #[]).op, none⟩,
 ⟨(opAssign (some 5) (.tmp 6) 4 "ref.go:13" #[eD 0]).op, none⟩
 ] (by kernel_rfl)))
 (.cond (.tmp 5)
 (.seq (.live [2] (.region 3 [
 ⟨(opFieldAddr (some 7) 24 (.tmp 1) 1 1 1 false fl24_1 (by decide) 0 "ref.go:14" #[]).op, none⟩,
 ⟨(opLoadT (.one (.int .i64)) (some 8) 3 (.tmp 7) (.int .i64) Tryd.underlying3 1 sz3 (by kernel_rfl) 3 "ref.go:14" #[eD 0]).op, none⟩,
 ⟨(opBin (some 9) .eql 3 (.tmp 8) (.const (Value.int IntKind.i64 0)) 3 4 "ref.go:14" #[eD 1]).op, none⟩,
 ⟨(opMove (some 10) (.tmp 9) 4 "ref.go:14" #[eD 2]).op, none⟩,
 ⟨(opFieldAddr (some 11) 24 (.tmp 1) 2 2 1 false fl24_2 (by decide) 0 "ref.go:14" #[eG 3]).op, (some (3, 10, true))⟩,
 ⟨(opLoadT (.one .str) (some 12) 9 (.tmp 11) .string Tryd.underlying9 1 sz9 (by kernel_rfl) 9 "ref.go:14" #[eD 4, eG 3]).op, (some (3, 10, true))⟩,
 ⟨(opBinS (some 13) .eql 9 (.tmp 12) (.const (Value.string { data := #[] })) 9 4 "ref.go:14" #[eD 5, eG 3]).op, (some (3, 10, true))⟩,
 ⟨(opPick (some 14) (.tmp 10) (.tmp 13) (.const (Value.bool false)) 4 "ref.go:14" #[eD 3, eD 6]).op, none⟩,
 ⟨(opAssign (some 2) (.tmp 14) 4 "ref.go:14" #[eD 7, eC 3, eP 0, eP 1, eP 2, eP 3, eP 4, eP 5, eP 6, eP 7]).op, none⟩
 ] (by kernel_rfl)))
 (.live [2] .ret))
 (.seq (.live [1, 4, 15] (.region 4 [
 ⟨(opBin (some 16) .eql 3 (.tmp 4) (.const (Value.int IntKind.i64 1)) 3 4 "ref.go:15" #[]).op, none⟩,
 ⟨(opAssign (some 15) (.tmp 16) 4 "ref.go:15" #[eD 0]).op, none⟩
 ] (by kernel_rfl)))
 (.cond (.tmp 15)
 (.seq (.live [2] (.region 5 [
 ⟨(opFieldAddr (some 17) 24 (.tmp 1) 2 2 1 false fl24_2 (by decide) 0 "ref.go:16" #[]).op, none⟩,
 ⟨(opLoadT (.one .str) (some 18) 9 (.tmp 17) .string Tryd.underlying9 1 sz9 (by kernel_rfl) 9 "ref.go:16" #[eD 0]).op, none⟩,
 ⟨(opBinS (some 19) .eql 9 (.tmp 18) (.const (Value.string { data := #[] })) 9 4 "ref.go:16" #[eD 1]).op, none⟩,
 ⟨(opAssign (some 2) (.tmp 19) 4 "ref.go:16" #[eD 2, eP 0, eP 1, eP 2]).op, none⟩
 ] (by kernel_rfl)))
 (.live [2] .ret))
 (.seq (.live [1, 4, 20] (.region 6 [
 ⟨(opBin (some 21) .eql 3 (.tmp 4) (.const (Value.int IntKind.i64 2)) 3 4 "ref.go:17" #[]).op, none⟩,
 ⟨(opAssign (some 20) (.tmp 21) 4 "ref.go:17" #[eD 0]).op, none⟩
 ] (by kernel_rfl)))
 (.cond (.tmp 20)
 (.seq (.live [2] (.region 7 [
 ⟨(opFieldAddr (some 22) 24 (.tmp 1) 1 1 1 false fl24_1 (by decide) 0 "ref.go:18" #[]).op, none⟩,
 ⟨(opLoadT (.one (.int .i64)) (some 23) 3 (.tmp 22) (.int .i64) Tryd.underlying3 1 sz3 (by kernel_rfl) 3 "ref.go:18" #[eD 0]).op, none⟩,
 ⟨(opBin (some 24) .eql 3 (.tmp 23) (.const (Value.int IntKind.i64 0)) 3 4 "ref.go:18" #[eD 1]).op, none⟩,
 ⟨(opMove (some 25) (.tmp 24) 4 "ref.go:18" #[eD 2]).op, none⟩,
 ⟨(opFieldAddr (some 26) 24 (.tmp 1) 1 1 1 false fl24_1 (by decide) 0 "ref.go:18" #[eG 3]).op, (some (3, 25, false))⟩,
 ⟨(opLoadT (.one (.int .i64)) (some 27) 3 (.tmp 26) (.int .i64) Tryd.underlying3 1 sz3 (by kernel_rfl) 3 "ref.go:18" #[eD 4, eG 3]).op, (some (3, 25, false))⟩,
 ⟨(opBin (some 28) .eql 3 (.tmp 27) (.const (Value.int IntKind.i64 1)) 3 4 "ref.go:18" #[eD 5, eG 3]).op, (some (3, 25, false))⟩,
 ⟨(opPick (some 29) (.tmp 25) (.const (Value.bool true)) (.tmp 28) 4 "ref.go:18" #[eD 3, eD 6]).op, none⟩,
 ⟨(opMove (some 30) (.tmp 29) 4 "ref.go:18" #[eD 7, eC 3]).op, none⟩,
 ⟨(opFieldAddr (some 31) 24 (.tmp 1) 2 2 1 false fl24_2 (by decide) 0 "ref.go:18" #[eG 8]).op, (some (8, 30, true))⟩,
 ⟨(opLoadT (.one .str) (some 32) 9 (.tmp 31) .string Tryd.underlying9 1 sz9 (by kernel_rfl) 9 "ref.go:18" #[eD 9, eG 8]).op, (some (8, 30, true))⟩,
 ⟨(opBinS (some 33) .eql 9 (.tmp 32) (.const (Value.string { data := #[] })) 9 4 "ref.go:18" #[eD 10, eG 8]).op, (some (8, 30, true))⟩,
 ⟨(opPick (some 34) (.tmp 30) (.tmp 33) (.const (Value.bool false)) 4 "ref.go:18" #[eD 8, eD 11]).op, none⟩,
 ⟨(opAssign (some 2) (.tmp 34) 4 "ref.go:18" #[eD 12, eC 8, eP 0, eP 1, eP 2, eP 3, eP 4, eP 5, eP 6, eP 7, eP 8, eP 9, eP 10, eP 11, eP 12]).op, none⟩
 ] (by kernel_rfl)))
 (.live [2] .ret))
 (.seq (.live [1, 35] (.region 8 [
 ⟨(opBin (some 36) .eql 3 (.tmp 4) (.const (Value.int IntKind.i64 3)) 3 4 "ref.go:19" #[]).op, none⟩,
 ⟨(opAssign (some 35) (.tmp 36) 4 "ref.go:19" #[eD 0]).op, none⟩
 ] (by kernel_rfl)))
 (.cond (.tmp 35)
 (.seq (.live [2] (.region 9 [
 ⟨(opFieldAddr (some 37) 24 (.tmp 1) 1 1 1 false fl24_1 (by decide) 0 "ref.go:20" #[]).op, none⟩,
 ⟨(opLoadT (.one (.int .i64)) (some 38) 3 (.tmp 37) (.int .i64) Tryd.underlying3 1 sz3 (by kernel_rfl) 3 "ref.go:20" #[eD 0]).op, none⟩,
 ⟨(opBin (some 39) .eql 3 (.tmp 38) (.const (Value.int IntKind.i64 0)) 3 4 "ref.go:20" #[eD 1]).op, none⟩,
 ⟨(opMove (some 40) (.tmp 39) 4 "ref.go:20" #[eD 2]).op, none⟩,
 ⟨(opFieldAddr (some 41) 24 (.tmp 1) 2 2 1 false fl24_2 (by decide) 0 "ref.go:20" #[eG 3]).op, (some (3, 40, true))⟩,
 ⟨(opLoadT (.one .str) (some 42) 9 (.tmp 41) .string Tryd.underlying9 1 sz9 (by kernel_rfl) 9 "ref.go:20" #[eD 4, eG 3]).op, (some (3, 40, true))⟩,
 ⟨(opLen (some 43) (.tmp 42) 9 .string Tryd.underlying9 3 "ref.go:20" #[eD 5, eG 3]).op, (some (3, 40, true))⟩,
 ⟨(opBin (some 44) .leq 3 (.tmp 43) (.const (Value.int IntKind.i64 16)) 3 4 "ref.go:20" #[eD 6, eG 3]).op, (some (3, 40, true))⟩,
 ⟨(opPick (some 45) (.tmp 40) (.tmp 44) (.const (Value.bool false)) 4 "ref.go:20" #[eD 3, eD 7]).op, none⟩,
 ⟨(opAssign (some 2) (.tmp 45) 4 "ref.go:20" #[eD 8, eC 3, eP 0, eP 1, eP 2, eP 3, eP 4, eP 5, eP 6, eP 7, eP 8]).op, none⟩
 ] (by kernel_rfl)))
 (.live [2] .ret))
 .skip))))))))))
 (.seq (.live [2] (.region 10 [
 ⟨(opAssign (some 2) (.const (Value.bool false)) 4 "ref.go:22" #[]).op, none⟩
 ] (by kernel_rfl)))
 (.live [2] .ret))))

noncomputable def f20 : Fun Tryd.prog where
 id := 20
 fn := Tryd.f20
 hf := Tryd.func20
 hname := by kernel_rfl
 body := f20_b
 hbody := by kernel_rfl
 res := [rTmp 2]
 hres := by kernel_rfl
 n := 46
 hn := by kernel_rfl

/-! ### 39: interlock/interlockref04.cmp (3, 3); results 4; slots: 0 a, 1 b, 2 a, 3 b -/
end Go.Proofs.YtcfedmheblbdnaaDoor.V

/- What the functions' runs come to; the right sides were printed by a tool, Lean checks them. -/
set_option linter.unusedVariables false
set_option maxRecDepth 100000
namespace Go.Proofs.YtcfedmheblbdnaaDoor.V
open Go Go.V Go.RowKit

theorem rright_run (F : Nat) (v : Va) (st : St) :
 (f20.run F [v.av] st : Ans) =
 branch (AV.bool (v.k == (0 : Int)))
 (branch (AV.bool (v.n == (0 : Int))) (some (Fin.ret (AV.bool (v.s.toList == [])), st))
 (some (Fin.ret (AV.bool false), st)))
 (branch (AV.bool (v.k == (1 : Int))) (some (Fin.ret (AV.bool (v.s.toList == [])), st))
 (branch (AV.bool (v.k == (2 : Int)))
 (branch (AV.bool (v.n == (0 : Int))) (some (Fin.ret (AV.bool (v.s.toList == [])), st))
 (branch (AV.bool (v.n == (1 : Int))) (some (Fin.ret (AV.bool (v.s.toList == [])), st))
 (some (Fin.ret (AV.bool false), st))))
 (branch (AV.bool (v.k == (3 : Int)))
 (branch (AV.bool (v.n == (0 : Int))) (some (Fin.ret (AV.bool (decide ((↑v.s.size : Int) ≤ (16 : Int)))), st))
 (some (Fin.ret (AV.bool false), st)))
 (some (Fin.ret (AV.bool false), st))))) := by kernel_rfl

end Go.Proofs.YtcfedmheblbdnaaDoor.V

/- Values: the reference's Right and comparison of numbers, as callees. -/
set_option linter.unusedVariables false
namespace Go.Proofs.YtcfedmheblbdnaaDoor.V
open Go Go.V Go.RowKit

theorem rright_eq {F : Nat} (v : Va) (st : St) : f20.run F [v.av] st = some (.ret (.bool (rightV v)), st) := by
  rw [rright_run]
  simp only [rightV]
  cases h0 : v.k == 0
  · cases h1 : v.k == 1
    · cases h2 : v.k == 2
      · cases h3 : v.k == 3
        · rfl
        · cases v.n == 0 <;> rfl
      · cases v.s.toList == [] <;> cases v.n == 0 <;> cases v.n == 1 <;> rfl
    · rfl
  · cases v.n == 0 <;> rfl
noncomputable def p20 : POrc Tryd.prog := f20.pureIf dec1v (fun v => [v.av]) dec1v_enc (fun _ => true) (fun v => .bool (rightV v)) (fun _ _ => ⟨rfl, fun _ _ => trivial⟩) fun v _ => ⟨0, fun st => rright_eq v st⟩
end Go.Proofs.YtcfedmheblbdnaaDoor.V

/- The functions' pieces, as told by gen.py. -/
set_option linter.unusedVariables false
set_option maxRecDepth 20000
namespace Go.Proofs.YtcfedmheblbdnaaDoor.V
open Go Go.V Go.RowKit


/-! ### 40: interlock/interlockref04.Texts (9, 9); results 4; slots: 0 a, 1 b, 2 a, 3 b, 5 i -/
/-! ### 23: interlock/interlockref04.Fits (24, 32); results 4; slots: 0 v, 1 c, 2 v, 3 c -/
end Go.Proofs.YtcfedmheblbdnaaDoor.V

/- What the functions' runs come to; the right sides were printed by a tool, Lean checks them. -/
set_option linter.unusedVariables false
set_option maxRecDepth 100000
namespace Go.Proofs.YtcfedmheblbdnaaDoor.V
open Go Go.V Go.RowKit

end Go.Proofs.YtcfedmheblbdnaaDoor.V

/- Values: the reference's comparison of texts, and both sides' Fits, as callees. -/
set_option linter.unusedVariables false
namespace Go.Proofs.YtcfedmheblbdnaaDoor.V
open Go Go.V Go.RowKit

/-- A column. -/
structure Co where
  nm : ByteArray
  k : Int
  nn : Bool
def Co.cells (c : Co) : List AV := [.str c.nm, .int .i64 c.k, .bool c.nn]
def Co.av (c : Co) : AV := .agg c.cells
end Go.Proofs.YtcfedmheblbdnaaDoor.V

/- The functions' pieces, as told by gen.py. -/
set_option linter.unusedVariables false
set_option maxRecDepth 20000
namespace Go.Proofs.YtcfedmheblbdnaaDoor.V
open Go Go.V Go.RowKit


/-! ### 22: interlock/interlockref04.Order (24, 24); results 4; slots: 0 a, 1 b, 2 a, 3 b -/
end Go.Proofs.YtcfedmheblbdnaaDoor.V

/- What the functions' runs come to; the right sides were printed by a tool, Lean checks them. -/
set_option linter.unusedVariables false
set_option maxRecDepth 100000
namespace Go.Proofs.YtcfedmheblbdnaaDoor.V
open Go Go.V Go.RowKit

end Go.Proofs.YtcfedmheblbdnaaDoor.V

/- Values: the reference's Order, as a callee. -/
set_option linter.unusedVariables false
namespace Go.Proofs.YtcfedmheblbdnaaDoor.V
open Go Go.V Go.RowKit

end Go.Proofs.YtcfedmheblbdnaaDoor.V

/- Values: FormatInt, as a callee. -/
set_option linter.unusedVariables false
namespace Go.Proofs.YtcfedmheblbdnaaDoor.V
open Go Go.V Go.RowKit

def dec2t : List AV → Option Int
  | [x, y] => match x with
    | .int k i => match k with
      | .i64 => match y with
        | .int k' n => match k' with
          | .i64 => match decide (n = 10) with
            | true => some i
            | false => none
          | _ => none
        | _ => none
      | _ => none
    | _ => none
  | _ => none
theorem dec2t_enc : ∀ l a, dec2t l = some a → l = [.int .i64 a, .int .i64 10] := by
  intro l a h
  unfold dec2t at h
  split at h
  · split at h
    · split at h
      · split at h
        · split at h
          · split at h
            · rename_i hn; cases h; rw [of_decide_eq_true hn]
            · cases h
          · cases h
        · cases h
      · cases h
    · cases h
  · cases h
noncomputable def okI (i : Int) : Bool := cdec (-9223372036854775808 ≤ i ∧ i ≤ 9223372036854775807)
noncomputable def p72 : POrc Tryd.prog := f72.flatIf dec2t (fun i => [.int .i64 i, .int .i64 10]) dec2t_enc okI (fun i => .str (showI i)) (fun _ => ⟨trivial, trivial, trivial⟩) (fun _ => trivial) fun i h => by
  obtain ⟨h1, h2⟩ := cdec_iff.mp h
  obtain ⟨st', h⟩ := fi_eq i h1 h2
  exact ⟨0, st', h⟩
end Go.Proofs.YtcfedmheblbdnaaDoor.V

/- The functions' pieces, as told by gen.py. -/
set_option linter.unusedVariables false
set_option maxRecDepth 20000
namespace Go.Proofs.YtcfedmheblbdnaaDoor.V
open Go Go.V Go.RowKit


/-! ### 54: internal/strconv.Itoa (3); results 2; slots: 0 i, 1 i -/
noncomputable def f54_b : Sim Tryd.prog :=
 (.seq (.live [0] (.region 0 [
 ⟨(opAssign (some 2) (.const (Value.string { data := #[] })) 9 "itoa.go:52" #[]).op, none⟩
 ] (by kernel_rfl)))
 (.seq (.live [2] (.region 1 [
 ⟨(opMove (some 3) (.tmp 0) 3 "itoa.go:53" #[]).op, none⟩,
 ⟨(opCallP p72 (some 4) [(.tmp 3), (.const (Value.int IntKind.i64 10))] #[2, 3] 9 "itoa.go:53" #[eD 0]).op, none⟩,
 ⟨(opAssign (some 2) (.tmp 4) 9 "itoa.go:53" #[eD 1, eC 1, eP 0, eP 1]).op, none⟩
 ] (by kernel_rfl)))
 (.live [2] .ret)))

noncomputable def f54 : Fun Tryd.prog where
 id := 54
 fn := Tryd.f54
 hf := Tryd.func54
 hname := by kernel_rfl
 body := f54_b
 hbody := by kernel_rfl
 res := [rTmp 2]
 hres := by kernel_rfl
 n := 5
 hn := by kernel_rfl

/-! ### 55: internal/strconv.FormatBool (4); results 2; slots: 0 b, 1 b -/
noncomputable def f55_b : Sim Tryd.prog :=
 (.seq (.live [0] (.region 0 [
 ⟨(opAssign (some 2) (.const (Value.string { data := #[] })) 9 "atob.go:21" #[]).op, none⟩
 ] (by kernel_rfl)))
 (.seq (.seq (.live [3] (.region 1 [
 ⟨(opMove (some 3) (.tmp 0) 4 "atob.go:22" #[]).op, none⟩
 ] (by kernel_rfl)))
 (.cond (.tmp 3)
 (.seq (.live [2] (.region 2 [
 ⟨(opAssign (some 2) (.const (Value.string { data := #[116, 114, 117, 101] })) 9 "atob.go:23" #[]).op, none⟩
 ] (by kernel_rfl)))
 (.live [2] .ret))
 .skip))
 (.seq (.live [2] (.region 3 [
 ⟨(opAssign (some 2) (.const (Value.string { data := #[102, 97, 108, 115, 101] })) 9 "atob.go:25" #[]).op, none⟩
 ] (by kernel_rfl)))
 (.live [2] .ret))))

noncomputable def f55 : Fun Tryd.prog where
 id := 55
 fn := Tryd.f55
 hf := Tryd.func55
 hname := by kernel_rfl
 body := f55_b
 hbody := by kernel_rfl
 res := [rTmp 2]
 hres := by kernel_rfl
 n := 4
 hn := by kernel_rfl

/-! ### 32: strconv.Itoa (3); results 2; slots: 0 i, 1 i -/
noncomputable def f32_b : Sim Tryd.prog :=
 (.seq (.live [0] (.region 0 [
 ⟨(opAssign (some 2) (.const (Value.string { data := #[] })) 9 "number.go:214" #[]).op, none⟩
 ] (by kernel_rfl)))
 (.seq (.live [2] (.region 1 [
 ⟨(opMove (some 3) (.tmp 0) 3 "number.go:215" #[]).op, none⟩,
 ⟨opCall (f54.orc 0) (some 4) [(.tmp 3)] #[3] 9 "number.go:215" #[eD 0], none⟩,
 ⟨(opAssign (some 2) (.tmp 4) 9 "number.go:215" #[eD 1, eC 1, eP 0, eP 1]).op, none⟩
 ] (by kernel_rfl)))
 (.live [2] .ret)))

noncomputable def f32 : Fun Tryd.prog where
 id := 32
 fn := Tryd.f32
 hf := Tryd.func32
 hname := by kernel_rfl
 body := f32_b
 hbody := by kernel_rfl
 res := [rTmp 2]
 hres := by kernel_rfl
 n := 5
 hn := by kernel_rfl

/-! ### 33: strconv.FormatBool (4); results 2; slots: 0 b, 1 b -/
noncomputable def f33_b : Sim Tryd.prog :=
 (.seq (.live [0] (.region 0 [
 ⟨(opAssign (some 2) (.const (Value.string { data := #[] })) 9 "number.go:28" #[]).op, none⟩
 ] (by kernel_rfl)))
 (.seq (.live [2] (.region 1 [
 ⟨(opMove (some 3) (.tmp 0) 4 "number.go:29" #[]).op, none⟩,
 ⟨opCall (f55.orc 0) (some 4) [(.tmp 3)] #[4] 9 "number.go:29" #[eD 0], none⟩,
 ⟨(opAssign (some 2) (.tmp 4) 9 "number.go:29" #[eD 1, eC 1, eP 0, eP 1]).op, none⟩
 ] (by kernel_rfl)))
 (.live [2] .ret)))

noncomputable def f33 : Fun Tryd.prog where
 id := 33
 fn := Tryd.f33
 hf := Tryd.func33
 hname := by kernel_rfl
 body := f33_b
 hbody := by kernel_rfl
 res := [rTmp 2]
 hres := by kernel_rfl
 n := 5
 hn := by kernel_rfl

end Go.Proofs.YtcfedmheblbdnaaDoor.V

/- The functions' pieces, as told by gen.py. -/
set_option linter.unusedVariables false
set_option maxRecDepth 20000
namespace Go.Proofs.YtcfedmheblbdnaaDoor.V
open Go Go.V Go.RowKit


/-! ### 12: interlock/value.Show (24); results 2; slots: 0 v, 1 v -/
noncomputable def g12_b : Sim Tryd.prog :=
 (.seq (.live [1] (.region 0 [
 ⟨(opBoxF (some 1) 24 (.tmp 0) 0 "value.go:138" #[]).op, none⟩,
 ⟨(opAssign (some 2) (.const (Value.string { data := #[] })) 9 "value.go:138" #[]).op, none⟩
 ] (by kernel_rfl)))
 (.seq (.block 0 (.seq (.live [1, 3] (.region 1 [
 ⟨(opLoadT (.agg [(.int .i64), (.int .i64), .str]) (some 4) 24 (.tmp 1) d24 ud24 3 sz24 (by kernel_rfl) 24 "value.go:140" #[]).op, none⟩,
 ⟨(opCallP p13 (some 5) [(.tmp 4)] #[24] 4 "value.go:140" #[eD 0]).op, none⟩,
 ⟨(opNot (some 6) 4 (.tmp 5) 4 "value.go:140" #[eD 1]).op, none⟩,
 ⟨(opAssign (some 3) (.tmp 6) 4 "value.go:140" #[eD 2, eC 1]).op, none⟩
 ] (by kernel_rfl)))
 (.cond (.tmp 3)
 (.seq (.live [2] (.region 2 [
 ⟨(opAssign (some 2) (.const (Value.string { data := #[63] })) 9 "value.go:141" #[]).op, none⟩
 ] (by kernel_rfl)))
 (.live [2] .ret))
 (.seq (.live [1, 7] (.region 3 [
 ⟨(opFieldAddr (some 8) 24 (.tmp 1) 0 0 1 false fl24_0 (by decide) 0 "value.go:142" #[]).op, none⟩,
 ⟨(opLoadT (.one (.int .i64)) (some 9) 3 (.tmp 8) (.int .i64) Tryd.underlying3 1 sz3 (by kernel_rfl) 3 "value.go:142" #[eD 0]).op, none⟩,
 ⟨(opBin (some 10) .eql 3 (.tmp 9) (.const (Value.int IntKind.i64 1)) 3 4 "value.go:142" #[eD 1]).op, none⟩,
 ⟨(opAssign (some 7) (.tmp 10) 4 "value.go:142" #[eD 2]).op, none⟩
 ] (by kernel_rfl)))
 (.cond (.tmp 7)
 (.seq (.live [2] (.region 4 [
 ⟨(opFieldAddr (some 11) 24 (.tmp 1) 1 1 1 false fl24_1 (by decide) 0 "value.go:143" #[]).op, none⟩,
 ⟨(opLoadT (.one (.int .i64)) (some 12) 3 (.tmp 11) (.int .i64) Tryd.underlying3 1 sz3 (by kernel_rfl) 3 "value.go:143" #[eD 0]).op, none⟩,
 ⟨opCall (f32.orc 0) (some 13) [(.tmp 12)] #[3] 9 "value.go:143" #[eD 1], none⟩,
 ⟨(opAssign (some 2) (.tmp 13) 9 "value.go:143" #[eD 2, eC 2, eP 0, eP 1, eP 2]).op, none⟩
 ] (by kernel_rfl)))
 (.live [2] .ret))
 (.seq (.live [1, 14] (.region 5 [
 ⟨(opFieldAddr (some 15) 24 (.tmp 1) 0 0 1 false fl24_0 (by decide) 0 "value.go:144" #[]).op, none⟩,
 ⟨(opLoadT (.one (.int .i64)) (some 16) 3 (.tmp 15) (.int .i64) Tryd.underlying3 1 sz3 (by kernel_rfl) 3 "value.go:144" #[eD 0]).op, none⟩,
 ⟨(opBin (some 17) .eql 3 (.tmp 16) (.const (Value.int IntKind.i64 2)) 3 4 "value.go:144" #[eD 1]).op, none⟩,
 ⟨(opAssign (some 14) (.tmp 17) 4 "value.go:144" #[eD 2]).op, none⟩
 ] (by kernel_rfl)))
 (.cond (.tmp 14)
 (.seq (.live [2] (.region 6 [
 ⟨(opFieldAddr (some 18) 24 (.tmp 1) 1 1 1 false fl24_1 (by decide) 0 "value.go:145" #[]).op, none⟩,
 ⟨(opLoadT (.one (.int .i64)) (some 19) 3 (.tmp 18) (.int .i64) Tryd.underlying3 1 sz3 (by kernel_rfl) 3 "value.go:145" #[eD 0]).op, none⟩,
 ⟨(opBin (some 20) .eql 3 (.tmp 19) (.const (Value.int IntKind.i64 1)) 3 4 "value.go:145" #[eD 1]).op, none⟩,
 ⟨opCall (f33.orc 0) (some 21) [(.tmp 20)] #[4] 9 "value.go:145" #[eD 2], none⟩,
 ⟨(opAssign (some 2) (.tmp 21) 9 "value.go:145" #[eD 3, eC 3, eP 0, eP 1, eP 2, eP 3]).op, none⟩
 ] (by kernel_rfl)))
 (.live [2] .ret))
 (.seq (.live [1, 22] (.region 7 [
 ⟨(opFieldAddr (some 23) 24 (.tmp 1) 0 0 1 false fl24_0 (by decide) 0 "value.go:146" #[]).op, none⟩,
 ⟨(opLoadT (.one (.int .i64)) (some 24) 3 (.tmp 23) (.int .i64) Tryd.underlying3 1 sz3 (by kernel_rfl) 3 "value.go:146" #[eD 0]).op, none⟩,
 ⟨(opBin (some 25) .eql 3 (.tmp 24) (.const (Value.int IntKind.i64 3)) 3 4 "value.go:146" #[eD 1]).op, none⟩,
 ⟨(opAssign (some 22) (.tmp 25) 4 "value.go:146" #[eD 2]).op, none⟩
 ] (by kernel_rfl)))
 (.cond (.tmp 22)
 (.seq (.live [2] (.region 8 [
 ⟨(opFieldAddr (some 26) 24 (.tmp 1) 2 2 1 false fl24_2 (by decide) 0 "value.go:147" #[]).op, none⟩,
 ⟨(opLoadT (.one .str) (some 27) 9 (.tmp 26) .string Tryd.underlying9 1 sz9 (by kernel_rfl) 9 "value.go:147" #[eD 0]).op, none⟩,
 ⟨(opCallP p34 (some 28) [(.tmp 27)] #[9] 9 "value.go:147" #[eD 1]).op, none⟩,
 ⟨(opAssign (some 2) (.tmp 28) 9 "value.go:147" #[eD 2, eC 2, eP 0, eP 1, eP 2]).op, none⟩
 ] (by kernel_rfl)))
 (.live [2] .ret))
 .skip)))))))))
 (.seq (.live [2] (.region 9 [
 ⟨(opAssign (some 2) (.const (Value.string { data := #[110, 117, 108, 108] })) 9 "value.go:149" #[]).op, none⟩
 ] (by kernel_rfl)))
 (.live [2] .ret))))

noncomputable def g12 : Fun Tryd.prog where
 id := 12
 fn := Tryd.f12
 hf := Tryd.func12
 hname := by kernel_rfl
 body := g12_b
 hbody := by kernel_rfl
 res := [rTmp 2]
 hres := by kernel_rfl
 n := 29
 hn := by kernel_rfl

end Go.Proofs.YtcfedmheblbdnaaDoor.V

/- What the functions' runs come to; the right sides were printed by a tool, Lean checks them. -/
set_option linter.unusedVariables false
set_option maxRecDepth 100000
namespace Go.Proofs.YtcfedmheblbdnaaDoor.V
open Go Go.V Go.RowKit

theorem show_run (F : Nat) (v : Va) (st : St) :
 (g12.run F [v.av] st : Ans) =
 branch (AV.bool !rightV (Va.mk (hdI v.cells) (hdI v.cells.tail) (hdS v.cells.tail.tail)))
 (some (Fin.ret (AV.str (ByteArray.mk #[(63 : UInt8)])), st))
 (branch (AV.bool (v.k == (1 : Int))) (branch (AV.bool (okI v.n)) (some (Fin.ret (AV.str (showI v.n)), st)) none)
 (branch (AV.bool (v.k == (2 : Int)))
 (branch (AV.bool (v.n == (1 : Int)))
 (some (Fin.ret (AV.str (ByteArray.mk #[(116 : UInt8), (114 : UInt8), (117 : UInt8), (101 : UInt8)])), st))
 (some
 (Fin.ret (AV.str (ByteArray.mk #[(102 : UInt8), (97 : UInt8), (108 : UInt8), (115 : UInt8), (101 : UInt8)])),
 st)))
 (branch (AV.bool (v.k == (3 : Int)))
 (branch (AV.bool (cdec ((strL v.s).length ≤ 100000000)))
 (some (Fin.ret (AV.str (strB (34 :: (List.flatMap encQ (strL v.s) ++ [34])))), st)) none)
 (some (Fin.ret (AV.str (ByteArray.mk #[(110 : UInt8), (117 : UInt8), (108 : UInt8), (108 : UInt8)])), st))))) := by kernel_rfl

end Go.Proofs.YtcfedmheblbdnaaDoor.V

/- Values: Show, as a callee. -/
set_option linter.unusedVariables false
namespace Go.Proofs.YtcfedmheblbdnaaDoor.V
open Go Go.V Go.RowKit

def wq : ByteArray := ByteArray.mk #[63]
def wtrue : ByteArray := ByteArray.mk #[116, 114, 117, 101]
def wfalse : ByteArray := ByteArray.mk #[102, 97, 108, 115, 101]
def wnull : ByteArray := ByteArray.mk #[110, 117, 108, 108]
noncomputable def showV (v : Va) : ByteArray := bif rightV v then bif v.k == 1 then showI v.n else bif v.k == 2 then bif v.n == 1 then wtrue else wfalse else bif v.k == 3 then strB (qtL (strL v.s)) else wnull else wq
noncomputable def okSh (v : Va) : Bool := cdec (-9223372036854775808 ≤ v.n ∧ v.n ≤ 9223372036854775807 ∧ v.s.size ≤ 1000)
theorem show_eq (v : Va) (h : okSh v = true) (st : St) : g12.run 0 [v.av] st = some (.ret (.str (showV v)), st) := by
  obtain ⟨h1, h2, h3⟩ := cdec_iff.mp h
  rw [show_run, branch_of (show okI v.n = true from cdec_iff.mpr ⟨h1, h2⟩), branch_of (cdec_iff.mpr (by rw [← strL_size]; omega)), showV]
  show branch (.bool (!rightV v)) _ _ = _
  cases rightV v with
  | false => rfl
  | true =>
    rw [Bool.not_true, branch_false, cond_true]
    cases v.k == 1 with
    | true => rfl
    | false =>
      rw [branch_false, cond_false]
      cases v.k == 2 with
      | true => cases v.n == 1 <;> rfl
      | false => cases v.k == 3 <;> rfl
noncomputable def p12 : POrc Tryd.prog := g12.pureIf dec1v (fun v => [v.av]) dec1v_enc okSh (fun v => .str (showV v)) (fun _ _ => ⟨rfl, fun _ _ => trivial⟩) fun v h => ⟨0, fun st => show_eq v h st⟩
end Go.Proofs.YtcfedmheblbdnaaDoor.V

/- The functions' pieces, as told by gen.py. -/
set_option linter.unusedVariables false
set_option maxRecDepth 20000
namespace Go.Proofs.YtcfedmheblbdnaaDoor.V
open Go Go.V Go.RowKit


/-! ### 41: interlock/interlockref00.Show (3); results 2; slots: 0 v, 1 v, 3 n, 4 d, 5 out, 6 i -/
/-- A loop's round; at its head live: 0 v, 3 n, 4 d -/
noncomputable def f41_l0 : Sim Tryd.prog :=
 (.block 1 (.seq (.live [0, 3, 4] (.region 5 [
 ⟨(opMove (some 13) (.tmp 4) 46 "ref.go:108" #[]).op, none⟩,
 ⟨(opMove (some 14) (.tmp 3) 3 "ref.go:108" #[]).op, none⟩,
 ⟨(opBin (some 15) .rem 3 (.tmp 14) (.const (Value.int IntKind.i64 10)) 3 3 "ref.go:108" #[eD 1]).op, none⟩,
 ⟨(opBin (some 16) .sub 3 (.const (Value.int IntKind.i64 48)) (.tmp 15) 3 3 "ref.go:108" #[eD 2]).op, none⟩,
 ⟨(opConvInt (some 17) 3 5 (.tmp 16) (.int .i64) Tryd.underlying3 .u8 Tryd.underlying5 5 "ref.go:108" #[eD 3]).op, none⟩,
 ⟨(opBuildSlice (some 18) 46 1 [(0, (.tmp 17))] 5 1 1 (.int .u8 0) el46 (by kernel_rfl) (by decide) 46 "ref.go:108" #[eD 4]).op, none⟩,
 ⟨(opAppend (some 19) (.tmp 13) (.tmp 18) 46 46 5 1 1 (.int .u8 0) el46 (.slice 5) Tryd.underlying46 rfl 46 "ref.go:108" #[eD 0, eD 5]).op, none⟩,
 ⟨(opAssign (some 4) (.tmp 19) 46 "ref.go:108" #[eD 6, eC 6, eP 0, eP 1, eP 2, eP 3, eP 4, eP 5, eP 6]).op, none⟩
 ] (by kernel_rfl)))
 (.seq (.live [0, 3, 4] (.region 6 [
 ⟨(opMove (some 20) (.tmp 3) 3 "ref.go:109" #[]).op, none⟩,
 ⟨(opBin (some 21) .quo 3 (.tmp 20) (.const (Value.int IntKind.i64 10)) 3 3 "ref.go:109" #[eD 0]).op, none⟩,
 ⟨(opAssign (some 3) (.tmp 21) 3 "ref.go:109" #[eD 1, eP 0, eP 1]).op, none⟩
 ] (by kernel_rfl)))
 (.seq (.live [0, 3, 4, 23] (.region 7 [
 ⟨(opMove (some 22) (.tmp 3) 3 "ref.go:110" #[]).op, none⟩,
 ⟨(opBin (some 23) .eql 3 (.tmp 22) (.const (Value.int IntKind.i64 0)) 3 4 "ref.go:110" #[eD 0]).op, none⟩
 ] (by kernel_rfl)))
 (.cond (.tmp 23)
 (.live [0, 4] (.exit 0))
 .skip)))))

/-- A loop's round; at its head live: 4 d, 5 out, 6 i -/
noncomputable def f41_l1 : Sim Tryd.prog :=
 (.seq (.seq (.live [4, 5, 6, 34] (.region 12 [
 ⟨(opMove (some 33) (.tmp 6) 3 "ref.go:118" #[]).op, none⟩,
 ⟨(opBin (some 34) .geq 3 (.tmp 33) (.const (Value.int IntKind.i64 0)) 3 4 "ref.go:118" #[eD 0]).op, none⟩
 ] (by kernel_rfl)))
 (.cond (.tmp 34)
 .skip
 (.live [5] (.exit 2))))
 (.seq (.block 3 (.live [4, 5, 6] (.region 14 [
 ⟨(opMove (some 37) (.tmp 5) 46 "ref.go:119" #[]).op, none⟩,
 ⟨(opMove (some 38) (.tmp 4) 46 "ref.go:119" #[]).op, none⟩,
 ⟨(opMove (some 39) (.tmp 6) 3 "ref.go:119" #[]).op, none⟩,
 ⟨(opIndexAddrT (some 40) 46 (.tmp 38) (.tmp 39) 5 1 Tryd.underlying46 sz5 0 "ref.go:119" #[eD 1, eD 2]).op, none⟩,
 ⟨(opLoadT (.one (.int .u8)) (some 41) 5 (.tmp 40) (.int .u8) Tryd.underlying5 1 sz5 (by kernel_rfl) 5 "ref.go:119" #[eD 3]).op, none⟩,
 ⟨(opBuildSlice (some 42) 46 1 [(0, (.tmp 41))] 5 1 1 (.int .u8 0) el46 (by kernel_rfl) (by decide) 46 "ref.go:119" #[eD 4]).op, none⟩,
 ⟨(opAppend (some 43) (.tmp 37) (.tmp 42) 46 46 5 1 1 (.int .u8 0) el46 (.slice 5) Tryd.underlying46 rfl 46 "ref.go:119" #[eD 0, eD 5]).op, none⟩,
 ⟨(opAssign (some 5) (.tmp 43) 46 "ref.go:119" #[eD 6, eC 6, eP 0, eP 1, eP 2, eP 3, eP 4, eP 5, eP 6]).op, none⟩
 ] (by kernel_rfl))))
 (.live [4, 5, 6] (.region 13 [
 ⟨(opMove (some 35) (.tmp 6) 3 "ref.go:118" #[]).op, none⟩,
 ⟨(opBin (some 36) .sub 3 (.tmp 35) (.const (Value.int IntKind.i64 1)) 3 3 "ref.go:118" #[eD 0]).op, none⟩,
 ⟨(opAssign (some 6) (.tmp 36) 3 "ref.go:118" #[eD 1, eP 0, eP 1]).op, none⟩
 ] (by kernel_rfl)))))

/-- What follows a loop. -/
noncomputable def f41_r0 : Sim Tryd.prog :=
 (.seq (.live [2] (.region 15 [
 ⟨(opMove (some 44) (.tmp 5) 46 "ref.go:121" #[]).op, none⟩,
 ⟨(opBytesStr (some 45) 46 9 (.tmp 44) 5 Tryd.underlying46 Tryd.underlying5 Tryd.underlying9 9 "ref.go:121" #[eD 0]).op, none⟩,
 ⟨(opAssign (some 2) (.tmp 45) 9 "ref.go:121" #[eD 1, eP 0, eP 1]).op, none⟩
 ] (by kernel_rfl)))
 (.live [2] .ret))

/-- What follows a loop. -/
noncomputable def f41_r1 : Sim Tryd.prog :=
 (.seq (.seq (.live [4, 25] (.region 8 [
 ⟨(opMove (some 24) (.tmp 0) 3 "ref.go:114" #[]).op, none⟩,
 ⟨(opBin (some 25) .lss 3 (.tmp 24) (.const (Value.int IntKind.i64 0)) 3 4 "ref.go:114" #[eD 0]).op, none⟩
 ] (by kernel_rfl)))
 (.cond (.tmp 25)
 (.live [4] (.region 9 [
 ⟨(opMove (some 26) (.tmp 4) 46 "ref.go:115" #[]).op, none⟩,
 ⟨(opBuildSlice (some 27) 46 1 [(0, (.const (Value.int IntKind.u8 45)))] 5 1 1 (.int .u8 0) el46 (by kernel_rfl) (by decide) 46 "ref.go:115" #[]).op, none⟩,
 ⟨(opAppend (some 28) (.tmp 26) (.tmp 27) 46 46 5 1 1 (.int .u8 0) el46 (.slice 5) Tryd.underlying46 rfl 46 "ref.go:115" #[eD 0, eD 1]).op, none⟩,
 ⟨(opAssign (some 4) (.tmp 28) 46 "ref.go:115" #[eD 2, eC 2, eP 0, eP 1, eP 2]).op, none⟩
 ] (by kernel_rfl)))
 .skip))
 (.seq (.live [4, 5] (.region 10 [
 ⟨(opBuildSlice (some 29) 46 0 [] 5 1 1 (.int .u8 0) el46 (by kernel_rfl) (by decide) 46 "ref.go:117" #[]).op, none⟩,
 ⟨(opAssign (some 5) (.tmp 29) 46 "ref.go:117" #[eD 0, eP 0]).op, none⟩
 ] (by kernel_rfl)))
 (.seq (.seq (.live [4, 5, 6] (.region 11 [
 ⟨(opMove (some 30) (.tmp 4) 46 "ref.go:118" #[]).op, none⟩,
 ⟨(opLen (some 31) (.tmp 30) 46 (.slice 5) Tryd.underlying46 3 "ref.go:118" #[eD 0]).op, none⟩,
 ⟨(opBin (some 32) .sub 3 (.tmp 31) (.const (Value.int IntKind.i64 1)) 3 3 "ref.go:118" #[eD 1]).op, none⟩,
 ⟨(opAssign (some 6) (.tmp 32) 3 "ref.go:118" #[eD 2, eP 0, eP 1, eP 2]).op, none⟩
 ] (by kernel_rfl)))
 (.block 2 (.loop [4, 5, 6] f41_l1)))
 f41_r0)))

noncomputable def f41_b : Sim Tryd.prog :=
 (.seq (.live [0] (.region 0 [
 ⟨(opAssign (some 2) (.const (Value.string { data := #[] })) 9 "ref.go:101" #[]).op, none⟩
 ] (by kernel_rfl)))
 (.seq (.live [0, 3] (.region 1 [
 ⟨(opMove (some 7) (.tmp 0) 3 "ref.go:102" #[]).op, none⟩,
 ⟨(opAssign (some 3) (.tmp 7) 3 "ref.go:102" #[eD 0, eP 0]).op, none⟩
 ] (by kernel_rfl)))
 (.seq (.seq (.live [0, 3, 9] (.region 2 [
 ⟨(opMove (some 8) (.tmp 3) 3 "ref.go:103" #[]).op, none⟩,
 ⟨(opBin (some 9) .gtr 3 (.tmp 8) (.const (Value.int IntKind.i64 0)) 3 4 "ref.go:103" #[eD 0]).op, none⟩
 ] (by kernel_rfl)))
 (.cond (.tmp 9)
 (.live [0, 3] (.region 3 [
 ⟨(opMove (some 10) (.tmp 3) 3 "ref.go:104" #[]).op, none⟩,
 ⟨(opNeg (some 11) 3 (.tmp 10) 3 "ref.go:104" #[eD 0]).op, none⟩,
 ⟨(opAssign (some 3) (.tmp 11) 3 "ref.go:104" #[eD 1, eP 0, eP 1]).op, none⟩
 ] (by kernel_rfl)))
 .skip))
 (.seq (.live [0, 3, 4] (.region 4 [
 ⟨(opBuildSlice (some 12) 46 0 [] 5 1 1 (.int .u8 0) el46 (by kernel_rfl) (by decide) 46 "ref.go:106" #[]).op, none⟩,
 ⟨(opAssign (some 4) (.tmp 12) 46 "ref.go:106" #[eD 0, eP 0]).op, none⟩
 ] (by kernel_rfl)))
 (.seq (.block 0 (.loop [0, 3, 4] f41_l0))
 f41_r1)))))

noncomputable def f41 : Fun Tryd.prog where
 id := 41
 fn := Tryd.f41
 hf := Tryd.func41
 hname := by kernel_rfl
 body := f41_b
 hbody := by kernel_rfl
 res := [rTmp 2]
 hres := by kernel_rfl
 n := 46
 hn := by kernel_rfl

end Go.Proofs.YtcfedmheblbdnaaDoor.V

/- What the functions' runs come to; the right sides were printed by a tool, Lean checks them. -/
set_option linter.unusedVariables false
set_option maxRecDepth 100000
namespace Go.Proofs.YtcfedmheblbdnaaDoor.V
open Go Go.V Go.RowKit

theorem us_run (F : Nat) (i : Int) :
 (f41.run F [.int .i64 i] ⟨[], []⟩ : Ans) =
 branch (AV.bool (decide (i > (0 : Int))))
 (loopRun (f41_l0.run F) [0, 3, 4]
 (Cont.block 0 (Cont.then (f41_r1.run F (f41.leaveK Fun.done)) (f41.leaveK Fun.done))) F
 (Env.mk 46
 [(0, AV.int IntKind.i64 i), (3, AV.int IntKind.i64 (IntKind.i64.wrap ((0 : Int) - i))),
 (4, AV.sl 1 true [])])
 (St.mk [] []))
 (loopRun (f41_l0.run F) [0, 3, 4]
 (Cont.block 0 (Cont.then (f41_r1.run F (f41.leaveK Fun.done)) (f41.leaveK Fun.done))) F
 (Env.mk 46
 [(0, AV.int IntKind.i64 i), (3, AV.int IntKind.i64 i), (4, AV.sl 1 true [])])
 (St.mk [] [])) := by kernel_rfl

theorem us_a0 (F m : Nat) (K : Cont) (v n : Int) :
 (loopRun (f41_l0.run F) [0, 3, 4] K m.succ (Env.mk 46 [(0, .int .i64 v), (3, .int .i64 n), (4, .sl 1 true [])]) ⟨[], []⟩ : Ans) =
 branch (AV.bool (IntKind.i64.wrap (n.tdiv (10 : Int)) == (0 : Int)))
 (K (AX.exit 0)
 (Env.mk 46
 [(0, AV.int IntKind.i64 v),
 (4,
 AV.lg 0 1
 [[AV.int IntKind.u8 (IntKind.u8.wrap (IntKind.i64.wrap ((48 : Int) - n.tmod (10 : Int))))]])])
 (St.mk [] [(1, 1)]))
 (loopRun (f41_l0.run F) [0, 3, 4] K m
 (Env.mk 46
 [(0, AV.int IntKind.i64 v), (3, AV.int IntKind.i64 (IntKind.i64.wrap (n.tdiv (10 : Int)))),
 (4,
 AV.lg 0 1
 [[AV.int IntKind.u8 (IntKind.u8.wrap (IntKind.i64.wrap ((48 : Int) - n.tmod (10 : Int))))]])])
 (St.mk [] [(1, 1)])) := by kernel_rfl

theorem us_a1 (F m : Nat) (K : Cont) (v n : Int) (l : List (List AV)) :
 (loopRun (f41_l0.run F) [0, 3, 4] K m.succ (Env.mk 46 [(0, .int .i64 v), (3, .int .i64 n), (4, .lg 0 1 l)]) ⟨[], [(1, l.length)]⟩ : Ans) =
 if
 some (1, l.length) = some (1, l.length) ∧
 (l.length + 1) * 1 ≤ 140737488355328 then
 branch (AV.bool (IntKind.i64.wrap (n.tdiv (10 : Int)) == (0 : Int)))
 (K (AX.exit 0)
 (Env.mk 46
 [(0, AV.int IntKind.i64 v),
 (4,
 AV.lg 0 1
 (l ++ [[AV.int IntKind.u8 (IntKind.u8.wrap (IntKind.i64.wrap ((48 : Int) - n.tmod (10 : Int))))]]))])
 (St.mk [] [(1, l.length + 1)]))
 (loopRun (f41_l0.run F) [0, 3, 4] K m
 (Env.mk 46
 [(0, AV.int IntKind.i64 v), (3, AV.int IntKind.i64 (IntKind.i64.wrap (n.tdiv (10 : Int)))),
 (4,
 AV.lg 0 1
 (l ++ [[AV.int IntKind.u8 (IntKind.u8.wrap (IntKind.i64.wrap ((48 : Int) - n.tmod (10 : Int))))]]))])
 (St.mk [] [(1, l.length + 1)]))
 else none := by kernel_rfl

theorem us_mid (F : Nat) (v : Int) (l : List (List AV)) :
 ((Cont.block 0 (Cont.then (f41_r1.run F (f41.leaveK Fun.done)) (f41.leaveK Fun.done))) (.exit 0) (Env.mk 46 [(0, .int .i64 v), (4, .lg 0 1 l)]) ⟨[], [(1, l.length)]⟩ : Ans) =
 branch (AV.bool (decide (v < (0 : Int))))
 (if
 some (1, l.length) = some (1, l.length) ∧
 (l.length + 1) * 1 ≤ 140737488355328 then
 loopRun (f41_l1.run F) [4, 5, 6]
 (Cont.block 2 (Cont.then (f41_r0.run F (f41.leaveK Fun.done)) (f41.leaveK Fun.done))) F
 (Env.mk 46
 [(4, AV.lg 0 1 (l ++ [[AV.int IntKind.u8 (45 : Int)]])),
 (5, AV.sl 1 true []),
 (6,
 AV.int IntKind.i64
 (IntKind.i64.wrap ((↑(l ++ [[AV.int IntKind.u8 (45 : Int)]]).length : Int) - (1 : Int))))])
 (St.mk [] [(1, l.length + 1)])
 else none)
 (loopRun (f41_l1.run F) [4, 5, 6]
 (Cont.block 2 (Cont.then (f41_r0.run F (f41.leaveK Fun.done)) (f41.leaveK Fun.done))) F
 (Env.mk 46
 [(4, AV.lg 0 1 l), (5, AV.sl 1 true []),
 (6, AV.int IntKind.i64 (IntKind.i64.wrap ((↑l.length : Int) - (1 : Int))))])
 (St.mk [] [(1, l.length)])) := by kernel_rfl

theorem us_b0 (F m : Nat) (K : Cont) (i : Int) (l : List (List AV)) (n : Nat) :
 (loopRun (f41_l1.run F) [4, 5, 6] K m.succ (Env.mk 46 [(4, .lg 0 1 l), (5, .sl 1 true []), (6, .int .i64 i)]) ⟨[], [(1, n)]⟩ : Ans) =
 branch (AV.bool (decide (i ≥ (0 : Int))))
 (branch (AV.bool (inR l i))
 (branch (AV.bool ((LD.one (LT.int IntKind.u8)).is (V.rowAt l i)))
 (loopRun (f41_l1.run F) [4, 5, 6] K m
 (Env.mk 46
 [(4, AV.lg 0 1 l),
 (5, AV.lg 1 1 [[AV.int IntKind.u8 (hdI (V.rowAt l i))]]),
 (6, AV.int IntKind.i64 (IntKind.i64.wrap (i - (1 : Int))))])
 (St.mk [] [(1, n), (1, 1)]))
 none)
 none)
 (K (AX.exit 2) (Env.mk 46 [(5, AV.sl 1 true [])]) (St.mk [] [(1, n)])) := by kernel_rfl

theorem us_b1 (F m : Nat) (K : Cont) (i : Int) (l r : List (List AV)) (n : Nat) :
 (loopRun (f41_l1.run F) [4, 5, 6] K m.succ (Env.mk 46 [(4, .lg 0 1 l), (5, .lg 1 1 r), (6, .int .i64 i)]) ⟨[], [(1, n), (1, r.length)]⟩ : Ans) =
 branch (AV.bool (decide (i ≥ (0 : Int))))
 (branch (AV.bool (inR l i))
 (branch (AV.bool ((LD.one (LT.int IntKind.u8)).is (V.rowAt l i)))
 (if
 some (1, r.length) = some (1, r.length) ∧
 (r.length + 1) * 1 ≤ 140737488355328 then
 loopRun (f41_l1.run F) [4, 5, 6] K m
 (Env.mk 46
 [(4, AV.lg 0 1 l),
 (5, AV.lg 1 1 (r ++ [[AV.int IntKind.u8 (hdI (V.rowAt l i))]])),
 (6, AV.int IntKind.i64 (IntKind.i64.wrap (i - (1 : Int))))])
 (St.mk [] [(1, n), (1, r.length + 1)])
 else none)
 none)
 none)
 (K (AX.exit 2) (Env.mk 46 [(5, AV.lg 1 1 r)])
 (St.mk [] [(1, n), (1, r.length)])) := by kernel_rfl

theorem us_end (F : Nat) (r : List (List AV)) (st : St) :
 ((Cont.block 2 (Cont.then (f41_r0.run F (f41.leaveK Fun.done)) (f41.leaveK Fun.done))) (.exit 2) (Env.mk 46 [(5, .lg 1 1 r)]) st : Ans) =
 onSome (numsOf r) none fun (o : List Int) => some (Fin.ret (AV.str (textOf o)), st) := by kernel_rfl

end Go.Proofs.YtcfedmheblbdnaaDoor.V

/- Values: the references' Show of a number, as a callee. -/
set_option linter.unusedVariables false
namespace Go.Proofs.YtcfedmheblbdnaaDoor.V
open Go Go.V Go.RowKit

/-- The k lowest digits, the lowest first. -/
def lows (U k : Nat) : List Nat := (List.range k).map fun j => 48 + U / 10 ^ j % 10
theorem lows_succ (U k : Nat) : lows U (k + 1) = lows U k ++ [48 + U / 10 ^ k % 10] := by simp [lows, List.range_succ]
theorem lows_len (U k : Nat) : (lows U k).length = k := by simp [lows]
theorem lows_lt (U k : Nat) : ∀ b ∈ lows U k, b < 256 := by
  intro b hb
  obtain ⟨j, _, rfl⟩ := List.mem_map.mp hb
  omega
theorem lows_rev (U n : Nat) : (lows U n).reverse = digs U n := by
  apply List.ext_getElem?
  intro j
  by_cases hj : j < n
  · rw [List.getElem?_reverse (by rw [lows_len]; exact hj), lows_len, lows, digs, List.getElem?_map, List.getElem?_map, List.getElem?_range (by omega), List.getElem?_range hj]; rfl
  · rw [List.getElem?_eq_none (by simp [lows]; omega), List.getElem?_eq_none (by simp [digs]; omega)]
theorem dg_byte (U : Nat) : IntKind.u8.wrap (IntKind.i64.wrap (48 - (-(U : Int)).tmod 10)) = ((48 + U % 10 : Nat) : Int) := by
  have e : (-(U : Int)).tmod 10 = -((U % 10 : Nat) : Int) := by rw [Int.neg_tmod, show (10 : Int) = ((10 : Nat) : Int) from rfl, ← Int.ofNat_tmod]
  rw [e, wrapS (by omega) (by omega), show (48 : Int) - -((U % 10 : Nat) : Int) = ((48 + U % 10 : Nat) : Int) by omega]
  exact w8 (by omega)
theorem dg_next {U : Nat} (h : U ≤ 9223372036854775808) : IntKind.i64.wrap ((-(U : Int)).tdiv 10) = -((U / 10 : Nat) : Int) := by
  have e : (-(U : Int)).tdiv 10 = -((U / 10 : Nat) : Int) := by rw [Int.neg_tdiv, show (10 : Int) = ((10 : Nat) : Int) from rfl, ← Int.ofNat_tdiv]
  rw [e, wrapS (by omega) (by omega)]
theorem dg_zero (x : Nat) : (-((x : Nat) : Int) == 0) = (x == 0) := by
  rw [Bool.eq_iff_iff, beq_iff_eq, beq_iff_eq]; omega
theorem us_a (F : Nat) (K' : Cont) (v : Int) (U N : Nat) (hU : U ≤ 9223372036854775808) (hN : N ≤ 20) (h0 : U / 10 ^ N = 0) (h1 : ∀ j, j < N → U / 10 ^ j ≠ 0 ∨ j = 0) : ∀ (t k m : Nat), k + t = N → 1 ≤ k → k < N → t ≤ m →
    loopRun (f41_l0.run F) [0, 3, 4] K' m (Env.mk 46 [(0, .int .i64 v), (3, .int .i64 (-((U / 10 ^ k : Nat) : Int))), (4, .lg 0 1 (bR (lows U k)))]) ⟨[], [(1, (bR (lows U k)).length)]⟩
      = K' (.exit 0) (Env.mk 46 [(0, .int .i64 v), (4, .lg 0 1 (bR (lows U N)))]) ⟨[], [(1, (bR (lows U N)).length)]⟩
  | 0, k, m, h, _, hk, _ => by omega
  | t + 1, k, 0, h, _, hk, hm => by omega
  | t + 1, k, m + 1, h, hk1, hk, hm => by
    have hle : U / 10 ^ k ≤ 9223372036854775808 := Nat.le_trans (Nat.div_le_self _ _) hU
    have e : bR (lows U k) ++ [[AV.int IntKind.u8 ((48 + U / 10 ^ k % 10 : Nat) : Int)]] = bR (lows U (k + 1)) := by rw [lows_succ, bR_append]; rfl
    have el : (bR (lows U k)).length + 1 = (bR (lows U (k + 1))).length := by rw [bR_length, bR_length, lows_len, lows_len]
    rw [show m + 1 = m.succ from rfl, us_a1, dg_byte, dg_next hle, dg_zero, Nat.div_div_eq_div_mul, ← Nat.pow_succ, if_pos ⟨rfl, by rw [bR_length, lows_len]; omega⟩, e, el]
    by_cases hl : k + 1 = N
    · rw [show k.succ = N from hl, hl, branch_of (by rw [h0]; rfl)]
    · rw [branch_not (by rw [beq_eq_false_iff_ne]; exact (h1 (k + 1) (by omega)).resolve_right (by omega))]
      exact us_a F K' v U N hU hN h0 h1 t (k + 1) m (by omega) (by omega) (by omega) (by omega)
theorem us_first (F m : Nat) (K' : Cont) (v : Int) (U N : Nat) (hU : U ≤ 9223372036854775808) (hN1 : 1 ≤ N) (hN : N ≤ 20) (hm : 20 ≤ m) (h0 : U / 10 ^ N = 0) (h1 : ∀ j, j < N → U / 10 ^ j ≠ 0 ∨ j = 0) :
    loopRun (f41_l0.run F) [0, 3, 4] K' m.succ (Env.mk 46 [(0, .int .i64 v), (3, .int .i64 (-((U : Nat) : Int))), (4, .sl 1 true [])]) ⟨[], []⟩
      = K' (.exit 0) (Env.mk 46 [(0, .int .i64 v), (4, .lg 0 1 (bR (lows U N)))]) ⟨[], [(1, (bR (lows U N)).length)]⟩ := by
  have e : [[AV.int IntKind.u8 ((48 + U % 10 : Nat) : Int)]] = bR (lows U 1) := by rw [lows_succ]; show _ = bR [48 + U / 1 % 10]; rw [Nat.div_one]; rfl
  rw [us_a0, dg_byte, dg_next hU, dg_zero, e]
  by_cases hl : N = 1
  · subst hl; rw [branch_of (by rw [show U / 10 = 0 from h0]; rfl)]; rfl
  · rw [branch_not (by rw [beq_eq_false_iff_ne]; have := (h1 1 (by omega)).resolve_right (by omega); simpa using this)]
    have := us_a F K' v U N hU hN h0 h1 (N - 1) 1 m (by omega) (by omega) (by omega) (by omega)
    rw [Nat.pow_one] at this
    exact this
theorem take_rev {L : List Nat} {k : Nat} (h : k < L.length) : (L.take (k + 1)).reverse = L[k] :: (L.take k).reverse := by
  rw [List.take_succ_eq_append_getElem h, List.reverse_append]; rfl
noncomputable def usK (F : Nat) : Cont := Cont.block 2 (Cont.then (f41_r0.run F (f41.leaveK Fun.done)) (f41.leaveK Fun.done))
theorem us_b (F : Nat) (L : List Nat) (hL : ∀ b ∈ L, b < 256) (hl : L.length ≤ 100) (n : Nat) : ∀ (k m : Nat) (r : List Nat), k ≤ L.length → k < m → r.length + k ≤ 200 → (∀ b ∈ r, b < 256) →
    ∃ st', loopRun (f41_l1.run F) [4, 5, 6] (usK F) m (Env.mk 46 [(4, .lg 0 1 (bR L)), (5, .lg 1 1 (bR r)), (6, .int .i64 ((k : Int) - 1))]) ⟨[], [(1, n), (1, (bR r).length)]⟩ = some (.ret (.str (txt (r ++ (L.take k).reverse))), st')
  | k, 0, r, _, h, _, _ => by omega
  | 0, m + 1, r, _, _, _, hr => by
    rw [show m + 1 = m.succ from rfl, us_b1, branch_not (decide_eq_false (by omega)), usK, us_end, text_rows hr, List.take_zero, List.reverse_nil, List.append_nil]
    exact ⟨_, rfl⟩
  | k + 1, m + 1, r, hk, hm, hs, hr => by
    have hi : k < (bR L).length := by rw [bR_length]; omega
    have hrow : (bR L)[k] = [.int .u8 ((L[k] : Nat) : Int)] := by simp [bR]
    have e1 : ((k + 1 : Nat) : Int) - 1 = (k : Nat) := by omega
    have e2 : bR r ++ [[AV.int IntKind.u8 ((L[k] : Nat) : Int)]] = bR (r ++ [L[k]]) := by rw [bR_append]; rfl
    have e3 : (bR r).length + 1 = (bR (r ++ [L[k]])).length := by simp [bR_length]
    have e4 : IntKind.i64.wrap ((k : Int) - 1) = (k : Int) - 1 := wrapS (by omega) (by omega)
    rw [show m + 1 = m.succ from rfl, e1, us_b1, branch_of (decide_eq_true (by omega)), branch_of (inR_nat hi), rowAt_nat hi, hrow, branch_of (show (LD.one (LT.int IntKind.u8)).is [AV.int IntKind.u8 ((L[k] : Nat) : Int)] = true from rfl), if_pos ⟨rfl, by rw [bR_length]; omega⟩]
    simp only [hdI]
    rw [e2, e3, e4]
    obtain ⟨st', ih⟩ := us_b F L hL hl n k m (r ++ [L[k]]) (by omega) (by omega) (by simp; omega) (by
      intro b hb
      rcases List.mem_append.mp hb with hb | hb
      · exact hr b hb
      · simp at hb; subst hb; exact hL _ (List.getElem_mem _))
    refine ⟨st', ih.trans ?_⟩
    rw [take_rev (by omega), List.append_assoc]; rfl
theorem us_bb (F m : Nat) (L : List Nat) (hL : ∀ b ∈ L, b < 256) (hl : L.length ≤ 100) (h0 : L ≠ []) (n : Nat) (hm : 100 < m) :
    ∃ st', loopRun (f41_l1.run F) [4, 5, 6] (usK F) m.succ (Env.mk 46 [(4, .lg 0 1 (bR L)), (5, .sl 1 true []), (6, .int .i64 ((L.length : Int) - 1))]) ⟨[], [(1, n)]⟩ = some (.ret (.str (txt L.reverse)), st') := by
  obtain ⟨k, hk⟩ : ∃ k, L.length = k + 1 := ⟨L.length - 1, by have := List.length_pos_iff.mpr h0; omega⟩
  have hi : k < (bR L).length := by rw [bR_length]; omega
  have hrow : (bR L)[k] = [.int .u8 ((L[k]'(by omega) : Nat) : Int)] := by simp [bR]
  have e1 : (L.length : Int) - 1 = (k : Nat) := by omega
  have e4 : IntKind.i64.wrap ((k : Int) - 1) = (k : Int) - 1 := wrapS (by omega) (by omega)
  rw [e1, us_b0, branch_of (decide_eq_true (by omega)), branch_of (inR_nat hi), rowAt_nat hi, hrow, branch_of (show (LD.one (LT.int IntKind.u8)).is [AV.int IntKind.u8 ((L[k]'(by omega) : Nat) : Int)] = true from rfl), e4]
  obtain ⟨st', ih⟩ := us_b F L hL hl n k m [L[k]'(by omega)] (by omega) (by omega) (by simp; omega) (by intro b hb; simp at hb; subst hb; exact hL _ (List.getElem_mem _))
  refine ⟨st', ih.trans ?_⟩
  have : L.take (k + 1) = L := List.take_of_length_le (by omega)
  have h2 := take_rev (L := L) (k := k) (by omega)
  rw [this] at h2
  rw [h2]; rfl
theorem us_eq (i : Int) (h1 : -9223372036854775808 ≤ i) (h2 : i ≤ 9223372036854775807) : ∃ st', f41.run 201 [.int .i64 i] ⟨[], []⟩ = some (.ret (.str (showI i)), st') := by
  obtain ⟨U, hU, hUi⟩ : ∃ U : Nat, (i = U ∨ i = -(U : Int)) ∧ U = i.natAbs := ⟨i.natAbs, by omega, rfl⟩
  have hUm : U ≤ 9223372036854775808 := by omega
  have hUb : U < 18446744073709551616 := by omega
  obtain ⟨N, hN, hN1, hN2, h0, h3, hd⟩ : ∃ N, N ≤ 20 ∧ 1 ≤ N ∧ (10 ^ (N - 1) ≤ U ∨ N = 1) ∧ U / 10 ^ N = 0 ∧ (∀ j, j < N → U / 10 ^ j ≠ 0 ∨ j = 0) ∧ digs U N = dec U := by
    by_cases hz : U = 0
    · subst hz
      exact ⟨1, by omega, by omega, .inr rfl, rfl, fun j hj => .inr (by omega), rfl⟩
    · obtain ⟨k1, k2, k3, k4⟩ := ndN_spec hz hUb
      refine ⟨ndN U, k2, k1, .inl k3, Nat.div_eq_of_lt k4, fun j hj => .inl ?_, by rw [dec, if_neg hz]⟩
      have h5 : 10 ^ j ≤ U := Nat.le_trans (Nat.pow_le_pow_right (by omega) (by omega)) k3
      have := Nat.div_pos h5 (Nat.pow_pos (n := j) (show 0 < 10 by omega)); omega
  have hlen : (bR (lows U N)).length = N := by rw [bR_length, lows_len]
  rw [us_run]
  have go : ∀ K', loopRun (f41_l0.run 201) [0, 3, 4] K' 201 (Env.mk 46 [(0, .int .i64 i), (3, .int .i64 (-((U : Nat) : Int))), (4, .sl 1 true [])]) ⟨[], []⟩ = K' (.exit 0) (Env.mk 46 [(0, .int .i64 i), (4, .lg 0 1 (bR (lows U N)))]) ⟨[], [(1, (bR (lows U N)).length)]⟩ := fun K' =>
    us_first 201 200 K' i U N hUm hN1 hN (by omega) h0 h3
  have ends : ∀ A B : Ans, A = B → (∃ st', B = some (.ret (.str (showI i)), st')) → ∃ st', A = some (.ret (.str (showI i)), st') := fun A B h h' => by rw [h]; exact h'
  by_cases hneg : i < 0
  · have hi : i = -(U : Int) := by omega
    rw [branch_not (decide_eq_false (by omega))]
    conv => arg 1; ext st'; lhs; rw [show (3, AV.int IntKind.i64 i) = (3, AV.int IntKind.i64 (-((U : Nat) : Int))) by rw [← hi]]
    rw [go, us_mid, branch_of (decide_eq_true hneg), if_pos ⟨rfl, by rw [hlen]; omega⟩]
    have e5 : bR (lows U N) ++ [[AV.int IntKind.u8 (45 : Int)]] = bR (lows U N ++ [45]) := by rw [bR_append]; rfl
    rw [e5]
    have hL : (lows U N ++ [45]).length = N + 1 := by simp [lows_len]
    have e6 : IntKind.i64.wrap (((bR (lows U N ++ [45])).length : Int) - 1) = (((lows U N ++ [45]).length : Nat) : Int) - 1 := by rw [bR_length, wrapS (by omega) (by omega)]
    rw [e6]
    obtain ⟨st', h⟩ := us_bb 201 200 (lows U N ++ [45]) (by
      intro b hb
      rcases List.mem_append.mp hb with hb | hb
      · exact lows_lt _ _ b hb
      · simp at hb; omega) (by omega) (by simp) ((bR (lows U N)).length + 1) (by omega)
    refine ⟨st', h.trans ?_⟩
    rw [List.reverse_append, lows_rev, hd, showI, numL, if_pos hneg, show (-i).toNat = U by omega]; rfl
  · have hi : i = (U : Int) := by omega
    have goal : ∃ st', loopRun (f41_l0.run 201) [0, 3, 4] (Cont.block 0 (Cont.then (f41_r1.run 201 (f41.leaveK Fun.done)) (f41.leaveK Fun.done))) 201 (Env.mk 46 [(0, .int .i64 i), (3, .int .i64 (-((U : Nat) : Int))), (4, .sl 1 true [])]) ⟨[], []⟩ = some (.ret (.str (showI i)), st') := by
      rw [go, us_mid, branch_not (decide_eq_false hneg)]
      have e6 : IntKind.i64.wrap (((bR (lows U N)).length : Int) - 1) = (((lows U N).length : Nat) : Int) - 1 := by rw [bR_length, lows_len, wrapS (by omega) (by omega)]
      rw [e6]
      obtain ⟨st', h⟩ := us_bb 201 200 (lows U N) (lows_lt U N) (by rw [lows_len]; omega) (by intro e; have := congrArg List.length e; rw [lows_len] at this; simp at this; omega) ((bR (lows U N)).length) (by omega)
      refine ⟨st', h.trans ?_⟩
      rw [lows_rev, hd, showI, numL, if_neg hneg, show i.toNat = U by omega]
    by_cases hp : i > 0
    · have e7 : IntKind.i64.wrap (0 - i) = -((U : Nat) : Int) := by rw [wrapS (by omega) (by omega)]; omega
      rw [branch_of (decide_eq_true hp), e7]; exact goal
    · have e7 : i = -((U : Nat) : Int) := by omega
      rw [branch_not (decide_eq_false hp)]
      conv => arg 1; ext st'; lhs; rw [show (3, AV.int IntKind.i64 i) = (3, AV.int IntKind.i64 (-((U : Nat) : Int))) by rw [← e7]]
      exact goal
end Go.Proofs.YtcfedmheblbdnaaDoor.V

/- Values: the references' Show of a number. -/
set_option linter.unusedVariables false
namespace Go.Proofs.YtcfedmheblbdnaaDoor.V
open Go Go.V Go.RowKit

def dec1i : List AV → Option Int
  | [x] => match x with
    | .int k i => match k with
      | .i64 => some i
      | _ => none
    | _ => none
  | _ => none
theorem dec1i_enc : ∀ l a, dec1i l = some a → l = [.int .i64 a] := by
  intro l a h
  unfold dec1i at h
  split at h
  · split at h
    · split at h
      · cases h; rfl
      · cases h
    · cases h
  · cases h
noncomputable def p41 : POrc Tryd.prog := f41.flatIf dec1i (fun i => [.int .i64 i]) dec1i_enc okI (fun i => .str (showI i)) (fun _ => ⟨trivial, trivial⟩) (fun _ => trivial) fun i h => by
  obtain ⟨h1, h2⟩ := cdec_iff.mp h
  obtain ⟨st', h⟩ := us_eq i h1 h2
  exact ⟨201, st', h⟩
end Go.Proofs.YtcfedmheblbdnaaDoor.V

/- Values of an interface type that hold numbers of one type: compared. -/
set_option linter.unusedVariables false
set_option linter.unusedSimpArgs false
namespace Go.V
section
variable {P : Program}

def aifc (te : TypeId) (kd : IntKind) (x y : AV) (k : Bool → Ans) : Ans :=
  match x with
  | .ifc t a => match y with
    | .ifc t' b => match Nat.beq t te && Nat.beq t' te with
      | true => match a with
        | .int ka n => match b with
          | .int kb m => match decide (ka = kd) && decide (kb = kd) with
            | true => k (n == m)
            | false => none
          | _ => none
        | _ => none
      | false => none
    | _ => none
  | _ => none
theorem aifc_some {te : TypeId} {kd : IntKind} {x y : AV} {k : Bool → Ans} {fin : Fin × St} (h : aifc te kd x y k = some fin) {g : Gh} {w : World} {v u : Value} (hx : Rel g w x v) (hy : Rel g w y u) :
    ∃ n m, v = .iface te (.int kd n) ∧ u = .iface te (.int kd m) ∧ k (n == m) = some fin := by
  unfold aifc at h
  split at h
  · split at h
    · split at h
      · rename_i hc
        rw [Bool.and_eq_true] at hc
        obtain rfl := Nat.eq_of_beq_eq_true hc.1
        have ht := Nat.eq_of_beq_eq_true hc.2
        split at h
        · split at h
          · split at h
            · rename_i hk
              simp only [Bool.and_eq_true, decide_eq_true_eq] at hk
              obtain ⟨rfl, rfl⟩ := hk
              obtain ⟨a, h1, h2⟩ := hx
              obtain ⟨b, h3, h4⟩ := hy
              have h2 : a = .int _ _ := h2
              have h4 : b = .int _ _ := h4
              subst h2; subst h4
              rw [ht] at h3
              exact ⟨_, _, h1, h3, h⟩
            · cases h
          · cases h
        · cases h
      · cases h
    · cases h
  · cases h
theorem run_eql_ifc {tp te : TypeId} {ms : Array (String × TypeId)} {kd : IntKind} (w : World) (n m : Int) (hp : P.underlying tp = some (.interface ms)) (hu : P.underlying te = some (.int kd)) (hi : (P.info? te).map (·.comparable) = some true) :
    (Op.equal tp (.iface te (.int kd n)) (.iface te (.int kd m))).run P w = .ok (n == m) w := by
  obtain ⟨i, hi, hc⟩ := Option.map_eq_some_iff.1 hi
  have h1 : ∀ d : Nat, (Op.equalIn (d + 1) te (.int kd n) (.int kd m)).run P w = .ok (n == m) w := fun d => by
    simp [Op.equalIn, run_underlying hu]
  have h2 : ∀ d : Nat, (Op.equalIn (d + 1 + 1) tp (.iface te (.int kd n)) (.iface te (.int kd m))).run P w = .ok (n == m) w := fun d => by
    rw [Op.equalIn]
    simp [run_underlying hp, typeInfo, hi, hc, h1 d]
  exact h2 9998
theorem run_eqGuard_ifc (op : BinOp) (T : TypeId) (x y : Operand) (a b : TypeId) (v u : Value) (w : World) : (eqGuard op T x y (.iface a v) (.iface b u)).run P w = .ok () w := by
  unfold eqGuard
  split <;> rfl
/-- An interface type. -/
def ifcB (P : Program) (T : TypeId) : Bool := match P.underlying T with
  | some (.interface _) => true
  | _ => false
theorem ifcB_eq {T : TypeId} (h : ifcB P T = true) : ∃ ms, P.underlying T = some (.interface ms) := by
  unfold ifcB at h
  split at h
  · exact ⟨_, by assumption⟩
  · cases h
def opEqI (dst : Option Tmp) (T te : TypeId) (kd : IntKind) (hT : ifcB P T = true) (hu : P.underlying te = some (.int kd)) (hi : (P.info? te).map (·.comparable) = some true) (x y : Operand) (T' : TypeId) (ty : TypeId) (pos : String) (after : Array Edge) : PSim P :=
  PSim.quiet (mkOp dst (.binOp .eql T x y T') ty pos after) rfl [x, y] (fun ev k => aifc te kd (ev x) (ev y) fun b => k (.bool b)) (fun ev ev' k h => by simp only [h x (by simp), h y (by simp)]) fun ev k fin h g w a st he hs => by
    obtain ⟨n, m, h1, h2, h3⟩ := aifc_some h (he x (by simp)) (he y (by simp))
    obtain ⟨ms, hT⟩ := ifcB_eq hT
    refine ⟨_, _, h3, ?_, rfl⟩
    simp only [execOp, mkOp, h1, h2, Sem.run_bind, run_eqGuard_ifc, Result.andThen_ok, binOp]
    simp [run_eql_ifc (P := P) w n m hT hu hi]
def opNeI (dst : Option Tmp) (T te : TypeId) (kd : IntKind) (hT : ifcB P T = true) (hu : P.underlying te = some (.int kd)) (hi : (P.info? te).map (·.comparable) = some true) (x y : Operand) (T' : TypeId) (ty : TypeId) (pos : String) (after : Array Edge) : PSim P :=
  PSim.quiet (mkOp dst (.binOp .neq T x y T') ty pos after) rfl [x, y] (fun ev k => aifc te kd (ev x) (ev y) fun b => k (.bool !b)) (fun ev ev' k h => by simp only [h x (by simp), h y (by simp)]) fun ev k fin h g w a st he hs => by
    obtain ⟨n, m, h1, h2, h3⟩ := aifc_some h (he x (by simp)) (he y (by simp))
    obtain ⟨ms, hT⟩ := ifcB_eq hT
    refine ⟨_, _, h3, ?_, rfl⟩
    simp only [execOp, mkOp, h1, h2, Sem.run_bind, run_eqGuard_ifc, Result.andThen_ok, binOp]
    simp [run_eql_ifc (P := P) w n m hT hu hi]
/-- make of a slice, as a new growing object. -/
noncomputable def amakeN (sz bytes : Nat) (zc : List AV) (x : AV) (st : St) (k : AV → St → Ans) : Ans :=
  match x with
  | .int _ n => match mkOk bytes n with
    | true => k (.vs st.objs.length 0 sz n.toNat) ⟨st.objs ++ [.vec 0 (zerC n.toNat zc)], st.tk⟩
    | false => none
  | _ => none
noncomputable def opMakeN (dst : Option Tmp) (T : TypeId) (x : Operand) (e sz bytes : Nat) (z : Value) (hT : ElemOf P T e sz bytes z) (zc : List AV) (hz : cellsA (ofLit z) = some zc) (hsz : Nat.beq z.cells.size sz = true) (ty : TypeId) (pos : String) (after : Array Edge) (hok : okE sz e = true := by rfl) : MSim P :=
  MSim.makes (mkOp dst (.makeSlice T x x) ty pos after) rfl [x] (fun ev st k => amakeN sz bytes zc (ev x) st k) (fun ev ev' st k h => by rw [h x (by simp)]) fun ev st k fin h g w a he hs => by
    have hv := he x (by simp)
    unfold amakeN at h
    split at h
    · rename_i kd n hx
      rw [hx] at hv
      have hv : a.eval x = .int kd n := hv
      split at h
      · rename_i hc
        rw [mkOk_iff] at hc
        obtain ⟨m, rfl⟩ : ∃ m : Nat, n = m := ⟨n.toNat, by omega⟩
        simp only [Int.toNat_natCast] at hc h
        have hsz := Nat.eq_of_beq_eq_true hsz
        have hpos := hT.pos
        have hm : m ≤ 281474976710656 := Nat.le_trans (Nat.le_mul_of_pos_left _ (Nat.pos_of_ne_zero hpos)) hc.2
        rw [zerC, opq_eq] at h
        obtain ⟨h1, h1c⟩ := cellsA_rel hz (ofLit_rel g w z)
        have hlist : (madeCells z.cells (m * sz)).toList = (List.replicate m z.cells.toList).flatten := by rw [← hsz]; exact madeCells_list _ _
        have hone : ∀ u ∈ (madeCells z.cells (m * sz)).toList, u.oneCell' = true := by
          intro u hm
          rw [hlist] at hm
          obtain ⟨l, hl1, hl2⟩ := List.mem_flatten.mp hm
          rw [List.eq_of_mem_replicate hl1] at hl2
          exact h1c u hl2
        have e1 : (madeCells z.cells (m * sz)).toList.take (List.replicate m zc).flatten.length = (madeCells z.cells (m * sz)).toList := List.take_of_length_le (by rw [RelAll.length _ _ (h1.rep m), ← hlist]; exact Nat.le_refl _)
        obtain ⟨g', k1, k2, k3, _⟩ := vec_new hs (Push.alloc w (.cells (madeCells z.cells (m * sz)) e)) (cs := (List.replicate m zc).flatten) (by rw [e1, hlist]; exact h1.rep m) (by rw [e1]; exact hone)
        refine ⟨_, .slice (some ⟨w.heap.size, 0, none⟩) m m, _, g', w.alloc (.cells (madeCells z.cells (m * sz)) e), h, ?_, k3 m sz m (Nat.le_refl _) ?_ hok, k1, k2⟩
        · simp [execOp, mkOp, hv, runs_make hT w kd m (by simpa using hc.2) (by simp; omega)]
        · have e2 : (madeCells z.cells (m * sz)).size = (madeCells z.cells (m * sz)).toList.length := by simp
          rw [e2, hlist]
          simp [List.length_flatten, hsz]
      · cases h
    · cases h
end
end Go.V

/- The functions' pieces, as told by gen.py. -/
set_option linter.unusedVariables false
set_option maxRecDepth 20000
namespace Go.Proofs.YtcfedmheblbdnaaDoor.V
open Go Go.V Go.RowKit


/-! ### 30: interlock/interlockref04.place (5); results 2; slots: 0 c, 1 c, 3 i -/
/-- A loop's round; at its head live: 0 c, 3 i -/
noncomputable def f30_l0 : Sim Tryd.prog :=
 (.seq (.seq (.live [0, 3, 5] (.region 2 [
 ⟨(opMove (some 4) (.tmp 3) 3 "ref.go:231" #[]).op, none⟩,
 ⟨(opBin (some 5) .lss 3 (.tmp 4) (.const (Value.int IntKind.i64 16)) 3 4 "ref.go:231" #[eD 0]).op, none⟩
 ] (by kernel_rfl)))
 (.cond (.tmp 5)
 .skip
 (.live [] (.exit 0))))
 (.seq (.block 1 (.seq (.live [0, 3, 11] (.region 4 [
 ⟨(opMove (some 8) (.tmp 3) 3 "ref.go:232" #[]).op, none⟩,
 ⟨(opIndexStr (some 9) 9 (.const (Value.string { data := #[48, 49, 50, 51, 52, 53, 54, 55, 56, 57, 97, 98, 99, 100, 101, 102] })) (.tmp 8) Tryd.underlying9 5 "ref.go:232" #[eD 0]).op, none⟩,
 ⟨(opMove (some 10) (.tmp 0) 5 "ref.go:232" #[]).op, none⟩,
 ⟨(opBin (some 11) .eql 5 (.tmp 9) (.tmp 10) 5 4 "ref.go:232" #[eD 1, eD 2]).op, none⟩
 ] (by kernel_rfl)))
 (.cond (.tmp 11)
 (.seq (.live [2] (.region 5 [
 ⟨(opMove (some 12) (.tmp 3) 3 "ref.go:233" #[]).op, none⟩,
 ⟨(opAssign (some 2) (.tmp 12) 3 "ref.go:233" #[eD 0, eP 0]).op, none⟩
 ] (by kernel_rfl)))
 (.live [2] .ret))
 .skip)))
 (.live [0, 3] (.region 3 [
 ⟨(opMove (some 6) (.tmp 3) 3 "ref.go:231" #[]).op, none⟩,
 ⟨(opBin (some 7) .add 3 (.tmp 6) (.const (Value.int IntKind.i64 1)) 3 3 "ref.go:231" #[eD 0]).op, none⟩,
 ⟨(opAssign (some 3) (.tmp 7) 3 "ref.go:231" #[eD 1, eP 0, eP 1]).op, none⟩
 ] (by kernel_rfl)))))

/-- What follows a loop. -/
noncomputable def f30_r0 : Sim Tryd.prog :=
 (.seq (.live [2] (.region 6 [
 ⟨(opAssign (some 2) (.const (Value.int IntKind.i64 (-1))) 3 "ref.go:236" #[]).op, none⟩
 ] (by kernel_rfl)))
 (.live [2] .ret))

noncomputable def f30_b : Sim Tryd.prog :=
 (.seq (.live [0] (.region 0 [
 ⟨(opAssign (some 2) (.const (Value.int IntKind.i64 0)) 3 "ref.go:230" #[]).op, none⟩
 ] (by kernel_rfl)))
 (.seq (.seq (.live [0, 3] (.region 1 [
 ⟨(opAssign (some 3) (.const (Value.int IntKind.i64 0)) 3 "ref.go:231" #[]).op, none⟩
 ] (by kernel_rfl)))
 (.block 0 (.loop [0, 3] f30_l0)))
 f30_r0))

noncomputable def f30 : Fun Tryd.prog where
 id := 30
 fn := Tryd.f30
 hf := Tryd.func30
 hname := by kernel_rfl
 body := f30_b
 hbody := by kernel_rfl
 res := [rTmp 2]
 hres := by kernel_rfl
 n := 13
 hn := by kernel_rfl

end Go.Proofs.YtcfedmheblbdnaaDoor.V

/- The functions' pieces, as told by gen.py. -/
set_option linter.unusedVariables false
set_option maxRecDepth 20000
namespace Go.Proofs.YtcfedmheblbdnaaDoor.V
open Go Go.V Go.RowKit


/-! ### 31: interlock/interlockref04.number (9); results 2; slots: 0 s, 1 s, 3 n, 4 i -/
/-- A loop's round; at its head live: 0 s, 3 n, 4 i -/
noncomputable def f31_l0 : Sim Tryd.prog :=
 (.seq (.seq (.live [0, 3, 4, 8] (.region 3 [
 ⟨(opMove (some 5) (.tmp 4) 3 "ref.go:242" #[]).op, none⟩,
 ⟨(opMove (some 6) (.tmp 0) 9 "ref.go:242" #[]).op, none⟩,
 ⟨(opLen (some 7) (.tmp 6) 9 .string Tryd.underlying9 3 "ref.go:242" #[eD 1]).op, none⟩,
 ⟨(opBin (some 8) .lss 3 (.tmp 5) (.tmp 7) 3 4 "ref.go:242" #[eD 0, eD 2]).op, none⟩
 ] (by kernel_rfl)))
 (.cond (.tmp 8)
 .skip
 (.live [0, 3] (.exit 0))))
 (.seq (.block 1 (.seq (.live [0, 3, 4, 20] (.region 5 [
 ⟨(opMove (some 11) (.tmp 0) 9 "ref.go:243" #[]).op, none⟩,
 ⟨(opMove (some 12) (.tmp 4) 3 "ref.go:243" #[]).op, none⟩,
 ⟨(opIndexStrW (some 13) 9 (.tmp 11) (.tmp 12) Tryd.underlying9 5 "ref.go:243" #[eD 0, eD 1]).op, none⟩,
 ⟨(opBin (some 14) .geq 5 (.tmp 13) (.const (Value.int IntKind.u8 48)) 5 4 "ref.go:243" #[eD 2]).op, none⟩,
 ⟨(opMove (some 15) (.tmp 14) 4 "ref.go:243" #[eD 3]).op, none⟩,
 ⟨(opMove (some 16) (.tmp 0) 9 "ref.go:243" #[eG 4]).op, (some (4, 15, true))⟩,
 ⟨(opMove (some 17) (.tmp 4) 3 "ref.go:243" #[eG 4]).op, (some (4, 15, true))⟩,
 ⟨(opIndexStrW (some 18) 9 (.tmp 16) (.tmp 17) Tryd.underlying9 5 "ref.go:243" #[eD 5, eD 6, eG 4]).op, (some (4, 15, true))⟩,
 ⟨(opBin (some 19) .leq 5 (.tmp 18) (.const (Value.int IntKind.u8 57)) 5 4 "ref.go:243" #[eD 7, eG 4]).op, (some (4, 15, true))⟩,
 ⟨(opPick (some 20) (.tmp 15) (.tmp 19) (.const (Value.bool false)) 4 "ref.go:243" #[eD 4, eD 8]).op, none⟩
 ] (by kernel_rfl)))
 (.cond (.tmp 20)
 (.live [0, 3, 4] (.region 6 [
 ⟨(opMove (some 21) (.tmp 3) 3 "ref.go:244" #[]).op, none⟩,
 ⟨(opBin (some 22) .mul 3 (.tmp 21) (.const (Value.int IntKind.i64 10)) 3 3 "ref.go:244" #[eD 0]).op, none⟩,
 ⟨(opMove (some 23) (.tmp 0) 9 "ref.go:244" #[]).op, none⟩,
 ⟨(opMove (some 24) (.tmp 4) 3 "ref.go:244" #[]).op, none⟩,
 ⟨(opIndexStrW (some 25) 9 (.tmp 23) (.tmp 24) Tryd.underlying9 5 "ref.go:244" #[eD 2, eD 3]).op, none⟩,
 ⟨(opBin (some 26) .sub 5 (.tmp 25) (.const (Value.int IntKind.u8 48)) 5 5 "ref.go:244" #[eD 4]).op, none⟩,
 ⟨(opConvInt (some 27) 5 3 (.tmp 26) (.int .u8) Tryd.underlying5 .i64 Tryd.underlying3 3 "ref.go:244" #[eD 5]).op, none⟩,
 ⟨(opBin (some 28) .sub 3 (.tmp 22) (.tmp 27) 3 3 "ref.go:244" #[eD 1, eD 6]).op, none⟩,
 ⟨(opAssign (some 3) (.tmp 28) 3 "ref.go:244" #[eD 7, eP 0, eP 1, eP 2, eP 3, eP 4, eP 5, eP 6, eP 7]).op, none⟩
 ] (by kernel_rfl)))
 .skip)))
 (.live [0, 3, 4] (.region 4 [
 ⟨(opMove (some 9) (.tmp 4) 3 "ref.go:242" #[]).op, none⟩,
 ⟨(opBin (some 10) .add 3 (.tmp 9) (.const (Value.int IntKind.i64 1)) 3 3 "ref.go:242" #[eD 0]).op, none⟩,
 ⟨(opAssign (some 4) (.tmp 10) 3 "ref.go:242" #[eD 1, eP 0, eP 1]).op, none⟩
 ] (by kernel_rfl)))))

/-- What follows a loop. -/
noncomputable def f31_r0 : Sim Tryd.prog :=
 (.seq (.seq (.live [3, 31] (.region 7 [
 ⟨(opMove (some 29) (.tmp 0) 9 "ref.go:247" #[]).op, none⟩,
 ⟨(opIndexStrW (some 30) 9 (.tmp 29) (.const (Value.int IntKind.i64 0)) Tryd.underlying9 5 "ref.go:247" #[eD 0]).op, none⟩,
 ⟨(opBin (some 31) .eql 5 (.tmp 30) (.const (Value.int IntKind.u8 45)) 5 4 "ref.go:247" #[eD 1]).op, none⟩
 ] (by kernel_rfl)))
 (.cond (.tmp 31)
 (.seq (.live [2] (.region 8 [
 ⟨(opMove (some 32) (.tmp 3) 3 "ref.go:248" #[]).op, none⟩,
 ⟨(opAssign (some 2) (.tmp 32) 3 "ref.go:248" #[eD 0, eP 0]).op, none⟩
 ] (by kernel_rfl)))
 (.live [2] .ret))
 .skip))
 (.seq (.live [2] (.region 9 [
 ⟨(opMove (some 33) (.tmp 3) 3 "ref.go:250" #[]).op, none⟩,
 ⟨(opNeg (some 34) 3 (.tmp 33) 3 "ref.go:250" #[eD 0]).op, none⟩,
 ⟨(opAssign (some 2) (.tmp 34) 3 "ref.go:250" #[eD 1, eP 0, eP 1]).op, none⟩
 ] (by kernel_rfl)))
 (.live [2] .ret)))

noncomputable def f31_b : Sim Tryd.prog :=
 (.seq (.live [0] (.region 0 [
 ⟨(opAssign (some 2) (.const (Value.int IntKind.i64 0)) 3 "ref.go:240" #[]).op, none⟩
 ] (by kernel_rfl)))
 (.seq (.live [0, 3] (.region 1 [
 ⟨(opAssign (some 3) (.const (Value.int IntKind.i64 0)) 3 "ref.go:241" #[]).op, none⟩
 ] (by kernel_rfl)))
 (.seq (.seq (.live [0, 3, 4] (.region 2 [
 ⟨(opAssign (some 4) (.const (Value.int IntKind.i64 0)) 3 "ref.go:242" #[]).op, none⟩
 ] (by kernel_rfl)))
 (.block 0 (.loop [0, 3, 4] f31_l0)))
 f31_r0)))

noncomputable def f31 : Fun Tryd.prog where
 id := 31
 fn := Tryd.f31
 hf := Tryd.func31
 hname := by kernel_rfl
 body := f31_b
 hbody := by kernel_rfl
 res := [rTmp 2]
 hres := by kernel_rfl
 n := 35
 hn := by kernel_rfl

end Go.Proofs.YtcfedmheblbdnaaDoor.V

/- What the functions' runs come to; the right sides were printed by a tool, Lean checks them. -/
set_option linter.unusedVariables false
set_option maxRecDepth 100000
namespace Go.Proofs.YtcfedmheblbdnaaDoor.V
open Go Go.V Go.RowKit

theorem pl_run (c : Int) :
 (f30.run 20 [.int .u8 c] ⟨[], []⟩ : Ans) =
 branch (AV.bool ((48 : Int) == c)) (some (Fin.ret (AV.int IntKind.i64 (0 : Int)), St.mk [] []))
 (branch (AV.bool ((49 : Int) == c)) (some (Fin.ret (AV.int IntKind.i64 (1 : Int)), St.mk [] []))
 (branch (AV.bool ((50 : Int) == c)) (some (Fin.ret (AV.int IntKind.i64 (2 : Int)), St.mk [] []))
 (branch (AV.bool ((51 : Int) == c)) (some (Fin.ret (AV.int IntKind.i64 (3 : Int)), St.mk [] []))
 (branch (AV.bool ((52 : Int) == c)) (some (Fin.ret (AV.int IntKind.i64 (4 : Int)), St.mk [] []))
 (branch (AV.bool ((53 : Int) == c)) (some (Fin.ret (AV.int IntKind.i64 (5 : Int)), St.mk [] []))
 (branch (AV.bool ((54 : Int) == c)) (some (Fin.ret (AV.int IntKind.i64 (6 : Int)), St.mk [] []))
 (branch (AV.bool ((55 : Int) == c)) (some (Fin.ret (AV.int IntKind.i64 (7 : Int)), St.mk [] []))
 (branch (AV.bool ((56 : Int) == c)) (some (Fin.ret (AV.int IntKind.i64 (8 : Int)), St.mk [] []))
 (branch (AV.bool ((57 : Int) == c)) (some (Fin.ret (AV.int IntKind.i64 (9 : Int)), St.mk [] []))
 (branch (AV.bool ((97 : Int) == c)) (some (Fin.ret (AV.int IntKind.i64 (10 : Int)), St.mk [] []))
 (branch (AV.bool ((98 : Int) == c)) (some (Fin.ret (AV.int IntKind.i64 (11 : Int)), St.mk [] []))
 (branch (AV.bool ((99 : Int) == c))
 (some (Fin.ret (AV.int IntKind.i64 (12 : Int)), St.mk [] []))
 (branch (AV.bool ((100 : Int) == c))
 (some (Fin.ret (AV.int IntKind.i64 (13 : Int)), St.mk [] []))
 (branch (AV.bool ((101 : Int) == c))
 (some (Fin.ret (AV.int IntKind.i64 (14 : Int)), St.mk [] []))
 (branch (AV.bool ((102 : Int) == c))
 (some (Fin.ret (AV.int IntKind.i64 (15 : Int)), St.mk [] []))
 (some (Fin.ret (AV.int IntKind.i64 (-1 : Int)), St.mk [] []))))))))))))))))) := by kernel_rfl

theorem nu_run (F : Nat) (s : ByteArray) :
 (f31.run F [.str s] ⟨[], []⟩ : Ans) =
 loopRun (f31_l0.run F) [0, 3, 4]
 (Cont.block 0 (Cont.then (f31_r0.run F (f31.leaveK Fun.done)) (f31.leaveK Fun.done))) F
 (Env.mk 35
 [(0, AV.str s), (3, AV.int IntKind.i64 (0 : Int)), (4, AV.int IntKind.i64 (0 : Int))])
 (St.mk [] []) := by kernel_rfl

theorem nu_round (F m : Nat) (K : Cont) (s : ByteArray) (n i : Int) :
 (loopRun (f31_l0.run F) [0, 3, 4] K m.succ (Env.mk 35 [(0, .str s), (3, .int .i64 n), (4, .int .i64 i)]) ⟨[], []⟩ : Ans) =
 branch (AV.bool (decide (i < (↑s.size : Int))))
 (branch (AV.bool (inT s i))
 (branch (AV.bool (decide (atT s i ≥ (48 : Int))))
 (branch (AV.bool (inT s i))
 (branch (AV.bool (decide (atT s i ≤ (57 : Int))))
 (branch (AV.bool (inT s i))
 (loopRun (f31_l0.run F) [0, 3, 4] K m
 (Env.mk 35
 [(0, AV.str s),
 (3,
 AV.int IntKind.i64
 (IntKind.i64.wrap
 (IntKind.i64.wrap (n * (10 : Int)) -
 IntKind.i64.wrap (IntKind.u8.wrap (atT s i - (48 : Int)))))),
 (4, AV.int IntKind.i64 (IntKind.i64.wrap (i + (1 : Int))))])
 (St.mk [] []))
 none)
 (loopRun (f31_l0.run F) [0, 3, 4] K m
 (Env.mk 35
 [(0, AV.str s), (3, AV.int IntKind.i64 n),
 (4, AV.int IntKind.i64 (IntKind.i64.wrap (i + (1 : Int))))])
 (St.mk [] [])))
 none)
 (loopRun (f31_l0.run F) [0, 3, 4] K m
 (Env.mk 35
 [(0, AV.str s), (3, AV.int IntKind.i64 n),
 (4, AV.int IntKind.i64 (IntKind.i64.wrap (i + (1 : Int))))])
 (St.mk [] [])))
 none)
 (K (AX.exit 0) (Env.mk 35 [(0, AV.str s), (3, AV.int IntKind.i64 n)]) (St.mk [] [])) := by kernel_rfl

theorem nu_end (F : Nat) (s : ByteArray) (n : Int) :
 ((Cont.block 0 (Cont.then (f31_r0.run F (f31.leaveK Fun.done)) (f31.leaveK Fun.done))) (.exit 0) (Env.mk 35 [(0, .str s), (3, .int .i64 n)]) ⟨[], []⟩ : Ans) =
 branch (AV.bool (inT s (0 : Int)))
 (branch (AV.bool (atT s (0 : Int) == (45 : Int))) (some (Fin.ret (AV.int IntKind.i64 n), St.mk [] []))
 (some (Fin.ret (AV.int IntKind.i64 (IntKind.i64.wrap ((0 : Int) - n))), St.mk [] [])))
 none := by kernel_rfl

end Go.Proofs.YtcfedmheblbdnaaDoor.V

/- The functions' pieces, as told by gen.py. -/
set_option linter.unusedVariables false
set_option maxRecDepth 20000
namespace Go.Proofs.YtcfedmheblbdnaaDoor.V
open Go Go.V Go.RowKit


/-! ### 24: interlock/interlockref04.Show (24); results 2; slots: 0 v, 1 v, 3 out, 4 i, 5 c -/
/-- A loop's round; at its head live: 1 v, 3 out, 4 i -/
noncomputable def f24_l0 : Sim Tryd.prog :=
 (.seq (.seq (.live [1, 3, 4, 29] (.region 13 [
 ⟨(opMove (some 25) (.tmp 4) 3 "ref.go:178" #[]).op, none⟩,
 ⟨(opFieldAddr (some 26) 24 (.tmp 1) 2 2 1 false fl24_2 (by decide) 0 "ref.go:178" #[]).op, none⟩,
 ⟨(opLoadT (.one .str) (some 27) 9 (.tmp 26) .string Tryd.underlying9 1 sz9 (by kernel_rfl) 9 "ref.go:178" #[eD 1]).op, none⟩,
 ⟨(opLen (some 28) (.tmp 27) 9 .string Tryd.underlying9 3 "ref.go:178" #[eD 2]).op, none⟩,
 ⟨(opBin (some 29) .lss 3 (.tmp 25) (.tmp 28) 3 4 "ref.go:178" #[eD 0, eD 3]).op, none⟩
 ] (by kernel_rfl)))
 (.cond (.tmp 29)
 .skip
 (.live [3] (.exit 0))))
 (.seq (.block 1 (.seq (.live [1, 3, 4, 5] (.region 15 [
 ⟨(opFieldAddr (some 32) 24 (.tmp 1) 2 2 1 false fl24_2 (by decide) 0 "ref.go:179" #[]).op, none⟩,
 ⟨(opLoadT (.one .str) (some 33) 9 (.tmp 32) .string Tryd.underlying9 1 sz9 (by kernel_rfl) 9 "ref.go:179" #[eD 0]).op, none⟩,
 ⟨(opMove (some 34) (.tmp 4) 3 "ref.go:179" #[]).op, none⟩,
 ⟨(opIndexStrW (some 35) 9 (.tmp 33) (.tmp 34) Tryd.underlying9 5 "ref.go:179" #[eD 1, eD 2]).op, none⟩,
 ⟨(opAssign (some 5) (.tmp 35) 5 "ref.go:179" #[eD 3, eP 0, eP 1, eP 2, eP 3]).op, none⟩
 ] (by kernel_rfl)))
 (.seq (.live [1, 3, 4, 5, 49] (.region 16 [
 ⟨(opMove (some 36) (.tmp 5) 5 "ref.go:180" #[]).op, none⟩,
 ⟨(opBin (some 37) .lss 5 (.tmp 36) (.const (Value.int IntKind.u8 32)) 5 4 "ref.go:180" #[eD 0]).op, none⟩,
 ⟨(opMove (some 38) (.tmp 37) 4 "ref.go:180" #[eD 1]).op, none⟩,
 ⟨(opMove (some 39) (.tmp 5) 5 "ref.go:180" #[eG 2]).op, (some (2, 38, false))⟩,
 ⟨(opBin (some 40) .gtr 5 (.tmp 39) (.const (Value.int IntKind.u8 126)) 5 4 "ref.go:180" #[eD 3, eG 2]).op, (some (2, 38, false))⟩,
 ⟨(opPick (some 41) (.tmp 38) (.const (Value.bool true)) (.tmp 40) 4 "ref.go:180" #[eD 2, eD 4]).op, none⟩,
 ⟨(opMove (some 42) (.tmp 41) 4 "ref.go:180" #[eD 5, eC 2]).op, none⟩,
 ⟨(opMove (some 43) (.tmp 5) 5 "ref.go:180" #[eG 6]).op, (some (6, 42, false))⟩,
 ⟨(opBin (some 44) .eql 5 (.tmp 43) (.const (Value.int IntKind.u8 34)) 5 4 "ref.go:180" #[eD 7, eG 6]).op, (some (6, 42, false))⟩,
 ⟨(opPick (some 45) (.tmp 42) (.const (Value.bool true)) (.tmp 44) 4 "ref.go:180" #[eD 6, eD 8]).op, none⟩,
 ⟨(opMove (some 46) (.tmp 45) 4 "ref.go:180" #[eD 9, eC 6]).op, none⟩,
 ⟨(opMove (some 47) (.tmp 5) 5 "ref.go:180" #[eG 10]).op, (some (10, 46, false))⟩,
 ⟨(opBin (some 48) .eql 5 (.tmp 47) (.const (Value.int IntKind.u8 92)) 5 4 "ref.go:180" #[eD 11, eG 10]).op, (some (10, 46, false))⟩,
 ⟨(opPick (some 49) (.tmp 46) (.const (Value.bool true)) (.tmp 48) 4 "ref.go:180" #[eD 10, eD 12]).op, none⟩
 ] (by kernel_rfl)))
 (.cond (.tmp 49)
 (.live [1, 3, 4] (.draw 17 [
 ⟨.p (opMove (some 50) (.tmp 3) 46 "ref.go:181" #[]), none⟩,
 ⟨.p (opMove (some 51) (.tmp 5) 5 "ref.go:181" #[]), none⟩,
 ⟨.pn (PSim.hide (opBin (some 52) .quo 5 (.tmp 51) (.const (Value.int IntKind.u8 16)) 5 5 "ref.go:181" #[eD 1])) (PSim.hide_nat opBin_nat), none⟩,
 ⟨.pn (opIndexStrW (some 53) 9 (.const (Value.string { data := #[48, 49, 50, 51, 52, 53, 54, 55, 56, 57, 97, 98, 99, 100, 101, 102] })) (.tmp 52) Tryd.underlying9 5 "ref.go:181" #[eD 2]) opIndexStrW_nat, none⟩,
 ⟨.p (opMove (some 54) (.tmp 5) 5 "ref.go:181" #[]), none⟩,
 ⟨.pn (PSim.hide (opBin (some 55) .rem 5 (.tmp 54) (.const (Value.int IntKind.u8 16)) 5 5 "ref.go:181" #[eD 4])) (PSim.hide_nat opBin_nat), none⟩,
 ⟨.pn (opIndexStrW (some 56) 9 (.const (Value.string { data := #[48, 49, 50, 51, 52, 53, 54, 55, 56, 57, 97, 98, 99, 100, 101, 102] })) (.tmp 55) Tryd.underlying9 5 "ref.go:181" #[eD 5]) opIndexStrW_nat, none⟩,
 ⟨.p (opBuildSlice (some 57) 46 3 [(0, (.const (Value.int IntKind.u8 92))), (1, (.tmp 53)), (2, (.tmp 56))] 5 1 1 (.int .u8 0) el46 (by kernel_rfl) (by decide) 46 "ref.go:181" #[eD 3, eD 6]), none⟩,
 ⟨.mn (opAppend (some 58) (.tmp 50) (.tmp 57) 46 46 5 1 1 (.int .u8 0) el46 (.slice 5) Tryd.underlying46 rfl 46 "ref.go:181" #[eD 0, eD 7]) opAppend_nat, none⟩,
 ⟨.p (opAssign (some 3) (.tmp 58) 46 "ref.go:181" #[eD 8, eC 8, eP 0, eP 1, eP 2, eP 3, eP 4, eP 5, eP 6, eP 7, eP 8]), none⟩
 ] mixed (by kernel_rfl)))
 (.live [1, 3, 4] (.region 18 [
 ⟨(opMove (some 59) (.tmp 3) 46 "ref.go:183" #[]).op, none⟩,
 ⟨(opMove (some 60) (.tmp 5) 5 "ref.go:183" #[]).op, none⟩,
 ⟨(opBuildSlice (some 61) 46 1 [(0, (.tmp 60))] 5 1 1 (.int .u8 0) el46 (by kernel_rfl) (by decide) 46 "ref.go:183" #[eD 1]).op, none⟩,
 ⟨(opAppend (some 62) (.tmp 59) (.tmp 61) 46 46 5 1 1 (.int .u8 0) el46 (.slice 5) Tryd.underlying46 rfl 46 "ref.go:183" #[eD 0, eD 2]).op, none⟩,
 ⟨(opAssign (some 3) (.tmp 62) 46 "ref.go:183" #[eD 3, eC 3, eP 0, eP 1, eP 2, eP 3]).op, none⟩
 ] (by kernel_rfl)))))))
 (.live [1, 3, 4] (.region 14 [
 ⟨(opMove (some 30) (.tmp 4) 3 "ref.go:178" #[]).op, none⟩,
 ⟨(opBin (some 31) .add 3 (.tmp 30) (.const (Value.int IntKind.i64 1)) 3 3 "ref.go:178" #[eD 0]).op, none⟩,
 ⟨(opAssign (some 4) (.tmp 31) 3 "ref.go:178" #[eD 1, eP 0, eP 1]).op, none⟩
 ] (by kernel_rfl)))))

/-- What follows a loop. -/
noncomputable def f24_r0 : Sim Tryd.prog :=
 (.seq (.live [2] (.region 19 [
 ⟨(opMove (some 63) (.tmp 3) 46 "ref.go:186" #[]).op, none⟩,
 ⟨(opBuildSlice (some 64) 46 1 [(0, (.const (Value.int IntKind.u8 34)))] 5 1 1 (.int .u8 0) el46 (by kernel_rfl) (by decide) 46 "ref.go:186" #[]).op, none⟩,
 ⟨(opAppend (some 65) (.tmp 63) (.tmp 64) 46 46 5 1 1 (.int .u8 0) el46 (.slice 5) Tryd.underlying46 rfl 46 "ref.go:186" #[eD 0, eD 1]).op, none⟩,
 ⟨(opBytesStr (some 66) 46 9 (.tmp 65) 5 Tryd.underlying46 Tryd.underlying5 Tryd.underlying9 9 "ref.go:186" #[eD 2]).op, none⟩,
 ⟨(opAssign (some 2) (.tmp 66) 9 "ref.go:186" #[eD 3, eC 2, eP 0, eP 1, eP 2, eP 3]).op, none⟩
 ] (by kernel_rfl)))
 (.live [2] .ret))

noncomputable def f24_b : Sim Tryd.prog :=
 (.seq (.live [1] (.region 0 [
 ⟨(opBoxF (some 1) 24 (.tmp 0) 0 "ref.go:161" #[]).op, none⟩,
 ⟨(opAssign (some 2) (.const (Value.string { data := #[] })) 9 "ref.go:161" #[]).op, none⟩
 ] (by kernel_rfl)))
 (.seq (.seq (.live [1, 8] (.region 1 [
 ⟨(opLoadT (.agg [(.int .i64), (.int .i64), .str]) (some 6) 24 (.tmp 1) d24 ud24 3 sz24 (by kernel_rfl) 24 "ref.go:162" #[]).op, none⟩,
 ⟨(opCallP p20 (some 7) [(.tmp 6)] #[24] 4 "ref.go:162" #[eD 0]).op, none⟩,
 ⟨(opNot (some 8) 4 (.tmp 7) 4 "ref.go:162" #[eD 1]).op, none⟩
 ] (by kernel_rfl)))
 (.cond (.tmp 8)
 (.seq (.live [2] (.region 2 [
 ⟨(opAssign (some 2) (.const (Value.string { data := #[63] })) 9 "ref.go:163" #[]).op, none⟩
 ] (by kernel_rfl)))
 (.live [2] .ret))
 .skip))
 (.seq (.seq (.live [1, 11] (.region 3 [
 ⟨(opFieldAddr (some 9) 24 (.tmp 1) 0 0 1 false fl24_0 (by decide) 0 "ref.go:165" #[]).op, none⟩,
 ⟨(opLoadT (.one (.int .i64)) (some 10) 3 (.tmp 9) (.int .i64) Tryd.underlying3 1 sz3 (by kernel_rfl) 3 "ref.go:165" #[eD 0]).op, none⟩,
 ⟨(opBin (some 11) .eql 3 (.tmp 10) (.const (Value.int IntKind.i64 0)) 3 4 "ref.go:165" #[eD 1]).op, none⟩
 ] (by kernel_rfl)))
 (.cond (.tmp 11)
 (.seq (.live [2] (.region 4 [
 ⟨(opAssign (some 2) (.const (Value.string { data := #[110, 117, 108, 108] })) 9 "ref.go:166" #[]).op, none⟩
 ] (by kernel_rfl)))
 (.live [2] .ret))
 .skip))
 (.seq (.seq (.live [1, 14] (.region 5 [
 ⟨(opFieldAddr (some 12) 24 (.tmp 1) 0 0 1 false fl24_0 (by decide) 0 "ref.go:168" #[]).op, none⟩,
 ⟨(opLoadT (.one (.int .i64)) (some 13) 3 (.tmp 12) (.int .i64) Tryd.underlying3 1 sz3 (by kernel_rfl) 3 "ref.go:168" #[eD 0]).op, none⟩,
 ⟨(opBin (some 14) .eql 3 (.tmp 13) (.const (Value.int IntKind.i64 1)) 3 4 "ref.go:168" #[eD 1]).op, none⟩
 ] (by kernel_rfl)))
 (.cond (.tmp 14)
 (.seq (.live [2] (.region 6 [
 ⟨(opFieldAddr (some 15) 24 (.tmp 1) 1 1 1 false fl24_1 (by decide) 0 "ref.go:169" #[]).op, none⟩,
 ⟨(opLoadT (.one (.int .i64)) (some 16) 3 (.tmp 15) (.int .i64) Tryd.underlying3 1 sz3 (by kernel_rfl) 3 "ref.go:169" #[eD 0]).op, none⟩,
 ⟨(opCallP p41 (some 17) [(.tmp 16)] #[3] 9 "ref.go:169" #[eD 1]).op, none⟩,
 ⟨(opAssign (some 2) (.tmp 17) 9 "ref.go:169" #[eD 2, eC 2, eP 0, eP 1, eP 2]).op, none⟩
 ] (by kernel_rfl)))
 (.live [2] .ret))
 .skip))
 (.seq (.seq (.live [1, 20] (.region 7 [
 ⟨(opFieldAddr (some 18) 24 (.tmp 1) 0 0 1 false fl24_0 (by decide) 0 "ref.go:171" #[]).op, none⟩,
 ⟨(opLoadT (.one (.int .i64)) (some 19) 3 (.tmp 18) (.int .i64) Tryd.underlying3 1 sz3 (by kernel_rfl) 3 "ref.go:171" #[eD 0]).op, none⟩,
 ⟨(opBin (some 20) .eql 3 (.tmp 19) (.const (Value.int IntKind.i64 2)) 3 4 "ref.go:171" #[eD 1]).op, none⟩
 ] (by kernel_rfl)))
 (.cond (.tmp 20)
 (.seq (.seq (.live [23] (.region 8 [
 ⟨(opFieldAddr (some 21) 24 (.tmp 1) 1 1 1 false fl24_1 (by decide) 0 "ref.go:172" #[]).op, none⟩,
 ⟨(opLoadT (.one (.int .i64)) (some 22) 3 (.tmp 21) (.int .i64) Tryd.underlying3 1 sz3 (by kernel_rfl) 3 "ref.go:172" #[eD 0]).op, none⟩,
 ⟨(opBin (some 23) .eql 3 (.tmp 22) (.const (Value.int IntKind.i64 1)) 3 4 "ref.go:172" #[eD 1]).op, none⟩
 ] (by kernel_rfl)))
 (.cond (.tmp 23)
 (.seq (.live [2] (.region 9 [
 ⟨(opAssign (some 2) (.const (Value.string { data := #[116, 114, 117, 101] })) 9 "ref.go:173" #[]).op, none⟩
 ] (by kernel_rfl)))
 (.live [2] .ret))
 .skip))
 (.seq (.live [2] (.region 10 [
 ⟨(opAssign (some 2) (.const (Value.string { data := #[102, 97, 108, 115, 101] })) 9 "ref.go:175" #[]).op, none⟩
 ] (by kernel_rfl)))
 (.live [2] .ret)))
 .skip))
 (.seq (.live [1, 3] (.region 11 [
 ⟨(opBuildSlice (some 24) 46 1 [(0, (.const (Value.int IntKind.u8 34)))] 5 1 1 (.int .u8 0) el46 (by kernel_rfl) (by decide) 46 "ref.go:177" #[]).op, none⟩,
 ⟨(opAssign (some 3) (.tmp 24) 46 "ref.go:177" #[eD 0, eP 0]).op, none⟩
 ] (by kernel_rfl)))
 (.seq (.seq (.live [1, 3, 4] (.region 12 [
 ⟨(opAssign (some 4) (.const (Value.int IntKind.i64 0)) 3 "ref.go:178" #[]).op, none⟩
 ] (by kernel_rfl)))
 (.block 0 (.loop [1, 3, 4] f24_l0)))
 f24_r0)))))))

noncomputable def f24 : Fun Tryd.prog where
 id := 24
 fn := Tryd.f24
 hf := Tryd.func24
 hname := by kernel_rfl
 body := f24_b
 hbody := by kernel_rfl
 res := [rTmp 2]
 hres := by kernel_rfl
 n := 67
 hn := by kernel_rfl

end Go.Proofs.YtcfedmheblbdnaaDoor.V

/- What the functions' runs come to; the right sides were printed by a tool, Lean checks them. -/
set_option linter.unusedVariables false
set_option maxRecDepth 100000
namespace Go.Proofs.YtcfedmheblbdnaaDoor.V
open Go Go.V Go.RowKit

theorem rs_run (F : Nat) (v : Va) :
 (f24.run F [v.av] ⟨[], []⟩ : Ans) =
 branch (AV.bool !rightV (Va.mk (hdI v.cells) (hdI v.cells.tail) (hdS v.cells.tail.tail)))
 (some (Fin.ret (AV.str (ByteArray.mk #[(63 : UInt8)])), St.mk [] []))
 (branch (AV.bool (v.k == (0 : Int)))
 (some (Fin.ret (AV.str (ByteArray.mk #[(110 : UInt8), (117 : UInt8), (108 : UInt8), (108 : UInt8)])), St.mk [] []))
 (branch (AV.bool (v.k == (1 : Int)))
 (branch (AV.bool (okI v.n)) (some (Fin.ret (AV.str (showI v.n)), St.mk [] [])) none)
 (branch (AV.bool (v.k == (2 : Int)))
 (branch (AV.bool (v.n == (1 : Int)))
 (some
 (Fin.ret (AV.str (ByteArray.mk #[(116 : UInt8), (114 : UInt8), (117 : UInt8), (101 : UInt8)])),
 St.mk [] []))
 (some
 (Fin.ret
 (AV.str (ByteArray.mk #[(102 : UInt8), (97 : UInt8), (108 : UInt8), (115 : UInt8), (101 : UInt8)])),
 St.mk [] [])))
 (loopRun (f24_l0.run F) [1, 3, 4]
 (Cont.block 0 (Cont.then (f24_r0.run F (f24.leaveK Fun.done)) (f24.leaveK Fun.done))) F
 (Env.mk 67
 [(1, AV.eptr [AV.int IntKind.i64 v.k, AV.int IntKind.i64 v.n, AV.str v.s]),
 (3, AV.sl 1 true [[AV.int IntKind.u8 (34 : Int)]]),
 (4, AV.int IntKind.i64 (0 : Int))])
 (St.mk [] []))))) := by kernel_rfl

theorem rs_a0 (F m : Nat) (K : Cont) (k n i : Int) (s : ByteArray) :
 (loopRun (f24_l0.run F) [1, 3, 4] K m.succ (Env.mk 67 [(1, .eptr [.int .i64 k, .int .i64 n, .str s]), (3, .sl 1 true [[.int .u8 (34 : Int)]]), (4, .int .i64 i)]) ⟨[], []⟩ : Ans) =
 branch (AV.bool (decide (i < (↑s.size : Int))))
 (branch (AV.bool (inT s i))
 (branch (AV.bool (decide (atT s i < (32 : Int))))
 (branch
 (AV.bool
 (inT
 (ByteArray.mk
 #[(48 : UInt8), (49 : UInt8), (50 : UInt8), (51 : UInt8), (52 : UInt8), (53 : UInt8), (54 : UInt8),
 (55 : UInt8), (56 : UInt8), (57 : UInt8), (97 : UInt8), (98 : UInt8), (99 : UInt8), (100 : UInt8),
 (101 : UInt8), (102 : UInt8)])
 (opq (IntKind.u8.wrap ((atT s i).tdiv (16 : Int))))))
 (branch
 (AV.bool
 (inT
 (ByteArray.mk
 #[(48 : UInt8), (49 : UInt8), (50 : UInt8), (51 : UInt8), (52 : UInt8), (53 : UInt8), (54 : UInt8),
 (55 : UInt8), (56 : UInt8), (57 : UInt8), (97 : UInt8), (98 : UInt8), (99 : UInt8), (100 : UInt8),
 (101 : UInt8), (102 : UInt8)])
 (opq ((atT s i).tmod (16 : Int)))))
 (loopRun (f24_l0.run F) [1, 3, 4] K m
 (Env.mk 67
 [(1, AV.eptr [AV.int IntKind.i64 k, AV.int IntKind.i64 n, AV.str s]),
 (3,
 AV.lg 0 1
 [[AV.int IntKind.u8 (34 : Int)], [AV.int IntKind.u8 (92 : Int)],
 [AV.int IntKind.u8
 (atT
 (ByteArray.mk
 #[(48 : UInt8), (49 : UInt8), (50 : UInt8), (51 : UInt8), (52 : UInt8), (53 : UInt8),
 (54 : UInt8), (55 : UInt8), (56 : UInt8), (57 : UInt8), (97 : UInt8), (98 : UInt8),
 (99 : UInt8), (100 : UInt8), (101 : UInt8), (102 : UInt8)])
 (opq (IntKind.u8.wrap ((atT s i).tdiv (16 : Int)))))],
 [AV.int IntKind.u8
 (atT
 (ByteArray.mk
 #[(48 : UInt8), (49 : UInt8), (50 : UInt8), (51 : UInt8), (52 : UInt8), (53 : UInt8),
 (54 : UInt8), (55 : UInt8), (56 : UInt8), (57 : UInt8), (97 : UInt8), (98 : UInt8),
 (99 : UInt8), (100 : UInt8), (101 : UInt8), (102 : UInt8)])
 (opq ((atT s i).tmod (16 : Int))))]]),
 (4, AV.int IntKind.i64 (IntKind.i64.wrap (i + (1 : Int))))])
 (St.mk [] [(1, 4)]))
 none)
 none)
 (branch (AV.bool (decide (atT s i > (126 : Int))))
 (branch
 (AV.bool
 (inT
 (ByteArray.mk
 #[(48 : UInt8), (49 : UInt8), (50 : UInt8), (51 : UInt8), (52 : UInt8), (53 : UInt8), (54 : UInt8),
 (55 : UInt8), (56 : UInt8), (57 : UInt8), (97 : UInt8), (98 : UInt8), (99 : UInt8), (100 : UInt8),
 (101 : UInt8), (102 : UInt8)])
 (opq (IntKind.u8.wrap ((atT s i).tdiv (16 : Int))))))
 (branch
 (AV.bool
 (inT
 (ByteArray.mk
 #[(48 : UInt8), (49 : UInt8), (50 : UInt8), (51 : UInt8), (52 : UInt8), (53 : UInt8), (54 : UInt8),
 (55 : UInt8), (56 : UInt8), (57 : UInt8), (97 : UInt8), (98 : UInt8), (99 : UInt8), (100 : UInt8),
 (101 : UInt8), (102 : UInt8)])
 (opq ((atT s i).tmod (16 : Int)))))
 (loopRun (f24_l0.run F) [1, 3, 4] K m
 (Env.mk 67
 [(1, AV.eptr [AV.int IntKind.i64 k, AV.int IntKind.i64 n, AV.str s]),
 (3,
 AV.lg 0 1
 [[AV.int IntKind.u8 (34 : Int)], [AV.int IntKind.u8 (92 : Int)],
 [AV.int IntKind.u8
 (atT
 (ByteArray.mk
 #[(48 : UInt8), (49 : UInt8), (50 : UInt8), (51 : UInt8), (52 : UInt8), (53 : UInt8),
 (54 : UInt8), (55 : UInt8), (56 : UInt8), (57 : UInt8), (97 : UInt8), (98 : UInt8),
 (99 : UInt8), (100 : UInt8), (101 : UInt8), (102 : UInt8)])
 (opq (IntKind.u8.wrap ((atT s i).tdiv (16 : Int)))))],
 [AV.int IntKind.u8
 (atT
 (ByteArray.mk
 #[(48 : UInt8), (49 : UInt8), (50 : UInt8), (51 : UInt8), (52 : UInt8), (53 : UInt8),
 (54 : UInt8), (55 : UInt8), (56 : UInt8), (57 : UInt8), (97 : UInt8), (98 : UInt8),
 (99 : UInt8), (100 : UInt8), (101 : UInt8), (102 : UInt8)])
 (opq ((atT s i).tmod (16 : Int))))]]),
 (4, AV.int IntKind.i64 (IntKind.i64.wrap (i + (1 : Int))))])
 (St.mk [] [(1, 4)]))
 none)
 none)
 (branch (AV.bool (atT s i == (34 : Int)))
 (branch
 (AV.bool
 (inT
 (ByteArray.mk
 #[(48 : UInt8), (49 : UInt8), (50 : UInt8), (51 : UInt8), (52 : UInt8), (53 : UInt8), (54 : UInt8),
 (55 : UInt8), (56 : UInt8), (57 : UInt8), (97 : UInt8), (98 : UInt8), (99 : UInt8), (100 : UInt8),
 (101 : UInt8), (102 : UInt8)])
 (opq (IntKind.u8.wrap ((atT s i).tdiv (16 : Int))))))
 (branch
 (AV.bool
 (inT
 (ByteArray.mk
 #[(48 : UInt8), (49 : UInt8), (50 : UInt8), (51 : UInt8), (52 : UInt8), (53 : UInt8), (54 : UInt8),
 (55 : UInt8), (56 : UInt8), (57 : UInt8), (97 : UInt8), (98 : UInt8), (99 : UInt8), (100 : UInt8),
 (101 : UInt8), (102 : UInt8)])
 (opq ((atT s i).tmod (16 : Int)))))
 (loopRun (f24_l0.run F) [1, 3, 4] K m
 (Env.mk 67
 [(1, AV.eptr [AV.int IntKind.i64 k, AV.int IntKind.i64 n, AV.str s]),
 (3,
 AV.lg 0 1
 [[AV.int IntKind.u8 (34 : Int)], [AV.int IntKind.u8 (92 : Int)],
 [AV.int IntKind.u8
 (atT
 (ByteArray.mk
 #[(48 : UInt8), (49 : UInt8), (50 : UInt8), (51 : UInt8), (52 : UInt8), (53 : UInt8),
 (54 : UInt8), (55 : UInt8), (56 : UInt8), (57 : UInt8), (97 : UInt8), (98 : UInt8),
 (99 : UInt8), (100 : UInt8), (101 : UInt8), (102 : UInt8)])
 (opq (IntKind.u8.wrap ((atT s i).tdiv (16 : Int)))))],
 [AV.int IntKind.u8
 (atT
 (ByteArray.mk
 #[(48 : UInt8), (49 : UInt8), (50 : UInt8), (51 : UInt8), (52 : UInt8), (53 : UInt8),
 (54 : UInt8), (55 : UInt8), (56 : UInt8), (57 : UInt8), (97 : UInt8), (98 : UInt8),
 (99 : UInt8), (100 : UInt8), (101 : UInt8), (102 : UInt8)])
 (opq ((atT s i).tmod (16 : Int))))]]),
 (4, AV.int IntKind.i64 (IntKind.i64.wrap (i + (1 : Int))))])
 (St.mk [] [(1, 4)]))
 none)
 none)
 (branch (AV.bool (atT s i == (92 : Int)))
 (branch
 (AV.bool
 (inT
 (ByteArray.mk
 #[(48 : UInt8), (49 : UInt8), (50 : UInt8), (51 : UInt8), (52 : UInt8), (53 : UInt8), (54 : UInt8),
 (55 : UInt8), (56 : UInt8), (57 : UInt8), (97 : UInt8), (98 : UInt8), (99 : UInt8), (100 : UInt8),
 (101 : UInt8), (102 : UInt8)])
 (opq (IntKind.u8.wrap ((atT s i).tdiv (16 : Int))))))
 (branch
 (AV.bool
 (inT
 (ByteArray.mk
 #[(48 : UInt8), (49 : UInt8), (50 : UInt8), (51 : UInt8), (52 : UInt8), (53 : UInt8),
 (54 : UInt8), (55 : UInt8), (56 : UInt8), (57 : UInt8), (97 : UInt8), (98 : UInt8),
 (99 : UInt8), (100 : UInt8), (101 : UInt8), (102 : UInt8)])
 (opq ((atT s i).tmod (16 : Int)))))
 (loopRun (f24_l0.run F) [1, 3, 4] K m
 (Env.mk 67
 [(1, AV.eptr [AV.int IntKind.i64 k, AV.int IntKind.i64 n, AV.str s]),
 (3,
 AV.lg 0 1
 [[AV.int IntKind.u8 (34 : Int)], [AV.int IntKind.u8 (92 : Int)],
 [AV.int IntKind.u8
 (atT
 (ByteArray.mk
 #[(48 : UInt8), (49 : UInt8), (50 : UInt8), (51 : UInt8), (52 : UInt8),
 (53 : UInt8), (54 : UInt8), (55 : UInt8), (56 : UInt8), (57 : UInt8),
 (97 : UInt8), (98 : UInt8), (99 : UInt8), (100 : UInt8), (101 : UInt8),
 (102 : UInt8)])
 (opq (IntKind.u8.wrap ((atT s i).tdiv (16 : Int)))))],
 [AV.int IntKind.u8
 (atT
 (ByteArray.mk
 #[(48 : UInt8), (49 : UInt8), (50 : UInt8), (51 : UInt8), (52 : UInt8),
 (53 : UInt8), (54 : UInt8), (55 : UInt8), (56 : UInt8), (57 : UInt8),
 (97 : UInt8), (98 : UInt8), (99 : UInt8), (100 : UInt8), (101 : UInt8),
 (102 : UInt8)])
 (opq ((atT s i).tmod (16 : Int))))]]),
 (4, AV.int IntKind.i64 (IntKind.i64.wrap (i + (1 : Int))))])
 (St.mk [] [(1, 4)]))
 none)
 none)
 (loopRun (f24_l0.run F) [1, 3, 4] K m
 (Env.mk 67
 [(1, AV.eptr [AV.int IntKind.i64 k, AV.int IntKind.i64 n, AV.str s]),
 (3,
 AV.lg 0 1 [[AV.int IntKind.u8 (34 : Int)], [AV.int IntKind.u8 (atT s i)]]),
 (4, AV.int IntKind.i64 (IntKind.i64.wrap (i + (1 : Int))))])
 (St.mk [] [(1, 2)]))))))
 none)
 (K (AX.exit 0) (Env.mk 67 [(3, AV.sl 1 true [[AV.int IntKind.u8 (34 : Int)]])])
 (St.mk [] [])) := by kernel_rfl

theorem rs_a1 (F m : Nat) (K : Cont) (k n i : Int) (s : ByteArray) (lo : List (List AV)) :
 (loopRun (f24_l0.run F) [1, 3, 4] K m.succ (Env.mk 67 [(1, .eptr [.int .i64 k, .int .i64 n, .str s]), (3, .lg 0 1 lo), (4, .int .i64 i)]) ⟨[], [(1, lo.length)]⟩ : Ans) =
 branch (AV.bool (decide (i < (↑s.size : Int))))
 (branch (AV.bool (inT s i))
 (branch (AV.bool (decide (atT s i < (32 : Int))))
 (branch
 (AV.bool
 (inT
 (ByteArray.mk
 #[(48 : UInt8), (49 : UInt8), (50 : UInt8), (51 : UInt8), (52 : UInt8), (53 : UInt8), (54 : UInt8),
 (55 : UInt8), (56 : UInt8), (57 : UInt8), (97 : UInt8), (98 : UInt8), (99 : UInt8), (100 : UInt8),
 (101 : UInt8), (102 : UInt8)])
 (opq (IntKind.u8.wrap ((atT s i).tdiv (16 : Int))))))
 (branch
 (AV.bool
 (inT
 (ByteArray.mk
 #[(48 : UInt8), (49 : UInt8), (50 : UInt8), (51 : UInt8), (52 : UInt8), (53 : UInt8), (54 : UInt8),
 (55 : UInt8), (56 : UInt8), (57 : UInt8), (97 : UInt8), (98 : UInt8), (99 : UInt8), (100 : UInt8),
 (101 : UInt8), (102 : UInt8)])
 (opq ((atT s i).tmod (16 : Int)))))
 (if
 some (1, lo.length) = some (1, lo.length) ∧
 (lo.length + 3) * 1 ≤ 140737488355328 then
 loopRun (f24_l0.run F) [1, 3, 4] K m
 (Env.mk 67
 [(1, AV.eptr [AV.int IntKind.i64 k, AV.int IntKind.i64 n, AV.str s]),
 (3,
 AV.lg 0 1
 (lo ++
 [[AV.int IntKind.u8 (92 : Int)],
 [AV.int IntKind.u8
 (atT
 (ByteArray.mk
 #[(48 : UInt8), (49 : UInt8), (50 : UInt8), (51 : UInt8), (52 : UInt8), (53 : UInt8),
 (54 : UInt8), (55 : UInt8), (56 : UInt8), (57 : UInt8), (97 : UInt8), (98 : UInt8),
 (99 : UInt8), (100 : UInt8), (101 : UInt8), (102 : UInt8)])
 (opq (IntKind.u8.wrap ((atT s i).tdiv (16 : Int)))))],
 [AV.int IntKind.u8
 (atT
 (ByteArray.mk
 #[(48 : UInt8), (49 : UInt8), (50 : UInt8), (51 : UInt8), (52 : UInt8), (53 : UInt8),
 (54 : UInt8), (55 : UInt8), (56 : UInt8), (57 : UInt8), (97 : UInt8), (98 : UInt8),
 (99 : UInt8), (100 : UInt8), (101 : UInt8), (102 : UInt8)])
 (opq ((atT s i).tmod (16 : Int))))]])),
 (4, AV.int IntKind.i64 (IntKind.i64.wrap (i + (1 : Int))))])
 (St.mk [] [(1, lo.length + 3)])
 else none)
 none)
 none)
 (branch (AV.bool (decide (atT s i > (126 : Int))))
 (branch
 (AV.bool
 (inT
 (ByteArray.mk
 #[(48 : UInt8), (49 : UInt8), (50 : UInt8), (51 : UInt8), (52 : UInt8), (53 : UInt8), (54 : UInt8),
 (55 : UInt8), (56 : UInt8), (57 : UInt8), (97 : UInt8), (98 : UInt8), (99 : UInt8), (100 : UInt8),
 (101 : UInt8), (102 : UInt8)])
 (opq (IntKind.u8.wrap ((atT s i).tdiv (16 : Int))))))
 (branch
 (AV.bool
 (inT
 (ByteArray.mk
 #[(48 : UInt8), (49 : UInt8), (50 : UInt8), (51 : UInt8), (52 : UInt8), (53 : UInt8), (54 : UInt8),
 (55 : UInt8), (56 : UInt8), (57 : UInt8), (97 : UInt8), (98 : UInt8), (99 : UInt8), (100 : UInt8),
 (101 : UInt8), (102 : UInt8)])
 (opq ((atT s i).tmod (16 : Int)))))
 (if
 some (1, lo.length) = some (1, lo.length) ∧
 (lo.length + 3) * 1 ≤ 140737488355328 then
 loopRun (f24_l0.run F) [1, 3, 4] K m
 (Env.mk 67
 [(1, AV.eptr [AV.int IntKind.i64 k, AV.int IntKind.i64 n, AV.str s]),
 (3,
 AV.lg 0 1
 (lo ++
 [[AV.int IntKind.u8 (92 : Int)],
 [AV.int IntKind.u8
 (atT
 (ByteArray.mk
 #[(48 : UInt8), (49 : UInt8), (50 : UInt8), (51 : UInt8), (52 : UInt8),
 (53 : UInt8), (54 : UInt8), (55 : UInt8), (56 : UInt8), (57 : UInt8),
 (97 : UInt8), (98 : UInt8), (99 : UInt8), (100 : UInt8), (101 : UInt8),
 (102 : UInt8)])
 (opq (IntKind.u8.wrap ((atT s i).tdiv (16 : Int)))))],
 [AV.int IntKind.u8
 (atT
 (ByteArray.mk
 #[(48 : UInt8), (49 : UInt8), (50 : UInt8), (51 : UInt8), (52 : UInt8),
 (53 : UInt8), (54 : UInt8), (55 : UInt8), (56 : UInt8), (57 : UInt8),
 (97 : UInt8), (98 : UInt8), (99 : UInt8), (100 : UInt8), (101 : UInt8),
 (102 : UInt8)])
 (opq ((atT s i).tmod (16 : Int))))]])),
 (4, AV.int IntKind.i64 (IntKind.i64.wrap (i + (1 : Int))))])
 (St.mk [] [(1, lo.length + 3)])
 else none)
 none)
 none)
 (branch (AV.bool (atT s i == (34 : Int)))
 (branch
 (AV.bool
 (inT
 (ByteArray.mk
 #[(48 : UInt8), (49 : UInt8), (50 : UInt8), (51 : UInt8), (52 : UInt8), (53 : UInt8), (54 : UInt8),
 (55 : UInt8), (56 : UInt8), (57 : UInt8), (97 : UInt8), (98 : UInt8), (99 : UInt8), (100 : UInt8),
 (101 : UInt8), (102 : UInt8)])
 (opq (IntKind.u8.wrap ((atT s i).tdiv (16 : Int))))))
 (branch
 (AV.bool
 (inT
 (ByteArray.mk
 #[(48 : UInt8), (49 : UInt8), (50 : UInt8), (51 : UInt8), (52 : UInt8), (53 : UInt8), (54 : UInt8),
 (55 : UInt8), (56 : UInt8), (57 : UInt8), (97 : UInt8), (98 : UInt8), (99 : UInt8), (100 : UInt8),
 (101 : UInt8), (102 : UInt8)])
 (opq ((atT s i).tmod (16 : Int)))))
 (if
 some (1, lo.length) = some (1, lo.length) ∧
 (lo.length + 3) * 1 ≤ 140737488355328 then
 loopRun (f24_l0.run F) [1, 3, 4] K m
 (Env.mk 67
 [(1, AV.eptr [AV.int IntKind.i64 k, AV.int IntKind.i64 n, AV.str s]),
 (3,
 AV.lg 0 1
 (lo ++
 [[AV.int IntKind.u8 (92 : Int)],
 [AV.int IntKind.u8
 (atT
 (ByteArray.mk
 #[(48 : UInt8), (49 : UInt8), (50 : UInt8), (51 : UInt8), (52 : UInt8),
 (53 : UInt8), (54 : UInt8), (55 : UInt8), (56 : UInt8), (57 : UInt8),
 (97 : UInt8), (98 : UInt8), (99 : UInt8), (100 : UInt8), (101 : UInt8),
 (102 : UInt8)])
 (opq (IntKind.u8.wrap ((atT s i).tdiv (16 : Int)))))],
 [AV.int IntKind.u8
 (atT
 (ByteArray.mk
 #[(48 : UInt8), (49 : UInt8), (50 : UInt8), (51 : UInt8), (52 : UInt8),
 (53 : UInt8), (54 : UInt8), (55 : UInt8), (56 : UInt8), (57 : UInt8),
 (97 : UInt8), (98 : UInt8), (99 : UInt8), (100 : UInt8), (101 : UInt8),
 (102 : UInt8)])
 (opq ((atT s i).tmod (16 : Int))))]])),
 (4, AV.int IntKind.i64 (IntKind.i64.wrap (i + (1 : Int))))])
 (St.mk [] [(1, lo.length + 3)])
 else none)
 none)
 none)
 (branch (AV.bool (atT s i == (92 : Int)))
 (branch
 (AV.bool
 (inT
 (ByteArray.mk
 #[(48 : UInt8), (49 : UInt8), (50 : UInt8), (51 : UInt8), (52 : UInt8), (53 : UInt8), (54 : UInt8),
 (55 : UInt8), (56 : UInt8), (57 : UInt8), (97 : UInt8), (98 : UInt8), (99 : UInt8), (100 : UInt8),
 (101 : UInt8), (102 : UInt8)])
 (opq (IntKind.u8.wrap ((atT s i).tdiv (16 : Int))))))
 (branch
 (AV.bool
 (inT
 (ByteArray.mk
 #[(48 : UInt8), (49 : UInt8), (50 : UInt8), (51 : UInt8), (52 : UInt8), (53 : UInt8),
 (54 : UInt8), (55 : UInt8), (56 : UInt8), (57 : UInt8), (97 : UInt8), (98 : UInt8),
 (99 : UInt8), (100 : UInt8), (101 : UInt8), (102 : UInt8)])
 (opq ((atT s i).tmod (16 : Int)))))
 (if
 some (1, lo.length) = some (1, lo.length) ∧
 (lo.length + 3) * 1 ≤ 140737488355328 then
 loopRun (f24_l0.run F) [1, 3, 4] K m
 (Env.mk 67
 [(1, AV.eptr [AV.int IntKind.i64 k, AV.int IntKind.i64 n, AV.str s]),
 (3,
 AV.lg 0 1
 (lo ++
 [[AV.int IntKind.u8 (92 : Int)],
 [AV.int IntKind.u8
 (atT
 (ByteArray.mk
 #[(48 : UInt8), (49 : UInt8), (50 : UInt8), (51 : UInt8), (52 : UInt8),
 (53 : UInt8), (54 : UInt8), (55 : UInt8), (56 : UInt8), (57 : UInt8),
 (97 : UInt8), (98 : UInt8), (99 : UInt8), (100 : UInt8), (101 : UInt8),
 (102 : UInt8)])
 (opq (IntKind.u8.wrap ((atT s i).tdiv (16 : Int)))))],
 [AV.int IntKind.u8
 (atT
 (ByteArray.mk
 #[(48 : UInt8), (49 : UInt8), (50 : UInt8), (51 : UInt8), (52 : UInt8),
 (53 : UInt8), (54 : UInt8), (55 : UInt8), (56 : UInt8), (57 : UInt8),
 (97 : UInt8), (98 : UInt8), (99 : UInt8), (100 : UInt8), (101 : UInt8),
 (102 : UInt8)])
 (opq ((atT s i).tmod (16 : Int))))]])),
 (4, AV.int IntKind.i64 (IntKind.i64.wrap (i + (1 : Int))))])
 (St.mk [] [(1, lo.length + 3)])
 else none)
 none)
 none)
 (if
 some (1, lo.length) = some (1, lo.length) ∧
 (lo.length + 1) * 1 ≤ 140737488355328 then
 loopRun (f24_l0.run F) [1, 3, 4] K m
 (Env.mk 67
 [(1, AV.eptr [AV.int IntKind.i64 k, AV.int IntKind.i64 n, AV.str s]),
 (3, AV.lg 0 1 (lo ++ [[AV.int IntKind.u8 (atT s i)]])),
 (4, AV.int IntKind.i64 (IntKind.i64.wrap (i + (1 : Int))))])
 (St.mk [] [(1, lo.length + 1)])
 else none)))))
 none)
 (K (AX.exit 0) (Env.mk 67 [(3, AV.lg 0 1 lo)])
 (St.mk [] [(1, lo.length)])) := by kernel_rfl

theorem rs_e0 (F : Nat) :
 ((Cont.block 0 (Cont.then (f24_r0.run F (f24.leaveK Fun.done)) (f24.leaveK Fun.done))) (.exit 0) (Env.mk 67 [(3, .sl 1 true [[.int .u8 (34 : Int)]])]) ⟨[], []⟩ : Ans) =
 some (Fin.ret (AV.str (textOf [(34 : Int), (34 : Int)])), St.mk [] [(1, 2)]) := by kernel_rfl

theorem rs_e1 (F : Nat) (lo : List (List AV)) :
 ((Cont.block 0 (Cont.then (f24_r0.run F (f24.leaveK Fun.done)) (f24.leaveK Fun.done))) (.exit 0) (Env.mk 67 [(3, .lg 0 1 lo)]) ⟨[], [(1, lo.length)]⟩ : Ans) =
 if
 some (1, lo.length) = some (1, lo.length) ∧
 (lo.length + 1) * 1 ≤ 140737488355328 then
 onSome (numsOf (lo ++ [[AV.int IntKind.u8 (34 : Int)]])) none fun (o : List Int) =>
 some (Fin.ret (AV.str (textOf o)), St.mk [] [(1, lo.length + 1)])
 else none := by kernel_rfl

end Go.Proofs.YtcfedmheblbdnaaDoor.V

/- Values: the reference's Show, as a callee. -/
set_option linter.unusedVariables false
namespace Go.Proofs.YtcfedmheblbdnaaDoor.V
open Go Go.V Go.RowKit

theorem hx_tab : ∀ j : Fin 16, (strL (ByteArray.mk #[48, 49, 50, 51, 52, 53, 54, 55, 56, 57, 97, 98, 99, 100, 101, 102])).getD j.val 0 = hexD j.val := by decide +kernel
theorem hx_in {j : Nat} (h : j < 16) : inT (ByteArray.mk #[48, 49, 50, 51, 52, 53, 54, 55, 56, 57, 97, 98, 99, 100, 101, 102]) (j : Int) = true := inT_iff.mpr ⟨by omega, by rw [Int.toNat_natCast]; exact h⟩
theorem hx_at {j : Nat} (h : j < 16) : atT (ByteArray.mk #[48, 49, 50, 51, 52, 53, 54, 55, 56, 57, 97, 98, 99, 100, 101, 102]) (j : Int) = ((hexD j : Nat) : Int) := by
  rw [atT, opq_eq, Int.toNat_natCast, hx_tab ⟨j, h⟩]
theorem encQ_esc {x : Nat} (h : escB x = true) : encQ x = [92, hexD (x / 16), hexD (x % 16)] := by rw [encQ, h]; rfl
theorem encQ_plain {x : Nat} (h : escB x = false) : encQ x = [x] := by rw [encQ, h]; rfl
theorem escB_eq (x : Nat) : escB x = (decide (x < 32) || (decide (126 < x) || (decide (x = 34) || decide (x = 92)))) := by
  rw [Bool.eq_iff_iff]
  simp only [escB, Bool.or_eq_true, Nat.blt_eq, Nat.beq_eq, decide_eq_true_eq]
section
variable (F m : Nat) (K' : Cont) (k n : Int) (s : ByteArray) (i x : Nat) (hi : i < (strL s).length) (hx : (strL s)[i] = x) (hs : s.size ≤ 1000)
include hi hx hs
theorem rs_facts : inT s (i : Int) = true ∧ atT s (i : Int) = (x : Nat) ∧ x < 256 ∧ IntKind.i64.wrap ((i : Int) + 1) = ((i + 1 : Nat) : Int) ∧ (i : Int) < (s.size : Int) ∧ opq (IntKind.u8.wrap (((x : Nat) : Int).tdiv 16)) = ((x / 16 : Nat) : Int) ∧ opq (((x : Nat) : Int).tmod 16) = ((x % 16 : Nat) : Int) := by
  have h256 : x < 256 := by rw [← hx]; exact strL_lt s _ (List.getElem_mem hi)
  have hsz := strL_size s
  refine ⟨inT_iff.mpr ⟨by omega, by simpa using hi⟩, by rw [atT, opq_eq]; simp [List.getElem?_eq_getElem hi, hx], h256, by rw [wrapS (by omega) (by omega)]; omega, by omega, ?_, ?_⟩
  · rw [opq_eq, show ((x : Nat) : Int).tdiv 16 = ((x / 16 : Nat) : Int) from (Int.ofNat_tdiv x 16).symm]; exact w8 (by omega)
  · rw [opq_eq]; exact (Int.ofNat_tmod x 16).symm
theorem rs_step1 (L : List Nat) (hL : L.length ≤ 10000) :
    loopRun (f24_l0.run F) [1, 3, 4] K' m.succ (Env.mk 67 [(1, .eptr [.int .i64 k, .int .i64 n, .str s]), (3, .lg 0 1 (bR L)), (4, .int .i64 (i : Int))]) ⟨[], [(1, (bR L).length)]⟩
      = loopRun (f24_l0.run F) [1, 3, 4] K' m (Env.mk 67 [(1, .eptr [.int .i64 k, .int .i64 n, .str s]), (3, .lg 0 1 (bR (L ++ encQ x))), (4, .int .i64 ((i + 1 : Nat) : Int))]) ⟨[], [(1, (bR (L ++ encQ x)).length)]⟩ := by
  obtain ⟨f1, f2, f3, f4, f5, f6, f7⟩ := rs_facts s i x hi hx hs
  have hl : (bR L).length = L.length := bR_length L
  have a1 : x / 16 < 16 := by omega
  have a2 : x % 16 < 16 := by omega
  rw [rs_a1, branch_of (decide_eq_true f5), branch_of f1, f2, f4, f6, f7]
  have esc : escB x = true → bR L ++ [[AV.int IntKind.u8 (92 : Int)], [AV.int IntKind.u8 ((hexD (x / 16) : Nat) : Int)], [AV.int IntKind.u8 ((hexD (x % 16) : Nat) : Int)]] = bR (L ++ encQ x) ∧ (bR L).length + 3 = (bR (L ++ encQ x)).length := fun h => by
    rw [encQ_esc h, bR_append]; exact ⟨rfl, by simp [bR_length]⟩
  have c3 : some (1, (bR L).length) = some (1, (bR L).length) ∧ ((bR L).length + 3) * 1 ≤ 140737488355328 := ⟨rfl, by omega⟩
  have c1 : some (1, (bR L).length) = some (1, (bR L).length) ∧ ((bR L).length + 1) * 1 ≤ 140737488355328 := ⟨rfl, by omega⟩
  rw [hx_at a1, hx_at a2]
  by_cases h1 : x < 32
  · obtain ⟨g1, g2⟩ := esc (by rw [escB_eq, decide_eq_true h1]; rfl)
    rw [branch_of (decide_eq_true (by omega)), branch_of (hx_in a1), branch_of (hx_in a2), if_pos c3, g1, g2]
  · rw [branch_not (decide_eq_false (by omega))]
    by_cases h2 : 126 < x
    · obtain ⟨g1, g2⟩ := esc (by rw [escB_eq, decide_eq_true h2]; simp)
      rw [branch_of (decide_eq_true (by omega)), branch_of (hx_in a1), branch_of (hx_in a2), if_pos c3, g1, g2]
    · rw [branch_not (decide_eq_false (by omega))]
      by_cases h3 : x = 34
      · obtain ⟨g1, g2⟩ := esc (by rw [escB_eq, decide_eq_true h3]; simp)
        rw [branch_of (show (((x : Nat) : Int) == 34) = true by rw [beq_iff_eq]; omega), branch_of (hx_in a1), branch_of (hx_in a2), if_pos c3, g1, g2]
      · rw [branch_not (show (((x : Nat) : Int) == 34) = false by rw [beq_eq_false_iff_ne]; omega)]
        by_cases h4 : x = 92
        · obtain ⟨g1, g2⟩ := esc (by rw [escB_eq, decide_eq_true h4]; simp)
          rw [branch_of (show (((x : Nat) : Int) == 92) = true by rw [beq_iff_eq]; omega), branch_of (hx_in a1), branch_of (hx_in a2), if_pos c3, g1, g2]
        · have hp : escB x = false := by rw [escB_eq, decide_eq_false h1, decide_eq_false h2, decide_eq_false h3, decide_eq_false h4]; rfl
          have g1 : bR L ++ [[AV.int IntKind.u8 ((x : Nat) : Int)]] = bR (L ++ encQ x) := by rw [encQ_plain hp, bR_append]; rfl
          have g2 : (bR L).length + 1 = (bR (L ++ encQ x)).length := by rw [encQ_plain hp]; simp [bR_length]
          rw [branch_not (show (((x : Nat) : Int) == 92) = false by rw [beq_eq_false_iff_ne]; omega), if_pos c1, g1, g2]
theorem rs_step0 :
    loopRun (f24_l0.run F) [1, 3, 4] K' m.succ (Env.mk 67 [(1, .eptr [.int .i64 k, .int .i64 n, .str s]), (3, .sl 1 true [[.int .u8 (34 : Int)]]), (4, .int .i64 (i : Int))]) ⟨[], []⟩
      = loopRun (f24_l0.run F) [1, 3, 4] K' m (Env.mk 67 [(1, .eptr [.int .i64 k, .int .i64 n, .str s]), (3, .lg 0 1 (bR ([34] ++ encQ x))), (4, .int .i64 ((i + 1 : Nat) : Int))]) ⟨[], [(1, (bR ([34] ++ encQ x)).length)]⟩ := by
  obtain ⟨f1, f2, f3, f4, f5, f6, f7⟩ := rs_facts s i x hi hx hs
  have a1 : x / 16 < 16 := by omega
  have a2 : x % 16 < 16 := by omega
  rw [rs_a0, branch_of (decide_eq_true f5), branch_of f1, f2, f4, f6, f7]
  rw [hx_at a1, hx_at a2]
  by_cases h1 : x < 32
  · rw [branch_of (decide_eq_true (by omega)), branch_of (hx_in a1), branch_of (hx_in a2), encQ_esc (by rw [escB_eq, decide_eq_true h1]; rfl)]; rfl
  · rw [branch_not (decide_eq_false (by omega))]
    by_cases h2 : 126 < x
    · rw [branch_of (decide_eq_true (by omega)), branch_of (hx_in a1), branch_of (hx_in a2), encQ_esc (by rw [escB_eq, decide_eq_true h2]; simp)]; rfl
    · rw [branch_not (decide_eq_false (by omega))]
      by_cases h3 : x = 34
      · rw [branch_of (show (((x : Nat) : Int) == 34) = true by rw [beq_iff_eq]; omega), branch_of (hx_in a1), branch_of (hx_in a2), encQ_esc (by rw [escB_eq, decide_eq_true h3]; simp)]; rfl
      · rw [branch_not (show (((x : Nat) : Int) == 34) = false by rw [beq_eq_false_iff_ne]; omega)]
        by_cases h4 : x = 92
        · rw [branch_of (show (((x : Nat) : Int) == 92) = true by rw [beq_iff_eq]; omega), branch_of (hx_in a1), branch_of (hx_in a2), encQ_esc (by rw [escB_eq, decide_eq_true h4]; simp)]; rfl
        · have hp : escB x = false := by rw [escB_eq, decide_eq_false h1, decide_eq_false h2, decide_eq_false h3, decide_eq_false h4]; rfl
          rw [branch_not (show (((x : Nat) : Int) == 92) = false by rw [beq_eq_false_iff_ne]; omega), encQ_plain hp]; rfl
end
noncomputable def rsK (F : Nat) : Cont := Cont.block 0 (Cont.then (f24_r0.run F (f24.leaveK Fun.done)) (f24.leaveK Fun.done))
end Go.Proofs.YtcfedmheblbdnaaDoor.V

/- Values: the reference's Show, as a callee. -/
set_option linter.unusedVariables false
namespace Go.Proofs.YtcfedmheblbdnaaDoor.V
open Go Go.V Go.RowKit

theorem rs_all (F : Nat) (k0 n0 : Int) (s : ByteArray) (hs : s.size ≤ 1000) : ∀ (k i m : Nat) (L : List Nat), i + k = (strL s).length → k < m → L.length ≤ 10 + 3 * i → (∀ b ∈ L, b < 256) →
    ∃ st', loopRun (f24_l0.run F) [1, 3, 4] (rsK F) m (Env.mk 67 [(1, .eptr [.int .i64 k0, .int .i64 n0, .str s]), (3, .lg 0 1 (bR L)), (4, .int .i64 (i : Int))]) ⟨[], [(1, (bR L).length)]⟩
      = some (.ret (.str (txt (L ++ (((strL s).drop i).flatMap encQ ++ [34])))), st')
  | k, i, 0, L, _, h, _, _ => by omega
  | 0, i, m + 1, L, h, _, hL, hb => by
    have hsz := strL_size s
    have hlt : ∀ b ∈ L ++ [34], b < 256 := by
      intro b h
      rcases List.mem_append.mp h with h | h
      · exact hb b h
      · simp at h; omega
    have e : bR L ++ [[AV.int IntKind.u8 (34 : Int)]] = bR (L ++ [34]) := by rw [bR_append]; rfl
    rw [show m + 1 = m.succ from rfl, rs_a1, branch_not (decide_eq_false (by omega)), rsK, rs_e1, if_pos ⟨rfl, by rw [bR_length]; omega⟩, e, text_rows hlt, List.drop_eq_nil_of_le (by omega)]
    exact ⟨_, rfl⟩
  | k + 1, i, m + 1, L, h, hm, hL, hb => by
    have hsz := strL_size s
    have hi : i < (strL s).length := by omega
    have hl := encQ_len (strL s)[i]
    obtain ⟨st', ih⟩ := rs_all F k0 n0 s hs k (i + 1) m (L ++ encQ (strL s)[i]) (by omega) (by omega) (by rw [List.length_append]; omega) (by
      intro b h
      rcases List.mem_append.mp h with h | h
      · exact hb b h
      · exact encQ_lt (strL_lt s _ (List.getElem_mem hi)) b h)
    refine ⟨st', ?_⟩
    rw [show m + 1 = m.succ from rfl, rs_step1 F m (rsK F) k0 n0 s i _ hi rfl hs L (by omega), ih, List.drop_eq_getElem_cons hi, List.flatMap_cons]
    simp only [List.append_assoc]
theorem rs_text (F : Nat) (hF : 1001 < F) (k0 n0 : Int) (s : ByteArray) (hs : s.size ≤ 1000) :
    ∃ st', loopRun (f24_l0.run F) [1, 3, 4] (rsK F) F (Env.mk 67 [(1, .eptr [.int .i64 k0, .int .i64 n0, .str s]), (3, .sl 1 true [[.int .u8 (34 : Int)]]), (4, .int .i64 (0 : Int))]) ⟨[], []⟩ = some (.ret (.str (txt (qtL (strL s)))), st') := by
  have hsz := strL_size s
  obtain ⟨m, rfl⟩ : ∃ m, F = m + 1 := ⟨F - 1, by omega⟩
  cases hl : strL s with
  | nil =>
    have h0 : s.size = 0 := by rw [hsz, hl]; rfl
    rw [show m + 1 = m.succ from rfl, rs_a0, branch_not (decide_eq_false (by omega)), rsK, rs_e0]
    exact ⟨_, rfl⟩
  | cons x l =>
    have hi : 0 < (strL s).length := by rw [hl]; simp
    have hx : (strL s)[0] = x := by simp [hl]
    obtain ⟨st', ih⟩ := rs_all (m + 1) k0 n0 s hs ((strL s).length - 1) 1 m ([34] ++ encQ x) (by omega) (by omega) (by have h5 := encQ_len x; rw [List.length_append]; show 1 + (encQ x).length ≤ 10 + 3 * 1; omega) (by
      intro b h
      rcases List.mem_append.mp h with h | h
      · simp at h; omega
      · exact encQ_lt (by rw [← hx]; exact strL_lt s _ (List.getElem_mem hi)) b h)
    refine ⟨st', ?_⟩
    rw [show (0 : Int) = ((0 : Nat) : Int) from rfl]
    have := rs_step0 (m + 1) m (rsK (m + 1)) k0 n0 s 0 x hi hx hs
    rw [show m + 1 = m.succ from rfl] at this ⊢
    refine this.trans (ih.trans ?_)
    rw [hl, qtL]
    simp [List.flatMap_cons]
theorem rs_eq (v : Va) (h : okSh v = true) : ∃ st', f24.run 1002 [v.av] ⟨[], []⟩ = some (.ret (.str (showV v)), st') := by
  obtain ⟨h1, h2, h3⟩ := cdec_iff.mp h
  rw [rs_run, showV]
  have hok : okI v.n = true := cdec_iff.mpr ⟨h1, h2⟩
  show ∃ st', branch (.bool (!rightV v)) _ _ = _
  cases hr : rightV v with
  | false => exact ⟨_, rfl⟩
  | true =>
    rw [Bool.not_true, branch_false, cond_true, branch_of hok]
    cases k0 : v.k == 0 with
    | true =>
      rw [beq_iff_eq] at k0
      rw [k0]; exact ⟨_, rfl⟩
    | false =>
      rw [branch_false]
      cases k1 : v.k == 1 with
      | true => exact ⟨_, rfl⟩
      | false =>
        rw [branch_false, cond_false]
        cases k2 : v.k == 2 with
        | true => cases v.n == 1 <;> exact ⟨_, rfl⟩
        | false =>
          have k3 : v.k == 3 := by
            unfold rightV at hr
            rw [k0, k1, k2] at hr
            cases h3 : v.k == 3 with
            | true => rfl
            | false => rw [h3] at hr; cases hr
          rw [branch_false, cond_false, k3, cond_true]
          obtain ⟨st', ht⟩ := rs_text 1002 (by omega) v.k v.n v.s h3
          refine ⟨st', ht.trans ?_⟩
          have hq : ∀ b ∈ qtL (strL v.s), b < 256 := by
            intro b hb
            simp only [qtL, List.mem_cons, List.mem_append, List.not_mem_nil, or_false, List.mem_flatMap] at hb
            rcases hb with rfl | ⟨x, hx, hb⟩ | rfl
            · omega
            · exact encQ_lt (strL_lt _ _ hx) b hb
            · omega
          rw [show strB (qtL (strL v.s)) = txt (qtL (strL v.s)) from strL_inj (by rw [strL_strB hq, strL_txt hq])]
noncomputable def p24 : POrc Tryd.prog := f24.flatIf dec1v (fun v => [v.av]) dec1v_enc okSh (fun v => .str (showV v)) (fun _ => ⟨⟨trivial, trivial, trivial, trivial⟩, trivial⟩) (fun _ => trivial) fun v h => by
  obtain ⟨st', hr⟩ := rs_eq v h
  exact ⟨1002, st', hr⟩
end Go.Proofs.YtcfedmheblbdnaaDoor.V

/- The functions' pieces, as told by gen.py. -/
set_option linter.unusedVariables false
set_option maxRecDepth 20000
namespace Go.Proofs.YtcfedmheblbdnaaDoor.V
open Go Go.V Go.RowKit


/-! ### 18: interlock/value.Compare (24, 24); results 4, 5; slots: 0 a, 1 b, 2 a, 3 b -/
/-! ### 19: interlock/interlockref04.Compare (24, 24); results 4, 5; slots: 0 a, 1 b, 2 a, 3 b -/
end Go.Proofs.YtcfedmheblbdnaaDoor.V

/- What the functions' runs come to; the right sides were printed by a tool, Lean checks them. -/
set_option linter.unusedVariables false
set_option maxRecDepth 100000
namespace Go.Proofs.YtcfedmheblbdnaaDoor.V
open Go Go.V Go.RowKit

end Go.Proofs.YtcfedmheblbdnaaDoor.V

/- Values: both sides' Compare, as callees. -/
set_option linter.unusedVariables false
namespace Go.Proofs.YtcfedmheblbdnaaDoor.V
open Go Go.V Go.RowKit

end Go.Proofs.YtcfedmheblbdnaaDoor.V

/- The functions' pieces, as told by gen.py. -/
set_option linter.unusedVariables false
set_option maxRecDepth 20000
namespace Go.Proofs.YtcfedmheblbdnaaDoor.V
open Go Go.V Go.RowKit


/-! ### 7: interlock/interlocklaw04.ValueAsks (24, 24, 32); results 6; slots: 0 a, 1 b, 2 c, 3 a, 4 b, 5 c, 7 x, 8 ok, 9 y, 10 is -/
end Go.Proofs.YtcfedmheblbdnaaDoor.V

/- What the functions' runs come to; the right sides were printed by a tool, Lean checks them. -/
set_option linter.unusedVariables false
set_option maxRecDepth 100000
namespace Go.Proofs.YtcfedmheblbdnaaDoor.V
open Go Go.V Go.RowKit

end Go.Proofs.YtcfedmheblbdnaaDoor.V

/- Values: ValueAsks is true. -/
set_option linter.unusedVariables false
namespace Go.Proofs.YtcfedmheblbdnaaDoor.V
open Go Go.V Go.RowKit

end Go.Proofs.YtcfedmheblbdnaaDoor.V

/- The functions' pieces, as told by gen.py. -/
set_option linter.unusedVariables false
set_option maxRecDepth 20000
namespace Go.Proofs.YtcfedmheblbdnaaDoor.V
open Go Go.V Go.RowKit


/-! ### 91: internal/stringslite.Clone (9); results 2; slots: 0 s, 1 s, 3 b -/
noncomputable def f91_b : Sim Tryd.prog :=
 (.seq (.live [0] (.region 0 [
 ⟨(opAssign (some 2) (.const (Value.string { data := #[] })) 9 "strings.go:115" #[]).op, none⟩
 ] (by kernel_rfl)))
 (.seq (.seq (.live [0, 6] (.region 1 [
 ⟨(opMove (some 4) (.tmp 0) 9 "strings.go:116" #[]).op, none⟩,
 ⟨(opLen (some 5) (.tmp 4) 9 .string Tryd.underlying9 3 "strings.go:116" #[eD 0]).op, none⟩,
 ⟨(opBin (some 6) .eql 3 (.tmp 5) (.const (Value.int IntKind.i64 0)) 3 4 "strings.go:116" #[eD 1]).op, none⟩
 ] (by kernel_rfl)))
 (.cond (.tmp 6)
 (.seq (.live [2] (.region 2 [
 ⟨(opAssign (some 2) (.const (Value.string { data := #[] })) 9 "strings.go:117" #[]).op, none⟩
 ] (by kernel_rfl)))
 (.live [2] .ret))
 .skip))
 (.seq (.live [0, 3] (.region 3 [
 ⟨(opMove (some 7) (.tmp 0) 9 "strings.go:119" #[]).op, none⟩,
 ⟨(opLen (some 8) (.tmp 7) 9 .string Tryd.underlying9 3 "strings.go:119" #[eD 0]).op, none⟩,
 ⟨(opMakeN (some 9) 46 (.tmp 8) 5 1 1 (.int .u8 0) el46 [AV.int .u8 0] (by kernel_rfl) (by kernel_rfl) 46 "strings.go:119" #[eD 1, eD 1]).op, none⟩,
 ⟨(opAssign (some 3) (.tmp 9) 46 "strings.go:119" #[eD 2, eP 0, eP 1, eP 2]).op, none⟩
 ] (by kernel_rfl)))
 (.seq (.live [3] (.region 4 [
 ⟨(opMove (some 10) (.tmp 3) 46 "strings.go:120" #[]).op, none⟩,
 ⟨(opMove (some 11) (.tmp 0) 9 "strings.go:120" #[]).op, none⟩,
 ⟨(opCopyV (some 12) (.tmp 10) (.tmp 11) 46 9 5 1 Tryd.underlying46 sz5 3 "strings.go:120" #[eD 0, eD 1]).op, none⟩
 ] (by kernel_rfl)))
 (.seq (.live [2] (.region 5 [
 ⟨(opMove (some 13) (.tmp 3) 46 "strings.go:121" #[]).op, none⟩,
 ⟨(opIndexAddrT (some 14) 46 (.tmp 13) (.const (Value.int IntKind.i64 0)) 5 1 Tryd.underlying46 sz5 0 "strings.go:121" #[eD 0]).op, none⟩,
 ⟨(opMove (some 15) (.tmp 3) 46 "strings.go:121" #[]).op, none⟩,
 ⟨(opLen (some 16) (.tmp 15) 46 (.slice 5) Tryd.underlying46 3 "strings.go:121" #[eD 2]).op, none⟩,
 ⟨(opUString (some 17) (.tmp 14) (.tmp 16) (.tmp 3) 93 3 5 Tryd.underlying93 (by kernel_rfl) (by intro E h; simpa [okE] using h) 9 "strings.go:121" #[eD 1, eD 3]).op, none⟩,
 ⟨(opAssign (some 2) (.tmp 17) 9 "strings.go:121" #[eD 4, eP 0, eP 1, eP 2, eP 3, eP 4]).op, none⟩
 ] (by kernel_rfl)))
 (.live [2] .ret))))))

noncomputable def f91 : Fun Tryd.prog where
 id := 91
 fn := Tryd.f91
 hf := Tryd.func91
 hname := by kernel_rfl
 body := f91_b
 hbody := by kernel_rfl
 res := [rTmp 2]
 hres := by kernel_rfl
 n := 18
 hn := by kernel_rfl

end Go.Proofs.YtcfedmheblbdnaaDoor.V

/- What the functions' runs come to; the right sides were printed by a tool, Lean checks them. -/
set_option linter.unusedVariables false
set_option maxRecDepth 100000
namespace Go.Proofs.YtcfedmheblbdnaaDoor.V
open Go Go.V Go.RowKit

theorem cl_run (F : Nat) (s : ByteArray) :
 (f91.run F [.str s] ⟨[], []⟩ : Ans) =
 branch (AV.bool ((↑s.size : Int) == (0 : Int))) (some (Fin.ret (AV.str (ByteArray.mk #[])), St.mk [] []))
 (branch (AV.bool (mkOk 1 (↑s.size : Int)))
 (branch
 (AV.bool
 (true &&
 inC (zerC (↑s.size : Int).toNat [AV.int IntKind.u8 (0 : Int)]) 0
 (mulN
 (minN (List.map (fun (c : UInt8) => [AV.int IntKind.u8 (↑c.toNat : Int)]) s.data.toList).length
 (↑s.size : Int).toNat)
 1)))
 (if (0 : Int) ≤ (0 : Int) ∧ (0 : Int) < (↑(↑s.size : Int).toNat : Int) then
 branch
 (AV.bool
 (true &&
 uOk (↑(↑s.size : Int).toNat : Int)
 (setC (zerC (↑s.size : Int).toNat [AV.int IntKind.u8 (0 : Int)]) 0
 (flC (List.map (fun (c : UInt8) => [AV.int IntKind.u8 (↑c.toNat : Int)]) s.data.toList)
 (minN (List.map (fun (c : UInt8) => [AV.int IntKind.u8 (↑c.toNat : Int)]) s.data.toList).length
 (↑s.size : Int).toNat))).length))
 (onSome
 (bytesC
 (setC (zerC (↑s.size : Int).toNat [AV.int IntKind.u8 (0 : Int)]) 0
 (flC (List.map (fun (c : UInt8) => [AV.int IntKind.u8 (↑c.toNat : Int)]) s.data.toList)
 (minN (List.map (fun (c : UInt8) => [AV.int IntKind.u8 (↑c.toNat : Int)]) s.data.toList).length
 (↑s.size : Int).toNat))))
 none fun (o : List Nat) => some (Fin.ret (AV.str (strB o)), St.mk [Ob.nov 1] []))
 none
 else none)
 none)
 none) := by kernel_rfl

end Go.Proofs.YtcfedmheblbdnaaDoor.V

/- Values: a text's copy, as a callee. -/
set_option linter.unusedVariables false
namespace Go.Proofs.YtcfedmheblbdnaaDoor.V
open Go Go.V Go.RowKit

theorem cl_eq (s : ByteArray) (hs : s.size ≤ 100000) : ∃ st', f91.run 0 [.str s] ⟨[], []⟩ = some (.ret (.str s), st') := by
  rw [cl_run]
  have hsz := strL_size s
  by_cases h0 : s.size = 0
  · have hl : strL s = [] := List.eq_nil_of_length_eq_zero (by omega)
    rw [branch_of (show ((s.size : Int) == 0) = true by rw [h0]; rfl), show (ByteArray.mk #[]) = s from strL_inj (by rw [hl]; rfl)]
    exact ⟨_, rfl⟩
  · have e1 : List.map (fun (c : UInt8) => [AV.int IntKind.u8 (↑c.toNat : Int)]) s.data.toList = bR (strL s) := strL_rows s
    have e2 : minN (bR (strL s)).length s.size = s.size := by rw [minN, opq_eq, bR_length, ← hsz]; omega
    have e3 : setC (zerC s.size [AV.int IntKind.u8 (0 : Int)]) 0 (flC (bR (strL s)) s.size) = bC (strL s) := by
      rw [zerC_byte, flC_bR, List.take_of_length_le (by omega), setC_bC (by simp; omega)]
      congr 1
      unfold putN
      simp
      omega
    rw [branch_not (show ((s.size : Int) == 0) = false by rw [beq_eq_false_iff_ne]; omega), Int.toNat_natCast, e1, e2, e3, branch_of (mkOk_iff.mpr ⟨by omega, by omega⟩), branch_of (show (true && inC (zerC s.size [AV.int IntKind.u8 (0 : Int)]) 0 (mulN s.size 1)) = true by rw [Bool.true_and, inC_iff, mulN, opq_eq, zerC_byte, bC_length]; simp),
      if_pos ⟨by omega, by omega⟩, branch_of (show (true && uOk (s.size : Int) (bC (strL s)).length) = true by rw [Bool.true_and, uOk_iff, bC_length]; omega), bytesC_bC (strL_lt s)]
    exact ⟨_, by simp only [onSome]; rw [strB_strL]⟩
noncomputable def p91 : POrc Tryd.prog := f91.flatIf dec1s (fun s => [.str s]) dec1s_enc (fun s => cdec (s.size ≤ 100000)) (fun s => .str s) (fun _ => ⟨trivial, trivial⟩) (fun _ => trivial) fun s h => by
  obtain ⟨st', hr⟩ := cl_eq s (cdec_iff.mp h)
  exact ⟨0, st', hr⟩
theorem p91_nat : p91.Nat := flatIf_nat
end Go.Proofs.YtcfedmheblbdnaaDoor.V

/- The functions' pieces, as told by gen.py. -/
set_option linter.unusedVariables false
set_option maxRecDepth 20000
namespace Go.Proofs.YtcfedmheblbdnaaDoor.V
open Go Go.V Go.RowKit


/-! ### 99: internal/strconv.lower (5); results 2; slots: 0 c, 1 c -/
noncomputable def f99_b : Sim Tryd.prog :=
 (.seq (.live [0] (.region 0 [
 ⟨(opAssign (some 2) (.const (Value.int IntKind.u8 0)) 5 "atoi.go:11" #[]).op, none⟩
 ] (by kernel_rfl)))
 (.seq (.live [2] (.region 1 [
 ⟨(opMove (some 3) (.tmp 0) 5 "atoi.go:12" #[]).op, none⟩,
 ⟨(opBin (some 4) .or 5 (.tmp 3) (.const (Value.int IntKind.u8 32)) 5 5 "atoi.go:12" #[eD 0]).op, none⟩,
 ⟨(opAssign (some 2) (.tmp 4) 5 "atoi.go:12" #[eD 1, eP 0, eP 1]).op, none⟩
 ] (by kernel_rfl)))
 (.live [2] .ret)))

noncomputable def f99 : Fun Tryd.prog where
 id := 99
 fn := Tryd.f99
 hf := Tryd.func99
 hname := by kernel_rfl
 body := f99_b
 hbody := by kernel_rfl
 res := [rTmp 2]
 hres := by kernel_rfl
 n := 5
 hn := by kernel_rfl

/-! ### 90: internal/strconv.ParseUint (9, 3, 3); results 6, 7; slots:  -/
/-- A loop's round; at its head live: 1 , 8 , 9 , 10 , 11 , 12 , 13 , 99 , 100 , 101  -/
noncomputable def f90_l0 : Sim Tryd.prog :=
 (.seq (.live [1, 8, 9, 10, 11, 12, 13, 99, 100, 101, 102] (.region 36 [
 ⟨(opBin (some 102) .lss 3 (.tmp 101) (.tmp 100) 3 0 "atoi.go:108" #[]).op, none⟩
 ] (by kernel_rfl)))
 (.seq (.cond (.tmp 102)
 .skip
 (.live [9, 12, 13] (.exit 3)))
 (.seq (.block 4 (.seq (.live [1, 8, 9, 10, 11, 12, 13, 15, 99, 100, 101] (.region 37 [
 ⟨(opIndexAddrT (some 103) 46 (.tmp 99) (.tmp 101) 5 1 Tryd.underlying46 sz5 0 "atoi.go:108" #[]).op, none⟩,
 ⟨(opLoadT (.one (.int .u8)) (some 104) 5 (.tmp 103) (.int .u8) Tryd.underlying5 1 sz5 (by kernel_rfl) 5 "atoi.go:108" #[eD 0]).op, none⟩,
 ⟨(opAssign (some 15) (.tmp 104) 5 "atoi.go:108" #[eD 1, eP 0, eP 1]).op, none⟩
 ] (by kernel_rfl)))
 (.seq (.live [1, 8, 9, 10, 11, 12, 13, 15, 99, 100, 101] (.region 38 [
 ⟨(opAssign (some 16) (.const (Value.int IntKind.u8 0)) 5 "atoi.go:109" #[]).op, none⟩
 ] (by kernel_rfl)))
 (.seq (.block 5 (.seq (.live [1, 8, 9, 10, 11, 12, 13, 15, 99, 100, 101, 106] (.region 40 [
 ⟨(opMove (some 107) (.tmp 15) 5 "atoi.go:111" #[]).op, none⟩,
 ⟨(opBin (some 108) .eql 5 (.tmp 107) (.const (Value.int IntKind.u8 95)) 5 4 "atoi.go:111" #[eD 0]).op, none⟩,
 ⟨(opMove (some 109) (.tmp 108) 4 "atoi.go:111" #[eD 1]).op, none⟩,
 ⟨(opMove (some 110) (.tmp 8) 4 "atoi.go:111" #[eG 2]).op, (some (2, 109, true))⟩,
 ⟨(opPick (some 111) (.tmp 109) (.tmp 110) (.const (Value.bool false)) 4 "atoi.go:111" #[eD 2, eD 3]).op, none⟩,
 ⟨(opAssign (some 106) (.tmp 111) 4 "atoi.go:111" #[eD 4, eC 2]).op, none⟩
 ] (by kernel_rfl)))
 (.cond (.tmp 106)
 (.seq (.live [1, 8, 9, 10, 11, 12, 13, 99, 100, 101] (.region 41 [
 ⟨(opAssign (some 12) (.const (Value.bool true)) 4 "atoi.go:112" #[]).op, none⟩
 ] (by kernel_rfl)))
 (.live [1, 8, 9, 10, 11, 12, 13, 99, 100, 101] (.exit 4)))
 (.seq (.live [1, 8, 9, 10, 11, 12, 13, 15, 99, 100, 101, 112] (.region 42 [
 ⟨(opMove (some 113) (.tmp 15) 5 "atoi.go:114" #[]).op, none⟩,
 ⟨(opBin (some 114) .leq 5 (.const (Value.int IntKind.u8 48)) (.tmp 113) 5 4 "atoi.go:114" #[eD 0]).op, none⟩,
 ⟨(opMove (some 115) (.tmp 114) 4 "atoi.go:114" #[eD 1]).op, none⟩,
 ⟨(opMove (some 116) (.tmp 15) 5 "atoi.go:114" #[eG 2]).op, (some (2, 115, true))⟩,
 ⟨(opBin (some 117) .leq 5 (.tmp 116) (.const (Value.int IntKind.u8 57)) 5 4 "atoi.go:114" #[eD 3, eG 2]).op, (some (2, 115, true))⟩,
 ⟨(opPick (some 118) (.tmp 115) (.tmp 117) (.const (Value.bool false)) 4 "atoi.go:114" #[eD 2, eD 4]).op, none⟩,
 ⟨(opAssign (some 112) (.tmp 118) 4 "atoi.go:114" #[eD 5, eC 2]).op, none⟩
 ] (by kernel_rfl)))
 (.cond (.tmp 112)
 (.live [1, 8, 9, 10, 11, 12, 13, 16, 99, 100, 101] (.region 43 [
 ⟨(opMove (some 119) (.tmp 15) 5 "atoi.go:115" #[]).op, none⟩,
 ⟨(opBin (some 120) .sub 5 (.tmp 119) (.const (Value.int IntKind.u8 48)) 5 5 "atoi.go:115" #[eD 0]).op, none⟩,
 ⟨(opAssign (some 16) (.tmp 120) 5 "atoi.go:115" #[eD 1, eP 0, eP 1]).op, none⟩
 ] (by kernel_rfl)))
 (.seq (.live [1, 8, 9, 10, 11, 12, 13, 15, 99, 100, 101, 121] (.region 44 [
 ⟨(opMove (some 122) (.tmp 15) 5 "atoi.go:116" #[]).op, none⟩,
 ⟨opCall (f99.orc 0) (some 123) [(.tmp 122)] #[5] 5 "atoi.go:116" #[eD 0], none⟩,
 ⟨(opBin (some 124) .leq 5 (.const (Value.int IntKind.u8 97)) (.tmp 123) 5 4 "atoi.go:116" #[eD 1]).op, none⟩,
 ⟨(opMove (some 125) (.tmp 124) 4 "atoi.go:116" #[eD 2, eC 1]).op, none⟩,
 ⟨(opMove (some 126) (.tmp 15) 5 "atoi.go:116" #[eG 3]).op, (some (3, 125, true))⟩,
 ⟨opCall (f99.orc 0) (some 127) [(.tmp 126)] #[5] 5 "atoi.go:116" #[eD 4, eC 3, eG 3], (some (3, 125, true))⟩,
 ⟨(opBin (some 128) .leq 5 (.tmp 127) (.const (Value.int IntKind.u8 122)) 5 4 "atoi.go:116" #[eD 5, eG 3]).op, (some (3, 125, true))⟩,
 ⟨(opPick (some 129) (.tmp 125) (.tmp 128) (.const (Value.bool false)) 4 "atoi.go:116" #[eD 3, eD 6]).op, none⟩,
 ⟨(opAssign (some 121) (.tmp 129) 4 "atoi.go:116" #[eD 7, eC 5]).op, none⟩
 ] (by kernel_rfl)))
 (.cond (.tmp 121)
 (.live [1, 8, 9, 10, 11, 12, 13, 16, 99, 100, 101] (.region 45 [
 ⟨(opMove (some 130) (.tmp 15) 5 "atoi.go:117" #[]).op, none⟩,
 ⟨opCall (f99.orc 0) (some 131) [(.tmp 130)] #[5] 5 "atoi.go:117" #[eD 0], none⟩,
 ⟨(opBin (some 132) .sub 5 (.tmp 131) (.const (Value.int IntKind.u8 97)) 5 5 "atoi.go:117" #[eD 1]).op, none⟩,
 ⟨(opBin (some 133) .add 5 (.tmp 132) (.const (Value.int IntKind.u8 10)) 5 5 "atoi.go:117" #[eD 2]).op, none⟩,
 ⟨(opAssign (some 16) (.tmp 133) 5 "atoi.go:117" #[eD 3, eC 1, eP 0, eP 1, eP 2, eP 3]).op, none⟩
 ] (by kernel_rfl)))
 (.seq (.live [6, 7] (.region 39 [
 ⟨(opMakeIface (some 105) 99 (.const (Value.int IntKind.i64 2)) (.int .i64) Tryd.underlying99 (by kernel_rfl) 73 "atoi.go:119" #[{ on := 1, ground := (Ground.gcOnly Departure.lateStores) }]).op, none⟩,
 ⟨(opAssign (some 6) (.const (Value.int IntKind.u64 0)) 84 "atoi.go:119" #[{ on := 0, ground := (Ground.textOnly Departure.lateStores) }]).op, none⟩,
 ⟨(opAssign (some 7) (.tmp 105) 73 "atoi.go:119" #[eD 0, eC 1, eP 0, eP 1]).op, none⟩
 ] (by kernel_rfl)))
 (.live [6, 7] .ret)))))))))
 (.seq (.seq (.live [1, 8, 9, 10, 11, 12, 13, 16, 99, 100, 101, 137] (.region 46 [
 ⟨(opMove (some 134) (.tmp 16) 5 "atoi.go:122" #[]).op, none⟩,
 ⟨(opMove (some 135) (.tmp 1) 3 "atoi.go:122" #[]).op, none⟩,
 ⟨(opConvInt (some 136) 3 5 (.tmp 135) (.int .i64) Tryd.underlying3 .u8 Tryd.underlying5 5 "atoi.go:122" #[eD 1]).op, none⟩,
 ⟨(opBin (some 137) .geq 5 (.tmp 134) (.tmp 136) 5 4 "atoi.go:122" #[eD 0, eD 2]).op, none⟩
 ] (by kernel_rfl)))
 (.cond (.tmp 137)
 (.seq (.live [6, 7] (.region 47 [
 ⟨(opMakeIface (some 138) 99 (.const (Value.int IntKind.i64 2)) (.int .i64) Tryd.underlying99 (by kernel_rfl) 73 "atoi.go:123" #[{ on := 1, ground := (Ground.gcOnly Departure.lateStores) }]).op, none⟩,
 ⟨(opAssign (some 6) (.const (Value.int IntKind.u64 0)) 84 "atoi.go:123" #[{ on := 0, ground := (Ground.textOnly Departure.lateStores) }]).op, none⟩,
 ⟨(opAssign (some 7) (.tmp 138) 73 "atoi.go:123" #[eD 0, eC 1, eP 0, eP 1]).op, none⟩
 ] (by kernel_rfl)))
 (.live [6, 7] .ret))
 .skip))
 (.seq (.seq (.live [1, 8, 9, 10, 11, 12, 13, 16, 99, 100, 101, 141] (.region 48 [
 ⟨(opMove (some 139) (.tmp 13) 84 "atoi.go:126" #[]).op, none⟩,
 ⟨(opMove (some 140) (.tmp 10) 84 "atoi.go:126" #[]).op, none⟩,
 ⟨(opBin (some 141) .geq 84 (.tmp 139) (.tmp 140) 84 4 "atoi.go:126" #[eD 0, eD 1]).op, none⟩
 ] (by kernel_rfl)))
 (.cond (.tmp 141)
 (.seq (.live [6, 7] (.region 49 [
 ⟨(opMove (some 142) (.tmp 11) 84 "atoi.go:128" #[]).op, none⟩,
 ⟨(opMakeIface (some 143) 99 (.const (Value.int IntKind.i64 1)) (.int .i64) Tryd.underlying99 (by kernel_rfl) 73 "atoi.go:128" #[{ on := 2, ground := (Ground.gcOnly Departure.lateStores) }]).op, none⟩,
 ⟨(opAssign (some 6) (.tmp 142) 84 "atoi.go:128" #[eD 0, eP 0, { on := 1, ground := (Ground.textOnly Departure.lateStores) }]).op, none⟩,
 ⟨(opAssign (some 7) (.tmp 143) 73 "atoi.go:128" #[eD 1, eC 2, eP 0, eP 1, eP 2]).op, none⟩
 ] (by kernel_rfl)))
 (.live [6, 7] .ret))
 .skip))
 (.seq (.live [1, 8, 9, 10, 11, 12, 13, 16, 99, 100, 101] (.region 50 [
 ⟨(opMove (some 144) (.tmp 13) 84 "atoi.go:130" #[]).op, none⟩,
 ⟨(opMove (some 145) (.tmp 1) 3 "atoi.go:130" #[]).op, none⟩,
 ⟨(opConvInt (some 146) 3 84 (.tmp 145) (.int .i64) Tryd.underlying3 .u64 Tryd.underlying84 84 "atoi.go:130" #[eD 1]).op, none⟩,
 ⟨(opBin (some 147) .mul 84 (.tmp 144) (.tmp 146) 84 84 "atoi.go:130" #[eD 0, eD 2]).op, none⟩,
 ⟨(opAssign (some 13) (.tmp 147) 84 "atoi.go:130" #[eD 3, eP 0, eP 1, eP 2, eP 3]).op, none⟩
 ] (by kernel_rfl)))
 (.seq (.live [1, 8, 9, 10, 11, 12, 13, 17, 99, 100, 101] (.region 51 [
 ⟨(opMove (some 148) (.tmp 13) 84 "atoi.go:132" #[]).op, none⟩,
 ⟨(opMove (some 149) (.tmp 16) 5 "atoi.go:132" #[]).op, none⟩,
 ⟨(opConvInt (some 150) 5 84 (.tmp 149) (.int .u8) Tryd.underlying5 .u64 Tryd.underlying84 84 "atoi.go:132" #[eD 1]).op, none⟩,
 ⟨(opBin (some 151) .add 84 (.tmp 148) (.tmp 150) 84 84 "atoi.go:132" #[eD 0, eD 2]).op, none⟩,
 ⟨(opAssign (some 17) (.tmp 151) 84 "atoi.go:132" #[eD 3, eP 0, eP 1, eP 2, eP 3]).op, none⟩
 ] (by kernel_rfl)))
 (.seq (.seq (.live [1, 8, 9, 10, 11, 12, 17, 99, 100, 101, 159] (.region 52 [
 ⟨(opMove (some 152) (.tmp 17) 84 "atoi.go:133" #[]).op, none⟩,
 ⟨(opMove (some 153) (.tmp 13) 84 "atoi.go:133" #[]).op, none⟩,
 ⟨(opBin (some 154) .lss 84 (.tmp 152) (.tmp 153) 84 4 "atoi.go:133" #[eD 0, eD 1]).op, none⟩,
 ⟨(opMove (some 155) (.tmp 154) 4 "atoi.go:133" #[eD 2]).op, none⟩,
 ⟨(opMove (some 156) (.tmp 17) 84 "atoi.go:133" #[eG 3]).op, (some (3, 155, false))⟩,
 ⟨(opMove (some 157) (.tmp 11) 84 "atoi.go:133" #[eG 3]).op, (some (3, 155, false))⟩,
 ⟨(opBin (some 158) .gtr 84 (.tmp 156) (.tmp 157) 84 4 "atoi.go:133" #[eD 4, eD 5, eG 3]).op, (some (3, 155, false))⟩,
 ⟨(opPick (some 159) (.tmp 155) (.const (Value.bool true)) (.tmp 158) 4 "atoi.go:133" #[eD 3, eD 6]).op, none⟩
 ] (by kernel_rfl)))
 (.cond (.tmp 159)
 (.seq (.live [6, 7] (.region 53 [
 ⟨(opMove (some 160) (.tmp 11) 84 "atoi.go:135" #[]).op, none⟩,
 ⟨(opMakeIface (some 161) 99 (.const (Value.int IntKind.i64 1)) (.int .i64) Tryd.underlying99 (by kernel_rfl) 73 "atoi.go:135" #[{ on := 2, ground := (Ground.gcOnly Departure.lateStores) }]).op, none⟩,
 ⟨(opAssign (some 6) (.tmp 160) 84 "atoi.go:135" #[eD 0, eP 0, { on := 1, ground := (Ground.textOnly Departure.lateStores) }]).op, none⟩,
 ⟨(opAssign (some 7) (.tmp 161) 73 "atoi.go:135" #[eD 1, eC 2, eP 0, eP 1, eP 2]).op, none⟩
 ] (by kernel_rfl)))
 (.live [6, 7] .ret))
 .skip))
 (.live [1, 8, 9, 10, 11, 12, 13, 99, 100, 101] (.region 54 [
 ⟨(opMove (some 162) (.tmp 17) 84 "atoi.go:137" #[]).op, none⟩,
 ⟨(opAssign (some 13) (.tmp 162) 84 "atoi.go:137" #[eD 0, eP 0]).op, none⟩
 ] (by kernel_rfl))))))))))))
 (.live [1, 8, 9, 10, 11, 12, 13, 99, 100, 101] (.region 55 [
 ⟨(opBin (some 163) .add 3 (.tmp 101) (.const (Value.int IntKind.i64 1)) 3 3 "atoi.go:108" #[]).op, none⟩,
 ⟨(opMove (some 101) (.tmp 163) 3 "atoi.go:108" #[eD 0]).op, none⟩
 ] (by kernel_rfl))))))

/-- What follows a loop. -/
noncomputable def f90_r0 : Sim Tryd.prog :=
 (.seq (.seq (.live [13, 169] (.region 56 [
 ⟨(opMove (some 164) (.tmp 12) 4 "atoi.go:140" #[]).op, none⟩,
 ⟨(opMove (some 165) (.tmp 164) 4 "atoi.go:140" #[eD 0]).op, none⟩,
 ⟨(opMove (some 166) (.tmp 9) 9 "atoi.go:140" #[eG 1]).op, (some (1, 165, true))⟩,
 ⟨opCall (Orc.dead 100 Tryd.f100 Tryd.func100 (by kernel_rfl) (by kernel_rfl)) (some 167) [(.tmp 166)] #[9] 4 "atoi.go:140" #[eD 2, eC 1, eG 1], (some (1, 165, true))⟩,
 ⟨(opNot (some 168) 4 (.tmp 167) 4 "atoi.go:140" #[eD 3, eG 1]).op, (some (1, 165, true))⟩,
 ⟨(opPick (some 169) (.tmp 165) (.tmp 168) (.const (Value.bool false)) 4 "atoi.go:140" #[eD 1, eD 4]).op, none⟩
 ] (by kernel_rfl)))
 (.cond (.tmp 169)
 (.seq (.live [6, 7] (.region 57 [
 ⟨(opMakeIface (some 170) 99 (.const (Value.int IntKind.i64 2)) (.int .i64) Tryd.underlying99 (by kernel_rfl) 73 "atoi.go:141" #[{ on := 1, ground := (Ground.gcOnly Departure.lateStores) }]).op, none⟩,
 ⟨(opAssign (some 6) (.const (Value.int IntKind.u64 0)) 84 "atoi.go:141" #[{ on := 0, ground := (Ground.textOnly Departure.lateStores) }]).op, none⟩,
 ⟨(opAssign (some 7) (.tmp 170) 73 "atoi.go:141" #[eD 0, eC 1, eP 0, eP 1]).op, none⟩
 ] (by kernel_rfl)))
 (.live [6, 7] .ret))
 .skip))
 (.seq (.live [6, 7] (.region 58 [
 ⟨(opMove (some 171) (.tmp 13) 84 "atoi.go:144" #[]).op, none⟩,
 ⟨(opAssign (some 6) (.tmp 171) 84 "atoi.go:144" #[eD 0, eP 0]).op, none⟩,
 ⟨(opAssign (some 7) (.const Value.nilIface) 73 "atoi.go:144" #[eC 1, eP 0, eP 1]).op, none⟩
 ] (by kernel_rfl)))
 (.live [6, 7] .ret)))

noncomputable def f90_b : Sim Tryd.prog :=
 (.seq (.live [0, 1, 2] (.region 0 [
 ⟨(opAssign (some 6) (.const (Value.int IntKind.u64 0)) 84 "atoi.go:47" #[]).op, none⟩,
 ⟨(opAssign (some 7) (.const Value.nilIface) 73 "atoi.go:47" #[eC 0]).op, none⟩
 ] (by kernel_rfl)))
 (.seq (.seq (.live [0, 1, 2, 19] (.region 1 [
 ⟨(opMove (some 18) (.tmp 0) 9 "atoi.go:50" #[]).op, none⟩,
 ⟨(opBinS (some 19) .eql 9 (.tmp 18) (.const (Value.string { data := #[] })) 9 4 "atoi.go:50" #[eD 0]).op, none⟩
 ] (by kernel_rfl)))
 (.cond (.tmp 19)
 (.seq (.live [6, 7] (.region 2 [
 ⟨(opMakeIface (some 20) 99 (.const (Value.int IntKind.i64 2)) (.int .i64) Tryd.underlying99 (by kernel_rfl) 73 "atoi.go:51" #[{ on := 1, ground := (Ground.gcOnly Departure.lateStores) }]).op, none⟩,
 ⟨(opAssign (some 6) (.const (Value.int IntKind.u64 0)) 84 "atoi.go:51" #[{ on := 0, ground := (Ground.textOnly Departure.lateStores) }]).op, none⟩,
 ⟨(opAssign (some 7) (.tmp 20) 73 "atoi.go:51" #[eD 0, eC 1, eP 0, eP 1]).op, none⟩
 ] (by kernel_rfl)))
 (.live [6, 7] .ret))
 .skip))
 (.seq (.live [0, 1, 2, 8] (.region 3 [
 ⟨(opMove (some 21) (.tmp 1) 3 "atoi.go:54" #[]).op, none⟩,
 ⟨(opBin (some 22) .eql 3 (.tmp 21) (.const (Value.int IntKind.i64 0)) 3 4 "atoi.go:54" #[eD 0]).op, none⟩,
 ⟨(opAssign (some 8) (.tmp 22) 4 "atoi.go:54" #[eD 1, eP 0, eP 1]).op, none⟩
 ] (by kernel_rfl)))
 (.seq (.live [0, 1, 2, 8, 9] (.region 4 [
 ⟨(opMove (some 23) (.tmp 0) 9 "atoi.go:56" #[]).op, none⟩,
 ⟨(opAssign (some 9) (.tmp 23) 9 "atoi.go:56" #[eD 0, eP 0]).op, none⟩
 ] (by kernel_rfl)))
 (.seq (.block 0 (.seq (.live [0, 1, 2, 8, 9, 25] (.region 6 [
 ⟨(opMove (some 26) (.tmp 1) 3 "atoi.go:58" #[]).op, none⟩,
 ⟨(opBin (some 27) .leq 3 (.const (Value.int IntKind.i64 2)) (.tmp 26) 3 4 "atoi.go:58" #[eD 0]).op, none⟩,
 ⟨(opMove (some 28) (.tmp 27) 4 "atoi.go:58" #[eD 1]).op, none⟩,
 ⟨(opMove (some 29) (.tmp 1) 3 "atoi.go:58" #[eG 2]).op, (some (2, 28, true))⟩,
 ⟨(opBin (some 30) .leq 3 (.tmp 29) (.const (Value.int IntKind.i64 36)) 3 4 "atoi.go:58" #[eD 3, eG 2]).op, (some (2, 28, true))⟩,
 ⟨(opPick (some 31) (.tmp 28) (.tmp 30) (.const (Value.bool false)) 4 "atoi.go:58" #[eD 2, eD 4]).op, none⟩,
 ⟨(opAssign (some 25) (.tmp 31) 4 "atoi.go:58" #[eD 5, eC 2]).op, none⟩
 ] (by kernel_rfl)))
 (.cond (.tmp 25)
 .skip
 (.seq (.live [0, 2, 8, 9, 32] (.region 7 [
 ⟨(opMove (some 33) (.tmp 1) 3 "atoi.go:61" #[]).op, none⟩,
 ⟨(opBin (some 34) .eql 3 (.tmp 33) (.const (Value.int IntKind.i64 0)) 3 4 "atoi.go:61" #[eD 0]).op, none⟩,
 ⟨(opAssign (some 32) (.tmp 34) 4 "atoi.go:61" #[eD 1]).op, none⟩
 ] (by kernel_rfl)))
 (.cond (.tmp 32)
 (.seq (.live [0, 1, 2, 8, 9] (.region 8 [
 ⟨(opAssign (some 1) (.const (Value.int IntKind.i64 10)) 3 "atoi.go:63" #[]).op, none⟩
 ] (by kernel_rfl)))
 (.seq (.live [0, 1, 2, 8, 9, 37] (.region 9 [
 ⟨(opMove (some 35) (.tmp 0) 9 "atoi.go:64" #[]).op, none⟩,
 ⟨(opIndexStrW (some 36) 9 (.tmp 35) (.const (Value.int IntKind.i64 0)) Tryd.underlying9 5 "atoi.go:64" #[eD 0]).op, none⟩,
 ⟨(opBin (some 37) .eql 5 (.tmp 36) (.const (Value.int IntKind.u8 48)) 5 4 "atoi.go:64" #[eD 1]).op, none⟩
 ] (by kernel_rfl)))
 (.cond (.tmp 37)
 (.block 1 (.seq (.live [0, 2, 8, 9, 40] (.region 12 [
 ⟨(opMove (some 41) (.tmp 0) 9 "atoi.go:66" #[]).op, none⟩,
 ⟨(opLen (some 42) (.tmp 41) 9 .string Tryd.underlying9 3 "atoi.go:66" #[eD 0]).op, none⟩,
 ⟨(opBin (some 43) .geq 3 (.tmp 42) (.const (Value.int IntKind.i64 3)) 3 4 "atoi.go:66" #[eD 1]).op, none⟩,
 ⟨(opMove (some 44) (.tmp 43) 4 "atoi.go:66" #[eD 2]).op, none⟩,
 ⟨(opMove (some 45) (.tmp 0) 9 "atoi.go:66" #[eG 3]).op, (some (3, 44, true))⟩,
 ⟨(opIndexStrW (some 46) 9 (.tmp 45) (.const (Value.int IntKind.i64 1)) Tryd.underlying9 5 "atoi.go:66" #[eD 4, eG 3]).op, (some (3, 44, true))⟩,
 ⟨opCall (f99.orc 0) (some 47) [(.tmp 46)] #[5] 5 "atoi.go:66" #[eD 5, eC 3, eG 3], (some (3, 44, true))⟩,
 ⟨(opBin (some 48) .eql 5 (.tmp 47) (.const (Value.int IntKind.u8 98)) 5 4 "atoi.go:66" #[eD 6, eG 3]).op, (some (3, 44, true))⟩,
 ⟨(opPick (some 49) (.tmp 44) (.tmp 48) (.const (Value.bool false)) 4 "atoi.go:66" #[eD 3, eD 7]).op, none⟩,
 ⟨(opAssign (some 40) (.tmp 49) 4 "atoi.go:66" #[eD 8, eC 6]).op, none⟩
 ] (by kernel_rfl)))
 (.cond (.tmp 40)
 (.seq (.live [0, 1, 2, 8, 9] (.region 13 [
 ⟨(opAssign (some 1) (.const (Value.int IntKind.i64 2)) 3 "atoi.go:67" #[]).op, none⟩
 ] (by kernel_rfl)))
 (.live [0, 1, 2, 8, 9] (.region 14 [
 ⟨(opMove (some 50) (.tmp 0) 9 "atoi.go:68" #[]).op, none⟩,
 ⟨(opSliceStrW (some 51) 9 (.tmp 50) (some (.const (Value.int IntKind.i64 2))) none Tryd.underlying9 9 "atoi.go:68" #[eD 0]).op, none⟩,
 ⟨(opAssign (some 0) (.tmp 51) 9 "atoi.go:68" #[eD 1, eP 0, eP 1]).op, none⟩
 ] (by kernel_rfl))))
 (.seq (.live [0, 2, 8, 9, 52] (.region 15 [
 ⟨(opMove (some 53) (.tmp 0) 9 "atoi.go:69" #[]).op, none⟩,
 ⟨(opLen (some 54) (.tmp 53) 9 .string Tryd.underlying9 3 "atoi.go:69" #[eD 0]).op, none⟩,
 ⟨(opBin (some 55) .geq 3 (.tmp 54) (.const (Value.int IntKind.i64 3)) 3 4 "atoi.go:69" #[eD 1]).op, none⟩,
 ⟨(opMove (some 56) (.tmp 55) 4 "atoi.go:69" #[eD 2]).op, none⟩,
 ⟨(opMove (some 57) (.tmp 0) 9 "atoi.go:69" #[eG 3]).op, (some (3, 56, true))⟩,
 ⟨(opIndexStrW (some 58) 9 (.tmp 57) (.const (Value.int IntKind.i64 1)) Tryd.underlying9 5 "atoi.go:69" #[eD 4, eG 3]).op, (some (3, 56, true))⟩,
 ⟨opCall (f99.orc 0) (some 59) [(.tmp 58)] #[5] 5 "atoi.go:69" #[eD 5, eC 3, eG 3], (some (3, 56, true))⟩,
 ⟨(opBin (some 60) .eql 5 (.tmp 59) (.const (Value.int IntKind.u8 111)) 5 4 "atoi.go:69" #[eD 6, eG 3]).op, (some (3, 56, true))⟩,
 ⟨(opPick (some 61) (.tmp 56) (.tmp 60) (.const (Value.bool false)) 4 "atoi.go:69" #[eD 3, eD 7]).op, none⟩,
 ⟨(opAssign (some 52) (.tmp 61) 4 "atoi.go:69" #[eD 8, eC 6]).op, none⟩
 ] (by kernel_rfl)))
 (.cond (.tmp 52)
 (.seq (.live [0, 1, 2, 8, 9] (.region 16 [
 ⟨(opAssign (some 1) (.const (Value.int IntKind.i64 8)) 3 "atoi.go:70" #[]).op, none⟩
 ] (by kernel_rfl)))
 (.live [0, 1, 2, 8, 9] (.region 17 [
 ⟨(opMove (some 62) (.tmp 0) 9 "atoi.go:71" #[]).op, none⟩,
 ⟨(opSliceStrW (some 63) 9 (.tmp 62) (some (.const (Value.int IntKind.i64 2))) none Tryd.underlying9 9 "atoi.go:71" #[eD 0]).op, none⟩,
 ⟨(opAssign (some 0) (.tmp 63) 9 "atoi.go:71" #[eD 1, eP 0, eP 1]).op, none⟩
 ] (by kernel_rfl))))
 (.seq (.live [0, 2, 8, 9, 64] (.region 18 [
 ⟨(opMove (some 65) (.tmp 0) 9 "atoi.go:72" #[]).op, none⟩,
 ⟨(opLen (some 66) (.tmp 65) 9 .string Tryd.underlying9 3 "atoi.go:72" #[eD 0]).op, none⟩,
 ⟨(opBin (some 67) .geq 3 (.tmp 66) (.const (Value.int IntKind.i64 3)) 3 4 "atoi.go:72" #[eD 1]).op, none⟩,
 ⟨(opMove (some 68) (.tmp 67) 4 "atoi.go:72" #[eD 2]).op, none⟩,
 ⟨(opMove (some 69) (.tmp 0) 9 "atoi.go:72" #[eG 3]).op, (some (3, 68, true))⟩,
 ⟨(opIndexStrW (some 70) 9 (.tmp 69) (.const (Value.int IntKind.i64 1)) Tryd.underlying9 5 "atoi.go:72" #[eD 4, eG 3]).op, (some (3, 68, true))⟩,
 ⟨opCall (f99.orc 0) (some 71) [(.tmp 70)] #[5] 5 "atoi.go:72" #[eD 5, eC 3, eG 3], (some (3, 68, true))⟩,
 ⟨(opBin (some 72) .eql 5 (.tmp 71) (.const (Value.int IntKind.u8 120)) 5 4 "atoi.go:72" #[eD 6, eG 3]).op, (some (3, 68, true))⟩,
 ⟨(opPick (some 73) (.tmp 68) (.tmp 72) (.const (Value.bool false)) 4 "atoi.go:72" #[eD 3, eD 7]).op, none⟩,
 ⟨(opAssign (some 64) (.tmp 73) 4 "atoi.go:72" #[eD 8, eC 6]).op, none⟩
 ] (by kernel_rfl)))
 (.cond (.tmp 64)
 (.seq (.live [0, 1, 2, 8, 9] (.region 19 [
 ⟨(opAssign (some 1) (.const (Value.int IntKind.i64 16)) 3 "atoi.go:73" #[]).op, none⟩
 ] (by kernel_rfl)))
 (.live [0, 1, 2, 8, 9] (.region 20 [
 ⟨(opMove (some 74) (.tmp 0) 9 "atoi.go:74" #[]).op, none⟩,
 ⟨(opSliceStrW (some 75) 9 (.tmp 74) (some (.const (Value.int IntKind.i64 2))) none Tryd.underlying9 9 "atoi.go:74" #[eD 0]).op, none⟩,
 ⟨(opAssign (some 0) (.tmp 75) 9 "atoi.go:74" #[eD 1, eP 0, eP 1]).op, none⟩
 ] (by kernel_rfl))))
 (.seq (.live [0, 1, 2, 8, 9] (.region 10 [
 ⟨(opAssign (some 1) (.const (Value.int IntKind.i64 8)) 3 "atoi.go:76" #[]).op, none⟩
 ] (by kernel_rfl)))
 (.live [0, 1, 2, 8, 9] (.region 11 [
 ⟨(opMove (some 38) (.tmp 0) 9 "atoi.go:77" #[]).op, none⟩,
 ⟨(opSliceStrW (some 39) 9 (.tmp 38) (some (.const (Value.int IntKind.i64 1))) none Tryd.underlying9 9 "atoi.go:77" #[eD 0]).op, none⟩,
 ⟨(opAssign (some 0) (.tmp 39) 9 "atoi.go:77" #[eD 1, eP 0, eP 1]).op, none⟩
 ] (by kernel_rfl)))))))))))
 .skip)))
 (.seq (.live [6, 7] (.region 5 [
 ⟨(opMakeIface (some 24) 99 (.const (Value.int IntKind.i64 3)) (.int .i64) Tryd.underlying99 (by kernel_rfl) 73 "atoi.go:82" #[{ on := 1, ground := (Ground.gcOnly Departure.lateStores) }]).op, none⟩,
 ⟨(opAssign (some 6) (.const (Value.int IntKind.u64 0)) 84 "atoi.go:82" #[{ on := 0, ground := (Ground.textOnly Departure.lateStores) }]).op, none⟩,
 ⟨(opAssign (some 7) (.tmp 24) 73 "atoi.go:82" #[eD 0, eC 1, eP 0, eP 1]).op, none⟩
 ] (by kernel_rfl)))
 (.live [6, 7] .ret)))))))
 (.seq (.seq (.live [0, 1, 2, 8, 9, 77] (.region 21 [
 ⟨(opMove (some 76) (.tmp 2) 3 "atoi.go:85" #[]).op, none⟩,
 ⟨(opBin (some 77) .eql 3 (.tmp 76) (.const (Value.int IntKind.i64 0)) 3 4 "atoi.go:85" #[eD 0]).op, none⟩
 ] (by kernel_rfl)))
 (.cond (.tmp 77)
 (.live [0, 1, 2, 8, 9] (.region 22 [
 ⟨(opAssign (some 2) (.const (Value.int IntKind.i64 64)) 3 "atoi.go:86" #[]).op, none⟩
 ] (by kernel_rfl)))
 (.seq (.live [0, 1, 2, 8, 9, 83] (.region 23 [
 ⟨(opMove (some 78) (.tmp 2) 3 "atoi.go:87" #[]).op, none⟩,
 ⟨(opBin (some 79) .lss 3 (.tmp 78) (.const (Value.int IntKind.i64 0)) 3 4 "atoi.go:87" #[eD 0]).op, none⟩,
 ⟨(opMove (some 80) (.tmp 79) 4 "atoi.go:87" #[eD 1]).op, none⟩,
 ⟨(opMove (some 81) (.tmp 2) 3 "atoi.go:87" #[eG 2]).op, (some (2, 80, false))⟩,
 ⟨(opBin (some 82) .gtr 3 (.tmp 81) (.const (Value.int IntKind.i64 64)) 3 4 "atoi.go:87" #[eD 3, eG 2]).op, (some (2, 80, false))⟩,
 ⟨(opPick (some 83) (.tmp 80) (.const (Value.bool true)) (.tmp 82) 4 "atoi.go:87" #[eD 2, eD 4]).op, none⟩
 ] (by kernel_rfl)))
 (.cond (.tmp 83)
 (.seq (.live [6, 7] (.region 24 [
 ⟨(opMakeIface (some 84) 99 (.const (Value.int IntKind.i64 4)) (.int .i64) Tryd.underlying99 (by kernel_rfl) 73 "atoi.go:88" #[{ on := 1, ground := (Ground.gcOnly Departure.lateStores) }]).op, none⟩,
 ⟨(opAssign (some 6) (.const (Value.int IntKind.u64 0)) 84 "atoi.go:88" #[{ on := 0, ground := (Ground.textOnly Departure.lateStores) }]).op, none⟩,
 ⟨(opAssign (some 7) (.tmp 84) 73 "atoi.go:88" #[eD 0, eC 1, eP 0, eP 1]).op, none⟩
 ] (by kernel_rfl)))
 (.live [6, 7] .ret))
 .skip))))
 (.seq (.live [0, 1, 2, 8, 9] (.region 25 [
 ⟨(opAssign (some 10) (.const (Value.int IntKind.u64 0)) 84 "atoi.go:94" #[]).op, none⟩
 ] (by kernel_rfl)))
 (.seq (.seq (.live [0, 1, 2, 8, 9, 85] (.region 26 [
 ⟨(opMove (some 85) (.tmp 1) 3 "atoi.go:95" #[]).op, none⟩
 ] (by kernel_rfl)))
 (.block 2 (.seq (.live [0, 1, 2, 8, 9, 85, 90] (.region 28 [
 ⟨(opBin (some 91) .eql 3 (.tmp 85) (.const (Value.int IntKind.i64 10)) 3 4 "atoi.go:96" #[]).op, none⟩,
 ⟨(opAssign (some 90) (.tmp 91) 4 "atoi.go:96" #[eD 0]).op, none⟩
 ] (by kernel_rfl)))
 (.cond (.tmp 90)
 (.live [0, 1, 2, 8, 9, 10] (.region 29 [
 ⟨(opAssign (some 10) (.const (Value.int IntKind.u64 1844674407370955162)) 84 "atoi.go:97" #[]).op, none⟩
 ] (by kernel_rfl)))
 (.seq (.live [0, 1, 2, 8, 9, 92] (.region 30 [
 ⟨(opBin (some 93) .eql 3 (.tmp 85) (.const (Value.int IntKind.i64 16)) 3 4 "atoi.go:98" #[]).op, none⟩,
 ⟨(opAssign (some 92) (.tmp 93) 4 "atoi.go:98" #[eD 0]).op, none⟩
 ] (by kernel_rfl)))
 (.cond (.tmp 92)
 (.live [0, 1, 2, 8, 9, 10] (.region 31 [
 ⟨(opAssign (some 10) (.const (Value.int IntKind.u64 1152921504606846976)) 84 "atoi.go:99" #[]).op, none⟩
 ] (by kernel_rfl)))
 (.live [0, 1, 2, 8, 9, 10] (.region 27 [
 ⟨(opMove (some 86) (.tmp 1) 3 "atoi.go:101" #[]).op, none⟩,
 ⟨(opConvInt (some 87) 3 84 (.tmp 86) (.int .i64) Tryd.underlying3 .u64 Tryd.underlying84 84 "atoi.go:101" #[eD 0]).op, none⟩,
 ⟨(opBin (some 88) .quo 84 (.const (Value.int IntKind.u64 18446744073709551615)) (.tmp 87) 84 84 "atoi.go:101" #[eD 1]).op, none⟩,
 ⟨(opBin (some 89) .add 84 (.tmp 88) (.const (Value.int IntKind.u64 1)) 84 84 "atoi.go:101" #[eD 2]).op, none⟩,
 ⟨(opAssign (some 10) (.tmp 89) 84 "atoi.go:101" #[eD 3, eP 0, eP 1, eP 2, eP 3]).op, none⟩
 ] (by kernel_rfl)))))))))
 (.seq (.live [0, 1, 8, 9, 10, 11] (.region 32 [
 ⟨(opMove (some 94) (.tmp 2) 3 "atoi.go:104" #[]).op, none⟩,
 ⟨(opConvInt (some 95) 3 80 (.tmp 94) (.int .i64) Tryd.underlying3 .u64 Tryd.underlying80 80 "atoi.go:104" #[eD 0]).op, none⟩,
 ⟨(opBin (some 96) .shl 84 (.const (Value.int IntKind.u64 1)) (.tmp 95) 80 84 "atoi.go:104" #[eD 1]).op, none⟩,
 ⟨(opBin (some 97) .sub 84 (.tmp 96) (.const (Value.int IntKind.u64 1)) 84 84 "atoi.go:104" #[eD 2]).op, none⟩,
 ⟨(opAssign (some 11) (.tmp 97) 84 "atoi.go:104" #[eD 3, eP 0, eP 1, eP 2, eP 3]).op, none⟩
 ] (by kernel_rfl)))
 (.seq (.live [0, 1, 8, 9, 10, 11, 12] (.region 33 [
 ⟨(opAssign (some 12) (.const (Value.bool false)) 4 "atoi.go:106" #[]).op, none⟩
 ] (by kernel_rfl)))
 (.seq (.live [0, 1, 8, 9, 10, 11, 12, 13] (.region 34 [
 ⟨(opAssign (some 13) (.const (Value.int IntKind.u64 0)) 84 "atoi.go:107" #[]).op, none⟩
 ] (by kernel_rfl)))
 (.seq (.seq (.live [1, 8, 9, 10, 11, 12, 13, 99, 100, 101] (.region 35 [
 ⟨(opMove (some 98) (.tmp 0) 9 "atoi.go:108" #[]).op, none⟩,
 ⟨(opStrBytes (some 99) 9 46 (.tmp 98) 5 Tryd.underlying9 Tryd.underlying46 Tryd.underlying5 46 "atoi.go:108" #[eD 0]).op, none⟩,
 ⟨(opLen (some 100) (.tmp 99) 46 (.slice 5) Tryd.underlying46 3 "atoi.go:108" #[eD 1]).op, none⟩,
 ⟨(opMove (some 101) (.const (Value.int IntKind.i64 0)) 3 "atoi.go:108" #[]).op, none⟩
 ] (by kernel_rfl)))
 (.block 3 (.loop [1, 8, 9, 10, 11, 12, 13, 99, 100, 101] f90_l0)))
 f90_r0))))))))))))

noncomputable def f90 : Fun Tryd.prog where
 id := 90
 fn := Tryd.f90
 hf := Tryd.func90
 hname := by kernel_rfl
 body := f90_b
 hbody := by kernel_rfl
 res := [rTmp 6, rTmp 7]
 hres := by kernel_rfl
 n := 172
 hn := by kernel_rfl

end Go.Proofs.YtcfedmheblbdnaaDoor.V

/- What the functions' runs come to; the right sides were printed by a tool, Lean checks them. -/
set_option linter.unusedVariables false
set_option maxRecDepth 100000
namespace Go.Proofs.YtcfedmheblbdnaaDoor.V
open Go Go.V Go.RowKit

theorem pu_run (F : Nat) (s : ByteArray) (st : St) :
 (f90.run F [.str s, .int .i64 10, .int .i64 0] st : Ans) =
 branch (AV.bool (s.toList == []))
 (some (Fin.ret (AV.tup [AV.int IntKind.u64 (0 : Int), AV.ifc 99 (AV.int IntKind.i64 (2 : Int))]), st))
 (loopRun (f90_l0.run F)
 [1, 8, 9, 10, 11, 12, 13, 99, 100,
 101]
 (Cont.block 3 (Cont.then (f90_r0.run F (f90.leaveK Fun.done)) (f90.leaveK Fun.done))) F
 (Env.mk 172
 [(1, AV.int IntKind.i64 (10 : Int)), (8, AV.bool false), (9, AV.str s),
 (10, AV.int IntKind.u64 (1844674407370955162 : Int)),
 (11, AV.int IntKind.u64 (18446744073709551615 : Int)), (12, AV.bool false),
 (13, AV.int IntKind.u64 (0 : Int)), (99, AV.sl 1 false (rowsOfStr s)),
 (100, AV.int IntKind.i64 (↑(rowsOfStr s).length : Int)), (101, AV.int IntKind.i64 (0 : Int))])
 st) := by kernel_rfl

theorem pu_round (F m : Nat) (K : Cont) (s : AV) (n i : Int) (l : List (List AV)) (st : St) :
 (loopRun (f90_l0.run F) [1, 8, 9, 10, 11, 12, 13, 99, 100, 101] K m.succ (Env.mk 172 [(1, .int .i64 10), (8, .bool false), (9, s), (10, .int .u64 1844674407370955162), (11, .int .u64 18446744073709551615), (12, .bool false), (13, .int .u64 n), (99, .sl 1 false l), (100, .int .i64 (l.length : Int)), (101, .int .i64 i)]) st : Ans) =
 branch (AV.bool (decide (i < (↑l.length : Int))))
 (branch (AV.bool (inR l i))
 (branch (AV.bool ((LD.one (LT.int IntKind.u8)).is (V.rowAt l i)))
 (branch (AV.bool (hdI (V.rowAt l i) == (95 : Int)))
 (branch (AV.bool (decide ((48 : Int) ≤ hdI (V.rowAt l i))))
 (branch (AV.bool (decide (hdI (V.rowAt l i) ≤ (57 : Int))))
 (branch (AV.bool (decide (IntKind.u8.wrap (hdI (V.rowAt l i) - (48 : Int)) ≥ (10 : Int))))
 (K AX.ret
 (Env.mk 172
 [(6, AV.int IntKind.u64 (0 : Int)),
 (7, AV.ifc 99 (AV.int IntKind.i64 (2 : Int)))])
 st)
 (branch (AV.bool (decide (n ≥ (1844674407370955162 : Int))))
 (K AX.ret
 (Env.mk 172
 [(6, AV.int IntKind.u64 (18446744073709551615 : Int)),
 (7, AV.ifc 99 (AV.int IntKind.i64 (1 : Int)))])
 st)
 (branch
 (AV.bool
 (decide
 (IntKind.u64.wrap
 (IntKind.u64.wrap (n * (10 : Int)) +
 IntKind.u64.wrap (IntKind.u8.wrap (hdI (V.rowAt l i) - (48 : Int)))) <
 IntKind.u64.wrap (n * (10 : Int)))))
 (K AX.ret
 (Env.mk 172
 [(6, AV.int IntKind.u64 (18446744073709551615 : Int)),
 (7, AV.ifc 99 (AV.int IntKind.i64 (1 : Int)))])
 st)
 (branch
 (AV.bool
 (decide
 (IntKind.u64.wrap
 (IntKind.u64.wrap (n * (10 : Int)) +
 IntKind.u64.wrap (IntKind.u8.wrap (hdI (V.rowAt l i) - (48 : Int)))) >
 (18446744073709551615 : Int))))
 (K AX.ret
 (Env.mk 172
 [(6, AV.int IntKind.u64 (18446744073709551615 : Int)),
 (7, AV.ifc 99 (AV.int IntKind.i64 (1 : Int)))])
 st)
 (loopRun (f90_l0.run F)
 [1, 8, 9, 10, 11, 12, 13, 99,
 100, 101]
 K m
 (Env.mk 172
 [(1, AV.int IntKind.i64 (10 : Int)), (8, AV.bool false), (9, s),
 (10, AV.int IntKind.u64 (1844674407370955162 : Int)),
 (11, AV.int IntKind.u64 (18446744073709551615 : Int)), (12, AV.bool false),
 (13,
 AV.int IntKind.u64
 (IntKind.u64.wrap
 (IntKind.u64.wrap (n * (10 : Int)) +
 IntKind.u64.wrap (IntKind.u8.wrap (hdI (V.rowAt l i) - (48 : Int)))))),
 (99, AV.sl 1 false l), (100, AV.int IntKind.i64 (↑l.length : Int)),
 (101, AV.int IntKind.i64 (IntKind.i64.wrap (i + (1 : Int))))])
 st)))))
 (branch (AV.bool (decide ((97 : Int) ≤ bitsI BinOp.or IntKind.u8 (hdI (V.rowAt l i)) (32 : Int))))
 (branch (AV.bool (decide (bitsI BinOp.or IntKind.u8 (hdI (V.rowAt l i)) (32 : Int) ≤ (122 : Int))))
 (branch
 (AV.bool
 (decide
 (IntKind.u8.wrap
 (IntKind.u8.wrap (bitsI BinOp.or IntKind.u8 (hdI (V.rowAt l i)) (32 : Int) - (97 : Int)) +
 (10 : Int)) ≥
 (10 : Int))))
 (K AX.ret
 (Env.mk 172
 [(6, AV.int IntKind.u64 (0 : Int)),
 (7, AV.ifc 99 (AV.int IntKind.i64 (2 : Int)))])
 st)
 (branch (AV.bool (decide (n ≥ (1844674407370955162 : Int))))
 (K AX.ret
 (Env.mk 172
 [(6, AV.int IntKind.u64 (18446744073709551615 : Int)),
 (7, AV.ifc 99 (AV.int IntKind.i64 (1 : Int)))])
 st)
 (branch
 (AV.bool
 (decide
 (IntKind.u64.wrap
 (IntKind.u64.wrap (n * (10 : Int)) +
 IntKind.u64.wrap
 (IntKind.u8.wrap
 (IntKind.u8.wrap
 (bitsI BinOp.or IntKind.u8 (hdI (V.rowAt l i)) (32 : Int) - (97 : Int)) +
 (10 : Int)))) <
 IntKind.u64.wrap (n * (10 : Int)))))
 (K AX.ret
 (Env.mk 172
 [(6, AV.int IntKind.u64 (18446744073709551615 : Int)),
 (7, AV.ifc 99 (AV.int IntKind.i64 (1 : Int)))])
 st)
 (branch
 (AV.bool
 (decide
 (IntKind.u64.wrap
 (IntKind.u64.wrap (n * (10 : Int)) +
 IntKind.u64.wrap
 (IntKind.u8.wrap
 (IntKind.u8.wrap
 (bitsI BinOp.or IntKind.u8 (hdI (V.rowAt l i)) (32 : Int) - (97 : Int)) +
 (10 : Int)))) >
 (18446744073709551615 : Int))))
 (K AX.ret
 (Env.mk 172
 [(6, AV.int IntKind.u64 (18446744073709551615 : Int)),
 (7, AV.ifc 99 (AV.int IntKind.i64 (1 : Int)))])
 st)
 (loopRun (f90_l0.run F)
 [1, 8, 9, 10, 11, 12, 13, 99,
 100, 101]
 K m
 (Env.mk 172
 [(1, AV.int IntKind.i64 (10 : Int)), (8, AV.bool false), (9, s),
 (10, AV.int IntKind.u64 (1844674407370955162 : Int)),
 (11, AV.int IntKind.u64 (18446744073709551615 : Int)),
 (12, AV.bool false),
 (13,
 AV.int IntKind.u64
 (IntKind.u64.wrap
 (IntKind.u64.wrap (n * (10 : Int)) +
 IntKind.u64.wrap
 (IntKind.u8.wrap
 (IntKind.u8.wrap
 (bitsI BinOp.or IntKind.u8 (hdI (V.rowAt l i)) (32 : Int) - (97 : Int)) +
 (10 : Int)))))),
 (99, AV.sl 1 false l),
 (100, AV.int IntKind.i64 (↑l.length : Int)),
 (101, AV.int IntKind.i64 (IntKind.i64.wrap (i + (1 : Int))))])
 st)))))
 (K AX.ret
 (Env.mk 172
 [(6, AV.int IntKind.u64 (0 : Int)),
 (7, AV.ifc 99 (AV.int IntKind.i64 (2 : Int)))])
 st))
 (K AX.ret
 (Env.mk 172
 [(6, AV.int IntKind.u64 (0 : Int)),
 (7, AV.ifc 99 (AV.int IntKind.i64 (2 : Int)))])
 st)))
 (branch (AV.bool (decide ((97 : Int) ≤ bitsI BinOp.or IntKind.u8 (hdI (V.rowAt l i)) (32 : Int))))
 (branch (AV.bool (decide (bitsI BinOp.or IntKind.u8 (hdI (V.rowAt l i)) (32 : Int) ≤ (122 : Int))))
 (branch
 (AV.bool
 (decide
 (IntKind.u8.wrap
 (IntKind.u8.wrap (bitsI BinOp.or IntKind.u8 (hdI (V.rowAt l i)) (32 : Int) - (97 : Int)) +
 (10 : Int)) ≥
 (10 : Int))))
 (K AX.ret
 (Env.mk 172
 [(6, AV.int IntKind.u64 (0 : Int)),
 (7, AV.ifc 99 (AV.int IntKind.i64 (2 : Int)))])
 st)
 (branch (AV.bool (decide (n ≥ (1844674407370955162 : Int))))
 (K AX.ret
 (Env.mk 172
 [(6, AV.int IntKind.u64 (18446744073709551615 : Int)),
 (7, AV.ifc 99 (AV.int IntKind.i64 (1 : Int)))])
 st)
 (branch
 (AV.bool
 (decide
 (IntKind.u64.wrap
 (IntKind.u64.wrap (n * (10 : Int)) +
 IntKind.u64.wrap
 (IntKind.u8.wrap
 (IntKind.u8.wrap
 (bitsI BinOp.or IntKind.u8 (hdI (V.rowAt l i)) (32 : Int) - (97 : Int)) +
 (10 : Int)))) <
 IntKind.u64.wrap (n * (10 : Int)))))
 (K AX.ret
 (Env.mk 172
 [(6, AV.int IntKind.u64 (18446744073709551615 : Int)),
 (7, AV.ifc 99 (AV.int IntKind.i64 (1 : Int)))])
 st)
 (branch
 (AV.bool
 (decide
 (IntKind.u64.wrap
 (IntKind.u64.wrap (n * (10 : Int)) +
 IntKind.u64.wrap
 (IntKind.u8.wrap
 (IntKind.u8.wrap
 (bitsI BinOp.or IntKind.u8 (hdI (V.rowAt l i)) (32 : Int) - (97 : Int)) +
 (10 : Int)))) >
 (18446744073709551615 : Int))))
 (K AX.ret
 (Env.mk 172
 [(6, AV.int IntKind.u64 (18446744073709551615 : Int)),
 (7, AV.ifc 99 (AV.int IntKind.i64 (1 : Int)))])
 st)
 (loopRun (f90_l0.run F)
 [1, 8, 9, 10, 11, 12, 13, 99,
 100, 101]
 K m
 (Env.mk 172
 [(1, AV.int IntKind.i64 (10 : Int)), (8, AV.bool false), (9, s),
 (10, AV.int IntKind.u64 (1844674407370955162 : Int)),
 (11, AV.int IntKind.u64 (18446744073709551615 : Int)), (12, AV.bool false),
 (13,
 AV.int IntKind.u64
 (IntKind.u64.wrap
 (IntKind.u64.wrap (n * (10 : Int)) +
 IntKind.u64.wrap
 (IntKind.u8.wrap
 (IntKind.u8.wrap
 (bitsI BinOp.or IntKind.u8 (hdI (V.rowAt l i)) (32 : Int) - (97 : Int)) +
 (10 : Int)))))),
 (99, AV.sl 1 false l), (100, AV.int IntKind.i64 (↑l.length : Int)),
 (101, AV.int IntKind.i64 (IntKind.i64.wrap (i + (1 : Int))))])
 st)))))
 (K AX.ret
 (Env.mk 172
 [(6, AV.int IntKind.u64 (0 : Int)),
 (7, AV.ifc 99 (AV.int IntKind.i64 (2 : Int)))])
 st))
 (K AX.ret
 (Env.mk 172
 [(6, AV.int IntKind.u64 (0 : Int)),
 (7, AV.ifc 99 (AV.int IntKind.i64 (2 : Int)))])
 st)))
 (branch (AV.bool (decide ((48 : Int) ≤ hdI (V.rowAt l i))))
 (branch (AV.bool (decide (hdI (V.rowAt l i) ≤ (57 : Int))))
 (branch (AV.bool (decide (IntKind.u8.wrap (hdI (V.rowAt l i) - (48 : Int)) ≥ (10 : Int))))
 (K AX.ret
 (Env.mk 172
 [(6, AV.int IntKind.u64 (0 : Int)),
 (7, AV.ifc 99 (AV.int IntKind.i64 (2 : Int)))])
 st)
 (branch (AV.bool (decide (n ≥ (1844674407370955162 : Int))))
 (K AX.ret
 (Env.mk 172
 [(6, AV.int IntKind.u64 (18446744073709551615 : Int)),
 (7, AV.ifc 99 (AV.int IntKind.i64 (1 : Int)))])
 st)
 (branch
 (AV.bool
 (decide
 (IntKind.u64.wrap
 (IntKind.u64.wrap (n * (10 : Int)) +
 IntKind.u64.wrap (IntKind.u8.wrap (hdI (V.rowAt l i) - (48 : Int)))) <
 IntKind.u64.wrap (n * (10 : Int)))))
 (K AX.ret
 (Env.mk 172
 [(6, AV.int IntKind.u64 (18446744073709551615 : Int)),
 (7, AV.ifc 99 (AV.int IntKind.i64 (1 : Int)))])
 st)
 (branch
 (AV.bool
 (decide
 (IntKind.u64.wrap
 (IntKind.u64.wrap (n * (10 : Int)) +
 IntKind.u64.wrap (IntKind.u8.wrap (hdI (V.rowAt l i) - (48 : Int)))) >
 (18446744073709551615 : Int))))
 (K AX.ret
 (Env.mk 172
 [(6, AV.int IntKind.u64 (18446744073709551615 : Int)),
 (7, AV.ifc 99 (AV.int IntKind.i64 (1 : Int)))])
 st)
 (loopRun (f90_l0.run F)
 [1, 8, 9, 10, 11, 12, 13, 99,
 100, 101]
 K m
 (Env.mk 172
 [(1, AV.int IntKind.i64 (10 : Int)), (8, AV.bool false), (9, s),
 (10, AV.int IntKind.u64 (1844674407370955162 : Int)),
 (11, AV.int IntKind.u64 (18446744073709551615 : Int)), (12, AV.bool false),
 (13,
 AV.int IntKind.u64
 (IntKind.u64.wrap
 (IntKind.u64.wrap (n * (10 : Int)) +
 IntKind.u64.wrap (IntKind.u8.wrap (hdI (V.rowAt l i) - (48 : Int)))))),
 (99, AV.sl 1 false l), (100, AV.int IntKind.i64 (↑l.length : Int)),
 (101, AV.int IntKind.i64 (IntKind.i64.wrap (i + (1 : Int))))])
 st)))))
 (branch (AV.bool (decide ((97 : Int) ≤ bitsI BinOp.or IntKind.u8 (hdI (V.rowAt l i)) (32 : Int))))
 (branch (AV.bool (decide (bitsI BinOp.or IntKind.u8 (hdI (V.rowAt l i)) (32 : Int) ≤ (122 : Int))))
 (branch
 (AV.bool
 (decide
 (IntKind.u8.wrap
 (IntKind.u8.wrap (bitsI BinOp.or IntKind.u8 (hdI (V.rowAt l i)) (32 : Int) - (97 : Int)) +
 (10 : Int)) ≥
 (10 : Int))))
 (K AX.ret
 (Env.mk 172
 [(6, AV.int IntKind.u64 (0 : Int)),
 (7, AV.ifc 99 (AV.int IntKind.i64 (2 : Int)))])
 st)
 (branch (AV.bool (decide (n ≥ (1844674407370955162 : Int))))
 (K AX.ret
 (Env.mk 172
 [(6, AV.int IntKind.u64 (18446744073709551615 : Int)),
 (7, AV.ifc 99 (AV.int IntKind.i64 (1 : Int)))])
 st)
 (branch
 (AV.bool
 (decide
 (IntKind.u64.wrap
 (IntKind.u64.wrap (n * (10 : Int)) +
 IntKind.u64.wrap
 (IntKind.u8.wrap
 (IntKind.u8.wrap
 (bitsI BinOp.or IntKind.u8 (hdI (V.rowAt l i)) (32 : Int) - (97 : Int)) +
 (10 : Int)))) <
 IntKind.u64.wrap (n * (10 : Int)))))
 (K AX.ret
 (Env.mk 172
 [(6, AV.int IntKind.u64 (18446744073709551615 : Int)),
 (7, AV.ifc 99 (AV.int IntKind.i64 (1 : Int)))])
 st)
 (branch
 (AV.bool
 (decide
 (IntKind.u64.wrap
 (IntKind.u64.wrap (n * (10 : Int)) +
 IntKind.u64.wrap
 (IntKind.u8.wrap
 (IntKind.u8.wrap
 (bitsI BinOp.or IntKind.u8 (hdI (V.rowAt l i)) (32 : Int) - (97 : Int)) +
 (10 : Int)))) >
 (18446744073709551615 : Int))))
 (K AX.ret
 (Env.mk 172
 [(6, AV.int IntKind.u64 (18446744073709551615 : Int)),
 (7, AV.ifc 99 (AV.int IntKind.i64 (1 : Int)))])
 st)
 (loopRun (f90_l0.run F)
 [1, 8, 9, 10, 11, 12, 13, 99,
 100, 101]
 K m
 (Env.mk 172
 [(1, AV.int IntKind.i64 (10 : Int)), (8, AV.bool false), (9, s),
 (10, AV.int IntKind.u64 (1844674407370955162 : Int)),
 (11, AV.int IntKind.u64 (18446744073709551615 : Int)),
 (12, AV.bool false),
 (13,
 AV.int IntKind.u64
 (IntKind.u64.wrap
 (IntKind.u64.wrap (n * (10 : Int)) +
 IntKind.u64.wrap
 (IntKind.u8.wrap
 (IntKind.u8.wrap
 (bitsI BinOp.or IntKind.u8 (hdI (V.rowAt l i)) (32 : Int) - (97 : Int)) +
 (10 : Int)))))),
 (99, AV.sl 1 false l),
 (100, AV.int IntKind.i64 (↑l.length : Int)),
 (101, AV.int IntKind.i64 (IntKind.i64.wrap (i + (1 : Int))))])
 st)))))
 (K AX.ret
 (Env.mk 172
 [(6, AV.int IntKind.u64 (0 : Int)),
 (7, AV.ifc 99 (AV.int IntKind.i64 (2 : Int)))])
 st))
 (K AX.ret
 (Env.mk 172
 [(6, AV.int IntKind.u64 (0 : Int)),
 (7, AV.ifc 99 (AV.int IntKind.i64 (2 : Int)))])
 st)))
 (branch (AV.bool (decide ((97 : Int) ≤ bitsI BinOp.or IntKind.u8 (hdI (V.rowAt l i)) (32 : Int))))
 (branch (AV.bool (decide (bitsI BinOp.or IntKind.u8 (hdI (V.rowAt l i)) (32 : Int) ≤ (122 : Int))))
 (branch
 (AV.bool
 (decide
 (IntKind.u8.wrap
 (IntKind.u8.wrap (bitsI BinOp.or IntKind.u8 (hdI (V.rowAt l i)) (32 : Int) - (97 : Int)) +
 (10 : Int)) ≥
 (10 : Int))))
 (K AX.ret
 (Env.mk 172
 [(6, AV.int IntKind.u64 (0 : Int)),
 (7, AV.ifc 99 (AV.int IntKind.i64 (2 : Int)))])
 st)
 (branch (AV.bool (decide (n ≥ (1844674407370955162 : Int))))
 (K AX.ret
 (Env.mk 172
 [(6, AV.int IntKind.u64 (18446744073709551615 : Int)),
 (7, AV.ifc 99 (AV.int IntKind.i64 (1 : Int)))])
 st)
 (branch
 (AV.bool
 (decide
 (IntKind.u64.wrap
 (IntKind.u64.wrap (n * (10 : Int)) +
 IntKind.u64.wrap
 (IntKind.u8.wrap
 (IntKind.u8.wrap
 (bitsI BinOp.or IntKind.u8 (hdI (V.rowAt l i)) (32 : Int) - (97 : Int)) +
 (10 : Int)))) <
 IntKind.u64.wrap (n * (10 : Int)))))
 (K AX.ret
 (Env.mk 172
 [(6, AV.int IntKind.u64 (18446744073709551615 : Int)),
 (7, AV.ifc 99 (AV.int IntKind.i64 (1 : Int)))])
 st)
 (branch
 (AV.bool
 (decide
 (IntKind.u64.wrap
 (IntKind.u64.wrap (n * (10 : Int)) +
 IntKind.u64.wrap
 (IntKind.u8.wrap
 (IntKind.u8.wrap
 (bitsI BinOp.or IntKind.u8 (hdI (V.rowAt l i)) (32 : Int) - (97 : Int)) +
 (10 : Int)))) >
 (18446744073709551615 : Int))))
 (K AX.ret
 (Env.mk 172
 [(6, AV.int IntKind.u64 (18446744073709551615 : Int)),
 (7, AV.ifc 99 (AV.int IntKind.i64 (1 : Int)))])
 st)
 (loopRun (f90_l0.run F)
 [1, 8, 9, 10, 11, 12, 13, 99,
 100, 101]
 K m
 (Env.mk 172
 [(1, AV.int IntKind.i64 (10 : Int)), (8, AV.bool false), (9, s),
 (10, AV.int IntKind.u64 (1844674407370955162 : Int)),
 (11, AV.int IntKind.u64 (18446744073709551615 : Int)), (12, AV.bool false),
 (13,
 AV.int IntKind.u64
 (IntKind.u64.wrap
 (IntKind.u64.wrap (n * (10 : Int)) +
 IntKind.u64.wrap
 (IntKind.u8.wrap
 (IntKind.u8.wrap
 (bitsI BinOp.or IntKind.u8 (hdI (V.rowAt l i)) (32 : Int) - (97 : Int)) +
 (10 : Int)))))),
 (99, AV.sl 1 false l), (100, AV.int IntKind.i64 (↑l.length : Int)),
 (101, AV.int IntKind.i64 (IntKind.i64.wrap (i + (1 : Int))))])
 st)))))
 (K AX.ret
 (Env.mk 172
 [(6, AV.int IntKind.u64 (0 : Int)),
 (7, AV.ifc 99 (AV.int IntKind.i64 (2 : Int)))])
 st))
 (K AX.ret
 (Env.mk 172
 [(6, AV.int IntKind.u64 (0 : Int)),
 (7, AV.ifc 99 (AV.int IntKind.i64 (2 : Int)))])
 st))))
 none)
 none)
 (K (AX.exit 3)
 (Env.mk 172 [(9, s), (12, AV.bool false), (13, AV.int IntKind.u64 n)]) st) := by kernel_rfl

theorem pu_out (F : Nat) (n : Int) (s : AV) (st : St) :
 ((Cont.block 3 (Cont.then (f90_r0.run F (f90.leaveK Fun.done)) (f90.leaveK Fun.done))) (.exit 3) (Env.mk 172 [(9, s), (12, .bool false), (13, .int .u64 n)]) st : Ans) =
 some (Fin.ret (AV.tup [AV.int IntKind.u64 n, AV.nilif]), st) := by kernel_rfl

theorem pu_ret (F : Nat) (u e : AV) (st : St) :
 ((Cont.block 3 (Cont.then (f90_r0.run F (f90.leaveK Fun.done)) (f90.leaveK Fun.done))) .ret (Env.mk 172 [(6, u), (7, e)]) st : Ans) =
 some (Fin.ret (AV.tup [u, e]), st) := by kernel_rfl

end Go.Proofs.YtcfedmheblbdnaaDoor.V

/- Values: ParseUint to the base ten, as a callee. -/
set_option linter.unusedVariables false
namespace Go.Proofs.YtcfedmheblbdnaaDoor.V
open Go Go.V Go.RowKit

/-- A number of digits: its value, and what was wrong (0: nothing, 1: too great, 2: no digit). -/
def puF : List Nat → Nat → Nat × Nat
  | [], n => (n, 0)
  | c :: r, n => if 48 ≤ c ∧ c ≤ 57 then if 1844674407370955162 ≤ n ∨ 18446744073709551616 ≤ n * 10 + (c - 48) then (18446744073709551615, 1) else puF r (n * 10 + (c - 48)) else (0, 2)
def errA (e : Nat) : AV := if e = 0 then .nilif else .ifc 99 (.int .i64 (e : Int))
def puA (x : Nat × Nat) : AV := .tup [.int .u64 (x.1 : Int), errA x.2]
noncomputable def puK (F : Nat) : Cont := Cont.block 3 (Cont.then (f90_r0.run F (f90.leaveK Fun.done)) (f90.leaveK Fun.done))
theorem pu_all (F : Nat) (s : AV) (L : List Nat) (hb : ∀ b ∈ L, b < 256) (hl : L.length ≤ 100000) (st : St) : ∀ (k i m n : Nat), i + k = L.length → k < m → n < 18446744073709551616 →
    loopRun (f90_l0.run F) [1, 8, 9, 10, 11, 12, 13, 99, 100, 101] (puK F) m (Env.mk 172 [(1, .int .i64 10), (8, .bool false), (9, s), (10, .int .u64 1844674407370955162), (11, .int .u64 18446744073709551615), (12, .bool false), (13, .int .u64 (n : Int)), (99, .sl 1 false (bR L)), (100, .int .i64 ((bR L).length : Int)), (101, .int .i64 (i : Int))]) st
      = some (.ret (puA (puF (L.drop i) n)), st)
  | k, i, 0, n, _, h, _ => by omega
  | 0, i, m + 1, n, h, _, hn => by
    have hl2 := bR_length L
    rw [show m + 1 = m.succ from rfl, pu_round, branch_not (decide_eq_false (by omega)), puK, pu_out, List.drop_eq_nil_of_le (by omega)]
    rfl
  | k + 1, i, m + 1, n, h, hm, hn => by
    have hl2 := bR_length L
    have hi : i < (bR L).length := by omega
    have hiL : i < L.length := by omega
    have hrow : (bR L)[i] = [.int .u8 ((L[i] : Nat) : Int)] := by simp [bR]
    have h256 := hb _ (List.getElem_mem hiL)
    have hw : IntKind.i64.wrap ((i : Int) + 1) = ((i + 1 : Nat) : Int) := by rw [wrapS (by omega) (by omega)]; omega
    have ih := fun n' hn' => pu_all F s L hb hl st k (i + 1) m n' (by omega) (by omega) hn'
    rw [show m + 1 = m.succ from rfl, pu_round, branch_of (decide_eq_true (by omega)), branch_of (inR_nat hi), rowAt_nat hi, hrow, branch_of (show (LD.one (LT.int IntKind.u8)).is [AV.int IntKind.u8 ((L[i] : Nat) : Int)] = true from rfl), hw, List.drop_eq_getElem_cons hiL, puF]
    rw [show hdI [AV.int IntKind.u8 ((L[i] : Nat) : Int)] = ((L[i] : Nat) : Int) from rfl]
    generalize L[i] = c at *
    by_cases h95 : c = 95
    · subst h95
      rw [if_neg (by omega), branch_of (by rfl), branch_of (decide_eq_true (by omega)), branch_not (decide_eq_false (by omega)), branch_of (by rfl), branch_not (by rfl), puK, pu_ret]; rfl
    · rw [branch_not (show (((c : Nat) : Int) == 95) = false by rw [beq_eq_false_iff_ne]; omega)]
      have syn : ∀ (A B C : Ans), C = some (.ret (puA (0, 2)), st) → branch (AV.bool (decide ((97 : Int) ≤ bitsI BinOp.or IntKind.u8 (c : Int) (32 : Int)))) (branch (AV.bool (decide (bitsI BinOp.or IntKind.u8 (c : Int) (32 : Int) ≤ (122 : Int)))) (branch (AV.bool (decide (IntKind.u8.wrap (IntKind.u8.wrap (bitsI BinOp.or IntKind.u8 (c : Int) (32 : Int) - (97 : Int)) + (10 : Int)) ≥ (10 : Int)))) C A) C) C = some (.ret (puA (0, 2)), st) := by
        intro A B C hC
        generalize bitsI BinOp.or IntKind.u8 (c : Int) (32 : Int) = q
        by_cases q1 : 97 ≤ q
        · rw [branch_of (decide_eq_true q1)]
          by_cases q2 : q ≤ 122
          · obtain ⟨x, rfl⟩ : ∃ x : Nat, q = x := Int.eq_ofNat_of_zero_le (by omega)
            rw [branch_of (decide_eq_true q2), show (x : Int) - 97 = ((x - 97 : Nat) : Int) by omega, w8 (by omega), show ((x - 97 : Nat) : Int) + 10 = ((x - 97 + 10 : Nat) : Int) by omega, w8 (by omega), branch_of (decide_eq_true (by omega))]
            exact hC
          · rw [branch_not (decide_eq_false q2)]; exact hC
        · rw [branch_not (decide_eq_false q1)]; exact hC
      have hC : puK F .ret (Env.mk 172 [(6, AV.int IntKind.u64 (0 : Int)), (7, AV.ifc 99 (AV.int IntKind.i64 (2 : Int)))]) st = some (.ret (puA (0, 2)), st) := by rw [puK, pu_ret]; rfl
      have hR : puK F .ret (Env.mk 172 [(6, AV.int IntKind.u64 (18446744073709551615 : Int)), (7, AV.ifc 99 (AV.int IntKind.i64 (1 : Int)))]) st = some (.ret (puA (18446744073709551615, 1)), st) := by rw [puK, pu_ret]; rfl
      by_cases d1 : 48 ≤ c
      · rw [branch_of (decide_eq_true (by omega))]
        by_cases d2 : c ≤ 57
        · have e1 : IntKind.u8.wrap ((c : Int) - 48) = ((c - 48 : Nat) : Int) := by rw [show (c : Int) - 48 = ((c - 48 : Nat) : Int) by omega]; exact w8 (by omega)
          rw [if_pos ⟨d1, d2⟩, branch_of (decide_eq_true (by omega)), e1, branch_not (decide_eq_false (by omega))]
          by_cases hc : 1844674407370955162 ≤ n
          · rw [branch_of (decide_eq_true (by omega)), if_pos (.inl hc)]; exact hR
          · have e2 : IntKind.u64.wrap ((n : Int) * 10) = ((n * 10 : Nat) : Int) := by rw [show (n : Int) * 10 = ((n * 10 : Nat) : Int) by omega]; exact w64 (by omega)
            have e3 : IntKind.u64.wrap ((c - 48 : Nat) : Int) = ((c - 48 : Nat) : Int) := w64 (by omega)
            rw [branch_not (decide_eq_false (by omega)), e2, e3, show ((n * 10 : Nat) : Int) + ((c - 48 : Nat) : Int) = ((n * 10 + (c - 48) : Nat) : Int) by omega]
            by_cases ho : 18446744073709551616 ≤ n * 10 + (c - 48)
            · have e4 : IntKind.u64.wrap ((n * 10 + (c - 48) : Nat) : Int) = ((n * 10 + (c - 48) - 18446744073709551616 : Nat) : Int) := by
                unfold IntKind.wrap
                simp only [IntKind.signed, IntKind.bits]
                simp
                omega
              rw [e4, branch_of (decide_eq_true (by omega)), if_pos (.inr ho)]; exact hR
            · rw [w64 (by omega), branch_not (decide_eq_false (by omega)), branch_not (decide_eq_false (by omega)), if_neg (by omega)]
              exact ih _ (by omega)
        · rw [if_neg (by omega), branch_not (decide_eq_false (by omega))]
          exact syn _ (some (.ret (puA (0, 2)), st)) _ hC
      · rw [if_neg (by omega), branch_not (decide_eq_false (by omega))]
        exact syn _ (some (.ret (puA (0, 2)), st)) _ hC
end Go.Proofs.YtcfedmheblbdnaaDoor.V

/- Values: ParseUint, as a callee whose three kinds of answers are told apart. -/
set_option linter.unusedVariables false
namespace Go.Proofs.YtcfedmheblbdnaaDoor.V
open Go Go.V Go.RowKit

noncomputable def byF (O : POrc Tryd.prog) (F' : List AV → (AV → Ans) → Ans) (h : ∀ k args fin, F' args k = some fin → O.F args k = some fin) : POrc Tryd.prog :=
  { O with F := F', sound := fun k args fin hk => O.sound k args fin (h k args fin hk) }
def decP : List AV → Option ByteArray
  | [x, y, z] => match x with
    | .str s => match y with
      | .int k n => match k with
        | .i64 => match z with
          | .int k' m => match k' with
            | .i64 => match decide (n = 10 ∧ m = 0) with
              | true => some s
              | false => none
            | _ => none
          | _ => none
        | _ => none
      | _ => none
    | _ => none
  | _ => none
theorem decP_enc : ∀ l a, decP l = some a → l = [.str a, .int .i64 10, .int .i64 0] := by
  intro l a h
  unfold decP at h
  split at h
  · split at h
    · split at h
      · split at h
        · split at h
          · split at h
            · split at h
              · rename_i hn
                obtain ⟨rfl, rfl⟩ := of_decide_eq_true hn
                cases h; rfl
              · cases h
            · cases h
          · cases h
        · cases h
      · cases h
    · cases h
  · cases h
noncomputable def puR (s : ByteArray) : Nat × Nat := opq (if strL s = [] then (0, 2) else puF (strL s) 0)
theorem pu_eq (s : ByteArray) (hs : s.size ≤ 100000) (st : St) : f90.run 100001 [.str s, .int .i64 10, .int .i64 0] st = some (.ret (puA (puR s)), st) := by
  have hsz := strL_size s
  have hr : rowsOfStr s = bR (strL s) := strL_rows s
  rw [pu_run, puR, opq_eq, hr]
  by_cases h0 : strL s = []
  · have : (s.toList == []) = true := by rw [ByteArray.toList_eq, beq_iff_eq]; simpa [strL] using h0
    rw [branch_of this, if_pos h0]; rfl
  · have : (s.toList == []) = false := by rw [ByteArray.toList_eq, beq_eq_false_iff_ne]; intro e; exact h0 (by simp [strL, e])
    rw [branch_not this, if_neg h0]
    exact pu_all 100001 (.str s) (strL s) (strL_lt s) (by omega) st (strL s).length 0 100001 0 (by omega) (by omega) (by omega)
theorem errA_scoped (e : Nat) (n m : Nat) : Scoped n m (errA e) := by
  unfold errA
  split <;> trivial
theorem errA_frz (e : Nat) : frz.frz1 (errA e) = errA e := by
  unfold errA
  split <;> rfl
noncomputable def p90r : POrc Tryd.prog := f90.pureIf decP (fun s => [.str s, .int .i64 10, .int .i64 0]) decP_enc (fun s => cdec (s.size ≤ 100000)) (fun s => puA (puR s)) (fun s _ => ⟨by show AV.tup [_, frz.frz1 (errA _)] = _; rw [errA_frz]; rfl, fun _ _ => ⟨trivial, errA_scoped _ _ _, trivial⟩⟩) fun s h => ⟨100001, fun st => pu_eq s (cdec_iff.mp h) st⟩
theorem p90r_F {args : List AV} {s : ByteArray} (hd : decP args = some s) (hp : cdec (s.size ≤ 100000) = true) (k : AV → Ans) : p90r.F args k = k (puA (puR s)) := by
  simp only [p90r, Fun.pureIf, hd, hp]
noncomputable def puV (s : ByteArray) : Int := opq ((puR s).1 : Int)
noncomputable def puE (s : ByteArray) (e : Nat) : Bool := cdec ((puR s).2 = e)
noncomputable def p90 : POrc Tryd.prog := byF p90r
  (fun args k => match decP args with
    | some s => match cdec (s.size ≤ 100000) with
      | true => branch (.bool (puE s 0)) (k (.tup [.int .u64 (puV s), .nilif])) (branch (.bool (puE s 1)) (k (.tup [.int .u64 (puV s), .ifc 99 (.int .i64 1)])) (branch (.bool (puE s 2)) (k (.tup [.int .u64 (puV s), .ifc 99 (.int .i64 2)])) none))
      | false => none
    | none => none)
  fun k args fin h => by
    split at h
    · rename_i s hs
      split at h
      · rename_i hc
        rw [p90r_F hs hc]
        have hv : puV s = ((puR s).1 : Int) := opq_eq _
        cases h0 : puE s 0 with
        | true =>
          rw [h0, branch_true, hv] at h
          have h0 := cdec_iff.mp h0
          rw [puA, h0]; exact h
        | false =>
          rw [h0, branch_false] at h
          cases h1 : puE s 1 with
          | true =>
            rw [h1, branch_true, hv] at h
            have h1 := cdec_iff.mp h1
            rw [puA, h1]; exact h
          | false =>
            rw [h1, branch_false] at h
            cases h2 : puE s 2 with
            | true =>
              rw [h2, branch_true, hv] at h
              have h2 := cdec_iff.mp h2
              rw [puA, h2]; exact h
            | false => rw [h2, branch_false] at h; cases h
      · cases h
    · cases h
end Go.Proofs.YtcfedmheblbdnaaDoor.V
