/- Merged out of 32 texts: what the claim's code comes to, and why. -/
import Derived.Test.YtcfedmheblbdnaaDoorR64
/- Bits: the number that stands next. -/
set_option linter.unusedVariables false
namespace Go.Proofs.YtcfedmheblbdnaaDoor.K
open Go Go.V Go.RowKit

/-- The number that stands next, and how many bytes it has; i: the place, u: what has been read. -/
def digF : Nat → Nat → List Int → Nat × Nat
  | _, _, [] => (0, 0)
  | i, u, c :: r => if i = 9 ∧ c.toNat % 128 > 1 then (0, 0) else
    if c.toNat < 128 then (if c.toNat % 128 = 0 ∧ i > 0 then (0, 0) else (u + c.toNat % 128 * 2 ^ (7 * i), i + 1))
    else digF (i + 1) (u + c.toNat % 128 * 2 ^ (7 * i)) r
def okB (bs : List Int) : Bool := bs.all fun b => decide (0 ≤ b) && decide (b < 256)
theorem okB_at {bs : List Int} (h : okB bs = true) {i : Nat} (hi : i < bs.length) : ∃ c : Nat, bs[i] = (c : Int) ∧ c < 256 := by
  have := List.all_eq_true.mp h bs[i] (List.getElem_mem hi)
  simp only [Bool.and_eq_true, decide_eq_true_eq] at this
  exact ⟨bs[i].toNat, by omega, by omega⟩

theorem dig_or {i u d : Nat} (hi : i ≤ 9) (hu : u < 2 ^ (7 * i)) (hd : d < 128) (h9 : ¬ (i = 9 ∧ d > 1)) :
    bitsI .or .u64 (u : Int) (IntKind.u64.wrap (IntKind.u64.wrap (d : Int) * 2 ^ min (IntKind.i64.wrap (7 * (i : Int))).toNat 64)) = ((u + d * 2 ^ (7 * i) : Nat) : Int) ∧ u + d * 2 ^ (7 * i) < 2 ^ 64 ∧ u + d * 2 ^ (7 * i) < 2 ^ (7 * (i + 1)) := by
  have e1 : (IntKind.i64.wrap (7 * (i : Int))).toNat = 7 * i := by rw [wrapS (by omega) (by omega)]; omega
  have e2 : min (7 * i) 64 = 7 * i := by omega
  have hP : 2 ^ (7 * i) ≤ 2 ^ 63 := Nat.pow_le_pow_right (by omega) (by omega)
  have hdP : u + d * 2 ^ (7 * i) < 2 ^ 64 := by
    by_cases h : i = 9
    · have : d ≤ 1 := by omega
      have : d * 2 ^ (7 * i) ≤ 1 * 2 ^ (7 * i) := Nat.mul_le_mul_right _ this
      omega
    · have hQ : 2 ^ (7 * i) ≤ 2 ^ 56 := Nat.pow_le_pow_right (by omega) (by omega)
      have : d * 2 ^ (7 * i) ≤ 127 * 2 ^ (7 * i) := Nat.mul_le_mul_right _ (by omega)
      omega
  have hdP' : u + d * 2 ^ (7 * i) < 2 ^ (7 * (i + 1)) := by
    have : d * 2 ^ (7 * i) ≤ 127 * 2 ^ (7 * i) := Nat.mul_le_mul_right _ (by omega)
    rw [show 7 * (i + 1) = 7 * i + 7 by omega, Nat.pow_add]
    omega
  refine ⟨?_, hdP, hdP'⟩
  rw [e1, e2, wrapU64 (by omega), show (d : Int) * 2 ^ (7 * i) = ((d * 2 ^ (7 * i) : Nat) : Int) by rw [Int.natCast_mul, Int.natCast_pow]; rfl, wrapU64 (by omega), bitsOr rfl (by simp only [IntKind.bits]; omega) (by simp only [IntKind.bits]; omega), or_above hu]

theorem dig_loop (F : Nat) (f : Bool) (st : St) (cs : List Int) (hc : cs.length ≤ 10) (hok : okB cs = true) : ∀ (k i u n : Nat), i + k = cs.length → k < n → u < 2 ^ (7 * i) →
    loopRun (f74_l0.run F) [4, 12, 13, 14] (Cont.block 0 (Cont.then (f74_r0.run F (f74.leaveK Fun.done)) (f74.leaveK Fun.done))) n (Env.mk 46 [(4, .int .u64 u), (12, .sl 1 f (ri cs)), (13, .int .i64 (ri cs).length), (14, .int .i64 i)]) st
      = some (.ret (.tup [.int .u64 ((digF i u (cs.drop i)).1 : Int), .int .i64 ((digF i u (cs.drop i)).2 : Int)]), st)
  | 0, i, u, n + 1, hi, hk, hu => by
    rw [show n + 1 = n.succ from rfl, digits_end _ _ _ _ _ _ _ _ (by simp [ri]; omega), digits_out, List.drop_eq_nil_of_le (by omega)]
    rfl
  | k + 1, i, u, n + 1, hi, hk, hu => by
    have hi1 : i < cs.length := by omega
    obtain ⟨c, hc1, hc2⟩ := okB_at hok hi1
    have hel : elemAt (ri cs) (i : Int) = some [.int .u8 (c : Int)] := by rw [← hc1]; exact elemAt_nat _ _ _ hi1
    have hd : IntKind.u64.wrap (bitsI .andNot .u8 (c : Int) 128) = ((c % 128 : Nat) : Int) := by rw [andNot128 hc2]; exact wrapU64 (by omega)
    have ih := dig_loop F f st cs hc hok k (i + 1) (u + c % 128 * 2 ^ (7 * i)) n (by omega) (by omega)
    rw [show n + 1 = n.succ from rfl, digits_round F n _ u i c f (ri cs) st hel, branch_of (by simp [ri]; omega), hd, List.drop_eq_getElem_cons hi1, hc1]
    simp only [digF, Int.toNat_natCast]
    by_cases h9 : i = 9 ∧ c % 128 > 1
    · rw [if_pos h9, branch_of (by simp; omega), branch_of (by simp; omega), digits_ret]
      rfl
    · obtain ⟨o1801, o1802, o1803⟩ := dig_or (d := c % 128) (by omega) hu (by omega) h9
      have hrest : (if 0 ≤ IntKind.i64.wrap (7 * (i : Int)) then
          branch (.bool (decide ((c : Int) < 128)))
            (branch (.bool (((c % 128 : Nat) : Int) == 0))
              (branch (.bool (decide ((i : Int) > 0)))
                ((Cont.block 0 (Cont.then (f74_r0.run F (f74.leaveK Fun.done)) (f74.leaveK Fun.done))) .ret (Env.mk 46 [(2, .int .u64 0), (3, .int .i64 0)]) st)
                ((Cont.block 0 (Cont.then (f74_r0.run F (f74.leaveK Fun.done)) (f74.leaveK Fun.done))) .ret (Env.mk 46 [(2, .int .u64 (bitsI .or .u64 (u : Int) (IntKind.u64.wrap (((c % 128 : Nat) : Int) * 2 ^ min (IntKind.i64.wrap (7 * (i : Int))).toNat 64)))), (3, .int .i64 (IntKind.i64.wrap ((i : Int) + 1)))]) st))
              ((Cont.block 0 (Cont.then (f74_r0.run F (f74.leaveK Fun.done)) (f74.leaveK Fun.done))) .ret (Env.mk 46 [(2, .int .u64 (bitsI .or .u64 (u : Int) (IntKind.u64.wrap (((c % 128 : Nat) : Int) * 2 ^ min (IntKind.i64.wrap (7 * (i : Int))).toNat 64)))), (3, .int .i64 (IntKind.i64.wrap ((i : Int) + 1)))]) st))
            (loopRun (f74_l0.run F) [4, 12, 13, 14] (Cont.block 0 (Cont.then (f74_r0.run F (f74.leaveK Fun.done)) (f74.leaveK Fun.done))) n (Env.mk 46 [(4, .int .u64 (bitsI .or .u64 (u : Int) (IntKind.u64.wrap (((c % 128 : Nat) : Int) * 2 ^ min (IntKind.i64.wrap (7 * (i : Int))).toNat 64)))), (12, .sl 1 f (ri cs)), (13, .int .i64 (ri cs).length), (14, .int .i64 (IntKind.i64.wrap ((i : Int) + 1)))]) st)
          else none) = some (.ret (.tup [.int .u64 ((if c < 128 then (if c % 128 = 0 ∧ i > 0 then (0, 0) else (u + c % 128 * 2 ^ (7 * i), i + 1)) else digF (i + 1) (u + c % 128 * 2 ^ (7 * i)) (cs.drop (i + 1))).1 : Int), .int .i64 ((if c < 128 then (if c % 128 = 0 ∧ i > 0 then (0, 0) else (u + c % 128 * 2 ^ (7 * i), i + 1)) else digF (i + 1) (u + c % 128 * 2 ^ (7 * i)) (cs.drop (i + 1))).2 : Int)]), st) := by
        rw [wrapU64 (n := c % 128) (by omega)] at o1801
        rw [if_pos (by rw [wrapS (by omega) (by omega)]; omega), o1801, wrapS (by omega) (by omega), show ((i : Int) + 1) = ((i + 1 : Nat) : Int) by omega]
        by_cases h1 : c < 128
        · rw [branch_of (by simp; omega), if_pos h1]
          by_cases h2 : c % 128 = 0
          · rw [branch_of (by simp; omega)]
            by_cases h3 : i > 0
            · rw [branch_of (by simp; omega), if_pos ⟨h2, h3⟩, digits_ret]; rfl
            · rw [branch_not (by simp; omega), if_neg (by omega), digits_ret]
          · rw [branch_not (by simp; omega), if_neg (by omega), digits_ret]
        · rw [branch_not (by simp; omega), if_neg h1, ih o1803]
      rw [if_neg h9]
      by_cases h : i = 9
      · rw [branch_of (by simp; omega), branch_not (by simp; omega)]
        exact hrest
      · rw [branch_not (by simp; omega)]
        exact hrest
end Go.Proofs.YtcfedmheblbdnaaDoor.K

/- Bits: digits as a callee. -/
set_option linter.unusedVariables false
namespace Go.Proofs.YtcfedmheblbdnaaDoor.K
open Go Go.V Go.RowKit

def digB (bs : List Int) : Nat × Nat := digF 0 0 (bs.take 10)
theorem okB_take {bs : List Int} (h : okB bs = true) (n : Nat) : okB (bs.take n) = true :=
  List.all_eq_true.mpr fun x hx => List.all_eq_true.mp h x (List.mem_of_mem_take hx)
theorem digits_spec (f : Bool) (bs : List Int) (hs : bs.length < 140737488355328) (hok : okB bs = true) (st : St) :
    f74.run 11 [.sl 1 f (ri bs)] st = some (.ret (.tup [.int .u64 ((digB bs).1 : Int), .int .i64 ((digB bs).2 : Int)]), st) := by
  have hl : (ri bs).length = bs.length := by simp [ri]
  have hmin : (leastI false ((ri bs).length : Int) 10).toNat = min 10 bs.length := by
    simp only [leastI]; rw [hl]; split <;> omega
  have ht : List.drop 0 (List.take (leastI false ((ri bs).length : Int) 10).toNat (ri bs)) = ri (bs.take 10) := by
    rw [hmin, List.drop_zero]
    simp only [ri, ← List.map_take]
    congr 1
    rw [List.take_eq_take_iff]
    omega
  have hle : (0 : Int) ≤ leastI false ((ri bs).length : Int) 10 ∧ leastI false ((ri bs).length : Int) 10 ≤ ((ri bs).length : Int) := by
    simp only [leastI]; split <;> omega
  rw [digits_run, if_pos hle, ht]
  exact dig_loop 11 _ st (bs.take 10) (by simp; omega) (okB_take hok 10) (bs.take 10).length 0 0 11 (by omega) (by simp; omega) (by decide)

noncomputable def p74 : POrc Tryd.prog := (f74.pureIf dec1b (fun a => [a.av]) dec1b_enc (fun a => small a && okB a.list) (fun a => .tup [.int .u64 ((digB a.list).1 : Int), .int .i64 ((digB a.list).2 : Int)]) (fun a _ => ⟨rfl, fun _ _ => ⟨trivial, trivial, trivial⟩⟩) fun a h => ⟨11, fun st => by
  cases a with
  | nil => exact digits_nil 10 st
  | sl f bs =>
    simp only [Bool.and_eq_true] at h
    exact digits_spec f bs (small_sl h.1) h.2 st⟩).fz
end Go.Proofs.YtcfedmheblbdnaaDoor.K

/- Bits: the callees again, read no deeper than they must. -/
set_option linter.unusedVariables false
namespace Go.Proofs.YtcfedmheblbdnaaDoor.K
open Go Go.V Go.RowKit
def iR (l : List (List AV)) : List Int := (nR l).map fun (b : Nat) => (b : Int)
def Br.bt : Br → Bt
  | .nil => .nil
  | .sl f l => .sl f (iR l)
theorem okR_ri {l : List (List AV)} (h : okR l = true) : l = ri (iR l) := by
  conv => lhs; rw [okR_rows h]
  simp [bR, ri, iR]
theorem Br.bt_av {b : Br} (h : okR b.list = true) : b.av = (Br.bt b).av := by
  cases b with
  | nil => rfl
  | sl f l => show AV.sl 1 f l = AV.sl 1 f (ri (iR l)); rw [← okR_ri (l := l) h]
theorem Br.bt_list (b : Br) : (Br.bt b).list = iR b.list := by cases b <;> rfl
theorem iR_length (l : List (List AV)) : (iR l).length = l.length := by simp [iR, nR]
theorem iR_ok {l : List (List AV)} (h : okR l = true) : okB (iR l) = true := by
  simp only [okB, iR, List.all_map, List.all_eq_true]
  intro b hb
  have := okR_lt h hb
  simp; omega
/-- Fit to be handed to a callee. -/
def fit (b : Br) : Bool := okR b.list && decide (b.list.length < 140737488355328)
theorem fit_spec {b : Br} (h : fit b = true) : okR b.list = true ∧ b.list.length < 140737488355328 := by
  simpa [fit] using h
theorem fit_small {b : Br} (h : fit b = true) : small (Br.bt b) = true := by
  simp only [small, Br.bt_list, iR_length, decide_eq_true_eq]; exact (fit_spec h).2

noncomputable def r63 : POrc Tryd.prog := p63.re byt1 fit (fun a => match a with | .nil => .nilsl | .sl _ l => .sl 1 l.isEmpty l) fun args a h hp k => by
  unfold p63
  refine Eq.trans (pureIfX_fz (a := Br.bt a) (by rw [byt1_of h, Br.bt_av (fit_spec hp).1]; simp only [dec1b, decBt_of]) (fit_small hp) k) ?_
  cases a with
  | nil => rfl
  | sl f l =>
    simp only [Br.bt]
    rw [← okR_ri (l := l) (fit_spec hp).1, show (iR l).isEmpty = l.isEmpty by simp [iR, nR]]
/-- The number that bytes begin with, without its sign, and its length; 0: none. -/
def digR (l : List (List AV)) : Nat × Nat := digB (iR l)
noncomputable def r74 : POrc Tryd.prog := p74.re byt1 fit (fun a => .tup [.int .u64 ((digR a.list).1 : Int), .int .i64 ((digR a.list).2 : Int)]) fun args a h hp k => by
  unfold p74
  refine Eq.trans (pureIf_fz (a := Br.bt a) (by rw [byt1_of h, Br.bt_av (fit_spec hp).1]; simp only [dec1b, decBt_of]) (by rw [fit_small hp, Br.bt_list, iR_ok (fit_spec hp).1]; rfl) k) ?_
  simp only [Br.bt_list, digR]
end Go.Proofs.YtcfedmheblbdnaaDoor.K

/- Bits: numbers read and written, in plain words. -/
set_option linter.unusedVariables false
namespace Go.Proofs.YtcfedmheblbdnaaDoor.K
open Go Go.V Go.RowKit

/-- The number that stands next; i: the place, u: what has been read. -/
def digN : Nat → Nat → List Nat → Nat × Nat
  | _, _, [] => (0, 0)
  | i, u, c :: r => if i = 9 ∧ c % 128 > 1 then (0, 0) else
    if c < 128 then (if c % 128 = 0 ∧ i > 0 then (0, 0) else (u + c % 128 * 2 ^ (7 * i), i + 1))
    else digN (i + 1) (u + c % 128 * 2 ^ (7 * i)) r
theorem digF_nat : ∀ (l : List Nat) (i u : Nat), digF i u (l.map fun (b : Nat) => (b : Int)) = digN i u l
  | [], _, _ => rfl
  | c :: r, i, u => by
    simp only [List.map_cons, digF, digN, Int.toNat_natCast, digF_nat r]
theorem digR_nat (l : List (List AV)) : digR l = digN 0 0 ((nR l).take 10) := by
  simp only [digR, digB, iR, ← List.map_take, digF_nat]

/-- A number out of one without a sign. -/
def unfN (u : Nat) : Int := if u % 2 = 0 then (u / 2 : Nat) else -((u / 2 : Nat) : Int) - 1
theorem unfN_foldN (n : Int) : unfN (foldN n) = n := by
  unfold foldN unfN; split <;> split <;> omega
theorem dig_enc : ∀ (k i v u : Nat) (r : List Nat), i + k = 9 → v < 2 ^ (64 - 7 * i) → (0 < i → 0 < v) →
    digN i u (encN k v ++ r) = (u + v * 2 ^ (7 * i), i + (encN k v).length)
  | 0, i, v, u, r, hi, hv, h0 => by
    obtain rfl : i = 9 := by omega
    have hv : v < 2 := by simpa using hv
    have := h0 (by omega)
    obtain rfl : v = 1 := by omega
    simp [encN, digN]
  | k + 1, i, v, u, r, hi, hv, h0 => by
    rw [encN]
    split
    · rename_i h
      simp only [List.singleton_append, digN, Nat.mod_eq_of_lt h, List.length_singleton]
      rw [if_neg (by omega), if_pos h, if_neg (by omega)]
    · rename_i h
      have hp : 2 ^ (64 - 7 * i) = 128 * 2 ^ (64 - 7 * (i + 1)) := by
        rw [show 64 - 7 * i = 7 + (64 - 7 * (i + 1)) by omega, Nat.pow_add]
      rw [List.cons_append, digN, if_neg (by omega), if_neg (by omega), dig_enc k (i + 1) (v / 128) _ r (by omega) (by omega) (by omega)]
      simp only [List.length_cons, Prod.mk.injEq]
      refine ⟨?_, by omega⟩
      rw [show (v % 128 + 128) % 128 = v % 128 by omega, show 7 * (i + 1) = 7 * i + 7 by omega, Nat.pow_add, show v / 128 * (2 ^ (7 * i) * 2 ^ 7) = (v / 128 * 128) * 2 ^ (7 * i) by rw [Nat.mul_comm (2 ^ (7 * i)), ← Nat.mul_assoc], Nat.add_assoc, ← Nat.add_mul, show v % 128 + v / 128 * 128 = v by omega]

theorem dig_back : ∀ (l : List Nat) (i u w m : Nat), (∀ b ∈ l, b < 256) → i + l.length ≤ 10 → digN i u l = (w, m) → m ≠ 0 →
    ∃ v j, w = u + v * 2 ^ (7 * i) ∧ m = i + j ∧ j ≤ l.length ∧ 0 < j ∧ i ≤ 9 ∧ encN (9 - i) v = l.take j ∧ v < 2 ^ (64 - 7 * i) ∧ (0 < i → 0 < v)
  | [], i, u, w, m, hb, hl, h, hm => by simp [digN] at h; omega
  | c :: r, i, u, w, m, hb, hl, h, hm => by
    have hc : c < 256 := hb c (by simp)
    have hi9 : i ≤ 9 := by simp at hl; omega
    rw [digN] at h
    split at h
    · simp at h; omega
    · rename_i h9
      split at h
      · rename_i h1
        split at h
        · simp at h; omega
        · rename_i h2
          simp only [Prod.mk.injEq] at h
          refine ⟨c, 1, by rw [← h.1, Nat.mod_eq_of_lt h1], by omega, by simp, by omega, hi9, ?_, ?_, by omega⟩
          · rw [List.take_succ_cons, List.take_zero]
            cases hk : 9 - i with
            | zero => rfl
            | succ k => rw [encN, if_pos h1]
          · by_cases hi : i = 9
            · subst hi; simp; omega
            · have : 2 ^ 7 ≤ 2 ^ (64 - 7 * i) := Nat.pow_le_pow_right (by omega) (by omega)
              omega
      · rename_i h1
        by_cases hi : i = 9
        · subst hi
          have : r = [] := by apply List.eq_nil_of_length_eq_zero; simp at hl; omega
          subst this
          simp [digN] at h; omega
        · obtain ⟨v, j, e1, e2, e3, e4, e5, e6, e7, e8⟩ := dig_back r (i + 1) _ w m (fun b hb' => hb b (by simp [hb'])) (by simp at hl; omega) h hm
          have hv := e8 (by omega)
          have hp : 2 ^ (64 - 7 * i) = 128 * 2 ^ (64 - 7 * (i + 1)) := by
            rw [show 64 - 7 * i = 7 + (64 - 7 * (i + 1)) by omega, Nat.pow_add]
          refine ⟨c % 128 + 128 * v, j + 1, ?_, by omega, by simp; omega, by omega, hi9, ?_, by omega, by omega⟩
          · rw [e1, show 7 * (i + 1) = 7 * i + 7 by omega, Nat.pow_add, Nat.add_mul, Nat.add_assoc, Nat.mul_comm 128 v, Nat.mul_assoc, Nat.mul_comm (2 ^ (7 * i)) (2 ^ 7)]
          · rw [show 9 - i = (9 - (i + 1)) + 1 by omega, encN, if_neg (by omega), List.take_succ_cons, show (c % 128 + 128 * v) / 128 = v by omega, e6, show (c % 128 + 128 * v) % 128 + 128 = c by omega]

/-- The number that bytes begin with, and how many bytes it has. -/
def getN (l : List Nat) : Option (Int × Nat) :=
  if (digN 0 0 (l.take 10)).2 = 0 then none else some (unfN (digN 0 0 (l.take 10)).1, (digN 0 0 (l.take 10)).2)

theorem getN_enc {n : Int} (h1 : -9223372036854775808 ≤ n) (h2 : n ≤ 9223372036854775807) (r : List Nat) : getN (intBytes n ++ r) = some (n, (intBytes n).length) := by
  have hl : (intBytes n).length ≤ 10 := encN_len 9 _
  have hp : 0 < (intBytes n).length := by unfold intBytes encN; split <;> simp
  have e : (intBytes n ++ r).take 10 = encN 9 (foldN n) ++ r.take (10 - (intBytes n).length) := by
    rw [List.take_append, List.take_of_length_le hl]; rfl
  have := dig_enc 9 0 (foldN n) 0 (r.take (10 - (intBytes n).length)) rfl (by simpa using foldN_lt h1 h2) (by omega)
  unfold getN
  rw [e, this]
  simp only [Nat.mul_zero, Nat.pow_zero, Nat.mul_one, Nat.zero_add, unfN_foldN]
  rw [if_neg (by unfold intBytes at hp; omega)]
  rfl
theorem getN_digR {l : List (List AV)} : getN (nR l) = if (digR l).2 = 0 then none else some (unfN (digR l).1, (digR l).2) := by rw [digR_nat]; rfl
theorem digR_lt {l : List (List AV)} (h : okR l = true) (h0 : (digR l).2 ≠ 0) : (digR l).1 < 18446744073709551616 ∧ (digR l).2 ≤ l.length := by
  rw [digR_nat] at h0 ⊢
  obtain ⟨v, j, e1, e2, e3, e4, e5, e6, e7, e8⟩ := dig_back ((nR l).take 10) 0 0 _ _ (fun b hb' => okR_lt h (List.mem_of_mem_take hb')) (by simp; omega) rfl h0
  simp only [List.length_take, nR_length] at e3
  simp only [Nat.mul_zero, Nat.pow_zero, Nat.mul_one, Nat.zero_add] at e1 e2
  exact ⟨by rw [e1]; simpa using e7, by omega⟩
/-- The program's unfold. -/
theorem unfold_eq {u : Nat} (h : u < 18446744073709551616) :
    bitsI .xor .i64 (IntKind.i64.wrap ((u : Int).fdiv 2)) (IntKind.i64.wrap (0 - IntKind.i64.wrap (bitsI .and .u64 (u : Int) 1))) = unfN u := by
  have e1 : (u : Int).fdiv 2 = ((u / 2 : Nat) : Int) := by rw [Int.fdiv_eq_ediv_of_nonneg _ (by omega)]; rfl
  have e2 : bitsI .and .u64 (u : Int) 1 = ((u % 2 : Nat) : Int) := by
    rw [show (1 : Int) = ((1 : Nat) : Int) from rfl, bitsAnd rfl (by simpa [IntKind.bits] using h) (by decide), Nat.and_one_is_mod]
  rw [e1, e2, wrapS (by omega) (by omega), wrapS (n := ((u % 2 : Nat) : Int)) (by omega) (by omega), wrapS (by omega) (by omega)]
  have key : ∀ x : Nat, x < 2 ^ 63 → (BitVec.ofInt 64 (x : Int)).toNat = x := fun x hx => ofIntNat (by omega)
  unfold unfN
  split
  · rename_i h2
    rw [h2]
    show IntKind.i64.wrap ((BitVec.ofInt 64 ((u / 2 : Nat) : Int) ^^^ BitVec.ofInt 64 0).toNat : Int) = _
    rw [show (BitVec.ofInt 64 0) = 0#64 from rfl, BitVec.xor_zero, key _ (by omega), wrapS (by omega) (by omega)]
  · have h2 : u % 2 = 1 := by omega
    rw [h2]
    show IntKind.i64.wrap ((BitVec.ofInt 64 ((u / 2 : Nat) : Int) ^^^ BitVec.ofInt 64 (-1)).toNat : Int) = _
    rw [show (BitVec.ofInt 64 (-1)) = BitVec.allOnes 64 by decide, BitVec.toNat_xor, BitVec.toNat_allOnes, key _ (by omega), xor_ones (by omega)]
    unfold IntKind.wrap
    simp only [IntKind.signed, IntKind.bits]
    have : (((2 ^ 64 - 1 - u / 2 : Nat) : Int)) % (2 ^ 64 : Nat) = ((2 ^ 64 - 1 - u / 2 : Nat) : Int) := Int.emod_eq_of_lt (by omega) (by omega)
    simp
    omega

def dec1u : List AV → Option Int
  | [.int .u64 u] => some u
  | _ => none
theorem dec1u_enc (l : List AV) (a : Int) (h : dec1u l = some a) : l = [.int .u64 a] := by
  unfold dec1u at h; split at h <;> first | (cases h; rfl) | cases h
noncomputable def r75 : POrc Tryd.prog := f75.pureIf dec1u (fun u => [.int .u64 u]) dec1u_enc (fun u => cdec (0 ≤ u ∧ u < 18446744073709551616)) (fun u => .int .i64 (unfN u.toNat)) (fun a _ => ⟨rfl, fun _ _ => trivial⟩) fun u h => ⟨0, fun st => by
  rw [cdec_iff] at h
  obtain ⟨m, rfl⟩ : ∃ m : Nat, u = m := ⟨u.toNat, by omega⟩
  rw [unfold_run, unfold_eq (by omega)]; rfl⟩
end Go.Proofs.YtcfedmheblbdnaaDoor.K

/- The functions' pieces, as told by gen.py. -/
set_option linter.unusedVariables false
set_option maxRecDepth 20000
namespace Go.Proofs.YtcfedmheblbdnaaDoor.K
open Go Go.V Go.RowKit

theorem ze89 : (Tryd.prog.info? 89).bind (·.zero) = some (.agg #[(.slice none 0 0), (.bool false)]) := by kernel_rfl

/-! ### 46: interlock/bits.NewReader (46); results 2; slots: 0 b, 1 b -/
noncomputable def f46_b : Sim Tryd.prog :=
 (.seq (.live [0] (.region 0 [
 ⟨(opAssign (some 2) (.const (Value.pointer none)) 65 "bits.go:47" #[]).op, none⟩
 ] (by kernel_rfl)))
 (.seq (.live [2] (.region 1 [
 ⟨(opMove (some 3) (.tmp 0) 46 "bits.go:47" #[]).op, none⟩,
 ⟨(opCallP r63 (some 4) [(.tmp 3)] #[46] 46 "bits.go:47" #[eD 0]).op, none⟩,
 ⟨(opBuild (some 5) 89 #[(.slice none 0 0), (.bool false)] [(0, 0, 1, (.tmp 4))] ze89 (by kernel_rfl) 89 "bits.go:47" #[eD 1]).op, none⟩,
 ⟨(opBox (some 6) 89 (.tmp 5) 65 "bits.go:47" #[eD 2]).op, none⟩,
 ⟨(opAssign (some 2) (.tmp 6) 65 "bits.go:47" #[eD 3, eC 1, eP 0, eP 1, eP 2, eP 3]).op, none⟩
 ] (by kernel_rfl)))
 (.live [2] .ret)))

noncomputable def f46 : Fun Tryd.prog where
 id := 46
 fn := Tryd.f46
 hf := Tryd.func46
 hname := by kernel_rfl
 body := f46_b
 hbody := by kernel_rfl
 res := [rTmp 2]
 hres := by kernel_rfl
 n := 7
 hn := by kernel_rfl

/-! ### 64: (*interlock/bits.Reader).Int (65); results 2; slots: 0 r, 1 r, 3 u, 4 n -/
noncomputable def f64_b : Sim Tryd.prog :=
 (.seq (.live [0] (.region 0 [
 ⟨(opAssign (some 2) (.const (Value.int IntKind.i64 0)) 3 "bits.go:72" #[]).op, none⟩
 ] (by kernel_rfl)))
 (.seq (.live [0, 3, 4] (.region 1 [
 ⟨(opMove (some 6) (.tmp 0) 65 "bits.go:73" #[]).op, none⟩,
 ⟨(opNilCheck (some 7) (.tmp 6) 0 "bits.go:73" #[eD 0]).op, none⟩,
 ⟨(opFieldAddr (some 8) 89 (.tmp 7) 0 0 1 false fl89_0 (by decide) 0 "bits.go:73" #[eD 1]).op, none⟩,
 ⟨(opLoad (some 9) 46 (.tmp 8) (.slice 5) Tryd.underlying46 1 sz46 46 "bits.go:73" #[eD 2]).op, none⟩,
 ⟨(opCallP r74 (some 10) [(.tmp 9)] #[46] 94 "bits.go:73" #[eD 3]).op, none⟩,
 ⟨(opMove (some 5) (.tmp 10) 94 "bits.go:73" #[eD 4]).op, none⟩,
 ⟨(opExtract (some 11) (.tmp 5) 0 84 "bits.go:73" #[eD 5]).op, none⟩,
 ⟨(opExtract (some 12) (.tmp 5) 1 3 "bits.go:73" #[eD 5, { on := 8, ground := (Ground.gcOnly Departure.lateStores) }]).op, none⟩,
 ⟨(opAssign (some 3) (.tmp 11) 84 "bits.go:73" #[eD 6, eC 4, eP 0, eP 1, eP 2, eP 3, eP 4, eP 5, eP 6, { on := 7, ground := (Ground.textOnly Departure.lateStores) }]).op, none⟩,
 ⟨(opAssign (some 4) (.tmp 12) 3 "bits.go:73" #[eD 7, eC 8, eP 0, eP 1, eP 2, eP 3, eP 4, eP 5, eP 6, eP 7, eP 8]).op, none⟩
 ] (by kernel_rfl)))
 (.seq (.seq (.live [0, 3, 4, 14] (.region 2 [
 ⟨(opMove (some 13) (.tmp 4) 3 "bits.go:74" #[]).op, none⟩,
 ⟨(opBin (some 14) .eql 3 (.tmp 13) (.const (Value.int IntKind.i64 0)) 3 4 "bits.go:74" #[eD 0]).op, none⟩
 ] (by kernel_rfl)))
 (.cond (.tmp 14)
 (.seq (.live [] (.region 3 [
 ⟨(opMove (some 15) (.tmp 0) 65 "bits.go:75" #[]).op, none⟩,
 ⟨opCall (f65.orc 0) (some 16) [(.tmp 15)] #[65] 0 "bits.go:75" #[eD 0], none⟩
 ] (by kernel_rfl)))
 (.seq (.live [2] (.region 4 [
 ⟨(opAssign (some 2) (.const (Value.int IntKind.i64 0)) 3 "bits.go:76" #[]).op, none⟩
 ] (by kernel_rfl)))
 (.live [2] .ret)))
 .skip))
 (.seq (.live [3] (.region 5 [
 ⟨(opMove (some 17) (.tmp 0) 65 "bits.go:78" #[]).op, none⟩,
 ⟨(opMove (some 18) (.tmp 0) 65 "bits.go:78" #[]).op, none⟩,
 ⟨(opNilCheck (some 19) (.tmp 18) 0 "bits.go:78" #[eD 1]).op, none⟩,
 ⟨(opFieldAddr (some 20) 89 (.tmp 19) 0 0 1 false fl89_0 (by decide) 0 "bits.go:78" #[eD 2]).op, none⟩,
 ⟨(opLoad (some 21) 46 (.tmp 20) (.slice 5) Tryd.underlying46 1 sz46 46 "bits.go:78" #[eD 3]).op, none⟩,
 ⟨(opMove (some 22) (.tmp 4) 3 "bits.go:78" #[]).op, none⟩,
 ⟨(opSlice (some 23) 46 (.tmp 21) (some (.tmp 22)) none none 5 1 Tryd.underlying46 sz5 46 "bits.go:78" #[eD 4, eD 5]).op, none⟩,
 ⟨(opNilCheck (some 24) (.tmp 17) 0 "bits.go:78" #[eD 0, eP 0, eP 1, eP 2, eP 3, eP 4, eP 5, eP 6]).op, none⟩,
 ⟨(opFieldAddr (some 25) 89 (.tmp 24) 0 0 1 false fl89_0 (by decide) 0 "bits.go:78" #[eD 7, eP 0, eP 1, eP 2, eP 3, eP 4, eP 5, eP 6]).op, none⟩,
 ⟨(opStore none 46 (.tmp 25) (.tmp 23) 1 sz46 0 "bits.go:78" #[eD 8, eD 6, eP 0, eP 1, eP 2, eP 3, eP 4, eP 5, eP 6]).op, none⟩
 ] (by kernel_rfl)))
 (.seq (.live [2] (.region 6 [
 ⟨(opMove (some 26) (.tmp 3) 84 "bits.go:79" #[]).op, none⟩,
 ⟨(opCallP r75 (some 27) [(.tmp 26)] #[84] 3 "bits.go:79" #[eD 0]).op, none⟩,
 ⟨(opAssign (some 2) (.tmp 27) 3 "bits.go:79" #[eD 1, eC 1, eP 0, eP 1]).op, none⟩
 ] (by kernel_rfl)))
 (.live [2] .ret))))))

noncomputable def f64 : Fun Tryd.prog where
 id := 64
 fn := Tryd.f64
 hf := Tryd.func64
 hname := by kernel_rfl
 body := f64_b
 hbody := by kernel_rfl
 res := [rTmp 2]
 hres := by kernel_rfl
 n := 28
 hn := by kernel_rfl

/-! ### 43: interlock/bits.Text (9); results 2; slots: 0 s, 1 s -/
noncomputable def f43_b : Sim Tryd.prog :=
 (.seq (.live [0] (.region 0 [
 ⟨(opAssign (some 2) (.const (Value.slice none 0 0)) 46 "bits.go:29" #[]).op, none⟩
 ] (by kernel_rfl)))
 (.seq (.live [2] (.region 1 [
 ⟨(opMove (some 3) (.tmp 0) 9 "bits.go:29" #[]).op, none⟩,
 ⟨(opLen (some 4) (.tmp 3) 9 .string Tryd.underlying9 3 "bits.go:29" #[eD 0]).op, none⟩,
 ⟨opCall (q42).orc (some 5) [(.tmp 4)] #[3] 46 "bits.go:29" #[eD 1], none⟩,
 ⟨(opMove (some 6) (.tmp 0) 9 "bits.go:29" #[]).op, none⟩,
 ⟨(opAppend (some 7) (.tmp 5) (.tmp 6) 46 9 5 1 1 (.int .u8 0) el46 .string Tryd.underlying9 rfl 46 "bits.go:29" #[eD 2, eD 3, eC 2]).op, none⟩,
 ⟨(opAssign (some 2) (.tmp 7) 46 "bits.go:29" #[eD 4, eC 4, eP 0, eP 1, eP 2, eP 3, eP 4]).op, none⟩
 ] (by kernel_rfl)))
 (.live [2] .ret)))

noncomputable def f43 : Fun Tryd.prog where
 id := 43
 fn := Tryd.f43
 hf := Tryd.func43
 hname := by kernel_rfl
 body := f43_b
 hbody := by kernel_rfl
 res := [rTmp 2]
 hres := by kernel_rfl
 n := 8
 hn := by kernel_rfl

end Go.Proofs.YtcfedmheblbdnaaDoor.K

/- What the functions' runs come to; the right sides were printed by a tool, Lean checks them. -/
set_option linter.unusedVariables false
set_option maxRecDepth 100000
namespace Go.Proofs.YtcfedmheblbdnaaDoor.K
open Go Go.V Go.RowKit

theorem rdint_run0 (f b : Bool) (l : List (List AV)) (os : List Ob) (tk : List (Nat × Nat)) :
 (f64.run 0 [.ptr 0 0] ⟨.cells [.sl 1 f l, .bool b] :: os, tk⟩ : Ans) =
 branch (AV.bool (fit (Br.sl f l)))
 (branch (AV.bool ((↑(digR l).snd : Int) == (0 : Int)))
 (some (Fin.ret (AV.int IntKind.i64 (0 : Int)), St.mk (Ob.cells [AV.nilsl, AV.bool true] :: os) tk))
 (if (0 : Int) ≤ (↑(digR l).snd : Int) ∧ (↑(digR l).snd : Int) ≤ (↑l.length : Int) then
 branch (AV.bool (cdec ((0 : Int) ≤ (↑(digR l).fst : Int) ∧ (↑(digR l).fst : Int) < (18446744073709551616 : Int))))
 (some
 (Fin.ret (AV.int IntKind.i64 (unfN (↑(digR l).fst : Int).toNat)),
 St.mk
 (Ob.cells
 [AV.sl 1 (f && l.length.beq l.length)
 (List.drop (↑(digR l).snd : Int).toNat (List.take l.length l)),
 AV.bool b] ::
 os)
 tk))
 none
 else none))
 none := by kernel_rfl

theorem rdint_nil0 (b : Bool) (os : List Ob) (tk : List (Nat × Nat)) :
 (f64.run 0 [.ptr 0 0] ⟨.cells [.nilsl, .bool b] :: os, tk⟩ : Ans) =
 some (Fin.ret (AV.int IntKind.i64 (0 : Int)), St.mk (Ob.cells [AV.nilsl, AV.bool true] :: os) tk) := by kernel_rfl

theorem rdint_run1 (f b : Bool) (l : List (List AV)) (o : Ob) (os : List Ob) (tk : List (Nat × Nat)) :
 (f64.run 0 [.ptr 1 0] ⟨o :: .cells [.sl 1 f l, .bool b] :: os, tk⟩ : Ans) =
 branch (AV.bool (fit (Br.sl f l)))
 (branch (AV.bool ((↑(digR l).snd : Int) == (0 : Int)))
 (some (Fin.ret (AV.int IntKind.i64 (0 : Int)), St.mk (o :: Ob.cells [AV.nilsl, AV.bool true] :: os) tk))
 (if (0 : Int) ≤ (↑(digR l).snd : Int) ∧ (↑(digR l).snd : Int) ≤ (↑l.length : Int) then
 branch (AV.bool (cdec ((0 : Int) ≤ (↑(digR l).fst : Int) ∧ (↑(digR l).fst : Int) < (18446744073709551616 : Int))))
 (some
 (Fin.ret (AV.int IntKind.i64 (unfN (↑(digR l).fst : Int).toNat)),
 St.mk
 (o ::
 Ob.cells
 [AV.sl 1 (f && l.length.beq l.length)
 (List.drop (↑(digR l).snd : Int).toNat (List.take l.length l)),
 AV.bool b] ::
 os)
 tk))
 none
 else none))
 none := by kernel_rfl

theorem rdint_nil1 (b : Bool) (o : Ob) (os : List Ob) (tk : List (Nat × Nat)) :
 (f64.run 0 [.ptr 1 0] ⟨o :: .cells [.nilsl, .bool b] :: os, tk⟩ : Ans) =
 some (Fin.ret (AV.int IntKind.i64 (0 : Int)), St.mk (o :: Ob.cells [AV.nilsl, AV.bool true] :: os) tk) := by kernel_rfl

theorem text_run (s : ByteArray) (st : St) :
 (f43.run 0 [.str s] st : Ans) =
 branch (AV.bool (i64B (↑s.size : Int)))
 (if
 (St.mk st.objs (st.tk ++ [(1, (intBytes (↑s.size : Int)).length)])).tk[st.tk.length]? =
 some (1, (rb (intBytes (↑s.size : Int))).length) ∧
 ((rb (intBytes (↑s.size : Int))).length +
 (List.map (fun (c : UInt8) => [AV.int IntKind.u8 (↑c.toNat : Int)]) s.data.toList).length) *
 1 ≤
 140737488355328 then
 some
 (Fin.ret
 (AV.lg st.tk.length 1
 (rb (intBytes (↑s.size : Int)) ++
 List.map (fun (c : UInt8) => [AV.int IntKind.u8 (↑c.toNat : Int)]) s.data.toList)),
 St.mk (St.mk st.objs (st.tk ++ [(1, (intBytes (↑s.size : Int)).length)])).objs
 ((St.mk st.objs (st.tk ++ [(1, (intBytes (↑s.size : Int)).length)])).tk.set st.tk.length
 (1,
 (rb (intBytes (↑s.size : Int))).length +
 (List.map (fun (c : UInt8) => [AV.int IntKind.u8 (↑c.toNat : Int)]) s.data.toList).length)))
 else none)
 none := by kernel_rfl

end Go.Proofs.YtcfedmheblbdnaaDoor.K

/- Bits: texts as bytes. -/
set_option linter.unusedVariables false
namespace Go.Proofs.YtcfedmheblbdnaaDoor.K
open Go Go.V Go.RowKit

def dec1s : List AV → Option ByteArray
  | [.str s] => some s
  | _ => none
theorem dec1s_enc (l : List AV) (a : ByteArray) (h : dec1s l = some a) : l = [.str a] := by
  unfold dec1s at h; split at h <;> first | (cases h; rfl) | cases h
/-- A text's own bytes. -/
def own (s : ByteArray) : List Nat := s.data.toList.map UInt8.toNat
/-- A text as bytes. -/
def textBytes (s : ByteArray) : List Nat := intBytes s.size ++ own s
theorem rows_own (s : ByteArray) : rowsOfStr s = rb (own s) := by simp [rowsOfStr, rb, own]
theorem rows_own' (s : ByteArray) : List.map (fun (c : UInt8) => [AV.int IntKind.u8 (c.toNat : Int)]) s.data.toList = rb (own s) := rows_own s
theorem own_length (s : ByteArray) : (own s).length = s.size := by simp [own]
theorem intBytes_length (n : Int) : (intBytes n).length ≤ 10 := encN_len 9 _
def shortS (s : ByteArray) : Bool := decide (s.size < 140737488355300)

theorem f43_spec (s : ByteArray) (h : shortS s = true) (st : St) : f43.run 0 [.str s] st = some (.ret (.lg st.tk.length 1 (rb (textBytes s))), ⟨st.objs, st.tk ++ [(1, (textBytes s).length)]⟩) := by
  have hs : s.size < 140737488355300 := of_decide_eq_true h
  have hl := intBytes_length s.size
  rw [text_run, branch_of (by simp [i64B]; omega), rows_own', if_pos ⟨by rw [rb_length]; exact tk_at _ _, by rw [rb_length, rb_length, own_length]; omega⟩]
  simp only [tk_set, rb_length, textBytes, rb_append, List.length_append]
noncomputable def q43 : OrcS Tryd.prog := f43.effIf dec1s (fun s => [.str s]) dec1s_enc (fun s _ => shortS s) (fun s st => (.lg st.tk.length 1 (rb (textBytes s)), ⟨st.objs, st.tk ++ [(1, (textBytes s).length)]⟩)) fun s st h => ⟨0, f43_spec s h st⟩
end Go.Proofs.YtcfedmheblbdnaaDoor.K

/- Bits: a reader's next number. -/
set_option linter.unusedVariables false
namespace Go.Proofs.YtcfedmheblbdnaaDoor.K
open Go Go.V Go.RowKit

/-- A reader's cells. -/
inductive Rd where
  | nil (b : Bool)
  | sl (f b : Bool) (l : List (List AV))
def Rd.cells : Rd → List AV
  | .nil b => [.nilsl, .bool b]
  | .sl f b l => [.sl 1 f l, .bool b]
def rdOf : List AV → Option Rd
  | [.nilsl, .bool b] => some (.nil b)
  | [.sl 1 f l, .bool b] => some (.sl f b l)
  | _ => none
theorem rdOf_eq {cs : List AV} {r : Rd} (h : rdOf cs = some r) : cs = r.cells := by
  unfold rdOf at h; split at h <;> first | (cases h; rfl) | cases h
/-- A reader at the first or at the second object, and how it is put anew. -/
def rdAt (p : AV) (st : St) : Option (Rd × (AV → Bool → St)) :=
  match p with
  | .ptr 0 0 => match st.objs with
    | .cells cs :: os => match rdOf cs with
      | some r => some (r, fun a b => ⟨.cells [a, .bool b] :: os, st.tk⟩)
      | none => none
    | _ => none
  | .ptr 1 0 => match st.objs with
    | o :: .cells cs :: os => match rdOf cs with
      | some r => some (r, fun a b => ⟨o :: .cells [a, .bool b] :: os, st.tk⟩)
      | none => none
    | _ => none
  | _ => none
theorem rdAt_eq {p : AV} {st : St} {r : Rd} {put : AV → Bool → St} (h : rdAt p st = some (r, put)) :
    (p = .ptr 0 0 ∧ ∃ os, st = ⟨.cells r.cells :: os, st.tk⟩ ∧ put = fun a b => ⟨.cells [a, .bool b] :: os, st.tk⟩) ∨
    (p = .ptr 1 0 ∧ ∃ o os, st = ⟨o :: .cells r.cells :: os, st.tk⟩ ∧ put = fun a b => ⟨o :: .cells [a, .bool b] :: os, st.tk⟩) := by
  obtain ⟨objs, tk⟩ := st
  unfold rdAt at h
  split at h
  · split at h
    · rename_i h1
      split at h
      · rename_i h2
        cases h; simp only at h1; subst h1
        rw [rdOf_eq h2]
        exact .inl ⟨rfl, _, rfl, rfl⟩
      · cases h
    · cases h
  · split at h
    · rename_i h1
      split at h
      · rename_i h2
        cases h; simp only at h1; subst h1
        rw [rdOf_eq h2]
        exact .inr ⟨rfl, _, _, rfl, rfl⟩
      · cases h
    · cases h
  · cases h

theorem f64_spec {p : AV} {st : St} {f b : Bool} {l : List (List AV)} {put : AV → Bool → St} (h : rdAt p st = some (.sl f b l, put)) (hf : fit (.sl f l) = true) :
    f64.run 0 [p] st = match getN (nR l) with
      | none => some (.ret (.int .i64 0), put .nilsl true)
      | some o => some (.ret (.int .i64 o.1), put (.sl 1 f (l.drop o.2)) b) := by
  obtain ⟨h1, h2⟩ := fit_spec hf
  have hb : Nat.beq l.length l.length = true := Nat.beq_refl _
  rcases rdAt_eq h with ⟨rfl, os, hs, rfl⟩ | ⟨rfl, o, os, hs, rfl⟩
  all_goals rw [hs]; simp only [Rd.cells]
  · rw [rdint_run0, branch_of hf, getN_digR]
    by_cases h0 : (digR l).2 = 0
    · rw [branch_of (by simp [h0]), if_pos h0]
    · obtain ⟨h3, h4⟩ := digR_lt (l := l) h1 h0
      rw [branch_not (by simp [h0]), if_pos (by omega), if_neg h0, branch_of (cdec_iff.mpr (by omega))]
      simp
  · rw [rdint_run1, branch_of hf, getN_digR]
    by_cases h0 : (digR l).2 = 0
    · rw [branch_of (by simp [h0]), if_pos h0]
    · obtain ⟨h3, h4⟩ := digR_lt (l := l) h1 h0
      rw [branch_not (by simp [h0]), if_pos (by omega), if_neg h0, branch_of (cdec_iff.mpr (by omega))]
      simp
theorem f64_nil {p : AV} {st : St} {b : Bool} {put : AV → Bool → St} (h : rdAt p st = some (.nil b, put)) : f64.run 0 [p] st = some (.ret (.int .i64 0), put .nilsl true) := by
  rcases rdAt_eq h with ⟨rfl, os, hs, rfl⟩ | ⟨rfl, o, os, hs, rfl⟩
  all_goals rw [hs]; simp only [Rd.cells]
  · rw [rdint_nil0]
  · rw [rdint_nil1]

/-- Reader.Int. -/
noncomputable def q64 : OrcS Tryd.prog := f64.cps
  (fun args st k => match args with
    | [p] => match rdAt p st with
      | some (.nil _, put) => k (.ret (.int .i64 0)) (put .nilsl true)
      | some (.sl f b l, put) => match fit (.sl f l) with
        | true => match getN (nR l) with
          | none => k (.ret (.int .i64 0)) (put .nilsl true)
          | some o => k (.ret (.int .i64 o.1)) (put (.sl 1 f (l.drop o.2)) b)
        | false => none
      | none => none
    | _ => none)
  fun args st k fin h => by
    split at h
    · split at h
      · rename_i h1; exact ⟨_, _, h, 0, f64_nil h1⟩
      · rename_i h1
        split at h
        · rename_i h2
          have := f64_spec h1 h2
          split at h
          · rename_i h3; rw [h3] at this; exact ⟨_, _, h, 0, this⟩
          · rename_i h3; rw [h3] at this; exact ⟨_, _, h, 0, this⟩
        · cases h
      · cases h
    · cases h
end Go.Proofs.YtcfedmheblbdnaaDoor.K

/- The functions' pieces, as told by gen.py. -/
set_option linter.unusedVariables false
set_option maxRecDepth 20000
namespace Go.Proofs.YtcfedmheblbdnaaDoor.K
open Go Go.V Go.RowKit


/-! ### 66: (*interlock/bits.Reader).Text (65); results 2; slots: 0 r, 1 r, 3 n, 4 s -/
noncomputable def f66_b : Sim Tryd.prog :=
 (.seq (.live [0] (.region 0 [
 ⟨(opAssign (some 2) (.const (Value.string { data := #[] })) 9 "bits.go:95" #[]).op, none⟩
 ] (by kernel_rfl)))
 (.seq (.live [0, 3] (.region 1 [
 ⟨(opMove (some 5) (.tmp 0) 65 "bits.go:96" #[]).op, none⟩,
 ⟨opCall (q64).orc (some 6) [(.tmp 5)] #[65] 3 "bits.go:96" #[eD 0], none⟩,
 ⟨(opAssign (some 3) (.tmp 6) 3 "bits.go:96" #[eD 1, eC 1, eP 0, eP 1]).op, none⟩
 ] (by kernel_rfl)))
 (.seq (.seq (.live [0, 3, 17] (.region 2 [
 ⟨(opMove (some 7) (.tmp 3) 3 "bits.go:97" #[]).op, none⟩,
 ⟨(opBin (some 8) .lss 3 (.tmp 7) (.const (Value.int IntKind.i64 0)) 3 4 "bits.go:97" #[eD 0]).op, none⟩,
 ⟨(opMove (some 9) (.tmp 8) 4 "bits.go:97" #[eD 1]).op, none⟩,
 ⟨(opMove (some 10) (.tmp 3) 3 "bits.go:97" #[eG 2]).op, (some (2, 9, false))⟩,
 ⟨(opMove (some 11) (.tmp 0) 65 "bits.go:97" #[eG 2]).op, (some (2, 9, false))⟩,
 ⟨(opNilCheck (some 12) (.tmp 11) 0 "bits.go:97" #[eD 4, eG 2]).op, (some (2, 9, false))⟩,
 ⟨(opFieldAddr (some 13) 89 (.tmp 12) 0 0 1 false fl89_0 (by decide) 0 "bits.go:97" #[eD 5, eG 2]).op, (some (2, 9, false))⟩,
 ⟨(opLoad (some 14) 46 (.tmp 13) (.slice 5) Tryd.underlying46 1 sz46 46 "bits.go:97" #[eD 6, eG 2]).op, (some (2, 9, false))⟩,
 ⟨(opLen (some 15) (.tmp 14) 46 (.slice 5) Tryd.underlying46 3 "bits.go:97" #[eD 7, eG 2]).op, (some (2, 9, false))⟩,
 ⟨(opBin (some 16) .gtr 3 (.tmp 10) (.tmp 15) 3 4 "bits.go:97" #[eD 3, eD 8, eG 2]).op, (some (2, 9, false))⟩,
 ⟨(opPick (some 17) (.tmp 9) (.const (Value.bool true)) (.tmp 16) 4 "bits.go:97" #[eD 2, eD 9]).op, none⟩
 ] (by kernel_rfl)))
 (.cond (.tmp 17)
 (.live [0, 3] (.region 3 [
 ⟨(opMove (some 18) (.tmp 0) 65 "bits.go:98" #[]).op, none⟩,
 ⟨opCall (f65.orc 0) (some 19) [(.tmp 18)] #[65] 0 "bits.go:98" #[eD 0], none⟩
 ] (by kernel_rfl)))
 .skip))
 (.seq (.seq (.live [0, 3, 23] (.region 4 [
 ⟨(opMove (some 20) (.tmp 0) 65 "bits.go:100" #[]).op, none⟩,
 ⟨(opNilCheck (some 21) (.tmp 20) 0 "bits.go:100" #[eD 0]).op, none⟩,
 ⟨(opFieldAddr (some 22) 89 (.tmp 21) 1 1 1 false fl89_1 (by decide) 0 "bits.go:100" #[eD 1]).op, none⟩,
 ⟨(opLoad (some 23) 4 (.tmp 22) .bool Tryd.underlying4 1 sz4 4 "bits.go:100" #[eD 2]).op, none⟩
 ] (by kernel_rfl)))
 (.cond (.tmp 23)
 (.seq (.live [2] (.region 5 [
 ⟨(opAssign (some 2) (.const (Value.string { data := #[] })) 9 "bits.go:101" #[]).op, none⟩
 ] (by kernel_rfl)))
 (.live [2] .ret))
 .skip))
 (.seq (.live [0, 3, 4] (.region 6 [
 ⟨(opMove (some 24) (.tmp 0) 65 "bits.go:103" #[]).op, none⟩,
 ⟨(opNilCheck (some 25) (.tmp 24) 0 "bits.go:103" #[eD 0]).op, none⟩,
 ⟨(opFieldAddr (some 26) 89 (.tmp 25) 0 0 1 false fl89_0 (by decide) 0 "bits.go:103" #[eD 1]).op, none⟩,
 ⟨(opLoad (some 27) 46 (.tmp 26) (.slice 5) Tryd.underlying46 1 sz46 46 "bits.go:103" #[eD 2]).op, none⟩,
 ⟨(opMove (some 28) (.tmp 3) 3 "bits.go:103" #[]).op, none⟩,
 ⟨(opSlice (some 29) 46 (.tmp 27) none (some (.tmp 28)) none 5 1 Tryd.underlying46 sz5 46 "bits.go:103" #[eD 3, eD 4]).op, none⟩,
 ⟨(opBytesStr (some 30) 46 9 (.tmp 29) 5 Tryd.underlying46 Tryd.underlying5 Tryd.underlying9 9 "bits.go:103" #[eD 5]).op, none⟩,
 ⟨(opAssign (some 4) (.tmp 30) 9 "bits.go:103" #[eD 6, eP 0, eP 1, eP 2, eP 3, eP 4, eP 5, eP 6]).op, none⟩
 ] (by kernel_rfl)))
 (.seq (.live [4] (.region 7 [
 ⟨(opMove (some 31) (.tmp 0) 65 "bits.go:104" #[]).op, none⟩,
 ⟨(opMove (some 32) (.tmp 0) 65 "bits.go:104" #[]).op, none⟩,
 ⟨(opNilCheck (some 33) (.tmp 32) 0 "bits.go:104" #[eD 1]).op, none⟩,
 ⟨(opFieldAddr (some 34) 89 (.tmp 33) 0 0 1 false fl89_0 (by decide) 0 "bits.go:104" #[eD 2]).op, none⟩,
 ⟨(opLoad (some 35) 46 (.tmp 34) (.slice 5) Tryd.underlying46 1 sz46 46 "bits.go:104" #[eD 3]).op, none⟩,
 ⟨(opMove (some 36) (.tmp 3) 3 "bits.go:104" #[]).op, none⟩,
 ⟨(opSlice (some 37) 46 (.tmp 35) (some (.tmp 36)) none none 5 1 Tryd.underlying46 sz5 46 "bits.go:104" #[eD 4, eD 5]).op, none⟩,
 ⟨(opNilCheck (some 38) (.tmp 31) 0 "bits.go:104" #[eD 0, eP 0, eP 1, eP 2, eP 3, eP 4, eP 5, eP 6]).op, none⟩,
 ⟨(opFieldAddr (some 39) 89 (.tmp 38) 0 0 1 false fl89_0 (by decide) 0 "bits.go:104" #[eD 7, eP 0, eP 1, eP 2, eP 3, eP 4, eP 5, eP 6]).op, none⟩,
 ⟨(opStore none 46 (.tmp 39) (.tmp 37) 1 sz46 0 "bits.go:104" #[eD 8, eD 6, eP 0, eP 1, eP 2, eP 3, eP 4, eP 5, eP 6]).op, none⟩
 ] (by kernel_rfl)))
 (.seq (.live [2] (.region 8 [
 ⟨(opMove (some 40) (.tmp 4) 9 "bits.go:105" #[]).op, none⟩,
 ⟨(opAssign (some 2) (.tmp 40) 9 "bits.go:105" #[eD 0, eP 0]).op, none⟩
 ] (by kernel_rfl)))
 (.live [2] .ret))))))))

noncomputable def f66 : Fun Tryd.prog where
 id := 66
 fn := Tryd.f66
 hf := Tryd.func66
 hname := by kernel_rfl
 body := f66_b
 hbody := by kernel_rfl
 res := [rTmp 2]
 hres := by kernel_rfl
 n := 41
 hn := by kernel_rfl

/-! ### 47: (*interlock/bits.Reader).Count (65, 3); results 4; slots: 0 r, 1 most, 2 r, 3 most, 5 n -/
noncomputable def f47_b : Sim Tryd.prog :=
 (.seq (.live [0, 1] (.region 0 [
 ⟨(opAssign (some 4) (.const (Value.int IntKind.i64 0)) 3 "bits.go:83" #[]).op, none⟩
 ] (by kernel_rfl)))
 (.seq (.live [0, 1, 5] (.region 1 [
 ⟨(opMove (some 6) (.tmp 0) 65 "bits.go:84" #[]).op, none⟩,
 ⟨opCall (q64).orc (some 7) [(.tmp 6)] #[65] 3 "bits.go:84" #[eD 0], none⟩,
 ⟨(opAssign (some 5) (.tmp 7) 3 "bits.go:84" #[eD 1, eC 1, eP 0, eP 1]).op, none⟩
 ] (by kernel_rfl)))
 (.seq (.seq (.live [0, 5, 14] (.region 2 [
 ⟨(opMove (some 8) (.tmp 5) 3 "bits.go:85" #[]).op, none⟩,
 ⟨(opBin (some 9) .lss 3 (.tmp 8) (.const (Value.int IntKind.i64 0)) 3 4 "bits.go:85" #[eD 0]).op, none⟩,
 ⟨(opMove (some 10) (.tmp 9) 4 "bits.go:85" #[eD 1]).op, none⟩,
 ⟨(opMove (some 11) (.tmp 5) 3 "bits.go:85" #[eG 2]).op, (some (2, 10, false))⟩,
 ⟨(opMove (some 12) (.tmp 1) 3 "bits.go:85" #[eG 2]).op, (some (2, 10, false))⟩,
 ⟨(opBin (some 13) .gtr 3 (.tmp 11) (.tmp 12) 3 4 "bits.go:85" #[eD 3, eD 4, eG 2]).op, (some (2, 10, false))⟩,
 ⟨(opPick (some 14) (.tmp 10) (.const (Value.bool true)) (.tmp 13) 4 "bits.go:85" #[eD 2, eD 5]).op, none⟩
 ] (by kernel_rfl)))
 (.cond (.tmp 14)
 (.live [0, 5] (.region 3 [
 ⟨(opMove (some 15) (.tmp 0) 65 "bits.go:86" #[]).op, none⟩,
 ⟨opCall (f65.orc 0) (some 16) [(.tmp 15)] #[65] 0 "bits.go:86" #[eD 0], none⟩
 ] (by kernel_rfl)))
 .skip))
 (.seq (.seq (.live [5, 20] (.region 4 [
 ⟨(opMove (some 17) (.tmp 0) 65 "bits.go:88" #[]).op, none⟩,
 ⟨(opNilCheck (some 18) (.tmp 17) 0 "bits.go:88" #[eD 0]).op, none⟩,
 ⟨(opFieldAddr (some 19) 89 (.tmp 18) 1 1 1 false fl89_1 (by decide) 0 "bits.go:88" #[eD 1]).op, none⟩,
 ⟨(opLoad (some 20) 4 (.tmp 19) .bool Tryd.underlying4 1 sz4 4 "bits.go:88" #[eD 2]).op, none⟩
 ] (by kernel_rfl)))
 (.cond (.tmp 20)
 (.seq (.live [4] (.region 5 [
 ⟨(opAssign (some 4) (.const (Value.int IntKind.i64 0)) 3 "bits.go:89" #[]).op, none⟩
 ] (by kernel_rfl)))
 (.live [4] .ret))
 .skip))
 (.seq (.live [4] (.region 6 [
 ⟨(opMove (some 21) (.tmp 5) 3 "bits.go:91" #[]).op, none⟩,
 ⟨(opAssign (some 4) (.tmp 21) 3 "bits.go:91" #[eD 0, eP 0]).op, none⟩
 ] (by kernel_rfl)))
 (.live [4] .ret))))))

noncomputable def f47 : Fun Tryd.prog where
 id := 47
 fn := Tryd.f47
 hf := Tryd.func47
 hname := by kernel_rfl
 body := f47_b
 hbody := by kernel_rfl
 res := [rTmp 4]
 hres := by kernel_rfl
 n := 22
 hn := by kernel_rfl

end Go.Proofs.YtcfedmheblbdnaaDoor.K

/- What the functions' runs come to; the right sides were printed by a tool, Lean checks them. -/
set_option linter.unusedVariables false
set_option maxRecDepth 100000
namespace Go.Proofs.YtcfedmheblbdnaaDoor.K
open Go Go.V Go.RowKit

theorem rdtext_run0 (f : Bool) (l : List (List AV)) (os : List Ob) (tk : List (Nat × Nat)) :
 (f66.run 0 [.ptr 0 0] ⟨.cells [.sl 1 f l, .bool false] :: os, tk⟩ : Ans) =
 branch (AV.bool (fit (Br.sl f l)))
 (onSome (getN (nR l)) (some (Fin.ret (AV.str (ByteArray.mk #[])), St.mk (Ob.cells [AV.nilsl, AV.bool true] :: os) tk))
 fun (o : Int × Nat) =>
 branch (AV.bool (decide (o.fst < (0 : Int))))
 (some (Fin.ret (AV.str (ByteArray.mk #[])), St.mk (Ob.cells [AV.nilsl, AV.bool true] :: os) tk))
 (branch (AV.bool (decide (o.fst > (↑(List.drop o.snd l).length : Int))))
 (some (Fin.ret (AV.str (ByteArray.mk #[])), St.mk (Ob.cells [AV.nilsl, AV.bool true] :: os) tk))
 (if (0 : Int) ≤ o.fst ∧ o.fst ≤ (↑(List.drop o.snd l).length : Int) then
 onSome (numsOf (List.drop 0 (List.take o.fst.toNat (List.drop o.snd l)))) none fun (o_1 : List Int) =>
 if (0 : Int) ≤ o.fst ∧ o.fst ≤ (↑(List.drop o.snd l).length : Int) then
 some
 (Fin.ret (AV.str (textOf o_1)),
 St.mk
 (Ob.cells
 [AV.sl 1 (f && (List.drop o.snd l).length.beq (List.drop o.snd l).length)
 (List.drop o.fst.toNat (List.take (List.drop o.snd l).length (List.drop o.snd l))),
 AV.bool false] ::
 os)
 tk)
 else none
 else none)))
 none := by kernel_rfl

theorem rdtext_nil0 (b : Bool) (os : List Ob) (tk : List (Nat × Nat)) :
 (f66.run 0 [.ptr 0 0] ⟨.cells [.nilsl, .bool b] :: os, tk⟩ : Ans) =
 some (Fin.ret (AV.str (ByteArray.mk #[])), St.mk (Ob.cells [AV.nilsl, AV.bool true] :: os) tk) := by kernel_rfl

theorem rdtext_run1 (f : Bool) (l : List (List AV)) (o : Ob) (os : List Ob) (tk : List (Nat × Nat)) :
 (f66.run 0 [.ptr 1 0] ⟨o :: .cells [.sl 1 f l, .bool false] :: os, tk⟩ : Ans) =
 branch (AV.bool (fit (Br.sl f l)))
 (onSome (getN (nR l))
 (some (Fin.ret (AV.str (ByteArray.mk #[])), St.mk (o :: Ob.cells [AV.nilsl, AV.bool true] :: os) tk))
 fun (o_1 : Int × Nat) =>
 branch (AV.bool (decide (o_1.fst < (0 : Int))))
 (some (Fin.ret (AV.str (ByteArray.mk #[])), St.mk (o :: Ob.cells [AV.nilsl, AV.bool true] :: os) tk))
 (branch (AV.bool (decide (o_1.fst > (↑(List.drop o_1.snd l).length : Int))))
 (some (Fin.ret (AV.str (ByteArray.mk #[])), St.mk (o :: Ob.cells [AV.nilsl, AV.bool true] :: os) tk))
 (if (0 : Int) ≤ o_1.fst ∧ o_1.fst ≤ (↑(List.drop o_1.snd l).length : Int) then
 onSome (numsOf (List.drop 0 (List.take o_1.fst.toNat (List.drop o_1.snd l)))) none
 fun (o_2 : List Int) =>
 if (0 : Int) ≤ o_1.fst ∧ o_1.fst ≤ (↑(List.drop o_1.snd l).length : Int) then
 some
 (Fin.ret (AV.str (textOf o_2)),
 St.mk
 (o ::
 Ob.cells
 [AV.sl 1 (f && (List.drop o_1.snd l).length.beq (List.drop o_1.snd l).length)
 (List.drop o_1.fst.toNat (List.take (List.drop o_1.snd l).length (List.drop o_1.snd l))),
 AV.bool false] ::
 os)
 tk)
 else none
 else none)))
 none := by kernel_rfl

theorem rdtext_nil1 (b : Bool) (o : Ob) (os : List Ob) (tk : List (Nat × Nat)) :
 (f66.run 0 [.ptr 1 0] ⟨o :: .cells [.nilsl, .bool b] :: os, tk⟩ : Ans) =
 some (Fin.ret (AV.str (ByteArray.mk #[])), St.mk (o :: Ob.cells [AV.nilsl, AV.bool true] :: os) tk) := by kernel_rfl

theorem rdcount_run0 (f : Bool) (n : Int) (l : List (List AV)) (os : List Ob) (tk : List (Nat × Nat)) :
 (f47.run 0 [.ptr 0 0, .int .i64 n] ⟨.cells [.sl 1 f l, .bool false] :: os, tk⟩ : Ans) =
 branch (AV.bool (fit (Br.sl f l)))
 (onSome (getN (nR l))
 (branch (AV.bool (decide ((0 : Int) > n)))
 (some (Fin.ret (AV.int IntKind.i64 (0 : Int)), St.mk (Ob.cells [AV.nilsl, AV.bool true] :: os) tk))
 (some (Fin.ret (AV.int IntKind.i64 (0 : Int)), St.mk (Ob.cells [AV.nilsl, AV.bool true] :: os) tk)))
 fun (o : Int × Nat) =>
 branch (AV.bool (decide (o.fst < (0 : Int))))
 (some (Fin.ret (AV.int IntKind.i64 (0 : Int)), St.mk (Ob.cells [AV.nilsl, AV.bool true] :: os) tk))
 (branch (AV.bool (decide (o.fst > n)))
 (some (Fin.ret (AV.int IntKind.i64 (0 : Int)), St.mk (Ob.cells [AV.nilsl, AV.bool true] :: os) tk))
 (some
 (Fin.ret (AV.int IntKind.i64 o.fst),
 St.mk (Ob.cells [AV.sl 1 f (List.drop o.snd l), AV.bool false] :: os) tk))))
 none := by kernel_rfl

theorem rdcount_nil0 (b : Bool) (n : Int) (os : List Ob) (tk : List (Nat × Nat)) :
 (f47.run 0 [.ptr 0 0, .int .i64 n] ⟨.cells [.nilsl, .bool b] :: os, tk⟩ : Ans) =
 branch (AV.bool (decide ((0 : Int) > n)))
 (some (Fin.ret (AV.int IntKind.i64 (0 : Int)), St.mk (Ob.cells [AV.nilsl, AV.bool true] :: os) tk))
 (some (Fin.ret (AV.int IntKind.i64 (0 : Int)), St.mk (Ob.cells [AV.nilsl, AV.bool true] :: os) tk)) := by kernel_rfl

end Go.Proofs.YtcfedmheblbdnaaDoor.K

/- Bits: a reader's next text, and the next count. -/
set_option linter.unusedVariables false
namespace Go.Proofs.YtcfedmheblbdnaaDoor.K
open Go Go.V Go.RowKit

/-- Bytes as a text. -/
def txt (l : List Nat) : ByteArray := textOf (l.map fun (b : Nat) => (b : Int))
theorem foldl_push (l : List Nat) : ∀ r : ByteArray, ((l.map fun (b : Nat) => (b : Int)).foldl (fun r n => r.push (UInt8.ofNat n.toNat)) r).data.toList = r.data.toList ++ l.map fun (b : Nat) => UInt8.ofNat b := by
  induction l with
  | nil => intro r; simp
  | cons b l ih =>
    intro r
    simp only [List.map_cons, List.foldl_cons, ih, Int.toNat_natCast]
    simp [ByteArray.push]
theorem own_txt {l : List Nat} (h : ∀ b ∈ l, b < 256) : own (txt l) = l := by
  unfold own txt textOf
  rw [foldl_push]
  simp only [show ByteArray.empty.data.toList = [] from rfl, List.nil_append, List.map_map]
  conv => rhs; rw [← List.map_id l]
  exact List.map_congr_left fun b hb => by
    simp only [Function.comp, UInt8.toNat_ofNat', id]
    exact Nat.mod_eq_of_lt (h b hb)
theorem own_inj {s t : ByteArray} (h : own s = own t) : s = t := by
  unfold own at h
  have h2 : s.data.toList = t.data.toList := List.map_inj_right (f := UInt8.toNat) (fun _ _ e => UInt8.toNat_inj.mp e) |>.mp h
  have h3 : s.data = t.data := Array.toList_inj.mp h2
  cases s; cases t; simp only at h3; rw [h3]
theorem own_lt (s : ByteArray) : ∀ b ∈ own s, b < 256 := by
  intro b hb
  obtain ⟨x, _, rfl⟩ := List.mem_map.mp hb
  exact x.toNat_lt
theorem txt_own (s : ByteArray) : txt (own s) = s := own_inj (own_txt (own_lt s))

/-- The text that bytes begin with, and how many bytes it has. -/
def getS (l : List Nat) : Option (ByteArray × Nat) :=
  match getN l with
  | none => none
  | some o => if o.1 < 0 ∨ ((l.length - o.2 : Nat) : Int) < o.1 then none else some (txt ((l.drop o.2).take o.1.toNat), o.2 + o.1.toNat)
/-- The number from 0 to most that bytes begin with. -/
def getC (most : Int) (l : List Nat) : Option (Int × Nat) :=
  match getN l with
  | none => none
  | some o => if o.1 < 0 ∨ most < o.1 then none else some o

theorem numsOf_ok {l : List (List AV)} (h : okR l = true) : numsOf l = some (iR l) := by
  conv => lhs; rw [okR_ri h]
  exact numsOf_map _

def noText : ByteArray := ByteArray.mk #[]
theorem f66_spec {p : AV} {st : St} {f : Bool} {l : List (List AV)} {put : AV → Bool → St} (h : rdAt p st = some (.sl f false l, put)) (hf : fit (.sl f l) = true) :
    f66.run 0 [p] st = match getS (nR l) with
      | none => some (.ret (.str noText), put .nilsl true)
      | some o => some (.ret (.str o.1), put (.sl 1 f (l.drop o.2)) false) := by
  obtain ⟨h1, h2⟩ := fit_spec hf
  rcases rdAt_eq h with ⟨rfl, os, hs, rfl⟩ | ⟨rfl, o, os, hs, rfl⟩
  all_goals rw [hs]; simp only [Rd.cells]
  · rw [rdtext_run0, branch_of hf, getS]
    cases hg : getN (nR l) with
    | none => rfl
    | some o =>
      obtain ⟨n, k⟩ := o
      simp only [onSome, List.length_drop, nR_length]
      by_cases hn : n < 0
      · rw [branch_of (by simpa using hn), if_pos (.inl hn)]; rfl
      · rw [branch_not (by simpa using hn)]
        by_cases hm : ((l.length - k : Nat) : Int) < n
        · rw [branch_of (by simpa using hm), if_pos (.inr hm)]; rfl
        · rw [branch_not (by simpa using hm), if_pos (by omega), if_neg (by omega), List.drop_zero, numsOf_ok (okR_take (okR_drop (l := l) h1 _) _)]
          simp only
          rw [if_pos (by omega), show (List.take (l.length - k) (List.drop k l)) = List.drop k l from List.take_of_length_le (by simp)]
          simp only [Nat.beq_refl, Bool.and_true, List.drop_drop, iR, nR_take, nR_drop, txt]
  · rw [rdtext_run1, branch_of hf, getS]
    cases hg : getN (nR l) with
    | none => rfl
    | some o =>
      obtain ⟨n, k⟩ := o
      simp only [onSome, List.length_drop, nR_length]
      by_cases hn : n < 0
      · rw [branch_of (by simpa using hn), if_pos (.inl hn)]; rfl
      · rw [branch_not (by simpa using hn)]
        by_cases hm : ((l.length - k : Nat) : Int) < n
        · rw [branch_of (by simpa using hm), if_pos (.inr hm)]; rfl
        · rw [branch_not (by simpa using hm), if_pos (by omega), if_neg (by omega), List.drop_zero, numsOf_ok (okR_take (okR_drop (l := l) h1 _) _)]
          simp only
          rw [if_pos (by omega), show (List.take (l.length - k) (List.drop k l)) = List.drop k l from List.take_of_length_le (by simp)]
          simp only [Nat.beq_refl, Bool.and_true, List.drop_drop, iR, nR_take, nR_drop, txt]
theorem f66_nil {p : AV} {st : St} {b : Bool} {put : AV → Bool → St} (h : rdAt p st = some (.nil b, put)) : f66.run 0 [p] st = some (.ret (.str noText), put .nilsl true) := by
  rcases rdAt_eq h with ⟨rfl, os, hs, rfl⟩ | ⟨rfl, o, os, hs, rfl⟩
  all_goals rw [hs]; simp only [Rd.cells]
  · rw [rdtext_nil0]; rfl
  · rw [rdtext_nil1]; rfl
/-- Reader.Text. -/
noncomputable def q66 : OrcS Tryd.prog := f66.cps
  (fun args st k => match args with
    | [p] => match rdAt p st with
      | some (.nil _, put) => k (.ret (.str noText)) (put .nilsl true)
      | some (.sl f false l, put) => match fit (.sl f l) with
        | true => match getS (nR l) with
          | none => k (.ret (.str noText)) (put .nilsl true)
          | some o => k (.ret (.str o.1)) (put (.sl 1 f (l.drop o.2)) false)
        | false => none
      | _ => none
    | _ => none)
  fun args st k fin h => by
    split at h
    · split at h
      · rename_i h1; exact ⟨_, _, h, 0, f66_nil h1⟩
      · rename_i h1
        split at h
        · rename_i h2
          have := f66_spec h1 h2
          split at h
          · rename_i h3; rw [h3] at this; exact ⟨_, _, h, 0, this⟩
          · rename_i h3; rw [h3] at this; exact ⟨_, _, h, 0, this⟩
        · cases h
      · cases h
    · cases h

theorem f47_spec {st : St} {f : Bool} {l : List (List AV)} {n : Int} {put : AV → Bool → St} (h : rdAt (.ptr 0 0) st = some (.sl f false l, put)) (hf : fit (.sl f l) = true) :
    f47.run 0 [.ptr 0 0, .int .i64 n] st = match getC n (nR l) with
      | none => some (.ret (.int .i64 0), put .nilsl true)
      | some o => some (.ret (.int .i64 o.1), put (.sl 1 f (l.drop o.2)) false) := by
  rcases rdAt_eq h with ⟨_, os, hs, rfl⟩ | ⟨h3, o, os, hs, rfl⟩
  · rw [hs]; simp only [Rd.cells]
    rw [rdcount_run0, branch_of hf, getC]
    cases hg : getN (nR l) with
    | none => simp only [onSome]; cases decide (0 > n) <;> rfl
    | some o =>
      obtain ⟨m, k⟩ := o
      simp only [onSome]
      by_cases hn : m < 0
      · rw [branch_of (by simpa using hn), if_pos (.inl hn)]
      · rw [branch_not (by simpa using hn)]
        by_cases hm : n < m
        · rw [branch_of (by simpa using hm), if_pos (.inr hm)]
        · rw [branch_not (by simpa using hm), if_neg (by omega)]
  · cases h3
theorem f47_nil {st : St} {b : Bool} {n : Int} {put : AV → Bool → St} (h : rdAt (.ptr 0 0) st = some (.nil b, put)) : f47.run 0 [.ptr 0 0, .int .i64 n] st = some (.ret (.int .i64 0), put .nilsl true) := by
  rcases rdAt_eq h with ⟨_, os, hs, rfl⟩ | ⟨h3, o, os, hs, rfl⟩
  · rw [hs]; simp only [Rd.cells]
    rw [rdcount_nil0]
    cases decide (0 > n) <;> rfl
  · cases h3
/-- Reader.Count. -/
noncomputable def q47 : OrcS Tryd.prog := f47.cps
  (fun args st k => match args with
    | [.ptr 0 0, .int .i64 n] => match rdAt (.ptr 0 0) st with
      | some (.nil _, put) => k (.ret (.int .i64 0)) (put .nilsl true)
      | some (.sl f false l, put) => match fit (.sl f l) with
        | true => match getC n (nR l) with
          | none => k (.ret (.int .i64 0)) (put .nilsl true)
          | some o => k (.ret (.int .i64 o.1)) (put (.sl 1 f (l.drop o.2)) false)
        | false => none
      | _ => none
    | _ => none)
  fun args st k fin h => by
    split at h
    · split at h
      · rename_i h1; exact ⟨_, _, h, 0, f47_nil h1⟩
      · rename_i h1
        split at h
        · rename_i h2
          split at h
          · rename_i h3; exact ⟨_, _, h, 0, by rw [f47_spec h1 h2, h3]⟩
          · rename_i h3; exact ⟨_, _, h, 0, by rw [f47_spec h1 h2, h3]⟩
        · cases h
      · cases h
    · cases h
end Go.Proofs.YtcfedmheblbdnaaDoor.K

/- The functions' pieces, as told by gen.py. -/
set_option linter.unusedVariables false
set_option maxRecDepth 20000
namespace Go.Proofs.YtcfedmheblbdnaaDoor.Z
open Go Go.V Go.RowKit Go.Proofs.YtcfedmheblbdnaaDoor.V

theorem sz24 : (Tryd.prog.info? 24).map (·.size) = some 3 := by kernel_rfl
noncomputable abbrev d24 : TypeDesc := (Tryd.prog.underlying 24).getD .bool
theorem ud24 : Tryd.prog.underlying 24 = some d24 := by kernel_rfl
theorem ze24 : (Tryd.prog.info? 24).bind (·.zero) = some (.agg #[(.int .i64 0), (.int .i64 0), (.string ⟨#[]⟩)]) := by kernel_rfl
theorem fl24_0 : fieldB Tryd.prog 24 0 0 1 false = true := by kernel_rfl
theorem sz3 : (Tryd.prog.info? 3).map (·.size) = some 1 := by kernel_rfl
theorem ze5 : (Tryd.prog.info? 5).bind (·.zero) = some (.int .u8 0) := by kernel_rfl
theorem by5 : (Tryd.prog.info? 5).map (·.bytes) = some 1 := by kernel_rfl
theorem sz5 : (Tryd.prog.info? 5).map (·.size) = some 1 := by kernel_rfl
theorem el46 : ElemOf Tryd.prog 46 5 1 1 (.int .u8 0) := ⟨Tryd.underlying46, sz5, by5, ze5, by kernel_rfl, by decide⟩
theorem fl24_1 : fieldB Tryd.prog 24 1 1 1 false = true := by kernel_rfl
theorem fl24_2 : fieldB Tryd.prog 24 2 2 1 false = true := by kernel_rfl
theorem sz9 : (Tryd.prog.info? 9).map (·.size) = some 1 := by kernel_rfl

/-! ### 25: interlock/value.Encode (37); results 2, 3; slots: 0 r, 1 r, 4 out, 5 _, 6 v -/
/-- A loop's round; at its head live: 4 out, 13 , 14 , 15  -/
noncomputable def f25_l0 : Sim Tryd.prog :=
 (.seq (.live [4, 13, 14, 15, 16] (.region 5 [
 ⟨(opBin (some 16) .lss 3 (.tmp 15) (.tmp 14) 3 0 "value.go:84" #[]).op, none⟩
 ] (by kernel_rfl)))
 (.seq (.cond (.tmp 16)
 .skip
 (.live [4] (.exit 0)))
 (.seq (.block 1 (.seq (.live [4, 6, 13, 14, 15] (.items 6 [
 .one ((opIndexAddrT (some 17) 37 (.tmp 13) (.tmp 15) 24 3 Tryd.underlying37 sz24 0 "value.go:84" #[]).op),
 .one ((opLoadT (.agg [(.int .i64), (.int .i64), .str]) (some 18) 24 (.tmp 17) d24 ud24 3 sz24 (by kernel_rfl) 24 "value.go:84" #[eD 0]).op),
 .two (op2Box 6 24 (.agg #[(.int .i64 0), (.int .i64 0), (.string ⟨#[]⟩)]) ze24 (.tmp 18) (by rfl) 3 sz24 (by kernel_rfl) 43 (by rfl) 0 0 "value.go:84" "value.go:84" #[] #[eD 2, eD 1, eP 0, eP 1, eP 2])
 ]))
 (.seq (.live [4, 6, 13, 14, 15] (.region 7 [
 ⟨(opMove (some 19) (.tmp 4) 46 "value.go:85" #[]).op, none⟩,
 ⟨(opFieldAddr (some 20) 24 (.tmp 6) 0 0 1 false fl24_0 (by decide) 0 "value.go:85" #[]).op, none⟩,
 ⟨(opLoadT (.one (.int .i64)) (some 21) 3 (.tmp 20) (.int .i64) Tryd.underlying3 1 sz3 (by kernel_rfl) 3 "value.go:85" #[eD 1]).op, none⟩,
 ⟨opCall (K.q42).orc (some 22) [(.tmp 21)] #[3] 46 "value.go:85" #[eD 2], none⟩,
 ⟨(opAppend (some 23) (.tmp 19) (.tmp 22) 46 46 5 1 1 (.int .u8 0) el46 (.slice 5) Tryd.underlying46 rfl 46 "value.go:85" #[eD 0, eD 3, eC 3]).op, none⟩,
 ⟨(opAssign (some 4) (.tmp 23) 46 "value.go:85" #[eD 4, eC 4, eP 0, eP 1, eP 2, eP 3, eP 4]).op, none⟩
 ] (by kernel_rfl)))
 (.seq (.live [4, 6, 13, 14, 15, 25] (.region 8 [
 ⟨(opFieldAddr (some 24) 24 (.tmp 6) 0 0 1 false fl24_0 (by decide) 0 "value.go:86" #[]).op, none⟩,
 ⟨(opLoadT (.one (.int .i64)) (some 25) 3 (.tmp 24) (.int .i64) Tryd.underlying3 1 sz3 (by kernel_rfl) 3 "value.go:86" #[eD 0]).op, none⟩
 ] (by kernel_rfl)))
 (.block 2 (.seq (.seq (.live [4, 6, 13, 14, 15, 25, 26] (.region 9 [
 ⟨(opBin (some 27) .eql 3 (.tmp 25) (.const (Value.int IntKind.i64 1)) 3 4 "value.go:87" #[]).op, none⟩,
 ⟨(opAssign (some 26) (.tmp 27) 4 "value.go:87" #[eD 0]).op, none⟩
 ] (by kernel_rfl)))
 (.cond (.tmp 26)
 .skip
 (.live [4, 6, 13, 14, 15, 25, 26] (.region 10 [
 ⟨(opBin (some 28) .eql 3 (.tmp 25) (.const (Value.int IntKind.i64 2)) 3 4 "value.go:87" #[]).op, none⟩,
 ⟨(opAssign (some 26) (.tmp 28) 4 "value.go:87" #[eD 0]).op, none⟩
 ] (by kernel_rfl)))))
 (.cond (.tmp 26)
 (.live [4, 13, 14, 15] (.region 11 [
 ⟨(opMove (some 29) (.tmp 4) 46 "value.go:88" #[]).op, none⟩,
 ⟨(opFieldAddr (some 30) 24 (.tmp 6) 1 1 1 false fl24_1 (by decide) 0 "value.go:88" #[]).op, none⟩,
 ⟨(opLoadT (.one (.int .i64)) (some 31) 3 (.tmp 30) (.int .i64) Tryd.underlying3 1 sz3 (by kernel_rfl) 3 "value.go:88" #[eD 1]).op, none⟩,
 ⟨opCall (K.q42).orc (some 32) [(.tmp 31)] #[3] 46 "value.go:88" #[eD 2], none⟩,
 ⟨(opAppend (some 33) (.tmp 29) (.tmp 32) 46 46 5 1 1 (.int .u8 0) el46 (.slice 5) Tryd.underlying46 rfl 46 "value.go:88" #[eD 0, eD 3, eC 3]).op, none⟩,
 ⟨(opAssign (some 4) (.tmp 33) 46 "value.go:88" #[eD 4, eC 4, eP 0, eP 1, eP 2, eP 3, eP 4]).op, none⟩
 ] (by kernel_rfl)))
 (.seq (.live [4, 6, 13, 14, 15, 34] (.region 12 [
 ⟨(opBin (some 35) .eql 3 (.tmp 25) (.const (Value.int IntKind.i64 3)) 3 4 "value.go:89" #[]).op, none⟩,
 ⟨(opAssign (some 34) (.tmp 35) 4 "value.go:89" #[eD 0]).op, none⟩
 ] (by kernel_rfl)))
 (.cond (.tmp 34)
 (.live [4, 13, 14, 15] (.region 13 [
 ⟨(opMove (some 36) (.tmp 4) 46 "value.go:90" #[]).op, none⟩,
 ⟨(opFieldAddr (some 37) 24 (.tmp 6) 2 2 1 false fl24_2 (by decide) 0 "value.go:90" #[]).op, none⟩,
 ⟨(opLoadT (.one .str) (some 38) 9 (.tmp 37) .string Tryd.underlying9 1 sz9 (by kernel_rfl) 9 "value.go:90" #[eD 1]).op, none⟩,
 ⟨opCall (K.q43).orc (some 39) [(.tmp 38)] #[9] 46 "value.go:90" #[eD 2], none⟩,
 ⟨(opAppend (some 40) (.tmp 36) (.tmp 39) 46 46 5 1 1 (.int .u8 0) el46 (.slice 5) Tryd.underlying46 rfl 46 "value.go:90" #[eD 0, eD 3, eC 3]).op, none⟩,
 ⟨(opAssign (some 4) (.tmp 40) 46 "value.go:90" #[eD 4, eC 4, eP 0, eP 1, eP 2, eP 3, eP 4]).op, none⟩
 ] (by kernel_rfl)))
 .skip)))))))))
 (.live [4, 13, 14, 15] (.region 14 [
 ⟨(opBin (some 41) .add 3 (.tmp 15) (.const (Value.int IntKind.i64 1)) 3 3 "value.go:84" #[]).op, none⟩,
 ⟨(opMove (some 15) (.tmp 41) 3 "value.go:84" #[eD 0]).op, none⟩
 ] (by kernel_rfl))))))

/-- What follows a loop. -/
noncomputable def f25_r0 : Sim Tryd.prog :=
 (.seq (.live [2, 3] (.region 15 [
 ⟨(opMove (some 42) (.tmp 4) 46 "value.go:93" #[]).op, none⟩,
 ⟨(opAssign (some 2) (.tmp 42) 46 "value.go:93" #[eD 0, eP 0]).op, none⟩,
 ⟨(opAssign (some 3) (.const (Value.bool true)) 4 "value.go:93" #[eC 1, eP 0, eP 1]).op, none⟩
 ] (by kernel_rfl)))
 (.live [2, 3] .ret))

noncomputable def f25_b : Sim Tryd.prog :=
 (.seq (.live [0] (.region 0 [
 ⟨(opAssign (some 2) (.const (Value.slice none 0 0)) 46 "value.go:79" #[]).op, none⟩,
 ⟨(opAssign (some 3) (.const (Value.bool false)) 4 "value.go:79" #[eC 0]).op, none⟩
 ] (by kernel_rfl)))
 (.seq (.seq (.live [0, 9] (.region 1 [
 ⟨(opMove (some 7) (.tmp 0) 37 "value.go:80" #[]).op, none⟩,
 ⟨(opCallP p26 (some 8) [(.tmp 7)] #[37] 4 "value.go:80" #[eD 0]).op, none⟩,
 ⟨(opNot (some 9) 4 (.tmp 8) 4 "value.go:80" #[eD 1]).op, none⟩
 ] (by kernel_rfl)))
 (.cond (.tmp 9)
 (.seq (.live [2, 3] (.region 2 [
 ⟨(opAssign (some 2) (.const (Value.slice none 0 0)) 46 "value.go:81" #[]).op, none⟩,
 ⟨(opAssign (some 3) (.const (Value.bool false)) 4 "value.go:81" #[eC 0, eP 0]).op, none⟩
 ] (by kernel_rfl)))
 (.live [2, 3] .ret))
 .skip))
 (.seq (.live [0, 4] (.region 3 [
 ⟨(opMove (some 10) (.tmp 0) 37 "value.go:83" #[]).op, none⟩,
 ⟨(opLen (some 11) (.tmp 10) 37 (.slice 24) Tryd.underlying37 3 "value.go:83" #[eD 0]).op, none⟩,
 ⟨opCall (K.q42).orc (some 12) [(.tmp 11)] #[3] 46 "value.go:83" #[eD 1], none⟩,
 ⟨(opAssign (some 4) (.tmp 12) 46 "value.go:83" #[eD 2, eC 2, eP 0, eP 1, eP 2]).op, none⟩
 ] (by kernel_rfl)))
 (.seq (.seq (.live [4, 13, 14, 15] (.region 4 [
 ⟨(opMove (some 13) (.tmp 0) 37 "value.go:84" #[]).op, none⟩,
 ⟨(opLen (some 14) (.tmp 13) 37 (.slice 24) Tryd.underlying37 3 "value.go:84" #[eD 0]).op, none⟩,
 ⟨(opMove (some 15) (.const (Value.int IntKind.i64 0)) 3 "value.go:84" #[]).op, none⟩
 ] (by kernel_rfl)))
 (.block 0 (.loop [4, 13, 14, 15] f25_l0)))
 f25_r0))))

noncomputable def f25 : Fun Tryd.prog where
 id := 25
 fn := Tryd.f25
 hf := Tryd.func25
 hname := by kernel_rfl
 body := f25_b
 hbody := by kernel_rfl
 res := [rTmp 2, rTmp 3]
 hres := by kernel_rfl
 n := 43
 hn := by kernel_rfl

end Go.Proofs.YtcfedmheblbdnaaDoor.Z

/- What the functions' runs come to; the right sides were printed by a tool, Lean checks them. -/
set_option linter.unusedVariables false
set_option maxRecDepth 100000
namespace Go.Proofs.YtcfedmheblbdnaaDoor.Z
open Go Go.V Go.RowKit Go.Proofs.YtcfedmheblbdnaaDoor.V

theorem en_run (F : Nat) (z : Bool) (l : List (List AV)) :
 (f25.run F [.ns z 3 l] ⟨[], []⟩ : Ans) =
 branch (AV.bool (okV l))
 (branch (AV.bool !rrV l) (some (Fin.ret (AV.tup [AV.nilsl, AV.bool false]), St.mk [] []))
 (branch (AV.bool (K.i64B (↑l.length : Int)))
 (loopRun (f25_l0.run F) [4, 13, 14, 15]
 (Cont.block 0 (Cont.then (f25_r0.run F (f25.leaveK Fun.done)) (f25.leaveK Fun.done))) F
 (Env.mk 43
 [(4, AV.lg 0 1 (K.rb (K.intBytes (↑l.length : Int)))),
 (13, AV.ns z 3 l), (14, AV.int IntKind.i64 (↑l.length : Int)),
 (15, AV.int IntKind.i64 (0 : Int))])
 (St.mk [] [(1, (K.intBytes (↑l.length : Int)).length)]))
 none))
 none := by kernel_rfl

theorem en_round (F m : Nat) (K : Cont) (z : Bool) (lo l : List (List AV)) (i : Int) (xt : List (Nat × Nat)) :
 (loopRun (f25_l0.run F) [4, 13, 14, 15] K m.succ (Env.mk 43 [(4, .lg 0 1 lo), (13, .ns z 3 l), (14, .int .i64 (l.length : Int)), (15, .int .i64 i)]) ⟨[], (1, lo.length) :: xt⟩ : Ans) =
 branch (AV.bool (decide (i < (↑l.length : Int))))
 (branch (AV.bool (inR l i))
 (branch (AV.bool ((LD.agg [LT.int IntKind.i64, LT.int IntKind.i64, LT.str]).is (V.rowAt l i)))
 (branch (AV.bool (YtcfedmheblbdnaaDoor.K.i64B (hdI (V.rowAt l i))))
 (if
 some (1, lo.length) = some (1, lo.length) ∧
 (lo.length + (YtcfedmheblbdnaaDoor.K.rb (YtcfedmheblbdnaaDoor.K.intBytes (hdI (V.rowAt l i)))).length) *
 1 ≤
 140737488355328 then
 branch (AV.bool (hdI (V.rowAt l i) == (1 : Int)))
 (branch (AV.bool (YtcfedmheblbdnaaDoor.K.i64B (hdI (V.rowAt l i).tail)))
 (if
 some
 (1,
 lo.length +
 (YtcfedmheblbdnaaDoor.K.rb (YtcfedmheblbdnaaDoor.K.intBytes (hdI (V.rowAt l i)))).length) =
 some
 (1,
 (lo ++
 YtcfedmheblbdnaaDoor.K.rb (YtcfedmheblbdnaaDoor.K.intBytes (hdI (V.rowAt l i)))).length) ∧
 ((lo ++ YtcfedmheblbdnaaDoor.K.rb (YtcfedmheblbdnaaDoor.K.intBytes (hdI (V.rowAt l i)))).length +
 (YtcfedmheblbdnaaDoor.K.rb
 (YtcfedmheblbdnaaDoor.K.intBytes (hdI (V.rowAt l i).tail))).length) *
 1 ≤
 140737488355328 then
 loopRun (f25_l0.run F) [4, 13, 14, 15] K m
 (Env.mk 43
 [(4,
 AV.lg 0 1
 (lo ++ YtcfedmheblbdnaaDoor.K.rb (YtcfedmheblbdnaaDoor.K.intBytes (hdI (V.rowAt l i))) ++
 YtcfedmheblbdnaaDoor.K.rb (YtcfedmheblbdnaaDoor.K.intBytes (hdI (V.rowAt l i).tail)))),
 (13, AV.ns z 3 l), (14, AV.int IntKind.i64 (↑l.length : Int)),
 (15, AV.int IntKind.i64 (IntKind.i64.wrap (i + (1 : Int))))])
 (St.mk []
 ((St.mk []
 ((St.mk []
 ((St.mk []
 ((1, lo.length) :: xt ++
 [(1,
 (YtcfedmheblbdnaaDoor.K.intBytes (hdI (V.rowAt l i))).length)])).tk.set
 0
 (1,
 lo.length +
 (YtcfedmheblbdnaaDoor.K.rb
 (YtcfedmheblbdnaaDoor.K.intBytes (hdI (V.rowAt l i)))).length))).tk ++
 [(1, (YtcfedmheblbdnaaDoor.K.intBytes (hdI (V.rowAt l i).tail)).length)])).tk.set
 0
 (1,
 (lo ++ YtcfedmheblbdnaaDoor.K.rb (YtcfedmheblbdnaaDoor.K.intBytes (hdI (V.rowAt l i)))).length +
 (YtcfedmheblbdnaaDoor.K.rb
 (YtcfedmheblbdnaaDoor.K.intBytes (hdI (V.rowAt l i).tail))).length)))
 else none)
 none)
 (branch (AV.bool (hdI (V.rowAt l i) == (2 : Int)))
 (branch (AV.bool (YtcfedmheblbdnaaDoor.K.i64B (hdI (V.rowAt l i).tail)))
 (if
 some
 (1,
 lo.length +
 (YtcfedmheblbdnaaDoor.K.rb
 (YtcfedmheblbdnaaDoor.K.intBytes (hdI (V.rowAt l i)))).length) =
 some
 (1,
 (lo ++
 YtcfedmheblbdnaaDoor.K.rb
 (YtcfedmheblbdnaaDoor.K.intBytes (hdI (V.rowAt l i)))).length) ∧
 ((lo ++ YtcfedmheblbdnaaDoor.K.rb (YtcfedmheblbdnaaDoor.K.intBytes (hdI (V.rowAt l i)))).length +
 (YtcfedmheblbdnaaDoor.K.rb
 (YtcfedmheblbdnaaDoor.K.intBytes (hdI (V.rowAt l i).tail))).length) *
 1 ≤
 140737488355328 then
 loopRun (f25_l0.run F) [4, 13, 14, 15] K m
 (Env.mk 43
 [(4,
 AV.lg 0 1
 (lo ++ YtcfedmheblbdnaaDoor.K.rb (YtcfedmheblbdnaaDoor.K.intBytes (hdI (V.rowAt l i))) ++
 YtcfedmheblbdnaaDoor.K.rb (YtcfedmheblbdnaaDoor.K.intBytes (hdI (V.rowAt l i).tail)))),
 (13, AV.ns z 3 l), (14, AV.int IntKind.i64 (↑l.length : Int)),
 (15, AV.int IntKind.i64 (IntKind.i64.wrap (i + (1 : Int))))])
 (St.mk []
 ((St.mk []
 ((St.mk []
 ((St.mk []
 ((1, lo.length) :: xt ++
 [(1,
 (YtcfedmheblbdnaaDoor.K.intBytes
 (hdI (V.rowAt l i))).length)])).tk.set
 0
 (1,
 lo.length +
 (YtcfedmheblbdnaaDoor.K.rb
 (YtcfedmheblbdnaaDoor.K.intBytes (hdI (V.rowAt l i)))).length))).tk ++
 [(1,
 (YtcfedmheblbdnaaDoor.K.intBytes (hdI (V.rowAt l i).tail)).length)])).tk.set
 0
 (1,
 (lo ++
 YtcfedmheblbdnaaDoor.K.rb
 (YtcfedmheblbdnaaDoor.K.intBytes (hdI (V.rowAt l i)))).length +
 (YtcfedmheblbdnaaDoor.K.rb
 (YtcfedmheblbdnaaDoor.K.intBytes (hdI (V.rowAt l i).tail))).length)))
 else none)
 none)
 (branch (AV.bool (hdI (V.rowAt l i) == (3 : Int)))
 (branch (AV.bool (YtcfedmheblbdnaaDoor.K.shortS (hdS (V.rowAt l i).tail.tail)))
 (if
 some
 (1,
 lo.length +
 (YtcfedmheblbdnaaDoor.K.rb
 (YtcfedmheblbdnaaDoor.K.intBytes (hdI (V.rowAt l i)))).length) =
 some
 (1,
 (lo ++
 YtcfedmheblbdnaaDoor.K.rb
 (YtcfedmheblbdnaaDoor.K.intBytes (hdI (V.rowAt l i)))).length) ∧
 ((lo ++
 YtcfedmheblbdnaaDoor.K.rb
 (YtcfedmheblbdnaaDoor.K.intBytes (hdI (V.rowAt l i)))).length +
 (YtcfedmheblbdnaaDoor.K.rb
 (YtcfedmheblbdnaaDoor.K.textBytes (hdS (V.rowAt l i).tail.tail))).length) *
 1 ≤
 140737488355328 then
 loopRun (f25_l0.run F) [4, 13, 14, 15] K m
 (Env.mk 43
 [(4,
 AV.lg 0 1
 (lo ++ YtcfedmheblbdnaaDoor.K.rb (YtcfedmheblbdnaaDoor.K.intBytes (hdI (V.rowAt l i))) ++
 YtcfedmheblbdnaaDoor.K.rb
 (YtcfedmheblbdnaaDoor.K.textBytes (hdS (V.rowAt l i).tail.tail)))),
 (13, AV.ns z 3 l), (14, AV.int IntKind.i64 (↑l.length : Int)),
 (15, AV.int IntKind.i64 (IntKind.i64.wrap (i + (1 : Int))))])
 (St.mk []
 ((St.mk []
 ((St.mk []
 ((St.mk []
 ((1, lo.length) :: xt ++
 [(1,
 (YtcfedmheblbdnaaDoor.K.intBytes
 (hdI (V.rowAt l i))).length)])).tk.set
 0
 (1,
 lo.length +
 (YtcfedmheblbdnaaDoor.K.rb
 (YtcfedmheblbdnaaDoor.K.intBytes (hdI (V.rowAt l i)))).length))).tk ++
 [(1,
 (YtcfedmheblbdnaaDoor.K.textBytes (hdS (V.rowAt l i).tail.tail)).length)])).tk.set
 0
 (1,
 (lo ++
 YtcfedmheblbdnaaDoor.K.rb
 (YtcfedmheblbdnaaDoor.K.intBytes (hdI (V.rowAt l i)))).length +
 (YtcfedmheblbdnaaDoor.K.rb
 (YtcfedmheblbdnaaDoor.K.textBytes (hdS (V.rowAt l i).tail.tail))).length)))
 else none)
 none)
 (loopRun (f25_l0.run F) [4, 13, 14, 15] K m
 (Env.mk 43
 [(4,
 AV.lg 0 1
 (lo ++ YtcfedmheblbdnaaDoor.K.rb (YtcfedmheblbdnaaDoor.K.intBytes (hdI (V.rowAt l i))))),
 (13, AV.ns z 3 l), (14, AV.int IntKind.i64 (↑l.length : Int)),
 (15, AV.int IntKind.i64 (IntKind.i64.wrap (i + (1 : Int))))])
 (St.mk []
 ((St.mk []
 ((1, lo.length) :: xt ++
 [(1, (YtcfedmheblbdnaaDoor.K.intBytes (hdI (V.rowAt l i))).length)])).tk.set
 0
 (1,
 lo.length +
 (YtcfedmheblbdnaaDoor.K.rb (YtcfedmheblbdnaaDoor.K.intBytes (hdI (V.rowAt l i)))).length))))))
 else none)
 none)
 none)
 none)
 (K (AX.exit 0) (Env.mk 43 [(4, AV.lg 0 1 lo)])
 (St.mk [] ((1, lo.length) :: xt))) := by kernel_rfl

theorem en_out (F : Nat) (lo : List (List AV)) (st : St) :
 ((Cont.block 0 (Cont.then (f25_r0.run F (f25.leaveK Fun.done)) (f25.leaveK Fun.done))) (.exit 0) (Env.mk 43 [(4, .lg 0 1 lo)]) st : Ans) =
 some (Fin.ret (AV.tup [AV.lg 0 1 lo, AV.bool true]), st) := by kernel_rfl

end Go.Proofs.YtcfedmheblbdnaaDoor.Z

/- Values: rows as bytes: both sides' Encode, as callees. -/
set_option linter.unusedVariables false
namespace Go.Proofs.YtcfedmheblbdnaaDoor.Z
open Go.Proofs.YtcfedmheblbdnaaDoor.V
open Go Go.V Go.RowKit

theorem scoped_va {n m : Nat} {r : List AV} (h : isRow tVa r = true) : ScopedL n m r := by
  rw [isRow_va h]; exact ⟨trivial, trivial, trivial, trivial⟩
theorem scoped_okV {n m : Nat} : ∀ {l : List (List AV)}, okV l = true → ScopedR n m l
  | [], _ => trivial
  | r :: l, h => by
    simp only [okV, List.all_cons, Bool.and_eq_true] at h
    exact ⟨scoped_va h.1, scoped_okV h.2⟩
def encVa (v : Va) : List Nat := K.intBytes v.k ++ bif v.k == 1 then K.intBytes v.n else bif v.k == 2 then K.intBytes v.n else bif v.k == 3 then K.textBytes v.s else []
def encVs : List Va → List Nat
  | [] => []
  | v :: l => encVa v ++ encVs l
/-- A value that can be written. -/
def fitsW (v : Va) : Prop := K.i64B v.k = true ∧ K.i64B v.n = true ∧ v.s.size ≤ 1000
theorem encVa_len (v : Va) (h : v.s.size ≤ 1000) : (encVa v).length ≤ 1020 := by
  have h1 := K.intBytes_length v.k
  have h2 := K.intBytes_length v.n
  have h3 := K.intBytes_length (v.s.size : Int)
  unfold encVa
  rw [List.length_append]
  cases v.k == 1 with
  | true => simp only [cond_true]; omega
  | false =>
    cases v.k == 2 with
    | true => simp only [cond_true, cond_false]; omega
    | false =>
      cases v.k == 3 with
      | true => simp only [cond_true, cond_false, K.textBytes, List.length_append, K.own_length]; omega
      | false => simp only [cond_false, List.length_nil]; omega
theorem en_step (F m : Nat) (K' : Cont) (z : Bool) (lo l : List (List AV)) (i : Nat) (hi : i < l.length) (hv : isRow tVa l[i] = true) (hw : fitsW (vaR l[i])) (hn : l.length ≤ 1000) (hlo : lo.length ≤ 1000000) (xt : List (Nat × Nat)) :
    ∃ xt', loopRun (f25_l0.run F) [4, 13, 14, 15] K' m.succ (Env.mk 43 [(4, .lg 0 1 lo), (13, .ns z 3 l), (14, .int .i64 (l.length : Int)), (15, .int .i64 (i : Nat))]) ⟨[], (1, lo.length) :: xt⟩
      = loopRun (f25_l0.run F) [4, 13, 14, 15] K' m (Env.mk 43 [(4, .lg 0 1 (lo ++ K.rb (encVa (vaR l[i])))), (13, .ns z 3 l), (14, .int .i64 (l.length : Int)), (15, .int .i64 ((i + 1 : Nat) : Int))]) ⟨[], (1, (lo ++ K.rb (encVa (vaR l[i]))).length) :: xt'⟩ := by
  obtain ⟨hk, hn', hs⟩ := hw
  have h1 := K.intBytes_length (vaR l[i]).k
  have h2 := K.intBytes_length (vaR l[i]).n
  have h3 := K.intBytes_length ((vaR l[i]).s.size : Int)
  have ht : (K.textBytes (vaR l[i]).s).length ≤ 1010 := by rw [K.textBytes, List.length_append, K.own_length]; omega
  rw [en_round, branch_of (decide_eq_true (by omega)), branch_of (inR_nat hi), rowAt_nat hi, branch_of (show (LD.agg [LT.int IntKind.i64, LT.int IntKind.i64, LT.str]).is l[i] = true from isVa hv), wrap_n hi hn]
  rw [show hdI l[i] = (vaR l[i]).k from rfl, show hdI l[i].tail = (vaR l[i]).n from rfl, show hdS l[i].tail.tail = (vaR l[i]).s from rfl]
  generalize vaR l[i] = v at *
  obtain ⟨k, n, s⟩ := v
  simp only at hk hn' hs h1 h2 h3 ht ⊢
  rw [branch_of hk, if_pos ⟨trivial, by rw [K.rb_length]; omega⟩]
  unfold encVa
  cases c1 : k == 1 with
  | true =>
    rw [branch_true, branch_of hn', if_pos ⟨by rw [List.length_append], by rw [List.length_append, K.rb_length, K.rb_length]; omega⟩]
    refine ⟨xt ++ [(1, (K.intBytes k).length), (1, (K.intBytes n).length)], ?_⟩
    simp only [cond_true, K.rb_append, List.append_assoc, List.cons_append, List.set_cons_zero, List.length_append, List.nil_append, Nat.add_assoc]
  | false =>
    rw [branch_false]
    cases c2 : k == 2 with
    | true =>
      rw [branch_true, branch_of hn', if_pos ⟨by rw [List.length_append], by rw [List.length_append, K.rb_length, K.rb_length]; omega⟩]
      refine ⟨xt ++ [(1, (K.intBytes k).length), (1, (K.intBytes n).length)], ?_⟩
      simp only [cond_true, cond_false, K.rb_append, List.append_assoc, List.cons_append, List.set_cons_zero, List.length_append, List.nil_append, Nat.add_assoc]
    | false =>
      rw [branch_false]
      cases c3 : k == 3 with
      | true =>
        rw [branch_true, branch_of (show K.shortS s = true from decide_eq_true (by omega)), if_pos ⟨by rw [List.length_append], by rw [List.length_append, K.rb_length, K.rb_length]; omega⟩]
        refine ⟨xt ++ [(1, (K.intBytes k).length), (1, (K.textBytes s).length)], ?_⟩
        simp only [cond_true, cond_false, K.rb_append, List.append_assoc, List.cons_append, List.set_cons_zero, List.length_append, List.nil_append, Nat.add_assoc]
      | false =>
        rw [branch_false]
        refine ⟨xt ++ [(1, (K.intBytes k).length)], ?_⟩
        simp only [cond_false, List.append_nil, List.cons_append, List.set_cons_zero, List.length_append]
theorem en_all (F : Nat) (z : Bool) (l : List (List AV)) (hl : okV l = true) (hw : ∀ v ∈ rowsV l, fitsW v) (hn : l.length ≤ 8) : ∀ (k i m : Nat) (lo : List (List AV)) (xt : List (Nat × Nat)), i + k = l.length → k < m → lo.length ≤ 10 + i * 1020 →
    ∃ st', loopRun (f25_l0.run F) [4, 13, 14, 15] (Cont.block 0 (Cont.then (f25_r0.run F (f25.leaveK Fun.done)) (f25.leaveK Fun.done))) m (Env.mk 43 [(4, .lg 0 1 lo), (13, .ns z 3 l), (14, .int .i64 (l.length : Int)), (15, .int .i64 (i : Nat))]) ⟨[], (1, lo.length) :: xt⟩
      = some (.ret (.tup [.lg 0 1 (lo ++ K.rb (encVs (rowsV (l.drop i)))), .bool true]), st')
  | k, i, 0, lo, xt, _, h, _ => by omega
  | 0, i, m + 1, lo, xt, h1, h3, h4 => by
    rw [show m + 1 = m.succ from rfl, en_round, branch_not (decide_eq_false (by omega)), en_out, rowsV_end (by omega)]
    exact ⟨_, by rw [encVs, K.rb, List.map_nil, List.append_nil]⟩
  | k + 1, i, m + 1, lo, xt, h1, h3, h4 => by
    have hi : i < l.length := by omega
    have hv := okV_at hl hi
    have hwv : fitsW (vaR l[i]) := hw _ (List.mem_map.mpr ⟨_, List.getElem_mem hi, rfl⟩)
    obtain ⟨xt', h⟩ := en_step F m (Cont.block 0 (Cont.then (f25_r0.run F (f25.leaveK Fun.done)) (f25.leaveK Fun.done))) z lo l i hi hv hwv (by omega) (by omega) xt
    have hlen := encVa_len (vaR l[i]) hwv.2.2
    obtain ⟨st', h'⟩ := en_all F z l hl hw hn k (i + 1) m (lo ++ K.rb (encVa (vaR l[i]))) xt' (by omega) (by omega) (by rw [List.length_append, K.rb_length]; omega)
    refine ⟨st', ?_⟩
    rw [show m + 1 = m.succ from rfl, h, h', rowsV_drop hi, encVs, K.rb_append, List.append_assoc]
/-- A row as bytes. -/
def encR (l : List (List AV)) : List Nat := K.intBytes (l.length : Int) ++ encVs (rowsV l)
def encB (l : List (List AV)) : List (List AV) := bif rrV l then K.rb (encR l) else []
noncomputable def okE2 (a : Bool × List (List AV)) : Bool := okV a.2 && cdec (∀ v ∈ rowsV a.2, fitsW v)
theorem okE2_iff {a : Bool × List (List AV)} : okE2 a = true ↔ okV a.2 = true ∧ ∀ v ∈ rowsV a.2, fitsW v := by
  simp only [okE2, Bool.and_eq_true, cdec_iff]
theorem en_spec (z : Bool) (l : List (List AV)) (h1 : okV l = true) (h2 : ∀ v ∈ rowsV l, fitsW v) : ∃ r F r' st', frz r' = r ∧ Scoped 0 0 r ∧ f25.run F [.ns z 3 l] ⟨[], []⟩ = some (.ret r', st') ∧ ∀ g w v, Rel g w r v → Rel g w (.tup [.ns (!rrV l) 1 (encB l), .bool (rrV l)]) v := by
  refine ⟨bif rrV l then .tup [.sl 1 false (K.rb (encR l)), .bool true] else .tup [.nilsl, .bool false], 1001, ?_⟩
  rw [en_run, branch_of h1]
  unfold encB
  cases hr : rrV l with
  | false => exact ⟨_, _, rfl, ⟨trivial, trivial, trivial⟩, rfl, fun _ _ _ => tup2_mono fun _ => ns_of_nil⟩
  | true =>
    have h8 : l.length ≤ 8 := by
      simp only [rrV, Bool.and_eq_true, decide_eq_true_eq] at hr; omega
    obtain ⟨st', h⟩ := en_all 1001 z l h1 h2 h8 l.length 0 1001 (K.rb (K.intBytes (l.length : Int))) [] (by omega) (by omega) (by rw [K.rb_length]; have := K.intBytes_length (l.length : Int); omega)
    rw [K.rb_length] at h
    rw [Bool.not_true, branch_false, branch_of (by simp [K.i64B]; omega)]
    refine ⟨_, _, ?_, ⟨K.scoped_rb 0 0 (encR l), trivial, trivial⟩, h, fun _ _ _ => tup2_mono fun _ => ns_of_sl⟩
    rw [List.drop_zero, ← K.rb_append]; rfl
noncomputable def p25 : POrc Tryd.prog := f25.seenAs dec1r (fun a => [nsA a]) dec1r_enc okE2 (fun a => .tup [.ns (!rrV a.2) 1 (encB a.2), .bool (rrV a.2)]) fun a h => by
  obtain ⟨h1, h2⟩ := okE2_iff.mp h
  exact ⟨⟨scoped_okV h1, trivial⟩, en_spec a.1 a.2 h1 h2⟩
end Go.Proofs.YtcfedmheblbdnaaDoor.Z

/- Values: the same bytes, as a callee. -/
set_option linter.unusedVariables false
namespace Go.Proofs.YtcfedmheblbdnaaDoor.Z
open Go.Proofs.YtcfedmheblbdnaaDoor.V
open Go Go.V Go.RowKit

def nsB (x : AV) : Option (Bool × List (List AV)) :=
  match x with
  | .ns z s l => match Nat.beq s 1 with
    | true => some (z, l)
    | false => none
  | _ => none
def nsBA (a : Bool × List (List AV)) : AV := .ns a.1 1 a.2
theorem nsB_some {x : AV} {a : Bool × List (List AV)} (h : nsB x = some a) : x = nsBA a := by
  unfold nsB at h
  split at h
  · split at h
    · rename_i h1; cases h; rw [Nat.eq_of_beq_eq_true h1]; rfl
    · cases h
  · cases h
def dec1y : List AV → Option (Bool × List (List AV))
  | [x] => nsB x
  | _ => none
theorem dec1y_enc : ∀ l a, dec1y l = some a → l = [nsBA a] := by
  intro l a h
  unfold dec1y at h
  split at h
  · rw [nsB_some h]
  · cases h
end Go.Proofs.YtcfedmheblbdnaaDoor.Z

/- The functions' pieces, as told by gen.py. -/
set_option linter.unusedVariables false
set_option maxRecDepth 20000
namespace Go.Proofs.YtcfedmheblbdnaaDoor.Z
open Go Go.V Go.RowKit Go.Proofs.YtcfedmheblbdnaaDoor.V


/-! ### 48: interlock/value.read (65); results 2; slots: 0 r, 1 r, 3 v -/
noncomputable def f48_b : Sim Tryd.prog :=
 (.seq (.live [0, 2] (.region 0 [
 ⟨(opAlloc (some 2) 24 (.agg #[(.int .i64 0), (.int .i64 0), (.string ⟨#[]⟩)]) ze24 0 "value.go:97" #[]).op, none⟩
 ] (by kernel_rfl)))
 (.seq (.live [0, 2, 3] (.region 1 [
 ⟨(opMove (some 4) (.tmp 0) 65 "value.go:98" #[]).op, none⟩,
 ⟨opCall (K.q47).orc (some 5) [(.tmp 4), (.const (Value.int IntKind.i64 3))] #[65, 3] 3 "value.go:98" #[eD 0], none⟩,
 ⟨(opBuild (some 6) 24 #[(.int .i64 0), (.int .i64 0), (.string ⟨#[]⟩)] [(0, 0, 1, (.tmp 5))] ze24 (by kernel_rfl) 24 "value.go:98" #[eD 1]).op, none⟩,
 ⟨(opAlloc (some 3) 24 (.agg #[(.int .i64 0), (.int .i64 0), (.string ⟨#[]⟩)]) ze24 0 "value.go:98" #[]).op, none⟩,
 ⟨(opStore none 24 (.tmp 3) (.tmp 6) 3 sz24 0 "value.go:98" #[eD 3, eD 2, eC 1, eP 0, eP 1, eP 2, eP 3]).op, none⟩
 ] (by kernel_rfl)))
 (.seq (.seq (.live [0, 2, 3, 8] (.region 2 [
 ⟨(opFieldAddr (some 7) 24 (.tmp 3) 0 0 1 false fl24_0 (by decide) 0 "value.go:99" #[]).op, none⟩,
 ⟨(opLoadT (.one (.int .i64)) (some 8) 3 (.tmp 7) (.int .i64) Tryd.underlying3 1 sz3 (by kernel_rfl) 3 "value.go:99" #[eD 0]).op, none⟩
 ] (by kernel_rfl)))
 (.block 0 (.seq (.seq (.live [0, 2, 3, 8, 9] (.region 3 [
 ⟨(opBin (some 10) .eql 3 (.tmp 8) (.const (Value.int IntKind.i64 1)) 3 4 "value.go:100" #[]).op, none⟩,
 ⟨(opAssign (some 9) (.tmp 10) 4 "value.go:100" #[eD 0]).op, none⟩
 ] (by kernel_rfl)))
 (.cond (.tmp 9)
 .skip
 (.live [0, 2, 3, 8, 9] (.region 4 [
 ⟨(opBin (some 11) .eql 3 (.tmp 8) (.const (Value.int IntKind.i64 2)) 3 4 "value.go:100" #[]).op, none⟩,
 ⟨(opAssign (some 9) (.tmp 11) 4 "value.go:100" #[eD 0]).op, none⟩
 ] (by kernel_rfl)))))
 (.cond (.tmp 9)
 (.live [2, 3] (.region 5 [
 ⟨(opMove (some 12) (.tmp 0) 65 "value.go:101" #[]).op, none⟩,
 ⟨opCall (K.q64).orc (some 13) [(.tmp 12)] #[65] 3 "value.go:101" #[eD 0], none⟩,
 ⟨(opFieldAddr (some 14) 24 (.tmp 3) 1 1 1 false fl24_1 (by decide) 0 "value.go:101" #[eP 0, eP 1]).op, none⟩,
 ⟨(opStore none 3 (.tmp 14) (.tmp 13) 1 sz3 0 "value.go:101" #[eD 2, eD 1, eC 1, eP 0, eP 1]).op, none⟩
 ] (by kernel_rfl)))
 (.seq (.live [0, 2, 3, 15] (.region 6 [
 ⟨(opBin (some 16) .eql 3 (.tmp 8) (.const (Value.int IntKind.i64 3)) 3 4 "value.go:102" #[]).op, none⟩,
 ⟨(opAssign (some 15) (.tmp 16) 4 "value.go:102" #[eD 0]).op, none⟩
 ] (by kernel_rfl)))
 (.cond (.tmp 15)
 (.live [2, 3] (.region 7 [
 ⟨(opMove (some 17) (.tmp 0) 65 "value.go:103" #[]).op, none⟩,
 ⟨opCall (K.q66).orc (some 18) [(.tmp 17)] #[65] 9 "value.go:103" #[eD 0], none⟩,
 ⟨(opFieldAddr (some 19) 24 (.tmp 3) 2 2 1 false fl24_2 (by decide) 0 "value.go:103" #[eP 0, eP 1]).op, none⟩,
 ⟨(opStore none 9 (.tmp 19) (.tmp 18) 1 sz9 0 "value.go:103" #[eD 2, eD 1, eC 1, eP 0, eP 1]).op, none⟩
 ] (by kernel_rfl)))
 .skip))))))
 (.seq (.live [2] (.region 8 [
 ⟨(opLoadT (.agg [(.int .i64), (.int .i64), .str]) (some 20) 24 (.tmp 3) d24 ud24 3 sz24 (by kernel_rfl) 24 "value.go:105" #[]).op, none⟩,
 ⟨(opStore none 24 (.tmp 2) (.tmp 20) 3 sz24 0 "value.go:105" #[eD 0, eP 0]).op, none⟩
 ] (by kernel_rfl)))
 (.live [2] .ret)))))

noncomputable def f48 : Fun Tryd.prog where
 id := 48
 fn := Tryd.f48
 hf := Tryd.func48
 hname := by kernel_rfl
 body := f48_b
 hbody := by kernel_rfl
 res := [rCell 2 24 d24 ud24 3 sz24]
 hres := by kernel_rfl
 n := 21
 hn := by kernel_rfl

end Go.Proofs.YtcfedmheblbdnaaDoor.Z

/- What the functions' runs come to; the right sides were printed by a tool, Lean checks them. -/
set_option linter.unusedVariables false
set_option maxRecDepth 100000
namespace Go.Proofs.YtcfedmheblbdnaaDoor.Z
open Go Go.V Go.RowKit Go.Proofs.YtcfedmheblbdnaaDoor.V

theorem rv_run (f : Bool) (l : List (List AV)) :
 (f48.run 0 [.ptr 0 0] ⟨[.cells [.sl 1 f l, .bool false]], []⟩ : Ans) =
 branch (AV.bool (K.fit (Br.sl f l)))
 (onSome (K.getC (3 : Int) (nR l))
 (some
 (Fin.ret (AV.agg [AV.int IntKind.i64 (0 : Int), AV.int IntKind.i64 (0 : Int), AV.str (ByteArray.mk #[])]),
 St.mk
 [Ob.cells [AV.nilsl, AV.bool true],
 Ob.cells [AV.int IntKind.i64 (0 : Int), AV.int IntKind.i64 (0 : Int), AV.str (ByteArray.mk #[])],
 Ob.cells [AV.int IntKind.i64 (0 : Int), AV.int IntKind.i64 (0 : Int), AV.str (ByteArray.mk #[])]]
 []))
 fun (o : Int × Nat) =>
 branch (AV.bool (o.fst == (1 : Int)))
 (branch (AV.bool (K.fit (Br.sl f (List.drop o.snd l))))
 (onSome (K.getN (nR (List.drop o.snd l)))
 (some
 (Fin.ret (AV.agg [AV.int IntKind.i64 o.fst, AV.int IntKind.i64 (0 : Int), AV.str (ByteArray.mk #[])]),
 St.mk
 [Ob.cells [AV.nilsl, AV.bool true],
 Ob.cells [AV.int IntKind.i64 o.fst, AV.int IntKind.i64 (0 : Int), AV.str (ByteArray.mk #[])],
 Ob.cells [AV.int IntKind.i64 o.fst, AV.int IntKind.i64 (0 : Int), AV.str (ByteArray.mk #[])]]
 []))
 fun (o_1 : Int × Nat) =>
 some
 (Fin.ret (AV.agg [AV.int IntKind.i64 o.fst, AV.int IntKind.i64 o_1.fst, AV.str (ByteArray.mk #[])]),
 St.mk
 [Ob.cells [AV.sl 1 f (List.drop o_1.snd (List.drop o.snd l)), AV.bool false],
 Ob.cells [AV.int IntKind.i64 o.fst, AV.int IntKind.i64 o_1.fst, AV.str (ByteArray.mk #[])],
 Ob.cells [AV.int IntKind.i64 o.fst, AV.int IntKind.i64 o_1.fst, AV.str (ByteArray.mk #[])]]
 []))
 none)
 (branch (AV.bool (o.fst == (2 : Int)))
 (branch (AV.bool (K.fit (Br.sl f (List.drop o.snd l))))
 (onSome (K.getN (nR (List.drop o.snd l)))
 (some
 (Fin.ret (AV.agg [AV.int IntKind.i64 o.fst, AV.int IntKind.i64 (0 : Int), AV.str (ByteArray.mk #[])]),
 St.mk
 [Ob.cells [AV.nilsl, AV.bool true],
 Ob.cells [AV.int IntKind.i64 o.fst, AV.int IntKind.i64 (0 : Int), AV.str (ByteArray.mk #[])],
 Ob.cells [AV.int IntKind.i64 o.fst, AV.int IntKind.i64 (0 : Int), AV.str (ByteArray.mk #[])]]
 []))
 fun (o_1 : Int × Nat) =>
 some
 (Fin.ret (AV.agg [AV.int IntKind.i64 o.fst, AV.int IntKind.i64 o_1.fst, AV.str (ByteArray.mk #[])]),
 St.mk
 [Ob.cells [AV.sl 1 f (List.drop o_1.snd (List.drop o.snd l)), AV.bool false],
 Ob.cells [AV.int IntKind.i64 o.fst, AV.int IntKind.i64 o_1.fst, AV.str (ByteArray.mk #[])],
 Ob.cells [AV.int IntKind.i64 o.fst, AV.int IntKind.i64 o_1.fst, AV.str (ByteArray.mk #[])]]
 []))
 none)
 (branch (AV.bool (o.fst == (3 : Int)))
 (branch (AV.bool (K.fit (Br.sl f (List.drop o.snd l))))
 (onSome (K.getS (nR (List.drop o.snd l)))
 (some
 (Fin.ret (AV.agg [AV.int IntKind.i64 o.fst, AV.int IntKind.i64 (0 : Int), AV.str K.noText]),
 St.mk
 [Ob.cells [AV.nilsl, AV.bool true],
 Ob.cells [AV.int IntKind.i64 o.fst, AV.int IntKind.i64 (0 : Int), AV.str K.noText],
 Ob.cells [AV.int IntKind.i64 o.fst, AV.int IntKind.i64 (0 : Int), AV.str K.noText]]
 []))
 fun (o_1 : ByteArray × Nat) =>
 some
 (Fin.ret (AV.agg [AV.int IntKind.i64 o.fst, AV.int IntKind.i64 (0 : Int), AV.str o_1.fst]),
 St.mk
 [Ob.cells [AV.sl 1 f (List.drop o_1.snd (List.drop o.snd l)), AV.bool false],
 Ob.cells [AV.int IntKind.i64 o.fst, AV.int IntKind.i64 (0 : Int), AV.str o_1.fst],
 Ob.cells [AV.int IntKind.i64 o.fst, AV.int IntKind.i64 (0 : Int), AV.str o_1.fst]]
 []))
 none)
 (some
 (Fin.ret (AV.agg [AV.int IntKind.i64 o.fst, AV.int IntKind.i64 (0 : Int), AV.str (ByteArray.mk #[])]),
 St.mk
 [Ob.cells [AV.sl 1 f (List.drop o.snd l), AV.bool false],
 Ob.cells [AV.int IntKind.i64 o.fst, AV.int IntKind.i64 (0 : Int), AV.str (ByteArray.mk #[])],
 Ob.cells [AV.int IntKind.i64 o.fst, AV.int IntKind.i64 (0 : Int), AV.str (ByteArray.mk #[])]]
 [])))))
 none := by kernel_rfl

theorem rv_nil (b : Bool) :
 (f48.run 0 [.ptr 0 0] ⟨[.cells [.nilsl, .bool b]], []⟩ : Ans) =
 some
 (Fin.ret (AV.agg [AV.int IntKind.i64 (0 : Int), AV.int IntKind.i64 (0 : Int), AV.str (ByteArray.mk #[])]),
 St.mk
 [Ob.cells [AV.nilsl, AV.bool true],
 Ob.cells [AV.int IntKind.i64 (0 : Int), AV.int IntKind.i64 (0 : Int), AV.str (ByteArray.mk #[])],
 Ob.cells [AV.int IntKind.i64 (0 : Int), AV.int IntKind.i64 (0 : Int), AV.str (ByteArray.mk #[])]]
 []) := by kernel_rfl

end Go.Proofs.YtcfedmheblbdnaaDoor.Z

/- Values: the next value of a reader. -/
set_option linter.unusedVariables false
namespace Go.Proofs.YtcfedmheblbdnaaDoor.Z
open Go.Proofs.YtcfedmheblbdnaaDoor.V
open Go Go.V Go.RowKit

theorem near_okR {l : List (List AV)} (h : okR l = true) : ScopedR 0 0 l := by
  rw [okR_rows h]; exact K.scoped_rb 0 0 (nR l)
def RdOk : K.Rd → Prop
  | .nil _ => True
  | .sl f b l => okR l = true
def RdA : ADT K.Rd where
  m := 1
  p := 0
  hp := by omega
  obs r := [.cells r.cells]
  Ok := RdOk
  len _ := rfl
  near r h o ho := by
    cases r with
    | nil b => simp at ho; subst ho; exact ⟨trivial, trivial, trivial⟩
    | sl f b l => simp at ho; subst ho; exact ⟨near_okR h, trivial, trivial⟩
  inj x y hx hy h := by
    simp only [List.cons.injEq, Ob.cells.injEq, and_true] at h
    cases x <;> cases y <;> simp [K.Rd.cells] at h ⊢
    · exact h
    · exact ⟨h.1.1, h.2, h.1.2⟩
theorem one_obj {f : Fun Tryd.prog} {F : Nat} {x y : K.Rd} {args : List AV} {r : AV} {xs : List Ob} (hrun : f.run F args ⟨[.cells x.cells], []⟩ = some (.ret r, ⟨.cells y.cells :: xs, []⟩)) (hx : RdOk x) (hy : RdOk y) (ha : NearL 1 args) (hr : Near 1 (frz r)) (tk : List (Nat × Nat)) :
    CallsTo Tryd.prog f.id args ⟨[.cells x.cells], tk⟩ (.ret (frz r), ⟨[.cells y.cells], tk⟩) := by
  have hd : RdA.Here ⟨[.cells x.cells], tk⟩ 0 x := ⟨hx, by show 0 + 1 ≤ 1; omega, by
    have := ADT.obl_zero RdA (x := x) hx
    rw [ADT.obl_eq] at this
    rw [this]; rfl⟩
  have := ADT.placed (A := RdA) (f := f) (x := x) (y := y) (args0 := args) (r := r) (xs := xs) hrun hy ha hr hd
  have hpl : RdA.pl ⟨[.cells x.cells], tk⟩ 0 y = ⟨[.cells y.cells], tk⟩ := by
    rw [ADT.pl, ADT.obl_zero RdA hy]; rfl
  rw [hpl, show sh 0 = fun k => k from funext fun k => Nat.zero_add k, renL_id, ren_id] at this
  exact this

def noS : ByteArray := ByteArray.mk #[]
/-- The next value; what is left, if nothing was wrong. -/
def rdV (l : List (List AV)) : Va × Option (List (List AV)) :=
  match K.getC 3 (nR l) with
  | none => (⟨0, 0, noS⟩, none)
  | some o => bif o.1 == 1 || o.1 == 2 then
      match K.getN (nR (l.drop o.2)) with
      | none => (⟨o.1, 0, noS⟩, none)
      | some p => (⟨o.1, p.1, noS⟩, some ((l.drop o.2).drop p.2))
    else bif o.1 == 3 then
      match K.getS (nR (l.drop o.2)) with
      | none => (⟨o.1, 0, noS⟩, none)
      | some p => (⟨o.1, 0, p.1⟩, some ((l.drop o.2).drop p.2))
    else (⟨o.1, 0, noS⟩, some (l.drop o.2))
def rdX (f : Bool) (x : Option (List (List AV))) : K.Rd :=
  match x with
  | some l => .sl f false l
  | none => .nil true
theorem fit_drop {f : Bool} {l : List (List AV)} (h : K.fit (.sl f l) = true) (n : Nat) : K.fit (.sl f (l.drop n)) = true := by
  obtain ⟨h1, h2⟩ := K.fit_spec h
  simp only [K.fit, Br.list, Bool.and_eq_true] at h1 h2 ⊢
  exact ⟨okR_drop h1 n, by simp; omega⟩
theorem rdV_ok {f : Bool} {l : List (List AV)} (h : K.fit (.sl f l) = true) : RdOk (rdX f (rdV l).2) := by
  have h1 := (K.fit_spec h).1
  unfold rdV
  cases K.getC 3 (nR l) with
  | none => trivial
  | some o =>
    simp only
    cases o.1 == 1 || o.1 == 2 with
    | true =>
      simp only [cond_true]
      cases K.getN (nR (l.drop o.2)) with
      | none => trivial
      | some p => exact okR_drop (okR_drop h1 _) _
    | false =>
      simp only [cond_false]
      cases o.1 == 3 with
      | true =>
        simp only [cond_true]
        cases K.getS (nR (l.drop o.2)) with
        | none => trivial
        | some p => exact okR_drop (okR_drop h1 _) _
      | false => exact okR_drop h1 _
theorem rv_eq {f : Bool} {l : List (List AV)} (h : K.fit (.sl f l) = true) : ∃ xs, f48.run 0 [.ptr 0 0] ⟨[.cells (K.Rd.sl f false l).cells], []⟩ = some (.ret (rdV l).1.av, ⟨.cells (rdX f (rdV l).2).cells :: xs, []⟩) := by
  have e := rv_run f l
  show ∃ xs, f48.run 0 [.ptr 0 0] ⟨[.cells [.sl 1 f l, .bool false]], []⟩ = _
  rw [e, branch_of h]
  unfold rdV
  cases K.getC 3 (nR l) with
  | none => exact ⟨_, rfl⟩
  | some o =>
    simp only [onSome]
    rw [branch_of (fit_drop h _)]
    cases h1 : o.1 == 1 with
    | true =>
      rw [Bool.true_or, cond_true, branch_true]
      cases K.getN (nR (l.drop o.2)) <;> exact ⟨_, rfl⟩
    | false =>
      rw [Bool.false_or, branch_false]
      cases h2 : o.1 == 2 with
      | true =>
        rw [branch_true]
        cases K.getN (nR (l.drop o.2)) <;> exact ⟨_, rfl⟩
      | false =>
        rw [branch_false]
        cases h3 : o.1 == 3 with
        | true =>
          rw [branch_true, branch_of (fit_drop h _)]
          cases K.getS (nR (l.drop o.2)) <;> exact ⟨_, rfl⟩
        | false => exact ⟨_, rfl⟩
/-- The next value of a reader that is the one object. -/
noncomputable def s48 : OrcS Tryd.prog := f48.by'
  (fun args st k => match args with
    | [.ptr 0 0] => match st.objs with
      | [.cells cs] => match K.rdOf cs with
        | some (.nil b) => k (.ret (Va.mk 0 0 noS).av) ⟨[.cells [.nilsl, .bool true]], st.tk⟩
        | some (.sl f false l) => match K.fit (.sl f l) with
          | true => k (.ret (rdV l).1.av) ⟨[.cells (rdX f (rdV l).2).cells], st.tk⟩
          | false => none
        | _ => none
      | _ => none
    | _ => none)
  fun args st k fin h => by
    obtain ⟨objs, tk⟩ := st
    simp only at h
    split at h
    · split at h
      · split at h
        · rename_i h1
          have hc := K.rdOf_eq h1
          subst hc
          exact ⟨_, _, h, one_obj (x := .nil _) (y := .nil true) (rv_nil _) trivial trivial ⟨by show 0 < 1; omega, trivial⟩ ⟨trivial, trivial, trivial, trivial⟩ tk⟩
        · rename_i f l h1
          have hc := K.rdOf_eq h1
          subst hc
          split at h
          · rename_i hf
            obtain ⟨xs, hr⟩ := rv_eq hf
            exact ⟨_, _, h, one_obj (x := .sl f false l) (y := rdX f (rdV l).2) hr (K.fit_spec hf).1 (rdV_ok hf) ⟨by show 0 < 1; omega, trivial⟩ ⟨trivial, trivial, trivial, trivial⟩ tk⟩
          · cases h
        · cases h
      · cases h
    · cases h
noncomputable def p11n : POrc Tryd.prog := p26.asNs 3
end Go.Proofs.YtcfedmheblbdnaaDoor.Z

/- The functions' pieces, as told by gen.py. -/
set_option linter.unusedVariables false
set_option maxRecDepth 20000
namespace Go.Proofs.YtcfedmheblbdnaaDoor.Z
open Go Go.V Go.RowKit Go.Proofs.YtcfedmheblbdnaaDoor.V

theorem by24 : (Tryd.prog.info? 24).map (·.bytes) = some 32 := by kernel_rfl
theorem el37 : ElemOf Tryd.prog 37 24 3 32 (.agg #[(.int .i64 0), (.int .i64 0), (.string ⟨#[]⟩)]) := ⟨Tryd.underlying37, sz24, by24, ze24, by kernel_rfl, by decide⟩

/-! ### 27: interlock/value.Decode (46); results 2, 3; slots: 0 b, 1 b, 4 r, 5 out, 6 n, 7 v -/
/-- A loop's round; at its head live: 4 r, 5 out, 6 n -/
noncomputable def f27_l0 : Sim Tryd.prog :=
 (.seq (.seq (.live [4, 5, 6, 13] (.region 4 [
 ⟨(opMove (some 12) (.tmp 6) 3 "value.go:112" #[]).op, none⟩,
 ⟨(opBin (some 13) .gtr 3 (.tmp 12) (.const (Value.int IntKind.i64 0)) 3 4 "value.go:112" #[eD 0]).op, none⟩
 ] (by kernel_rfl)))
 (.cond (.tmp 13)
 .skip
 (.live [4, 5] (.exit 0))))
 (.seq (.block 1 (.seq (.live [4, 5, 6, 7] (.items 6 [
 .one ((opMove (some 16) (.tmp 4) 65 "value.go:113" #[]).op),
 .one (opCall (s48).orc (some 17) [(.tmp 16)] #[65] 24 "value.go:113" #[eD 0]),
 .two (op2Box 7 24 (.agg #[(.int .i64 0), (.int .i64 0), (.string ⟨#[]⟩)]) ze24 (.tmp 17) (by rfl) 3 sz24 (by kernel_rfl) 31 (by rfl) 0 0 "value.go:113" "value.go:113" #[] #[eD 2, eD 1, eC 1, eP 0, eP 1, eP 2])
 ]))
 (.live [4, 5, 6] (.region 7 [
 ⟨(opMove (some 18) (.tmp 5) 37 "value.go:114" #[]).op, none⟩,
 ⟨(opLoadT (.agg [(.int .i64), (.int .i64), .str]) (some 19) 24 (.tmp 7) d24 ud24 3 sz24 (by kernel_rfl) 24 "value.go:114" #[]).op, none⟩,
 ⟨(opBuildSlice (some 20) 37 1 [(0, (.tmp 19))] 24 3 32 (.agg #[(.int .i64 0), (.int .i64 0), (.string ⟨#[]⟩)]) el37 (by kernel_rfl) (by decide) 37 "value.go:114" #[eD 1]).op, none⟩,
 ⟨(opAppend (some 21) (.tmp 18) (.tmp 20) 37 37 24 3 32 (.agg #[(.int .i64 0), (.int .i64 0), (.string ⟨#[]⟩)]) el37 (.slice 24) Tryd.underlying37 rfl 37 "value.go:114" #[eD 0, eD 2]).op, none⟩,
 ⟨(opAssign (some 5) (.tmp 21) 37 "value.go:114" #[eD 3, eC 3, eP 0, eP 1, eP 2, eP 3]).op, none⟩
 ] (by kernel_rfl)))))
 (.live [4, 5, 6] (.region 5 [
 ⟨(opMove (some 14) (.tmp 6) 3 "value.go:112" #[]).op, none⟩,
 ⟨(opBin (some 15) .sub 3 (.tmp 14) (.const (Value.int IntKind.i64 1)) 3 3 "value.go:112" #[eD 0]).op, none⟩,
 ⟨(opAssign (some 6) (.tmp 15) 3 "value.go:112" #[eD 1, eP 0, eP 1]).op, none⟩
 ] (by kernel_rfl)))))

/-- What follows a loop. -/
noncomputable def f27_r0 : Sim Tryd.prog :=
 (.seq (.seq (.live [5, 29] (.region 8 [
 ⟨(opMove (some 22) (.tmp 4) 65 "value.go:116" #[]).op, none⟩,
 ⟨opCall (K.f49.orc 0) (some 23) [(.tmp 22)] #[65] 4 "value.go:116" #[eD 0], none⟩,
 ⟨(opNot (some 24) 4 (.tmp 23) 4 "value.go:116" #[eD 1]).op, none⟩,
 ⟨(opMove (some 25) (.tmp 24) 4 "value.go:116" #[eD 2, eC 1]).op, none⟩,
 ⟨(opMove (some 26) (.tmp 5) 37 "value.go:116" #[eG 3]).op, (some (3, 25, false))⟩,
 ⟨(opCallP p11n (some 27) [(.tmp 26)] #[37] 4 "value.go:116" #[eD 4, eC 3, eG 3]).op, (some (3, 25, false))⟩,
 ⟨(opNot (some 28) 4 (.tmp 27) 4 "value.go:116" #[eD 5, eG 3]).op, (some (3, 25, false))⟩,
 ⟨(opPick (some 29) (.tmp 25) (.const (Value.bool true)) (.tmp 28) 4 "value.go:116" #[eD 3, eD 6]).op, none⟩
 ] (by kernel_rfl)))
 (.cond (.tmp 29)
 (.seq (.live [2, 3] (.region 9 [
 ⟨(opAssign (some 2) (.const (Value.slice none 0 0)) 37 "value.go:117" #[]).op, none⟩,
 ⟨(opAssign (some 3) (.const (Value.bool false)) 4 "value.go:117" #[eC 0, eP 0]).op, none⟩
 ] (by kernel_rfl)))
 (.live [2, 3] .ret))
 .skip))
 (.seq (.live [2, 3] (.region 10 [
 ⟨(opMove (some 30) (.tmp 5) 37 "value.go:119" #[]).op, none⟩,
 ⟨(opAssign (some 2) (.tmp 30) 37 "value.go:119" #[eD 0, eP 0]).op, none⟩,
 ⟨(opAssign (some 3) (.const (Value.bool true)) 4 "value.go:119" #[eC 1, eP 0, eP 1]).op, none⟩
 ] (by kernel_rfl)))
 (.live [2, 3] .ret)))

noncomputable def f27_b : Sim Tryd.prog :=
 (.seq (.live [0] (.region 0 [
 ⟨(opAssign (some 2) (.const (Value.slice none 0 0)) 37 "value.go:109" #[]).op, none⟩,
 ⟨(opAssign (some 3) (.const (Value.bool false)) 4 "value.go:109" #[eC 0]).op, none⟩
 ] (by kernel_rfl)))
 (.seq (.live [4] (.region 1 [
 ⟨(opMove (some 8) (.tmp 0) 46 "value.go:110" #[]).op, none⟩,
 ⟨opCall (K.f46.orc 0) (some 9) [(.tmp 8)] #[46] 65 "value.go:110" #[eD 0], none⟩,
 ⟨(opAssign (some 4) (.tmp 9) 65 "value.go:110" #[eD 1, eC 1, eP 0, eP 1]).op, none⟩
 ] (by kernel_rfl)))
 (.seq (.live [4, 5] (.region 2 [
 ⟨(opAssign (some 5) (.const (Value.slice none 0 0)) 37 "value.go:111" #[]).op, none⟩
 ] (by kernel_rfl)))
 (.seq (.seq (.live [4, 5, 6] (.region 3 [
 ⟨(opMove (some 10) (.tmp 4) 65 "value.go:112" #[]).op, none⟩,
 ⟨opCall (K.q47).orc (some 11) [(.tmp 10), (.const (Value.int IntKind.i64 8))] #[65, 3] 3 "value.go:112" #[eD 0], none⟩,
 ⟨(opAssign (some 6) (.tmp 11) 3 "value.go:112" #[eD 1, eC 1, eP 0, eP 1]).op, none⟩
 ] (by kernel_rfl)))
 (.block 0 (.loop [4, 5, 6] f27_l0)))
 f27_r0))))

noncomputable def f27 : Fun Tryd.prog where
 id := 27
 fn := Tryd.f27
 hf := Tryd.func27
 hname := by kernel_rfl
 body := f27_b
 hbody := by kernel_rfl
 res := [rTmp 2, rTmp 3]
 hres := by kernel_rfl
 n := 31
 hn := by kernel_rfl

end Go.Proofs.YtcfedmheblbdnaaDoor.Z

/- What the functions' runs come to; the right sides were printed by a tool, Lean checks them. -/
set_option linter.unusedVariables false
set_option maxRecDepth 100000
namespace Go.Proofs.YtcfedmheblbdnaaDoor.Z
open Go Go.V Go.RowKit Go.Proofs.YtcfedmheblbdnaaDoor.V

theorem de_nil (F : Nat) :
 (f27.run F.succ [.nilsl] ⟨[], []⟩ : Ans) =
 some (Fin.ret (AV.tup [AV.nilsl, AV.bool false]), St.mk [Ob.cells [AV.nilsl, AV.bool true]] []) := by kernel_rfl

theorem de_run (F : Nat) (l : List (List AV)) :
 (f27.run F [.sl 1 false l] ⟨[], []⟩ : Ans) =
 branch (AV.bool (K.fit (Br.sl false l)))
 (branch (AV.bool (K.fit (Br.sl l.isEmpty l)))
 (onSome (K.getC (8 : Int) (nR l))
 (loopRun (f27_l0.run F) [4, 5, 6]
 (Cont.block 0 (Cont.then (f27_r0.run F (f27.leaveK Fun.done)) (f27.leaveK Fun.done))) F
 (Env.mk 31
 [(4, AV.ptr 0 0), (5, AV.nilsl), (6, AV.int IntKind.i64 (0 : Int))])
 (St.mk [Ob.cells [AV.nilsl, AV.bool true]] []))
 fun (o : Int × Nat) =>
 loopRun (f27_l0.run F) [4, 5, 6]
 (Cont.block 0 (Cont.then (f27_r0.run F (f27.leaveK Fun.done)) (f27.leaveK Fun.done))) F
 (Env.mk 31
 [(4, AV.ptr 0 0), (5, AV.nilsl), (6, AV.int IntKind.i64 o.fst)])
 (St.mk [Ob.cells [AV.sl 1 l.isEmpty (List.drop o.snd l), AV.bool false]] []))
 none)
 none := by kernel_rfl

theorem de_g0 (F m : Nat) (K : Cont) (n : Int) (f : Bool) (l : List (List AV)) :
 (loopRun (f27_l0.run F) [4, 5, 6] K m.succ (Env.mk 31 [(4, .ptr 0 0), (5, AV.nilsl), (6, .int .i64 n)]) ⟨[.cells [.sl 1 f l, .bool false]], []⟩ : Ans) =
 branch (AV.bool (decide (n > (0 : Int))))
 (branch (AV.bool (YtcfedmheblbdnaaDoor.K.fit (Br.sl f l)))
 (loopRun (f27_l0.run F) [4, 5, 6] K m
 (Env.mk 31
 [(4, AV.ptr 0 0),
 (5,
 AV.lg 0 3
 [[AV.int IntKind.i64 (rdV l).fst.k, AV.int IntKind.i64 (rdV l).fst.n, AV.str (rdV l).fst.s]]),
 (6, AV.int IntKind.i64 (IntKind.i64.wrap (n - (1 : Int))))])
 (St.mk [Ob.cells (rdX f (rdV l).snd).cells] [(3, 1)]))
 none)
 (K (AX.exit 0) (Env.mk 31 [(4, AV.ptr 0 0), (5, AV.nilsl)])
 (St.mk [Ob.cells [AV.sl 1 f l, AV.bool false]] [])) := by kernel_rfl

theorem de_outg0 (F : Nat) (f : Bool) (l : List (List AV)) :
 ((Cont.block 0 (Cont.then (f27_r0.run F (f27.leaveK Fun.done)) (f27.leaveK Fun.done))) (.exit 0) (Env.mk 31 [(4, .ptr 0 0), (5, AV.nilsl)]) ⟨[.cells [.sl 1 f l, .bool false]], []⟩ : Ans) =
 branch (AV.bool !(↑l.length : Int) == (0 : Int))
 (some (Fin.ret (AV.tup [AV.nilsl, AV.bool false]), St.mk [Ob.cells [AV.sl 1 f l, AV.bool false]] []))
 (some (Fin.ret (AV.tup [AV.nilsl, AV.bool true]), St.mk [Ob.cells [AV.sl 1 f l, AV.bool false]] [])) := by kernel_rfl

theorem de_b0 (F m : Nat) (K : Cont) (n : Int) :
 (loopRun (f27_l0.run F) [4, 5, 6] K m.succ (Env.mk 31 [(4, .ptr 0 0), (5, AV.nilsl), (6, .int .i64 n)]) ⟨[.cells [.nilsl, .bool true]], []⟩ : Ans) =
 branch (AV.bool (decide (n > (0 : Int))))
 (loopRun (f27_l0.run F) [4, 5, 6] K m
 (Env.mk 31
 [(4, AV.ptr 0 0),
 (5,
 AV.lg 0 3
 [[AV.int IntKind.i64 (0 : Int), AV.int IntKind.i64 (0 : Int), AV.str (Va.mk (0 : Int) (0 : Int) noS).s]]),
 (6, AV.int IntKind.i64 (IntKind.i64.wrap (n - (1 : Int))))])
 (St.mk [Ob.cells [AV.nilsl, AV.bool true]] [(3, 1)]))
 (K (AX.exit 0) (Env.mk 31 [(4, AV.ptr 0 0), (5, AV.nilsl)])
 (St.mk [Ob.cells [AV.nilsl, AV.bool true]] [])) := by kernel_rfl

theorem de_outb0 (F : Nat) :
 ((Cont.block 0 (Cont.then (f27_r0.run F (f27.leaveK Fun.done)) (f27.leaveK Fun.done))) (.exit 0) (Env.mk 31 [(4, .ptr 0 0), (5, AV.nilsl)]) ⟨[.cells [.nilsl, .bool true]], []⟩ : Ans) =
 some (Fin.ret (AV.tup [AV.nilsl, AV.bool false]), St.mk [Ob.cells [AV.nilsl, AV.bool true]] []) := by kernel_rfl

theorem de_g1 (F m : Nat) (K : Cont) (n : Int) (f : Bool) (l : List (List AV)) (lo : List (List AV)) :
 (loopRun (f27_l0.run F) [4, 5, 6] K m.succ (Env.mk 31 [(4, .ptr 0 0), (5, .lg 0 3 lo), (6, .int .i64 n)]) ⟨[.cells [.sl 1 f l, .bool false]], [(3, lo.length)]⟩ : Ans) =
 branch (AV.bool (decide (n > (0 : Int))))
 (branch (AV.bool (YtcfedmheblbdnaaDoor.K.fit (Br.sl f l)))
 (if
 some (3, lo.length) = some (3, lo.length) ∧
 (lo.length + 1) * 32 ≤ 140737488355328 then
 loopRun (f27_l0.run F) [4, 5, 6] K m
 (Env.mk 31
 [(4, AV.ptr 0 0),
 (5,
 AV.lg 0 3
 (lo ++ [[AV.int IntKind.i64 (rdV l).fst.k, AV.int IntKind.i64 (rdV l).fst.n, AV.str (rdV l).fst.s]])),
 (6, AV.int IntKind.i64 (IntKind.i64.wrap (n - (1 : Int))))])
 (St.mk [Ob.cells (rdX f (rdV l).snd).cells] [(3, lo.length + 1)])
 else none)
 none)
 (K (AX.exit 0)
 (Env.mk 31 [(4, AV.ptr 0 0), (5, AV.lg 0 3 lo)])
 (St.mk [Ob.cells [AV.sl 1 f l, AV.bool false]] [(3, lo.length)])) := by kernel_rfl

theorem de_outg1 (F : Nat) (f : Bool) (l : List (List AV)) (lo : List (List AV)) :
 ((Cont.block 0 (Cont.then (f27_r0.run F (f27.leaveK Fun.done)) (f27.leaveK Fun.done))) (.exit 0) (Env.mk 31 [(4, .ptr 0 0), (5, .lg 0 3 lo)]) ⟨[.cells [.sl 1 f l, .bool false]], [(3, lo.length)]⟩ : Ans) =
 branch (AV.bool !(↑l.length : Int) == (0 : Int))
 (some
 (Fin.ret (AV.tup [AV.nilsl, AV.bool false]),
 St.mk [Ob.cells [AV.sl 1 f l, AV.bool false]] [(3, lo.length)]))
 (branch (AV.bool (okV lo))
 (branch (AV.bool !rrV lo)
 (some
 (Fin.ret (AV.tup [AV.nilsl, AV.bool false]),
 St.mk [Ob.cells [AV.sl 1 f l, AV.bool false]] [(3, lo.length)]))
 (some
 (Fin.ret (AV.tup [AV.lg 0 3 lo, AV.bool true]),
 St.mk [Ob.cells [AV.sl 1 f l, AV.bool false]] [(3, lo.length)])))
 none) := by kernel_rfl

theorem de_b1 (F m : Nat) (K : Cont) (n : Int) (lo : List (List AV)) :
 (loopRun (f27_l0.run F) [4, 5, 6] K m.succ (Env.mk 31 [(4, .ptr 0 0), (5, .lg 0 3 lo), (6, .int .i64 n)]) ⟨[.cells [.nilsl, .bool true]], [(3, lo.length)]⟩ : Ans) =
 branch (AV.bool (decide (n > (0 : Int))))
 (if
 some (3, lo.length) = some (3, lo.length) ∧
 (lo.length + 1) * 32 ≤ 140737488355328 then
 loopRun (f27_l0.run F) [4, 5, 6] K m
 (Env.mk 31
 [(4, AV.ptr 0 0),
 (5,
 AV.lg 0 3
 (lo ++
 [[AV.int IntKind.i64 (0 : Int), AV.int IntKind.i64 (0 : Int),
 AV.str (Va.mk (0 : Int) (0 : Int) noS).s]])),
 (6, AV.int IntKind.i64 (IntKind.i64.wrap (n - (1 : Int))))])
 (St.mk [Ob.cells [AV.nilsl, AV.bool true]] [(3, lo.length + 1)])
 else none)
 (K (AX.exit 0)
 (Env.mk 31 [(4, AV.ptr 0 0), (5, AV.lg 0 3 lo)])
 (St.mk [Ob.cells [AV.nilsl, AV.bool true]] [(3, lo.length)])) := by kernel_rfl

theorem de_outb1 (F : Nat) (lo : List (List AV)) :
 ((Cont.block 0 (Cont.then (f27_r0.run F (f27.leaveK Fun.done)) (f27.leaveK Fun.done))) (.exit 0) (Env.mk 31 [(4, .ptr 0 0), (5, .lg 0 3 lo)]) ⟨[.cells [.nilsl, .bool true]], [(3, lo.length)]⟩ : Ans) =
 some (Fin.ret (AV.tup [AV.nilsl, AV.bool false]), St.mk [Ob.cells [AV.nilsl, AV.bool true]] [(3, lo.length)]) := by kernel_rfl

end Go.Proofs.YtcfedmheblbdnaaDoor.Z

/- Values: the row of bytes: the program's Decode, as a callee. -/
set_option linter.unusedVariables false
namespace Go.Proofs.YtcfedmheblbdnaaDoor.Z
open Go.Proofs.YtcfedmheblbdnaaDoor.V
open Go Go.V Go.RowKit

def cellsV (vs : List Va) : List (List AV) := vs.map Va.cells
theorem cellsV_ok (vs : List Va) : okV (cellsV vs) = true := by
  simp only [okV, cellsV, List.all_map, List.all_eq_true]
  intro v _; rfl
theorem rowsV_cells (vs : List Va) : rowsV (cellsV vs) = vs := by
  simp only [rowsV, cellsV, List.map_map]
  conv => rhs; rw [← List.map_id vs]
  exact List.map_congr_left fun v _ => rfl
theorem cellsV_len (vs : List Va) : (cellsV vs).length = vs.length := by simp [cellsV]
def decN : Nat → List (List AV) → Option (List Va × List (List AV))
  | 0, l => some ([], l)
  | n + 1, l => match (rdV l).2 with
    | none => none
    | some l' => match decN n l' with
      | none => none
      | some p => some ((rdV l).1 :: p.1, p.2)
/-- The row of bytes, if they are one. -/
def decF (l : List (List AV)) : Option (List Va) :=
  match K.getC 8 (nR l) with
  | none => none
  | some o => match decN o.1.toNat (l.drop o.2) with
    | none => none
    | some p => bif (p.2.length : Int) == 0 && p.1.all rightV then some p.1 else none
def outA (lo : List Va) : AV := match lo with
  | [] => .nilsl
  | x :: r => .lg 0 3 (cellsV (x :: r))
def outT (lo : List Va) : List (Nat × Nat) := match lo with
  | [] => []
  | x :: r => [(3, (cellsV (x :: r)).length)]
theorem outA_snoc (lo : List Va) (v : Va) : outA (lo ++ [v]) = .lg 0 3 (cellsV lo ++ [v.cells]) := by
  cases lo with
  | nil => rfl
  | cons x r => show AV.lg 0 3 (cellsV (x :: (r ++ [v]))) = _; simp [cellsV]
theorem outT_snoc (lo : List Va) (v : Va) : outT (lo ++ [v]) = [(3, lo.length + 1)] := by
  cases lo with
  | nil => rfl
  | cons x r => show [(3, (cellsV (x :: (r ++ [v]))).length)] = _; simp [cellsV]
noncomputable def deK (F : Nat) : Cont := Cont.block 0 (Cont.then (f27_r0.run F (f27.leaveK Fun.done)) (f27.leaveK Fun.done))
theorem wrap_dn {k : Nat} (h : k < 1000) : IntKind.i64.wrap (((k + 1 : Nat) : Int) - 1) = (k : Nat) := by rw [wrapS (by omega) (by omega)]; omega
theorem de_gstep (F m : Nat) (K' : Cont) (f : Bool) (l : List (List AV)) (hf : K.fit (.sl f l) = true) (lo : List Va) (k : Nat) (hk : k < 1000) (hlo : lo.length ≤ 1000) :
    loopRun (f27_l0.run F) [4, 5, 6] K' m.succ (Env.mk 31 [(4, .ptr 0 0), (5, outA lo), (6, .int .i64 ((k + 1 : Nat) : Int))]) ⟨[.cells [.sl 1 f l, .bool false]], outT lo⟩
      = loopRun (f27_l0.run F) [4, 5, 6] K' m (Env.mk 31 [(4, .ptr 0 0), (5, outA (lo ++ [(rdV l).1])), (6, .int .i64 (k : Nat))]) ⟨[.cells (rdX f (rdV l).2).cells], outT (lo ++ [(rdV l).1])⟩ := by
  rw [outA_snoc, outT_snoc]
  cases lo with
  | nil => rw [outA, outT, de_g0, branch_of (decide_eq_true (by omega)), branch_of hf, wrap_dn hk]; rfl
  | cons x r =>
    rw [outA, outT, de_g1, branch_of (decide_eq_true (by omega)), branch_of hf, wrap_dn hk, if_pos ⟨rfl, by rw [cellsV_len]; omega⟩, cellsV_len]; rfl
theorem de_bstep (F m : Nat) (K' : Cont) (lo : List Va) (k : Nat) (hk : k < 1000) (hlo : lo.length ≤ 1000) :
    loopRun (f27_l0.run F) [4, 5, 6] K' m.succ (Env.mk 31 [(4, .ptr 0 0), (5, outA lo), (6, .int .i64 ((k + 1 : Nat) : Int))]) ⟨[.cells [.nilsl, .bool true]], outT lo⟩
      = loopRun (f27_l0.run F) [4, 5, 6] K' m (Env.mk 31 [(4, .ptr 0 0), (5, outA (lo ++ [⟨0, 0, noS⟩])), (6, .int .i64 (k : Nat))]) ⟨[.cells [.nilsl, .bool true]], outT (lo ++ [⟨0, 0, noS⟩])⟩ := by
  rw [outA_snoc, outT_snoc]
  cases lo with
  | nil => rw [outA, outT, de_b0, branch_of (decide_eq_true (by omega)), wrap_dn hk]; rfl
  | cons x r =>
    rw [outA, outT, de_b1, branch_of (decide_eq_true (by omega)), wrap_dn hk, if_pos ⟨rfl, by rw [cellsV_len]; omega⟩, cellsV_len]; rfl
theorem de_bad (F : Nat) : ∀ (k m : Nat) (lo : List Va), k < m → k ≤ 8 → lo.length + k ≤ 1000 →
    ∃ st', loopRun (f27_l0.run F) [4, 5, 6] (deK F) m (Env.mk 31 [(4, .ptr 0 0), (5, outA lo), (6, .int .i64 (k : Nat))]) ⟨[.cells [.nilsl, .bool true]], outT lo⟩ = some (.ret (.tup [.nilsl, .bool false]), st')
  | k, 0, lo, h, _, _ => by omega
  | 0, m + 1, lo, _, _, _ => by
    rw [show m + 1 = m.succ from rfl]
    cases lo with
    | nil => rw [outA, outT, de_b0, branch_not (decide_eq_false (by omega)), deK, de_outb0]; exact ⟨_, rfl⟩
    | cons x r => rw [outA, outT, de_b1, branch_not (decide_eq_false (by omega)), deK, de_outb1]; exact ⟨_, rfl⟩
  | k + 1, m + 1, lo, h, h8, hlo => by
    rw [show m + 1 = m.succ from rfl, de_bstep F m _ lo k (by omega) (by omega)]
    exact de_bad F k m _ (by omega) (by omega) (by simp; omega)
/-- What comes out. -/
def deAns (x : Option (List Va)) : AV := match x with
  | none => .tup [.nilsl, .bool false]
  | some vs => .tup [outA vs, .bool true]
theorem rrV_cells (vs : List Va) (h : vs.length ≤ 8) : rrV (cellsV vs) = vs.all rightV := by
  rw [rrV, rowsV_cells, decide_eq_true (by rw [cellsV_len]; omega), Bool.true_and]
theorem de_good (F : Nat) (f : Bool) : ∀ (k m : Nat) (lo : List Va) (l : List (List AV)), k < m → lo.length + k ≤ 8 → K.fit (.sl f l) = true →
    ∃ st', loopRun (f27_l0.run F) [4, 5, 6] (deK F) m (Env.mk 31 [(4, .ptr 0 0), (5, outA lo), (6, .int .i64 (k : Nat))]) ⟨[.cells [.sl 1 f l, .bool false]], outT lo⟩
      = some (.ret (deAns (match decN k l with
        | none => none
        | some p => bif (p.2.length : Int) == 0 && (lo ++ p.1).all rightV then some (lo ++ p.1) else none)), st')
  | k, 0, lo, l, h, _, _ => by omega
  | 0, m + 1, lo, l, _, hlo, hf => by
    rw [show m + 1 = m.succ from rfl, decN]
    simp only [List.append_nil]
    cases lo with
    | nil =>
      rw [outA, outT, de_g0, branch_not (decide_eq_false (by omega)), deK, de_outg0]
      cases hz : (l.length : Int) == 0 with
      | true => exact ⟨_, rfl⟩
      | false => exact ⟨_, rfl⟩
    | cons x r =>
      rw [outA, outT, de_g1, branch_not (decide_eq_false (by omega)), deK, de_outg1, branch_of (cellsV_ok (x :: r)), rrV_cells _ (by omega)]
      cases hz : (l.length : Int) == 0 with
      | false => exact ⟨_, rfl⟩
      | true =>
        rw [Bool.not_true, branch_false, Bool.true_and]
        cases (x :: r).all rightV <;> exact ⟨_, rfl⟩
  | k + 1, m + 1, lo, l, h, hlo, hf => by
    rw [show m + 1 = m.succ from rfl, de_gstep F m _ f l hf lo k (by omega) (by omega), decN]
    have hok := rdV_ok hf
    have hfit : ∀ l', (rdV l).2 = some l' → K.fit (.sl f l') = true := by
      intro l' hl'
      unfold rdV at hl'
      split at hl'
      · cases hl'
      · rename_i o _
        cases h1 : o.1 == 1 || o.1 == 2 with
        | true =>
          rw [h1, cond_true] at hl'
          split at hl'
          · cases hl'
          · cases hl'; exact fit_drop (fit_drop hf _) _
        | false =>
          rw [h1, cond_false] at hl'
          cases h3 : o.1 == 3 with
          | true =>
            rw [h3, cond_true] at hl'
            split at hl'
            · cases hl'
            · cases hl'; exact fit_drop (fit_drop hf _) _
          | false => rw [h3, cond_false] at hl'; cases hl'; exact fit_drop hf _
    cases hr : (rdV l).2 with
    | none => exact de_bad F k m _ (by omega) (by omega) (by simp; omega)
    | some l' =>
      obtain ⟨st', ih⟩ := de_good F f k m (lo ++ [(rdV l).1]) l' (by omega) (by simp; omega) (hfit l' hr)
      refine ⟨st', ih.trans ?_⟩
      simp only
      cases decN k l' with
      | none => rfl
      | some p => simp only [List.append_assoc, List.singleton_append]
theorem getC_range {n : Int} {l : List Nat} {o : Int × Nat} (h : K.getC n l = some o) : 0 ≤ o.1 ∧ o.1 ≤ n := by
  unfold K.getC at h
  split at h
  · cases h
  · split at h
    · cases h
    · cases h; omega
theorem de_spec (F : Nat) (hF : 1000 < F) (l : List (List AV)) (hf : K.fit (.sl false l) = true) : ∃ st', f27.run F [.sl 1 false l] ⟨[], []⟩ = some (.ret (deAns (decF l)), st') := by
  have hf2 : K.fit (.sl l.isEmpty l) = true := hf
  rw [de_run, branch_of hf, branch_of hf2, decF]
  cases hg : K.getC 8 (nR l) with
  | none =>
    obtain ⟨st', h⟩ := de_bad F 0 F [] (by omega) (by omega) (by simp)
    exact ⟨st', h⟩
  | some o =>
    obtain ⟨h1, h2⟩ := getC_range hg
    obtain ⟨n, hn⟩ := Int.eq_ofNat_of_zero_le h1
    obtain ⟨st', h⟩ := de_good F l.isEmpty n F [] (l.drop o.2) (by omega) (by simp; omega) (fit_drop hf2 _)
    refine ⟨st', ?_⟩
    simp only [onSome, hn, Int.toNat_natCast]
    exact h
/-- The answer, as the statement reads it. -/
def deG (z : Bool) (x : Option (List Va)) : AV := .tup [.ns z 3 (cellsV (x.getD [])), .bool x.isSome]
theorem scoped_cells (vs : List Va) : ScopedR 0 0 (cellsV vs) := scoped_okV (cellsV_ok vs)
noncomputable def okY (a : Bool × List (List AV)) : Bool := cdec ((a.1 = true → a.2 = []) ∧ K.fit (.sl false a.2) = true)
noncomputable def p27 : POrc Tryd.prog := f27.seenAs2 dec1y (fun a => [nsBA a]) (fun a => [nsSl a.1 1 a.2]) dec1y_enc okY (fun a => deG ((decF a.2).getD []).isEmpty (decF a.2)) fun a h => by
  obtain ⟨h1, h2⟩ := cdec_iff.mp h
  obtain ⟨z, l⟩ := a
  simp only at h1 h2
  refine ⟨fun g w vals ⟨v, vr, e, r901, r902⟩ => ⟨v, vr, e, nsSl_rel r901, r902⟩, ?_⟩
  cases z with
  | true =>
    obtain rfl := h1 rfl
    have : decF [] = none := rfl
    rw [this]
    exact ⟨⟨trivial, trivial⟩, .tup [.nilsl, .bool false], 1, _, _, rfl, ⟨trivial, trivial, trivial⟩, de_nil 0, fun _ _ _ => tup2_mono fun _ => ns_of_nil⟩
  | false =>
    obtain ⟨st', h⟩ := de_spec 1001 (by omega) l h2
    refine ⟨⟨near_okR (K.fit_spec h2).1, trivial⟩, frz (deAns (decF l)), 1001, _, st', rfl, ?_, h, ?_⟩
    · cases decF l with
      | none => exact ⟨trivial, trivial, trivial⟩
      | some vs =>
        cases vs with
        | nil => exact ⟨trivial, trivial, trivial⟩
        | cons x r => exact ⟨scoped_cells _, trivial, trivial⟩
    · intro g w v
      cases decF l with
      | none => exact tup2_mono fun _ => ns_of_nil
      | some vs =>
        cases vs with
        | nil => exact tup2_mono fun _ => ns_of_nil
        | cons x r => exact tup2_mono fun _ => ns_of_sl
end Go.Proofs.YtcfedmheblbdnaaDoor.Z

/- The functions' pieces, as told by gen.py. -/
set_option linter.unusedVariables false
set_option maxRecDepth 20000
namespace Go.Proofs.YtcfedmheblbdnaaDoor.V
open Go Go.V Go.RowKit


/-! ### 6: interlock/interlocklaw04.ValueOrder (37, 37, 37); results 6; slots: 0 a, 1 b, 2 c, 3 a, 4 b, 5 c, 7 x, 8 y, 9 z -/
end Go.Proofs.YtcfedmheblbdnaaDoor.V

/- What the functions' runs come to; the right sides were printed by a tool, Lean checks them. -/
set_option linter.unusedVariables false
set_option maxRecDepth 100000
namespace Go.Proofs.YtcfedmheblbdnaaDoor.V
open Go Go.V Go.RowKit

end Go.Proofs.YtcfedmheblbdnaaDoor.V

/- Values: ValueOrder is true. -/
set_option linter.unusedVariables false
namespace Go.Proofs.YtcfedmheblbdnaaDoor.V
open Go Go.V Go.RowKit

theorem va_row {r : List AV} (h : Ty.Shape tyVa r) : isRow tVa r = true := by
  obtain ⟨v, rfl, _⟩ := va_shape h
  rfl
theorem row_shape {b : Nat} {xs : List AV} (h : Ty.Shape (.sl tyVa b) xs) : ∃ z l, xs = [.ns z 3 l] ∧ okV l = true ∧ (z = true → l = []) ∧ ∀ r ∈ l, Ty.Shape tyVa r := by
  obtain ⟨z, l, h1, h2, h3, h4, h5⟩ := h
  exact ⟨z, l, h1, List.all_eq_true.mpr fun r hr => va_row (h5 r hr), h2, h5⟩
end Go.Proofs.YtcfedmheblbdnaaDoor.V

/- The functions' pieces, as told by gen.py. -/
set_option linter.unusedVariables false
set_option maxRecDepth 20000
namespace Go.Proofs.YtcfedmheblbdnaaDoor.V
open Go Go.V Go.RowKit

noncomputable def tx_aa5602 : ByteArray := opq { data := (.append #[0, 1, 2, 2, 3, 3, 3, 3, 4, 4, 4, 4, 4, 4, 4, 4, 5, 5, 5, 5, 5, 5, 5, 5, 5, 5, 5, 5, 5, 5, 5, 5, 6, 6, 6, 6, 6, 6, 6, 6, 6, 6, 6, 6, 6, 6, 6, 6, 6, 6, 6, 6, 6, 6, 6, 6, 6, 6, 6, 6, 6, 6, 6, 6, 7, 7, 7, 7, 7, 7, 7, 7, 7, 7, 7, 7, 7, 7, 7, 7, 7, 7, 7, 7, 7, 7, 7, 7, 7, 7, 7, 7, 7, 7, 7, 7, 7, 7, 7, 7, 7, 7, 7, 7, 7, 7, 7, 7, 7, 7, 7, 7, 7, 7, 7, 7, 7, 7, 7, 7, 7, 7, 7, 7, 7, 7, 7, 7] #[8, 8, 8, 8, 8, 8, 8, 8, 8, 8, 8, 8, 8, 8, 8, 8, 8, 8, 8, 8, 8, 8, 8, 8, 8, 8, 8, 8, 8, 8, 8, 8, 8, 8, 8, 8, 8, 8, 8, 8, 8, 8, 8, 8, 8, 8, 8, 8, 8, 8, 8, 8, 8, 8, 8, 8, 8, 8, 8, 8, 8, 8, 8, 8, 8, 8, 8, 8, 8, 8, 8, 8, 8, 8, 8, 8, 8, 8, 8, 8, 8, 8, 8, 8, 8, 8, 8, 8, 8, 8, 8, 8, 8, 8, 8, 8, 8, 8, 8, 8, 8, 8, 8, 8, 8, 8, 8, 8, 8, 8, 8, 8, 8, 8, 8, 8, 8, 8, 8, 8, 8, 8, 8, 8, 8, 8, 8, 8]) }
theorem tx_aa5602_eq : tx_aa5602 = { data := (.append #[0, 1, 2, 2, 3, 3, 3, 3, 4, 4, 4, 4, 4, 4, 4, 4, 5, 5, 5, 5, 5, 5, 5, 5, 5, 5, 5, 5, 5, 5, 5, 5, 6, 6, 6, 6, 6, 6, 6, 6, 6, 6, 6, 6, 6, 6, 6, 6, 6, 6, 6, 6, 6, 6, 6, 6, 6, 6, 6, 6, 6, 6, 6, 6, 7, 7, 7, 7, 7, 7, 7, 7, 7, 7, 7, 7, 7, 7, 7, 7, 7, 7, 7, 7, 7, 7, 7, 7, 7, 7, 7, 7, 7, 7, 7, 7, 7, 7, 7, 7, 7, 7, 7, 7, 7, 7, 7, 7, 7, 7, 7, 7, 7, 7, 7, 7, 7, 7, 7, 7, 7, 7, 7, 7, 7, 7, 7, 7] #[8, 8, 8, 8, 8, 8, 8, 8, 8, 8, 8, 8, 8, 8, 8, 8, 8, 8, 8, 8, 8, 8, 8, 8, 8, 8, 8, 8, 8, 8, 8, 8, 8, 8, 8, 8, 8, 8, 8, 8, 8, 8, 8, 8, 8, 8, 8, 8, 8, 8, 8, 8, 8, 8, 8, 8, 8, 8, 8, 8, 8, 8, 8, 8, 8, 8, 8, 8, 8, 8, 8, 8, 8, 8, 8, 8, 8, 8, 8, 8, 8, 8, 8, 8, 8, 8, 8, 8, 8, 8, 8, 8, 8, 8, 8, 8, 8, 8, 8, 8, 8, 8, 8, 8, 8, 8, 8, 8, 8, 8, 8, 8, 8, 8, 8, 8, 8, 8, 8, 8, 8, 8, 8, 8, 8, 8, 8, 8]) } := opq_eq _

/-! ### 93: internal/strconv.log10Pow2 (3); results 2; slots: 0 x, 1 x -/
noncomputable def f93_b : Sim Tryd.prog :=
 (.seq (.live [0] (.region 0 [
 ⟨(opAssign (some 2) (.const (Value.int IntKind.i64 0)) 3 "uscale.go:70" #[]).op, none⟩
 ] (by kernel_rfl)))
 (.seq (.live [2] (.region 1 [
 ⟨(opMove (some 3) (.tmp 0) 3 "uscale.go:72" #[]).op, none⟩,
 ⟨(opBin (some 4) .mul 3 (.tmp 3) (.const (Value.int IntKind.i64 78913)) 3 3 "uscale.go:72" #[eD 0]).op, none⟩,
 ⟨(opBin (some 5) .shr 3 (.tmp 4) (.const (Value.int IntKind.u64 18)) 80 3 "uscale.go:72" #[eD 1]).op, none⟩,
 ⟨(opAssign (some 2) (.tmp 5) 3 "uscale.go:72" #[eD 2, eP 0, eP 1, eP 2]).op, none⟩
 ] (by kernel_rfl)))
 (.live [2] .ret)))

noncomputable def f93 : Fun Tryd.prog where
 id := 93
 fn := Tryd.f93
 hf := Tryd.func93
 hname := by kernel_rfl
 body := f93_b
 hbody := by kernel_rfl
 res := [rTmp 2]
 hres := by kernel_rfl
 n := 6
 hn := by kernel_rfl

/-! ### 94: math/bits.Len64 (84); results 2; slots: 0 x, 1 x, 2 n -/
noncomputable def f94_b : Sim Tryd.prog :=
 (.seq (.live [0, 2] (.region 0 [
 ⟨(opAssign (some 2) (.const (Value.int IntKind.i64 0)) 3 "bits.go:337" #[]).op, none⟩
 ] (by kernel_rfl)))
 (.seq (.seq (.live [0, 2, 4] (.region 1 [
 ⟨(opMove (some 3) (.tmp 0) 84 "bits.go:338" #[]).op, none⟩,
 ⟨(opBin (some 4) .geq 84 (.tmp 3) (.const (Value.int IntKind.u64 4294967296)) 84 4 "bits.go:338" #[eD 0]).op, none⟩
 ] (by kernel_rfl)))
 (.cond (.tmp 4)
 (.seq (.live [0] (.region 2 [
 ⟨(opMove (some 5) (.tmp 0) 84 "bits.go:339" #[]).op, none⟩,
 ⟨(opBin (some 6) .shr 84 (.tmp 5) (.const (Value.int IntKind.u64 32)) 80 84 "bits.go:339" #[eD 0]).op, none⟩,
 ⟨(opAssign (some 0) (.tmp 6) 84 "bits.go:339" #[eD 1, eP 0, eP 1]).op, none⟩
 ] (by kernel_rfl)))
 (.live [0, 2] (.region 3 [
 ⟨(opAssign (some 2) (.const (Value.int IntKind.i64 32)) 3 "bits.go:340" #[]).op, none⟩
 ] (by kernel_rfl))))
 .skip))
 (.seq (.seq (.live [0, 2, 8] (.region 4 [
 ⟨(opMove (some 7) (.tmp 0) 84 "bits.go:342" #[]).op, none⟩,
 ⟨(opBin (some 8) .geq 84 (.tmp 7) (.const (Value.int IntKind.u64 65536)) 84 4 "bits.go:342" #[eD 0]).op, none⟩
 ] (by kernel_rfl)))
 (.cond (.tmp 8)
 (.seq (.live [0, 2] (.region 5 [
 ⟨(opMove (some 9) (.tmp 0) 84 "bits.go:343" #[]).op, none⟩,
 ⟨(opBin (some 10) .shr 84 (.tmp 9) (.const (Value.int IntKind.u64 16)) 80 84 "bits.go:343" #[eD 0]).op, none⟩,
 ⟨(opAssign (some 0) (.tmp 10) 84 "bits.go:343" #[eD 1, eP 0, eP 1]).op, none⟩
 ] (by kernel_rfl)))
 (.live [0, 2] (.region 6 [
 ⟨(opMove (some 11) (.tmp 2) 3 "bits.go:344" #[]).op, none⟩,
 ⟨(opBin (some 12) .add 3 (.tmp 11) (.const (Value.int IntKind.i64 16)) 3 3 "bits.go:344" #[eD 0]).op, none⟩,
 ⟨(opAssign (some 2) (.tmp 12) 3 "bits.go:344" #[eD 1, eP 0, eP 1]).op, none⟩
 ] (by kernel_rfl))))
 .skip))
 (.seq (.seq (.live [0, 2, 14] (.region 7 [
 ⟨(opMove (some 13) (.tmp 0) 84 "bits.go:346" #[]).op, none⟩,
 ⟨(opBin (some 14) .geq 84 (.tmp 13) (.const (Value.int IntKind.u64 256)) 84 4 "bits.go:346" #[eD 0]).op, none⟩
 ] (by kernel_rfl)))
 (.cond (.tmp 14)
 (.seq (.live [0, 2] (.region 8 [
 ⟨(opMove (some 15) (.tmp 0) 84 "bits.go:347" #[]).op, none⟩,
 ⟨(opBin (some 16) .shr 84 (.tmp 15) (.const (Value.int IntKind.u64 8)) 80 84 "bits.go:347" #[eD 0]).op, none⟩,
 ⟨(opAssign (some 0) (.tmp 16) 84 "bits.go:347" #[eD 1, eP 0, eP 1]).op, none⟩
 ] (by kernel_rfl)))
 (.live [0, 2] (.region 9 [
 ⟨(opMove (some 17) (.tmp 2) 3 "bits.go:348" #[]).op, none⟩,
 ⟨(opBin (some 18) .add 3 (.tmp 17) (.const (Value.int IntKind.i64 8)) 3 3 "bits.go:348" #[eD 0]).op, none⟩,
 ⟨(opAssign (some 2) (.tmp 18) 3 "bits.go:348" #[eD 1, eP 0, eP 1]).op, none⟩
 ] (by kernel_rfl))))
 .skip))
 (.seq (.live [2] (.region 10 [
 ⟨(opMove (some 19) (.tmp 2) 3 "bits.go:350" #[]).op, none⟩,
 ⟨(opMove (some 20) (.tmp 0) 84 "bits.go:350" #[]).op, none⟩,
 ⟨(opConvInt (some 21) 84 5 (.tmp 20) (.int .u64) Tryd.underlying84 .u8 Tryd.underlying5 5 "bits.go:350" #[eD 1]).op, none⟩,
 ⟨(PSim.named (opIndexStrW (some 22) 9 (.const (Value.string { data := (.append #[0, 1, 2, 2, 3, 3, 3, 3, 4, 4, 4, 4, 4, 4, 4, 4, 5, 5, 5, 5, 5, 5, 5, 5, 5, 5, 5, 5, 5, 5, 5, 5, 6, 6, 6, 6, 6, 6, 6, 6, 6, 6, 6, 6, 6, 6, 6, 6, 6, 6, 6, 6, 6, 6, 6, 6, 6, 6, 6, 6, 6, 6, 6, 6, 7, 7, 7, 7, 7, 7, 7, 7, 7, 7, 7, 7, 7, 7, 7, 7, 7, 7, 7, 7, 7, 7, 7, 7, 7, 7, 7, 7, 7, 7, 7, 7, 7, 7, 7, 7, 7, 7, 7, 7, 7, 7, 7, 7, 7, 7, 7, 7, 7, 7, 7, 7, 7, 7, 7, 7, 7, 7, 7, 7, 7, 7, 7, 7] #[8, 8, 8, 8, 8, 8, 8, 8, 8, 8, 8, 8, 8, 8, 8, 8, 8, 8, 8, 8, 8, 8, 8, 8, 8, 8, 8, 8, 8, 8, 8, 8, 8, 8, 8, 8, 8, 8, 8, 8, 8, 8, 8, 8, 8, 8, 8, 8, 8, 8, 8, 8, 8, 8, 8, 8, 8, 8, 8, 8, 8, 8, 8, 8, 8, 8, 8, 8, 8, 8, 8, 8, 8, 8, 8, 8, 8, 8, 8, 8, 8, 8, 8, 8, 8, 8, 8, 8, 8, 8, 8, 8, 8, 8, 8, 8, 8, 8, 8, 8, 8, 8, 8, 8, 8, 8, 8, 8, 8, 8, 8, 8, 8, 8, 8, 8, 8, 8, 8, 8, 8, 8, 8, 8, 8, 8, 8, 8]) })) (.tmp 21) Tryd.underlying9 5 "bits.go:350" #[eD 2]) tx_aa5602 { data := (.append #[0, 1, 2, 2, 3, 3, 3, 3, 4, 4, 4, 4, 4, 4, 4, 4, 5, 5, 5, 5, 5, 5, 5, 5, 5, 5, 5, 5, 5, 5, 5, 5, 6, 6, 6, 6, 6, 6, 6, 6, 6, 6, 6, 6, 6, 6, 6, 6, 6, 6, 6, 6, 6, 6, 6, 6, 6, 6, 6, 6, 6, 6, 6, 6, 7, 7, 7, 7, 7, 7, 7, 7, 7, 7, 7, 7, 7, 7, 7, 7, 7, 7, 7, 7, 7, 7, 7, 7, 7, 7, 7, 7, 7, 7, 7, 7, 7, 7, 7, 7, 7, 7, 7, 7, 7, 7, 7, 7, 7, 7, 7, 7, 7, 7, 7, 7, 7, 7, 7, 7, 7, 7, 7, 7, 7, 7, 7, 7] #[8, 8, 8, 8, 8, 8, 8, 8, 8, 8, 8, 8, 8, 8, 8, 8, 8, 8, 8, 8, 8, 8, 8, 8, 8, 8, 8, 8, 8, 8, 8, 8, 8, 8, 8, 8, 8, 8, 8, 8, 8, 8, 8, 8, 8, 8, 8, 8, 8, 8, 8, 8, 8, 8, 8, 8, 8, 8, 8, 8, 8, 8, 8, 8, 8, 8, 8, 8, 8, 8, 8, 8, 8, 8, 8, 8, 8, 8, 8, 8, 8, 8, 8, 8, 8, 8, 8, 8, 8, 8, 8, 8, 8, 8, 8, 8, 8, 8, 8, 8, 8, 8, 8, 8, 8, 8, 8, 8, 8, 8, 8, 8, 8, 8, 8, 8, 8, 8, 8, 8, 8, 8, 8, 8, 8, 8, 8, 8]) } tx_aa5602_eq (by kernel_rfl)).op, none⟩,
 ⟨(opConvInt (some 23) 5 3 (.tmp 22) (.int .u8) Tryd.underlying5 .i64 Tryd.underlying3 3 "bits.go:350" #[eD 3]).op, none⟩,
 ⟨(opBin (some 24) .add 3 (.tmp 19) (.tmp 23) 3 3 "bits.go:350" #[eD 0, eD 4]).op, none⟩,
 ⟨(opAssign (some 2) (.tmp 24) 3 "bits.go:350" #[eD 5, eP 0, eP 1, eP 2, eP 3, eP 4, eP 5]).op, none⟩
 ] (by kernel_rfl)))
 (.live [2] .ret))))))

noncomputable def f94 : Fun Tryd.prog where
 id := 94
 fn := Tryd.f94
 hf := Tryd.func94
 hname := by kernel_rfl
 body := f94_b
 hbody := by kernel_rfl
 res := [rTmp 2]
 hres := by kernel_rfl
 n := 25
 hn := by kernel_rfl

/-! ### 95: internal/strconv.bool2[int] (4); results 2; slots: 0 b, 1 b -/
noncomputable def f95_b : Sim Tryd.prog :=
 (.seq (.live [0] (.region 0 [
 ⟨(opAssign (some 2) (.const (Value.int IntKind.i64 0)) 3 "uscale.go:17" #[]).op, none⟩
 ] (by kernel_rfl)))
 (.seq (.seq (.live [3] (.region 1 [
 ⟨(opMove (some 3) (.tmp 0) 4 "uscale.go:18" #[]).op, none⟩
 ] (by kernel_rfl)))
 (.cond (.tmp 3)
 (.seq (.live [2] (.region 2 [
 ⟨(opAssign (some 2) (.const (Value.int IntKind.i64 1)) 3 "uscale.go:19" #[]).op, none⟩
 ] (by kernel_rfl)))
 (.live [2] .ret))
 .skip))
 (.seq (.live [2] (.region 3 [
 ⟨(opAssign (some 2) (.const (Value.int IntKind.i64 0)) 3 "uscale.go:21" #[]).op, none⟩
 ] (by kernel_rfl)))
 (.live [2] .ret))))

noncomputable def f95 : Fun Tryd.prog where
 id := 95
 fn := Tryd.f95
 hf := Tryd.func95
 hname := by kernel_rfl
 body := f95_b
 hbody := by kernel_rfl
 res := [rTmp 2]
 hres := by kernel_rfl
 n := 4
 hn := by kernel_rfl

end Go.Proofs.YtcfedmheblbdnaaDoor.V

/- What the functions' runs come to; the right sides were printed by a tool, Lean checks them. -/
set_option linter.unusedVariables false
set_option maxRecDepth 100000
namespace Go.Proofs.YtcfedmheblbdnaaDoor.V
open Go Go.V Go.RowKit

theorem ln_run (F : Nat) (x : Int) (st : St) :
 (f94.run F [.int .u64 x] st : Ans) =
 branch (AV.bool (decide (x ≥ (4294967296 : Int))))
 (branch (AV.bool (decide (x.fdiv (4294967296 : Int) ≥ (65536 : Int))))
 (branch (AV.bool (decide ((x.fdiv (4294967296 : Int)).fdiv (65536 : Int) ≥ (256 : Int))))
 (branch
 (AV.bool (inT tx_aa5602 (IntKind.u8.wrap (((x.fdiv (4294967296 : Int)).fdiv (65536 : Int)).fdiv (256 : Int)))))
 (some
 (Fin.ret
 (AV.int IntKind.i64
 (IntKind.i64.wrap
 ((56 : Int) +
 IntKind.i64.wrap
 (atT tx_aa5602
 (IntKind.u8.wrap (((x.fdiv (4294967296 : Int)).fdiv (65536 : Int)).fdiv (256 : Int))))))),
 st))
 none)
 (branch (AV.bool (inT tx_aa5602 (IntKind.u8.wrap ((x.fdiv (4294967296 : Int)).fdiv (65536 : Int)))))
 (some
 (Fin.ret
 (AV.int IntKind.i64
 (IntKind.i64.wrap
 ((48 : Int) +
 IntKind.i64.wrap
 (atT tx_aa5602 (IntKind.u8.wrap ((x.fdiv (4294967296 : Int)).fdiv (65536 : Int))))))),
 st))
 none))
 (branch (AV.bool (decide (x.fdiv (4294967296 : Int) ≥ (256 : Int))))
 (branch (AV.bool (inT tx_aa5602 (IntKind.u8.wrap ((x.fdiv (4294967296 : Int)).fdiv (256 : Int)))))
 (some
 (Fin.ret
 (AV.int IntKind.i64
 (IntKind.i64.wrap
 ((40 : Int) +
 IntKind.i64.wrap
 (atT tx_aa5602 (IntKind.u8.wrap ((x.fdiv (4294967296 : Int)).fdiv (256 : Int))))))),
 st))
 none)
 (branch (AV.bool (inT tx_aa5602 (IntKind.u8.wrap (x.fdiv (4294967296 : Int)))))
 (some
 (Fin.ret
 (AV.int IntKind.i64
 (IntKind.i64.wrap
 ((32 : Int) + IntKind.i64.wrap (atT tx_aa5602 (IntKind.u8.wrap (x.fdiv (4294967296 : Int))))))),
 st))
 none)))
 (branch (AV.bool (decide (x ≥ (65536 : Int))))
 (branch (AV.bool (decide (x.fdiv (65536 : Int) ≥ (256 : Int))))
 (branch (AV.bool (inT tx_aa5602 (IntKind.u8.wrap ((x.fdiv (65536 : Int)).fdiv (256 : Int)))))
 (some
 (Fin.ret
 (AV.int IntKind.i64
 (IntKind.i64.wrap
 ((24 : Int) +
 IntKind.i64.wrap (atT tx_aa5602 (IntKind.u8.wrap ((x.fdiv (65536 : Int)).fdiv (256 : Int))))))),
 st))
 none)
 (branch (AV.bool (inT tx_aa5602 (IntKind.u8.wrap (x.fdiv (65536 : Int)))))
 (some
 (Fin.ret
 (AV.int IntKind.i64
 (IntKind.i64.wrap
 ((16 : Int) + IntKind.i64.wrap (atT tx_aa5602 (IntKind.u8.wrap (x.fdiv (65536 : Int))))))),
 st))
 none))
 (branch (AV.bool (decide (x ≥ (256 : Int))))
 (branch (AV.bool (inT tx_aa5602 (IntKind.u8.wrap (x.fdiv (256 : Int)))))
 (some
 (Fin.ret
 (AV.int IntKind.i64
 (IntKind.i64.wrap
 ((8 : Int) + IntKind.i64.wrap (atT tx_aa5602 (IntKind.u8.wrap (x.fdiv (256 : Int))))))),
 st))
 none)
 (branch (AV.bool (inT tx_aa5602 (IntKind.u8.wrap x)))
 (some
 (Fin.ret
 (AV.int IntKind.i64
 (IntKind.i64.wrap ((0 : Int) + IntKind.i64.wrap (atT tx_aa5602 (IntKind.u8.wrap x))))),
 st))
 none))) := by kernel_rfl

end Go.Proofs.YtcfedmheblbdnaaDoor.V

/- Values: how many bits a number has. -/
set_option linter.unusedVariables false
namespace Go.Proofs.YtcfedmheblbdnaaDoor.V
open Go Go.V Go.RowKit

def bl (n : Nat) : Nat := if n = 0 then 0 else Nat.log2 n + 1
theorem bl_spec {n : Nat} (h : n ≠ 0) : 1 ≤ bl n ∧ 2 ^ (bl n - 1) ≤ n ∧ n < 2 ^ bl n := by
  unfold bl
  rw [if_neg h]
  refine ⟨by omega, ?_, ?_⟩
  · rw [Nat.add_sub_cancel]; exact (Nat.le_log2 h).mp (Nat.le_refl _)
  · exact (Nat.log2_lt h).mp (Nat.lt_succ_self _)
theorem bl_of {n L : Nat} (h1 : 1 ≤ L) (h2 : 2 ^ (L - 1) ≤ n) (h3 : n < 2 ^ L) : bl n = L := by
  have hn : n ≠ 0 := by have := Nat.two_pow_pos (L - 1); omega
  have a := (Nat.le_log2 hn).mpr h2
  have b := (Nat.log2_lt hn).mpr h3
  unfold bl
  rw [if_neg hn]; omega
theorem bl_div {n k : Nat} (h : 1 ≤ n / 2 ^ k) : bl n = k + bl (n / 2 ^ k) := by
  obtain ⟨h1, h2, h3⟩ := bl_spec (n := n / 2 ^ k) (by omega)
  have hp := Nat.two_pow_pos k
  refine bl_of (by omega) ?_ ?_
  · have := Nat.mul_le_mul_right (2 ^ k) h2
    rw [← Nat.pow_add] at this
    rw [show k + bl (n / 2 ^ k) - 1 = bl (n / 2 ^ k) - 1 + k by omega]
    exact Nat.le_trans this (Nat.div_mul_le_self n (2 ^ k))
  · have h4 : n < (n / 2 ^ k + 1) * 2 ^ k := by have := Nat.lt_div_mul_add (a := n) hp; rw [Nat.add_mul, Nat.one_mul]; omega
    have h5 := Nat.mul_le_mul_right (2 ^ k) (show n / 2 ^ k + 1 ≤ 2 ^ bl (n / 2 ^ k) from h3)
    rw [← Nat.pow_add] at h5
    rw [Nat.add_comm]; omega
theorem tab_bl : ∀ j : Fin 256, (strL tx_aa5602).getD j.val 0 = bl j.val := by
  rw [tx_aa5602_eq]; decide +kernel
theorem tab_len : (strL tx_aa5602).length = 256 := by rw [tx_aa5602_eq]; decide +kernel
theorem ln_leaf {n k m : Nat} (hm : m < 256) (hk : k ≤ 56) (h : bl n = k + bl m) (st : St) (K : Int) (hK : K = (k : Nat)) :
    branch (.bool (inT tx_aa5602 (IntKind.u8.wrap (m : Int)))) (some (Fin.ret (AV.int IntKind.i64 (IntKind.i64.wrap (K + IntKind.i64.wrap (atT tx_aa5602 (IntKind.u8.wrap (m : Int)))))), st)) none = (some (Fin.ret (.int .i64 (bl n : Nat)), st) : Ans) := by
  have hw : IntKind.u8.wrap (m : Int) = (m : Nat) := wrapNat rfl (by simpa [IntKind.bits] using hm)
  have hb : bl m ≤ 8 := by
    by_cases h0 : m = 0
    · subst h0; simp [bl]
    · obtain ⟨_, h2, _⟩ := bl_spec h0
      rcases Nat.lt_or_ge 8 (bl m) with h8 | h8
      · have : 2 ^ 8 ≤ 2 ^ (bl m - 1) := Nat.pow_le_pow_right (by omega) (by omega)
        omega
      · exact h8
  rw [hw, branch_of (inT_iff.mpr ⟨by omega, by rw [tab_len]; simpa using hm⟩), atT, opq_eq, Int.toNat_natCast, tab_bl ⟨m, hm⟩, hK]
  simp only
  rw [wrapS (n := ((bl m : Nat) : Int)) (by omega) (by omega), wrapS (by omega) (by omega), h, Int.natCast_add]
theorem fdivN (n d : Nat) : (n : Int).fdiv (d : Int) = ((n / d : Nat) : Int) := by
  rw [Int.fdiv_eq_ediv_of_nonneg _ (by omega)]; rfl
theorem ln_eq {F : Nat} (n : Nat) (h : n < 18446744073709551616) (st : St) : f94.run F [.int .u64 (n : Int)] st = some (.ret (.int .i64 (bl n : Nat)), st) := by
  have e32 : (n : Int).fdiv 4294967296 = ((n / 2 ^ 32 : Nat) : Int) := fdivN n (2 ^ 32)
  have e16 : ∀ m : Nat, (m : Int).fdiv 65536 = ((m / 2 ^ 16 : Nat) : Int) := fun m => fdivN m (2 ^ 16)
  have e8 : ∀ m : Nat, (m : Int).fdiv 256 = ((m / 2 ^ 8 : Nat) : Int) := fun m => fdivN m (2 ^ 8)
  rw [ln_run]
  simp only [e32, e16, e8, Nat.div_div_eq_div_mul, ← Nat.pow_add]
  by_cases h1 : n < 4294967296
  · rw [branch_not (decide_eq_false (by omega))]
    by_cases h2 : n < 65536
    · rw [branch_not (decide_eq_false (by omega))]
      by_cases h3 : n < 256
      · rw [branch_not (decide_eq_false (by omega))]; exact ln_leaf (k := 0) h3 (by omega) (by omega) st _ rfl
      · rw [branch_of (decide_eq_true (by omega))]; exact ln_leaf (k := 8) (by omega) (by omega) (bl_div (by omega)) st _ rfl
    · rw [branch_of (decide_eq_true (by omega))]
      by_cases h3 : n / 2 ^ 16 < 256
      · rw [branch_not (decide_eq_false (by omega))]; exact ln_leaf (k := 16) h3 (by omega) (bl_div (by omega)) st _ rfl
      · rw [branch_of (decide_eq_true (by omega))]; exact ln_leaf (k := 24) (by omega) (by omega) (bl_div (by omega)) st _ rfl
  · rw [branch_of (decide_eq_true (by omega))]
    by_cases h2 : n / 2 ^ 32 < 65536
    · rw [branch_not (decide_eq_false (by omega))]
      by_cases h3 : n / 2 ^ 32 < 256
      · rw [branch_not (decide_eq_false (by omega))]; exact ln_leaf (k := 32) h3 (by omega) (bl_div (by omega)) st _ rfl
      · rw [branch_of (decide_eq_true (by omega))]; exact ln_leaf (k := 40) (by omega) (by omega) (bl_div (by omega)) st _ rfl
    · rw [branch_of (decide_eq_true (by omega))]
      by_cases h3 : n / 2 ^ (32 + 16) < 256
      · rw [branch_not (decide_eq_false (by omega))]; exact ln_leaf (k := 48) h3 (by omega) (bl_div (by omega)) st _ rfl
      · rw [branch_of (decide_eq_true (by omega))]; exact ln_leaf (k := 56) (by omega) (by omega) (bl_div (by omega)) st _ rfl
end Go.Proofs.YtcfedmheblbdnaaDoor.V

/- Values: Len64, as a callee. -/
set_option linter.unusedVariables false
namespace Go.Proofs.YtcfedmheblbdnaaDoor.V
open Go Go.V Go.RowKit

def dec1w : List AV → Option Int
  | [x] => match x with
    | .int k n => match k with
      | .u64 => some n
      | _ => none
    | _ => none
  | _ => none
theorem dec1w_enc : ∀ l a, dec1w l = some a → l = [.int .u64 a] := by
  intro l a h
  unfold dec1w at h
  split at h
  · split at h
    · split at h
      · cases h; rfl
      · cases h
    · cases h
  · cases h
noncomputable def okW (n : Int) : Bool := cdec (0 ≤ n ∧ n < 18446744073709551616)
noncomputable def p94 : POrc Tryd.prog := f94.pureIf dec1w (fun n => [.int .u64 n]) dec1w_enc okW (fun n => .int .i64 (bl n.toNat : Nat)) (fun _ _ => ⟨rfl, fun _ _ => trivial⟩) fun n h => ⟨0, fun st => by
  obtain ⟨h1, h2⟩ := cdec_iff.mp h
  obtain ⟨m, rfl⟩ := Int.eq_ofNat_of_zero_le h1
  exact ln_eq m (by omega) st⟩
end Go.Proofs.YtcfedmheblbdnaaDoor.V

/- The functions' pieces, as told by gen.py. -/
set_option linter.unusedVariables false
set_option maxRecDepth 20000
namespace Go.Proofs.YtcfedmheblbdnaaDoor.V
open Go Go.V Go.RowKit

theorem sz84 : (Tryd.prog.info? 84).map (·.size) = some 1 := by kernel_rfl

/-! ### 85: internal/strconv.numDigits (84); results 2; slots: 0 d, 1 d, 3 nd -/
noncomputable def f85_b : Sim Tryd.prog :=
 (.seq (.live [0] (.region 0 [
 ⟨(opAssign (some 2) (.const (Value.int IntKind.i64 0)) 3 "uscale.go:287" #[]).op, none⟩
 ] (by kernel_rfl)))
 (.seq (.live [0, 3] (.region 1 [
 ⟨(opMove (some 4) (.tmp 0) 84 "uscale.go:288" #[]).op, none⟩,
 ⟨(opCallP p94 (some 5) [(.tmp 4)] #[84] 3 "uscale.go:288" #[eD 0]).op, none⟩,
 ⟨opCall (f93.orc 0) (some 6) [(.tmp 5)] #[3] 3 "uscale.go:288" #[eD 1, eC 1], none⟩,
 ⟨(PSim.hide (opAssign (some 3) (.tmp 6) 3 "uscale.go:288" #[eD 2, eC 2, eP 0, eP 1, eP 2])).op, none⟩
 ] (by kernel_rfl)))
 (.seq (.live [2] (.region 2 [
 ⟨(opMove (some 7) (.tmp 3) 3 "uscale.go:289" #[]).op, none⟩,
 ⟨(opMove (some 8) (.tmp 0) 84 "uscale.go:289" #[]).op, none⟩,
 ⟨(opMove (some 9) (.tmp 3) 3 "uscale.go:289" #[]).op, none⟩,
 ⟨(PSim.glob (opIndexAddrA (some 10) 117 (.global 2) (.tmp 9) 20 84 1 Tryd.underlying117 sz84 0 "uscale.go:289" #[eD 2])).op, none⟩,
 ⟨(opLoadT (.one (.int .u64)) (some 11) 84 (.tmp 10) (.int .u64) Tryd.underlying84 1 sz84 (by kernel_rfl) 84 "uscale.go:289" #[eD 3]).op, none⟩,
 ⟨(opBin (some 12) .geq 84 (.tmp 8) (.tmp 11) 84 4 "uscale.go:289" #[eD 1, eD 4]).op, none⟩,
 ⟨opCall (f95.orc 0) (some 13) [(.tmp 12)] #[4] 3 "uscale.go:289" #[eD 5], none⟩,
 ⟨(opBin (some 14) .add 3 (.tmp 7) (.tmp 13) 3 3 "uscale.go:289" #[eD 0, eD 6]).op, none⟩,
 ⟨(opAssign (some 2) (.tmp 14) 3 "uscale.go:289" #[eD 7, eC 6, eP 0, eP 1, eP 2, eP 3, eP 4, eP 5, eP 6, eP 7]).op, none⟩
 ] (by kernel_rfl)))
 (.live [2] .ret))))

noncomputable def f85 : Fun Tryd.prog where
 id := 85
 fn := Tryd.f85
 hf := Tryd.func85
 hname := by kernel_rfl
 body := f85_b
 hbody := by kernel_rfl
 res := [rTmp 2]
 hres := by kernel_rfl
 n := 15
 hn := by kernel_rfl

end Go.Proofs.YtcfedmheblbdnaaDoor.V

/- What the functions' runs come to; the right sides were printed by a tool, Lean checks them. -/
set_option linter.unusedVariables false
set_option maxRecDepth 100000
namespace Go.Proofs.YtcfedmheblbdnaaDoor.V
open Go Go.V Go.RowKit

theorem nd_run (F : Nat) (x : Int) (st : St) :
 (f85.run F [.int .u64 x] st : Ans) =
 branch (AV.bool (okW x))
 (if
 (0 : Int) ≤ opq ((IntKind.i64.wrap ((↑(bl x.toNat) : Int) * (78913 : Int))).fdiv (262144 : Int)) ∧
 opq ((IntKind.i64.wrap ((↑(bl x.toNat) : Int) * (78913 : Int))).fdiv (262144 : Int)) < (20 : Int) then
 branch
 (AV.bool
 ((LD.one (LT.int IntKind.u64)).is
 (List.drop
 ((opq ((IntKind.i64.wrap ((↑(bl x.toNat) : Int) * (78913 : Int))).fdiv (262144 : Int))).toNat * 1)
 [AV.int IntKind.u64 (1 : Int), AV.int IntKind.u64 (10 : Int), AV.int IntKind.u64 (100 : Int),
 AV.int IntKind.u64 (1000 : Int), AV.int IntKind.u64 (10000 : Int), AV.int IntKind.u64 (100000 : Int),
 AV.int IntKind.u64 (1000000 : Int), AV.int IntKind.u64 (10000000 : Int),
 AV.int IntKind.u64 (100000000 : Int), AV.int IntKind.u64 (1000000000 : Int),
 AV.int IntKind.u64 (10000000000 : Int), AV.int IntKind.u64 (100000000000 : Int),
 AV.int IntKind.u64 (1000000000000 : Int), AV.int IntKind.u64 (10000000000000 : Int),
 AV.int IntKind.u64 (100000000000000 : Int), AV.int IntKind.u64 (1000000000000000 : Int),
 AV.int IntKind.u64 (10000000000000000 : Int), AV.int IntKind.u64 (100000000000000000 : Int),
 AV.int IntKind.u64 (1000000000000000000 : Int), AV.int IntKind.u64 (10000000000000000000 : Int)])))
 (branch
 (AV.bool
 (decide
 (x ≥
 hdI
 (List.drop
 ((opq ((IntKind.i64.wrap ((↑(bl x.toNat) : Int) * (78913 : Int))).fdiv (262144 : Int))).toNat *
 1)
 [AV.int IntKind.u64 (1 : Int), AV.int IntKind.u64 (10 : Int), AV.int IntKind.u64 (100 : Int),
 AV.int IntKind.u64 (1000 : Int), AV.int IntKind.u64 (10000 : Int),
 AV.int IntKind.u64 (100000 : Int), AV.int IntKind.u64 (1000000 : Int),
 AV.int IntKind.u64 (10000000 : Int), AV.int IntKind.u64 (100000000 : Int),
 AV.int IntKind.u64 (1000000000 : Int), AV.int IntKind.u64 (10000000000 : Int),
 AV.int IntKind.u64 (100000000000 : Int), AV.int IntKind.u64 (1000000000000 : Int),
 AV.int IntKind.u64 (10000000000000 : Int), AV.int IntKind.u64 (100000000000000 : Int),
 AV.int IntKind.u64 (1000000000000000 : Int), AV.int IntKind.u64 (10000000000000000 : Int),
 AV.int IntKind.u64 (100000000000000000 : Int), AV.int IntKind.u64 (1000000000000000000 : Int),
 AV.int IntKind.u64 (10000000000000000000 : Int)]))))
 (some
 (Fin.ret
 (AV.int IntKind.i64
 (IntKind.i64.wrap
 (opq ((IntKind.i64.wrap ((↑(bl x.toNat) : Int) * (78913 : Int))).fdiv (262144 : Int)) + (1 : Int)))),
 st))
 (some
 (Fin.ret
 (AV.int IntKind.i64
 (IntKind.i64.wrap
 (opq ((IntKind.i64.wrap ((↑(bl x.toNat) : Int) * (78913 : Int))).fdiv (262144 : Int)) + (0 : Int)))),
 st)))
 none
 else none)
 none := by kernel_rfl

end Go.Proofs.YtcfedmheblbdnaaDoor.V

/- Values: how many digits a number has. -/
set_option linter.unusedVariables false
namespace Go.Proofs.YtcfedmheblbdnaaDoor.V
open Go Go.V Go.RowKit

def tN (L : Nat) : Nat := L * 78913 / 262144
theorem tN_tab : ∀ L : Fin 65, L.val ≠ 0 → tN L.val ≤ 19 ∧ 2 ^ L.val ≤ 10 ^ (tN L.val + 1) ∧ (tN L.val = 0 ∨ 10 ^ (tN L.val - 1) ≤ 2 ^ (L.val - 1)) := by decide +kernel
def ndN (u : Nat) : Nat := if 10 ^ tN (bl u) ≤ u then tN (bl u) + 1 else tN (bl u)
theorem bl_le {u : Nat} (h : u < 18446744073709551616) : bl u ≤ 64 := by
  by_cases h0 : u = 0
  · subst h0; simp [bl]
  · obtain ⟨_, h2, _⟩ := bl_spec h0
    rcases Nat.lt_or_ge 64 (bl u) with h8 | h8
    · have : 2 ^ 64 ≤ 2 ^ (bl u - 1) := Nat.pow_le_pow_right (by omega) (by omega)
      omega
    · exact h8
theorem ndN_spec {u : Nat} (h0 : u ≠ 0) (h : u < 18446744073709551616) : 1 ≤ ndN u ∧ ndN u ≤ 20 ∧ 10 ^ (ndN u - 1) ≤ u ∧ u < 10 ^ ndN u := by
  have hL := bl_le h
  obtain ⟨h1, h2, h3⟩ := bl_spec h0
  obtain ⟨k1, k2, k3⟩ := tN_tab ⟨bl u, by omega⟩ (by show bl u ≠ 0; omega)
  simp only at k1 k2 k3
  unfold ndN
  by_cases hc : 10 ^ tN (bl u) ≤ u
  · rw [if_pos hc, Nat.add_sub_cancel]
    exact ⟨by omega, by omega, hc, Nat.lt_of_lt_of_le h3 k2⟩
  · rw [if_neg hc]
    rcases k3 with k3 | k3
    · rw [k3] at hc; simp at hc; omega
    · refine ⟨?_, by omega, Nat.le_trans k3 h2, by omega⟩
      rcases Nat.eq_zero_or_pos (tN (bl u)) with h5 | h5
      · rw [h5] at hc; simp at hc; omega
      · exact h5
def pow10 : List AV := [AV.int IntKind.u64 (1 : Int), AV.int IntKind.u64 (10 : Int), AV.int IntKind.u64 (100 : Int),
                        AV.int IntKind.u64 (1000 : Int), AV.int IntKind.u64 (10000 : Int),
                        AV.int IntKind.u64 (100000 : Int), AV.int IntKind.u64 (1000000 : Int),
                        AV.int IntKind.u64 (10000000 : Int), AV.int IntKind.u64 (100000000 : Int),
                        AV.int IntKind.u64 (1000000000 : Int), AV.int IntKind.u64 (10000000000 : Int),
                        AV.int IntKind.u64 (100000000000 : Int), AV.int IntKind.u64 (1000000000000 : Int),
                        AV.int IntKind.u64 (10000000000000 : Int), AV.int IntKind.u64 (100000000000000 : Int),
                        AV.int IntKind.u64 (1000000000000000 : Int), AV.int IntKind.u64 (10000000000000000 : Int),
                        AV.int IntKind.u64 (100000000000000000 : Int), AV.int IntKind.u64 (1000000000000000000 : Int),
                        AV.int IntKind.u64 (10000000000000000000 : Int)]
theorem pow10_at : ∀ t : Fin 20, (LD.one (LT.int IntKind.u64)).is (List.drop t.val pow10) = true ∧ hdI (List.drop t.val pow10) = ((10 ^ t.val : Nat) : Int) := by
  intro t
  obtain ⟨t, ht⟩ := t
  match t, ht with
  | 0, _ | 1, _ | 2, _ | 3, _ | 4, _ | 5, _ | 6, _ | 7, _ | 8, _ | 9, _ | 10, _ | 11, _ | 12, _ | 13, _ | 14, _ | 15, _ | 16, _ | 17, _ | 18, _ | 19, _ => exact ⟨rfl, rfl⟩
  | n + 20, h => omega
theorem nd_eq {F : Nat} (u : Nat) (h : u < 18446744073709551616) (st : St) : f85.run F [.int .u64 (u : Int)] st = some (.ret (.int .i64 (ndN u : Nat)), st) := by
  have hL := bl_le h
  have ht : tN (bl u) ≤ 19 := by
    by_cases h0 : bl u = 0
    · rw [h0]; decide
    · exact (tN_tab ⟨bl u, by omega⟩ h0).1
  have e : opq ((IntKind.i64.wrap (((bl u : Nat) : Int) * 78913)).fdiv 262144) = ((tN (bl u) : Nat) : Int) := by
    rw [opq_eq, wrapS (by omega) (by omega), show ((bl u : Nat) : Int) * 78913 = ((bl u * 78913 : Nat) : Int) by omega]
    exact fdivN _ 262144
  obtain ⟨k1, k2⟩ := pow10_at ⟨tN (bl u), by omega⟩
  simp only [pow10] at k1 k2
  rw [nd_run, branch_of (show okW (u : Int) = true from cdec_iff.mpr ⟨by omega, by omega⟩), Int.toNat_natCast, e, if_pos ⟨by omega, by omega⟩, Int.toNat_natCast, Nat.mul_one, branch_of k1, k2, wrapS (by omega) (by omega), wrapS (by omega) (by omega)]
  unfold ndN
  by_cases hc : 10 ^ tN (bl u) ≤ u
  · rw [branch_of (decide_eq_true (by exact_mod_cast hc)), if_pos hc, Int.natCast_add]; rfl
  · rw [branch_not (decide_eq_false (by intro h'; exact hc (by exact_mod_cast h'))), if_neg hc, Int.add_zero]
noncomputable def ndO (n : Int) : Int := opq ((ndN n.toNat : Nat) : Int)
noncomputable def p85 : POrc Tryd.prog := f85.pureIf dec1w (fun n => [.int .u64 n]) dec1w_enc okW (fun n => .int .i64 (ndO n)) (fun _ _ => ⟨rfl, fun _ _ => trivial⟩) fun n h => ⟨0, fun st => by
  rw [ndO, opq_eq]
  obtain ⟨h1, h2⟩ := cdec_iff.mp h
  obtain ⟨m, rfl⟩ := Int.eq_ofNat_of_zero_le h1
  exact nd_eq m (by omega) st⟩
end Go.Proofs.YtcfedmheblbdnaaDoor.V

/- The functions' pieces, as told by gen.py. -/
set_option linter.unusedVariables false
set_option maxRecDepth 20000
namespace Go.Proofs.YtcfedmheblbdnaaDoor.V
open Go Go.V Go.RowKit

noncomputable def tx_b18925 : ByteArray := opq { data := #[48, 49, 50, 51, 52, 53, 54, 55, 56, 57, 97, 98, 99, 100, 101, 102, 103, 104, 105, 106, 107, 108, 109, 110, 111, 112, 113, 114, 115, 116, 117, 118, 119, 120, 121, 122] }
theorem tx_b18925_eq : tx_b18925 = { data := #[48, 49, 50, 51, 52, 53, 54, 55, 56, 57, 97, 98, 99, 100, 101, 102, 103, 104, 105, 106, 107, 108, 109, 110, 111, 112, 113, 114, 115, 116, 117, 118, 119, 120, 121, 122] } := opq_eq _
noncomputable def tx_730b8f : ByteArray := opq { data := (.append #[48, 48, 48, 49, 48, 50, 48, 51, 48, 52, 48, 53, 48, 54, 48, 55, 48, 56, 48, 57, 49, 48, 49, 49, 49, 50, 49, 51, 49, 52, 49, 53, 49, 54, 49, 55, 49, 56, 49, 57, 50, 48, 50, 49, 50, 50, 50, 51, 50, 52, 50, 53, 50, 54, 50, 55, 50, 56, 50, 57, 51, 48, 51, 49, 51, 50, 51, 51, 51, 52, 51, 53, 51, 54, 51, 55, 51, 56, 51, 57, 52, 48, 52, 49, 52, 50, 52, 51, 52, 52, 52, 53, 52, 54, 52, 55, 52, 56, 52, 57] #[53, 48, 53, 49, 53, 50, 53, 51, 53, 52, 53, 53, 53, 54, 53, 55, 53, 56, 53, 57, 54, 48, 54, 49, 54, 50, 54, 51, 54, 52, 54, 53, 54, 54, 54, 55, 54, 56, 54, 57, 55, 48, 55, 49, 55, 50, 55, 51, 55, 52, 55, 53, 55, 54, 55, 55, 55, 56, 55, 57, 56, 48, 56, 49, 56, 50, 56, 51, 56, 52, 56, 53, 56, 54, 56, 55, 56, 56, 56, 57, 57, 48, 57, 49, 57, 50, 57, 51, 57, 52, 57, 53, 57, 54, 57, 55, 57, 56, 57, 57]) }
theorem tx_730b8f_eq : tx_730b8f = { data := (.append #[48, 48, 48, 49, 48, 50, 48, 51, 48, 52, 48, 53, 48, 54, 48, 55, 48, 56, 48, 57, 49, 48, 49, 49, 49, 50, 49, 51, 49, 52, 49, 53, 49, 54, 49, 55, 49, 56, 49, 57, 50, 48, 50, 49, 50, 50, 50, 51, 50, 52, 50, 53, 50, 54, 50, 55, 50, 56, 50, 57, 51, 48, 51, 49, 51, 50, 51, 51, 51, 52, 51, 53, 51, 54, 51, 55, 51, 56, 51, 57, 52, 48, 52, 49, 52, 50, 52, 51, 52, 52, 52, 53, 52, 54, 52, 55, 52, 56, 52, 57] #[53, 48, 53, 49, 53, 50, 53, 51, 53, 52, 53, 53, 53, 54, 53, 55, 53, 56, 53, 57, 54, 48, 54, 49, 54, 50, 54, 51, 54, 52, 54, 53, 54, 54, 54, 55, 54, 56, 54, 57, 55, 48, 55, 49, 55, 50, 55, 51, 55, 52, 55, 53, 55, 54, 55, 55, 55, 56, 55, 57, 56, 48, 56, 49, 56, 50, 56, 51, 56, 52, 56, 53, 56, 54, 56, 55, 56, 56, 56, 57, 57, 48, 57, 49, 57, 50, 57, 51, 57, 52, 57, 53, 57, 54, 57, 55, 57, 56, 57, 57]) } := opq_eq _

/-! ### 84: internal/strconv.small (3); results 2; slots: 0 i, 1 i -/
noncomputable def f84_b : Sim Tryd.prog :=
 (.seq (.live [0] (.region 0 [
 ⟨(opAssign (some 2) (.const (Value.string { data := #[] })) 9 "itoa.go:171" #[]).op, none⟩
 ] (by kernel_rfl)))
 (.seq (.seq (.live [0, 4] (.region 1 [
 ⟨(opMove (some 3) (.tmp 0) 3 "itoa.go:172" #[]).op, none⟩,
 ⟨(opBin (some 4) .lss 3 (.tmp 3) (.const (Value.int IntKind.i64 10)) 3 4 "itoa.go:172" #[eD 0]).op, none⟩
 ] (by kernel_rfl)))
 (.cond (.tmp 4)
 (.seq (.live [2] (.region 2 [
 ⟨(opMove (some 5) (.tmp 0) 3 "itoa.go:173" #[]).op, none⟩,
 ⟨(opMove (some 6) (.tmp 0) 3 "itoa.go:173" #[]).op, none⟩,
 ⟨(opBin (some 7) .add 3 (.tmp 6) (.const (Value.int IntKind.i64 1)) 3 3 "itoa.go:173" #[eD 1]).op, none⟩,
 ⟨(PSim.named (opSliceStrW (some 8) 9 (.const (Value.string { data := #[48, 49, 50, 51, 52, 53, 54, 55, 56, 57, 97, 98, 99, 100, 101, 102, 103, 104, 105, 106, 107, 108, 109, 110, 111, 112, 113, 114, 115, 116, 117, 118, 119, 120, 121, 122] })) (some (.tmp 5)) (some (.tmp 7)) Tryd.underlying9 9 "itoa.go:173" #[eD 0, eD 2]) tx_b18925 { data := #[48, 49, 50, 51, 52, 53, 54, 55, 56, 57, 97, 98, 99, 100, 101, 102, 103, 104, 105, 106, 107, 108, 109, 110, 111, 112, 113, 114, 115, 116, 117, 118, 119, 120, 121, 122] } tx_b18925_eq (by kernel_rfl)).op, none⟩,
 ⟨(opAssign (some 2) (.tmp 8) 9 "itoa.go:173" #[eD 3, eP 0, eP 1, eP 2, eP 3]).op, none⟩
 ] (by kernel_rfl)))
 (.live [2] .ret))
 .skip))
 (.seq (.live [2] (.region 3 [
 ⟨(opMove (some 9) (.tmp 0) 3 "itoa.go:175" #[]).op, none⟩,
 ⟨(opBin (some 10) .mul 3 (.tmp 9) (.const (Value.int IntKind.i64 2)) 3 3 "itoa.go:175" #[eD 0]).op, none⟩,
 ⟨(opMove (some 11) (.tmp 0) 3 "itoa.go:175" #[]).op, none⟩,
 ⟨(opBin (some 12) .mul 3 (.tmp 11) (.const (Value.int IntKind.i64 2)) 3 3 "itoa.go:175" #[eD 2]).op, none⟩,
 ⟨(opBin (some 13) .add 3 (.tmp 12) (.const (Value.int IntKind.i64 2)) 3 3 "itoa.go:175" #[eD 3]).op, none⟩,
 ⟨(PSim.named (opSliceStrW (some 14) 9 (.const (Value.string { data := (.append #[48, 48, 48, 49, 48, 50, 48, 51, 48, 52, 48, 53, 48, 54, 48, 55, 48, 56, 48, 57, 49, 48, 49, 49, 49, 50, 49, 51, 49, 52, 49, 53, 49, 54, 49, 55, 49, 56, 49, 57, 50, 48, 50, 49, 50, 50, 50, 51, 50, 52, 50, 53, 50, 54, 50, 55, 50, 56, 50, 57, 51, 48, 51, 49, 51, 50, 51, 51, 51, 52, 51, 53, 51, 54, 51, 55, 51, 56, 51, 57, 52, 48, 52, 49, 52, 50, 52, 51, 52, 52, 52, 53, 52, 54, 52, 55, 52, 56, 52, 57] #[53, 48, 53, 49, 53, 50, 53, 51, 53, 52, 53, 53, 53, 54, 53, 55, 53, 56, 53, 57, 54, 48, 54, 49, 54, 50, 54, 51, 54, 52, 54, 53, 54, 54, 54, 55, 54, 56, 54, 57, 55, 48, 55, 49, 55, 50, 55, 51, 55, 52, 55, 53, 55, 54, 55, 55, 55, 56, 55, 57, 56, 48, 56, 49, 56, 50, 56, 51, 56, 52, 56, 53, 56, 54, 56, 55, 56, 56, 56, 57, 57, 48, 57, 49, 57, 50, 57, 51, 57, 52, 57, 53, 57, 54, 57, 55, 57, 56, 57, 57]) })) (some (.tmp 10)) (some (.tmp 13)) Tryd.underlying9 9 "itoa.go:175" #[eD 1, eD 4]) tx_730b8f { data := (.append #[48, 48, 48, 49, 48, 50, 48, 51, 48, 52, 48, 53, 48, 54, 48, 55, 48, 56, 48, 57, 49, 48, 49, 49, 49, 50, 49, 51, 49, 52, 49, 53, 49, 54, 49, 55, 49, 56, 49, 57, 50, 48, 50, 49, 50, 50, 50, 51, 50, 52, 50, 53, 50, 54, 50, 55, 50, 56, 50, 57, 51, 48, 51, 49, 51, 50, 51, 51, 51, 52, 51, 53, 51, 54, 51, 55, 51, 56, 51, 57, 52, 48, 52, 49, 52, 50, 52, 51, 52, 52, 52, 53, 52, 54, 52, 55, 52, 56, 52, 57] #[53, 48, 53, 49, 53, 50, 53, 51, 53, 52, 53, 53, 53, 54, 53, 55, 53, 56, 53, 57, 54, 48, 54, 49, 54, 50, 54, 51, 54, 52, 54, 53, 54, 54, 54, 55, 54, 56, 54, 57, 55, 48, 55, 49, 55, 50, 55, 51, 55, 52, 55, 53, 55, 54, 55, 55, 55, 56, 55, 57, 56, 48, 56, 49, 56, 50, 56, 51, 56, 52, 56, 53, 56, 54, 56, 55, 56, 56, 56, 57, 57, 48, 57, 49, 57, 50, 57, 51, 57, 52, 57, 53, 57, 54, 57, 55, 57, 56, 57, 57]) } tx_730b8f_eq (by kernel_rfl)).op, none⟩,
 ⟨(opAssign (some 2) (.tmp 14) 9 "itoa.go:175" #[eD 5, eP 0, eP 1, eP 2, eP 3, eP 4, eP 5]).op, none⟩
 ] (by kernel_rfl)))
 (.live [2] .ret))))

noncomputable def f84 : Fun Tryd.prog where
 id := 84
 fn := Tryd.f84
 hf := Tryd.func84
 hname := by kernel_rfl
 body := f84_b
 hbody := by kernel_rfl
 res := [rTmp 2]
 hres := by kernel_rfl
 n := 15
 hn := by kernel_rfl

/-! ### 86: internal/strconv.formatBase10 (46, 84); results ; slots:  -/
/-- A loop's round; at its head live: 0 , 1 , 4  -/
noncomputable def f86_l0 : Sim Tryd.prog :=
 (.seq (.seq (.live [0, 1, 4, 20] (.region 1 [
 ⟨(opMove (some 19) (.tmp 4) 3 "itoa.go:196" #[]).op, none⟩,
 ⟨(opBin (some 20) .geq 3 (.tmp 19) (.const (Value.int IntKind.i64 8)) 3 4 "itoa.go:196" #[eD 0]).op, none⟩
 ] (by kernel_rfl)))
 (.cond (.tmp 20)
 .skip
 (.live [0, 1, 4] (.exit 0))))
 (.block 1 (.seq (.live [0, 1, 4, 5] (.region 2 [
 ⟨(opMove (some 21) (.tmp 1) 84 "itoa.go:198" #[]).op, none⟩,
 ⟨(opBin (some 22) .rem 84 (.tmp 21) (.const (Value.int IntKind.u64 100000000)) 84 84 "itoa.go:198" #[eD 0]).op, none⟩,
 ⟨(opConvInt (some 23) 84 118 (.tmp 22) (.int .u64) Tryd.underlying84 .u32 Tryd.underlying118 118 "itoa.go:198" #[eD 1]).op, none⟩,
 ⟨(opAssign (some 5) (.tmp 23) 118 "itoa.go:198" #[eD 2, eP 0, eP 1, eP 2]).op, none⟩
 ] (by kernel_rfl)))
 (.seq (.live [0, 1, 4, 5] (.region 3 [
 ⟨(opMove (some 24) (.tmp 1) 84 "itoa.go:199" #[]).op, none⟩,
 ⟨(opBin (some 25) .quo 84 (.tmp 24) (.const (Value.int IntKind.u64 100000000)) 84 84 "itoa.go:199" #[eD 0]).op, none⟩,
 ⟨(opAssign (some 1) (.tmp 25) 84 "itoa.go:199" #[eD 1, eP 0, eP 1]).op, none⟩
 ] (by kernel_rfl)))
 (.seq (.live [0, 1, 4, 6, 7] (.region 4 [
 ⟨(opMove (some 26) (.tmp 5) 118 "itoa.go:200" #[]).op, none⟩,
 ⟨(opBin (some 27) .quo 118 (.tmp 26) (.const (Value.int IntKind.u32 10000)) 118 118 "itoa.go:200" #[eD 0]).op, none⟩,
 ⟨(opMove (some 28) (.tmp 5) 118 "itoa.go:200" #[{ on := 4, ground := (Ground.gcOnly Departure.lateStores) }]).op, none⟩,
 ⟨(opBin (some 29) .rem 118 (.tmp 28) (.const (Value.int IntKind.u32 10000)) 118 118 "itoa.go:200" #[eD 2, { on := 4, ground := (Ground.gcOnly Departure.lateStores) }]).op, none⟩,
 ⟨(opAssign (some 6) (.tmp 27) 118 "itoa.go:200" #[eD 1, eP 0, eP 1, { on := 2, ground := (Ground.textOnly Departure.lateStores) }, { on := 3, ground := (Ground.textOnly Departure.lateStores) }]).op, none⟩,
 ⟨(opAssign (some 7) (.tmp 29) 118 "itoa.go:200" #[eD 3, eC 4, eP 0, eP 1, eP 2, eP 3, eP 4]).op, none⟩
 ] (by kernel_rfl)))
 (.seq (.live [0, 1, 4, 6, 8, 9] (.region 5 [
 ⟨(opMove (some 30) (.tmp 7) 118 "itoa.go:201" #[]).op, none⟩,
 ⟨(opBin (some 31) .quo 118 (.tmp 30) (.const (Value.int IntKind.u32 100)) 118 118 "itoa.go:201" #[eD 0]).op, none⟩,
 ⟨(opBin (some 32) .mul 118 (.tmp 31) (.const (Value.int IntKind.u32 2)) 118 118 "itoa.go:201" #[eD 1]).op, none⟩,
 ⟨(opMove (some 33) (.tmp 7) 118 "itoa.go:201" #[{ on := 6, ground := (Ground.gcOnly Departure.lateStores) }]).op, none⟩,
 ⟨(opBin (some 34) .rem 118 (.tmp 33) (.const (Value.int IntKind.u32 100)) 118 118 "itoa.go:201" #[eD 3, { on := 6, ground := (Ground.gcOnly Departure.lateStores) }]).op, none⟩,
 ⟨(opBin (some 35) .mul 118 (.tmp 34) (.const (Value.int IntKind.u32 2)) 118 118 "itoa.go:201" #[eD 4, { on := 6, ground := (Ground.gcOnly Departure.lateStores) }]).op, none⟩,
 ⟨(opAssign (some 8) (.tmp 32) 118 "itoa.go:201" #[eD 2, eP 0, eP 1, eP 2, { on := 3, ground := (Ground.textOnly Departure.lateStores) }, { on := 4, ground := (Ground.textOnly Departure.lateStores) }, { on := 5, ground := (Ground.textOnly Departure.lateStores) }]).op, none⟩,
 ⟨(opAssign (some 9) (.tmp 35) 118 "itoa.go:201" #[eD 5, eC 6, eP 0, eP 1, eP 2, eP 3, eP 4, eP 5, eP 6]).op, none⟩
 ] (by kernel_rfl)))
 (.seq (.live [0, 1, 4, 8, 9, 10, 11] (.region 6 [
 ⟨(opMove (some 36) (.tmp 6) 118 "itoa.go:202" #[]).op, none⟩,
 ⟨(opBin (some 37) .quo 118 (.tmp 36) (.const (Value.int IntKind.u32 100)) 118 118 "itoa.go:202" #[eD 0]).op, none⟩,
 ⟨(opBin (some 38) .mul 118 (.tmp 37) (.const (Value.int IntKind.u32 2)) 118 118 "itoa.go:202" #[eD 1]).op, none⟩,
 ⟨(opMove (some 39) (.tmp 6) 118 "itoa.go:202" #[{ on := 6, ground := (Ground.gcOnly Departure.lateStores) }]).op, none⟩,
 ⟨(opBin (some 40) .rem 118 (.tmp 39) (.const (Value.int IntKind.u32 100)) 118 118 "itoa.go:202" #[eD 3, { on := 6, ground := (Ground.gcOnly Departure.lateStores) }]).op, none⟩,
 ⟨(opBin (some 41) .mul 118 (.tmp 40) (.const (Value.int IntKind.u32 2)) 118 118 "itoa.go:202" #[eD 4, { on := 6, ground := (Ground.gcOnly Departure.lateStores) }]).op, none⟩,
 ⟨(opAssign (some 10) (.tmp 38) 118 "itoa.go:202" #[eD 2, eP 0, eP 1, eP 2, { on := 3, ground := (Ground.textOnly Departure.lateStores) }, { on := 4, ground := (Ground.textOnly Departure.lateStores) }, { on := 5, ground := (Ground.textOnly Departure.lateStores) }]).op, none⟩,
 ⟨(opAssign (some 11) (.tmp 41) 118 "itoa.go:202" #[eD 5, eC 6, eP 0, eP 1, eP 2, eP 3, eP 4, eP 5, eP 6]).op, none⟩
 ] (by kernel_rfl)))
 (.seq (.live [0, 1, 4, 8, 10, 11] (.draw 7 [
 ⟨.p (opMove (some 42) (.tmp 0) 46 "itoa.go:203" #[]), none⟩,
 ⟨.p (opMove (some 43) (.tmp 4) 3 "itoa.go:203" #[]), none⟩,
 ⟨.pn (opBin (some 44) .sub 3 (.tmp 43) (.const (Value.int IntKind.i64 1)) 3 3 "itoa.go:203" #[eD 1]) opBin_nat, none⟩,
 ⟨.p (opMove (some 45) (.tmp 0) 46 "itoa.go:203" #[{ on := 12, ground := (Ground.gcOnly Departure.lateStores) }]), none⟩,
 ⟨.p (opMove (some 46) (.tmp 4) 3 "itoa.go:203" #[{ on := 12, ground := (Ground.gcOnly Departure.lateStores) }]), none⟩,
 ⟨.pn (opBin (some 47) .sub 3 (.tmp 46) (.const (Value.int IntKind.i64 2)) 3 3 "itoa.go:203" #[eD 4, { on := 12, ground := (Ground.gcOnly Departure.lateStores) }]) opBin_nat, none⟩,
 ⟨.p (opMove (some 48) (.tmp 9) 118 "itoa.go:203" #[]), none⟩,
 ⟨.pn (opBin (some 49) .add 118 (.tmp 48) (.const (Value.int IntKind.u32 1)) 118 118 "itoa.go:203" #[eD 6]) opBin_nat, none⟩,
 ⟨.pn (PSim.named (opIndexStrW (some 50) 9 (.const (Value.string { data := (.append #[48, 48, 48, 49, 48, 50, 48, 51, 48, 52, 48, 53, 48, 54, 48, 55, 48, 56, 48, 57, 49, 48, 49, 49, 49, 50, 49, 51, 49, 52, 49, 53, 49, 54, 49, 55, 49, 56, 49, 57, 50, 48, 50, 49, 50, 50, 50, 51, 50, 52, 50, 53, 50, 54, 50, 55, 50, 56, 50, 57, 51, 48, 51, 49, 51, 50, 51, 51, 51, 52, 51, 53, 51, 54, 51, 55, 51, 56, 51, 57, 52, 48, 52, 49, 52, 50, 52, 51, 52, 52, 52, 53, 52, 54, 52, 55, 52, 56, 52, 57] #[53, 48, 53, 49, 53, 50, 53, 51, 53, 52, 53, 53, 53, 54, 53, 55, 53, 56, 53, 57, 54, 48, 54, 49, 54, 50, 54, 51, 54, 52, 54, 53, 54, 54, 54, 55, 54, 56, 54, 57, 55, 48, 55, 49, 55, 50, 55, 51, 55, 52, 55, 53, 55, 54, 55, 55, 55, 56, 55, 57, 56, 48, 56, 49, 56, 50, 56, 51, 56, 52, 56, 53, 56, 54, 56, 55, 56, 56, 56, 57, 57, 48, 57, 49, 57, 50, 57, 51, 57, 52, 57, 53, 57, 54, 57, 55, 57, 56, 57, 57]) })) (.tmp 49) Tryd.underlying9 5 "itoa.go:203" #[eD 7]) tx_730b8f { data := (.append #[48, 48, 48, 49, 48, 50, 48, 51, 48, 52, 48, 53, 48, 54, 48, 55, 48, 56, 48, 57, 49, 48, 49, 49, 49, 50, 49, 51, 49, 52, 49, 53, 49, 54, 49, 55, 49, 56, 49, 57, 50, 48, 50, 49, 50, 50, 50, 51, 50, 52, 50, 53, 50, 54, 50, 55, 50, 56, 50, 57, 51, 48, 51, 49, 51, 50, 51, 51, 51, 52, 51, 53, 51, 54, 51, 55, 51, 56, 51, 57, 52, 48, 52, 49, 52, 50, 52, 51, 52, 52, 52, 53, 52, 54, 52, 55, 52, 56, 52, 57] #[53, 48, 53, 49, 53, 50, 53, 51, 53, 52, 53, 53, 53, 54, 53, 55, 53, 56, 53, 57, 54, 48, 54, 49, 54, 50, 54, 51, 54, 52, 54, 53, 54, 54, 54, 55, 54, 56, 54, 57, 55, 48, 55, 49, 55, 50, 55, 51, 55, 52, 55, 53, 55, 54, 55, 55, 55, 56, 55, 57, 56, 48, 56, 49, 56, 50, 56, 51, 56, 52, 56, 53, 56, 54, 56, 55, 56, 56, 56, 57, 57, 48, 57, 49, 57, 50, 57, 51, 57, 52, 57, 53, 57, 54, 57, 55, 57, 56, 57, 57]) } tx_730b8f_eq (by kernel_rfl)) (PSim.named_nat opIndexStrW_nat), none⟩,
 ⟨.p (opMove (some 51) (.tmp 9) 118 "itoa.go:203" #[]), none⟩,
 ⟨.pn (PSim.named (opIndexStrW (some 52) 9 (.const (Value.string { data := (.append #[48, 48, 48, 49, 48, 50, 48, 51, 48, 52, 48, 53, 48, 54, 48, 55, 48, 56, 48, 57, 49, 48, 49, 49, 49, 50, 49, 51, 49, 52, 49, 53, 49, 54, 49, 55, 49, 56, 49, 57, 50, 48, 50, 49, 50, 50, 50, 51, 50, 52, 50, 53, 50, 54, 50, 55, 50, 56, 50, 57, 51, 48, 51, 49, 51, 50, 51, 51, 51, 52, 51, 53, 51, 54, 51, 55, 51, 56, 51, 57, 52, 48, 52, 49, 52, 50, 52, 51, 52, 52, 52, 53, 52, 54, 52, 55, 52, 56, 52, 57] #[53, 48, 53, 49, 53, 50, 53, 51, 53, 52, 53, 53, 53, 54, 53, 55, 53, 56, 53, 57, 54, 48, 54, 49, 54, 50, 54, 51, 54, 52, 54, 53, 54, 54, 54, 55, 54, 56, 54, 57, 55, 48, 55, 49, 55, 50, 55, 51, 55, 52, 55, 53, 55, 54, 55, 55, 55, 56, 55, 57, 56, 48, 56, 49, 56, 50, 56, 51, 56, 52, 56, 53, 56, 54, 56, 55, 56, 56, 56, 57, 57, 48, 57, 49, 57, 50, 57, 51, 57, 52, 57, 53, 57, 54, 57, 55, 57, 56, 57, 57]) })) (.tmp 51) Tryd.underlying9 5 "itoa.go:203" #[eD 9]) tx_730b8f { data := (.append #[48, 48, 48, 49, 48, 50, 48, 51, 48, 52, 48, 53, 48, 54, 48, 55, 48, 56, 48, 57, 49, 48, 49, 49, 49, 50, 49, 51, 49, 52, 49, 53, 49, 54, 49, 55, 49, 56, 49, 57, 50, 48, 50, 49, 50, 50, 50, 51, 50, 52, 50, 53, 50, 54, 50, 55, 50, 56, 50, 57, 51, 48, 51, 49, 51, 50, 51, 51, 51, 52, 51, 53, 51, 54, 51, 55, 51, 56, 51, 57, 52, 48, 52, 49, 52, 50, 52, 51, 52, 52, 52, 53, 52, 54, 52, 55, 52, 56, 52, 57] #[53, 48, 53, 49, 53, 50, 53, 51, 53, 52, 53, 53, 53, 54, 53, 55, 53, 56, 53, 57, 54, 48, 54, 49, 54, 50, 54, 51, 54, 52, 54, 53, 54, 54, 54, 55, 54, 56, 54, 57, 55, 48, 55, 49, 55, 50, 55, 51, 55, 52, 55, 53, 55, 54, 55, 55, 55, 56, 55, 57, 56, 48, 56, 49, 56, 50, 56, 51, 56, 52, 56, 53, 56, 54, 56, 55, 56, 56, 56, 57, 57, 48, 57, 49, 57, 50, 57, 51, 57, 52, 57, 53, 57, 54, 57, 55, 57, 56, 57, 57]) } tx_730b8f_eq (by kernel_rfl)) (PSim.named_nat opIndexStrW_nat), none⟩,
 ⟨.pn (opIndexAddrT (some 53) 46 (.tmp 42) (.tmp 44) 5 1 Tryd.underlying46 sz5 0 "itoa.go:203" #[eD 0, eD 2, eP 0, eP 1, eP 2, { on := 3, ground := (Ground.textOnly Departure.lateStores) }, { on := 4, ground := (Ground.textOnly Departure.lateStores) }, { on := 5, ground := (Ground.textOnly Departure.lateStores) }, eP 6, eP 7, eP 8, { on := 9, ground := (Ground.textOnly Departure.lateStores) }, { on := 10, ground := (Ground.textOnly Departure.lateStoresUnsure) }]) opIndexAddrT_nat, none⟩,
 ⟨.mn (opStoreC none 5 (.tmp 53) (.tmp 50) 1 sz5 0 "itoa.go:203" #[eD 11, eD 8, eP 0, eP 1, eP 2, { on := 3, ground := (Ground.textOnly Departure.lateStores) }, { on := 4, ground := (Ground.textOnly Departure.lateStores) }, { on := 5, ground := (Ground.textOnly Departure.lateStores) }, eP 6, eP 7, eP 8, { on := 9, ground := (Ground.textOnly Departure.lateStores) }, { on := 10, ground := (Ground.textOnly Departure.lateStoresUnsure) }]) opStoreC_nat, none⟩,
 ⟨.pn (opIndexAddrT (some 54) 46 (.tmp 45) (.tmp 47) 5 1 Tryd.underlying46 sz5 0 "itoa.go:203" #[eD 3, eD 5, eP 0, eP 1, eP 2, eP 3, eP 4, eP 5, eP 6, eP 7, eP 8, eP 9, eP 10, eP 11, eP 12]) opIndexAddrT_nat, none⟩,
 ⟨.mn (opStoreC none 5 (.tmp 54) (.tmp 52) 1 sz5 0 "itoa.go:203" #[eD 13, eD 10, eC 12, eP 0, eP 1, eP 2, eP 3, eP 4, eP 5, eP 6, eP 7, eP 8, eP 9, eP 10, eP 11, eP 12]) opStoreC_nat, none⟩
 ] mixed (by kernel_rfl)))
 (.seq (.live [0, 1, 4, 10, 11] (.draw 8 [
 ⟨.p (opMove (some 55) (.tmp 0) 46 "itoa.go:204" #[]), none⟩,
 ⟨.p (opMove (some 56) (.tmp 4) 3 "itoa.go:204" #[]), none⟩,
 ⟨.pn (opBin (some 57) .sub 3 (.tmp 56) (.const (Value.int IntKind.i64 3)) 3 3 "itoa.go:204" #[eD 1]) opBin_nat, none⟩,
 ⟨.p (opMove (some 58) (.tmp 0) 46 "itoa.go:204" #[{ on := 12, ground := (Ground.gcOnly Departure.lateStores) }]), none⟩,
 ⟨.p (opMove (some 59) (.tmp 4) 3 "itoa.go:204" #[{ on := 12, ground := (Ground.gcOnly Departure.lateStores) }]), none⟩,
 ⟨.pn (opBin (some 60) .sub 3 (.tmp 59) (.const (Value.int IntKind.i64 4)) 3 3 "itoa.go:204" #[eD 4, { on := 12, ground := (Ground.gcOnly Departure.lateStores) }]) opBin_nat, none⟩,
 ⟨.p (opMove (some 61) (.tmp 8) 118 "itoa.go:204" #[]), none⟩,
 ⟨.pn (opBin (some 62) .add 118 (.tmp 61) (.const (Value.int IntKind.u32 1)) 118 118 "itoa.go:204" #[eD 6]) opBin_nat, none⟩,
 ⟨.pn (PSim.named (opIndexStrW (some 63) 9 (.const (Value.string { data := (.append #[48, 48, 48, 49, 48, 50, 48, 51, 48, 52, 48, 53, 48, 54, 48, 55, 48, 56, 48, 57, 49, 48, 49, 49, 49, 50, 49, 51, 49, 52, 49, 53, 49, 54, 49, 55, 49, 56, 49, 57, 50, 48, 50, 49, 50, 50, 50, 51, 50, 52, 50, 53, 50, 54, 50, 55, 50, 56, 50, 57, 51, 48, 51, 49, 51, 50, 51, 51, 51, 52, 51, 53, 51, 54, 51, 55, 51, 56, 51, 57, 52, 48, 52, 49, 52, 50, 52, 51, 52, 52, 52, 53, 52, 54, 52, 55, 52, 56, 52, 57] #[53, 48, 53, 49, 53, 50, 53, 51, 53, 52, 53, 53, 53, 54, 53, 55, 53, 56, 53, 57, 54, 48, 54, 49, 54, 50, 54, 51, 54, 52, 54, 53, 54, 54, 54, 55, 54, 56, 54, 57, 55, 48, 55, 49, 55, 50, 55, 51, 55, 52, 55, 53, 55, 54, 55, 55, 55, 56, 55, 57, 56, 48, 56, 49, 56, 50, 56, 51, 56, 52, 56, 53, 56, 54, 56, 55, 56, 56, 56, 57, 57, 48, 57, 49, 57, 50, 57, 51, 57, 52, 57, 53, 57, 54, 57, 55, 57, 56, 57, 57]) })) (.tmp 62) Tryd.underlying9 5 "itoa.go:204" #[eD 7]) tx_730b8f { data := (.append #[48, 48, 48, 49, 48, 50, 48, 51, 48, 52, 48, 53, 48, 54, 48, 55, 48, 56, 48, 57, 49, 48, 49, 49, 49, 50, 49, 51, 49, 52, 49, 53, 49, 54, 49, 55, 49, 56, 49, 57, 50, 48, 50, 49, 50, 50, 50, 51, 50, 52, 50, 53, 50, 54, 50, 55, 50, 56, 50, 57, 51, 48, 51, 49, 51, 50, 51, 51, 51, 52, 51, 53, 51, 54, 51, 55, 51, 56, 51, 57, 52, 48, 52, 49, 52, 50, 52, 51, 52, 52, 52, 53, 52, 54, 52, 55, 52, 56, 52, 57] #[53, 48, 53, 49, 53, 50, 53, 51, 53, 52, 53, 53, 53, 54, 53, 55, 53, 56, 53, 57, 54, 48, 54, 49, 54, 50, 54, 51, 54, 52, 54, 53, 54, 54, 54, 55, 54, 56, 54, 57, 55, 48, 55, 49, 55, 50, 55, 51, 55, 52, 55, 53, 55, 54, 55, 55, 55, 56, 55, 57, 56, 48, 56, 49, 56, 50, 56, 51, 56, 52, 56, 53, 56, 54, 56, 55, 56, 56, 56, 57, 57, 48, 57, 49, 57, 50, 57, 51, 57, 52, 57, 53, 57, 54, 57, 55, 57, 56, 57, 57]) } tx_730b8f_eq (by kernel_rfl)) (PSim.named_nat opIndexStrW_nat), none⟩,
 ⟨.p (opMove (some 64) (.tmp 8) 118 "itoa.go:204" #[]), none⟩,
 ⟨.pn (PSim.named (opIndexStrW (some 65) 9 (.const (Value.string { data := (.append #[48, 48, 48, 49, 48, 50, 48, 51, 48, 52, 48, 53, 48, 54, 48, 55, 48, 56, 48, 57, 49, 48, 49, 49, 49, 50, 49, 51, 49, 52, 49, 53, 49, 54, 49, 55, 49, 56, 49, 57, 50, 48, 50, 49, 50, 50, 50, 51, 50, 52, 50, 53, 50, 54, 50, 55, 50, 56, 50, 57, 51, 48, 51, 49, 51, 50, 51, 51, 51, 52, 51, 53, 51, 54, 51, 55, 51, 56, 51, 57, 52, 48, 52, 49, 52, 50, 52, 51, 52, 52, 52, 53, 52, 54, 52, 55, 52, 56, 52, 57] #[53, 48, 53, 49, 53, 50, 53, 51, 53, 52, 53, 53, 53, 54, 53, 55, 53, 56, 53, 57, 54, 48, 54, 49, 54, 50, 54, 51, 54, 52, 54, 53, 54, 54, 54, 55, 54, 56, 54, 57, 55, 48, 55, 49, 55, 50, 55, 51, 55, 52, 55, 53, 55, 54, 55, 55, 55, 56, 55, 57, 56, 48, 56, 49, 56, 50, 56, 51, 56, 52, 56, 53, 56, 54, 56, 55, 56, 56, 56, 57, 57, 48, 57, 49, 57, 50, 57, 51, 57, 52, 57, 53, 57, 54, 57, 55, 57, 56, 57, 57]) })) (.tmp 64) Tryd.underlying9 5 "itoa.go:204" #[eD 9]) tx_730b8f { data := (.append #[48, 48, 48, 49, 48, 50, 48, 51, 48, 52, 48, 53, 48, 54, 48, 55, 48, 56, 48, 57, 49, 48, 49, 49, 49, 50, 49, 51, 49, 52, 49, 53, 49, 54, 49, 55, 49, 56, 49, 57, 50, 48, 50, 49, 50, 50, 50, 51, 50, 52, 50, 53, 50, 54, 50, 55, 50, 56, 50, 57, 51, 48, 51, 49, 51, 50, 51, 51, 51, 52, 51, 53, 51, 54, 51, 55, 51, 56, 51, 57, 52, 48, 52, 49, 52, 50, 52, 51, 52, 52, 52, 53, 52, 54, 52, 55, 52, 56, 52, 57] #[53, 48, 53, 49, 53, 50, 53, 51, 53, 52, 53, 53, 53, 54, 53, 55, 53, 56, 53, 57, 54, 48, 54, 49, 54, 50, 54, 51, 54, 52, 54, 53, 54, 54, 54, 55, 54, 56, 54, 57, 55, 48, 55, 49, 55, 50, 55, 51, 55, 52, 55, 53, 55, 54, 55, 55, 55, 56, 55, 57, 56, 48, 56, 49, 56, 50, 56, 51, 56, 52, 56, 53, 56, 54, 56, 55, 56, 56, 56, 57, 57, 48, 57, 49, 57, 50, 57, 51, 57, 52, 57, 53, 57, 54, 57, 55, 57, 56, 57, 57]) } tx_730b8f_eq (by kernel_rfl)) (PSim.named_nat opIndexStrW_nat), none⟩,
 ⟨.pn (opIndexAddrT (some 66) 46 (.tmp 55) (.tmp 57) 5 1 Tryd.underlying46 sz5 0 "itoa.go:204" #[eD 0, eD 2, eP 0, eP 1, eP 2, { on := 3, ground := (Ground.textOnly Departure.lateStores) }, { on := 4, ground := (Ground.textOnly Departure.lateStores) }, { on := 5, ground := (Ground.textOnly Departure.lateStores) }, eP 6, eP 7, eP 8, { on := 9, ground := (Ground.textOnly Departure.lateStores) }, { on := 10, ground := (Ground.textOnly Departure.lateStoresUnsure) }]) opIndexAddrT_nat, none⟩,
 ⟨.mn (opStoreC none 5 (.tmp 66) (.tmp 63) 1 sz5 0 "itoa.go:204" #[eD 11, eD 8, eP 0, eP 1, eP 2, { on := 3, ground := (Ground.textOnly Departure.lateStores) }, { on := 4, ground := (Ground.textOnly Departure.lateStores) }, { on := 5, ground := (Ground.textOnly Departure.lateStores) }, eP 6, eP 7, eP 8, { on := 9, ground := (Ground.textOnly Departure.lateStores) }, { on := 10, ground := (Ground.textOnly Departure.lateStoresUnsure) }]) opStoreC_nat, none⟩,
 ⟨.pn (opIndexAddrT (some 67) 46 (.tmp 58) (.tmp 60) 5 1 Tryd.underlying46 sz5 0 "itoa.go:204" #[eD 3, eD 5, eP 0, eP 1, eP 2, eP 3, eP 4, eP 5, eP 6, eP 7, eP 8, eP 9, eP 10, eP 11, eP 12]) opIndexAddrT_nat, none⟩,
 ⟨.mn (opStoreC none 5 (.tmp 67) (.tmp 65) 1 sz5 0 "itoa.go:204" #[eD 13, eD 10, eC 12, eP 0, eP 1, eP 2, eP 3, eP 4, eP 5, eP 6, eP 7, eP 8, eP 9, eP 10, eP 11, eP 12]) opStoreC_nat, none⟩
 ] mixed (by kernel_rfl)))
 (.seq (.live [0, 1, 4, 10] (.draw 9 [
 ⟨.p (opMove (some 68) (.tmp 0) 46 "itoa.go:205" #[]), none⟩,
 ⟨.p (opMove (some 69) (.tmp 4) 3 "itoa.go:205" #[]), none⟩,
 ⟨.pn (opBin (some 70) .sub 3 (.tmp 69) (.const (Value.int IntKind.i64 5)) 3 3 "itoa.go:205" #[eD 1]) opBin_nat, none⟩,
 ⟨.p (opMove (some 71) (.tmp 0) 46 "itoa.go:205" #[{ on := 12, ground := (Ground.gcOnly Departure.lateStores) }]), none⟩,
 ⟨.p (opMove (some 72) (.tmp 4) 3 "itoa.go:205" #[{ on := 12, ground := (Ground.gcOnly Departure.lateStores) }]), none⟩,
 ⟨.pn (opBin (some 73) .sub 3 (.tmp 72) (.const (Value.int IntKind.i64 6)) 3 3 "itoa.go:205" #[eD 4, { on := 12, ground := (Ground.gcOnly Departure.lateStores) }]) opBin_nat, none⟩,
 ⟨.p (opMove (some 74) (.tmp 11) 118 "itoa.go:205" #[]), none⟩,
 ⟨.pn (opBin (some 75) .add 118 (.tmp 74) (.const (Value.int IntKind.u32 1)) 118 118 "itoa.go:205" #[eD 6]) opBin_nat, none⟩,
 ⟨.pn (PSim.named (opIndexStrW (some 76) 9 (.const (Value.string { data := (.append #[48, 48, 48, 49, 48, 50, 48, 51, 48, 52, 48, 53, 48, 54, 48, 55, 48, 56, 48, 57, 49, 48, 49, 49, 49, 50, 49, 51, 49, 52, 49, 53, 49, 54, 49, 55, 49, 56, 49, 57, 50, 48, 50, 49, 50, 50, 50, 51, 50, 52, 50, 53, 50, 54, 50, 55, 50, 56, 50, 57, 51, 48, 51, 49, 51, 50, 51, 51, 51, 52, 51, 53, 51, 54, 51, 55, 51, 56, 51, 57, 52, 48, 52, 49, 52, 50, 52, 51, 52, 52, 52, 53, 52, 54, 52, 55, 52, 56, 52, 57] #[53, 48, 53, 49, 53, 50, 53, 51, 53, 52, 53, 53, 53, 54, 53, 55, 53, 56, 53, 57, 54, 48, 54, 49, 54, 50, 54, 51, 54, 52, 54, 53, 54, 54, 54, 55, 54, 56, 54, 57, 55, 48, 55, 49, 55, 50, 55, 51, 55, 52, 55, 53, 55, 54, 55, 55, 55, 56, 55, 57, 56, 48, 56, 49, 56, 50, 56, 51, 56, 52, 56, 53, 56, 54, 56, 55, 56, 56, 56, 57, 57, 48, 57, 49, 57, 50, 57, 51, 57, 52, 57, 53, 57, 54, 57, 55, 57, 56, 57, 57]) })) (.tmp 75) Tryd.underlying9 5 "itoa.go:205" #[eD 7]) tx_730b8f { data := (.append #[48, 48, 48, 49, 48, 50, 48, 51, 48, 52, 48, 53, 48, 54, 48, 55, 48, 56, 48, 57, 49, 48, 49, 49, 49, 50, 49, 51, 49, 52, 49, 53, 49, 54, 49, 55, 49, 56, 49, 57, 50, 48, 50, 49, 50, 50, 50, 51, 50, 52, 50, 53, 50, 54, 50, 55, 50, 56, 50, 57, 51, 48, 51, 49, 51, 50, 51, 51, 51, 52, 51, 53, 51, 54, 51, 55, 51, 56, 51, 57, 52, 48, 52, 49, 52, 50, 52, 51, 52, 52, 52, 53, 52, 54, 52, 55, 52, 56, 52, 57] #[53, 48, 53, 49, 53, 50, 53, 51, 53, 52, 53, 53, 53, 54, 53, 55, 53, 56, 53, 57, 54, 48, 54, 49, 54, 50, 54, 51, 54, 52, 54, 53, 54, 54, 54, 55, 54, 56, 54, 57, 55, 48, 55, 49, 55, 50, 55, 51, 55, 52, 55, 53, 55, 54, 55, 55, 55, 56, 55, 57, 56, 48, 56, 49, 56, 50, 56, 51, 56, 52, 56, 53, 56, 54, 56, 55, 56, 56, 56, 57, 57, 48, 57, 49, 57, 50, 57, 51, 57, 52, 57, 53, 57, 54, 57, 55, 57, 56, 57, 57]) } tx_730b8f_eq (by kernel_rfl)) (PSim.named_nat opIndexStrW_nat), none⟩,
 ⟨.p (opMove (some 77) (.tmp 11) 118 "itoa.go:205" #[]), none⟩,
 ⟨.pn (PSim.named (opIndexStrW (some 78) 9 (.const (Value.string { data := (.append #[48, 48, 48, 49, 48, 50, 48, 51, 48, 52, 48, 53, 48, 54, 48, 55, 48, 56, 48, 57, 49, 48, 49, 49, 49, 50, 49, 51, 49, 52, 49, 53, 49, 54, 49, 55, 49, 56, 49, 57, 50, 48, 50, 49, 50, 50, 50, 51, 50, 52, 50, 53, 50, 54, 50, 55, 50, 56, 50, 57, 51, 48, 51, 49, 51, 50, 51, 51, 51, 52, 51, 53, 51, 54, 51, 55, 51, 56, 51, 57, 52, 48, 52, 49, 52, 50, 52, 51, 52, 52, 52, 53, 52, 54, 52, 55, 52, 56, 52, 57] #[53, 48, 53, 49, 53, 50, 53, 51, 53, 52, 53, 53, 53, 54, 53, 55, 53, 56, 53, 57, 54, 48, 54, 49, 54, 50, 54, 51, 54, 52, 54, 53, 54, 54, 54, 55, 54, 56, 54, 57, 55, 48, 55, 49, 55, 50, 55, 51, 55, 52, 55, 53, 55, 54, 55, 55, 55, 56, 55, 57, 56, 48, 56, 49, 56, 50, 56, 51, 56, 52, 56, 53, 56, 54, 56, 55, 56, 56, 56, 57, 57, 48, 57, 49, 57, 50, 57, 51, 57, 52, 57, 53, 57, 54, 57, 55, 57, 56, 57, 57]) })) (.tmp 77) Tryd.underlying9 5 "itoa.go:205" #[eD 9]) tx_730b8f { data := (.append #[48, 48, 48, 49, 48, 50, 48, 51, 48, 52, 48, 53, 48, 54, 48, 55, 48, 56, 48, 57, 49, 48, 49, 49, 49, 50, 49, 51, 49, 52, 49, 53, 49, 54, 49, 55, 49, 56, 49, 57, 50, 48, 50, 49, 50, 50, 50, 51, 50, 52, 50, 53, 50, 54, 50, 55, 50, 56, 50, 57, 51, 48, 51, 49, 51, 50, 51, 51, 51, 52, 51, 53, 51, 54, 51, 55, 51, 56, 51, 57, 52, 48, 52, 49, 52, 50, 52, 51, 52, 52, 52, 53, 52, 54, 52, 55, 52, 56, 52, 57] #[53, 48, 53, 49, 53, 50, 53, 51, 53, 52, 53, 53, 53, 54, 53, 55, 53, 56, 53, 57, 54, 48, 54, 49, 54, 50, 54, 51, 54, 52, 54, 53, 54, 54, 54, 55, 54, 56, 54, 57, 55, 48, 55, 49, 55, 50, 55, 51, 55, 52, 55, 53, 55, 54, 55, 55, 55, 56, 55, 57, 56, 48, 56, 49, 56, 50, 56, 51, 56, 52, 56, 53, 56, 54, 56, 55, 56, 56, 56, 57, 57, 48, 57, 49, 57, 50, 57, 51, 57, 52, 57, 53, 57, 54, 57, 55, 57, 56, 57, 57]) } tx_730b8f_eq (by kernel_rfl)) (PSim.named_nat opIndexStrW_nat), none⟩,
 ⟨.pn (opIndexAddrT (some 79) 46 (.tmp 68) (.tmp 70) 5 1 Tryd.underlying46 sz5 0 "itoa.go:205" #[eD 0, eD 2, eP 0, eP 1, eP 2, { on := 3, ground := (Ground.textOnly Departure.lateStores) }, { on := 4, ground := (Ground.textOnly Departure.lateStores) }, { on := 5, ground := (Ground.textOnly Departure.lateStores) }, eP 6, eP 7, eP 8, { on := 9, ground := (Ground.textOnly Departure.lateStores) }, { on := 10, ground := (Ground.textOnly Departure.lateStoresUnsure) }]) opIndexAddrT_nat, none⟩,
 ⟨.mn (opStoreC none 5 (.tmp 79) (.tmp 76) 1 sz5 0 "itoa.go:205" #[eD 11, eD 8, eP 0, eP 1, eP 2, { on := 3, ground := (Ground.textOnly Departure.lateStores) }, { on := 4, ground := (Ground.textOnly Departure.lateStores) }, { on := 5, ground := (Ground.textOnly Departure.lateStores) }, eP 6, eP 7, eP 8, { on := 9, ground := (Ground.textOnly Departure.lateStores) }, { on := 10, ground := (Ground.textOnly Departure.lateStoresUnsure) }]) opStoreC_nat, none⟩,
 ⟨.pn (opIndexAddrT (some 80) 46 (.tmp 71) (.tmp 73) 5 1 Tryd.underlying46 sz5 0 "itoa.go:205" #[eD 3, eD 5, eP 0, eP 1, eP 2, eP 3, eP 4, eP 5, eP 6, eP 7, eP 8, eP 9, eP 10, eP 11, eP 12]) opIndexAddrT_nat, none⟩,
 ⟨.mn (opStoreC none 5 (.tmp 80) (.tmp 78) 1 sz5 0 "itoa.go:205" #[eD 13, eD 10, eC 12, eP 0, eP 1, eP 2, eP 3, eP 4, eP 5, eP 6, eP 7, eP 8, eP 9, eP 10, eP 11, eP 12]) opStoreC_nat, none⟩
 ] mixed (by kernel_rfl)))
 (.seq (.live [0, 1, 4] (.draw 10 [
 ⟨.p (opMove (some 81) (.tmp 0) 46 "itoa.go:206" #[]), none⟩,
 ⟨.p (opMove (some 82) (.tmp 4) 3 "itoa.go:206" #[]), none⟩,
 ⟨.pn (opBin (some 83) .sub 3 (.tmp 82) (.const (Value.int IntKind.i64 7)) 3 3 "itoa.go:206" #[eD 1]) opBin_nat, none⟩,
 ⟨.p (opMove (some 84) (.tmp 0) 46 "itoa.go:206" #[{ on := 12, ground := (Ground.gcOnly Departure.lateStores) }]), none⟩,
 ⟨.p (opMove (some 85) (.tmp 4) 3 "itoa.go:206" #[{ on := 12, ground := (Ground.gcOnly Departure.lateStores) }]), none⟩,
 ⟨.pn (opBin (some 86) .sub 3 (.tmp 85) (.const (Value.int IntKind.i64 8)) 3 3 "itoa.go:206" #[eD 4, { on := 12, ground := (Ground.gcOnly Departure.lateStores) }]) opBin_nat, none⟩,
 ⟨.p (opMove (some 87) (.tmp 10) 118 "itoa.go:206" #[]), none⟩,
 ⟨.pn (opBin (some 88) .add 118 (.tmp 87) (.const (Value.int IntKind.u32 1)) 118 118 "itoa.go:206" #[eD 6]) opBin_nat, none⟩,
 ⟨.pn (PSim.named (opIndexStrW (some 89) 9 (.const (Value.string { data := (.append #[48, 48, 48, 49, 48, 50, 48, 51, 48, 52, 48, 53, 48, 54, 48, 55, 48, 56, 48, 57, 49, 48, 49, 49, 49, 50, 49, 51, 49, 52, 49, 53, 49, 54, 49, 55, 49, 56, 49, 57, 50, 48, 50, 49, 50, 50, 50, 51, 50, 52, 50, 53, 50, 54, 50, 55, 50, 56, 50, 57, 51, 48, 51, 49, 51, 50, 51, 51, 51, 52, 51, 53, 51, 54, 51, 55, 51, 56, 51, 57, 52, 48, 52, 49, 52, 50, 52, 51, 52, 52, 52, 53, 52, 54, 52, 55, 52, 56, 52, 57] #[53, 48, 53, 49, 53, 50, 53, 51, 53, 52, 53, 53, 53, 54, 53, 55, 53, 56, 53, 57, 54, 48, 54, 49, 54, 50, 54, 51, 54, 52, 54, 53, 54, 54, 54, 55, 54, 56, 54, 57, 55, 48, 55, 49, 55, 50, 55, 51, 55, 52, 55, 53, 55, 54, 55, 55, 55, 56, 55, 57, 56, 48, 56, 49, 56, 50, 56, 51, 56, 52, 56, 53, 56, 54, 56, 55, 56, 56, 56, 57, 57, 48, 57, 49, 57, 50, 57, 51, 57, 52, 57, 53, 57, 54, 57, 55, 57, 56, 57, 57]) })) (.tmp 88) Tryd.underlying9 5 "itoa.go:206" #[eD 7]) tx_730b8f { data := (.append #[48, 48, 48, 49, 48, 50, 48, 51, 48, 52, 48, 53, 48, 54, 48, 55, 48, 56, 48, 57, 49, 48, 49, 49, 49, 50, 49, 51, 49, 52, 49, 53, 49, 54, 49, 55, 49, 56, 49, 57, 50, 48, 50, 49, 50, 50, 50, 51, 50, 52, 50, 53, 50, 54, 50, 55, 50, 56, 50, 57, 51, 48, 51, 49, 51, 50, 51, 51, 51, 52, 51, 53, 51, 54, 51, 55, 51, 56, 51, 57, 52, 48, 52, 49, 52, 50, 52, 51, 52, 52, 52, 53, 52, 54, 52, 55, 52, 56, 52, 57] #[53, 48, 53, 49, 53, 50, 53, 51, 53, 52, 53, 53, 53, 54, 53, 55, 53, 56, 53, 57, 54, 48, 54, 49, 54, 50, 54, 51, 54, 52, 54, 53, 54, 54, 54, 55, 54, 56, 54, 57, 55, 48, 55, 49, 55, 50, 55, 51, 55, 52, 55, 53, 55, 54, 55, 55, 55, 56, 55, 57, 56, 48, 56, 49, 56, 50, 56, 51, 56, 52, 56, 53, 56, 54, 56, 55, 56, 56, 56, 57, 57, 48, 57, 49, 57, 50, 57, 51, 57, 52, 57, 53, 57, 54, 57, 55, 57, 56, 57, 57]) } tx_730b8f_eq (by kernel_rfl)) (PSim.named_nat opIndexStrW_nat), none⟩,
 ⟨.p (opMove (some 90) (.tmp 10) 118 "itoa.go:206" #[]), none⟩,
 ⟨.pn (PSim.named (opIndexStrW (some 91) 9 (.const (Value.string { data := (.append #[48, 48, 48, 49, 48, 50, 48, 51, 48, 52, 48, 53, 48, 54, 48, 55, 48, 56, 48, 57, 49, 48, 49, 49, 49, 50, 49, 51, 49, 52, 49, 53, 49, 54, 49, 55, 49, 56, 49, 57, 50, 48, 50, 49, 50, 50, 50, 51, 50, 52, 50, 53, 50, 54, 50, 55, 50, 56, 50, 57, 51, 48, 51, 49, 51, 50, 51, 51, 51, 52, 51, 53, 51, 54, 51, 55, 51, 56, 51, 57, 52, 48, 52, 49, 52, 50, 52, 51, 52, 52, 52, 53, 52, 54, 52, 55, 52, 56, 52, 57] #[53, 48, 53, 49, 53, 50, 53, 51, 53, 52, 53, 53, 53, 54, 53, 55, 53, 56, 53, 57, 54, 48, 54, 49, 54, 50, 54, 51, 54, 52, 54, 53, 54, 54, 54, 55, 54, 56, 54, 57, 55, 48, 55, 49, 55, 50, 55, 51, 55, 52, 55, 53, 55, 54, 55, 55, 55, 56, 55, 57, 56, 48, 56, 49, 56, 50, 56, 51, 56, 52, 56, 53, 56, 54, 56, 55, 56, 56, 56, 57, 57, 48, 57, 49, 57, 50, 57, 51, 57, 52, 57, 53, 57, 54, 57, 55, 57, 56, 57, 57]) })) (.tmp 90) Tryd.underlying9 5 "itoa.go:206" #[eD 9]) tx_730b8f { data := (.append #[48, 48, 48, 49, 48, 50, 48, 51, 48, 52, 48, 53, 48, 54, 48, 55, 48, 56, 48, 57, 49, 48, 49, 49, 49, 50, 49, 51, 49, 52, 49, 53, 49, 54, 49, 55, 49, 56, 49, 57, 50, 48, 50, 49, 50, 50, 50, 51, 50, 52, 50, 53, 50, 54, 50, 55, 50, 56, 50, 57, 51, 48, 51, 49, 51, 50, 51, 51, 51, 52, 51, 53, 51, 54, 51, 55, 51, 56, 51, 57, 52, 48, 52, 49, 52, 50, 52, 51, 52, 52, 52, 53, 52, 54, 52, 55, 52, 56, 52, 57] #[53, 48, 53, 49, 53, 50, 53, 51, 53, 52, 53, 53, 53, 54, 53, 55, 53, 56, 53, 57, 54, 48, 54, 49, 54, 50, 54, 51, 54, 52, 54, 53, 54, 54, 54, 55, 54, 56, 54, 57, 55, 48, 55, 49, 55, 50, 55, 51, 55, 52, 55, 53, 55, 54, 55, 55, 55, 56, 55, 57, 56, 48, 56, 49, 56, 50, 56, 51, 56, 52, 56, 53, 56, 54, 56, 55, 56, 56, 56, 57, 57, 48, 57, 49, 57, 50, 57, 51, 57, 52, 57, 53, 57, 54, 57, 55, 57, 56, 57, 57]) } tx_730b8f_eq (by kernel_rfl)) (PSim.named_nat opIndexStrW_nat), none⟩,
 ⟨.pn (opIndexAddrT (some 92) 46 (.tmp 81) (.tmp 83) 5 1 Tryd.underlying46 sz5 0 "itoa.go:206" #[eD 0, eD 2, eP 0, eP 1, eP 2, { on := 3, ground := (Ground.textOnly Departure.lateStores) }, { on := 4, ground := (Ground.textOnly Departure.lateStores) }, { on := 5, ground := (Ground.textOnly Departure.lateStores) }, eP 6, eP 7, eP 8, { on := 9, ground := (Ground.textOnly Departure.lateStores) }, { on := 10, ground := (Ground.textOnly Departure.lateStoresUnsure) }]) opIndexAddrT_nat, none⟩,
 ⟨.mn (opStoreC none 5 (.tmp 92) (.tmp 89) 1 sz5 0 "itoa.go:206" #[eD 11, eD 8, eP 0, eP 1, eP 2, { on := 3, ground := (Ground.textOnly Departure.lateStores) }, { on := 4, ground := (Ground.textOnly Departure.lateStores) }, { on := 5, ground := (Ground.textOnly Departure.lateStores) }, eP 6, eP 7, eP 8, { on := 9, ground := (Ground.textOnly Departure.lateStores) }, { on := 10, ground := (Ground.textOnly Departure.lateStoresUnsure) }]) opStoreC_nat, none⟩,
 ⟨.pn (opIndexAddrT (some 93) 46 (.tmp 84) (.tmp 86) 5 1 Tryd.underlying46 sz5 0 "itoa.go:206" #[eD 3, eD 5, eP 0, eP 1, eP 2, eP 3, eP 4, eP 5, eP 6, eP 7, eP 8, eP 9, eP 10, eP 11, eP 12]) opIndexAddrT_nat, none⟩,
 ⟨.mn (opStoreC none 5 (.tmp 93) (.tmp 91) 1 sz5 0 "itoa.go:206" #[eD 13, eD 10, eC 12, eP 0, eP 1, eP 2, eP 3, eP 4, eP 5, eP 6, eP 7, eP 8, eP 9, eP 10, eP 11, eP 12]) opStoreC_nat, none⟩
 ] mixed (by kernel_rfl)))
 (.live [0, 1, 4] (.region 11 [
 ⟨(opMove (some 94) (.tmp 4) 3 "itoa.go:207" #[]).op, none⟩,
 ⟨(opBin (some 95) .sub 3 (.tmp 94) (.const (Value.int IntKind.i64 8)) 3 3 "itoa.go:207" #[eD 0]).op, none⟩,
 ⟨(opAssign (some 4) (.tmp 95) 3 "itoa.go:207" #[eD 1, eP 0, eP 1]).op, none⟩
 ] (by kernel_rfl))))))))))))))

/-- What follows a loop. -/
noncomputable def f86_r0 : Sim Tryd.prog :=
 (.seq (.live [0, 4, 12] (.region 12 [
 ⟨(opMove (some 96) (.tmp 1) 84 "itoa.go:210" #[]).op, none⟩,
 ⟨(opConvInt (some 97) 84 118 (.tmp 96) (.int .u64) Tryd.underlying84 .u32 Tryd.underlying118 118 "itoa.go:210" #[eD 0]).op, none⟩,
 ⟨(opAssign (some 12) (.tmp 97) 118 "itoa.go:210" #[eD 1, eP 0, eP 1]).op, none⟩
 ] (by kernel_rfl)))
 (.seq (.seq (.live [0, 4, 12, 99] (.region 13 [
 ⟨(opMove (some 98) (.tmp 4) 3 "itoa.go:211" #[]).op, none⟩,
 ⟨(opBin (some 99) .geq 3 (.tmp 98) (.const (Value.int IntKind.i64 4)) 3 4 "itoa.go:211" #[eD 0]).op, none⟩
 ] (by kernel_rfl)))
 (.cond (.tmp 99)
 (.seq (.live [0, 4, 12, 13] (.region 14 [
 ⟨(opMove (some 100) (.tmp 12) 118 "itoa.go:213" #[]).op, none⟩,
 ⟨(opBin (some 101) .rem 118 (.tmp 100) (.const (Value.int IntKind.u32 10000)) 118 118 "itoa.go:213" #[eD 0]).op, none⟩,
 ⟨(opAssign (some 13) (.tmp 101) 118 "itoa.go:213" #[eD 1, eP 0, eP 1]).op, none⟩
 ] (by kernel_rfl)))
 (.seq (.live [0, 4, 12, 13] (.region 15 [
 ⟨(opMove (some 102) (.tmp 12) 118 "itoa.go:214" #[]).op, none⟩,
 ⟨(opBin (some 103) .quo 118 (.tmp 102) (.const (Value.int IntKind.u32 10000)) 118 118 "itoa.go:214" #[eD 0]).op, none⟩,
 ⟨(opAssign (some 12) (.tmp 103) 118 "itoa.go:214" #[eD 1, eP 0, eP 1]).op, none⟩
 ] (by kernel_rfl)))
 (.seq (.live [0, 4, 12, 14, 15] (.region 16 [
 ⟨(opMove (some 104) (.tmp 13) 118 "itoa.go:215" #[]).op, none⟩,
 ⟨(opBin (some 105) .quo 118 (.tmp 104) (.const (Value.int IntKind.u32 100)) 118 118 "itoa.go:215" #[eD 0]).op, none⟩,
 ⟨(opBin (some 106) .mul 118 (.tmp 105) (.const (Value.int IntKind.u32 2)) 118 118 "itoa.go:215" #[eD 1]).op, none⟩,
 ⟨(opMove (some 107) (.tmp 13) 118 "itoa.go:215" #[{ on := 6, ground := (Ground.gcOnly Departure.lateStores) }]).op, none⟩,
 ⟨(opBin (some 108) .rem 118 (.tmp 107) (.const (Value.int IntKind.u32 100)) 118 118 "itoa.go:215" #[eD 3, { on := 6, ground := (Ground.gcOnly Departure.lateStores) }]).op, none⟩,
 ⟨(opBin (some 109) .mul 118 (.tmp 108) (.const (Value.int IntKind.u32 2)) 118 118 "itoa.go:215" #[eD 4, { on := 6, ground := (Ground.gcOnly Departure.lateStores) }]).op, none⟩,
 ⟨(opAssign (some 14) (.tmp 106) 118 "itoa.go:215" #[eD 2, eP 0, eP 1, eP 2, { on := 3, ground := (Ground.textOnly Departure.lateStores) }, { on := 4, ground := (Ground.textOnly Departure.lateStores) }, { on := 5, ground := (Ground.textOnly Departure.lateStores) }]).op, none⟩,
 ⟨(opAssign (some 15) (.tmp 109) 118 "itoa.go:215" #[eD 5, eC 6, eP 0, eP 1, eP 2, eP 3, eP 4, eP 5, eP 6]).op, none⟩
 ] (by kernel_rfl)))
 (.seq (.live [0, 4, 12, 14] (.draw 17 [
 ⟨.p (opMove (some 110) (.tmp 0) 46 "itoa.go:216" #[]), none⟩,
 ⟨.p (opMove (some 111) (.tmp 4) 3 "itoa.go:216" #[]), none⟩,
 ⟨.pn (opBin (some 112) .sub 3 (.tmp 111) (.const (Value.int IntKind.i64 1)) 3 3 "itoa.go:216" #[eD 1]) opBin_nat, none⟩,
 ⟨.p (opMove (some 113) (.tmp 0) 46 "itoa.go:216" #[{ on := 12, ground := (Ground.gcOnly Departure.lateStores) }]), none⟩,
 ⟨.p (opMove (some 114) (.tmp 4) 3 "itoa.go:216" #[{ on := 12, ground := (Ground.gcOnly Departure.lateStores) }]), none⟩,
 ⟨.pn (opBin (some 115) .sub 3 (.tmp 114) (.const (Value.int IntKind.i64 2)) 3 3 "itoa.go:216" #[eD 4, { on := 12, ground := (Ground.gcOnly Departure.lateStores) }]) opBin_nat, none⟩,
 ⟨.p (opMove (some 116) (.tmp 15) 118 "itoa.go:216" #[]), none⟩,
 ⟨.pn (opBin (some 117) .add 118 (.tmp 116) (.const (Value.int IntKind.u32 1)) 118 118 "itoa.go:216" #[eD 6]) opBin_nat, none⟩,
 ⟨.pn (PSim.named (opIndexStrW (some 118) 9 (.const (Value.string { data := (.append #[48, 48, 48, 49, 48, 50, 48, 51, 48, 52, 48, 53, 48, 54, 48, 55, 48, 56, 48, 57, 49, 48, 49, 49, 49, 50, 49, 51, 49, 52, 49, 53, 49, 54, 49, 55, 49, 56, 49, 57, 50, 48, 50, 49, 50, 50, 50, 51, 50, 52, 50, 53, 50, 54, 50, 55, 50, 56, 50, 57, 51, 48, 51, 49, 51, 50, 51, 51, 51, 52, 51, 53, 51, 54, 51, 55, 51, 56, 51, 57, 52, 48, 52, 49, 52, 50, 52, 51, 52, 52, 52, 53, 52, 54, 52, 55, 52, 56, 52, 57] #[53, 48, 53, 49, 53, 50, 53, 51, 53, 52, 53, 53, 53, 54, 53, 55, 53, 56, 53, 57, 54, 48, 54, 49, 54, 50, 54, 51, 54, 52, 54, 53, 54, 54, 54, 55, 54, 56, 54, 57, 55, 48, 55, 49, 55, 50, 55, 51, 55, 52, 55, 53, 55, 54, 55, 55, 55, 56, 55, 57, 56, 48, 56, 49, 56, 50, 56, 51, 56, 52, 56, 53, 56, 54, 56, 55, 56, 56, 56, 57, 57, 48, 57, 49, 57, 50, 57, 51, 57, 52, 57, 53, 57, 54, 57, 55, 57, 56, 57, 57]) })) (.tmp 117) Tryd.underlying9 5 "itoa.go:216" #[eD 7]) tx_730b8f { data := (.append #[48, 48, 48, 49, 48, 50, 48, 51, 48, 52, 48, 53, 48, 54, 48, 55, 48, 56, 48, 57, 49, 48, 49, 49, 49, 50, 49, 51, 49, 52, 49, 53, 49, 54, 49, 55, 49, 56, 49, 57, 50, 48, 50, 49, 50, 50, 50, 51, 50, 52, 50, 53, 50, 54, 50, 55, 50, 56, 50, 57, 51, 48, 51, 49, 51, 50, 51, 51, 51, 52, 51, 53, 51, 54, 51, 55, 51, 56, 51, 57, 52, 48, 52, 49, 52, 50, 52, 51, 52, 52, 52, 53, 52, 54, 52, 55, 52, 56, 52, 57] #[53, 48, 53, 49, 53, 50, 53, 51, 53, 52, 53, 53, 53, 54, 53, 55, 53, 56, 53, 57, 54, 48, 54, 49, 54, 50, 54, 51, 54, 52, 54, 53, 54, 54, 54, 55, 54, 56, 54, 57, 55, 48, 55, 49, 55, 50, 55, 51, 55, 52, 55, 53, 55, 54, 55, 55, 55, 56, 55, 57, 56, 48, 56, 49, 56, 50, 56, 51, 56, 52, 56, 53, 56, 54, 56, 55, 56, 56, 56, 57, 57, 48, 57, 49, 57, 50, 57, 51, 57, 52, 57, 53, 57, 54, 57, 55, 57, 56, 57, 57]) } tx_730b8f_eq (by kernel_rfl)) (PSim.named_nat opIndexStrW_nat), none⟩,
 ⟨.p (opMove (some 119) (.tmp 15) 118 "itoa.go:216" #[]), none⟩,
 ⟨.pn (PSim.named (opIndexStrW (some 120) 9 (.const (Value.string { data := (.append #[48, 48, 48, 49, 48, 50, 48, 51, 48, 52, 48, 53, 48, 54, 48, 55, 48, 56, 48, 57, 49, 48, 49, 49, 49, 50, 49, 51, 49, 52, 49, 53, 49, 54, 49, 55, 49, 56, 49, 57, 50, 48, 50, 49, 50, 50, 50, 51, 50, 52, 50, 53, 50, 54, 50, 55, 50, 56, 50, 57, 51, 48, 51, 49, 51, 50, 51, 51, 51, 52, 51, 53, 51, 54, 51, 55, 51, 56, 51, 57, 52, 48, 52, 49, 52, 50, 52, 51, 52, 52, 52, 53, 52, 54, 52, 55, 52, 56, 52, 57] #[53, 48, 53, 49, 53, 50, 53, 51, 53, 52, 53, 53, 53, 54, 53, 55, 53, 56, 53, 57, 54, 48, 54, 49, 54, 50, 54, 51, 54, 52, 54, 53, 54, 54, 54, 55, 54, 56, 54, 57, 55, 48, 55, 49, 55, 50, 55, 51, 55, 52, 55, 53, 55, 54, 55, 55, 55, 56, 55, 57, 56, 48, 56, 49, 56, 50, 56, 51, 56, 52, 56, 53, 56, 54, 56, 55, 56, 56, 56, 57, 57, 48, 57, 49, 57, 50, 57, 51, 57, 52, 57, 53, 57, 54, 57, 55, 57, 56, 57, 57]) })) (.tmp 119) Tryd.underlying9 5 "itoa.go:216" #[eD 9]) tx_730b8f { data := (.append #[48, 48, 48, 49, 48, 50, 48, 51, 48, 52, 48, 53, 48, 54, 48, 55, 48, 56, 48, 57, 49, 48, 49, 49, 49, 50, 49, 51, 49, 52, 49, 53, 49, 54, 49, 55, 49, 56, 49, 57, 50, 48, 50, 49, 50, 50, 50, 51, 50, 52, 50, 53, 50, 54, 50, 55, 50, 56, 50, 57, 51, 48, 51, 49, 51, 50, 51, 51, 51, 52, 51, 53, 51, 54, 51, 55, 51, 56, 51, 57, 52, 48, 52, 49, 52, 50, 52, 51, 52, 52, 52, 53, 52, 54, 52, 55, 52, 56, 52, 57] #[53, 48, 53, 49, 53, 50, 53, 51, 53, 52, 53, 53, 53, 54, 53, 55, 53, 56, 53, 57, 54, 48, 54, 49, 54, 50, 54, 51, 54, 52, 54, 53, 54, 54, 54, 55, 54, 56, 54, 57, 55, 48, 55, 49, 55, 50, 55, 51, 55, 52, 55, 53, 55, 54, 55, 55, 55, 56, 55, 57, 56, 48, 56, 49, 56, 50, 56, 51, 56, 52, 56, 53, 56, 54, 56, 55, 56, 56, 56, 57, 57, 48, 57, 49, 57, 50, 57, 51, 57, 52, 57, 53, 57, 54, 57, 55, 57, 56, 57, 57]) } tx_730b8f_eq (by kernel_rfl)) (PSim.named_nat opIndexStrW_nat), none⟩,
 ⟨.pn (opIndexAddrT (some 121) 46 (.tmp 110) (.tmp 112) 5 1 Tryd.underlying46 sz5 0 "itoa.go:216" #[eD 0, eD 2, eP 0, eP 1, eP 2, { on := 3, ground := (Ground.textOnly Departure.lateStores) }, { on := 4, ground := (Ground.textOnly Departure.lateStores) }, { on := 5, ground := (Ground.textOnly Departure.lateStores) }, eP 6, eP 7, eP 8, { on := 9, ground := (Ground.textOnly Departure.lateStores) }, { on := 10, ground := (Ground.textOnly Departure.lateStoresUnsure) }]) opIndexAddrT_nat, none⟩,
 ⟨.mn (opStoreC none 5 (.tmp 121) (.tmp 118) 1 sz5 0 "itoa.go:216" #[eD 11, eD 8, eP 0, eP 1, eP 2, { on := 3, ground := (Ground.textOnly Departure.lateStores) }, { on := 4, ground := (Ground.textOnly Departure.lateStores) }, { on := 5, ground := (Ground.textOnly Departure.lateStores) }, eP 6, eP 7, eP 8, { on := 9, ground := (Ground.textOnly Departure.lateStores) }, { on := 10, ground := (Ground.textOnly Departure.lateStoresUnsure) }]) opStoreC_nat, none⟩,
 ⟨.pn (opIndexAddrT (some 122) 46 (.tmp 113) (.tmp 115) 5 1 Tryd.underlying46 sz5 0 "itoa.go:216" #[eD 3, eD 5, eP 0, eP 1, eP 2, eP 3, eP 4, eP 5, eP 6, eP 7, eP 8, eP 9, eP 10, eP 11, eP 12]) opIndexAddrT_nat, none⟩,
 ⟨.mn (opStoreC none 5 (.tmp 122) (.tmp 120) 1 sz5 0 "itoa.go:216" #[eD 13, eD 10, eC 12, eP 0, eP 1, eP 2, eP 3, eP 4, eP 5, eP 6, eP 7, eP 8, eP 9, eP 10, eP 11, eP 12]) opStoreC_nat, none⟩
 ] mixed (by kernel_rfl)))
 (.seq (.live [0, 4, 12] (.draw 18 [
 ⟨.p (opMove (some 123) (.tmp 0) 46 "itoa.go:217" #[]), none⟩,
 ⟨.p (opMove (some 124) (.tmp 4) 3 "itoa.go:217" #[]), none⟩,
 ⟨.pn (opBin (some 125) .sub 3 (.tmp 124) (.const (Value.int IntKind.i64 3)) 3 3 "itoa.go:217" #[eD 1]) opBin_nat, none⟩,
 ⟨.p (opMove (some 126) (.tmp 0) 46 "itoa.go:217" #[{ on := 12, ground := (Ground.gcOnly Departure.lateStores) }]), none⟩,
 ⟨.p (opMove (some 127) (.tmp 4) 3 "itoa.go:217" #[{ on := 12, ground := (Ground.gcOnly Departure.lateStores) }]), none⟩,
 ⟨.pn (opBin (some 128) .sub 3 (.tmp 127) (.const (Value.int IntKind.i64 4)) 3 3 "itoa.go:217" #[eD 4, { on := 12, ground := (Ground.gcOnly Departure.lateStores) }]) opBin_nat, none⟩,
 ⟨.p (opMove (some 129) (.tmp 14) 118 "itoa.go:217" #[]), none⟩,
 ⟨.pn (opBin (some 130) .add 118 (.tmp 129) (.const (Value.int IntKind.u32 1)) 118 118 "itoa.go:217" #[eD 6]) opBin_nat, none⟩,
 ⟨.pn (PSim.named (opIndexStrW (some 131) 9 (.const (Value.string { data := (.append #[48, 48, 48, 49, 48, 50, 48, 51, 48, 52, 48, 53, 48, 54, 48, 55, 48, 56, 48, 57, 49, 48, 49, 49, 49, 50, 49, 51, 49, 52, 49, 53, 49, 54, 49, 55, 49, 56, 49, 57, 50, 48, 50, 49, 50, 50, 50, 51, 50, 52, 50, 53, 50, 54, 50, 55, 50, 56, 50, 57, 51, 48, 51, 49, 51, 50, 51, 51, 51, 52, 51, 53, 51, 54, 51, 55, 51, 56, 51, 57, 52, 48, 52, 49, 52, 50, 52, 51, 52, 52, 52, 53, 52, 54, 52, 55, 52, 56, 52, 57] #[53, 48, 53, 49, 53, 50, 53, 51, 53, 52, 53, 53, 53, 54, 53, 55, 53, 56, 53, 57, 54, 48, 54, 49, 54, 50, 54, 51, 54, 52, 54, 53, 54, 54, 54, 55, 54, 56, 54, 57, 55, 48, 55, 49, 55, 50, 55, 51, 55, 52, 55, 53, 55, 54, 55, 55, 55, 56, 55, 57, 56, 48, 56, 49, 56, 50, 56, 51, 56, 52, 56, 53, 56, 54, 56, 55, 56, 56, 56, 57, 57, 48, 57, 49, 57, 50, 57, 51, 57, 52, 57, 53, 57, 54, 57, 55, 57, 56, 57, 57]) })) (.tmp 130) Tryd.underlying9 5 "itoa.go:217" #[eD 7]) tx_730b8f { data := (.append #[48, 48, 48, 49, 48, 50, 48, 51, 48, 52, 48, 53, 48, 54, 48, 55, 48, 56, 48, 57, 49, 48, 49, 49, 49, 50, 49, 51, 49, 52, 49, 53, 49, 54, 49, 55, 49, 56, 49, 57, 50, 48, 50, 49, 50, 50, 50, 51, 50, 52, 50, 53, 50, 54, 50, 55, 50, 56, 50, 57, 51, 48, 51, 49, 51, 50, 51, 51, 51, 52, 51, 53, 51, 54, 51, 55, 51, 56, 51, 57, 52, 48, 52, 49, 52, 50, 52, 51, 52, 52, 52, 53, 52, 54, 52, 55, 52, 56, 52, 57] #[53, 48, 53, 49, 53, 50, 53, 51, 53, 52, 53, 53, 53, 54, 53, 55, 53, 56, 53, 57, 54, 48, 54, 49, 54, 50, 54, 51, 54, 52, 54, 53, 54, 54, 54, 55, 54, 56, 54, 57, 55, 48, 55, 49, 55, 50, 55, 51, 55, 52, 55, 53, 55, 54, 55, 55, 55, 56, 55, 57, 56, 48, 56, 49, 56, 50, 56, 51, 56, 52, 56, 53, 56, 54, 56, 55, 56, 56, 56, 57, 57, 48, 57, 49, 57, 50, 57, 51, 57, 52, 57, 53, 57, 54, 57, 55, 57, 56, 57, 57]) } tx_730b8f_eq (by kernel_rfl)) (PSim.named_nat opIndexStrW_nat), none⟩,
 ⟨.p (opMove (some 132) (.tmp 14) 118 "itoa.go:217" #[]), none⟩,
 ⟨.pn (PSim.named (opIndexStrW (some 133) 9 (.const (Value.string { data := (.append #[48, 48, 48, 49, 48, 50, 48, 51, 48, 52, 48, 53, 48, 54, 48, 55, 48, 56, 48, 57, 49, 48, 49, 49, 49, 50, 49, 51, 49, 52, 49, 53, 49, 54, 49, 55, 49, 56, 49, 57, 50, 48, 50, 49, 50, 50, 50, 51, 50, 52, 50, 53, 50, 54, 50, 55, 50, 56, 50, 57, 51, 48, 51, 49, 51, 50, 51, 51, 51, 52, 51, 53, 51, 54, 51, 55, 51, 56, 51, 57, 52, 48, 52, 49, 52, 50, 52, 51, 52, 52, 52, 53, 52, 54, 52, 55, 52, 56, 52, 57] #[53, 48, 53, 49, 53, 50, 53, 51, 53, 52, 53, 53, 53, 54, 53, 55, 53, 56, 53, 57, 54, 48, 54, 49, 54, 50, 54, 51, 54, 52, 54, 53, 54, 54, 54, 55, 54, 56, 54, 57, 55, 48, 55, 49, 55, 50, 55, 51, 55, 52, 55, 53, 55, 54, 55, 55, 55, 56, 55, 57, 56, 48, 56, 49, 56, 50, 56, 51, 56, 52, 56, 53, 56, 54, 56, 55, 56, 56, 56, 57, 57, 48, 57, 49, 57, 50, 57, 51, 57, 52, 57, 53, 57, 54, 57, 55, 57, 56, 57, 57]) })) (.tmp 132) Tryd.underlying9 5 "itoa.go:217" #[eD 9]) tx_730b8f { data := (.append #[48, 48, 48, 49, 48, 50, 48, 51, 48, 52, 48, 53, 48, 54, 48, 55, 48, 56, 48, 57, 49, 48, 49, 49, 49, 50, 49, 51, 49, 52, 49, 53, 49, 54, 49, 55, 49, 56, 49, 57, 50, 48, 50, 49, 50, 50, 50, 51, 50, 52, 50, 53, 50, 54, 50, 55, 50, 56, 50, 57, 51, 48, 51, 49, 51, 50, 51, 51, 51, 52, 51, 53, 51, 54, 51, 55, 51, 56, 51, 57, 52, 48, 52, 49, 52, 50, 52, 51, 52, 52, 52, 53, 52, 54, 52, 55, 52, 56, 52, 57] #[53, 48, 53, 49, 53, 50, 53, 51, 53, 52, 53, 53, 53, 54, 53, 55, 53, 56, 53, 57, 54, 48, 54, 49, 54, 50, 54, 51, 54, 52, 54, 53, 54, 54, 54, 55, 54, 56, 54, 57, 55, 48, 55, 49, 55, 50, 55, 51, 55, 52, 55, 53, 55, 54, 55, 55, 55, 56, 55, 57, 56, 48, 56, 49, 56, 50, 56, 51, 56, 52, 56, 53, 56, 54, 56, 55, 56, 56, 56, 57, 57, 48, 57, 49, 57, 50, 57, 51, 57, 52, 57, 53, 57, 54, 57, 55, 57, 56, 57, 57]) } tx_730b8f_eq (by kernel_rfl)) (PSim.named_nat opIndexStrW_nat), none⟩,
 ⟨.pn (opIndexAddrT (some 134) 46 (.tmp 123) (.tmp 125) 5 1 Tryd.underlying46 sz5 0 "itoa.go:217" #[eD 0, eD 2, eP 0, eP 1, eP 2, { on := 3, ground := (Ground.textOnly Departure.lateStores) }, { on := 4, ground := (Ground.textOnly Departure.lateStores) }, { on := 5, ground := (Ground.textOnly Departure.lateStores) }, eP 6, eP 7, eP 8, { on := 9, ground := (Ground.textOnly Departure.lateStores) }, { on := 10, ground := (Ground.textOnly Departure.lateStoresUnsure) }]) opIndexAddrT_nat, none⟩,
 ⟨.mn (opStoreC none 5 (.tmp 134) (.tmp 131) 1 sz5 0 "itoa.go:217" #[eD 11, eD 8, eP 0, eP 1, eP 2, { on := 3, ground := (Ground.textOnly Departure.lateStores) }, { on := 4, ground := (Ground.textOnly Departure.lateStores) }, { on := 5, ground := (Ground.textOnly Departure.lateStores) }, eP 6, eP 7, eP 8, { on := 9, ground := (Ground.textOnly Departure.lateStores) }, { on := 10, ground := (Ground.textOnly Departure.lateStoresUnsure) }]) opStoreC_nat, none⟩,
 ⟨.pn (opIndexAddrT (some 135) 46 (.tmp 126) (.tmp 128) 5 1 Tryd.underlying46 sz5 0 "itoa.go:217" #[eD 3, eD 5, eP 0, eP 1, eP 2, eP 3, eP 4, eP 5, eP 6, eP 7, eP 8, eP 9, eP 10, eP 11, eP 12]) opIndexAddrT_nat, none⟩,
 ⟨.mn (opStoreC none 5 (.tmp 135) (.tmp 133) 1 sz5 0 "itoa.go:217" #[eD 13, eD 10, eC 12, eP 0, eP 1, eP 2, eP 3, eP 4, eP 5, eP 6, eP 7, eP 8, eP 9, eP 10, eP 11, eP 12]) opStoreC_nat, none⟩
 ] mixed (by kernel_rfl)))
 (.live [0, 4, 12] (.region 19 [
 ⟨(opMove (some 136) (.tmp 4) 3 "itoa.go:218" #[]).op, none⟩,
 ⟨(opBin (some 137) .sub 3 (.tmp 136) (.const (Value.int IntKind.i64 4)) 3 3 "itoa.go:218" #[eD 0]).op, none⟩,
 ⟨(opAssign (some 4) (.tmp 137) 3 "itoa.go:218" #[eD 1, eP 0, eP 1]).op, none⟩
 ] (by kernel_rfl))))))))
 .skip))
 (.seq (.seq (.live [0, 4, 12, 139] (.region 20 [
 ⟨(opMove (some 138) (.tmp 4) 3 "itoa.go:220" #[]).op, none⟩,
 ⟨(opBin (some 139) .geq 3 (.tmp 138) (.const (Value.int IntKind.i64 2)) 3 4 "itoa.go:220" #[eD 0]).op, none⟩
 ] (by kernel_rfl)))
 (.cond (.tmp 139)
 (.seq (.live [0, 4, 12, 16] (.region 21 [
 ⟨(opMove (some 140) (.tmp 12) 118 "itoa.go:222" #[]).op, none⟩,
 ⟨(opBin (some 141) .rem 118 (.tmp 140) (.const (Value.int IntKind.u32 100)) 118 118 "itoa.go:222" #[eD 0]).op, none⟩,
 ⟨(opBin (some 142) .mul 118 (.tmp 141) (.const (Value.int IntKind.u32 2)) 118 118 "itoa.go:222" #[eD 1]).op, none⟩,
 ⟨(opAssign (some 16) (.tmp 142) 118 "itoa.go:222" #[eD 2, eP 0, eP 1, eP 2]).op, none⟩
 ] (by kernel_rfl)))
 (.seq (.live [0, 4, 12, 16] (.region 22 [
 ⟨(opMove (some 143) (.tmp 12) 118 "itoa.go:223" #[]).op, none⟩,
 ⟨(opBin (some 144) .quo 118 (.tmp 143) (.const (Value.int IntKind.u32 100)) 118 118 "itoa.go:223" #[eD 0]).op, none⟩,
 ⟨(opAssign (some 12) (.tmp 144) 118 "itoa.go:223" #[eD 1, eP 0, eP 1]).op, none⟩
 ] (by kernel_rfl)))
 (.seq (.live [0, 4, 12] (.draw 23 [
 ⟨.p (opMove (some 145) (.tmp 0) 46 "itoa.go:224" #[]), none⟩,
 ⟨.p (opMove (some 146) (.tmp 4) 3 "itoa.go:224" #[]), none⟩,
 ⟨.pn (opBin (some 147) .sub 3 (.tmp 146) (.const (Value.int IntKind.i64 1)) 3 3 "itoa.go:224" #[eD 1]) opBin_nat, none⟩,
 ⟨.p (opMove (some 148) (.tmp 0) 46 "itoa.go:224" #[{ on := 12, ground := (Ground.gcOnly Departure.lateStores) }]), none⟩,
 ⟨.p (opMove (some 149) (.tmp 4) 3 "itoa.go:224" #[{ on := 12, ground := (Ground.gcOnly Departure.lateStores) }]), none⟩,
 ⟨.pn (opBin (some 150) .sub 3 (.tmp 149) (.const (Value.int IntKind.i64 2)) 3 3 "itoa.go:224" #[eD 4, { on := 12, ground := (Ground.gcOnly Departure.lateStores) }]) opBin_nat, none⟩,
 ⟨.p (opMove (some 151) (.tmp 16) 118 "itoa.go:224" #[]), none⟩,
 ⟨.pn (opBin (some 152) .add 118 (.tmp 151) (.const (Value.int IntKind.u32 1)) 118 118 "itoa.go:224" #[eD 6]) opBin_nat, none⟩,
 ⟨.pn (PSim.named (opIndexStrW (some 153) 9 (.const (Value.string { data := (.append #[48, 48, 48, 49, 48, 50, 48, 51, 48, 52, 48, 53, 48, 54, 48, 55, 48, 56, 48, 57, 49, 48, 49, 49, 49, 50, 49, 51, 49, 52, 49, 53, 49, 54, 49, 55, 49, 56, 49, 57, 50, 48, 50, 49, 50, 50, 50, 51, 50, 52, 50, 53, 50, 54, 50, 55, 50, 56, 50, 57, 51, 48, 51, 49, 51, 50, 51, 51, 51, 52, 51, 53, 51, 54, 51, 55, 51, 56, 51, 57, 52, 48, 52, 49, 52, 50, 52, 51, 52, 52, 52, 53, 52, 54, 52, 55, 52, 56, 52, 57] #[53, 48, 53, 49, 53, 50, 53, 51, 53, 52, 53, 53, 53, 54, 53, 55, 53, 56, 53, 57, 54, 48, 54, 49, 54, 50, 54, 51, 54, 52, 54, 53, 54, 54, 54, 55, 54, 56, 54, 57, 55, 48, 55, 49, 55, 50, 55, 51, 55, 52, 55, 53, 55, 54, 55, 55, 55, 56, 55, 57, 56, 48, 56, 49, 56, 50, 56, 51, 56, 52, 56, 53, 56, 54, 56, 55, 56, 56, 56, 57, 57, 48, 57, 49, 57, 50, 57, 51, 57, 52, 57, 53, 57, 54, 57, 55, 57, 56, 57, 57]) })) (.tmp 152) Tryd.underlying9 5 "itoa.go:224" #[eD 7]) tx_730b8f { data := (.append #[48, 48, 48, 49, 48, 50, 48, 51, 48, 52, 48, 53, 48, 54, 48, 55, 48, 56, 48, 57, 49, 48, 49, 49, 49, 50, 49, 51, 49, 52, 49, 53, 49, 54, 49, 55, 49, 56, 49, 57, 50, 48, 50, 49, 50, 50, 50, 51, 50, 52, 50, 53, 50, 54, 50, 55, 50, 56, 50, 57, 51, 48, 51, 49, 51, 50, 51, 51, 51, 52, 51, 53, 51, 54, 51, 55, 51, 56, 51, 57, 52, 48, 52, 49, 52, 50, 52, 51, 52, 52, 52, 53, 52, 54, 52, 55, 52, 56, 52, 57] #[53, 48, 53, 49, 53, 50, 53, 51, 53, 52, 53, 53, 53, 54, 53, 55, 53, 56, 53, 57, 54, 48, 54, 49, 54, 50, 54, 51, 54, 52, 54, 53, 54, 54, 54, 55, 54, 56, 54, 57, 55, 48, 55, 49, 55, 50, 55, 51, 55, 52, 55, 53, 55, 54, 55, 55, 55, 56, 55, 57, 56, 48, 56, 49, 56, 50, 56, 51, 56, 52, 56, 53, 56, 54, 56, 55, 56, 56, 56, 57, 57, 48, 57, 49, 57, 50, 57, 51, 57, 52, 57, 53, 57, 54, 57, 55, 57, 56, 57, 57]) } tx_730b8f_eq (by kernel_rfl)) (PSim.named_nat opIndexStrW_nat), none⟩,
 ⟨.p (opMove (some 154) (.tmp 16) 118 "itoa.go:224" #[]), none⟩,
 ⟨.pn (PSim.named (opIndexStrW (some 155) 9 (.const (Value.string { data := (.append #[48, 48, 48, 49, 48, 50, 48, 51, 48, 52, 48, 53, 48, 54, 48, 55, 48, 56, 48, 57, 49, 48, 49, 49, 49, 50, 49, 51, 49, 52, 49, 53, 49, 54, 49, 55, 49, 56, 49, 57, 50, 48, 50, 49, 50, 50, 50, 51, 50, 52, 50, 53, 50, 54, 50, 55, 50, 56, 50, 57, 51, 48, 51, 49, 51, 50, 51, 51, 51, 52, 51, 53, 51, 54, 51, 55, 51, 56, 51, 57, 52, 48, 52, 49, 52, 50, 52, 51, 52, 52, 52, 53, 52, 54, 52, 55, 52, 56, 52, 57] #[53, 48, 53, 49, 53, 50, 53, 51, 53, 52, 53, 53, 53, 54, 53, 55, 53, 56, 53, 57, 54, 48, 54, 49, 54, 50, 54, 51, 54, 52, 54, 53, 54, 54, 54, 55, 54, 56, 54, 57, 55, 48, 55, 49, 55, 50, 55, 51, 55, 52, 55, 53, 55, 54, 55, 55, 55, 56, 55, 57, 56, 48, 56, 49, 56, 50, 56, 51, 56, 52, 56, 53, 56, 54, 56, 55, 56, 56, 56, 57, 57, 48, 57, 49, 57, 50, 57, 51, 57, 52, 57, 53, 57, 54, 57, 55, 57, 56, 57, 57]) })) (.tmp 154) Tryd.underlying9 5 "itoa.go:224" #[eD 9]) tx_730b8f { data := (.append #[48, 48, 48, 49, 48, 50, 48, 51, 48, 52, 48, 53, 48, 54, 48, 55, 48, 56, 48, 57, 49, 48, 49, 49, 49, 50, 49, 51, 49, 52, 49, 53, 49, 54, 49, 55, 49, 56, 49, 57, 50, 48, 50, 49, 50, 50, 50, 51, 50, 52, 50, 53, 50, 54, 50, 55, 50, 56, 50, 57, 51, 48, 51, 49, 51, 50, 51, 51, 51, 52, 51, 53, 51, 54, 51, 55, 51, 56, 51, 57, 52, 48, 52, 49, 52, 50, 52, 51, 52, 52, 52, 53, 52, 54, 52, 55, 52, 56, 52, 57] #[53, 48, 53, 49, 53, 50, 53, 51, 53, 52, 53, 53, 53, 54, 53, 55, 53, 56, 53, 57, 54, 48, 54, 49, 54, 50, 54, 51, 54, 52, 54, 53, 54, 54, 54, 55, 54, 56, 54, 57, 55, 48, 55, 49, 55, 50, 55, 51, 55, 52, 55, 53, 55, 54, 55, 55, 55, 56, 55, 57, 56, 48, 56, 49, 56, 50, 56, 51, 56, 52, 56, 53, 56, 54, 56, 55, 56, 56, 56, 57, 57, 48, 57, 49, 57, 50, 57, 51, 57, 52, 57, 53, 57, 54, 57, 55, 57, 56, 57, 57]) } tx_730b8f_eq (by kernel_rfl)) (PSim.named_nat opIndexStrW_nat), none⟩,
 ⟨.pn (opIndexAddrT (some 156) 46 (.tmp 145) (.tmp 147) 5 1 Tryd.underlying46 sz5 0 "itoa.go:224" #[eD 0, eD 2, eP 0, eP 1, eP 2, { on := 3, ground := (Ground.textOnly Departure.lateStores) }, { on := 4, ground := (Ground.textOnly Departure.lateStores) }, { on := 5, ground := (Ground.textOnly Departure.lateStores) }, eP 6, eP 7, eP 8, { on := 9, ground := (Ground.textOnly Departure.lateStores) }, { on := 10, ground := (Ground.textOnly Departure.lateStoresUnsure) }]) opIndexAddrT_nat, none⟩,
 ⟨.mn (opStoreC none 5 (.tmp 156) (.tmp 153) 1 sz5 0 "itoa.go:224" #[eD 11, eD 8, eP 0, eP 1, eP 2, { on := 3, ground := (Ground.textOnly Departure.lateStores) }, { on := 4, ground := (Ground.textOnly Departure.lateStores) }, { on := 5, ground := (Ground.textOnly Departure.lateStores) }, eP 6, eP 7, eP 8, { on := 9, ground := (Ground.textOnly Departure.lateStores) }, { on := 10, ground := (Ground.textOnly Departure.lateStoresUnsure) }]) opStoreC_nat, none⟩,
 ⟨.pn (opIndexAddrT (some 157) 46 (.tmp 148) (.tmp 150) 5 1 Tryd.underlying46 sz5 0 "itoa.go:224" #[eD 3, eD 5, eP 0, eP 1, eP 2, eP 3, eP 4, eP 5, eP 6, eP 7, eP 8, eP 9, eP 10, eP 11, eP 12]) opIndexAddrT_nat, none⟩,
 ⟨.mn (opStoreC none 5 (.tmp 157) (.tmp 155) 1 sz5 0 "itoa.go:224" #[eD 13, eD 10, eC 12, eP 0, eP 1, eP 2, eP 3, eP 4, eP 5, eP 6, eP 7, eP 8, eP 9, eP 10, eP 11, eP 12]) opStoreC_nat, none⟩
 ] mixed (by kernel_rfl)))
 (.live [0, 4, 12] (.region 24 [
 ⟨(opMove (some 158) (.tmp 4) 3 "itoa.go:225" #[]).op, none⟩,
 ⟨(opBin (some 159) .sub 3 (.tmp 158) (.const (Value.int IntKind.i64 2)) 3 3 "itoa.go:225" #[eD 0]).op, none⟩,
 ⟨(opAssign (some 4) (.tmp 159) 3 "itoa.go:225" #[eD 1, eP 0, eP 1]).op, none⟩
 ] (by kernel_rfl))))))
 .skip))
 (.seq (.live [0, 12, 161] (.region 25 [
 ⟨(opMove (some 160) (.tmp 4) 3 "itoa.go:227" #[]).op, none⟩,
 ⟨(opBin (some 161) .gtr 3 (.tmp 160) (.const (Value.int IntKind.i64 0)) 3 4 "itoa.go:227" #[eD 0]).op, none⟩
 ] (by kernel_rfl)))
 (.cond (.tmp 161)
 (.live [] (.region 26 [
 ⟨(opMove (some 162) (.tmp 0) 46 "itoa.go:229" #[]).op, none⟩,
 ⟨(opMove (some 163) (.tmp 12) 118 "itoa.go:229" #[]).op, none⟩,
 ⟨(opBin (some 164) .add 118 (.const (Value.int IntKind.u32 48)) (.tmp 163) 118 118 "itoa.go:229" #[eD 1]).op, none⟩,
 ⟨(opConvInt (some 165) 118 5 (.tmp 164) (.int .u32) Tryd.underlying118 .u8 Tryd.underlying5 5 "itoa.go:229" #[eD 2]).op, none⟩,
 ⟨(opIndexAddrT (some 166) 46 (.tmp 162) (.const (Value.int IntKind.i64 0)) 5 1 Tryd.underlying46 sz5 0 "itoa.go:229" #[eD 0, eP 0, eP 1, eP 2, eP 3]).op, none⟩,
 ⟨(opStoreC none 5 (.tmp 166) (.tmp 165) 1 sz5 0 "itoa.go:229" #[eD 4, eD 3, eP 0, eP 1, eP 2, eP 3]).op, none⟩
 ] (by kernel_rfl)))
 .skip)))))

noncomputable def f86_b : Sim Tryd.prog :=
 (.seq (.live [0, 1, 4] (.region 0 [
 ⟨(opMove (some 17) (.tmp 0) 46 "itoa.go:195" #[]).op, none⟩,
 ⟨(opLen (some 18) (.tmp 17) 46 (.slice 5) Tryd.underlying46 3 "itoa.go:195" #[eD 0]).op, none⟩,
 ⟨(opAssign (some 4) (.tmp 18) 3 "itoa.go:195" #[eD 1, eP 0, eP 1]).op, none⟩
 ] (by kernel_rfl)))
 (.seq (.block 0 (.loop [0, 1, 4] f86_l0))
 f86_r0))

noncomputable def f86 : Fun Tryd.prog where
 id := 86
 fn := Tryd.f86
 hf := Tryd.func86
 hname := by kernel_rfl
 body := f86_b
 hbody := by kernel_rfl
 res := []
 hres := by kernel_rfl
 n := 167
 hn := by kernel_rfl

end Go.Proofs.YtcfedmheblbdnaaDoor.V
