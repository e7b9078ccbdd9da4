/- Bits: lists of texts as bytes; the same texts. -/
import Derived.Test.YtjdpfblmhahfkaaBQ
set_option linter.unusedVariables false
namespace Go.Proofs.Ytjdpfblmhahfkaa.V
open Go Go.V Go.RowKit

def strOf : List AV → ByteArray
  | [.str s] => s
  | _ => ByteArray.empty
def isStr : List AV → Bool
  | [.str s] => decide (s.size ≤ 100000)
  | _ => false
/-- Rows that are texts, none too long. -/
def okT (l : List (List AV)) : Bool := l.all isStr
def sR (l : List (List AV)) : List ByteArray := l.map strOf
theorem isStr_row {r : List AV} (h : isStr r = true) : r = [.str (strOf r)] ∧ (strOf r).size ≤ 100000 := by
  unfold isStr at h
  split at h
  · exact ⟨rfl, of_decide_eq_true h⟩
  · cases h
theorem okT_at {l : List (List AV)} (h : okT l = true) {i : Nat} (hi : i < l.length) : elemAt l (i : Int) = some [.str (sR l)[i]!] ∧ (sR l)[i]!.size ≤ 100000 := by
  have h1 := isStr_row (List.all_eq_true.mp h l[i] (List.getElem_mem hi))
  have h2 : (sR l)[i]! = strOf l[i] := by simp [sR, hi]
  rw [h2]
  refine ⟨?_, h1.2⟩
  rw [← h1.1]
  unfold elemAt
  simp [hi]
theorem sR_length (l : List (List AV)) : (sR l).length = l.length := by simp [sR]
/-- Texts one behind the other. -/
def catT : List ByteArray → List Nat
  | [] => []
  | s :: r => textBytes s ++ catT r
/-- A list of texts as bytes. -/
def textsBytes (ss : List ByteArray) : List Nat := intBytes (ss.length : Int) ++ catT ss
theorem catT_append : ∀ a b, catT (a ++ b) = catT a ++ catT b
  | [], b => rfl
  | s :: a, b => by simp only [List.cons_append, catT, catT_append a b, List.append_assoc]
theorem catT_length : ∀ ss : List ByteArray, (∀ s ∈ ss, s.size ≤ 100000) → (catT ss).length ≤ ss.length * 100010
  | [], _ => by simp [catT]
  | s :: r, h => by
    have h1 := catT_length r fun s hs => h s (by simp [hs])
    have h2 := h s (by simp)
    have h3 := intBytes_length s.size
    simp only [catT, textBytes, List.length_append, own_length, List.length_cons]
    omega
theorem sR_short {l : List (List AV)} (h : okT l = true) : ∀ s ∈ sR l, s.size ≤ 100000 := by
  intro s hs
  obtain ⟨r, hr, rfl⟩ := List.mem_map.mp hs
  exact (isStr_row (List.all_eq_true.mp h r hr)).2
theorem catT_lt {ss : List ByteArray} (h : ∀ s ∈ ss, s.size ≤ 100000) : ∀ b ∈ catT ss, b < 256 := by
  induction ss with
  | nil => intro b hb; simp [catT] at hb
  | cons s r ih =>
    intro b hb
    rcases List.mem_append.mp hb with hb | hb
    · exact textBytes_lt (by have := h s (by simp); omega) b hb
    · exact ih (fun s hs => h s (by simp [hs])) b hb
theorem tk_mid (a b : List (Nat × Nat)) (x : Nat × Nat) : (a ++ x :: b)[a.length]? = some x := by simp
theorem tk_mid_set (a b : List (Nat × Nat)) (x y : Nat × Nat) : (a ++ x :: b).set a.length y = a ++ y :: b := by simp

theorem at_i {l : List (List AV)} {i : Nat} (hi : i < l.length) : (sR l).drop i = (sR l)[i]! :: (sR l).drop (i + 1) := by
  rw [List.drop_eq_getElem_cons (by rw [sR_length]; exact hi)]
  simp [sR, hi]

theorem tx_loop (F : Nat) (f : Bool) (l : List (List AV)) (os : List Ob) (tk : List (Nat × Nat)) (hl : okT l = true) (hn : l.length ≤ 100000) : ∀ (k i n : Nat) (lo : List (List AV)) (xt : List (Nat × Nat)), i + k = l.length → k < n → lo.length ≤ 10 + i * 100010 →
    ∃ xt', loopRun (f20_l0.run F) [3, 9, 10, 11] (Cont.block 0 (Cont.then (f20_r0.run F (f20.leaveK Fun.done)) (f20.leaveK Fun.done))) n
      (Env.mk 21 [(3, .lg tk.length 1 lo), (9, .sl 1 f l), (10, .int .i64 l.length), (11, .int .i64 i)]) ⟨os, tk ++ (1, lo.length) :: xt⟩
      = some (.ret (.lg tk.length 1 (lo ++ rb (catT ((sR l).drop i)))), ⟨os, tk ++ (1, lo.length + (catT ((sR l).drop i)).length) :: xt'⟩)
  | k, i, 0, lo, xt, hi, hk, hlo => by omega
  | 0, i, n + 1, lo, xt, hi, hk, hlo => by
    refine ⟨xt, ?_⟩
    rw [show n + 1 = n.succ from rfl, tx_end _ _ _ _ _ _ _ _ _ (by simp; omega), tx_out, List.drop_eq_nil_of_le (by rw [sR_length]; omega)]
    simp [catT, rb]
  | k + 1, i, n + 1, lo, xt, hi, hk, hlo => by
    have hi1 : i < l.length := by omega
    obtain ⟨he, hs⟩ := okT_at hl hi1
    have hil := intBytes_length (sR l)[i]!.size
    have htb : (textBytes (sR l)[i]!).length ≤ 100010 := by simp only [textBytes, List.length_append, own_length]; omega
    obtain ⟨xt', ih⟩ := tx_loop F f l os tk hl hn k (i + 1) n (lo ++ rb (textBytes (sR l)[i]!)) (xt ++ [(1, (textBytes (sR l)[i]!).length)]) (by omega) (by omega) (by rw [List.length_append, rb_length]; omega)
    refine ⟨xt', ?_⟩
    rw [show n + 1 = n.succ from rfl, tx_round F n _ _ f i lo l _ os _ he, branch_of (by simp; omega), branch_of (by unfold shortS; exact decide_eq_true (by omega))]
    simp only [List.append_assoc, List.cons_append]
    rw [if_pos ⟨tk_mid _ _ _, by rw [rb_length]; omega⟩, tk_mid_set, wrapS (by omega) (by omega), show ((i : Int) + 1) = ((i + 1 : Nat) : Int) by omega]
    rw [List.length_append] at ih
    rw [ih, at_i hi1]
    simp only [catT, rb_append, List.append_assoc, List.length_append, rb_length, Nat.add_assoc]

theorem rx_loop (F : Nat) (f : Bool) (l : List (List AV)) (os : List Ob) (tk : List (Nat × Nat)) (hl : okT l = true) (hn : l.length ≤ 100000) : ∀ (k i n : Nat) (lo : List (List AV)) (xt : List (Nat × Nat)), i + k = l.length → k < n → lo.length ≤ 10 + i * 100010 →
    ∃ xt', loopRun (f21_l0.run F) [0, 3, 4] (Cont.block 0 (Cont.then (f21_r0.run F (f21.leaveK Fun.done)) (f21.leaveK Fun.done))) n
      (Env.mk 22 [(0, .sl 1 f l), (3, .lg tk.length 1 lo), (4, .int .i64 i)]) ⟨os, tk ++ (1, lo.length) :: xt⟩
      = some (.ret (.lg tk.length 1 (lo ++ rb (catT ((sR l).drop i)))), ⟨os, tk ++ (1, lo.length + (catT ((sR l).drop i)).length) :: xt'⟩)
  | k, i, 0, lo, xt, hi, hk, hlo => by omega
  | 0, i, n + 1, lo, xt, hi, hk, hlo => by
    refine ⟨xt, ?_⟩
    rw [show n + 1 = n.succ from rfl, rx_end _ _ _ _ _ _ _ _ _ (by simp; omega), rx_out, List.drop_eq_nil_of_le (by rw [sR_length]; omega)]
    simp [catT, rb]
  | k + 1, i, n + 1, lo, xt, hi, hk, hlo => by
    have hi1 : i < l.length := by omega
    obtain ⟨he, hs⟩ := okT_at hl hi1
    have hil := intBytes_length (sR l)[i]!.size
    have htb : (textBytes (sR l)[i]!).length ≤ 100010 := by simp only [textBytes, List.length_append, own_length]; omega
    obtain ⟨xt', ih⟩ := rx_loop F f l os tk hl hn k (i + 1) n (lo ++ rb (textBytes (sR l)[i]!)) (xt ++ [(1, (textBytes (sR l)[i]!).length)]) (by omega) (by omega) (by rw [List.length_append, rb_length]; omega)
    refine ⟨xt', ?_⟩
    rw [show n + 1 = n.succ from rfl, rx_round F n _ _ f i lo l _ os _ he, branch_of (by simp; omega), branch_of (by unfold shortS; exact decide_eq_true (by omega))]
    simp only [List.append_assoc, List.cons_append]
    rw [if_pos ⟨tk_mid _ _ _, by rw [rb_length]; omega⟩, tk_mid_set, wrapS (by omega) (by omega), show ((i : Int) + 1) = ((i + 1 : Nat) : Int) by omega]
    rw [List.length_append] at ih
    rw [ih, at_i hi1]
    simp only [catT, rb_append, List.append_assoc, List.length_append, rb_length, Nat.add_assoc]

/-- Fit to be handed on: texts. -/
def fitT (b : Br) : Bool := okT b.list && decide (b.list.length ≤ 100000)
theorem fitT_spec {b : Br} (h : fitT b = true) : okT b.list = true ∧ b.list.length ≤ 100000 := by simpa [fitT] using h

theorem f20_spec (b : Br) (h : fitT b = true) : ∃ F, ∀ st, ∃ r' xo xt, frz r' = .sl 1 false (rb (textsBytes (sR b.list))) ∧ f20.run F [b.av] st = some (.ret r', ⟨st.objs ++ xo, st.tk ++ xt⟩) := by
  obtain ⟨h1, h2⟩ := fitT_spec h
  cases b with
  | nil => exact ⟨1, fun st => ⟨_, [], [(1, 1)], rfl, by show f20.run (Nat.succ 0) [.nilsl] st = _; rw [tx_nil, List.append_nil]⟩⟩
  | sl f l =>
    refine ⟨l.length + 1, fun st => ?_⟩
    have hil := intBytes_length l.length
    obtain ⟨xt, hx⟩ := tx_loop (l.length + 1) f l st.objs st.tk h1 h2 l.length 0 (l.length + 1) (rb (intBytes l.length)) [] (by omega) (by omega) (by rw [rb_length]; omega)
    refine ⟨.lg st.tk.length 1 (rb (textsBytes (sR l))), [], (1, (textsBytes (sR l)).length) :: xt, rfl, ?_⟩
    rw [rb_length] at hx
    show f20.run (l.length + 1) [.sl 1 f l] st = _
    simp only [Br.list] at h2
    rw [texts_run, branch_of (by simp [i64B]; omega), show ((0 : Int)) = ((0 : Nat) : Int) from rfl, hx, List.drop_zero, List.append_nil]
    simp only [textsBytes, rb_append, sR_length, List.length_append]
theorem f21_spec (b : Br) (h : fitT b = true) : ∃ F, ∀ st, ∃ r' xo xt, frz r' = .sl 1 false (rb (textsBytes (sR b.list))) ∧ f21.run F [b.av] st = some (.ret r', ⟨st.objs ++ xo, st.tk ++ xt⟩) := by
  obtain ⟨h1, h2⟩ := fitT_spec h
  cases b with
  | nil => exact ⟨1, fun st => ⟨_, [], [(1, 1)], rfl, by show f21.run (Nat.succ 0) [.nilsl] st = _; rw [rx_nil, List.append_nil]⟩⟩
  | sl f l =>
    refine ⟨l.length + 1, fun st => ?_⟩
    have hil := intBytes_length l.length
    obtain ⟨xt, hx⟩ := rx_loop (l.length + 1) f l st.objs st.tk h1 h2 l.length 0 (l.length + 1) (rb (intBytes l.length)) [] (by omega) (by omega) (by rw [rb_length]; omega)
    refine ⟨.lg st.tk.length 1 (rb (textsBytes (sR l))), [], (1, (textsBytes (sR l)).length) :: xt, rfl, ?_⟩
    rw [rb_length] at hx
    show f21.run (l.length + 1) [.sl 1 f l] st = _
    simp only [Br.list] at h2
    rw [rtexts_run, branch_of (by simp [i64B]; omega), show ((0 : Int)) = ((0 : Nat) : Int) from rfl, hx, List.drop_zero, List.append_nil]
    simp only [textsBytes, rb_append, sR_length, List.length_append]
noncomputable def r20 : POrc Try.prog := (f20.pureIfX sl1 (fun a => [a.av]) sl1_enc fitT (fun b => .sl 1 false (rb (textsBytes (sR b.list)))) (fun _ n m => scoped_rb n m _) f20_spec).fz
noncomputable def r21 : POrc Try.prog := (f21.pureIfX sl1 (fun a => [a.av]) sl1_enc fitT (fun b => .sl 1 false (rb (textsBytes (sR b.list)))) (fun _ n m => scoped_rb n m _) f21_spec).fz

/-! ### The same texts -/
def sameT : List ByteArray → List ByteArray → Bool
  | [], [] => true
  | a :: l, b :: m => a.toList == b.toList && sameT l m
  | _, _ => false
theorem same_refl : ∀ l, sameT l l = true
  | [] => rfl
  | a :: l => by simp [sameT, same_refl l]
theorem sameT_len : ∀ {a b : List ByteArray}, a.length ≠ b.length → sameT a b = false
  | [], [], h => absurd rfl h
  | [], _ :: _, _ => rfl
  | _ :: _, [], _ => rfl
  | x :: a, y :: b, h => by
    simp only [sameT, sameT_len (a := a) (b := b) (by simpa using h), Bool.and_false]
theorem st_loop (F : Nat) (f f' : Bool) (st : St) (K : Cont) (l m : List (List AV)) (hl : l.length = m.length) (h1 : okT l = true) (h2 : okT m = true) (hb : l.length ≤ 100000) : ∀ (k i n : Nat), i + k = l.length → k < n →
    loopRun (f22_l0.run F) [0, 1, 5] K n (Env.mk 26 [(0, .sl 1 f l), (1, .sl 1 f' m), (5, .int .i64 i)]) st
      = branch (.bool (sameT ((sR l).drop i) ((sR m).drop i))) (K (.exit 0) (Env.mk 26 []) st) (K .ret (Env.mk 26 [(4, .bool false)]) st)
  | k, i, 0, hi, hk => by omega
  | 0, i, n + 1, hi, hk => by
    have e1 : (sR l).drop i = [] := List.drop_eq_nil_of_le (by rw [sR_length]; omega)
    have e2 : (sR m).drop i = [] := List.drop_eq_nil_of_le (by rw [sR_length]; omega)
    rw [e1, e2, show n + 1 = n.succ from rfl, st_end _ _ _ _ _ _ _ _ _ (by simp; omega)]
    rfl
  | k + 1, i, n + 1, hi, hk => by
    have hi1 : i < l.length := by omega
    have hi2 : i < m.length := by omega
    have ih := st_loop F f f' st K l m hl h1 h2 hb k (i + 1) n (by omega) (by omega)
    rw [show n + 1 = n.succ from rfl, st_round F n K i _ _ f f' _ _ st (okT_at h1 hi1).1 (okT_at h2 hi2).1, branch_of (by simp; omega), wrapS (by omega) (by omega)]
    rw [show ((i : Int) + 1) = ((i + 1 : Nat) : Int) by omega, ih, at_i hi1, at_i hi2]
    simp only [sameT, branch_ite]
    cases ((sR l)[i]!.toList == (sR m)[i]!.toList) <;> simp
theorem f22_spec (a : Br × Br) (h : (fitT a.1 && okT a.2.list) = true) : ∃ F, ∀ st, f22.run F [a.1.av, a.2.av] st = some (.ret (.bool (sameT (sR a.1.list) (sR a.2.list))), st) := by
  simp only [Bool.and_eq_true] at h
  obtain ⟨h1, h2⟩ := fitT_spec h.1
  obtain ⟨x, y⟩ := a
  refine ⟨x.list.length + 1, fun st => ?_⟩
  cases x with
  | nil =>
    cases y with
    | nil => exact st_nn 0 st
    | sl f m =>
      show f22.run (Nat.succ 0) [.nilsl, .sl 1 f m] st = _
      rw [st_ns]
      cases m with
      | nil => rfl
      | cons b bs => rw [branch_of (by simp [bne]; omega)]; rfl
  | sl f l =>
    cases y with
    | nil =>
      show f22.run (Nat.succ l.length) [.sl 1 f l, .nilsl] st = _
      rw [st_sn]
      cases l with
      | nil => rfl
      | cons b bs => rw [branch_of (by simp [bne]; omega)]; rfl
    | sl f' m =>
      show f22.run (l.length + 1) [.sl 1 f l, .sl 1 f' m] st = some (.ret (.bool (sameT (sR l) (sR m))), st)
      rw [st_run]
      by_cases hl : l.length = m.length
      · rw [branch_not (by simp [hl])]
        have := st_loop (l.length + 1) f f' st (Cont.block 0 (Cont.then (f22_r0.run (l.length + 1) (f22.leaveK Fun.done)) (f22.leaveK Fun.done))) l m hl h1 h.2 h2 l.length 0 (l.length + 1) (by omega) (by omega)
        rw [show ((0 : Nat) : Int) = 0 from rfl] at this
        rw [this, st_out, st_ret]
        simp only [List.drop_zero]
        cases sameT (sR l) (sR m) <;> rfl
      · rw [branch_of (by simp [bne]; omega), sameT_len (by rw [sR_length, sR_length]; exact hl)]
noncomputable def r22 : POrc Try.prog := (f22.pureIf sl2 (fun a => [a.1.av, a.2.av]) sl2_enc (fun a => fitT a.1 && okT a.2.list) (fun a => .bool (sameT (sR a.1.list) (sR a.2.list))) (fun a _ => ⟨rfl, fun _ _ => trivial⟩) f22_spec).fz
end Go.Proofs.Ytjdpfblmhahfkaa.V
