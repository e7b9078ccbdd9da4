/- Bits: BitsWrites and BitsTexts are true. -/
import Derived.Test.YtjdpfblmhahfkaaBT
set_option linter.unusedVariables false
namespace Go.Proofs.Ytjdpfblmhahfkaa.V
open Go Go.V Go.RowKit

/-- A law's texts. -/
def Txs (l : List (List AV)) : Prop := ∀ r ∈ l, ∃ s : ByteArray, r = [.str s]
theorem texts_shape {xs : List AV} (h : Ty.Shape (.sl .str 16) xs) : xs = [.nilsl] ∨ ∃ l, xs = [.sl 1 false l] ∧ Txs l := by
  rcases h with h | ⟨l, h1, h2, h3, h4⟩
  · exact .inl h
  · exact .inr ⟨l, h1, fun r hr => by obtain ⟨s, h, _⟩ := h4 r hr; exact ⟨s, h⟩⟩
theorem Txs.at {l : List (List AV)} (h : Txs l) {i : Nat} (hi : i < l.length) : elemAt l (i : Int) = some [.str (sR l)[i]!] := by
  obtain ⟨s, hs⟩ := h l[i] (List.getElem_mem hi)
  have h2 : (sR l)[i]! = s := by simp [sR, hi, hs, strOf]
  rw [h2, ← hs]
  unfold elemAt
  simp [hi]
theorem okT_of {l : List (List AV)} (h : Txs l) (h2 : ∀ i, i < l.length → (sR l)[i]!.size ≤ 5000) : okT l = true := by
  refine List.all_eq_true.mpr fun r hr => ?_
  obtain ⟨i, hi, rfl⟩ := List.mem_iff_getElem.mp hr
  obtain ⟨s, hs⟩ := h l[i] hr
  have h3 := h2 i hi
  have h4 : (sR l)[i]! = s := by simp [sR, hi, hs, strOf]
  rw [h4] at h3
  rw [hs]
  exact decide_eq_true (by omega)
theorem pair_same {l : List (List AV)} {f f' : Bool} (h : okR l = true) (hl : l.length < 140737488355328) : (fit (Br.sl f l) && okR l) = true := by
  rw [fit_of h hl, h]; rfl

theorem shortS_of {s : ByteArray} (h : s.size ≤ 100000) : shortS s = true := decide_eq_true (by omega)
theorem wr_loop (F : Nat) (K : Cont) (n : Int) (s : ByteArray) (l : List (List AV)) (st : St) (hl : Txs l) (hn : l.length ≤ 200) : ∀ (k i m : Nat), i + k = l.length → k < m → (∀ j, j < i → (sR l)[j]!.size ≤ 5000) →
    loopRun (f5_l0.run F) [0, 1, 2, 7] K m (Env.mk 49 [(0, .int .i64 n), (1, .str s), (2, .sl 1 false l), (7, .int .i64 i)]) st = K .ret (Env.mk 49 [(6, .bool true)]) st ∨
    okT l = true ∧ loopRun (f5_l0.run F) [0, 1, 2, 7] K m (Env.mk 49 [(0, .int .i64 n), (1, .str s), (2, .sl 1 false l), (7, .int .i64 i)]) st = K (.exit 0) (Env.mk 49 [(0, .int .i64 n), (1, .str s), (2, .sl 1 false l)]) st
  | k, i, 0, hi, hk, hj => by omega
  | 0, i, m + 1, hi, hk, hj => .inr ⟨okT_of hl fun j hj' => hj j (by omega), by rw [show m + 1 = m.succ from rfl, wr_end _ _ _ _ _ _ _ _ (by simp; omega)]⟩
  | k + 1, i, m + 1, hi, hk, hj => by
    have hi1 : i < l.length := by omega
    rw [show m + 1 = m.succ from rfl, wr_round F m K n i s _ l st (hl.at hi1), branch_of (by simp; omega)]
    by_cases h5 : 5000 < (sR l)[i]!.size
    · left; rw [branch_of (decide_eq_true (by omega))]
    · rw [branch_not (decide_eq_false (by omega)), wrapS (by omega) (by omega), show ((i : Int) + 1) = ((i + 1 : Nat) : Int) by omega]
      exact wr_loop F K n s l st hl hn k (i + 1) m (by omega) (by omega) fun j hj' => by
        by_cases h : j = i
        · subst h; omega
        · exact hj j (by omega)
theorem textsBytes_lt {l : List (List AV)} (h : okT l = true) (hn : l.length ≤ 100000) : ∀ b ∈ textsBytes (sR l), b < 256 := by
  intro b hb
  rcases List.mem_append.mp hb with hb | hb
  · exact intBytes_lt (by rw [sR_length]; simp [i64B]; omega) b hb
  · exact catT_lt (sR_short h) b hb
theorem textsBytes_length {l : List (List AV)} (h : okT l = true) (hn : l.length ≤ 100000) : (textsBytes (sR l)).length < 140737488355328 := by
  have h1 := catT_length (sR l) (sR_short h)
  have h2 := intBytes_length ((sR l).length : Int)
  rw [sR_length] at h1
  rw [textsBytes, List.length_append]
  omega

theorem writes_true {n : Int} {s : ByteArray} {l : List (List AV)} (hn : i64B n = true) (hl : Txs l) : ∃ F st, f5.run F [.int .i64 n, .str s, .sl 1 false l] ⟨[], []⟩ = some (.ret (.bool true), st) := by
  refine ⟨l.length + 1, ?_⟩
  rw [writes_run]
  by_cases h5 : 5000 < s.size
  · rw [branch_of (decide_eq_true (by omega))]; exact ⟨_, rfl⟩
  rw [branch_not (decide_eq_false (by omega))]
  by_cases h6 : 200 < l.length
  · rw [branch_of (decide_eq_true (by omega))]; exact ⟨_, rfl⟩
  rw [branch_not (decide_eq_false (by omega)), show (0 : Int) = ((0 : Nat) : Int) from rfl]
  rcases wr_loop (l.length + 1) (Cont.block 0 (Cont.then (f5_r0.run (l.length + 1) (f5.leaveK Fun.done)) (f5.leaveK Fun.done))) n s l ⟨[], []⟩ hl (by omega) l.length 0 (l.length + 1) (by omega) (by omega) (fun j hj => by omega) with h | ⟨h1, h⟩
  · rw [h, wr_ret]; exact ⟨_, rfl⟩
  · have hs : s.size < 140737488355328 := by omega
    have hti := intBytes_length n
    have htt := intBytes_length s.size
    rw [h, wr_out, branch_of hn, branch_of hn]
    simp only [Br.list]
    rw [branch_of (pair_same (f' := false) (okR_rb (intBytes_lt hn)) (by rw [rb_length]; omega)), branch_of (sameRows_iff.mpr rfl), branch_of (shortS_of (by omega)), branch_of (shortS_of (by omega)),
      branch_of (pair_same (f' := false) (okR_rb (textBytes_lt hs)) (by rw [rb_length, textBytes, List.length_append, own_length]; omega)), branch_of (sameRows_iff.mpr rfl)]
    have hf : fitT (Br.sl false l) = true := by simp only [fitT, Br.list, h1, Bool.true_and]; exact decide_eq_true (by omega)
    rw [branch_of hf, branch_of hf, branch_of (pair_same (f' := false) (okR_rb (textsBytes_lt h1 (by omega))) (by rw [rb_length]; exact textsBytes_length h1 (by omega))), sameRows_iff.mpr rfl]
    exact ⟨_, rfl⟩
theorem writes_law (as0 as1 as2 : List AV) (sh0 : Ty.Shape (.int .i64) as0) (sh1 : Ty.Shape .str as1) (sh2 : Ty.Shape (.sl .str 16) as2) :
    ∃ F st, f5.run F [Ty.AV' (.int .i64) as0, Ty.AV' .str as1, Ty.AV' (.sl .str 16) as2] ⟨[], []⟩ = some (.ret (.bool true), st) := by
  obtain ⟨n, rfl, hn⟩ := sh0
  obtain ⟨s, rfl, hs⟩ := sh1
  have hn := i64_wf hn
  rcases texts_shape sh2 with rfl | ⟨l, rfl, hl⟩
  · refine ⟨20, ?_⟩
    show ∃ st, f5.run 20 [.int .i64 n, .str s, .nilsl] ⟨[], []⟩ = _
    rw [writes_nil]
    by_cases h5 : 5000 < s.size
    · rw [branch_of (decide_eq_true (by omega))]; exact ⟨_, rfl⟩
    have hs : s.size < 140737488355328 := by omega
    have hti := intBytes_length n
    have htt := intBytes_length s.size
    rw [branch_not (decide_eq_false (by omega)), branch_of hn, branch_of hn]
    simp only [Br.list]
    rw [branch_of (pair_same (f' := false) (okR_rb (intBytes_lt hn)) (by rw [rb_length]; omega)), branch_of (sameRows_iff.mpr rfl), branch_of (shortS_of (by omega)), branch_of (shortS_of (by omega)),
      branch_of (pair_same (f' := false) (okR_rb (textBytes_lt hs)) (by rw [rb_length, textBytes, List.length_append, own_length]; omega)), branch_of (sameRows_iff.mpr rfl)]
    exact ⟨_, rfl⟩
  · exact writes_true hn hl

theorem lt_loop (F t : Nat) (K : Cont) (l : List (List AV)) (hl : Txs l) (hn : l.length ≤ 200) : ∀ (k i m : Nat) (lo : List (List AV)) (xt : List (Nat × Nat)), i + k = l.length → k < m → (∀ j, j < i → (sR l)[j]!.size ≤ 5000) → lo.length ≤ 10 + i * 100010 →
    (∃ st, loopRun (f6_l0.run F) [0, 3, 4] K m (Env.mk 36 [(0, .sl 1 false l), (3, .lg 0 1 lo), (4, .int .i64 i)]) ⟨[], (1, lo.length) :: xt⟩ = K .ret (Env.mk 36 [(2, .bool true)]) st) ∨
    okT l = true ∧ ∃ st, loopRun (f6_l0.run F) [0, 3, 4] K m (Env.mk 36 [(0, .sl 1 false l), (3, .lg 0 1 lo), (4, .int .i64 i)]) ⟨[], (1, lo.length) :: xt⟩ = K (.exit 0) (Env.mk 36 [(0, .sl 1 false l), (3, .lg 0 1 (lo ++ rb (catT ((sR l).drop i))))]) st
  | k, i, 0, lo, xt, hi, hk, hj, hlo => by omega
  | 0, i, m + 1, lo, xt, hi, hk, hj, hlo => .inr ⟨okT_of hl fun j hj' => hj j (by omega), _, by rw [show m + 1 = m.succ from rfl, lt_end _ _ _ _ _ _ _ _ (by simp; omega), List.drop_eq_nil_of_le (by rw [sR_length]; omega)]; simp [catT, rb]; rfl⟩
  | k + 1, i, m + 1, lo, xt, hi, hk, hj, hlo => by
    have hi1 : i < l.length := by omega
    rw [show m + 1 = m.succ from rfl, lt_round F m _ K i _ lo l _ _ (hl.at hi1), branch_of (by simp; omega)]
    by_cases h5 : 5000 < (sR l)[i]!.size
    · left; rw [branch_of (decide_eq_true (by omega))]; exact ⟨_, rfl⟩
    · have hil := intBytes_length (sR l)[i]!.size
      have htb : (textBytes (sR l)[i]!).length ≤ 100010 := by simp only [textBytes, List.length_append, own_length]; omega
      have ih := lt_loop F t K l hl hn k (i + 1) m (lo ++ rb (textBytes (sR l)[i]!)) (xt ++ [(1, (textBytes (sR l)[i]!).length)]) (by omega) (by omega) (fun j hj' => by
        by_cases h : j = i
        · subst h; omega
        · exact hj j (by omega)) (by rw [List.length_append, rb_length]; omega)
      rw [branch_not (decide_eq_false (by omega)), branch_of (shortS_of (by omega))]
      simp only [List.cons_append, List.getElem?_cons_zero, List.set_cons_zero]
      rw [if_pos ⟨trivial, by rw [rb_length]; omega⟩, wrapS (by omega) (by omega), show ((i : Int) + 1) = ((i + 1 : Nat) : Int) by omega]
      rw [List.length_append] at ih
      rw [at_i hi1]
      simp only [catT, rb_append, ← List.append_assoc]
      simp only [List.append_assoc] at ih ⊢
      exact ih
theorem ltexts_true {l : List (List AV)} (hl : Txs l) : ∃ F st, f6.run F [.sl 1 false l] ⟨[], []⟩ = some (.ret (.bool true), st) := by
  refine ⟨l.length + 1, ?_⟩
  rw [ltexts_run]
  by_cases h6 : 200 < l.length
  · rw [branch_of (decide_eq_true (by omega))]; exact ⟨_, rfl⟩
  have hil := intBytes_length l.length
  rw [branch_not (decide_eq_false (by omega)), branch_of (by simp [i64B]; omega), show (0 : Int) = ((0 : Nat) : Int) from rfl]
  have hl2 := lt_loop (l.length + 1) 0 (Cont.block 0 (Cont.then (f6_r0.run (l.length + 1) (f6.leaveK Fun.done)) (f6.leaveK Fun.done))) l hl (by omega) l.length 0 (l.length + 1) (rb (intBytes l.length)) [] (by omega) (by omega) (fun j hj => by omega) (by rw [rb_length]; omega)
  rw [rb_length] at hl2
  rcases hl2 with ⟨st, h⟩ | ⟨h1, st, h⟩
  · rw [h, lt_ret]; exact ⟨_, rfl⟩
  · have hf : fitT (Br.sl false l) = true := by simp only [fitT, Br.list, h1, Bool.true_and]; exact decide_eq_true (by omega)
    have e : rb (intBytes (l.length : Int)) ++ rb (catT ((sR l).drop 0)) = rb (textsBytes (sR l)) := by rw [List.drop_zero, textsBytes, rb_append, sR_length]
    rw [h, lt_out, e, branch_of hf]
    simp only [Br.list]
    rw [branch_of (pair_same (f' := false) (okR_rb (textsBytes_lt h1 (by omega))) (by rw [rb_length]; exact textsBytes_length h1 (by omega))), sameRows_iff.mpr rfl]
    exact ⟨_, rfl⟩
theorem ltexts_law (as0 : List AV) (sh0 : Ty.Shape (.sl .str 16) as0) : ∃ F st, f6.run F [Ty.AV' (.sl .str 16) as0] ⟨[], []⟩ = some (.ret (.bool true), st) := by
  rcases texts_shape sh0 with rfl | ⟨l, rfl, hl⟩
  · exact ⟨20, _, ltexts_nil⟩
  · exact ltexts_true hl
end Go.Proofs.Ytjdpfblmhahfkaa.V
