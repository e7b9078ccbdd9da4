/- Bits: BitsOne and BitsShort are true. -/
import Derived.Test.YtjdpfblmhahfkaaBG
import Derived.Test.YtjdpfblmhahfkaaVE
set_option linter.unusedVariables false
namespace Go.Proofs.Ytjdpfblmhahfkaa.V
open Go Go.V Go.RowKit

theorem encN_lt : ∀ (k u : Nat), u < 128 ^ (k + 1) → ∀ b ∈ encN k u, b < 256
  | 0, u, h, b, hb => by simp [encN] at hb; subst hb; omega
  | k + 1, u, h, b, hb => by
    rw [encN] at hb
    split at hb
    · simp at hb; subst hb; omega
    · rcases List.mem_cons.mp hb with rfl | hb
      · omega
      · exact encN_lt k (u / 128) (Nat.div_lt_of_lt_mul (by rw [Nat.pow_succ] at h; omega)) b hb
theorem intBytes_lt {n : Int} (h : i64B n = true) : ∀ b ∈ intBytes n, b < 256 := by
  obtain ⟨h1, h2⟩ := i64B_spec h
  exact encN_lt 9 _ (Nat.lt_trans (foldN_lt h1 h2) (by decide))
theorem i64B_size {s : ByteArray} (h : s.size < 140737488355328) : i64B (s.size : Int) = true := by simp [i64B]; omega
theorem textBytes_lt {s : ByteArray} (h : s.size < 140737488355328) : ∀ b ∈ textBytes s, b < 256 := by
  intro b hb
  rcases List.mem_append.mp hb with hb | hb
  · exact intBytes_lt (i64B_size h) b hb
  · exact own_lt s b hb
theorem nR_rb (l : List Nat) : nR (rb l) = l := nR_bR l
theorem okR_rb {l : List Nat} (h : ∀ b ∈ l, b < 256) : okR (rb l) = true := okR_bR h
theorem rb_take (l : List Nat) (n : Nat) : (rb l).take n = rb (l.take n) := bR_take n l
theorem rb_drop (l : List Nat) (n : Nat) : (rb l).drop n = rb (l.drop n) := bR_drop n l
theorem take_lt {l : List Nat} (h : ∀ b ∈ l, b < 256) (n : Nat) : ∀ b ∈ l.take n, b < 256 := fun b hb => h b (List.mem_of_mem_take hb)
theorem drop_lt {l : List Nat} (h : ∀ b ∈ l, b < 256) (n : Nat) : ∀ b ∈ l.drop n, b < 256 := fun b hb => h b (List.mem_of_mem_drop hb)
theorem fit_of {f : Bool} {l : List (List AV)} (h : okR l = true) (hl : l.length < 140737488355328) : fit (.sl f l) = true := by
  simp [fit, Br.list, h, hl]
theorem getS_enc {s : ByteArray} (h : s.size < 140737488355328) (r : List Nat) : getS (textBytes s ++ r) = some (s, (textBytes s).length) := by
  unfold getS
  rw [textBytes, List.append_assoc, getN_enc (by omega) (by omega)]
  simp only [List.length_append, own_length]
  rw [if_neg (by omega), List.drop_left, Int.toNat_natCast, List.take_append_of_le_length (by rw [own_length]; omega), List.take_of_length_le (by rw [own_length]; omega), txt_own]
theorem getS_short {s : ByteArray} (h : s.size < 140737488355328) {c : Nat} (hc : c < (textBytes s).length) : getS ((textBytes s).take c) = none := by
  have hc2 := hc
  simp only [textBytes, List.length_append, own_length] at hc2
  unfold getS
  by_cases h1 : c < (intBytes s.size).length
  · rw [textBytes, List.take_append_of_le_length (by omega), getN_short _ h1]
  · rw [textBytes, List.take_append, List.take_of_length_le (l := intBytes s.size) (by omega), getN_enc (by omega) (by omega)]
    simp only [List.length_append, List.length_take, own_length]
    rw [if_pos (by omega)]

/-- A law's bytes. -/
theorem bytes_shape {xs : List AV} (h : Ty.Shape (.sl (.int .u8) 1) xs) : xs = [.nilsl] ∨ ∃ l, xs = [.sl 1 false l] ∧ okR l = true ∧ l.length < 140737488355328 := by
  rcases h with h | ⟨l, h1, h2, h3, h4⟩
  · exact .inl h
  · refine .inr ⟨l, h1, List.all_eq_true.mpr fun r hr => ?_, by rw [Nat.mul_one] at h2; exact Nat.lt_of_le_of_lt h2 (by decide)⟩
    obtain ⟨n, rfl, hn⟩ := h4 r hr
    simp only [Lit.wf, IntKind.min, IntKind.max, IntKind.signed, IntKind.bits] at hn
    simp only [isByte, Bool.and_eq_true, decide_eq_true_eq]
    simp at hn
    omega

theorem one_true {l : List (List AV)} (hl : okR l = true) : ∃ st, f3.run 20 [.sl 1 false l] ⟨[], []⟩ = some (.ret (.bool true), st) := by
  rw [one_run]
  by_cases h5 : (500 : Int) < l.length
  · rw [branch_of (by simpa using h5)]; exact ⟨_, rfl⟩
  · rw [branch_not (by simpa using h5), branch_of (fit_of hl (by omega)), branch_of (fit_of hl (by omega))]
    cases hg : getN (nR l) with
    | none => exact ⟨_, rfl⟩
    | some o =>
      obtain ⟨n, k⟩ := o
      obtain ⟨e1, e2, e3, e4, e5, e6⟩ := getN_back (fun b hb => okR_lt hl hb) hg
      rw [nR_length] at e3
      have hn : i64B n = true := by simp [i64B]; omega
      have hw : IntKind.i64.wrap ((l.length : Int) - ((List.drop k l).length : Int)) = (k : Int) := by rw [List.length_drop, wrapS (by omega) (by omega)]; omega
      have hrow : rb (intBytes n) = l.take k := by
        rw [e1]
        conv => rhs; rw [okR_rows hl]
        rw [bR_take]; rfl
      simp only [onSome, hw, Int.toNat_natCast, List.drop_zero, Br.list, hrow]
      rw [branch_of hn, if_pos (by omega), branch_of (by rw [fit_of (okR_take hl k) (by simp; omega), okR_take hl k]; rfl), sameRows_iff.mpr rfl]
      exact ⟨_, rfl⟩
theorem one_law (as0 : List AV) (sh0 : Ty.Shape (.sl (.int .u8) 1) as0) : ∃ F st, f3.run F [Ty.AV' (.sl (.int .u8) 1) as0] ⟨[], []⟩ = some (.ret (.bool true), st) := by
  rcases bytes_shape sh0 with rfl | ⟨l, rfl, h1, h2⟩
  · exact ⟨20, _, one_nil⟩
  · exact ⟨20, one_true h1⟩

theorem short_true {n cut : Int} {s : ByteArray} (hn : i64B n = true) : ∃ st, f4.run 20 [.int .i64 n, .str s, .int .i64 cut] ⟨[], []⟩ = some (.ret (.bool true), st) := by
  rw [short_run]
  by_cases h5 : (1000 : Int) < s.size
  · rw [branch_of (by simpa using h5)]; exact ⟨_, rfl⟩
  rw [branch_not (by simpa using h5)]
  by_cases hc : cut < 0
  · rw [branch_of (by simpa using hc)]; exact ⟨_, rfl⟩
  obtain ⟨c, rfl⟩ : ∃ c : Nat, cut = c := ⟨cut.toNat, by omega⟩
  have hs : s.size < 140737488355328 := by omega
  have hil : (intBytes n).length ≤ 10 := intBytes_length n
  have htl : (textBytes s).length ≤ 1010 := by have := intBytes_length s.size; simp only [textBytes, List.length_append, own_length]; omega
  have f1 : ∀ f, fit (.sl f (rb ((intBytes n).take c))) = true := fun f => fit_of (okR_rb (take_lt (intBytes_lt hn) c)) (by rw [rb_length]; simp; omega)
  have f2 : ∀ f, fit (.sl f (rb ((textBytes s).take c))) = true := fun f => fit_of (okR_rb (take_lt (textBytes_lt hs) c)) (by rw [rb_length]; simp; omega)
  simp only [rb_length, Int.toNat_natCast, List.drop_zero, rb_take, nR_rb]
  rw [branch_not (by simp), branch_of hn, branch_of (by simp [shortS]; omega)]
  by_cases h1 : c < (intBytes n).length
  · rw [branch_of (by simp; omega), if_pos (by omega), branch_of (f1 _), branch_of (f1 _), getN_short n h1]
    simp only [onSome]
    by_cases h2 : c < (textBytes s).length
    · rw [branch_of (by simp; omega), if_pos (by omega), branch_of (f2 _), branch_of (f2 _), getS_short hs h2]
      exact ⟨_, rfl⟩
    · rw [branch_not (by simp; omega)]
      exact ⟨_, rfl⟩
  · rw [branch_not (by simp; omega)]
    by_cases h2 : c < (textBytes s).length
    · rw [branch_of (by simp; omega), if_pos (by omega), branch_of (f2 _), branch_of (f2 _), getS_short hs h2]
      exact ⟨_, rfl⟩
    · rw [branch_not (by simp; omega)]
      exact ⟨_, rfl⟩
theorem i64_wf {n : Int} (h : (Lit.int .i64 n).wf = true) : i64B n = true := by
  simp only [Lit.wf, IntKind.min, IntKind.max, IntKind.signed, IntKind.bits] at h
  simp at h
  simp [i64B]; omega
theorem short_law (as0 as1 as2 : List AV) (sh0 : Ty.Shape (.int .i64) as0) (sh1 : Ty.Shape .str as1) (sh2 : Ty.Shape (.int .i64) as2) :
    ∃ F st, f4.run F [Ty.AV' (.int .i64) as0, Ty.AV' .str as1, Ty.AV' (.int .i64) as2] ⟨[], []⟩ = some (.ret (.bool true), st) := by
  obtain ⟨n, rfl, hn⟩ := sh0
  obtain ⟨s, rfl, hs⟩ := sh1
  obtain ⟨c, rfl, hc⟩ := sh2
  exact ⟨20, short_true (i64_wf hn)⟩
end Go.Proofs.Ytjdpfblmhahfkaa.V
