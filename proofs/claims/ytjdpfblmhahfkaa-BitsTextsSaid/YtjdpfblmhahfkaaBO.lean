/- Bits: a reader's next text, and the next count. -/
import Derived.Test.YtjdpfblmhahfkaaBN
set_option linter.unusedVariables false
namespace Go.Proofs.Ytjdpfblmhahfkaa.V
open Go Go.V Go.RowKit

/-- Bytes as a text. -/
def txt (l : List Nat) : ByteArray := textOf (l.map fun (b : Nat) => (b : Int))
theorem foldl_push (l : List Nat) : ∀ r : ByteArray, ((l.map fun (b : Nat) => (b : Int)).foldl (fun r n => r.push (UInt8.ofNat n.toNat)) r).data.toList = r.data.toList ++ l.map fun (b : Nat) => UInt8.ofNat b := by
  induction l with
  | nil => intro r; simp
  | cons b l ih =>
    intro r
    simp only [List.map_cons, List.foldl_cons, ih, Int.toNat_natCast]
    simp [ByteArray.push]
theorem own_txt {l : List Nat} (h : ∀ b ∈ l, b < 256) : own (txt l) = l := by
  unfold own txt textOf
  rw [foldl_push]
  simp only [show ByteArray.empty.data.toList = [] from rfl, List.nil_append, List.map_map]
  conv => rhs; rw [← List.map_id l]
  exact List.map_congr_left fun b hb => by
    simp only [Function.comp, UInt8.toNat_ofNat', id]
    exact Nat.mod_eq_of_lt (h b hb)
theorem own_inj {s t : ByteArray} (h : own s = own t) : s = t := by
  unfold own at h
  have h2 : s.data.toList = t.data.toList := List.map_inj_right (f := UInt8.toNat) (fun _ _ e => UInt8.toNat_inj.mp e) |>.mp h
  have h3 : s.data = t.data := Array.toList_inj.mp h2
  cases s; cases t; simp only at h3; rw [h3]
theorem own_lt (s : ByteArray) : ∀ b ∈ own s, b < 256 := by
  intro b hb
  obtain ⟨x, _, rfl⟩ := List.mem_map.mp hb
  exact x.toNat_lt
theorem txt_own (s : ByteArray) : txt (own s) = s := own_inj (own_txt (own_lt s))

/-- The text that bytes begin with, and how many bytes it has. -/
def getS (l : List Nat) : Option (ByteArray × Nat) :=
  match getN l with
  | none => none
  | some o => if o.1 < 0 ∨ ((l.length - o.2 : Nat) : Int) < o.1 then none else some (txt ((l.drop o.2).take o.1.toNat), o.2 + o.1.toNat)
/-- The number from 0 to most that bytes begin with. -/
def getC (most : Int) (l : List Nat) : Option (Int × Nat) :=
  match getN l with
  | none => none
  | some o => if o.1 < 0 ∨ most < o.1 then none else some o

theorem numsOf_ok {l : List (List AV)} (h : okR l = true) : numsOf l = some (iR l) := by
  conv => lhs; rw [okR_ri h]
  exact numsOf_map _

def noText : ByteArray := ByteArray.mk #[]
theorem f17_spec {p : AV} {st : St} {f : Bool} {l : List (List AV)} {put : AV → Bool → St} (h : rdAt p st = some (.sl f false l, put)) (hf : fit (.sl f l) = true) :
    f17.run 0 [p] st = match getS (nR l) with
      | none => some (.ret (.str noText), put .nilsl true)
      | some o => some (.ret (.str o.1), put (.sl 1 f (l.drop o.2)) false) := by
  obtain ⟨h1, h2⟩ := fit_spec hf
  rcases rdAt_eq h with ⟨rfl, os, hs, rfl⟩ | ⟨rfl, o, os, hs, rfl⟩
  all_goals rw [hs]; simp only [Rd.cells]
  · rw [rdtext_run0, branch_of hf, getS]
    cases hg : getN (nR l) with
    | none => rfl
    | some o =>
      obtain ⟨n, k⟩ := o
      simp only [onSome, List.length_drop, nR_length]
      by_cases hn : n < 0
      · rw [branch_of (by simpa using hn), if_pos (.inl hn)]; rfl
      · rw [branch_not (by simpa using hn)]
        by_cases hm : ((l.length - k : Nat) : Int) < n
        · rw [branch_of (by simpa using hm), if_pos (.inr hm)]; rfl
        · rw [branch_not (by simpa using hm), if_pos (by omega), if_neg (by omega), List.drop_zero, numsOf_ok (okR_take (okR_drop (l := l) h1 _) _)]
          simp only
          rw [if_pos (by omega), show (List.take (l.length - k) (List.drop k l)) = List.drop k l from List.take_of_length_le (by simp)]
          simp only [Nat.beq_refl, Bool.and_true, List.drop_drop, iR, nR_take, nR_drop, txt]
  · rw [rdtext_run1, branch_of hf, getS]
    cases hg : getN (nR l) with
    | none => rfl
    | some o =>
      obtain ⟨n, k⟩ := o
      simp only [onSome, List.length_drop, nR_length]
      by_cases hn : n < 0
      · rw [branch_of (by simpa using hn), if_pos (.inl hn)]; rfl
      · rw [branch_not (by simpa using hn)]
        by_cases hm : ((l.length - k : Nat) : Int) < n
        · rw [branch_of (by simpa using hm), if_pos (.inr hm)]; rfl
        · rw [branch_not (by simpa using hm), if_pos (by omega), if_neg (by omega), List.drop_zero, numsOf_ok (okR_take (okR_drop (l := l) h1 _) _)]
          simp only
          rw [if_pos (by omega), show (List.take (l.length - k) (List.drop k l)) = List.drop k l from List.take_of_length_le (by simp)]
          simp only [Nat.beq_refl, Bool.and_true, List.drop_drop, iR, nR_take, nR_drop, txt]
theorem f17_nil {p : AV} {st : St} {b : Bool} {put : AV → Bool → St} (h : rdAt p st = some (.nil b, put)) : f17.run 0 [p] st = some (.ret (.str noText), put .nilsl true) := by
  rcases rdAt_eq h with ⟨rfl, os, hs, rfl⟩ | ⟨rfl, o, os, hs, rfl⟩
  all_goals rw [hs]; simp only [Rd.cells]
  · rw [rdtext_nil0]; rfl
  · rw [rdtext_nil1]; rfl
/-- Reader.Text. -/
noncomputable def q17 : OrcS Try.prog := f17.cps
  (fun args st k => match args with
    | [p] => match rdAt p st with
      | some (.nil _, put) => k (.ret (.str noText)) (put .nilsl true)
      | some (.sl f false l, put) => match fit (.sl f l) with
        | true => match getS (nR l) with
          | none => k (.ret (.str noText)) (put .nilsl true)
          | some o => k (.ret (.str o.1)) (put (.sl 1 f (l.drop o.2)) false)
        | false => none
      | _ => none
    | _ => none)
  fun args st k fin h => by
    split at h
    · split at h
      · rename_i h1; exact ⟨_, _, h, 0, f17_nil h1⟩
      · rename_i h1
        split at h
        · rename_i h2
          have := f17_spec h1 h2
          split at h
          · rename_i h3; rw [h3] at this; exact ⟨_, _, h, 0, this⟩
          · rename_i h3; rw [h3] at this; exact ⟨_, _, h, 0, this⟩
        · cases h
      · cases h
    · cases h

theorem f28_spec {st : St} {f : Bool} {l : List (List AV)} {n : Int} {put : AV → Bool → St} (h : rdAt (.ptr 0 0) st = some (.sl f false l, put)) (hf : fit (.sl f l) = true) :
    f28.run 0 [.ptr 0 0, .int .i64 n] st = match getC n (nR l) with
      | none => some (.ret (.int .i64 0), put .nilsl true)
      | some o => some (.ret (.int .i64 o.1), put (.sl 1 f (l.drop o.2)) false) := by
  rcases rdAt_eq h with ⟨_, os, hs, rfl⟩ | ⟨h3, o, os, hs, rfl⟩
  · rw [hs]; simp only [Rd.cells]
    rw [rdcount_run0, branch_of hf, getC]
    cases hg : getN (nR l) with
    | none => simp only [onSome]; cases decide (0 > n) <;> rfl
    | some o =>
      obtain ⟨m, k⟩ := o
      simp only [onSome]
      by_cases hn : m < 0
      · rw [branch_of (by simpa using hn), if_pos (.inl hn)]
      · rw [branch_not (by simpa using hn)]
        by_cases hm : n < m
        · rw [branch_of (by simpa using hm), if_pos (.inr hm)]
        · rw [branch_not (by simpa using hm), if_neg (by omega)]
  · cases h3
theorem f28_nil {st : St} {b : Bool} {n : Int} {put : AV → Bool → St} (h : rdAt (.ptr 0 0) st = some (.nil b, put)) : f28.run 0 [.ptr 0 0, .int .i64 n] st = some (.ret (.int .i64 0), put .nilsl true) := by
  rcases rdAt_eq h with ⟨_, os, hs, rfl⟩ | ⟨h3, o, os, hs, rfl⟩
  · rw [hs]; simp only [Rd.cells]
    rw [rdcount_nil0]
    cases decide (0 > n) <;> rfl
  · cases h3
/-- Reader.Count. -/
noncomputable def q28 : OrcS Try.prog := f28.cps
  (fun args st k => match args with
    | [.ptr 0 0, .int .i64 n] => match rdAt (.ptr 0 0) st with
      | some (.nil _, put) => k (.ret (.int .i64 0)) (put .nilsl true)
      | some (.sl f false l, put) => match fit (.sl f l) with
        | true => match getC n (nR l) with
          | none => k (.ret (.int .i64 0)) (put .nilsl true)
          | some o => k (.ret (.int .i64 o.1)) (put (.sl 1 f (l.drop o.2)) false)
        | false => none
      | _ => none
    | _ => none)
  fun args st k fin h => by
    split at h
    · split at h
      · rename_i h1; exact ⟨_, _, h, 0, f28_nil h1⟩
      · rename_i h1
        split at h
        · rename_i h2
          split at h
          · rename_i h3; exact ⟨_, _, h, 0, by rw [f28_spec h1 h2, h3]⟩
          · rename_i h3; exact ⟨_, _, h, 0, by rw [f28_spec h1 h2, h3]⟩
        · cases h
      · cases h
    · cases h
end Go.Proofs.Ytjdpfblmhahfkaa.V
