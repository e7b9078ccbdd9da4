/- Merged out of 19 texts: what the claim's code comes to, and why. -/
import Derived.Test.YtblliolkgkgppaaR44
/- Page: what is asked of a page, as callees. -/
set_option linter.unusedVariables false
namespace Go.Proofs.Ytblliolkgkgppaa.V
open Go Go.V Go.RowKit

theorem ofP_some {p : List Nat} {s : Sl} (h : ofP p = some s) : p.length = 256 ∧ decL ((p.take (1 + p.headD 0)).drop 1) 256 p = some s ∧ pgOk s = true ∧ pgB s = p ∧ trm s = true := by
  unfold ofP at h
  cases hl : p.length == 256 with
  | false => rw [hl] at h; cases h
  | true =>
    rw [hl] at h
    simp only [cond_true] at h
    split at h
    · rename_i t ht
      cases hf : fine t p with
      | false => rw [hf] at h; cases h
      | true =>
        rw [hf] at h
        simp only [cond_true, Option.some.injEq] at h
        subst h
        simp only [fine, Bool.and_eq_true, beq_iff_eq] at hf
        exact ⟨by simpa using hl, ht, hf.1, hf.2.1, hf.2.2⟩
    · cases h
theorem okSl_of {p : List Nat} (hp : ∀ b ∈ p, b < 256) {s : Sl} (h : ofP p = some s) : okSl s := by
  obtain ⟨h1, h2, h3, _⟩ := ofP_some h
  obtain ⟨m1, m2, m3⟩ := mem_decL h2
  obtain ⟨k1, k2⟩ := pgOk_iff.mp h3
  refine ⟨fun b hb => ⟨fun x hx => hp x (m3 b hb x hx), ?_⟩, by rw [szN] at k1; omega⟩
  have : b.length ≤ 200 := k2 _ hb
  omega
theorem okSl_nil : okSl [] := ⟨fun b hb => (by cases hb), by simp⟩
theorem okSl_ofS {p : List Nat} (hp : ∀ b ∈ p, b < 256) : okSl (ofS p) := by
  unfold ofS
  cases h : ofP p with
  | none => exact okSl_nil
  | some s => exact okSl_of hp h
theorem szN_ofS (p : List Nat) : szN (ofS p) ≤ 256 := by
  unfold ofS
  cases h : ofP p with
  | none => decide
  | some s => exact (pgOk_iff.mp (ofP_some h).2.2.1).1
theorem len_ofS (p : List Nat) : (ofS p).length ≤ 255 := by have := szN_ofS p; rw [szN] at this; omega
theorem ofA_eq (p : List Nat) : ofA p = sA (ofS p) := by rw [ofA, opq_eq]
theorem ofA_len (p : List Nat) : (ofA p).length = (ofS p).length := by rw [ofA_eq, sA_length]

/-- Bytes, or none. -/
noncomputable def oB (o : Option (List Nat)) : Bool := opq o.isSome
noncomputable def oR (o : Option (List Nat)) : List (List AV) := opq (bR (o.getD []))
noncomputable def oV (o : Option (List Nat)) : AV := .tup [.ns (!oB o) 1 (oR o), .bool (oB o)]
theorem oB_none : oB none = false := by rw [oB, opq_eq]; rfl
theorem oB_some (b : List Nat) : oB (some b) = true := by rw [oB, opq_eq]; rfl
theorem oR_none : oR none = [] := by rw [oR, opq_eq]; rfl
theorem oR_some (b : List Nat) : oR (some b) = bR b := by rw [oR, opq_eq]; rfl
theorem oV_none : Wk (.tup [.nilsl, .bool false]) (oV none) := by
  rw [oV, oB_none, oR_none]; exact .tup (.cons .nil (.cons (.refl _) .nil))
theorem oV_some {f : Bool} (b : List Nat) : Wk (.tup [.sl 1 f (bR b), .bool true]) (oV (some b)) := by
  rw [oV, oB_some, oR_some]; exact .tup (.cons .sl (.cons (.refl _) .nil))
def getP (s : Sl) (i : Int) : Option (List Nat) := if 0 ≤ i then (s[i.toNat]?).join else none
theorem rowA_at {s : Sl} {i : Nat} (h : i < s.length) : V.rowAt (sA s) (i : Int) = rowS s[i] := by
  rw [rowAt_nat (by rw [sA_length]; exact h)]; simp [sA]
noncomputable def p15 : POrc Try.prog := f15.farW
  (fun args k => match args with
    | [x, .int .i64 i] => onNs 1 x fun _ l => ifT (byOk l) (k (oV (getP (ofS (nR l)) i)))
    | _ => none)
  fun args k fin h => by
    split at h
    · rename_i x i
      obtain ⟨z, l, h, hx⟩ := onNs_spec h
      obtain ⟨h1, h⟩ := ifT_spec h
      have hb := byOk_iff.mp h1
      refine ⟨_, _, h, .cons hx (.cons (.refl _) .nil), ⟨okR_scoped hb.1, trivial, trivial⟩, 0, ?_⟩
      rw [get_run, branch_of h1]
      by_cases h0 : i < 0
      · refine ⟨_, ⟨[], []⟩, branch_of (by simpa using h0), ⟨trivial, trivial, trivial⟩, ?_⟩
        rw [show getP (ofS (nR l)) i = none by rw [getP, if_neg (by omega)]]
        exact oV_none
      · obtain ⟨n, rfl⟩ := Int.eq_ofNat_of_zero_le (by omega : 0 ≤ i)
        rw [branch_not (by simp)]
        by_cases hn : (ofS (nR l)).length ≤ n
        · refine ⟨_, ⟨[], []⟩, branch_of (by rw [ofA_len]; simpa using hn), ⟨trivial, trivial, trivial⟩, ?_⟩
          rw [show getP (ofS (nR l)) (n : Int) = none by rw [getP, if_pos (by omega), Int.toNat_natCast, List.getElem?_eq_none hn]; rfl]
          exact oV_none
        · have hlt : n < (ofS (nR l)).length := by omega
          have hg : getP (ofS (nR l)) (n : Int) = (ofS (nR l))[n] := by rw [getP, if_pos (by omega), Int.toNat_natCast, List.getElem?_eq_getElem hlt]; rfl
          have hi : inR (ofA (nR l)) (n : Int) = true := inR_nat (by rw [ofA_len]; exact hlt)
          have hr : V.rowAt (ofA (nR l)) (n : Int) = rowS (ofS (nR l))[n] := by rw [ofA_eq, rowA_at hlt]
          rw [branch_not (by rw [ofA_len]; simp; omega), branch_of hi, hr, hg]
          cases (ofS (nR l))[n] with
          | none => exact ⟨_, ⟨[], []⟩, rfl, ⟨trivial, trivial, trivial⟩, oV_none⟩
          | some b =>
            refine ⟨.tup [.ns false 1 (bR b), .bool true], ⟨[], []⟩, ?_, ⟨?_, trivial, trivial⟩, ?_⟩
            · rw [branch_of (show (LD.one (LT.ns 1)).is (rowS (some b)) = true from rfl), branch_not (show nilA (rowS (some b)) = false from rfl), branch_of hi, branch_of (show (LD.one (LT.ns 1)).is (rowS (some b)) = true from rfl)]
              rfl
            · simp only [hard]; rw [hardR_id _ _ (bR_scoped b)]; exact bR_scoped b
            · simp only [hard, hardL]
              rw [hardR_id _ _ (bR_scoped b), oV, oB_some, oR_some]
              exact .refl _
    · cases h
theorem p15_nat : p15.Nat := by
  intro args k
  show (match args with | [x, .int .i64 i] => _ | _ => _) = thenA (match args with | [x, .int .i64 i] => _ | _ => _) k
  split
  · exact onNs_nat fun _ _ => ifT_nat rfl
  · rfl
noncomputable def ofBo (p : List Nat) : Bool := opq (ofB p)
noncomputable def p16 : POrc Try.prog := f16.farN
  (fun args k => match args with
    | [x] => onNs 1 x fun _ l => ifT (byOk l) (k (.bool (ofBo (nR l))))
    | _ => none)
  fun args k fin h => by
    split at h
    · rename_i x
      obtain ⟨z, l, h, hx⟩ := onNs_spec h
      obtain ⟨h1, h⟩ := ifT_spec h
      exact ⟨_, _, h, .cons hx .nil, ⟨okR_scoped (byOk_iff.mp h1).1, trivial⟩, trivial, 0, .bool (ofBo (nR l)), ⟨[], []⟩, rfl, by rw [right_run, branch_of h1, ofBo, opq_eq]⟩
    · cases h
theorem p16_nat : p16.Nat := by
  intro args k
  show (match args with | [x] => _ | _ => _) = thenA (match args with | [x] => _ | _ => _) k
  split
  · exact onNs_nat fun _ _ => ifT_nat rfl
  · rfl

/-! ### Room -/
def roomI (s : Sl) : Int :=
  let m : Int := if s.any (·.isNone) then 0 else 1
  let n : Int := min (256 - (szN s : Int) - m) 200
  if n < 0 ∨ (250 < s.length ∧ 0 < m) then -1 else n
noncomputable def roomP (p : List Nat) : Int := opq (if ofB p then roomI (ofS p) else 0)
theorem any_free (s : Sl) : (sA s).any (prd 27) = s.any (·.isNone) := by
  rw [sA, List.any_map]
  congr 1
  funext o
  cases o <;> rfl
theorem leastI_min (a b : Int) : leastI false a b = min a b := by
  unfold leastI
  simp only
  split
  · rw [Int.min_eq_right (by omega)]
  · rw [Int.min_eq_left (by omega)]
noncomputable def p14 : POrc Try.prog := f14.farN
  (fun args k => match args with
    | [x] => onNs 1 x fun _ l => ifT (byOk l) (k (.int .i64 (roomP (nR l))))
    | _ => none)
  fun args k fin h => by
    split at h
    · rename_i x
      obtain ⟨z, l, h, hx⟩ := onNs_spec h
      obtain ⟨h1, h⟩ := ifT_spec h
      have hb := byOk_iff.mp h1
      refine ⟨_, _, h, .cons hx .nil, ⟨okR_scoped hb.1, trivial⟩, trivial, 0, .int .i64 (roomP (nR l)), ⟨[], []⟩, rfl, ?_⟩
      have hok : okS (ofA (nR l)) = true := by rw [ofA_eq]; exact okS_sA (okSl_ofS fun b hb' => okR_lt hb.1 hb')
      have hs := szN_ofS (nR l)
      have hz : szN (sR (ofA (nR l))) = szN (ofS (nR l)) := by rw [ofA_eq, sR_sA]
      have hf : (okS (ofA (nR l)) && fit (szN (sR (ofA (nR l))))) = true := by rw [hok, hz, Bool.true_and, fit_iff]; omega
      have w (c : Int) (hc : 0 ≤ c) (hc2 : c ≤ 1) : IntKind.i64.wrap (IntKind.i64.wrap ((256 : Int) - (szN (ofS (nR l)) : Int)) - c) = 256 - (szN (ofS (nR l)) : Int) - c := by
        rw [wrapS (n := 256 - (szN (ofS (nR l)) : Int)) (by omega) (by omega), wrapS (by omega) (by omega)]
      rw [room_run, branch_of h1, roomP, opq_eq]
      cases hB : ofB (nR l) with
      | false => rw [branch_of (b := !false) rfl]; rfl
      | true =>
        rw [branch_not (b := !true) rfl, branch_of (by rw [hok]; rfl), if_pos rfl, roomI, hz, ofA_len]
        rw [show (ofA (nR l)).any (prd (27 : FuncId)) = (ofS (nR l)).any (·.isNone) by rw [ofA_eq]; exact any_free _]
        rw [hz] at hf
        cases (ofS (nR l)).any (·.isNone) with
        | true =>
          rw [branch_true, branch_of hf, w 0 (by omega) (by omega), leastI_min]
          simp only [if_true]
          by_cases hn : min (256 - (szN (ofS (nR l)) : Int) - 0) 200 < 0
          · rw [branch_of (by simpa using hn), if_pos (.inl hn)]
          · rw [branch_not (by simpa using hn), if_neg (by omega), branch_ite]
            split <;> rfl
        | false =>
          rw [branch_false, branch_of hf, w 1 (by omega) (by omega), leastI_min]
          simp only [Bool.false_eq_true, if_false]
          by_cases hn : min (256 - (szN (ofS (nR l)) : Int) - 1) 200 < 0
          · rw [branch_of (by simpa using hn), if_pos (.inl hn)]
          · rw [branch_not (by simpa using hn)]
            by_cases h2 : 250 < (ofS (nR l)).length
            · rw [branch_of (by simp; omega), if_pos (.inr ⟨h2, by omega⟩)]
            · rw [branch_not (by simp; omega), if_neg (by omega)]
    · cases h
theorem p14_nat : p14.Nat := by
  intro args k
  show (match args with | [x] => _ | _ => _) = thenA (match args with | [x] => _ | _ => _) k
  split
  · exact onNs_nat fun _ _ => ifT_nat rfl
  · rfl

/-! ### Slots -/
def slotsI : Sl → Nat → List Nat
  | [], _ => []
  | none :: s, i => slotsI s (i + 1)
  | some _ :: s, i => i :: slotsI s (i + 1)
/-- Numbers as rows. -/
def iR (l : List Nat) : List (List AV) := l.map fun (n : Nat) => [.int .i64 (n : Int)]
theorem iR_append (a b : List Nat) : iR (a ++ b) = iR a ++ iR b := by simp [iR]
theorem iR_length (a : List Nat) : (iR a).length = a.length := by simp [iR]
theorem iR_scoped {n m : Nat} (l : List Nat) : ScopedR n m (iR l) := by
  induction l with
  | nil => trivial
  | cons x l ih => exact ⟨⟨trivial, trivial⟩, ih⟩
def iV (l : List Nat) : AV := match l with
  | [] => .nilsl
  | _ => .lg 0 1 (iR l)
def iT (l : List Nat) : List (Nat × Nat) := match l with
  | [] => []
  | _ => [(1, (iR l).length)]
theorem iV_snoc (l : List Nat) (x : Nat) : iV (l ++ [x]) = .lg 0 1 (iR l ++ [[.int .i64 (x : Int)]]) ∧ iT (l ++ [x]) = [(1, (iR l).length + 1)] := by
  cases l <;> simp [iV, iT, iR]
theorem slots_loop (F : Nat) (z : Bool) (s : Sl) (hs : s.length ≤ 255) : ∀ (k m i : Nat) (l : List Nat), i + k = s.length → k < m → l.length ≤ i →
    loopRun (f17_l0.run F) [5, 13, 14, 15] (Cont.block 0 (Cont.then (f17_r0.run F (f17.leaveK Fun.done)) (f17.leaveK Fun.done))) m (Env.mk 28 [(5, iV l), (13, .ns z 1 (sA s)), (14, .int .i64 (s.length : Int)), (15, .int .i64 (i : Int))]) ⟨[], iT l⟩
      = some (.ret (iV (l ++ slotsI (s.drop i) i)), ⟨[], iT (l ++ slotsI (s.drop i) i)⟩)
  | k, 0, i, l, hi, hm, hl => by omega
  | 0, m + 1, i, l, hi, hm, hl => by
    rw [List.drop_eq_nil_of_le (by omega), slotsI, List.append_nil]
    cases l with
    | nil => simp only [iV, iT]; rw [show m + 1 = m.succ from rfl, slots_round0, branch_not (by simp; omega), slots_out]
    | cons x l => simp only [iV, iT]; rw [show m + 1 = m.succ from rfl, slots_round, branch_not (by simp; omega), slots_out]
  | k + 1, m + 1, i, l, hi, hm, hl => by
    have h1 : i < s.length := by omega
    have hin : inR (sA s) (i : Int) = true := inR_nat (by rw [sA_length]; exact h1)
    have w0 : IntKind.i64.wrap ((i : Int) + 1) = ((i + 1 : Nat) : Int) := wrap_succ (by omega)
    rw [drop_at h1]
    have hrow := rowA_at h1
    obtain ⟨n1, n2⟩ := iV_snoc l i
    cases ho : s[i] with
    | none =>
      rw [ho] at hrow
      rw [slotsI, ← slots_loop F z s hs k m (i + 1) l (by omega) (by omega) (by omega)]
      cases l with
      | nil => simp only [iV, iT]; rw [show m + 1 = m.succ from rfl, slots_round0, branch_of (by simpa using h1), branch_of hin, hrow, w0]; rfl
      | cons x l => simp only [iV, iT]; rw [show m + 1 = m.succ from rfl, slots_round, branch_of (by simpa using h1), branch_of hin, hrow, w0]; rfl
    | some b =>
      rw [ho] at hrow
      have ih := slots_loop F z s hs k m (i + 1) (l ++ [i]) (by omega) (by omega) (by rw [List.length_append, List.length_singleton]; omega)
      rw [List.append_assoc, List.singleton_append] at ih
      rw [slotsI, ← ih, n1, n2]
      cases l with
      | nil => simp only [iV, iT]; rw [show m + 1 = m.succ from rfl, slots_round0, branch_of (by simpa using h1), branch_of hin, hrow, w0]; rfl
      | cons x l =>
        simp only [iV, iT]
        rw [show m + 1 = m.succ from rfl, slots_round, branch_of (by simpa using h1), branch_of hin, hrow, w0, if_pos ⟨rfl, by rw [iR_length]; omega⟩]
        rfl
noncomputable def slotsA (p : List Nat) : List (List AV) := opq (iR (slotsI (ofS p) 0))
noncomputable def slotsE (p : List Nat) : Bool := opq (slotsI (ofS p) 0).isEmpty
noncomputable def p17 : POrc Try.prog := f17.farW
  (fun args k => match args with
    | [x] => onNs 1 x fun _ l => ifT (byOk l) (k (.ns (slotsE (nR l)) 1 (slotsA (nR l))))
    | _ => none)
  fun args k fin h => by
    split at h
    · rename_i x
      obtain ⟨z, l, h, hx⟩ := onNs_spec h
      obtain ⟨h1, h⟩ := ifT_spec h
      have hl := slots_loop 300 (ofS (nR l)).isEmpty (ofS (nR l)) (len_ofS _) (ofS (nR l)).length 300 0 [] (by omega) (by have := len_ofS (nR l); omega) (by simp)
      rw [List.drop_zero, List.nil_append] at hl
      refine ⟨_, _, h, .cons hx .nil, ⟨okR_scoped (byOk_iff.mp h1).1, trivial⟩, 300, iV (slotsI (ofS (nR l)) 0), ⟨[], iT (slotsI (ofS (nR l)) 0)⟩, ?_, ?_, ?_⟩
      · rw [slots_run, branch_of h1, ofA_len, ofA_eq]
        exact hl
      · cases slotsI (ofS (nR l)) 0 with
        | nil => exact trivial
        | cons x s => simp only [iV, hard]; rw [hardR_id _ _ (iR_scoped _)]; exact iR_scoped _
      · rw [slotsE, slotsA, opq_eq, opq_eq]
        cases slotsI (ofS (nR l)) 0 with
        | nil => exact .nil
        | cons x s => simp only [iV, hard]; rw [hardR_id _ _ (iR_scoped _)]; exact .sl
    · cases h
theorem p17_nat : p17.Nat := by
  intro args k
  show (match args with | [x] => _ | _ => _) = thenA (match args with | [x] => _ | _ => _) k
  split
  · exact onNs_nat fun _ _ => ifT_nat rfl
  · rfl
end Go.Proofs.Ytblliolkgkgppaa.V

/- The functions' pieces, as told by gen.py. -/
set_option linter.unusedVariables false
set_option maxRecDepth 20000
namespace Go.Proofs.Ytblliolkgkgppaa.V
open Go Go.V Go.RowKit


/-! ### 11: interlock/page.Put (25, 3, 25); results 6, 7; slots: 0 p, 1 slot, 2 b, 3 p, 4 slot, 5 b, 8 s, 9 ok -/
noncomputable def f11_b : Sim Try.prog :=
  (.seq (.live [0, 1, 2] (.region 0 [
    ⟨(opAssign (some 6) (.const (Value.slice none 0 0)) 25 "page.go:109" #[]).op, none⟩,
    ⟨(opAssign (some 7) (.const (Value.bool false)) 4 "page.go:109" #[{ on := 0, ground := Ground.chain }]).op, none⟩
  ] (by kernel_rfl)))
  (.seq (.live [1, 2, 8, 9] (.region 1 [
    ⟨(opMove (some 11) (.tmp 0) 25 "page.go:110" #[]).op, none⟩,
    ⟨opCall (o21).orc (some 12) [(.tmp 11)] #[25] 45 "page.go:110" #[{ on := 0, ground := Ground.data }], none⟩,
    ⟨(opMove (some 10) (.tmp 12) 45 "page.go:110" #[{ on := 1, ground := Ground.data }]).op, none⟩,
    ⟨(opExtract (some 13) (.tmp 10) 0 44 "page.go:110" #[{ on := 2, ground := Ground.data }]).op, none⟩,
    ⟨(opExtract (some 14) (.tmp 10) 1 4 "page.go:110" #[{ on := 2, ground := Ground.data }, { on := 5, ground := (Ground.gcOnly Departure.lateStores) }]).op, none⟩,
    ⟨(opAssign (some 8) (.tmp 13) 44 "page.go:110" #[{ on := 3, ground := Ground.data }, { on := 1, ground := Ground.chain }, { on := 0, ground := Ground.phase }, { on := 1, ground := Ground.phase }, { on := 2, ground := Ground.phase }, { on := 3, ground := Ground.phase }, { on := 4, ground := (Ground.textOnly Departure.lateStores) }]).op, none⟩,
    ⟨(opAssign (some 9) (.tmp 14) 4 "page.go:110" #[{ on := 4, ground := Ground.data }, { on := 5, ground := Ground.chain }, { on := 0, ground := Ground.phase }, { on := 1, ground := Ground.phase }, { on := 2, ground := Ground.phase }, { on := 3, ground := Ground.phase }, { on := 4, ground := Ground.phase }, { on := 5, ground := Ground.phase }]).op, none⟩
  ] (by kernel_rfl)))
  (.seq (.seq (.live [1, 2, 8, 24] (.region 2 [
    ⟨(opMove (some 15) (.tmp 9) 4 "page.go:111" #[]).op, none⟩,
    ⟨(opNot (some 16) 4 (.tmp 15) 4 "page.go:111" #[{ on := 0, ground := Ground.data }]).op, none⟩,
    ⟨(opMove (some 17) (.tmp 16) 4 "page.go:111" #[{ on := 1, ground := Ground.data }]).op, none⟩,
    ⟨(opMove (some 18) (.tmp 1) 3 "page.go:111" #[{ on := 2, ground := Ground.guard }]).op, (some (2, 17, false))⟩,
    ⟨(opBin (some 19) .lss 3 (.tmp 18) (.const (Value.int IntKind.i64 0)) 3 4 "page.go:111" #[{ on := 3, ground := Ground.data }, { on := 2, ground := Ground.guard }]).op, (some (2, 17, false))⟩,
    ⟨(opPick (some 20) (.tmp 17) (.const (Value.bool true)) (.tmp 19) 4 "page.go:111" #[{ on := 2, ground := Ground.data }, { on := 4, ground := Ground.data }]).op, none⟩,
    ⟨(opMove (some 21) (.tmp 20) 4 "page.go:111" #[{ on := 5, ground := Ground.data }, { on := 2, ground := Ground.chain }]).op, none⟩,
    ⟨(opMove (some 22) (.tmp 1) 3 "page.go:111" #[{ on := 6, ground := Ground.guard }]).op, (some (6, 21, false))⟩,
    ⟨(opBin (some 23) .gtr 3 (.tmp 22) (.const (Value.int IntKind.i64 250)) 3 4 "page.go:111" #[{ on := 7, ground := Ground.data }, { on := 6, ground := Ground.guard }]).op, (some (6, 21, false))⟩,
    ⟨(opPick (some 24) (.tmp 21) (.const (Value.bool true)) (.tmp 23) 4 "page.go:111" #[{ on := 6, ground := Ground.data }, { on := 8, ground := Ground.data }]).op, none⟩
  ] (by kernel_rfl)))
  (.cond (.tmp 24)
    (.seq (.live [6, 7] (.region 3 [
      ⟨(opAssign (some 6) (.const (Value.slice none 0 0)) 25 "page.go:112" #[]).op, none⟩,
      ⟨(opAssign (some 7) (.const (Value.bool false)) 4 "page.go:112" #[{ on := 0, ground := Ground.chain }, { on := 0, ground := Ground.phase }]).op, none⟩
    ] (by kernel_rfl)))
    (.live [6, 7] .ret))
    .skip))
  (.seq (.live [6, 7] (.region 4 [
    ⟨(opMove (some 25) (.tmp 8) 44 "page.go:114" #[]).op, none⟩,
    ⟨(opMove (some 26) (.tmp 1) 3 "page.go:114" #[]).op, none⟩,
    ⟨(opBuildSlice (some 27) 25 0 [] 5 1 1 (.int .u8 0) el25 (by kernel_rfl) (by decide) 25 "page.go:114" #[]).op, none⟩,
    ⟨(opMove (some 28) (.tmp 2) 25 "page.go:114" #[]).op, none⟩,
    ⟨(opAppendF (some 29) (.tmp 27) (.tmp 28) 25 25 5 1 1 (.int .u8 0) el25 (.slice 5) Try.underlying25 rfl 25 "page.go:114" #[{ on := 2, ground := Ground.data }, { on := 3, ground := Ground.data }]).op, none⟩,
    ⟨opCall (o22).orc (some 30) [(.tmp 25), (.tmp 26), (.tmp 29)] #[44, 3, 25] 44 "page.go:114" #[{ on := 0, ground := Ground.data }, { on := 1, ground := Ground.data }, { on := 4, ground := Ground.data }, { on := 4, ground := Ground.chain }], none⟩,
    ⟨(opCallQ q23 (some 31) [(.tmp 30)] #[44] 30 "page.go:114" #[{ on := 5, ground := Ground.data }, { on := 5, ground := Ground.chain }]).op, none⟩,
    ⟨(opExtract (some 32) (.tmp 31) 0 25 "page.go:114" #[{ on := 6, ground := Ground.data }]).op, none⟩,
    ⟨(opExtract (some 33) (.tmp 31) 1 4 "page.go:114" #[{ on := 6, ground := Ground.data }]).op, none⟩,
    ⟨(opAssign (some 6) (.tmp 32) 25 "page.go:114" #[{ on := 7, ground := Ground.data }, { on := 6, ground := Ground.chain }, { on := 0, ground := Ground.phase }, { on := 1, ground := Ground.phase }, { on := 2, ground := Ground.phase }, { on := 3, ground := Ground.phase }, { on := 4, ground := Ground.phase }, { on := 5, ground := Ground.phase }, { on := 6, ground := Ground.phase }, { on := 7, ground := Ground.phase }, { on := 8, ground := Ground.phase }]).op, none⟩,
    ⟨(opAssign (some 7) (.tmp 33) 4 "page.go:114" #[{ on := 8, ground := Ground.data }, { on := 9, ground := Ground.chain }, { on := 0, ground := Ground.phase }, { on := 1, ground := Ground.phase }, { on := 2, ground := Ground.phase }, { on := 3, ground := Ground.phase }, { on := 4, ground := Ground.phase }, { on := 5, ground := Ground.phase }, { on := 6, ground := Ground.phase }, { on := 7, ground := Ground.phase }, { on := 8, ground := Ground.phase }, { on := 9, ground := Ground.phase }]).op, none⟩
  ] (by kernel_rfl)))
  (.live [6, 7] .ret)))))

noncomputable def f11 : Fun Try.prog where
  id := 11
  fn := Try.f11
  hf := Try.func11
  hname := by kernel_rfl
  body := f11_b
  hbody := by kernel_rfl
  res := [rTmp 6, rTmp 7]
  hres := by kernel_rfl
  n := 34
  hn := by kernel_rfl

/-! ### 18: interlock/page.Cut (25, 3); results 4, 5; slots: 0 p, 1 slot, 2 p, 3 slot, 6 _, 7 ok, 8 s, 9 _ -/
noncomputable def f18_b : Sim Try.prog :=
  (.seq (.live [0, 1] (.region 0 [
    ⟨(opAssign (some 4) (.const (Value.slice none 0 0)) 25 "page.go:135" #[]).op, none⟩,
    ⟨(opAssign (some 5) (.const (Value.bool false)) 4 "page.go:135" #[{ on := 0, ground := Ground.chain }]).op, none⟩
  ] (by kernel_rfl)))
  (.seq (.seq (.live [0, 1, 7] (.region 1 [
    ⟨(opMove (some 11) (.tmp 0) 25 "page.go:136" #[]).op, none⟩,
    ⟨(opMove (some 12) (.tmp 1) 3 "page.go:136" #[]).op, none⟩,
    ⟨(opCallP p15 (some 13) [(.tmp 11), (.tmp 12)] #[25, 3] 30 "page.go:136" #[{ on := 0, ground := Ground.data }, { on := 1, ground := Ground.data }]).op, none⟩,
    ⟨(opMove (some 10) (.tmp 13) 30 "page.go:136" #[{ on := 2, ground := Ground.data }]).op, none⟩,
    ⟨(opExtract (some 14) (.tmp 10) 0 25 "page.go:136" #[{ on := 3, ground := Ground.data }]).op, none⟩,
    ⟨(opExtract (some 15) (.tmp 10) 1 4 "page.go:136" #[{ on := 3, ground := Ground.data }, { on := 6, ground := (Ground.gcOnly Departure.lateStores) }]).op, none⟩,
    ⟨(opAssign (some 6) (.tmp 14) 25 "page.go:136" #[{ on := 4, ground := Ground.data }, { on := 2, ground := Ground.chain }, { on := 0, ground := Ground.phase }, { on := 1, ground := Ground.phase }, { on := 2, ground := Ground.phase }, { on := 3, ground := Ground.phase }, { on := 4, ground := Ground.phase }, { on := 5, ground := (Ground.textOnly Departure.lateStores) }]).op, none⟩,
    ⟨(opAssign (some 7) (.tmp 15) 4 "page.go:136" #[{ on := 5, ground := Ground.data }, { on := 6, ground := Ground.chain }, { on := 0, ground := Ground.phase }, { on := 1, ground := Ground.phase }, { on := 2, ground := Ground.phase }, { on := 3, ground := Ground.phase }, { on := 4, ground := Ground.phase }, { on := 5, ground := Ground.phase }, { on := 6, ground := Ground.phase }]).op, none⟩
  ] (by kernel_rfl)))
  (.seq (.live [0, 1, 17] (.region 2 [
    ⟨(opMove (some 16) (.tmp 7) 4 "page.go:136" #[]).op, none⟩,
    ⟨(opNot (some 17) 4 (.tmp 16) 4 "page.go:136" #[{ on := 0, ground := Ground.data }]).op, none⟩
  ] (by kernel_rfl)))
  (.cond (.tmp 17)
    (.seq (.live [4, 5] (.region 3 [
      ⟨(opAssign (some 4) (.const (Value.slice none 0 0)) 25 "page.go:137" #[]).op, none⟩,
      ⟨(opAssign (some 5) (.const (Value.bool false)) 4 "page.go:137" #[{ on := 0, ground := Ground.chain }, { on := 0, ground := Ground.phase }]).op, none⟩
    ] (by kernel_rfl)))
    (.live [4, 5] .ret))
    .skip)))
  (.seq (.live [1, 8] (.region 4 [
    ⟨(opMove (some 19) (.tmp 0) 25 "page.go:139" #[]).op, none⟩,
    ⟨opCall (o21).orc (some 20) [(.tmp 19)] #[25] 45 "page.go:139" #[{ on := 0, ground := Ground.data }], none⟩,
    ⟨(opMove (some 18) (.tmp 20) 45 "page.go:139" #[{ on := 1, ground := Ground.data }]).op, none⟩,
    ⟨(opExtract (some 21) (.tmp 18) 0 44 "page.go:139" #[{ on := 2, ground := Ground.data }]).op, none⟩,
    ⟨(opExtract (some 22) (.tmp 18) 1 4 "page.go:139" #[{ on := 2, ground := Ground.data }, { on := 5, ground := (Ground.gcOnly Departure.lateStores) }]).op, none⟩,
    ⟨(opAssign (some 8) (.tmp 21) 44 "page.go:139" #[{ on := 3, ground := Ground.data }, { on := 1, ground := Ground.chain }, { on := 0, ground := Ground.phase }, { on := 1, ground := Ground.phase }, { on := 2, ground := Ground.phase }, { on := 3, ground := Ground.phase }, { on := 4, ground := (Ground.textOnly Departure.lateStores) }]).op, none⟩,
    ⟨(opAssign (some 9) (.tmp 22) 4 "page.go:139" #[{ on := 4, ground := Ground.data }, { on := 5, ground := Ground.chain }, { on := 0, ground := Ground.phase }, { on := 1, ground := Ground.phase }, { on := 2, ground := Ground.phase }, { on := 3, ground := Ground.phase }, { on := 4, ground := Ground.phase }, { on := 5, ground := Ground.phase }]).op, none⟩
  ] (by kernel_rfl)))
  (.seq (.live [4, 5] (.region 5 [
    ⟨(opMove (some 23) (.tmp 8) 44 "page.go:140" #[]).op, none⟩,
    ⟨(opMove (some 24) (.tmp 1) 3 "page.go:140" #[]).op, none⟩,
    ⟨opCall (o22).orc (some 25) [(.tmp 23), (.tmp 24), (.const (Value.slice none 0 0))] #[44, 3, 25] 44 "page.go:140" #[{ on := 0, ground := Ground.data }, { on := 1, ground := Ground.data }], none⟩,
    ⟨(opCallQ q23 (some 26) [(.tmp 25)] #[44] 30 "page.go:140" #[{ on := 2, ground := Ground.data }, { on := 2, ground := Ground.chain }]).op, none⟩,
    ⟨(opExtract (some 27) (.tmp 26) 0 25 "page.go:140" #[{ on := 3, ground := Ground.data }]).op, none⟩,
    ⟨(opExtract (some 28) (.tmp 26) 1 4 "page.go:140" #[{ on := 3, ground := Ground.data }]).op, none⟩,
    ⟨(opAssign (some 4) (.tmp 27) 25 "page.go:140" #[{ on := 4, ground := Ground.data }, { on := 3, ground := Ground.chain }, { on := 0, ground := Ground.phase }, { on := 1, ground := Ground.phase }, { on := 2, ground := Ground.phase }, { on := 3, ground := Ground.phase }, { on := 4, ground := Ground.phase }, { on := 5, ground := Ground.phase }]).op, none⟩,
    ⟨(opAssign (some 5) (.tmp 28) 4 "page.go:140" #[{ on := 5, ground := Ground.data }, { on := 6, ground := Ground.chain }, { on := 0, ground := Ground.phase }, { on := 1, ground := Ground.phase }, { on := 2, ground := Ground.phase }, { on := 3, ground := Ground.phase }, { on := 4, ground := Ground.phase }, { on := 5, ground := Ground.phase }, { on := 6, ground := Ground.phase }]).op, none⟩
  ] (by kernel_rfl)))
  (.live [4, 5] .ret)))))

noncomputable def f18 : Fun Try.prog where
  id := 18
  fn := Try.f18
  hf := Try.func18
  hname := by kernel_rfl
  body := f18_b
  hbody := by kernel_rfl
  res := [rTmp 4, rTmp 5]
  hres := by kernel_rfl
  n := 29
  hn := by kernel_rfl

end Go.Proofs.Ytblliolkgkgppaa.V

/- What the functions' runs come to; the right sides were printed by a tool, Lean checks them. -/
set_option linter.unusedVariables false
set_option maxRecDepth 100000
namespace Go.Proofs.Ytblliolkgkgppaa.V
open Go Go.V Go.RowKit

theorem put_run (F : Nat) (z y : Bool) (l r : List (List AV)) (i : Int) :
    (f11.run F [.ns z 1 l, .int .i64 i, .ns y 1 r] ⟨[], []⟩ : Ans) =
    branch (AV.bool (byOk l))
      (branch (AV.bool (ofO (nR l)))
        (branch (AV.bool (ofE (nR l)))
          (branch (AV.bool (decide (i < (0 : Int)))) (some (Fin.ret (AV.tup [AV.nilsl, AV.bool false]), St.mk [] []))
            (branch (AV.bool (decide (i > (250 : Int)))) (some (Fin.ret (AV.tup [AV.nilsl, AV.bool false]), St.mk [] []))
              (branch (AV.bool (true && apOk r.length 1))
                (branch (AV.bool (cdec ((0 : Int) ≤ i ∧ i ≤ (1000 : Int)) && okB (AV.sl 1 false r)))
                  (branch
                    (AV.bool
                      (i.toNat.beq i.toNat &&
                        inC (wC [] i.toNat (AV.sl 1 false r)) 0
                          (mulN (wN [] i.toNat (AV.sl 1 false r)) 1)))
                    (branch
                      (AV.bool
                        (okS
                            (rowsC 1 (wN [] i.toNat (AV.sl 1 false r))
                              (wC [] i.toNat (AV.sl 1 false r)) 0) &&
                          fit
                            (szN
                              (sR
                                (rowsC 1 (wN [] i.toNat (AV.sl 1 false r))
                                  (wC [] i.toNat (AV.sl 1 false r)) 0)))))
                      (some
                        (Fin.ret
                            (AV.tup
                              [AV.ns
                                  (!pgOk
                                      (sR
                                        (rowsC 1 (wN [] i.toNat (AV.sl 1 false r))
                                          (wC [] i.toNat (AV.sl 1 false r)) 0)))
                                  1
                                  (pgR
                                    (rowsC 1 (wN [] i.toNat (AV.sl 1 false r))
                                      (wC [] i.toNat (AV.sl 1 false r)) 0)),
                                AV.bool
                                  (pgOk
                                    (sR
                                      (rowsC 1 (wN [] i.toNat (AV.sl 1 false r))
                                        (wC [] i.toNat (AV.sl 1 false r)) 0)))]),
                          St.mk [Ob.vec i.toNat (wC [] i.toNat (AV.sl 1 false r))] []))
                      none)
                    none)
                  none)
                none)))
          (branch (AV.bool (decide (i < (0 : Int))))
            (some (Fin.ret (AV.tup [AV.nilsl, AV.bool false]), St.mk [Ob.vec (ofN (nR l)) (ofC (nR l))] []))
            (branch (AV.bool (decide (i > (250 : Int))))
              (some (Fin.ret (AV.tup [AV.nilsl, AV.bool false]), St.mk [Ob.vec (ofN (nR l)) (ofC (nR l))] []))
              (branch (AV.bool (true && apOk r.length 1))
                (branch
                  (AV.bool
                    ((ofN (nR l)).beq (ofN (nR l)) &&
                      (cdec (ofN (nR l) + 1 = (ofC (nR l)).length) &&
                        (cdec ((0 : Int) ≤ i ∧ i ≤ (1000 : Int)) && (okW (ofC (nR l)) && okB (AV.sl 1 false r))))))
                  (branch
                    (AV.bool
                      ((wV (ofN (nR l)) (ofC (nR l)) i.toNat).beq (wV (ofN (nR l)) (ofC (nR l)) i.toNat) &&
                        inC (wC (ofC (nR l)) i.toNat (AV.sl 1 false r)) 0
                          (mulN (wN (ofC (nR l)) i.toNat (AV.sl 1 false r)) 1)))
                    (branch
                      (AV.bool
                        (okS
                            (rowsC 1 (wN (ofC (nR l)) i.toNat (AV.sl 1 false r))
                              (wC (ofC (nR l)) i.toNat (AV.sl 1 false r)) 0) &&
                          fit
                            (szN
                              (sR
                                (rowsC 1 (wN (ofC (nR l)) i.toNat (AV.sl 1 false r))
                                  (wC (ofC (nR l)) i.toNat (AV.sl 1 false r)) 0)))))
                      (some
                        (Fin.ret
                            (AV.tup
                              [AV.ns
                                  (!pgOk
                                      (sR
                                        (rowsC 1 (wN (ofC (nR l)) i.toNat (AV.sl 1 false r))
                                          (wC (ofC (nR l)) i.toNat (AV.sl 1 false r)) 0)))
                                  1
                                  (pgR
                                    (rowsC 1 (wN (ofC (nR l)) i.toNat (AV.sl 1 false r))
                                      (wC (ofC (nR l)) i.toNat (AV.sl 1 false r)) 0)),
                                AV.bool
                                  (pgOk
                                    (sR
                                      (rowsC 1 (wN (ofC (nR l)) i.toNat (AV.sl 1 false r))
                                        (wC (ofC (nR l)) i.toNat (AV.sl 1 false r)) 0)))]),
                          St.mk
                            [Ob.vec (wV (ofN (nR l)) (ofC (nR l)) i.toNat)
                                (wC (ofC (nR l)) i.toNat (AV.sl 1 false r))]
                            []))
                      none)
                    none)
                  none)
                none))))
        (some (Fin.ret (AV.tup [AV.nilsl, AV.bool false]), St.mk [] [])))
      none := by kernel_rfl

theorem cut_run (F : Nat) (z : Bool) (l : List (List AV)) (i : Int) :
    (f18.run F [.ns z 1 l, .int .i64 i] ⟨[], []⟩ : Ans) =
    branch (AV.bool (byOk l))
      (branch (AV.bool !oB (getP (ofS (nR l)) i)) (some (Fin.ret (AV.tup [AV.nilsl, AV.bool false]), St.mk [] []))
        (branch (AV.bool (byOk l))
          (branch (AV.bool (ofO (nR l)))
            (branch (AV.bool (ofE (nR l)))
              (branch (AV.bool (cdec ((0 : Int) ≤ i ∧ i ≤ (1000 : Int)) && true))
                (branch
                  (AV.bool
                    (i.toNat.beq i.toNat &&
                      inC (wC [] i.toNat AV.nilsl) 0 (mulN (wN [] i.toNat AV.nilsl) 1)))
                  (branch
                    (AV.bool
                      (okS (rowsC 1 (wN [] i.toNat AV.nilsl) (wC [] i.toNat AV.nilsl) 0) &&
                        fit (szN (sR (rowsC 1 (wN [] i.toNat AV.nilsl) (wC [] i.toNat AV.nilsl) 0)))))
                    (some
                      (Fin.ret
                          (AV.tup
                            [AV.ns
                                (!pgOk (sR (rowsC 1 (wN [] i.toNat AV.nilsl) (wC [] i.toNat AV.nilsl) 0)))
                                1
                                (pgR (rowsC 1 (wN [] i.toNat AV.nilsl) (wC [] i.toNat AV.nilsl) 0)),
                              AV.bool
                                (pgOk (sR (rowsC 1 (wN [] i.toNat AV.nilsl) (wC [] i.toNat AV.nilsl) 0)))]),
                        St.mk [Ob.vec i.toNat (wC [] i.toNat AV.nilsl)] []))
                    none)
                  none)
                none)
              (branch
                (AV.bool
                  ((ofN (nR l)).beq (ofN (nR l)) &&
                    (cdec (ofN (nR l) + 1 = (ofC (nR l)).length) &&
                      (cdec ((0 : Int) ≤ i ∧ i ≤ (1000 : Int)) && (okW (ofC (nR l)) && true)))))
                (branch
                  (AV.bool
                    ((wV (ofN (nR l)) (ofC (nR l)) i.toNat).beq (wV (ofN (nR l)) (ofC (nR l)) i.toNat) &&
                      inC (wC (ofC (nR l)) i.toNat AV.nilsl) 0 (mulN (wN (ofC (nR l)) i.toNat AV.nilsl) 1)))
                  (branch
                    (AV.bool
                      (okS
                          (rowsC 1 (wN (ofC (nR l)) i.toNat AV.nilsl) (wC (ofC (nR l)) i.toNat AV.nilsl)
                            0) &&
                        fit
                          (szN
                            (sR
                              (rowsC 1 (wN (ofC (nR l)) i.toNat AV.nilsl) (wC (ofC (nR l)) i.toNat AV.nilsl)
                                0)))))
                    (some
                      (Fin.ret
                          (AV.tup
                            [AV.ns
                                (!pgOk
                                    (sR
                                      (rowsC 1 (wN (ofC (nR l)) i.toNat AV.nilsl) (wC (ofC (nR l)) i.toNat AV.nilsl)
                                        0)))
                                1
                                (pgR
                                  (rowsC 1 (wN (ofC (nR l)) i.toNat AV.nilsl) (wC (ofC (nR l)) i.toNat AV.nilsl)
                                    0)),
                              AV.bool
                                (pgOk
                                  (sR
                                    (rowsC 1 (wN (ofC (nR l)) i.toNat AV.nilsl) (wC (ofC (nR l)) i.toNat AV.nilsl)
                                      0)))]),
                        St.mk [Ob.vec (wV (ofN (nR l)) (ofC (nR l)) i.toNat) (wC (ofC (nR l)) i.toNat AV.nilsl)] []))
                    none)
                  none)
                none))
            (branch (AV.bool (cdec ((0 : Int) ≤ i ∧ i ≤ (1000 : Int)) && true))
              (branch
                (AV.bool
                  (i.toNat.beq i.toNat && inC (wC [] i.toNat AV.nilsl) 0 (mulN (wN [] i.toNat AV.nilsl) 1)))
                (branch
                  (AV.bool
                    (okS (rowsC 1 (wN [] i.toNat AV.nilsl) (wC [] i.toNat AV.nilsl) 0) &&
                      fit (szN (sR (rowsC 1 (wN [] i.toNat AV.nilsl) (wC [] i.toNat AV.nilsl) 0)))))
                  (some
                    (Fin.ret
                        (AV.tup
                          [AV.ns (!pgOk (sR (rowsC 1 (wN [] i.toNat AV.nilsl) (wC [] i.toNat AV.nilsl) 0)))
                              1 (pgR (rowsC 1 (wN [] i.toNat AV.nilsl) (wC [] i.toNat AV.nilsl) 0)),
                            AV.bool
                              (pgOk (sR (rowsC 1 (wN [] i.toNat AV.nilsl) (wC [] i.toNat AV.nilsl) 0)))]),
                      St.mk [Ob.vec i.toNat (wC [] i.toNat AV.nilsl)] []))
                  none)
                none)
              none))
          none))
      none := by kernel_rfl

end Go.Proofs.Ytblliolkgkgppaa.V

/- Page: what makes pages of pages, as callees. -/
set_option linter.unusedVariables false
namespace Go.Proofs.Ytblliolkgkgppaa.V
open Go Go.V Go.RowKit

def padS (s : Sl) (m : Nat) : Sl := s ++ List.replicate (m - s.length) none
def trS (s : Sl) : Sl := (s.reverse.dropWhile (·.isNone)).reverse
/-- Slots of which one has bytes, or none. -/
def withS (s : Sl) (k : Nat) (o : Option (List Nat)) : Sl := trS ((padS s (k + 1)).set k o)
def toP (s : Sl) : Option (List Nat) := if pgOk s then some (pgB s) else none
theorem padC_sC (s : Sl) (m : Nat) : padC (sC s) m = sC (padS s m) := by
  rw [padC, padS, sC_append, sC_length]
  congr 1
  simp [sC, cellS]
theorem set_sC (s : Sl) (k : Nat) (o : Option (List Nat)) : (sC s).set k (cellS o) = sC (s.set k o) := by simp [sC, List.map_set]
theorem nilA_row (o : Option (List Nat)) : nilA (rowS o) = o.isNone := by cases o <;> rfl
theorem trR_sA (s : Sl) : trR (sA s) = sA (trS s) := by
  rw [trR, opq_eq, trS, sA, sA, ← List.map_reverse, List.map_reverse]
  have h : ∀ t : Sl, (t.map rowS).dropWhile nilA = (t.dropWhile (·.isNone)).map rowS := by
    intro t
    induction t with
    | nil => rfl
    | cons o t ih =>
      rw [List.map_cons, List.dropWhile_cons, List.dropWhile_cons, nilA_row]
      cases o with
      | none => exact ih
      | some b => rfl
  rw [← List.map_reverse, h, List.map_reverse]
theorem trS_take (s : Sl) : trS s = s.take (trS s).length := by
  have h1 : (s.reverse.dropWhile (·.isNone)) <:+ s.reverse := List.dropWhile_suffix _
  have h2 : trS s <+: s := by
    have := List.reverse_prefix.mpr h1
    simpa [trS] using this
  exact List.prefix_iff_eq_take.mp h2
theorem trS_len (s : Sl) : (trS s).length ≤ s.length := by
  have h1 : (s.reverse.dropWhile (·.isNone)) <:+ s.reverse := List.dropWhile_suffix _
  have := h1.length_le
  simpa [trS] using this
theorem padS_len (s : Sl) (m : Nat) : (padS s m).length = max s.length m := by simp [padS]; omega
theorem w_rows (s : Sl) (k : Nat) (o : Option (List Nat)) : rowsC 1 (wN (sC s) k (cellS o)) (wC (sC s) k (cellS o)) 0 = sA (withS s k o) ∧ inC (wC (sC s) k (cellS o)) 0 (mulN (wN (sC s) k (cellS o)) 1) = true := by
  have hC : wC (sC s) k (cellS o) = sC ((padS s (k + 1)).set k o) := by rw [wC, opq_eq, padC_sC, set_sC]
  have hN : wN (sC s) k (cellS o) = (withS s k o).length := by rw [wN, opq_eq, padC_sC, set_sC, cR_sC, trR_sA, sA_length, withS]
  have hle : (withS s k o).length ≤ (sC ((padS s (k + 1)).set k o)).length := by rw [sC_length]; exact trS_len _
  rw [hC, hN]
  refine ⟨?_, inC_one hle⟩
  rw [rowsC_one hle, cR_sC_take, withS, ← trS_take]
theorem sumN_set (s : Sl) (k : Nat) (o : Option (List Nat)) : sumN (s.set k o) ≤ sumN s + olen o := by
  induction s generalizing k with
  | nil => simp [sumN]
  | cons x s ih =>
    cases k with
    | zero => rw [List.set_cons_zero, sumN_cons, sumN_cons]; omega
    | succ k => rw [List.set_cons_succ, sumN_cons, sumN_cons]; have := ih k; omega
theorem sumN_take (s : Sl) (n : Nat) : sumN (s.take n) ≤ sumN s := by
  conv => rhs; rw [← List.take_append_drop n s, sumN_append]
  omega
theorem sumN_pad (s : Sl) (m : Nat) : sumN (padS s m) = sumN s := by
  rw [padS, sumN_append]
  have : sumN (List.replicate (m - s.length) none) = 0 := by simp [sumN, olen]
  omega
theorem szN_with (s : Sl) (k : Nat) (o : Option (List Nat)) : szN (withS s k o) ≤ szN s + (k + 1) + olen o := by
  have h1 : sumN (withS s k o) ≤ sumN s + olen o := by
    rw [withS, trS_take]
    have := sumN_take ((padS s (k + 1)).set k o) (trS ((padS s (k + 1)).set k o)).length
    have := sumN_set (padS s (k + 1)) k o
    rw [sumN_pad] at this
    omega
  have h2 := trS_len ((padS s (k + 1)).set k o)
  rw [List.length_set, padS_len] at h2
  have h3 : (withS s k o).length ≤ max s.length (k + 1) := h2
  rw [szN, szN]
  omega
theorem mem_with {s : Sl} {k : Nat} {o : Option (List Nat)} {x : Option (List Nat)} (h : x ∈ withS s k o) : x ∈ s ∨ x = none ∨ x = o := by
  rw [withS, trS_take] at h
  rcases List.mem_or_eq_of_mem_set (List.mem_of_mem_take h) with h | h
  · rcases List.mem_append.mp h with h | h
    · exact .inl h
    · exact .inr (.inl (List.eq_of_mem_replicate h))
  · exact .inr (.inr h)
theorem okSl_with {s : Sl} (h : okSl s) {k : Nat} (hk : k ≤ 1000) (hl : s.length ≤ 1000) {o : Option (List Nat)} (ho : ∀ b, o = some b → (∀ x ∈ b, x < 256) ∧ b.length < 4611686018427387904) : okSl (withS s k o) := by
  refine ⟨fun b hb => ?_, ?_⟩
  · rcases mem_with hb with hb | hb | hb
    · exact h.1 b hb
    · cases hb
    · exact ho b hb.symm
  · have h2 := trS_len ((padS s (k + 1)).set k o)
    rw [List.length_set, padS_len] at h2
    have h3 : (withS s k o).length ≤ max s.length (k + 1) := h2
    omega
theorem pg_oV (t : Sl) : AV.tup [.ns (!pgOk (sR (sA t))) 1 (pgR (sA t)), .bool (pgOk (sR (sA t)))] = oV (toP t) := by
  cases h : pgOk t with
  | true =>
    rw [pgR_ok (by rw [sR_sA]; exact h), sR_sA, h, show toP t = some (pgB t) by rw [toP, h]; rfl, oV, oB_some, oR_some]
  | false =>
    rw [pgR_no (by rw [sR_sA]; exact h), sR_sA, h, show toP t = none by rw [toP, h]; rfl, oV, oB_none, oR_none]
theorem oV_scoped (o : Option (List Nat)) : Scoped 0 0 (oV o) := by
  cases o with
  | none => rw [oV, oR_none]; exact ⟨trivial, trivial, trivial⟩
  | some b => rw [oV, oR_some]; exact ⟨bR_scoped b, trivial, trivial⟩
theorem okW_sC {s : Sl} (h : okSl s) (hl : s.length ≤ 1000) : okW (sC s) = true := by
  rw [okW_iff, cR_sC, sC_length]; exact ⟨okS_sA h, hl⟩
/-- Where all that `with` and `page` ask holds. -/
theorem w_page {s : Sl} (hs : okSl s) (hl : szN s ≤ 256) {k : Nat} (hk : k ≤ 1000) {o : Option (List Nat)} (ho : ∀ b, o = some b → (∀ x ∈ b, x < 256) ∧ b.length ≤ 140737488355328) (v : Nat) (x y : Ans) :
    branch (.bool (Nat.beq v v && inC (wC (sC s) k (cellS o)) 0 (mulN (wN (sC s) k (cellS o)) 1)))
      (branch (.bool (okS (rowsC 1 (wN (sC s) k (cellS o)) (wC (sC s) k (cellS o)) 0) && fit (szN (sR (rowsC 1 (wN (sC s) k (cellS o)) (wC (sC s) k (cellS o)) 0))))) x none) none = x := by
  obtain ⟨h1, h2⟩ := w_rows s k o
  have h3 := szN_with s k o
  have hlen : s.length ≤ 1000 := by rw [szN] at hl; omega
  have h4 : okSl (withS s k o) := okSl_with hs hk hlen fun b hb => ⟨(ho b hb).1, by have := (ho b hb).2; omega⟩
  have h5 : olen o ≤ 140737488355328 := by
    cases o with
    | none => exact Nat.zero_le _
    | some b => exact (ho b rfl).2
  rw [branch_of (by rw [Nat.beq_refl, h2]; rfl), h1, branch_of (by rw [okS_sA h4, sR_sA, Bool.true_and, fit_iff]; omega)]
theorem with_nil : sC [] = [] := rfl
def putS (s : Sl) (i : Int) (b : List Nat) : Option (List Nat) := if 0 ≤ i ∧ i ≤ 250 then toP (withS s i.toNat (some b)) else none
def putP (p : List Nat) (i : Int) (b : List Nat) : Option (List Nat) := if ofB p then putS (ofS p) i b else none
theorem put_all {z y : Bool} {p b : List Nat} (hp : ∀ x ∈ p, x < 256) (hpl : p.length < 4611686018427387904) (hb : ∀ x ∈ b, x < 256) (hbl : b.length ≤ 140737488355328) (i : Int) :
    ∃ r st', f11.run 0 [.ns z 1 (bR p), .int .i64 i, .ns y 1 (bR b)] ⟨[], []⟩ = some (.ret r, st') ∧ Scoped 0 0 (hard st'.objs r) ∧ Wk (hard st'.objs r) (oV (putP p i b)) := by
  have no : putP p i b = none → ∀ os, Scoped 0 0 (hard os (.tup [.nilsl, .bool false])) ∧ Wk (hard os (.tup [.nilsl, .bool false])) (oV (putP p i b)) := fun e os => ⟨⟨trivial, trivial, trivial⟩, by rw [e]; exact oV_none⟩
  have hok := okSl_ofS hp
  have hsz := szN_ofS p
  have hll := len_ofS p
  have hap : (true && apOk (bR b).length 1) = true := by rw [Bool.true_and, apOk_iff, bR_length]; omega
  have hsl : AV.sl 1 false (bR b) = cellS (some b) := rfl
  have hoB : okB (cellS (some b)) = true := by show (Nat.beq 1 1 && byOk (bR b)) = true; rw [byOk_bR hb (by omega)]; rfl
  rw [put_run, branch_of (byOk_bR hp hpl), nR_bR, ofO, opq_eq]
  cases hB : ofB p with
  | false => exact ⟨_, _, rfl, no (by rw [putP, hB]; rfl) _⟩
  | true =>
    have hP : putP p i b = putS (ofS p) i b := by rw [putP, hB]; rfl
    have fin : ∀ (t : Sl) (v : Nat) (os : List Ob), withS (ofS p) i.toNat (some b) = t → 0 ≤ i → i ≤ 250 → Scoped 0 0 (hard os (.tup [.ns (!pgOk (sR (sA t))) 1 (pgR (sA t)), .bool (pgOk (sR (sA t)))])) ∧ Wk (hard os (.tup [.ns (!pgOk (sR (sA t))) 1 (pgR (sA t)), .bool (pgOk (sR (sA t)))])) (oV (putP p i b)) := by
      intro t v os ht h0 h1
      rw [pg_oV, hard_id _ _ (oV_scoped _), hP, putS, if_pos ⟨h0, h1⟩, ht]
      exact ⟨oV_scoped _, .refl _⟩
    rw [branch_true, ofE, opq_eq]
    cases hE : (ofS p).isEmpty with
    | true =>
      have hs : ofS p = [] := by simpa using hE
      rw [branch_true]
      by_cases h0 : i < 0
      · exact ⟨_, _, branch_of (by simpa using h0), no (by rw [hP, putS, if_neg (by omega)]) _⟩
      · by_cases h1 : i > 250
        · exact ⟨_, _, (branch_not (by simp; omega)).trans (branch_of (by simpa using h1)), no (by rw [hP, putS, if_neg (by omega)]) _⟩
        · refine ⟨_, _, (branch_not (by simp; omega)).trans ((branch_not (by simp; omega)).trans ((branch_of hap).trans ((branch_of (by rw [hsl, hoB, Bool.and_true, cdec_iff]; omega)).trans (w_page okSl_nil (by decide) (o := some b) (by omega) (fun c hc => by cases hc; exact ⟨hb, hbl⟩) _ _ none)))), ?_⟩
          rw [show ([] : List AV) = sC [] from rfl, hsl, (w_rows [] i.toNat (some b)).1]
          exact fin _ 0 _ (by rw [hs]) (by omega) (by omega)
    | false =>
      rw [branch_false, ofN, ofC, opq_eq, opq_eq]
      have hne : 0 < (ofS p).length := by
        rcases Nat.eq_zero_or_pos (ofS p).length with h | h
        · rw [List.eq_nil_of_length_eq_zero h] at hE; cases hE
        · exact h
      by_cases h0 : i < 0
      · exact ⟨_, _, branch_of (by simpa using h0), no (by rw [hP, putS, if_neg (by omega)]) _⟩
      · by_cases h1 : i > 250
        · exact ⟨_, _, (branch_not (by simp; omega)).trans (branch_of (by simpa using h1)), no (by rw [hP, putS, if_neg (by omega)]) _⟩
        · refine ⟨_, _, (branch_not (by simp; omega)).trans ((branch_not (by simp; omega)).trans ((branch_of hap).trans ((branch_of ?_).trans (w_page hok hsz (o := some b) (by omega) (fun c hc => by cases hc; exact ⟨hb, hbl⟩) _ _ none)))), ?_⟩
          · simp only [Bool.and_eq_true, cdec_iff, Nat.beq_refl, true_and]
            exact ⟨by rw [sC_length]; omega, by omega, okW_sC hok (by omega), hoB⟩
          · rw [hsl, (w_rows (ofS p) i.toNat (some b)).1]
            exact fin _ 0 _ rfl (by omega) (by omega)
noncomputable def p11 : POrc Try.prog := f11.farW
  (fun args k => match args with
    | [x, .int .i64 i, y] => onNs 1 x fun _ l => onNs 1 y fun _ r => ifT (byOk l && (byOk r && apOk r.length 1)) (k (oV (putP (nR l) i (nR r))))
    | _ => none)
  fun args k fin h => by
    split at h
    · rename_i x i y
      obtain ⟨z, l, h, hx⟩ := onNs_spec h
      obtain ⟨z', r, h, hy⟩ := onNs_spec h
      obtain ⟨h1, h⟩ := ifT_spec h
      simp only [Bool.and_eq_true, apOk_iff] at h1
      obtain ⟨h1, h2, h3⟩ := h1
      obtain ⟨l1, l2⟩ := byOk_iff.mp h1
      obtain ⟨r1, r2⟩ := byOk_iff.mp h2
      obtain ⟨a, st', k1, k2, k3⟩ := put_all (z := z) (y := z') (p := nR l) (b := nR r) (fun b hb => okR_lt l1 hb) (by rw [nR_length]; exact l2) (fun b hb => okR_lt r1 hb) (by rw [nR_length]; omega) i
      rw [← okR_rows l1, ← okR_rows r1] at k1
      exact ⟨_, _, h, .cons hx (.cons (.refl _) (.cons hy .nil)), ⟨okR_scoped l1, trivial, okR_scoped r1, trivial⟩, 0, a, st', k1, k2, k3⟩
    · cases h
theorem p11_nat : p11.Nat := by
  intro args k
  show (match args with | [x, .int .i64 i, y] => _ | _ => _) = thenA (match args with | [x, .int .i64 i, y] => _ | _ => _) k
  split
  · exact onNs_nat fun _ _ => onNs_nat fun _ _ => ifT_nat rfl
  · rfl

/-! ### Cut -/
def cutS (s : Sl) (i : Int) : Option (List Nat) := if (getP s i).isSome then toP (withS s i.toNat none) else none
def cutP (p : List Nat) (i : Int) : Option (List Nat) := cutS (ofS p) i
theorem getP_bound {s : Sl} {i : Int} (h : (getP s i).isSome = true) : 0 ≤ i ∧ i.toNat < s.length := by
  unfold getP at h
  split at h
  · rename_i h0
    refine ⟨h0, ?_⟩
    rcases Nat.lt_or_ge i.toNat s.length with h1 | h1
    · exact h1
    · rw [List.getElem?_eq_none h1] at h; cases h
  · cases h
theorem cut_all {z : Bool} {p : List Nat} (hp : ∀ x ∈ p, x < 256) (hpl : p.length < 4611686018427387904) (i : Int) :
    ∃ r st', f18.run 0 [.ns z 1 (bR p), .int .i64 i] ⟨[], []⟩ = some (.ret r, st') ∧ Scoped 0 0 (hard st'.objs r) ∧ Wk (hard st'.objs r) (oV (cutP p i)) := by
  have hok := okSl_ofS hp
  have hsz := szN_ofS p
  have hll := len_ofS p
  have hby := byOk_bR hp hpl
  have hsl : AV.nilsl = cellS none := rfl
  rw [cut_run, branch_of hby, nR_bR, oB, opq_eq]
  cases hG : (getP (ofS p) i).isSome with
  | false => exact ⟨_, _, rfl, ⟨trivial, trivial, trivial⟩, by rw [cutP, cutS, hG]; exact oV_none⟩
  | true =>
    obtain ⟨h0, h1⟩ := getP_bound hG
    rw [branch_not (b := !true) rfl, branch_of hby, ofO, opq_eq]
    have hB : ofB p = true := by
      unfold ofS at h1
      unfold ofB
      cases hh : ofP p with
      | none => rw [hh] at h1; simp at h1
      | some s => rfl
    rw [hB, branch_true, ofE, opq_eq]
    cases hE : (ofS p).isEmpty with
    | true =>
      have hs : ofS p = [] := by simpa using hE
      rw [hs] at h1; simp at h1
    | false =>
      rw [branch_false, ofN, ofC, opq_eq, opq_eq]
      refine ⟨_, _, (branch_of ?_).trans (w_page hok hsz (o := none) (by omega) (fun c hc => by cases hc) _ _ none), ?_⟩
      · simp only [Bool.and_eq_true, cdec_iff, Nat.beq_refl, true_and]
        exact ⟨by rw [sC_length]; omega, by omega, okW_sC hok (by omega), trivial⟩
      · rw [hsl, (w_rows (ofS p) i.toNat none).1, pg_oV, hard_id _ _ (oV_scoped _), cutP, cutS, if_pos hG]
        exact ⟨oV_scoped _, .refl _⟩
noncomputable def p18 : POrc Try.prog := f18.farW
  (fun args k => match args with
    | [x, .int .i64 i] => onNs 1 x fun _ l => ifT (byOk l) (k (oV (cutP (nR l) i)))
    | _ => none)
  fun args k fin h => by
    split at h
    · rename_i x i
      obtain ⟨z, l, h, hx⟩ := onNs_spec h
      obtain ⟨h1, h⟩ := ifT_spec h
      obtain ⟨l1, l2⟩ := byOk_iff.mp h1
      obtain ⟨a, st', k1, k2, k3⟩ := cut_all (z := z) (p := nR l) (fun b hb => okR_lt l1 hb) (by rw [nR_length]; exact l2) i
      rw [← okR_rows l1] at k1
      exact ⟨_, _, h, .cons hx (.cons (.refl _) .nil), ⟨okR_scoped l1, trivial, trivial⟩, 0, a, st', k1, k2, k3⟩
    · cases h
theorem p18_nat : p18.Nat := by
  intro args k
  show (match args with | [x, .int .i64 i] => _ | _ => _) = thenA (match args with | [x, .int .i64 i] => _ | _ => _) k
  split
  · exact onNs_nat fun _ _ => ifT_nat rfl
  · rfl
end Go.Proofs.Ytblliolkgkgppaa.V

/- The functions' pieces, as told by gen.py. -/
set_option linter.unusedVariables false
set_option maxRecDepth 20000
namespace Go.Proofs.Ytblliolkgkgppaa.V
open Go Go.V Go.RowKit


/-! ### 13: interlock/page.Add (25, 25); results 4, 5, 6; slots: 0 p, 1 b, 2 p, 3 b, 7 s, 8 ok, 9 k, 10 out -/
noncomputable def f13_b : Sim Try.prog :=
  (.seq (.live [0, 1] (.region 0 [
    ⟨(opAssign (some 4) (.const (Value.slice none 0 0)) 25 "page.go:118" #[]).op, none⟩,
    ⟨(opAssign (some 5) (.const (Value.int IntKind.i64 0)) 3 "page.go:118" #[{ on := 0, ground := Ground.chain }]).op, none⟩,
    ⟨(opAssign (some 6) (.const (Value.bool false)) 4 "page.go:118" #[{ on := 1, ground := Ground.chain }]).op, none⟩
  ] (by kernel_rfl)))
  (.seq (.live [0, 1, 7, 8] (.region 1 [
    ⟨(opMove (some 12) (.tmp 0) 25 "page.go:119" #[]).op, none⟩,
    ⟨(opCallP p21 (some 13) [(.tmp 12)] #[25] 45 "page.go:119" #[{ on := 0, ground := Ground.data }]).op, none⟩,
    ⟨(opMove (some 11) (.tmp 13) 45 "page.go:119" #[{ on := 1, ground := Ground.data }]).op, none⟩,
    ⟨(opExtract (some 14) (.tmp 11) 0 44 "page.go:119" #[{ on := 2, ground := Ground.data }]).op, none⟩,
    ⟨(opExtract (some 15) (.tmp 11) 1 4 "page.go:119" #[{ on := 2, ground := Ground.data }, { on := 5, ground := (Ground.gcOnly Departure.lateStores) }]).op, none⟩,
    ⟨(opAssign (some 7) (.tmp 14) 44 "page.go:119" #[{ on := 3, ground := Ground.data }, { on := 1, ground := Ground.chain }, { on := 0, ground := Ground.phase }, { on := 1, ground := Ground.phase }, { on := 2, ground := Ground.phase }, { on := 3, ground := Ground.phase }, { on := 4, ground := (Ground.textOnly Departure.lateStores) }]).op, none⟩,
    ⟨(opAssign (some 8) (.tmp 15) 4 "page.go:119" #[{ on := 4, ground := Ground.data }, { on := 5, ground := Ground.chain }, { on := 0, ground := Ground.phase }, { on := 1, ground := Ground.phase }, { on := 2, ground := Ground.phase }, { on := 3, ground := Ground.phase }, { on := 4, ground := Ground.phase }, { on := 5, ground := Ground.phase }]).op, none⟩
  ] (by kernel_rfl)))
  (.seq (.seq (.live [0, 1, 7, 17] (.region 2 [
    ⟨(opMove (some 16) (.tmp 8) 4 "page.go:120" #[]).op, none⟩,
    ⟨(opNot (some 17) 4 (.tmp 16) 4 "page.go:120" #[{ on := 0, ground := Ground.data }]).op, none⟩
  ] (by kernel_rfl)))
  (.cond (.tmp 17)
    (.seq (.live [4, 5, 6] (.region 3 [
      ⟨(opAssign (some 4) (.const (Value.slice none 0 0)) 25 "page.go:121" #[]).op, none⟩,
      ⟨(opAssign (some 5) (.const (Value.int IntKind.i64 0)) 3 "page.go:121" #[{ on := 0, ground := Ground.chain }, { on := 0, ground := Ground.phase }]).op, none⟩,
      ⟨(opAssign (some 6) (.const (Value.bool false)) 4 "page.go:121" #[{ on := 1, ground := Ground.chain }, { on := 0, ground := Ground.phase }, { on := 1, ground := Ground.phase }]).op, none⟩
    ] (by kernel_rfl)))
    (.live [4, 5, 6] .ret))
    .skip))
  (.seq (.live [0, 1, 7, 9] (.region 4 [
    ⟨(opMove (some 18) (.tmp 7) 44 "page.go:123" #[]).op, none⟩,
    ⟨(opCallP p24 (some 19) [(.tmp 18), (.func 25)] #[44, 37] 3 "page.go:123" #[{ on := 0, ground := Ground.data }]).op, none⟩,
    ⟨(opAssign (some 9) (.tmp 19) 3 "page.go:123" #[{ on := 1, ground := Ground.data }, { on := 1, ground := Ground.chain }, { on := 0, ground := Ground.phase }, { on := 1, ground := Ground.phase }]).op, none⟩
  ] (by kernel_rfl)))
  (.seq (.seq (.live [0, 1, 7, 9, 21] (.region 5 [
    ⟨(opMove (some 20) (.tmp 9) 3 "page.go:124" #[]).op, none⟩,
    ⟨(opBin (some 21) .lss 3 (.tmp 20) (.const (Value.int IntKind.i64 0)) 3 4 "page.go:124" #[{ on := 0, ground := Ground.data }]).op, none⟩
  ] (by kernel_rfl)))
  (.cond (.tmp 21)
    (.live [0, 1, 9] (.region 6 [
      ⟨(opMove (some 22) (.tmp 7) 44 "page.go:125" #[]).op, none⟩,
      ⟨(opLen (some 23) (.tmp 22) 44 (.slice 25) Try.underlying44 3 "page.go:125" #[{ on := 0, ground := Ground.data }]).op, none⟩,
      ⟨(opAssign (some 9) (.tmp 23) 3 "page.go:125" #[{ on := 1, ground := Ground.data }, { on := 0, ground := Ground.phase }, { on := 1, ground := Ground.phase }]).op, none⟩
    ] (by kernel_rfl)))
    .skip))
  (.seq (.live [8, 9, 10] (.region 7 [
    ⟨(opMove (some 25) (.tmp 0) 25 "page.go:127" #[]).op, none⟩,
    ⟨(opMove (some 26) (.tmp 9) 3 "page.go:127" #[]).op, none⟩,
    ⟨(opMove (some 27) (.tmp 1) 25 "page.go:127" #[]).op, none⟩,
    ⟨(opCallP p11 (some 28) [(.tmp 25), (.tmp 26), (.tmp 27)] #[25, 3, 25] 30 "page.go:127" #[{ on := 0, ground := Ground.data }, { on := 1, ground := Ground.data }, { on := 2, ground := Ground.data }]).op, none⟩,
    ⟨(opMove (some 24) (.tmp 28) 30 "page.go:127" #[{ on := 3, ground := Ground.data }]).op, none⟩,
    ⟨(opExtract (some 29) (.tmp 24) 0 25 "page.go:127" #[{ on := 4, ground := Ground.data }]).op, none⟩,
    ⟨(opExtract (some 30) (.tmp 24) 1 4 "page.go:127" #[{ on := 4, ground := Ground.data }, { on := 7, ground := (Ground.gcOnly Departure.lateStores) }]).op, none⟩,
    ⟨(opAssign (some 10) (.tmp 29) 25 "page.go:127" #[{ on := 5, ground := Ground.data }, { on := 3, ground := Ground.chain }, { on := 0, ground := Ground.phase }, { on := 1, ground := Ground.phase }, { on := 2, ground := Ground.phase }, { on := 3, ground := Ground.phase }, { on := 4, ground := Ground.phase }, { on := 5, ground := Ground.phase }, { on := 6, ground := (Ground.textOnly Departure.lateStores) }]).op, none⟩,
    ⟨(opAssign (some 8) (.tmp 30) 4 "page.go:127" #[{ on := 6, ground := Ground.data }, { on := 7, ground := Ground.chain }, { on := 0, ground := Ground.phase }, { on := 1, ground := Ground.phase }, { on := 2, ground := Ground.phase }, { on := 3, ground := Ground.phase }, { on := 4, ground := Ground.phase }, { on := 5, ground := Ground.phase }, { on := 6, ground := Ground.phase }, { on := 7, ground := Ground.phase }]).op, none⟩
  ] (by kernel_rfl)))
  (.seq (.seq (.live [9, 10, 32] (.region 8 [
    ⟨(opMove (some 31) (.tmp 8) 4 "page.go:128" #[]).op, none⟩,
    ⟨(opNot (some 32) 4 (.tmp 31) 4 "page.go:128" #[{ on := 0, ground := Ground.data }]).op, none⟩
  ] (by kernel_rfl)))
  (.cond (.tmp 32)
    (.seq (.live [4, 5, 6] (.region 9 [
      ⟨(opAssign (some 4) (.const (Value.slice none 0 0)) 25 "page.go:129" #[]).op, none⟩,
      ⟨(opAssign (some 5) (.const (Value.int IntKind.i64 0)) 3 "page.go:129" #[{ on := 0, ground := Ground.chain }, { on := 0, ground := Ground.phase }]).op, none⟩,
      ⟨(opAssign (some 6) (.const (Value.bool false)) 4 "page.go:129" #[{ on := 1, ground := Ground.chain }, { on := 0, ground := Ground.phase }, { on := 1, ground := Ground.phase }]).op, none⟩
    ] (by kernel_rfl)))
    (.live [4, 5, 6] .ret))
    .skip))
  (.seq (.live [4, 5, 6] (.region 10 [
    ⟨(opMove (some 33) (.tmp 10) 25 "page.go:131" #[]).op, none⟩,
    ⟨(opMove (some 34) (.tmp 9) 3 "page.go:131" #[{ on := 2, ground := (Ground.gcOnly Departure.lateStores) }]).op, none⟩,
    ⟨(opAssign (some 4) (.tmp 33) 25 "page.go:131" #[{ on := 0, ground := Ground.data }, { on := 0, ground := Ground.phase }, { on := 1, ground := (Ground.textOnly Departure.lateStores) }]).op, none⟩,
    ⟨(opAssign (some 5) (.tmp 34) 3 "page.go:131" #[{ on := 1, ground := Ground.data }, { on := 2, ground := Ground.chain }, { on := 0, ground := Ground.phase }, { on := 1, ground := Ground.phase }, { on := 2, ground := Ground.phase }]).op, none⟩,
    ⟨(opAssign (some 6) (.const (Value.bool true)) 4 "page.go:131" #[{ on := 3, ground := Ground.chain }, { on := 0, ground := Ground.phase }, { on := 1, ground := Ground.phase }, { on := 2, ground := Ground.phase }, { on := 3, ground := Ground.phase }]).op, none⟩
  ] (by kernel_rfl)))
  (.live [4, 5, 6] .ret)))))))))

noncomputable def f13 : Fun Try.prog where
  id := 13
  fn := Try.f13
  hf := Try.func13
  hname := by kernel_rfl
  body := f13_b
  hbody := by kernel_rfl
  res := [rTmp 4, rTmp 5, rTmp 6]
  hres := by kernel_rfl
  n := 35
  hn := by kernel_rfl

end Go.Proofs.Ytblliolkgkgppaa.V

/- What the functions' runs come to; the right sides were printed by a tool, Lean checks them. -/
set_option linter.unusedVariables false
set_option maxRecDepth 100000
namespace Go.Proofs.Ytblliolkgkgppaa.V
open Go Go.V Go.RowKit

theorem add_run (F : Nat) (z y : Bool) (l r : List (List AV)) :
    (f13.run F [.ns z 1 l, .ns y 1 r] ⟨[], []⟩ : Ans) =
    branch (AV.bool (byOk l))
      (branch (AV.bool !ofB (nR l))
        (some (Fin.ret (AV.tup [AV.nilsl, AV.int IntKind.i64 (0 : Int), AV.bool false]), St.mk [] []))
        (branch (AV.bool (true && okS (ofA (nR l))))
          (branch (AV.bool (decide (idxI (idxFrom (prd (25 : FuncId)) (ofA (nR l)) 0) < (0 : Int))))
            (branch (AV.bool (byOk l && (byOk r && apOk r.length 1)))
              (branch (AV.bool !oB (putP (nR l) (↑(ofA (nR l)).length : Int) (nR r)))
                (some (Fin.ret (AV.tup [AV.nilsl, AV.int IntKind.i64 (0 : Int), AV.bool false]), St.mk [] []))
                (some
                  (Fin.ret
                      (AV.tup
                        [AV.ns (!oB (putP (nR l) (↑(ofA (nR l)).length : Int) (nR r))) 1
                            (oR (putP (nR l) (↑(ofA (nR l)).length : Int) (nR r))),
                          AV.int IntKind.i64 (↑(ofA (nR l)).length : Int), AV.bool true]),
                    St.mk [] [])))
              none)
            (branch (AV.bool (byOk l && (byOk r && apOk r.length 1)))
              (branch (AV.bool !oB (putP (nR l) (idxI (idxFrom (prd (25 : FuncId)) (ofA (nR l)) 0)) (nR r)))
                (some (Fin.ret (AV.tup [AV.nilsl, AV.int IntKind.i64 (0 : Int), AV.bool false]), St.mk [] []))
                (some
                  (Fin.ret
                      (AV.tup
                        [AV.ns (!oB (putP (nR l) (idxI (idxFrom (prd (25 : FuncId)) (ofA (nR l)) 0)) (nR r)))
                            1 (oR (putP (nR l) (idxI (idxFrom (prd (25 : FuncId)) (ofA (nR l)) 0)) (nR r))),
                          AV.int IntKind.i64 (idxI (idxFrom (prd (25 : FuncId)) (ofA (nR l)) 0)), AV.bool true]),
                    St.mk [] [])))
              none))
          none))
      none := by kernel_rfl

end Go.Proofs.Ytblliolkgkgppaa.V

/- Page: Add, as a callee. -/
set_option linter.unusedVariables false
namespace Go.Proofs.Ytblliolkgkgppaa.V
open Go Go.V Go.RowKit

/-- The first free slot, or the one behind the last. -/
def freeK (s : Sl) : Nat := s.findIdx (·.isNone)
theorem free_idx : ∀ (s : Sl) (i : Nat), idxI (idxFrom (prd 25) (sA s) i) = (if s.any (·.isNone) then ((i + freeK s : Nat) : Int) else -1)
  | [], i => rfl
  | o :: s, i => by
    have ih := free_idx s (i + 1)
    rw [show sA (o :: s) = rowS o :: sA s from rfl, idxFrom, show prd 25 (rowS o) = o.isNone from nilA_row o]
    cases o with
    | none => simp [idxI, freeK, List.findIdx_cons]
    | some b =>
      rw [show (some b : Option (List Nat)).isNone = false from rfl]
      rw [cond_false, ih, List.any_cons]
      simp only [Option.isNone_some, Bool.false_or]
      split
      · simp only [freeK, List.findIdx_cons, Option.isNone_some, cond_false]
        omega
      · rfl
theorem freeK_none {s : Sl} (h : s.any (·.isNone) = false) : freeK s = s.length := by
  rw [freeK, List.findIdx_eq_length]
  exact fun x hx => by
    have := List.any_eq_false.mp h x hx
    cases x with
    | none => exact absurd rfl this
    | some b => rfl
def addP (p b : List Nat) : Option (List Nat) := if ofB p then putP p (freeK (ofS p) : Nat) b else none
noncomputable def addK (p b : List Nat) : Int := opq (if (addP p b).isSome then (freeK (ofS p) : Int) else 0)
noncomputable def addV (p b : List Nat) : AV := .tup [.ns (!oB (addP p b)) 1 (oR (addP p b)), .int .i64 (addK p b), .bool (oB (addP p b))]
theorem addV_scoped (p b : List Nat) : Scoped 0 0 (addV p b) := by
  rw [addV]
  cases addP p b with
  | none => rw [oR_none]; exact ⟨trivial, trivial, trivial, trivial⟩
  | some c => rw [oR_some]; exact ⟨bR_scoped c, trivial, trivial, trivial⟩
noncomputable def p13 : POrc Try.prog := f13.farW
  (fun args k => match args with
    | [x, y] => onNs 1 x fun _ l => onNs 1 y fun _ r => ifT (byOk l && (byOk r && apOk r.length 1)) (k (addV (nR l) (nR r)))
    | _ => none)
  fun args k fin h => by
    split at h
    · rename_i x y
      obtain ⟨z, l, h, hx⟩ := onNs_spec h
      obtain ⟨z', r, h, hy⟩ := onNs_spec h
      obtain ⟨h1, h⟩ := ifT_spec h
      have h2 := h1
      simp only [Bool.and_eq_true] at h1
      have hl := (byOk_iff.mp h1.1).1
      have hr := (byOk_iff.mp h1.2.1).1
      refine ⟨_, _, h, .cons hx (.cons hy .nil), ⟨okR_scoped hl, okR_scoped hr, trivial⟩, 0, ?_⟩
      have hok : okS (ofA (nR l)) = true := by rw [ofA_eq]; exact okS_sA (okSl_ofS fun b hb' => okR_lt hl hb')
      have no : addP (nR l) (nR r) = none → Scoped 0 0 (hard [] (.tup [.nilsl, .int .i64 0, .bool false])) ∧ Wk (hard [] (.tup [.nilsl, .int .i64 0, .bool false])) (addV (nR l) (nR r)) := fun e => ⟨⟨trivial, trivial, trivial, trivial⟩, by
        rw [addV, addK, opq_eq, e, oB_none, oR_none]; exact .tup (.cons .nil (.cons (.refl _) (.cons (.refl _) .nil)))⟩
      have go : ∀ i : Int, i = (freeK (ofS (nR l)) : Nat) → ofB (nR l) = true →
          ∃ r' st', branch (AV.bool (byOk l && (byOk r && apOk r.length 1)))
            (branch (AV.bool !oB (putP (nR l) i (nR r))) (some (Fin.ret (AV.tup [AV.nilsl, AV.int IntKind.i64 (0 : Int), AV.bool false]), St.mk [] []))
              (some (Fin.ret (AV.tup [AV.ns (!oB (putP (nR l) i (nR r))) 1 (oR (putP (nR l) i (nR r))), AV.int IntKind.i64 i, AV.bool true]), St.mk [] []))) none = some (.ret r', st') ∧ Scoped 0 0 (hard st'.objs r') ∧ Wk (hard st'.objs r') (addV (nR l) (nR r)) := by
        intro i hi hB
        have hP : addP (nR l) (nR r) = putP (nR l) i (nR r) := by rw [addP, hB, hi]; rfl
        rw [branch_of h2]
        cases hp : putP (nR l) i (nR r) with
        | none => exact ⟨_, _, by rw [oB_none]; exact branch_of (b := !false) rfl, no (by rw [hP, hp])⟩
        | some c =>
          refine ⟨_, _, by rw [oB_some]; exact branch_not (b := !true) rfl, ?_⟩
          have e : AV.tup [AV.ns (!true) 1 (oR (some c)), AV.int IntKind.i64 i, AV.bool true] = addV (nR l) (nR r) := by
            rw [addV, addK, opq_eq, hP, hp, oB_some, hi]; rfl
          rw [e, hard_id _ _ (addV_scoped _ _)]
          exact ⟨addV_scoped _ _, .refl _⟩
      rw [add_run, branch_of h1.1]
      cases hB : ofB (nR l) with
      | false => exact ⟨_, _, branch_of (b := !false) rfl, no (by rw [addP, hB]; rfl)⟩
      | true =>
        rw [branch_not (b := !true) rfl, branch_of (by rw [hok]; rfl), ofA_len, ofA_eq]
        rw [show idxI (idxFrom (prd (25 : FuncId)) (sA (ofS (nR l))) 0) = _ from free_idx (ofS (nR l)) 0]
        cases ha : (ofS (nR l)).any (·.isNone) with
        | true =>
          simp only [if_true, Nat.zero_add]
          obtain ⟨r', st', g1, g2⟩ := go (freeK (ofS (nR l)) : Nat) rfl hB
          exact ⟨r', st', (branch_not (by simp)).trans g1, g2⟩
        | false =>
          simp only [Bool.false_eq_true, if_false]
          obtain ⟨r', st', g1, g2⟩ := go ((ofS (nR l)).length : Nat) (by rw [freeK_none ha]) hB
          exact ⟨r', st', (branch_of (by decide)).trans g1, g2⟩
    · cases h
theorem p13_nat : p13.Nat := by
  intro args k
  show (match args with | [x, y] => _ | _ => _) = thenA (match args with | [x, y] => _ | _ => _) k
  split
  · exact onNs_nat fun _ _ => onNs_nat fun _ _ => ifT_nat rfl
  · rfl
end Go.Proofs.Ytblliolkgkgppaa.V

/- The functions' pieces, as told by gen.py. -/
set_option linter.unusedVariables false
set_option maxRecDepth 20000
namespace Go.Proofs.Ytblliolkgkgppaa.V
open Go Go.V Go.RowKit

theorem sz29 : (Try.prog.info? 29).map (·.size) = some 3 := by kernel_rfl
theorem fl29_2 : fieldB Try.prog 29 2 2 1 false = true := by kernel_rfl

/-! ### 9: interlock/interlocklaw06.great (22); results 2; slots: 0 calls, 1 calls, 3 i -/
/-- A loop's round; at its head live: 0 calls, 3 i -/
noncomputable def f9_l0 : Sim Try.prog :=
  (.seq (.seq (.live [0, 3, 10] (.region 4 [
    ⟨(opMove (some 7) (.tmp 3) 3 "law.go:27" #[]).op, none⟩,
    ⟨(opMove (some 8) (.tmp 0) 22 "law.go:27" #[]).op, none⟩,
    ⟨(opLen (some 9) (.tmp 8) 22 (.slice 29) Try.underlying22 3 "law.go:27" #[{ on := 1, ground := Ground.data }]).op, none⟩,
    ⟨(opBin (some 10) .lss 3 (.tmp 7) (.tmp 9) 3 4 "law.go:27" #[{ on := 0, ground := Ground.data }, { on := 2, ground := Ground.data }]).op, none⟩
  ] (by kernel_rfl)))
  (.cond (.tmp 10)
    .skip
    (.live [] (.exit 0))))
  (.seq (.block 1 (.seq (.live [0, 3, 19] (.region 6 [
      ⟨(opMove (some 13) (.tmp 0) 22 "law.go:28" #[]).op, none⟩,
      ⟨(opMove (some 14) (.tmp 3) 3 "law.go:28" #[]).op, none⟩,
      ⟨(opIndexAddrT (some 15) 22 (.tmp 13) (.tmp 14) 29 3 Try.underlying22 sz29 0 "law.go:28" #[{ on := 0, ground := Ground.data }, { on := 1, ground := Ground.data }]).op, none⟩,
      ⟨(opFieldAddr (some 16) 29 (.tmp 15) 2 2 1 false fl29_2 (by decide) 0 "law.go:28" #[{ on := 2, ground := Ground.data }]).op, none⟩,
      ⟨(opLoadT (.one (.ns 1)) (some 17) 25 (.tmp 16) (.slice 5) Try.underlying25 1 sz25 (by kernel_rfl) 25 "law.go:28" #[{ on := 3, ground := Ground.data }]).op, none⟩,
      ⟨(opLen (some 18) (.tmp 17) 25 (.slice 5) Try.underlying25 3 "law.go:28" #[{ on := 4, ground := Ground.data }]).op, none⟩,
      ⟨(opBin (some 19) .gtr 3 (.tmp 18) (.const (Value.int IntKind.i64 1000)) 3 4 "law.go:28" #[{ on := 5, ground := Ground.data }]).op, none⟩
    ] (by kernel_rfl)))
    (.cond (.tmp 19)
      (.seq (.live [2] (.region 7 [
        ⟨(opAssign (some 2) (.const (Value.bool true)) 4 "law.go:29" #[]).op, none⟩
      ] (by kernel_rfl)))
      (.live [2] .ret))
      .skip)))
  (.live [0, 3] (.region 5 [
    ⟨(opMove (some 11) (.tmp 3) 3 "law.go:27" #[]).op, none⟩,
    ⟨(opBin (some 12) .add 3 (.tmp 11) (.const (Value.int IntKind.i64 1)) 3 3 "law.go:27" #[{ on := 0, ground := Ground.data }]).op, none⟩,
    ⟨(opAssign (some 3) (.tmp 12) 3 "law.go:27" #[{ on := 1, ground := Ground.data }, { on := 0, ground := Ground.phase }, { on := 1, ground := Ground.phase }]).op, none⟩
  ] (by kernel_rfl)))))

/-- What follows a loop. -/
noncomputable def f9_r0 : Sim Try.prog :=
  (.seq (.live [2] (.region 8 [
    ⟨(opAssign (some 2) (.const (Value.bool false)) 4 "law.go:32" #[]).op, none⟩
  ] (by kernel_rfl)))
  (.live [2] .ret))

noncomputable def f9_b : Sim Try.prog :=
  (.seq (.live [0] (.region 0 [
    ⟨(opAssign (some 2) (.const (Value.bool false)) 4 "law.go:23" #[]).op, none⟩
  ] (by kernel_rfl)))
  (.seq (.seq (.live [0, 6] (.region 1 [
    ⟨(opMove (some 4) (.tmp 0) 22 "law.go:24" #[]).op, none⟩,
    ⟨(opLen (some 5) (.tmp 4) 22 (.slice 29) Try.underlying22 3 "law.go:24" #[{ on := 0, ground := Ground.data }]).op, none⟩,
    ⟨(opBin (some 6) .gtr 3 (.tmp 5) (.const (Value.int IntKind.i64 100)) 3 4 "law.go:24" #[{ on := 1, ground := Ground.data }]).op, none⟩
  ] (by kernel_rfl)))
  (.cond (.tmp 6)
    (.seq (.live [2] (.region 2 [
      ⟨(opAssign (some 2) (.const (Value.bool true)) 4 "law.go:25" #[]).op, none⟩
    ] (by kernel_rfl)))
    (.live [2] .ret))
    .skip))
  (.seq (.seq (.live [0, 3] (.region 3 [
    ⟨(opAssign (some 3) (.const (Value.int IntKind.i64 0)) 3 "law.go:27" #[]).op, none⟩
  ] (by kernel_rfl)))
  (.block 0 (.loop [0, 3] f9_l0)))
  f9_r0)))

noncomputable def f9 : Fun Try.prog where
  id := 9
  fn := Try.f9
  hf := Try.func9
  hname := by kernel_rfl
  body := f9_b
  hbody := by kernel_rfl
  res := [rTmp 2]
  hres := by kernel_rfl
  n := 20
  hn := by kernel_rfl

/-! ### 8: interlock/interlocklaw06.alive (); results 0; slots: 1 p, 2 k, 3 ok, 4 q, 5 m, 6 is -/
noncomputable def f8_b : Sim Try.prog :=
  (.seq (.live [] (.region 0 [
    ⟨(opAssign (some 0) (.const (Value.bool false)) 4 "law.go:17" #[]).op, none⟩
  ] (by kernel_rfl)))
  (.seq (.live [1, 2, 3] (.region 1 [
    ⟨(opCallP p10 (some 8) [] #[] 25 "law.go:18" #[]).op, none⟩,
    ⟨(opBuildSliceO (some 9) 25 2 [(0, (.const (Value.int IntKind.u8 97))), (1, (.const (Value.int IntKind.u8 98)))] 5 1 1 (.int .u8 0) el25 (by kernel_rfl) (by decide) 25 "law.go:18" #[]).op, none⟩,
    ⟨(opConvSl (some 10) 25 (.tmp 9) 5 Try.underlying25 Try.underlying5 25 "law.go:18" #[{ on := 1, ground := Ground.data }]).op, none⟩,
    ⟨(opCallP p13 (some 11) [(.tmp 8), (.tmp 10)] #[25, 25] 33 "law.go:18" #[{ on := 0, ground := Ground.data }, { on := 2, ground := Ground.data }, { on := 0, ground := Ground.chain }]).op, none⟩,
    ⟨(opMove (some 7) (.tmp 11) 33 "law.go:18" #[{ on := 3, ground := Ground.data }]).op, none⟩,
    ⟨(opExtract (some 12) (.tmp 7) 0 25 "law.go:18" #[{ on := 4, ground := Ground.data }]).op, none⟩,
    ⟨(opExtract (some 13) (.tmp 7) 1 3 "law.go:18" #[{ on := 4, ground := Ground.data }, { on := 8, ground := (Ground.gcOnly Departure.lateStores) }]).op, none⟩,
    ⟨(opExtract (some 14) (.tmp 7) 2 4 "law.go:18" #[{ on := 4, ground := Ground.data }, { on := 9, ground := (Ground.gcOnly Departure.lateStores) }]).op, none⟩,
    ⟨(opAssign (some 1) (.tmp 12) 25 "law.go:18" #[{ on := 5, ground := Ground.data }, { on := 3, ground := Ground.chain }, { on := 0, ground := Ground.phase }, { on := 1, ground := Ground.phase }, { on := 2, ground := Ground.phase }, { on := 3, ground := Ground.phase }, { on := 4, ground := Ground.phase }, { on := 5, ground := Ground.phase }, { on := 6, ground := (Ground.textOnly Departure.lateStores) }, { on := 7, ground := (Ground.textOnly Departure.lateStores) }]).op, none⟩,
    ⟨(opAssign (some 2) (.tmp 13) 3 "law.go:18" #[{ on := 6, ground := Ground.data }, { on := 8, ground := Ground.chain }, { on := 0, ground := Ground.phase }, { on := 1, ground := Ground.phase }, { on := 2, ground := Ground.phase }, { on := 3, ground := Ground.phase }, { on := 4, ground := Ground.phase }, { on := 5, ground := Ground.phase }, { on := 6, ground := Ground.phase }, { on := 7, ground := (Ground.textOnly Departure.lateStores) }, { on := 8, ground := Ground.phase }]).op, none⟩,
    ⟨(opAssign (some 3) (.tmp 14) 4 "law.go:18" #[{ on := 7, ground := Ground.data }, { on := 9, ground := Ground.chain }, { on := 0, ground := Ground.phase }, { on := 1, ground := Ground.phase }, { on := 2, ground := Ground.phase }, { on := 3, ground := Ground.phase }, { on := 4, ground := Ground.phase }, { on := 5, ground := Ground.phase }, { on := 6, ground := Ground.phase }, { on := 7, ground := Ground.phase }, { on := 8, ground := Ground.phase }, { on := 9, ground := Ground.phase }]).op, none⟩
  ] (by kernel_rfl)))
  (.seq (.live [2, 3, 4, 5, 6] (.region 2 [
    ⟨(opMove (some 16) (.tmp 1) 25 "law.go:19" #[]).op, none⟩,
    ⟨(opBuildSliceO (some 17) 25 1 [(0, (.const (Value.int IntKind.u8 99)))] 5 1 1 (.int .u8 0) el25 (by kernel_rfl) (by decide) 25 "law.go:19" #[]).op, none⟩,
    ⟨(opConvSl (some 18) 25 (.tmp 17) 5 Try.underlying25 Try.underlying5 25 "law.go:19" #[{ on := 1, ground := Ground.data }]).op, none⟩,
    ⟨(opCallP p13 (some 19) [(.tmp 16), (.tmp 18)] #[25, 25] 33 "law.go:19" #[{ on := 0, ground := Ground.data }, { on := 2, ground := Ground.data }]).op, none⟩,
    ⟨(opMove (some 15) (.tmp 19) 33 "law.go:19" #[{ on := 3, ground := Ground.data }]).op, none⟩,
    ⟨(opExtract (some 20) (.tmp 15) 0 25 "law.go:19" #[{ on := 4, ground := Ground.data }]).op, none⟩,
    ⟨(opExtract (some 21) (.tmp 15) 1 3 "law.go:19" #[{ on := 4, ground := Ground.data }, { on := 8, ground := (Ground.gcOnly Departure.lateStores) }]).op, none⟩,
    ⟨(opExtract (some 22) (.tmp 15) 2 4 "law.go:19" #[{ on := 4, ground := Ground.data }, { on := 9, ground := (Ground.gcOnly Departure.lateStores) }]).op, none⟩,
    ⟨(opAssign (some 4) (.tmp 20) 25 "law.go:19" #[{ on := 5, ground := Ground.data }, { on := 3, ground := Ground.chain }, { on := 0, ground := Ground.phase }, { on := 1, ground := Ground.phase }, { on := 2, ground := Ground.phase }, { on := 3, ground := Ground.phase }, { on := 4, ground := Ground.phase }, { on := 5, ground := Ground.phase }, { on := 6, ground := (Ground.textOnly Departure.lateStores) }, { on := 7, ground := (Ground.textOnly Departure.lateStores) }]).op, none⟩,
    ⟨(opAssign (some 5) (.tmp 21) 3 "law.go:19" #[{ on := 6, ground := Ground.data }, { on := 8, ground := Ground.chain }, { on := 0, ground := Ground.phase }, { on := 1, ground := Ground.phase }, { on := 2, ground := Ground.phase }, { on := 3, ground := Ground.phase }, { on := 4, ground := Ground.phase }, { on := 5, ground := Ground.phase }, { on := 6, ground := Ground.phase }, { on := 7, ground := (Ground.textOnly Departure.lateStores) }, { on := 8, ground := Ground.phase }]).op, none⟩,
    ⟨(opAssign (some 6) (.tmp 22) 4 "law.go:19" #[{ on := 7, ground := Ground.data }, { on := 9, ground := Ground.chain }, { on := 0, ground := Ground.phase }, { on := 1, ground := Ground.phase }, { on := 2, ground := Ground.phase }, { on := 3, ground := Ground.phase }, { on := 4, ground := Ground.phase }, { on := 5, ground := Ground.phase }, { on := 6, ground := Ground.phase }, { on := 7, ground := Ground.phase }, { on := 8, ground := Ground.phase }, { on := 9, ground := Ground.phase }]).op, none⟩
  ] (by kernel_rfl)))
  (.seq (.live [0] (.region 3 [
    ⟨(opMove (some 23) (.tmp 3) 4 "law.go:20" #[]).op, none⟩,
    ⟨(opMove (some 24) (.tmp 23) 4 "law.go:20" #[{ on := 0, ground := Ground.data }]).op, none⟩,
    ⟨(opMove (some 25) (.tmp 6) 4 "law.go:20" #[{ on := 1, ground := Ground.guard }]).op, (some (1, 24, true))⟩,
    ⟨(opPick (some 26) (.tmp 24) (.tmp 25) (.const (Value.bool false)) 4 "law.go:20" #[{ on := 1, ground := Ground.data }, { on := 2, ground := Ground.data }]).op, none⟩,
    ⟨(opMove (some 27) (.tmp 26) 4 "law.go:20" #[{ on := 3, ground := Ground.data }, { on := 1, ground := Ground.chain }]).op, none⟩,
    ⟨(opMove (some 28) (.tmp 2) 3 "law.go:20" #[{ on := 4, ground := Ground.guard }]).op, (some (4, 27, true))⟩,
    ⟨(opBin (some 29) .eql 3 (.tmp 28) (.const (Value.int IntKind.i64 0)) 3 4 "law.go:20" #[{ on := 5, ground := Ground.data }, { on := 4, ground := Ground.guard }]).op, (some (4, 27, true))⟩,
    ⟨(opPick (some 30) (.tmp 27) (.tmp 29) (.const (Value.bool false)) 4 "law.go:20" #[{ on := 4, ground := Ground.data }, { on := 6, ground := Ground.data }]).op, none⟩,
    ⟨(opMove (some 31) (.tmp 30) 4 "law.go:20" #[{ on := 7, ground := Ground.data }, { on := 4, ground := Ground.chain }]).op, none⟩,
    ⟨(opMove (some 32) (.tmp 5) 3 "law.go:20" #[{ on := 8, ground := Ground.guard }]).op, (some (8, 31, true))⟩,
    ⟨(opBin (some 33) .eql 3 (.tmp 32) (.const (Value.int IntKind.i64 1)) 3 4 "law.go:20" #[{ on := 9, ground := Ground.data }, { on := 8, ground := Ground.guard }]).op, (some (8, 31, true))⟩,
    ⟨(opPick (some 34) (.tmp 31) (.tmp 33) (.const (Value.bool false)) 4 "law.go:20" #[{ on := 8, ground := Ground.data }, { on := 10, ground := Ground.data }]).op, none⟩,
    ⟨(opMove (some 35) (.tmp 34) 4 "law.go:20" #[{ on := 11, ground := Ground.data }, { on := 8, ground := Ground.chain }]).op, none⟩,
    ⟨(opMove (some 36) (.tmp 4) 25 "law.go:20" #[{ on := 12, ground := Ground.guard }]).op, (some (12, 35, true))⟩,
    ⟨(opLen (some 37) (.tmp 36) 25 (.slice 5) Try.underlying25 3 "law.go:20" #[{ on := 13, ground := Ground.data }, { on := 12, ground := Ground.guard }]).op, (some (12, 35, true))⟩,
    ⟨(opBin (some 38) .eql 3 (.tmp 37) (.const (Value.int IntKind.i64 256)) 3 4 "law.go:20" #[{ on := 14, ground := Ground.data }, { on := 12, ground := Ground.guard }]).op, (some (12, 35, true))⟩,
    ⟨(opPick (some 39) (.tmp 35) (.tmp 38) (.const (Value.bool false)) 4 "law.go:20" #[{ on := 12, ground := Ground.data }, { on := 15, ground := Ground.data }]).op, none⟩,
    ⟨(opMove (some 40) (.tmp 39) 4 "law.go:20" #[{ on := 16, ground := Ground.data }, { on := 12, ground := Ground.chain }]).op, none⟩,
    ⟨(opMove (some 41) (.tmp 4) 25 "law.go:20" #[{ on := 17, ground := Ground.guard }]).op, (some (17, 40, true))⟩,
    ⟨(opSlice (some 42) 25 (.tmp 41) none (some (.const (Value.int IntKind.i64 4))) none 5 1 Try.underlying25 sz5 25 "law.go:20" #[{ on := 18, ground := Ground.data }, { on := 17, ground := Ground.guard }]).op, (some (17, 40, true))⟩,
    ⟨(opBuildSlice (some 43) 25 4 [(0, (.const (Value.int IntKind.u8 2))), (1, (.const (Value.int IntKind.u8 3))), (2, (.const (Value.int IntKind.u8 2))), (3, (.const (Value.int IntKind.u8 0)))] 5 1 1 (.int .u8 0) el25 (by kernel_rfl) (by decide) 25 "law.go:20" #[{ on := 17, ground := Ground.guard }]).op, (some (17, 40, true))⟩,
    ⟨(opCallP p12 (some 44) [(.tmp 42), (.tmp 43)] #[25, 25] 4 "law.go:20" #[{ on := 19, ground := Ground.data }, { on := 20, ground := Ground.data }, { on := 17, ground := Ground.chain }, { on := 17, ground := Ground.guard }]).op, (some (17, 40, true))⟩,
    ⟨(opPick (some 45) (.tmp 40) (.tmp 44) (.const (Value.bool false)) 4 "law.go:20" #[{ on := 17, ground := Ground.data }, { on := 21, ground := Ground.data }]).op, none⟩,
    ⟨(opMove (some 46) (.tmp 45) 4 "law.go:20" #[{ on := 22, ground := Ground.data }, { on := 21, ground := Ground.chain }]).op, none⟩,
    ⟨(opMove (some 47) (.tmp 4) 25 "law.go:20" #[{ on := 23, ground := Ground.guard }]).op, (some (23, 46, true))⟩,
    ⟨(opSlice (some 48) 25 (.tmp 47) (some (.const (Value.int IntKind.i64 253))) none none 5 1 Try.underlying25 sz5 25 "law.go:20" #[{ on := 24, ground := Ground.data }, { on := 23, ground := Ground.guard }]).op, (some (23, 46, true))⟩,
    ⟨(opBytesStr (some 49) 25 9 (.tmp 48) 5 Try.underlying25 Try.underlying5 Try.underlying9 9 "law.go:20" #[{ on := 25, ground := Ground.data }, { on := 23, ground := Ground.guard }]).op, (some (23, 46, true))⟩,
    ⟨(opBinS (some 50) .eql 9 (.tmp 49) (.const (Value.string { data := #[99, 97, 98] })) 9 4 "law.go:20" #[{ on := 26, ground := Ground.data }, { on := 23, ground := Ground.guard }]).op, (some (23, 46, true))⟩,
    ⟨(opPick (some 51) (.tmp 46) (.tmp 50) (.const (Value.bool false)) 4 "law.go:20" #[{ on := 23, ground := Ground.data }, { on := 27, ground := Ground.data }]).op, none⟩,
    ⟨(opAssign (some 0) (.tmp 51) 4 "law.go:20" #[{ on := 28, ground := Ground.data }, { on := 23, ground := Ground.chain }, { on := 0, ground := Ground.phase }, { on := 1, ground := Ground.phase }, { on := 2, ground := Ground.phase }, { on := 3, ground := Ground.phase }, { on := 4, ground := Ground.phase }, { on := 5, ground := Ground.phase }, { on := 6, ground := Ground.phase }, { on := 7, ground := Ground.phase }, { on := 8, ground := Ground.phase }, { on := 9, ground := Ground.phase }, { on := 10, ground := Ground.phase }, { on := 11, ground := Ground.phase }, { on := 12, ground := Ground.phase }, { on := 13, ground := Ground.phase }, { on := 14, ground := Ground.phase }, { on := 15, ground := Ground.phase }, { on := 16, ground := Ground.phase }, { on := 17, ground := Ground.phase }, { on := 18, ground := Ground.phase }, { on := 19, ground := Ground.phase }, { on := 20, ground := Ground.phase }, { on := 21, ground := Ground.phase }, { on := 22, ground := Ground.phase }, { on := 23, ground := Ground.phase }, { on := 24, ground := Ground.phase }, { on := 25, ground := Ground.phase }, { on := 26, ground := Ground.phase }, { on := 27, ground := Ground.phase }, { on := 28, ground := Ground.phase }]).op, none⟩
  ] (by kernel_rfl)))
  (.live [0] .ret)))))

noncomputable def f8 : Fun Try.prog where
  id := 8
  fn := Try.f8
  hf := Try.func8
  hname := by kernel_rfl
  body := f8_b
  hbody := by kernel_rfl
  res := [rTmp 0]
  hres := by kernel_rfl
  n := 52
  hn := by kernel_rfl

end Go.Proofs.Ytblliolkgkgppaa.V

/- What the functions' runs come to; the right sides were printed by a tool, Lean checks them. -/
set_option linter.unusedVariables false
set_option maxRecDepth 100000
namespace Go.Proofs.Ytblliolkgkgppaa.V
open Go Go.V Go.RowKit

theorem great_run (F : Nat) (z : Bool) (l : List (List AV)) (st : St) :
    (f9.run F [.ns z 3 l] st : Ans) =
    branch (AV.bool (decide ((↑l.length : Int) > (100 : Int)))) (some (Fin.ret (AV.bool true), st))
      (loopRun (f9_l0.run F) [0, 3]
        (Cont.block 0 (Cont.then (f9_r0.run F (f9.leaveK Fun.done)) (f9.leaveK Fun.done))) F
        (Env.mk 20 [(0, AV.ns z 3 l), (3, AV.int IntKind.i64 (0 : Int))]) st) := by kernel_rfl

theorem great_round (F m : Nat) (K : Cont) (z : Bool) (l : List (List AV)) (i : Int) (st : St) :
    (loopRun (f9_l0.run F) [0, 3] K m.succ (Env.mk 20 [(0, .ns z 3 l), (3, .int .i64 i)]) st : Ans) =
    branch (AV.bool (decide (i < (↑l.length : Int))))
      (branch (AV.bool (inR l i))
        (branch (AV.bool ((LD.one (LT.ns 1)).is (List.drop 2 (V.rowAt l i))))
          (branch (AV.bool (decide ((↑(rwA (List.drop 2 (V.rowAt l i))).length : Int) > (1000 : Int))))
            (K AX.ret (Env.mk 20 [(2, AV.bool true)]) st)
            (loopRun (f9_l0.run F) [0, 3] K m
              (Env.mk 20
                [(0, AV.ns z 3 l), (3, AV.int IntKind.i64 (IntKind.i64.wrap (i + (1 : Int))))])
              st))
          none)
        none)
      (K (AX.exit 0) (Env.mk 20 []) st) := by kernel_rfl

theorem great_out (F : Nat) (st : St) :
    ((Cont.block 0 (Cont.then (f9_r0.run F (f9.leaveK Fun.done)) (f9.leaveK Fun.done))) (.exit 0) (Env.mk 20 []) st : Ans) =
    some (Fin.ret (AV.bool false), st) := by kernel_rfl

theorem great_ret (F : Nat) (b : Bool) (st : St) :
    ((Cont.block 0 (Cont.then (f9_r0.run F (f9.leaveK Fun.done)) (f9.leaveK Fun.done))) .ret (Env.mk 20 [(2, .bool b)]) st : Ans) =
    some (Fin.ret (AV.bool b), st) := by kernel_rfl

theorem alive_run (F : Nat) :
    (f8.run F [] ⟨[], []⟩ : Ans) =
    branch
      (AV.bool
        (byOk (bR zeroP) &&
          (byOk [[AV.int IntKind.u8 (97 : Int)], [AV.int IntKind.u8 (98 : Int)]] && apOk 2 1)))
      (branch
        (AV.bool
          (byOk (oR (addP (nR (bR zeroP)) [97, 98])) &&
            (byOk [[AV.int IntKind.u8 (99 : Int)]] && apOk 1 1)))
        (branch (AV.bool (oB (addP (nR (bR zeroP)) [97, 98])))
          (branch (AV.bool (oB (addP (nR (oR (addP (nR (bR zeroP)) [97, 98]))) [99])))
            (branch (AV.bool (addK (nR (bR zeroP)) [97, 98] == (0 : Int)))
              (branch (AV.bool (addK (nR (oR (addP (nR (bR zeroP)) [97, 98]))) [99] == (1 : Int)))
                (branch
                  (AV.bool
                    ((↑(oR (addP (nR (oR (addP (nR (bR zeroP)) [97, 98]))) [99])).length : Int) ==
                      (256 : Int)))
                  (if
                      (0 : Int) ≤ (4 : Int) ∧
                        (4 : Int) ≤
                          (↑(oR (addP (nR (oR (addP (nR (bR zeroP)) [97, 98]))) [99])).length :
                            Int) then
                    branch
                      (AV.bool
                        (byOk
                            (List.drop 0
                              (List.take 4
                                (oR (addP (nR (oR (addP (nR (bR zeroP)) [97, 98]))) [99])))) &&
                          byOk
                            [[AV.int IntKind.u8 (2 : Int)], [AV.int IntKind.u8 (3 : Int)], [AV.int IntKind.u8 (2 : Int)],
                              [AV.int IntKind.u8 (0 : Int)]]))
                      (branch
                        (AV.bool
                          (nR
                              (List.drop 0
                                (List.take 4
                                  (oR (addP (nR (oR (addP (nR (bR zeroP)) [97, 98]))) [99])))) ==
                            [2, 3, 2, 0]))
                        (if
                            (0 : Int) ≤ (253 : Int) ∧
                              (253 : Int) ≤
                                (↑(oR
                                        (addP (nR (oR (addP (nR (bR zeroP)) [97, 98])))
                                          [99])).length :
                                  Int) then
                          onSome
                            (numsOf
                              (List.drop 253
                                (List.take
                                  (oR (addP (nR (oR (addP (nR (bR zeroP)) [97, 98]))) [99])).length
                                  (oR (addP (nR (oR (addP (nR (bR zeroP)) [97, 98]))) [99])))))
                            none fun (o : List Int) =>
                            some
                              (Fin.ret
                                  (AV.bool
                                    ((textOf o).toList ==
                                      [UInt8.ofNat 99, UInt8.ofNat 97, UInt8.ofNat 98])),
                                St.mk [Ob.gone, Ob.gone] [])
                        else none)
                        (some (Fin.ret (AV.bool false), St.mk [Ob.gone, Ob.gone] [])))
                      none
                  else none)
                  (some (Fin.ret (AV.bool false), St.mk [Ob.gone, Ob.gone] [])))
                (some (Fin.ret (AV.bool false), St.mk [Ob.gone, Ob.gone] [])))
              (some (Fin.ret (AV.bool false), St.mk [Ob.gone, Ob.gone] [])))
            (some (Fin.ret (AV.bool false), St.mk [Ob.gone, Ob.gone] [])))
          (some (Fin.ret (AV.bool false), St.mk [Ob.gone, Ob.gone] [])))
        none)
      none := by kernel_rfl

end Go.Proofs.Ytblliolkgkgppaa.V

/- Page: what is too great to be looked at; a page that the document fixes. -/
set_option linter.unusedVariables false
namespace Go.Proofs.Ytblliolkgkgppaa.V
open Go Go.V Go.RowKit

/-- A call. -/
noncomputable def okCall (r : List AV) : Bool :=
  match r with
  | [.int .i64 _, .int .i64 _, .ns _ 1 d] => okR d && fit d.length
  | _ => false
noncomputable def okCl (l : List (List AV)) : Bool := l.all okCall && fit l.length
theorem okCall_spec {r : List AV} (h : okCall r = true) : ∃ w s z d, r = [.int .i64 w, .int .i64 s, .ns z 1 d] ∧ byOk d = true := by
  unfold okCall at h
  split at h
  · exact ⟨_, _, _, _, rfl, h⟩
  · cases h
theorem okCl_iff {l : List (List AV)} : okCl l = true ↔ (∀ r ∈ l, okCall r = true) ∧ l.length < 4611686018427387904 := by
  rw [okCl, Bool.and_eq_true, List.all_eq_true, fit_iff]
theorem okCl_scoped {n m : Nat} : ∀ {l : List (List AV)}, (∀ r ∈ l, okCall r = true) → ScopedR n m l
  | [], _ => trivial
  | r :: l, h => by
    obtain ⟨w, s, z, d, rfl, hd⟩ := okCall_spec (h r (by simp))
    exact ⟨⟨trivial, trivial, okR_scoped (byOk_iff.mp hd).1, trivial⟩, okCl_scoped fun x hx => h x (by simp [hx])⟩
def bigCall (r : List AV) : Bool := decide (((rwA (r.drop 2)).length : Int) > 1000)
noncomputable def greatB (l : List (List AV)) : Bool := opq (decide ((l.length : Int) > 100) || l.any bigCall)
theorem call_is {r : List AV} (h : okCall r = true) : (LD.one (LT.ns 1)).is (r.drop 2) = true := by
  obtain ⟨w, s, z, d, rfl, hd⟩ := okCall_spec h
  rfl
theorem great_all (z : Bool) (l : List (List AV)) (h : okCl l = true) (st : St) : f9.run (l.length + 1) [.ns z 3 l] st = some (.ret (.bool (greatB l)), st) := by
  rw [okCl_iff] at h
  rw [great_run, greatB, opq_eq]
  by_cases h1 : (l.length : Int) > 100
  · rw [branch_of (by simpa using h1)]; simp [h1]
  · rw [branch_not (by simpa using h1)]
    have := find_loop (R := fun m i => loopRun (f9_l0.run (l.length + 1)) [0, 3] (Cont.block 0 (Cont.then (f9_r0.run (l.length + 1) (f9.leaveK Fun.done)) (f9.leaveK Fun.done))) m (Env.mk 20 [(0, .ns z 3 l), (3, .int .i64 (i : Int))]) st)
      (l := l) (p := bigCall) (ok := fun r => (LD.one (LT.ns 1)).is (r.drop 2)) (found := fun _ => some (.ret (.bool true), st)) (out := some (.ret (.bool false), st)) (fun m i hi => by
        show loopRun _ _ _ m.succ _ _ = _
        rw [great_round, wrap_succ (by omega), great_ret, great_out]
        rfl) (fun r hr => call_is (h.1 r hr)) l.length 0 (l.length + 1) (by omega) (by omega)
    rw [List.drop_zero] at this
    refine Eq.trans this ?_
    simp only [h1, decide_false, Bool.false_or, ← idxFrom_isSome (l := l) (i := 0)]
    cases idxFrom bigCall l 0 <;> rfl
noncomputable def p9 : POrc Try.prog := f9.farN
  (fun args k => match args with
    | [x] => onNs 3 x fun _ l => ifT (okCl l) (k (.bool (greatB l)))
    | _ => none)
  fun args k fin h => by
    split at h
    · rename_i x
      obtain ⟨z, l, h, hx⟩ := onNs_spec h
      obtain ⟨h1, h⟩ := ifT_spec h
      exact ⟨_, _, h, .cons hx .nil, ⟨okCl_scoped (okCl_iff.mp h1).1, trivial⟩, trivial, l.length + 1, .bool (greatB l), ⟨[], []⟩, rfl, great_all z l h1 _⟩
    · cases h
theorem p9_nat : p9.Nat := by
  intro args k
  show (match args with | [x] => _ | _ => _) = thenA (match args with | [x] => _ | _ => _) k
  split
  · exact onNs_nat fun _ _ => ifT_nat rfl
  · rfl

/-! ### alive -/
theorem zeroP_eq : zeroP = List.replicate 256 0 := by rw [zeroP, opq_eq]
def pg1 : List Nat := (addP (List.replicate 256 0) [97, 98]).getD []
def pg2 : List Nat := (addP pg1 [99]).getD []
theorem al1 : addP (List.replicate 256 0) [97, 98] = some pg1 := by
  have : (addP (List.replicate 256 0) [97, 98]).isSome = true := by kernel_rfl
  obtain ⟨x, hx⟩ := Option.isSome_iff_exists.mp this
  rw [pg1, hx]; rfl
theorem al2 : addP pg1 [99] = some pg2 := by
  have : (addP pg1 [99]).isSome = true := by kernel_rfl
  obtain ⟨x, hx⟩ := Option.isSome_iff_exists.mp this
  rw [pg2, hx]; rfl
theorem al3 : (freeK (ofS (List.replicate 256 0)) == 0 && freeK (ofS pg1) == 1 && pg2.length == 256 && pg2.take 4 == [2, 3, 2, 0] && pg2.drop 253 == [99, 97, 98] && pg1.all (fun b => decide (b < 256)) && pg2.all (fun b => decide (b < 256)) && pg1.length == 256) = true := by kernel_rfl
theorem alive_true : ∃ st', f8.run 0 [] ⟨[], []⟩ = some (.ret (.bool true), st') := by
  have h := al3
  simp only [Bool.and_eq_true, beq_iff_eq, List.all_eq_true, decide_eq_true_eq] at h
  obtain ⟨⟨⟨⟨⟨⟨⟨e1, e2⟩, e3⟩, e4⟩, e5⟩, e6⟩, e7⟩, e8⟩ := h
  have hz : byOk (bR (List.replicate 256 0)) = true := byOk_bR (fun b hb => by rw [List.eq_of_mem_replicate hb]; omega) (by rw [List.length_replicate]; omega)
  have hb2 : byOk (bR pg2) = true := byOk_bR e7 (by omega)
  have k1 : addK (List.replicate 256 0) [97, 98] = 0 := by rw [addK, opq_eq, al1, e1]; rfl
  have k2 : addK pg1 [99] = 1 := by rw [addK, opq_eq, al2, e2]; rfl
  have c2 : (byOk [[AV.int IntKind.u8 (97 : Int)], [AV.int IntKind.u8 (98 : Int)]] && apOk 2 1) = true := by
    rw [Bool.and_eq_true, apOk_iff]
    exact ⟨byOk_bR (l := [97, 98]) (by simp) (by simp), by decide⟩
  have c1 : (byOk [[AV.int IntKind.u8 (99 : Int)]] && apOk 1 1) = true := by
    rw [Bool.and_eq_true, apOk_iff]
    exact ⟨byOk_bR (l := [99]) (by simp) (by simp), by decide⟩
  have c4 : byOk [[AV.int IntKind.u8 (2 : Int)], [AV.int IntKind.u8 (3 : Int)], [AV.int IntKind.u8 (2 : Int)], [AV.int IntKind.u8 (0 : Int)]] = true := byOk_bR (l := [2, 3, 2, 0]) (by simp) (by simp)
  have hd : List.drop 0 (List.take 4 (bR pg2)) = bR [2, 3, 2, 0] := by rw [List.drop_zero, bR_take, e4]
  have hl : (bR pg2).length = 256 := by rw [bR_length, e3]
  rw [alive_run, zeroP_eq, nR_bR, branch_of (by rw [hz, c2]; rfl), al1, oR_some, branch_of (by rw [byOk_bR e6 (by omega), c1]; rfl), oB_some, branch_true, nR_bR, al2, oB_some, branch_true, k1, branch_of (show ((0 : Int) == 0) = true from rfl), k2, branch_of (show ((1 : Int) == 1) = true from rfl), oR_some, hl,
    branch_of (show (((256 : Nat) : Int) == 256) = true from rfl), if_pos ⟨by omega, by omega⟩, hd, branch_of (by rw [c4, byOk_bR (l := [2, 3, 2, 0]) (by simp) (by simp)]; rfl), nR_bR, branch_of (show (([2, 3, 2, 0] : List Nat) == [2, 3, 2, 0]) = true from rfl), if_pos ⟨by omega, by omega⟩, show List.drop 253 (List.take 256 (bR pg2)) = bR [99, 97, 98] by rw [List.take_of_length_le (by omega), bR_drop, e5]]
  exact ⟨⟨[.gone, .gone], []⟩, by kernel_rfl⟩
noncomputable def p8 : POrc Try.prog := f8.farN
  (fun args k => match args with
    | [] => k (.bool true)
    | _ => none)
  fun args k fin h => by
    split at h
    · obtain ⟨st', h1⟩ := alive_true
      exact ⟨_, _, h, .nil, trivial, trivial, 0, .bool true, st', rfl, h1⟩
    · cases h
theorem p8_nat : p8.Nat := by
  intro args k
  show (match args with | [] => _ | _ => _) = thenA (match args with | [] => _ | _ => _) k
  split <;> rfl
end Go.Proofs.Ytblliolkgkgppaa.V

/- Page: a page's bytes are read as its slots; what Add, Put and Cut do to slots (plain). -/
set_option linter.unusedVariables false
namespace Go.Proofs.Ytblliolkgkgppaa.V
open Go Go.V Go.RowKit

def code (o : Option (List Nat)) : Nat := match o with
  | none => 0
  | some b => b.length + 1
def dat : Sl → List Nat
  | [] => []
  | o :: s => dat s ++ o.getD []
theorem dat_len (s : Sl) : (dat s).length = sumN s := by
  induction s with
  | nil => rfl
  | cons o s ih => rw [dat, List.length_append, ih, sumN_cons, olen]; omega
theorem putN_app (P R D r : List Nat) (h : R.length = r.length) : putN (P ++ (R ++ D)) P.length r = P ++ (r ++ D) := by
  rw [putN, List.take_left, ← List.append_assoc P R D, show P.length + r.length = (P ++ R).length by simp [h], List.drop_left, List.append_assoc]
theorem putN_mid (A : List Nat) (m k : Nat) (b D : List Nat) (h : b.length = k) (hk : k ≤ m) : putN (A ++ List.replicate m 0 ++ D) (A.length + (m - k)) b = A ++ List.replicate (m - k) 0 ++ (b ++ D) := by
  have e : A ++ List.replicate m 0 ++ D = (A ++ List.replicate (m - k) 0) ++ (List.replicate k 0 ++ D) := by
    rw [List.append_assoc, List.append_assoc, ← List.append_assoc (List.replicate (m - k) 0), List.replicate_append_replicate, show m - k + k = m by omega]
  rw [e, show A.length + (m - k) = (A ++ List.replicate (m - k) 0).length by simp]
  exact putN_app _ _ _ _ (by simp [h])
theorem pgFold_lay : ∀ (s : Sl) (i : Nat) (A : List Nat) (m : Nat) (D : List Nat), A.length = 1 + i → s.length + sumN s ≤ m →
    pgFold s i (A ++ List.replicate m 0 ++ D) (A.length + m) = A ++ s.map code ++ List.replicate (m - s.length - sumN s) 0 ++ (dat s ++ D)
  | [], i, A, m, D, hA, hm => by simp [pgFold, dat, sumN]
  | none :: s, i, A, m, D, hA, hm => by
    rw [sumN_cons, List.length_cons] at hm
    have h0 : olen none = 0 := rfl
    obtain ⟨m', rfl⟩ : ∃ m', m = m' + 1 := ⟨m - 1, by omega⟩
    have e : A ++ List.replicate (m' + 1) 0 ++ D = (A ++ [0]) ++ List.replicate m' 0 ++ D := by simp [List.replicate_succ]
    have ih := pgFold_lay s (i + 1) (A ++ [0]) m' D (by simp; omega) (by omega)
    rw [List.length_append, List.length_singleton] at ih
    rw [pgFold, e, show A.length + (m' + 1) = A.length + 1 + m' by omega, ih, sumN_cons, h0, List.length_cons, show m' + 1 - (s.length + 1) - (0 + sumN s) = m' - s.length - sumN s by omega]
    simp [code, dat]
  | some b :: s, i, A, m, D, hA, hm => by
    rw [sumN_cons, List.length_cons] at hm
    have h0 : olen (some b) = b.length := rfl
    obtain ⟨m', rfl⟩ : ∃ m', m = m' + 1 := ⟨m - 1, by omega⟩
    have e : (A ++ List.replicate (m' + 1) 0 ++ D).set (1 + i) (b.length + 1) = (A ++ [b.length + 1]) ++ List.replicate m' 0 ++ D := by
      rw [← hA, List.append_assoc, List.set_append_right _ _ (Nat.le_refl _), Nat.sub_self, List.replicate_succ]
      simp
    have ih := pgFold_lay s (i + 1) (A ++ [b.length + 1]) (m' - b.length) (b ++ D) (by simp; omega) (by omega)
    rw [pgFold, e, show A.length + (m' + 1) - b.length = (A ++ [b.length + 1]).length + (m' - b.length) by simp; omega, putN_mid _ _ _ _ _ rfl (by omega), ih, sumN_cons, h0, List.length_cons,
      show m' + 1 - (s.length + 1) - (b.length + sumN s) = m' - b.length - s.length - sumN s by omega]
    simp [code, dat]
/-- A page's bytes: how many slots; their sizes; noughts; their bytes, the last one's first. -/
theorem pgB_lay {s : Sl} (h : szN s ≤ 256) : pgB s = [s.length] ++ s.map code ++ List.replicate (255 - s.length - sumN s) 0 ++ dat s := by
  have e : (List.replicate 256 0).set 0 s.length = [s.length] ++ List.replicate 255 0 ++ [] := by
    rw [show List.replicate 256 (0 : Nat) = 0 :: List.replicate 255 0 from List.replicate_succ, List.set_cons_zero, List.append_nil]; rfl
  have := pgFold_lay s 0 [s.length] 255 [] (by simp) (by rw [szN] at h; omega)
  rw [pgB, e, show (256 : Nat) = [s.length].length + 255 from rfl, this]
  simp
theorem decL_lay : ∀ (s : Sl) (X D : List Nat), (∀ o ∈ s, olen o ≤ 200) → decL (s.map code) (X ++ dat s).length (X ++ dat s ++ D) = some s
  | [], X, D, h => rfl
  | none :: s, X, D, h => by
    have ih := decL_lay s X D fun o ho => h o (by simp [ho])
    simp only [List.map_cons, code, decL, if_true, dat, Option.getD_none, List.append_nil]
    rw [ih]; rfl
  | some b :: s, X, D, h => by
    have ih := decL_lay s X (b ++ D) fun o ho => h o (by simp [ho])
    have hl : (X ++ dat (some b :: s)).length = (X ++ dat s).length + b.length := by simp [dat]; omega
    have e : X ++ dat (some b :: s) ++ D = X ++ dat s ++ (b ++ D) := by simp [dat]
    simp only [List.map_cons, code, decL]
    rw [if_neg (by omega), hl, if_neg (by omega), show (X ++ dat s).length + b.length - (b.length + 1 - 1) = (X ++ dat s).length by omega, e, ih]
    simp only [Option.map_some]
    congr 2
    rw [show (X ++ dat s).length + b.length = (X ++ dat s ++ b).length by simp; omega, ← List.append_assoc, List.take_left, List.drop_left]
/-- Slots without free ones at the end are read as they were written. -/
theorem ofP_pgB {t : Sl} (hk : pgOk t = true) (hm : trm t = true) : ofP (pgB t) = some t := by
  obtain ⟨h1, h2⟩ := pgOk_iff.mp hk
  have hl := pgB_len hk
  have hd : (pgB t).headD 0 = t.length := by rw [pgB_lay h1]; rfl
  have hc : (t.map code).length = t.length := by simp
  have hsz : sumN t + t.length ≤ 255 := by rw [szN] at h1; omega
  have ht : ((pgB t).take (1 + t.length)).drop 1 = t.map code := by
    rw [pgB_lay h1, List.append_assoc ([t.length] ++ t.map code), show 1 + t.length = ([t.length] ++ t.map code).length by simp; omega, List.take_left]
    rfl
  have hD : decL (t.map code) 256 (pgB t) = some t := by
    have := decL_lay t ([t.length] ++ t.map code ++ List.replicate (255 - t.length - sumN t) 0) [] h2
    rw [List.append_nil, ← pgB_lay h1, hl] at this
    exact this
  rw [ofP, hl, hd, ht, hD]
  simp only [beq_self_eq_true, cond_true]
  rw [fine, hk, hm]
  simp
theorem trm_trS (s : Sl) : trm (trS s) = true := by
  unfold trm trS
  rw [List.getLast?_reverse]
  have : ∀ t : Sl, (t.dropWhile (·.isNone)).head? ≠ some none := by
    intro t
    induction t with
    | nil => simp
    | cons o t ih =>
      rw [List.dropWhile_cons]
      cases o with
      | none => exact ih
      | some b => simp
  have h := this s.reverse
  cases h2 : (s.reverse.dropWhile (·.isNone)).head? with
  | none => rfl
  | some o => cases o with
    | none => exact absurd h2 h
    | some b => rfl
theorem ofP_toP {s : Sl} {q : List Nat} (hm : trm s = true) (h : toP s = some q) : ofP q = some s ∧ pgOk s = true ∧ q = pgB s := by
  unfold toP at h
  split at h
  · rename_i hk
    cases h
    exact ⟨ofP_pgB hk hm, hk, rfl⟩
  · cases h
/-- A page of bytes. -/
def Pg (p : List Nat) : Prop := (∀ b ∈ p, b < 256) ∧ p.length = 256 ∧ ofB p = true
theorem ofS_some {p : List Nat} {s : Sl} (h : ofP p = some s) : ofS p = s ∧ ofB p = true := by
  rw [ofS, ofB, h]; exact ⟨rfl, rfl⟩
theorem Pg.slots {p : List Nat} (h : Pg p) : ofP p = some (ofS p) ∧ okSl (ofS p) ∧ pgOk (ofS p) = true ∧ trm (ofS p) = true ∧ pgB (ofS p) = p := by
  obtain ⟨h1, h2, h3⟩ := h
  cases e : ofP p with
  | none => rw [ofB, e] at h3; cases h3
  | some s =>
    have hs := (ofS_some e).1
    obtain ⟨_, _, k1, k2, k3⟩ := ofP_some e
    rw [hs]
    exact ⟨rfl, okSl_of h1 e, k1, k3, k2⟩
/-- What comes of slots is a page. -/
theorem Pg.of {s : Sl} {q : List Nat} (hs : okSl s) (hm : trm s = true) (h : toP s = some q) : Pg q ∧ ofS q = s := by
  obtain ⟨h1, h2, rfl⟩ := ofP_toP hm h
  exact ⟨⟨pgB_lt hs h2, pgB_len h2, (ofS_some h1).2⟩, (ofS_some h1).1⟩
theorem Pg.put {p b q : List Nat} {i : Int} (hp : Pg p) (hb : ∀ x ∈ b, x < 256) (hbl : b.length < 4611686018427387904) (h : putP p i b = some q) : Pg q ∧ ofS q = withS (ofS p) i.toNat (some b) ∧ 0 ≤ i ∧ i ≤ 250 := by
  unfold putP at h
  rw [if_pos hp.2.2, putS] at h
  split at h
  · rename_i hi
    have hl := len_ofS p
    have hok : okSl (withS (ofS p) i.toNat (some b)) := okSl_with hp.slots.2.1 (by omega) (by omega) fun c hc => by cases hc; exact ⟨hb, hbl⟩
    obtain ⟨k1, k2⟩ := Pg.of hok (trm_trS _) h
    exact ⟨k1, k2, hi⟩
  · cases h
theorem zeros_pg : Pg (List.replicate 256 0) ∧ ofS (List.replicate 256 0) = [] := by
  have h : ofP (List.replicate 256 0) = some [] := by kernel_rfl
  exact ⟨⟨fun b hb => by rw [List.eq_of_mem_replicate hb]; omega, List.length_replicate, (ofS_some h).2⟩, (ofS_some h).1⟩
end Go.Proofs.Ytblliolkgkgppaa.V

/- Page: what Add does (plain). -/
set_option linter.unusedVariables false
namespace Go.Proofs.Ytblliolkgkgppaa.V
open Go Go.V Go.RowKit

theorem trS_id {t : Sl} (h : trm t = true) : trS t = t := by
  rcases List.eq_nil_or_concat t with rfl | ⟨t', o, rfl⟩
  · rfl
  · rw [List.concat_eq_append] at *
    cases o with
    | none => simp [trm] at h
    | some b => rw [trS, List.reverse_append, List.reverse_singleton, List.singleton_append, List.dropWhile_cons]; simp
theorem trm_set {s : Sl} (h : trm s = true) (k : Nat) (b : List Nat) : trm (s.set k (some b)) = true := by
  rcases List.eq_nil_or_concat s with rfl | ⟨s', o, rfl⟩
  · rfl
  · rw [List.concat_eq_append] at *
    by_cases hk : k < s'.length
    · rw [List.set_append_left _ _ hk]
      cases o with
      | none => simp [trm] at h
      | some c => simp [trm]
    · rw [List.set_append_right _ _ (by omega)]
      rcases Nat.eq_zero_or_pos (k - s'.length) with h0 | h0
      · rw [h0]; simp [trm]
      · rw [List.set_eq_of_length_le (by simp; omega)]
        exact h
theorem trm_snoc (s : Sl) (b : List Nat) : trm (s ++ [some b]) = true := by simp [trm]
/-- Is a slot free? then none is needed more. -/
def mS (s : Sl) : Nat := if s.any (·.isNone) then 0 else 1
theorem free_at {s : Sl} (h : s.any (·.isNone) = true) : ∃ hk : freeK s < s.length, s[freeK s] = none := by
  have hk : freeK s < s.length := List.findIdx_lt_length.mpr (by
    obtain ⟨x, hx, h2⟩ := List.any_eq_true.mp h
    exact ⟨x, hx, h2⟩)
  refine ⟨hk, ?_⟩
  have h3 : s[freeK s].isNone = true := List.findIdx_getElem (w := hk)
  exact Option.isNone_iff_eq_none.mp h3
theorem sumN_set_none {s : Sl} {k : Nat} (hk : k < s.length) (h : s[k] = none) (b : List Nat) : sumN (s.set k (some b)) = sumN s + b.length := by
  induction s generalizing k with
  | nil => simp at hk
  | cons x s ih =>
    cases k with
    | zero =>
      simp only [List.getElem_cons_zero] at h
      subst h
      rw [List.set_cons_zero, sumN_cons, sumN_cons]
      show b.length + sumN s = 0 + sumN s + b.length
      omega
    | succ k =>
      rw [List.set_cons_succ, sumN_cons, sumN_cons, ih (by simpa using hk) (by simpa using h)]; omega
/-- Where Add lays bytes: what comes of it. -/
theorem with_free {s : Sl} (hm : trm s = true) (b : List Nat) :
    szN (withS s (freeK s) (some b)) = szN s + mS s + b.length ∧ (∀ o, o ∈ withS s (freeK s) (some b) → o ∈ s ∨ o = some b) ∧ some b ∈ withS s (freeK s) (some b) ∧ (withS s (freeK s) (some b)).length = s.length + mS s := by
  cases ha : s.any (·.isNone) with
  | true =>
    obtain ⟨hk, hn⟩ := free_at ha
    have hp : padS s (freeK s + 1) = s := by rw [padS, show freeK s + 1 - s.length = 0 by omega]; simp
    have e : withS s (freeK s) (some b) = s.set (freeK s) (some b) := by rw [withS, hp, trS_id (trm_set hm _ _)]
    have h0 : mS s = 0 := by rw [mS, if_pos ha]
    rw [e, h0, szN, szN, sumN_set_none hk hn, List.length_set]
    refine ⟨by omega, fun o ho => ?_, ?_, by omega⟩
    · rcases List.mem_or_eq_of_mem_set ho with h | h
      · exact .inl h
      · exact .inr h
    · rw [List.mem_iff_getElem]
      exact ⟨freeK s, by rw [List.length_set]; exact hk, by simp⟩
  | false =>
    have hk := freeK_none ha
    have hp : padS s (freeK s + 1) = s ++ [none] := by rw [padS, hk, show s.length + 1 - s.length = 1 by omega]; rfl
    have e : withS s (freeK s) (some b) = s ++ [some b] := by
      rw [withS, hp, hk, List.set_append_right _ _ (Nat.le_refl _), Nat.sub_self, List.set_cons_zero, trS_id (trm_snoc _ _)]
    have h1 : mS s = 1 := by rw [mS, if_neg (by simp [ha])]
    rw [e, h1, szN, szN, sumN_append, List.length_append]
    have : sumN [some b] = b.length := by simp [sumN, olen]
    refine ⟨by simp; omega, fun o ho => ?_, by simp, by simp⟩
    rcases List.mem_append.mp ho with h | h
    · exact .inl h
    · exact .inr (by simpa using h)
theorem pgOk_free {s : Sl} (hm : trm s = true) (hk : pgOk s = true) (b : List Nat) : pgOk (withS s (freeK s) (some b)) = decide (szN s + mS s + b.length ≤ 256 ∧ b.length ≤ 200) := by
  obtain ⟨h1, h2, h3, _⟩ := with_free hm b
  obtain ⟨k1, k2⟩ := pgOk_iff.mp hk
  rw [Bool.eq_iff_iff, pgOk_iff, decide_eq_true_iff, h1]
  constructor
  · rintro ⟨e1, e2⟩
    exact ⟨e1, e2 _ h3⟩
  · rintro ⟨e1, e2⟩
    refine ⟨e1, fun o ho => ?_⟩
    rcases h2 o ho with h | h
    · exact k2 o h
    · rw [h]; exact e2
theorem freeK_le (s : Sl) : freeK s ≤ s.length := List.findIdx_le_length
/-- What Add answers. -/
theorem addP_eq {p : List Nat} (hp : Pg p) (b : List Nat) : addP p b = if freeK (ofS p) ≤ 250 ∧ szN (ofS p) + mS (ofS p) + b.length ≤ 256 ∧ b.length ≤ 200 then some (pgB (withS (ofS p) (freeK (ofS p)) (some b))) else none := by
  obtain ⟨_, _, k1, k2, _⟩ := hp.slots
  rw [addP, if_pos hp.2.2, putP, if_pos hp.2.2, putS, Int.toNat_natCast, toP, pgOk_free k2 k1]
  by_cases h1 : freeK (ofS p) ≤ 250
  · rw [if_pos ⟨by omega, by omega⟩]
    by_cases h2 : szN (ofS p) + mS (ofS p) + b.length ≤ 256 ∧ b.length ≤ 200
    · rw [if_pos (by simpa using h2), if_pos ⟨h1, h2⟩]
    · rw [if_neg (by simpa using h2), if_neg (fun h => h2 h.2)]
  · rw [if_neg (by omega), if_neg (fun h => h1 h.1)]
theorem Pg.add {p b q : List Nat} (hp : Pg p) (hb : ∀ x ∈ b, x < 256) (h : addP p b = some q) : Pg q ∧ ofS q = withS (ofS p) (freeK (ofS p)) (some b) ∧ freeK (ofS p) ≤ 250 ∧ szN (ofS p) + mS (ofS p) + b.length ≤ 256 ∧ b.length ≤ 200 := by
  have h2 := h
  rw [addP_eq hp] at h2
  split at h2
  · rename_i hc
    rw [addP, if_pos hp.2.2] at h
    obtain ⟨k1, k2, _⟩ := hp.put hb (by omega) h
    rw [Int.toNat_natCast] at k2
    exact ⟨k1, k2, hc⟩
  · cases h2
/-- Pages that Add makes have no more slots than may be. -/
theorem add_len {p b q : List Nat} (hp : Pg p) (hl : (ofS p).length ≤ 251) (hb : ∀ x ∈ b, x < 256) (h : addP p b = some q) : (ofS q).length ≤ 251 := by
  obtain ⟨_, e, h1, _⟩ := hp.add hb h
  obtain ⟨_, _, _, h2⟩ := with_free hp.slots.2.2.2.1 b
  rw [e, h2]
  unfold mS
  split
  · omega
  · rename_i ha
    rw [freeK_none (Bool.eq_false_iff.mpr ha)] at h1
    omega

/-! ### Room -/
theorem room_cases {s : Sl} (hl : s.length ≤ 251) : (roomI s = -1 ∧ (256 < szN s + mS s ∨ 250 < freeK s)) ∨ (0 ≤ roomI s ∧ roomI s ≤ 200 ∧ freeK s ≤ 250 ∧ (szN s : Int) + mS s + roomI s ≤ 256 ∧ (roomI s = 200 ∨ (szN s : Int) + mS s + roomI s = 256)) := by
  have hf : freeK s ≤ 250 ∨ (s.any (·.isNone) = false ∧ 250 < s.length) := by
    cases ha : s.any (·.isNone) with
    | true => left; obtain ⟨hk, _⟩ := free_at ha; omega
    | false =>
      rw [freeK_none ha]
      rcases Nat.lt_or_ge 250 s.length with h | h
      · exact .inr ⟨rfl, h⟩
      · exact .inl h
  unfold roomI mS
  cases ha : s.any (·.isNone) with
  | true =>
    simp only [if_true]
    rcases hf with hf | ⟨h, _⟩
    · split
      · left; refine ⟨rfl, .inl ?_⟩; omega
      · right; refine ⟨?_, ?_, hf, ?_, ?_⟩ <;> omega
    · rw [ha] at h; cases h
  | false =>
    simp only [Bool.false_eq_true, if_false]
    have hk := freeK_none ha
    split
    · left; refine ⟨rfl, ?_⟩; omega
    · right; refine ⟨?_, ?_, ?_, ?_, ?_⟩ <;> omega
theorem room_le (s : Sl) : roomI s ≤ 200 ∧ roomI s ≤ max 0 (256 - (szN s : Int)) := by
  unfold roomI
  cases s.any (·.isNone) with
  | true => simp only [if_true]; split <;> omega
  | false => simp only [Bool.false_eq_true, if_false]; split <;> omega
end Go.Proofs.Ytblliolkgkgppaa.V

/- The functions' pieces, as told by gen.py. -/
set_option linter.unusedVariables false
set_option maxRecDepth 20000
namespace Go.Proofs.Ytblliolkgkgppaa.V
open Go Go.V Go.RowKit


/-! ### 4: interlock/interlocklaw06.PageRoom (22); results 2; slots: 0 calls, 1 calls, 3 p, 4 i, 5 q, 6 _, 7 ok, 8 n, 9 _, 10 _, 11 more, 12 q, 13 _, 14 ok -/
/-- A loop's round; at its head live: 0 calls, 3 p, 4 i -/
noncomputable def f4_l0 : Sim Try.prog :=
  (.seq (.seq (.live [0, 3, 4, 23] (.region 7 [
    ⟨(opMove (some 20) (.tmp 4) 3 "law.go:155" #[]).op, none⟩,
    ⟨(opMove (some 21) (.tmp 0) 22 "law.go:155" #[]).op, none⟩,
    ⟨(opLen (some 22) (.tmp 21) 22 (.slice 29) Try.underlying22 3 "law.go:155" #[{ on := 1, ground := Ground.data }]).op, none⟩,
    ⟨(opBin (some 23) .lss 3 (.tmp 20) (.tmp 22) 3 4 "law.go:155" #[{ on := 0, ground := Ground.data }, { on := 2, ground := Ground.data }]).op, none⟩
  ] (by kernel_rfl)))
  (.cond (.tmp 23)
    .skip
    (.live [3] (.exit 0))))
  (.seq (.block 1 (.seq (.live [0, 3, 4, 5, 7] (.region 9 [
      ⟨(opMove (some 27) (.tmp 3) 25 "law.go:156" #[]).op, none⟩,
      ⟨(opMove (some 28) (.tmp 0) 22 "law.go:156" #[]).op, none⟩,
      ⟨(opMove (some 29) (.tmp 4) 3 "law.go:156" #[]).op, none⟩,
      ⟨(opIndexAddrT (some 30) 22 (.tmp 28) (.tmp 29) 29 3 Try.underlying22 sz29 0 "law.go:156" #[{ on := 1, ground := Ground.data }, { on := 2, ground := Ground.data }]).op, none⟩,
      ⟨(opFieldAddr (some 31) 29 (.tmp 30) 2 2 1 false fl29_2 (by decide) 0 "law.go:156" #[{ on := 3, ground := Ground.data }]).op, none⟩,
      ⟨(opLoadT (.one (.ns 1)) (some 32) 25 (.tmp 31) (.slice 5) Try.underlying25 1 sz25 (by kernel_rfl) 25 "law.go:156" #[{ on := 4, ground := Ground.data }]).op, none⟩,
      ⟨(opCallP p13 (some 33) [(.tmp 27), (.tmp 32)] #[25, 25] 33 "law.go:156" #[{ on := 0, ground := Ground.data }, { on := 5, ground := Ground.data }]).op, none⟩,
      ⟨(opMove (some 26) (.tmp 33) 33 "law.go:156" #[{ on := 6, ground := Ground.data }]).op, none⟩,
      ⟨(opExtract (some 34) (.tmp 26) 0 25 "law.go:156" #[{ on := 7, ground := Ground.data }]).op, none⟩,
      ⟨(opExtract (some 35) (.tmp 26) 1 3 "law.go:156" #[{ on := 7, ground := Ground.data }, { on := 11, ground := (Ground.gcOnly Departure.lateStores) }]).op, none⟩,
      ⟨(opExtract (some 36) (.tmp 26) 2 4 "law.go:156" #[{ on := 7, ground := Ground.data }, { on := 12, ground := (Ground.gcOnly Departure.lateStores) }]).op, none⟩,
      ⟨(opAssign (some 5) (.tmp 34) 25 "law.go:156" #[{ on := 8, ground := Ground.data }, { on := 6, ground := Ground.chain }, { on := 0, ground := Ground.phase }, { on := 1, ground := Ground.phase }, { on := 2, ground := Ground.phase }, { on := 3, ground := Ground.phase }, { on := 4, ground := Ground.phase }, { on := 5, ground := Ground.phase }, { on := 6, ground := Ground.phase }, { on := 7, ground := Ground.phase }, { on := 8, ground := Ground.phase }, { on := 9, ground := (Ground.textOnly Departure.lateStores) }, { on := 10, ground := (Ground.textOnly Departure.lateStores) }]).op, none⟩,
      ⟨(opAssign (some 6) (.tmp 35) 3 "law.go:156" #[{ on := 9, ground := Ground.data }, { on := 11, ground := Ground.chain }, { on := 0, ground := Ground.phase }, { on := 1, ground := Ground.phase }, { on := 2, ground := Ground.phase }, { on := 3, ground := Ground.phase }, { on := 4, ground := Ground.phase }, { on := 5, ground := Ground.phase }, { on := 6, ground := Ground.phase }, { on := 7, ground := Ground.phase }, { on := 8, ground := Ground.phase }, { on := 9, ground := Ground.phase }, { on := 10, ground := (Ground.textOnly Departure.lateStores) }, { on := 11, ground := Ground.phase }]).op, none⟩,
      ⟨(opAssign (some 7) (.tmp 36) 4 "law.go:156" #[{ on := 10, ground := Ground.data }, { on := 12, ground := Ground.chain }, { on := 0, ground := Ground.phase }, { on := 1, ground := Ground.phase }, { on := 2, ground := Ground.phase }, { on := 3, ground := Ground.phase }, { on := 4, ground := Ground.phase }, { on := 5, ground := Ground.phase }, { on := 6, ground := Ground.phase }, { on := 7, ground := Ground.phase }, { on := 8, ground := Ground.phase }, { on := 9, ground := Ground.phase }, { on := 10, ground := Ground.phase }, { on := 11, ground := Ground.phase }, { on := 12, ground := Ground.phase }]).op, none⟩
    ] (by kernel_rfl)))
    (.seq (.live [0, 3, 4, 5, 37] (.region 10 [
      ⟨(opMove (some 37) (.tmp 7) 4 "law.go:157" #[]).op, none⟩
    ] (by kernel_rfl)))
    (.cond (.tmp 37)
      (.live [0, 3, 4] (.region 11 [
        ⟨(opMove (some 38) (.tmp 5) 25 "law.go:158" #[]).op, none⟩,
        ⟨(opAssign (some 3) (.tmp 38) 25 "law.go:158" #[{ on := 0, ground := Ground.data }, { on := 0, ground := Ground.phase }]).op, none⟩
      ] (by kernel_rfl)))
      .skip))))
  (.live [0, 3, 4] (.region 8 [
    ⟨(opMove (some 24) (.tmp 4) 3 "law.go:155" #[]).op, none⟩,
    ⟨(opBin (some 25) .add 3 (.tmp 24) (.const (Value.int IntKind.i64 1)) 3 3 "law.go:155" #[{ on := 0, ground := Ground.data }]).op, none⟩,
    ⟨(opAssign (some 4) (.tmp 25) 3 "law.go:155" #[{ on := 1, ground := Ground.data }, { on := 0, ground := Ground.phase }, { on := 1, ground := Ground.phase }]).op, none⟩
  ] (by kernel_rfl)))))

/-- What follows a loop. -/
noncomputable def f4_r0 : Sim Try.prog :=
  (.seq (.live [3, 8] (.region 12 [
    ⟨(opMove (some 39) (.tmp 3) 25 "law.go:161" #[]).op, none⟩,
    ⟨(opCallP p14 (some 40) [(.tmp 39)] #[25] 3 "law.go:161" #[{ on := 0, ground := Ground.data }]).op, none⟩,
    ⟨(opAssign (some 8) (.tmp 40) 3 "law.go:161" #[{ on := 1, ground := Ground.data }, { on := 1, ground := Ground.chain }, { on := 0, ground := Ground.phase }, { on := 1, ground := Ground.phase }]).op, none⟩
  ] (by kernel_rfl)))
  (.seq (.live [3, 8, 11] (.region 13 [
    ⟨(opMove (some 42) (.tmp 3) 25 "law.go:162" #[]).op, none⟩,
    ⟨(opMove (some 43) (.tmp 8) 3 "law.go:162" #[]).op, none⟩,
    ⟨(opBin (some 44) .add 3 (.tmp 43) (.const (Value.int IntKind.i64 1)) 3 3 "law.go:162" #[{ on := 1, ground := Ground.data }]).op, none⟩,
    ⟨(opMinMax (some 45) true (.tmp 44) [(.const (Value.int IntKind.i64 0))] #[3, 3] 3 "law.go:162" #[{ on := 2, ground := Ground.data }]).op, none⟩,
    ⟨(opMakeF (some 46) 25 (.tmp 45) 5 1 1 (.int .u8 0) el25 [AV.int .u8 0] (by kernel_rfl) (by kernel_rfl) (by kernel_rfl) 25 "law.go:162" #[{ on := 3, ground := Ground.data }, { on := 3, ground := Ground.data }]).op, none⟩,
    ⟨(opCallP p13 (some 47) [(.tmp 42), (.tmp 46)] #[25, 25] 33 "law.go:162" #[{ on := 0, ground := Ground.data }, { on := 4, ground := Ground.data }]).op, none⟩,
    ⟨(opMove (some 41) (.tmp 47) 33 "law.go:162" #[{ on := 5, ground := Ground.data }]).op, none⟩,
    ⟨(opExtract (some 48) (.tmp 41) 0 25 "law.go:162" #[{ on := 6, ground := Ground.data }]).op, none⟩,
    ⟨(opExtract (some 49) (.tmp 41) 1 3 "law.go:162" #[{ on := 6, ground := Ground.data }, { on := 10, ground := (Ground.gcOnly Departure.lateStores) }]).op, none⟩,
    ⟨(opExtract (some 50) (.tmp 41) 2 4 "law.go:162" #[{ on := 6, ground := Ground.data }, { on := 11, ground := (Ground.gcOnly Departure.lateStores) }]).op, none⟩,
    ⟨(opAssign (some 9) (.tmp 48) 25 "law.go:162" #[{ on := 7, ground := Ground.data }, { on := 5, ground := Ground.chain }, { on := 0, ground := Ground.phase }, { on := 1, ground := Ground.phase }, { on := 2, ground := Ground.phase }, { on := 3, ground := Ground.phase }, { on := 4, ground := Ground.phase }, { on := 5, ground := Ground.phase }, { on := 6, ground := Ground.phase }, { on := 7, ground := Ground.phase }, { on := 8, ground := (Ground.textOnly Departure.lateStores) }, { on := 9, ground := (Ground.textOnly Departure.lateStores) }]).op, none⟩,
    ⟨(opAssign (some 10) (.tmp 49) 3 "law.go:162" #[{ on := 8, ground := Ground.data }, { on := 10, ground := Ground.chain }, { on := 0, ground := Ground.phase }, { on := 1, ground := Ground.phase }, { on := 2, ground := Ground.phase }, { on := 3, ground := Ground.phase }, { on := 4, ground := Ground.phase }, { on := 5, ground := Ground.phase }, { on := 6, ground := Ground.phase }, { on := 7, ground := Ground.phase }, { on := 8, ground := Ground.phase }, { on := 9, ground := (Ground.textOnly Departure.lateStores) }, { on := 10, ground := Ground.phase }]).op, none⟩,
    ⟨(opAssign (some 11) (.tmp 50) 4 "law.go:162" #[{ on := 9, ground := Ground.data }, { on := 11, ground := Ground.chain }, { on := 0, ground := Ground.phase }, { on := 1, ground := Ground.phase }, { on := 2, ground := Ground.phase }, { on := 3, ground := Ground.phase }, { on := 4, ground := Ground.phase }, { on := 5, ground := Ground.phase }, { on := 6, ground := Ground.phase }, { on := 7, ground := Ground.phase }, { on := 8, ground := Ground.phase }, { on := 9, ground := Ground.phase }, { on := 10, ground := Ground.phase }, { on := 11, ground := Ground.phase }]).op, none⟩
  ] (by kernel_rfl)))
  (.seq (.seq (.live [3, 8, 11, 56] (.region 14 [
    ⟨(opMove (some 51) (.tmp 8) 3 "law.go:163" #[]).op, none⟩,
    ⟨(opBin (some 52) .lss 3 (.tmp 51) (.const (Value.int IntKind.i64 0)) 3 4 "law.go:163" #[{ on := 0, ground := Ground.data }]).op, none⟩,
    ⟨(opMove (some 53) (.tmp 52) 4 "law.go:163" #[{ on := 1, ground := Ground.data }]).op, none⟩,
    ⟨(opMove (some 54) (.tmp 8) 3 "law.go:163" #[{ on := 2, ground := Ground.guard }]).op, (some (2, 53, false))⟩,
    ⟨(opBin (some 55) .gtr 3 (.tmp 54) (.const (Value.int IntKind.i64 200)) 3 4 "law.go:163" #[{ on := 3, ground := Ground.data }, { on := 2, ground := Ground.guard }]).op, (some (2, 53, false))⟩,
    ⟨(opPick (some 56) (.tmp 53) (.const (Value.bool true)) (.tmp 55) 4 "law.go:163" #[{ on := 2, ground := Ground.data }, { on := 4, ground := Ground.data }]).op, none⟩
  ] (by kernel_rfl)))
  (.cond (.tmp 56)
    (.seq (.live [2] (.region 15 [
      ⟨(opMove (some 57) (.tmp 8) 3 "law.go:164" #[]).op, none⟩,
      ⟨(opBin (some 58) .eql 3 (.tmp 57) (.const (Value.int IntKind.i64 (-1))) 3 4 "law.go:164" #[{ on := 0, ground := Ground.data }]).op, none⟩,
      ⟨(opMove (some 59) (.tmp 58) 4 "law.go:164" #[{ on := 1, ground := Ground.data }]).op, none⟩,
      ⟨(opMove (some 60) (.tmp 11) 4 "law.go:164" #[{ on := 2, ground := Ground.guard }]).op, (some (2, 59, true))⟩,
      ⟨(opNot (some 61) 4 (.tmp 60) 4 "law.go:164" #[{ on := 3, ground := Ground.data }, { on := 2, ground := Ground.guard }]).op, (some (2, 59, true))⟩,
      ⟨(opPick (some 62) (.tmp 59) (.tmp 61) (.const (Value.bool false)) 4 "law.go:164" #[{ on := 2, ground := Ground.data }, { on := 4, ground := Ground.data }]).op, none⟩,
      ⟨(opAssign (some 2) (.tmp 62) 4 "law.go:164" #[{ on := 5, ground := Ground.data }, { on := 2, ground := Ground.chain }, { on := 0, ground := Ground.phase }, { on := 1, ground := Ground.phase }, { on := 2, ground := Ground.phase }, { on := 3, ground := Ground.phase }, { on := 4, ground := Ground.phase }, { on := 5, ground := Ground.phase }]).op, none⟩
    ] (by kernel_rfl)))
    (.live [2] .ret))
    .skip))
  (.seq (.live [8, 11, 12, 14] (.region 16 [
    ⟨(opMove (some 64) (.tmp 3) 25 "law.go:166" #[]).op, none⟩,
    ⟨(opMove (some 65) (.tmp 8) 3 "law.go:166" #[]).op, none⟩,
    ⟨(opMakeF (some 66) 25 (.tmp 65) 5 1 1 (.int .u8 0) el25 [AV.int .u8 0] (by kernel_rfl) (by kernel_rfl) (by kernel_rfl) 25 "law.go:166" #[{ on := 1, ground := Ground.data }, { on := 1, ground := Ground.data }]).op, none⟩,
    ⟨(opCallP p13 (some 67) [(.tmp 64), (.tmp 66)] #[25, 25] 33 "law.go:166" #[{ on := 0, ground := Ground.data }, { on := 2, ground := Ground.data }]).op, none⟩,
    ⟨(opMove (some 63) (.tmp 67) 33 "law.go:166" #[{ on := 3, ground := Ground.data }]).op, none⟩,
    ⟨(opExtract (some 68) (.tmp 63) 0 25 "law.go:166" #[{ on := 4, ground := Ground.data }]).op, none⟩,
    ⟨(opExtract (some 69) (.tmp 63) 1 3 "law.go:166" #[{ on := 4, ground := Ground.data }, { on := 8, ground := (Ground.gcOnly Departure.lateStores) }]).op, none⟩,
    ⟨(opExtract (some 70) (.tmp 63) 2 4 "law.go:166" #[{ on := 4, ground := Ground.data }, { on := 9, ground := (Ground.gcOnly Departure.lateStores) }]).op, none⟩,
    ⟨(opAssign (some 12) (.tmp 68) 25 "law.go:166" #[{ on := 5, ground := Ground.data }, { on := 3, ground := Ground.chain }, { on := 0, ground := Ground.phase }, { on := 1, ground := Ground.phase }, { on := 2, ground := Ground.phase }, { on := 3, ground := Ground.phase }, { on := 4, ground := Ground.phase }, { on := 5, ground := Ground.phase }, { on := 6, ground := (Ground.textOnly Departure.lateStores) }, { on := 7, ground := (Ground.textOnly Departure.lateStores) }]).op, none⟩,
    ⟨(opAssign (some 13) (.tmp 69) 3 "law.go:166" #[{ on := 6, ground := Ground.data }, { on := 8, ground := Ground.chain }, { on := 0, ground := Ground.phase }, { on := 1, ground := Ground.phase }, { on := 2, ground := Ground.phase }, { on := 3, ground := Ground.phase }, { on := 4, ground := Ground.phase }, { on := 5, ground := Ground.phase }, { on := 6, ground := Ground.phase }, { on := 7, ground := (Ground.textOnly Departure.lateStores) }, { on := 8, ground := Ground.phase }]).op, none⟩,
    ⟨(opAssign (some 14) (.tmp 70) 4 "law.go:166" #[{ on := 7, ground := Ground.data }, { on := 9, ground := Ground.chain }, { on := 0, ground := Ground.phase }, { on := 1, ground := Ground.phase }, { on := 2, ground := Ground.phase }, { on := 3, ground := Ground.phase }, { on := 4, ground := Ground.phase }, { on := 5, ground := Ground.phase }, { on := 6, ground := Ground.phase }, { on := 7, ground := Ground.phase }, { on := 8, ground := Ground.phase }, { on := 9, ground := Ground.phase }]).op, none⟩
  ] (by kernel_rfl)))
  (.seq (.live [2] (.region 17 [
    ⟨(opMove (some 71) (.tmp 14) 4 "law.go:167" #[]).op, none⟩,
    ⟨(opMove (some 72) (.tmp 71) 4 "law.go:167" #[{ on := 0, ground := Ground.data }]).op, none⟩,
    ⟨(opMove (some 73) (.tmp 11) 4 "law.go:167" #[{ on := 1, ground := Ground.guard }]).op, (some (1, 72, true))⟩,
    ⟨(opNot (some 74) 4 (.tmp 73) 4 "law.go:167" #[{ on := 2, ground := Ground.data }, { on := 1, ground := Ground.guard }]).op, (some (1, 72, true))⟩,
    ⟨(opPick (some 75) (.tmp 72) (.tmp 74) (.const (Value.bool false)) 4 "law.go:167" #[{ on := 1, ground := Ground.data }, { on := 3, ground := Ground.data }]).op, none⟩,
    ⟨(opMove (some 76) (.tmp 75) 4 "law.go:167" #[{ on := 4, ground := Ground.data }, { on := 1, ground := Ground.chain }]).op, none⟩,
    ⟨(opMove (some 77) (.tmp 12) 25 "law.go:167" #[{ on := 5, ground := Ground.guard }]).op, (some (5, 76, true))⟩,
    ⟨(opCallP p14 (some 78) [(.tmp 77)] #[25] 3 "law.go:167" #[{ on := 6, ground := Ground.data }, { on := 5, ground := Ground.chain }, { on := 5, ground := Ground.guard }]).op, (some (5, 76, true))⟩,
    ⟨(opMove (some 79) (.tmp 8) 3 "law.go:167" #[{ on := 5, ground := Ground.guard }]).op, (some (5, 76, true))⟩,
    ⟨(opBin (some 80) .leq 3 (.tmp 78) (.tmp 79) 3 4 "law.go:167" #[{ on := 7, ground := Ground.data }, { on := 8, ground := Ground.data }, { on := 5, ground := Ground.guard }]).op, (some (5, 76, true))⟩,
    ⟨(opPick (some 81) (.tmp 76) (.tmp 80) (.const (Value.bool false)) 4 "law.go:167" #[{ on := 5, ground := Ground.data }, { on := 9, ground := Ground.data }]).op, none⟩,
    ⟨(opAssign (some 2) (.tmp 81) 4 "law.go:167" #[{ on := 10, ground := Ground.data }, { on := 7, ground := Ground.chain }, { on := 0, ground := Ground.phase }, { on := 1, ground := Ground.phase }, { on := 2, ground := Ground.phase }, { on := 3, ground := Ground.phase }, { on := 4, ground := Ground.phase }, { on := 5, ground := Ground.phase }, { on := 6, ground := Ground.phase }, { on := 7, ground := Ground.phase }, { on := 8, ground := Ground.phase }, { on := 9, ground := Ground.phase }, { on := 10, ground := Ground.phase }]).op, none⟩
  ] (by kernel_rfl)))
  (.live [2] .ret))))))

noncomputable def f4_b : Sim Try.prog :=
  (.seq (.live [0] (.region 0 [
    ⟨(opAssign (some 2) (.const (Value.bool false)) 4 "law.go:147" #[]).op, none⟩
  ] (by kernel_rfl)))
  (.seq (.seq (.live [0, 16] (.region 1 [
    ⟨(opCallP p8 (some 15) [] #[] 4 "law.go:148" #[]).op, none⟩,
    ⟨(opNot (some 16) 4 (.tmp 15) 4 "law.go:148" #[{ on := 0, ground := Ground.data }]).op, none⟩
  ] (by kernel_rfl)))
  (.cond (.tmp 16)
    (.seq (.live [2] (.region 2 [
      ⟨(opAssign (some 2) (.const (Value.bool false)) 4 "law.go:149" #[]).op, none⟩
    ] (by kernel_rfl)))
    (.live [2] .ret))
    .skip))
  (.seq (.seq (.live [0, 18] (.region 3 [
    ⟨(opMove (some 17) (.tmp 0) 22 "law.go:151" #[]).op, none⟩,
    ⟨(opCallP p9 (some 18) [(.tmp 17)] #[22] 4 "law.go:151" #[{ on := 0, ground := Ground.data }]).op, none⟩
  ] (by kernel_rfl)))
  (.cond (.tmp 18)
    (.seq (.live [2] (.region 4 [
      ⟨(opAssign (some 2) (.const (Value.bool true)) 4 "law.go:152" #[]).op, none⟩
    ] (by kernel_rfl)))
    (.live [2] .ret))
    .skip))
  (.seq (.live [0, 3] (.region 5 [
    ⟨(opCallP p10 (some 19) [] #[] 25 "law.go:154" #[]).op, none⟩,
    ⟨(opAssign (some 3) (.tmp 19) 25 "law.go:154" #[{ on := 0, ground := Ground.data }, { on := 0, ground := Ground.chain }, { on := 0, ground := Ground.phase }]).op, none⟩
  ] (by kernel_rfl)))
  (.seq (.seq (.live [0, 3, 4] (.region 6 [
    ⟨(opAssign (some 4) (.const (Value.int IntKind.i64 0)) 3 "law.go:155" #[]).op, none⟩
  ] (by kernel_rfl)))
  (.block 0 (.loop [0, 3, 4] f4_l0)))
  f4_r0)))))

noncomputable def f4 : Fun Try.prog where
  id := 4
  fn := Try.f4
  hf := Try.func4
  hname := by kernel_rfl
  body := f4_b
  hbody := by kernel_rfl
  res := [rTmp 2]
  hres := by kernel_rfl
  n := 82
  hn := by kernel_rfl

end Go.Proofs.Ytblliolkgkgppaa.V

/- What the functions' runs come to; the right sides were printed by a tool, Lean checks them. -/
set_option linter.unusedVariables false
set_option maxRecDepth 100000
namespace Go.Proofs.Ytblliolkgkgppaa.V
open Go Go.V Go.RowKit

theorem room_law (F : Nat) (z : Bool) (l : List (List AV)) :
    (f4.run F [.ns z 3 l] ⟨[], []⟩ : Ans) =
    branch (AV.bool (okCl l))
      (branch (AV.bool (greatB l)) (some (Fin.ret (AV.bool true), St.mk [] []))
        (loopRun (f4_l0.run F) [0, 3, 4]
          (Cont.block 0 (Cont.then (f4_r0.run F (f4.leaveK Fun.done)) (f4.leaveK Fun.done))) F
          (Env.mk 82
            [(0, AV.ns z 3 l), (3, AV.ns false 1 (bR zeroP)),
              (4, AV.int IntKind.i64 (0 : Int))])
          (St.mk [] [])))
      none := by kernel_rfl

theorem room_round (F m : Nat) (K : Cont) (z y : Bool) (l p : List (List AV)) (i : Int) :
    (loopRun (f4_l0.run F) [0, 3, 4] K m.succ (Env.mk 82 [(0, .ns z 3 l), (3, .ns y 1 p), (4, .int .i64 i)]) ⟨[], []⟩ : Ans) =
    branch (AV.bool (decide (i < (↑l.length : Int))))
      (branch (AV.bool (inR l i))
        (branch (AV.bool ((LD.one (LT.ns 1)).is (List.drop 2 (V.rowAt l i))))
          (branch
            (AV.bool
              (byOk p &&
                (byOk (rwA (List.drop 2 (V.rowAt l i))) &&
                  apOk (rwA (List.drop 2 (V.rowAt l i))).length 1)))
            (branch (AV.bool (oB (addP (nR p) (nR (rwA (List.drop 2 (V.rowAt l i)))))))
              (loopRun (f4_l0.run F) [0, 3, 4] K m
                (Env.mk 82
                  [(0, AV.ns z 3 l),
                    (3,
                      AV.ns (!oB (addP (nR p) (nR (rwA (List.drop 2 (V.rowAt l i)))))) 1
                        (oR (addP (nR p) (nR (rwA (List.drop 2 (V.rowAt l i))))))),
                    (4, AV.int IntKind.i64 (IntKind.i64.wrap (i + (1 : Int))))])
                (St.mk [] []))
              (loopRun (f4_l0.run F) [0, 3, 4] K m
                (Env.mk 82
                  [(0, AV.ns z 3 l), (3, AV.ns y 1 p),
                    (4, AV.int IntKind.i64 (IntKind.i64.wrap (i + (1 : Int))))])
                (St.mk [] [])))
            none)
          none)
        none)
      (K (AX.exit 0) (Env.mk 82 [(3, AV.ns y 1 p)]) (St.mk [] [])) := by kernel_rfl

theorem room_out (F : Nat) (y : Bool) (p : List (List AV)) :
    ((Cont.block 0 (Cont.then (f4_r0.run F (f4.leaveK Fun.done)) (f4.leaveK Fun.done))) (.exit 0) (Env.mk 82 [(3, .ns y 1 p)]) ⟨[], []⟩ : Ans) =
    branch (AV.bool (byOk p))
      (branch
        (AV.bool
          (decide ((0 : Int) ≤ leastI true (IntKind.i64.wrap (roomP (nR p) + (1 : Int))) (0 : Int)) &&
            ((1 * (leastI true (IntKind.i64.wrap (roomP (nR p) + (1 : Int))) (0 : Int)).toNat).ble
                281474976710656 &&
              (leastI true (IntKind.i64.wrap (roomP (nR p) + (1 : Int))) (0 : Int)).toNat.ble 9223372036854775807)))
        (branch
          (AV.bool
            (byOk p &&
              (byOk
                  (List.replicate (leastI true (IntKind.i64.wrap (roomP (nR p) + (1 : Int))) (0 : Int)).toNat
                    [AV.int IntKind.u8 (0 : Int)]) &&
                apOk
                  (List.replicate (leastI true (IntKind.i64.wrap (roomP (nR p) + (1 : Int))) (0 : Int)).toNat
                      [AV.int IntKind.u8 (0 : Int)]).length
                  1)))
          (branch (AV.bool (decide (roomP (nR p) < (0 : Int))))
            (branch (AV.bool (roomP (nR p) == (-1 : Int)))
              (some
                (Fin.ret
                    (AV.bool
                      !oB
                          (addP (nR p)
                            (nR
                              (List.replicate (leastI true (IntKind.i64.wrap (roomP (nR p) + (1 : Int))) (0 : Int)).toNat
                                [AV.int IntKind.u8 (0 : Int)])))),
                  St.mk [] []))
              (some (Fin.ret (AV.bool false), St.mk [] [])))
            (branch (AV.bool (decide (roomP (nR p) > (200 : Int))))
              (branch (AV.bool (roomP (nR p) == (-1 : Int)))
                (some
                  (Fin.ret
                      (AV.bool
                        !oB
                            (addP (nR p)
                              (nR
                                (List.replicate (leastI true (IntKind.i64.wrap (roomP (nR p) + (1 : Int))) (0 : Int)).toNat
                                  [AV.int IntKind.u8 (0 : Int)])))),
                    St.mk [] []))
                (some (Fin.ret (AV.bool false), St.mk [] [])))
              (branch
                (AV.bool
                  (decide ((0 : Int) ≤ roomP (nR p)) &&
                    ((1 * (roomP (nR p)).toNat).ble 281474976710656 &&
                      (roomP (nR p)).toNat.ble 9223372036854775807)))
                (branch
                  (AV.bool
                    (byOk p &&
                      (byOk (List.replicate (roomP (nR p)).toNat [AV.int IntKind.u8 (0 : Int)]) &&
                        apOk (List.replicate (roomP (nR p)).toNat [AV.int IntKind.u8 (0 : Int)]).length 1)))
                  (branch
                    (AV.bool (oB (addP (nR p) (nR (List.replicate (roomP (nR p)).toNat [AV.int IntKind.u8 (0 : Int)])))))
                    (branch
                      (AV.bool
                        !oB
                            (addP (nR p)
                              (nR
                                (List.replicate (leastI true (IntKind.i64.wrap (roomP (nR p) + (1 : Int))) (0 : Int)).toNat
                                  [AV.int IntKind.u8 (0 : Int)]))))
                      (branch
                        (AV.bool
                          (byOk
                            (oR (addP (nR p) (nR (List.replicate (roomP (nR p)).toNat [AV.int IntKind.u8 (0 : Int)]))))))
                        (some
                          (Fin.ret
                              (AV.bool
                                (decide
                                  (roomP
                                      (nR
                                        (oR
                                          (addP (nR p)
                                            (nR (List.replicate (roomP (nR p)).toNat [AV.int IntKind.u8 (0 : Int)]))))) ≤
                                    roomP (nR p)))),
                            St.mk [] []))
                        none)
                      (some (Fin.ret (AV.bool false), St.mk [] [])))
                    (some (Fin.ret (AV.bool false), St.mk [] [])))
                  none)
                none)))
          none)
        none)
      none := by kernel_rfl

end Go.Proofs.Ytblliolkgkgppaa.V

/- Page: PageRoom is true. -/
set_option linter.unusedVariables false
namespace Go.Proofs.Ytblliolkgkgppaa.V
open Go Go.V Go.RowKit

/-- A law's calls. -/
def Calls' (l : List (List AV)) : Prop := ∀ r ∈ l, ∃ w s z d, r = [.int .i64 w, .int .i64 s, .ns z 1 d] ∧ okR d = true ∧ (z = true → d = []) ∧ d.length < 4611686018427387904 ∧ (-9223372036854775808 ≤ s ∧ s ≤ 9223372036854775807)
theorem Calls'.ok {l : List (List AV)} (h : Calls' l) (hl : l.length < 4611686018427387904) : okCl l = true := by
  rw [okCl_iff]
  refine ⟨fun r hr => ?_, hl⟩
  obtain ⟨w, s, z, d, rfl, h1, _, h3, _⟩ := h r hr
  show (okR d && fit d.length) = true
  rw [h1, Bool.true_and, fit_iff]
  exact h3
/-- A call's bytes. -/
def cD (r : List AV) : List Nat := nR (rwA (r.drop 2))
theorem call_at {l : List (List AV)} (h : Calls' l) (hg : greatB l = false) {i : Nat} (hi : i < l.length) :
    (LD.one (LT.ns 1)).is (List.drop 2 (V.rowAt l (i : Int))) = true ∧ byOk (rwA (List.drop 2 (V.rowAt l (i : Int)))) = true ∧ apOk (rwA (List.drop 2 (V.rowAt l (i : Int)))).length 1 = true ∧ (∀ x ∈ cD (V.rowAt l (i : Int)), x < 256) := by
  rw [rowAt_nat hi]
  rw [greatB, opq_eq, Bool.or_eq_false_iff, List.any_eq_false] at hg
  have hs := hg.2 l[i] (List.getElem_mem hi)
  obtain ⟨w, s, z, d, hr, h1, _, h3, _⟩ := h l[i] (List.getElem_mem hi)
  rw [hr] at hs ⊢
  simp only [bigCall, List.drop_succ_cons, List.drop_zero, rwA, decide_eq_true_eq] at hs
  refine ⟨rfl, ?_, ?_, ?_⟩
  · show byOk d = true
    rw [byOk_iff]; exact ⟨h1, h3⟩
  · show apOk d.length 1 = true
    rw [apOk_iff]; omega
  · exact fun x hx => okR_lt h1 hx
theorem great_len {l : List (List AV)} (hg : greatB l = false) : l.length ≤ 100 := by
  rw [greatB, opq_eq, Bool.or_eq_false_iff] at hg
  have := hg.1
  simp only [decide_eq_false_iff_not] at this
  omega
noncomputable abbrev roomK (F : Nat) : Cont := Cont.block 0 (Cont.then (f4_r0.run F (f4.leaveK Fun.done)) (f4.leaveK Fun.done))
theorem room_loop (F : Nat) (z : Bool) (l : List (List AV)) (hc : Calls' l) (hg : greatB l = false) : ∀ (k m i : Nat) (y : Bool) (p : List Nat), i + k = l.length → k < m → Pg p → (ofS p).length ≤ 251 →
    ∃ y' q, Pg q ∧ (ofS q).length ≤ 251 ∧ loopRun (f4_l0.run F) [0, 3, 4] (roomK F) m (Env.mk 82 [(0, .ns z 3 l), (3, .ns y 1 (bR p)), (4, .int .i64 (i : Int))]) ⟨[], []⟩ = roomK F (.exit 0) (Env.mk 82 [(3, .ns y' 1 (bR q))]) ⟨[], []⟩
  | k, 0, i, y, p, hi, hm, hp, hl => by omega
  | 0, m + 1, i, y, p, hi, hm, hp, hl => ⟨y, p, hp, hl, by rw [show m + 1 = m.succ from rfl, room_round, branch_not (by simp; omega)]⟩
  | k + 1, m + 1, i, y, p, hi, hm, hp, hl => by
    have h1 : i < l.length := by omega
    have h100 := great_len hg
    obtain ⟨c1, c2, c3, c4⟩ := call_at hc hg h1
    have w0 : IntKind.i64.wrap ((i : Int) + 1) = ((i + 1 : Nat) : Int) := wrap_succ (by omega)
    have hby : byOk (bR p) = true := byOk_bR hp.1 (by rw [hp.2.1]; omega)
    rw [show m + 1 = m.succ from rfl, room_round, branch_of (by simpa using h1), branch_of (inR_nat h1), branch_of c1, branch_of (by rw [hby, c2, c3]; rfl), nR_bR, w0]
    cases ha : addP p (nR (rwA (List.drop 2 (V.rowAt l (i : Int))))) with
    | none =>
      rw [oB_none, branch_false]
      exact room_loop F z l hc hg k m (i + 1) y p (by omega) (by omega) hp hl
    | some q =>
      rw [oB_some, branch_true, oR_some]
      exact room_loop F z l hc hg k m (i + 1) _ q (by omega) (by omega) (hp.add c4 ha).1 (add_len hp hl c4 ha)
theorem zeros_row (c : Nat) : List.replicate c [AV.int IntKind.u8 (0 : Int)] = bR (List.replicate c 0) := by simp [bR]
theorem leastI_max (a b : Int) : leastI true a b = max a b := by
  unfold leastI
  simp only
  split
  · rw [Int.max_eq_right (by omega)]
  · rw [Int.max_eq_left (by omega)]
theorem pageRoom_true (z : Bool) (l : List (List AV)) (hc : Calls' l) (hl : l.length < 4611686018427387904) : ∃ F st, f4.run F [.ns z 3 l] ⟨[], []⟩ = some (.ret (.bool true), st) := by
  refine ⟨l.length + 1, ?_⟩
  rw [room_law, branch_of (hc.ok hl)]
  cases hg : greatB l with
  | true => exact ⟨_, rfl⟩
  | false =>
    obtain ⟨z0, z1⟩ := zeros_pg
    rw [branch_false, zeroP_eq]
    obtain ⟨y, p, hp, hpl, h⟩ := room_loop (l.length + 1) z l hc hg l.length (l.length + 1) 0 false (List.replicate 256 0) (by omega) (by omega) z0 (by rw [z1]; simp)
    rw [show (0 : Int) = ((0 : Nat) : Int) from rfl, h, roomK, room_out, nR_bR]
    have hby : byOk (bR p) = true := byOk_bR hp.1 (by rw [hp.2.1]; omega)
    have hr : roomP p = roomI (ofS p) := by rw [roomP, opq_eq, if_pos hp.2.2]
    have hle := (room_le (ofS p)).1
    have hzb : ∀ c, c ≤ 1000 → byOk (bR (List.replicate c 0)) = true ∧ apOk (bR (List.replicate c 0)).length 1 = true := fun c h => ⟨byOk_bR (fun b hb => by rw [List.eq_of_mem_replicate hb]; omega) (by rw [List.length_replicate]; omega), by rw [apOk_iff, bR_length, List.length_replicate]; omega⟩
    rw [branch_of hby, hr]
    rcases room_cases hpl with ⟨e, h2⟩ | ⟨h0, _, h2, h3, h4⟩
    · have hno : addP p [] = none := by
        rw [addP_eq hp, if_neg]
        rintro ⟨k1, k2, _⟩
        simp only [List.length_nil] at k2
        omega
      rw [e, show leastI true (IntKind.i64.wrap (-1 + 1)) 0 = 0 from rfl, branch_of (by decide), zeros_row, show (0 : Int).toNat = 0 from rfl, branch_of (by rw [hby, (hzb 0 (by omega)).1, (hzb 0 (by omega)).2]; rfl), branch_of (by decide), branch_of (by decide), nR_bR, show List.replicate 0 0 = ([] : List Nat) from rfl, hno, oB_none]
      exact ⟨_, rfl⟩
    · obtain ⟨n, hn⟩ := Int.eq_ofNat_of_zero_le h0
      rw [hn] at h3 h4 hle ⊢
      have hw : leastI true (IntKind.i64.wrap ((n : Int) + 1)) 0 = ((n + 1 : Nat) : Int) := by rw [wrap_succ (by omega), leastI_max]; omega
      have hyes : addP p (List.replicate n 0) = some (pgB (withS (ofS p) (freeK (ofS p)) (some (List.replicate n 0)))) := by
        rw [addP_eq hp, if_pos ⟨h2, by rw [List.length_replicate]; omega, by rw [List.length_replicate]; omega⟩]
      have hno : addP p (List.replicate (n + 1) 0) = none := by
        rw [addP_eq hp, if_neg]
        rintro ⟨k1, k2, k3⟩
        rw [List.length_replicate] at k2 k3
        omega
      have hz : ∀ x ∈ List.replicate n 0, x < 256 := fun b hb => by rw [List.eq_of_mem_replicate hb]; omega
      obtain ⟨q1, q2, _⟩ := hp.add hz hyes
      have hs := (with_free hp.slots.2.2.2.1 (List.replicate n 0)).1
      rw [List.length_replicate] at hs
      rw [hw, Int.toNat_natCast, Int.toNat_natCast, branch_of (by simp only [Bool.and_eq_true, decide_eq_true_eq, Nat.ble_eq]; omega), zeros_row, branch_of (by rw [hby, (hzb (n + 1) (by omega)).1, (hzb (n + 1) (by omega)).2]; rfl), branch_not (by simp), branch_not (by simp; omega),
        branch_of (by simp only [Bool.and_eq_true, decide_eq_true_eq, Nat.ble_eq]; omega), zeros_row, branch_of (by rw [hby, (hzb n (by omega)).1, (hzb n (by omega)).2]; rfl), nR_bR, nR_bR, hyes, hno, oB_some, oB_none, branch_true, branch_of (b := !false) rfl, oR_some,
        branch_of (byOk_bR q1.1 (by rw [q1.2.1]; omega)), nR_bR]
      refine ⟨⟨[], []⟩, ?_⟩
      have : decide (roomP (pgB (withS (ofS p) (freeK (ofS p)) (some (List.replicate n 0)))) ≤ (n : Int)) = true := by
        rw [decide_eq_true_eq, roomP, opq_eq, if_pos q1.2.2, q2]
        have := room_le (withS (ofS p) (freeK (ofS p)) (some (List.replicate n 0)))
        rw [hs] at this
        omega
      rw [this]
abbrev tyCalls : Ty := .sl (.st [.int .i64, .int .i64, .sl (.int .u8) 1]) 40
theorem calls_shape {xs : List AV} (h : Ty.Shape tyCalls xs) : ∃ z l, xs = [.ns z 3 l] ∧ Calls' l ∧ l.length < 4611686018427387904 := by
  obtain ⟨z, l, rfl, hz, h1, h2, h3⟩ := h
  refine ⟨z, l, rfl, fun r hr => ?_, ?_⟩
  · obtain ⟨a, b, rfl, ⟨w, rfl, _⟩, a2, b2, rfl, ⟨s, rfl, hs⟩, a3, b3, rfl, hd, rfl⟩ := h3 r hr
    obtain ⟨z', d, rfl, d1, d2, d3⟩ := bytes_shape hd
    refine ⟨w, s, z', d, rfl, d1, d2, d3, ?_⟩
    exact wf_i64 hs
  · have : reachBytes < 4611686018427387904 := by decide
    omega
theorem pageRoom_law (as0 : List AV) (s0 : Ty.Shape tyCalls as0) : ∃ F st, f4.run F [tyCalls.AV' as0] ⟨[], []⟩ = some (.ret (.bool true), st) := by
  obtain ⟨z, l, rfl, h1, h2⟩ := calls_shape s0
  exact pageRoom_true z l h1 h2
end Go.Proofs.Ytblliolkgkgppaa.V

/- The functions' pieces, as told by gen.py. -/
set_option linter.unusedVariables false
set_option maxRecDepth 20000
namespace Go.Proofs.Ytblliolkgkgppaa.V
open Go Go.V Go.RowKit


/-! ### 5: interlock/interlocklaw06.PageKeeps (22, 3, 25); results 6; slots:  -/
/-- A loop's round; at its head live: 0 , 1 , 2 , 7 , 8  -/
noncomputable def f5_l0 : Sim Try.prog :=
  (.seq (.seq (.live [0, 1, 2, 7, 8, 40] (.region 7 [
    ⟨(opMove (some 37) (.tmp 8) 3 "law.go:118" #[]).op, none⟩,
    ⟨(opMove (some 38) (.tmp 0) 22 "law.go:118" #[]).op, none⟩,
    ⟨(opLen (some 39) (.tmp 38) 22 (.slice 29) Try.underlying22 3 "law.go:118" #[{ on := 1, ground := Ground.data }]).op, none⟩,
    ⟨(opBin (some 40) .lss 3 (.tmp 37) (.tmp 39) 3 4 "law.go:118" #[{ on := 0, ground := Ground.data }, { on := 2, ground := Ground.data }]).op, none⟩
  ] (by kernel_rfl)))
  (.cond (.tmp 40)
    .skip
    (.live [1, 2, 7] (.exit 0))))
  (.seq (.block 1 (.seq (.live [0, 1, 2, 7, 8, 9, 11] (.region 9 [
      ⟨(opMove (some 44) (.tmp 7) 25 "law.go:119" #[]).op, none⟩,
      ⟨(opMove (some 45) (.tmp 0) 22 "law.go:119" #[]).op, none⟩,
      ⟨(opMove (some 46) (.tmp 8) 3 "law.go:119" #[]).op, none⟩,
      ⟨(opIndexAddrT (some 47) 22 (.tmp 45) (.tmp 46) 29 3 Try.underlying22 sz29 0 "law.go:119" #[{ on := 1, ground := Ground.data }, { on := 2, ground := Ground.data }]).op, none⟩,
      ⟨(opFieldAddr (some 48) 29 (.tmp 47) 2 2 1 false fl29_2 (by decide) 0 "law.go:119" #[{ on := 3, ground := Ground.data }]).op, none⟩,
      ⟨(opLoadT (.one (.ns 1)) (some 49) 25 (.tmp 48) (.slice 5) Try.underlying25 1 sz25 (by kernel_rfl) 25 "law.go:119" #[{ on := 4, ground := Ground.data }]).op, none⟩,
      ⟨(opCallP p13 (some 50) [(.tmp 44), (.tmp 49)] #[25, 25] 33 "law.go:119" #[{ on := 0, ground := Ground.data }, { on := 5, ground := Ground.data }]).op, none⟩,
      ⟨(opMove (some 43) (.tmp 50) 33 "law.go:119" #[{ on := 6, ground := Ground.data }]).op, none⟩,
      ⟨(opExtract (some 51) (.tmp 43) 0 25 "law.go:119" #[{ on := 7, ground := Ground.data }]).op, none⟩,
      ⟨(opExtract (some 52) (.tmp 43) 1 3 "law.go:119" #[{ on := 7, ground := Ground.data }, { on := 11, ground := (Ground.gcOnly Departure.lateStores) }]).op, none⟩,
      ⟨(opExtract (some 53) (.tmp 43) 2 4 "law.go:119" #[{ on := 7, ground := Ground.data }, { on := 12, ground := (Ground.gcOnly Departure.lateStores) }]).op, none⟩,
      ⟨(opAssign (some 9) (.tmp 51) 25 "law.go:119" #[{ on := 8, ground := Ground.data }, { on := 6, ground := Ground.chain }, { on := 0, ground := Ground.phase }, { on := 1, ground := Ground.phase }, { on := 2, ground := Ground.phase }, { on := 3, ground := Ground.phase }, { on := 4, ground := Ground.phase }, { on := 5, ground := Ground.phase }, { on := 6, ground := Ground.phase }, { on := 7, ground := Ground.phase }, { on := 8, ground := Ground.phase }, { on := 9, ground := (Ground.textOnly Departure.lateStores) }, { on := 10, ground := (Ground.textOnly Departure.lateStores) }]).op, none⟩,
      ⟨(opAssign (some 10) (.tmp 52) 3 "law.go:119" #[{ on := 9, ground := Ground.data }, { on := 11, ground := Ground.chain }, { on := 0, ground := Ground.phase }, { on := 1, ground := Ground.phase }, { on := 2, ground := Ground.phase }, { on := 3, ground := Ground.phase }, { on := 4, ground := Ground.phase }, { on := 5, ground := Ground.phase }, { on := 6, ground := Ground.phase }, { on := 7, ground := Ground.phase }, { on := 8, ground := Ground.phase }, { on := 9, ground := Ground.phase }, { on := 10, ground := (Ground.textOnly Departure.lateStores) }, { on := 11, ground := Ground.phase }]).op, none⟩,
      ⟨(opAssign (some 11) (.tmp 53) 4 "law.go:119" #[{ on := 10, ground := Ground.data }, { on := 12, ground := Ground.chain }, { on := 0, ground := Ground.phase }, { on := 1, ground := Ground.phase }, { on := 2, ground := Ground.phase }, { on := 3, ground := Ground.phase }, { on := 4, ground := Ground.phase }, { on := 5, ground := Ground.phase }, { on := 6, ground := Ground.phase }, { on := 7, ground := Ground.phase }, { on := 8, ground := Ground.phase }, { on := 9, ground := Ground.phase }, { on := 10, ground := Ground.phase }, { on := 11, ground := Ground.phase }, { on := 12, ground := Ground.phase }]).op, none⟩
    ] (by kernel_rfl)))
    (.seq (.live [0, 1, 2, 7, 8, 9, 54] (.region 10 [
      ⟨(opMove (some 54) (.tmp 11) 4 "law.go:120" #[]).op, none⟩
    ] (by kernel_rfl)))
    (.cond (.tmp 54)
      (.live [0, 1, 2, 7, 8] (.region 11 [
        ⟨(opMove (some 55) (.tmp 9) 25 "law.go:121" #[]).op, none⟩,
        ⟨(opAssign (some 7) (.tmp 55) 25 "law.go:121" #[{ on := 0, ground := Ground.data }, { on := 0, ground := Ground.phase }]).op, none⟩
      ] (by kernel_rfl)))
      .skip))))
  (.live [0, 1, 2, 7, 8] (.region 8 [
    ⟨(opMove (some 41) (.tmp 8) 3 "law.go:118" #[]).op, none⟩,
    ⟨(opBin (some 42) .add 3 (.tmp 41) (.const (Value.int IntKind.i64 1)) 3 3 "law.go:118" #[{ on := 0, ground := Ground.data }]).op, none⟩,
    ⟨(opAssign (some 8) (.tmp 42) 3 "law.go:118" #[{ on := 1, ground := Ground.data }, { on := 0, ground := Ground.phase }, { on := 1, ground := Ground.phase }]).op, none⟩
  ] (by kernel_rfl)))))

/-- A loop's round; at its head live: 1 , 2 , 7 , 12 , 16 , 17  -/
noncomputable def f5_l1 : Sim Try.prog :=
  (.seq (.seq (.live [1, 2, 7, 12, 16, 17, 92] (.region 20 [
    ⟨(opMove (some 89) (.tmp 17) 3 "law.go:133" #[]).op, none⟩,
    ⟨(opMove (some 90) (.tmp 16) 38 "law.go:133" #[]).op, none⟩,
    ⟨(opLen (some 91) (.tmp 90) 38 (.slice 3) Try.underlying38 3 "law.go:133" #[{ on := 1, ground := Ground.data }]).op, none⟩,
    ⟨(opBin (some 92) .lss 3 (.tmp 89) (.tmp 91) 3 4 "law.go:133" #[{ on := 0, ground := Ground.data }, { on := 2, ground := Ground.data }]).op, none⟩
  ] (by kernel_rfl)))
  (.cond (.tmp 92)
    .skip
    (.live [1, 2, 12] (.exit 2))))
  (.seq (.block 3 (.seq (.live [1, 2, 7, 12, 16, 17, 18] (.region 22 [
      ⟨(opMove (some 96) (.tmp 7) 25 "law.go:134" #[]).op, none⟩,
      ⟨(opMove (some 97) (.tmp 16) 38 "law.go:134" #[]).op, none⟩,
      ⟨(opMove (some 98) (.tmp 17) 3 "law.go:134" #[]).op, none⟩,
      ⟨(opIndexAddrT (some 99) 38 (.tmp 97) (.tmp 98) 3 1 Try.underlying38 sz3 0 "law.go:134" #[{ on := 1, ground := Ground.data }, { on := 2, ground := Ground.data }]).op, none⟩,
      ⟨(opLoadT (.one (.int .i64)) (some 100) 3 (.tmp 99) (.int .i64) Try.underlying3 1 sz3 (by kernel_rfl) 3 "law.go:134" #[{ on := 3, ground := Ground.data }]).op, none⟩,
      ⟨(opCallP p15 (some 101) [(.tmp 96), (.tmp 100)] #[25, 3] 30 "law.go:134" #[{ on := 0, ground := Ground.data }, { on := 4, ground := Ground.data }]).op, none⟩,
      ⟨(opMove (some 95) (.tmp 101) 30 "law.go:134" #[{ on := 5, ground := Ground.data }]).op, none⟩,
      ⟨(opExtract (some 102) (.tmp 95) 0 25 "law.go:134" #[{ on := 6, ground := Ground.data }]).op, none⟩,
      ⟨(opExtract (some 103) (.tmp 95) 1 4 "law.go:134" #[{ on := 6, ground := Ground.data }, { on := 9, ground := (Ground.gcOnly Departure.lateStores) }]).op, none⟩,
      ⟨(opAssign (some 18) (.tmp 102) 25 "law.go:134" #[{ on := 7, ground := Ground.data }, { on := 5, ground := Ground.chain }, { on := 0, ground := Ground.phase }, { on := 1, ground := Ground.phase }, { on := 2, ground := Ground.phase }, { on := 3, ground := Ground.phase }, { on := 4, ground := Ground.phase }, { on := 5, ground := Ground.phase }, { on := 6, ground := Ground.phase }, { on := 7, ground := Ground.phase }, { on := 8, ground := (Ground.textOnly Departure.lateStores) }]).op, none⟩,
      ⟨(opAssign (some 19) (.tmp 103) 4 "law.go:134" #[{ on := 8, ground := Ground.data }, { on := 9, ground := Ground.chain }, { on := 0, ground := Ground.phase }, { on := 1, ground := Ground.phase }, { on := 2, ground := Ground.phase }, { on := 3, ground := Ground.phase }, { on := 4, ground := Ground.phase }, { on := 5, ground := Ground.phase }, { on := 6, ground := Ground.phase }, { on := 7, ground := Ground.phase }, { on := 8, ground := Ground.phase }, { on := 9, ground := Ground.phase }]).op, none⟩
    ] (by kernel_rfl)))
    (.seq (.live [1, 2, 7, 12, 16, 17, 18, 20, 21] (.region 23 [
      ⟨(opMove (some 105) (.tmp 12) 25 "law.go:135" #[]).op, none⟩,
      ⟨(opMove (some 106) (.tmp 16) 38 "law.go:135" #[]).op, none⟩,
      ⟨(opMove (some 107) (.tmp 17) 3 "law.go:135" #[]).op, none⟩,
      ⟨(opIndexAddrT (some 108) 38 (.tmp 106) (.tmp 107) 3 1 Try.underlying38 sz3 0 "law.go:135" #[{ on := 1, ground := Ground.data }, { on := 2, ground := Ground.data }]).op, none⟩,
      ⟨(opLoadT (.one (.int .i64)) (some 109) 3 (.tmp 108) (.int .i64) Try.underlying3 1 sz3 (by kernel_rfl) 3 "law.go:135" #[{ on := 3, ground := Ground.data }]).op, none⟩,
      ⟨(opCallP p15 (some 110) [(.tmp 105), (.tmp 109)] #[25, 3] 30 "law.go:135" #[{ on := 0, ground := Ground.data }, { on := 4, ground := Ground.data }]).op, none⟩,
      ⟨(opMove (some 104) (.tmp 110) 30 "law.go:135" #[{ on := 5, ground := Ground.data }]).op, none⟩,
      ⟨(opExtract (some 111) (.tmp 104) 0 25 "law.go:135" #[{ on := 6, ground := Ground.data }]).op, none⟩,
      ⟨(opExtract (some 112) (.tmp 104) 1 4 "law.go:135" #[{ on := 6, ground := Ground.data }, { on := 9, ground := (Ground.gcOnly Departure.lateStores) }]).op, none⟩,
      ⟨(opAssign (some 20) (.tmp 111) 25 "law.go:135" #[{ on := 7, ground := Ground.data }, { on := 5, ground := Ground.chain }, { on := 0, ground := Ground.phase }, { on := 1, ground := Ground.phase }, { on := 2, ground := Ground.phase }, { on := 3, ground := Ground.phase }, { on := 4, ground := Ground.phase }, { on := 5, ground := Ground.phase }, { on := 6, ground := Ground.phase }, { on := 7, ground := Ground.phase }, { on := 8, ground := (Ground.textOnly Departure.lateStores) }]).op, none⟩,
      ⟨(opAssign (some 21) (.tmp 112) 4 "law.go:135" #[{ on := 8, ground := Ground.data }, { on := 9, ground := Ground.chain }, { on := 0, ground := Ground.phase }, { on := 1, ground := Ground.phase }, { on := 2, ground := Ground.phase }, { on := 3, ground := Ground.phase }, { on := 4, ground := Ground.phase }, { on := 5, ground := Ground.phase }, { on := 6, ground := Ground.phase }, { on := 7, ground := Ground.phase }, { on := 8, ground := Ground.phase }, { on := 9, ground := Ground.phase }]).op, none⟩
    ] (by kernel_rfl)))
    (.seq (.live [1, 2, 7, 12, 16, 17, 128] (.region 24 [
      ⟨(opMove (some 113) (.tmp 16) 38 "law.go:136" #[]).op, none⟩,
      ⟨(opMove (some 114) (.tmp 17) 3 "law.go:136" #[]).op, none⟩,
      ⟨(opIndexAddrT (some 115) 38 (.tmp 113) (.tmp 114) 3 1 Try.underlying38 sz3 0 "law.go:136" #[{ on := 0, ground := Ground.data }, { on := 1, ground := Ground.data }]).op, none⟩,
      ⟨(opLoadT (.one (.int .i64)) (some 116) 3 (.tmp 115) (.int .i64) Try.underlying3 1 sz3 (by kernel_rfl) 3 "law.go:136" #[{ on := 2, ground := Ground.data }]).op, none⟩,
      ⟨(opMove (some 117) (.tmp 1) 3 "law.go:136" #[]).op, none⟩,
      ⟨(opBin (some 118) .neq 3 (.tmp 116) (.tmp 117) 3 4 "law.go:136" #[{ on := 3, ground := Ground.data }, { on := 4, ground := Ground.data }]).op, none⟩,
      ⟨(opMove (some 119) (.tmp 118) 4 "law.go:136" #[{ on := 5, ground := Ground.data }]).op, none⟩,
      ⟨(opMove (some 120) (.tmp 21) 4 "law.go:136" #[{ on := 6, ground := Ground.guard }]).op, (some (6, 119, true))⟩,
      ⟨(opNot (some 121) 4 (.tmp 120) 4 "law.go:136" #[{ on := 7, ground := Ground.data }, { on := 6, ground := Ground.guard }]).op, (some (6, 119, true))⟩,
      ⟨(opMove (some 122) (.tmp 121) 4 "law.go:136" #[{ on := 8, ground := Ground.data }, { on := 6, ground := Ground.chain }, { on := 6, ground := Ground.guard }]).op, (some (6, 119, true))⟩,
      ⟨(opMove (some 123) (.tmp 18) 25 "law.go:136" #[{ on := 9, ground := Ground.guard }]).op, (some (9, 122, false))⟩,
      ⟨(opMove (some 124) (.tmp 20) 25 "law.go:136" #[{ on := 9, ground := Ground.guard }]).op, (some (9, 122, false))⟩,
      ⟨(opCallP p12 (some 125) [(.tmp 123), (.tmp 124)] #[25, 25] 4 "law.go:136" #[{ on := 10, ground := Ground.data }, { on := 11, ground := Ground.data }, { on := 9, ground := Ground.chain }, { on := 9, ground := Ground.guard }]).op, (some (9, 122, false))⟩,
      ⟨(opNot (some 126) 4 (.tmp 125) 4 "law.go:136" #[{ on := 12, ground := Ground.data }, { on := 9, ground := Ground.guard }]).op, (some (9, 122, false))⟩,
      ⟨(opPick (some 127) (.tmp 122) (.const (Value.bool true)) (.tmp 126) 4 "law.go:136" #[{ on := 9, ground := Ground.data }, { on := 13, ground := Ground.data }, { on := 6, ground := Ground.guard }]).op, (some (6, 119, true))⟩,
      ⟨(opPick (some 128) (.tmp 119) (.tmp 127) (.const (Value.bool false)) 4 "law.go:136" #[{ on := 6, ground := Ground.data }, { on := 14, ground := Ground.data }]).op, none⟩
    ] (by kernel_rfl)))
    (.cond (.tmp 128)
      (.seq (.live [6] (.region 25 [
        ⟨(opAssign (some 6) (.const (Value.bool false)) 4 "law.go:137" #[]).op, none⟩
      ] (by kernel_rfl)))
      (.live [6] .ret))
      .skip)))))
  (.live [1, 2, 7, 12, 16, 17] (.region 21 [
    ⟨(opMove (some 93) (.tmp 17) 3 "law.go:133" #[]).op, none⟩,
    ⟨(opBin (some 94) .add 3 (.tmp 93) (.const (Value.int IntKind.i64 1)) 3 3 "law.go:133" #[{ on := 0, ground := Ground.data }]).op, none⟩,
    ⟨(opAssign (some 17) (.tmp 94) 3 "law.go:133" #[{ on := 1, ground := Ground.data }, { on := 0, ground := Ground.phase }, { on := 1, ground := Ground.phase }]).op, none⟩
  ] (by kernel_rfl)))))

/-- What follows a loop. -/
noncomputable def f5_r0 : Sim Try.prog :=
  (.seq (.live [1, 2, 12, 15, 22] (.region 26 [
    ⟨(opMove (some 130) (.tmp 12) 25 "law.go:140" #[]).op, none⟩,
    ⟨(opMove (some 131) (.tmp 1) 3 "law.go:140" #[]).op, none⟩,
    ⟨(opCallP p18 (some 132) [(.tmp 130), (.tmp 131)] #[25, 3] 30 "law.go:140" #[{ on := 0, ground := Ground.data }, { on := 1, ground := Ground.data }]).op, none⟩,
    ⟨(opMove (some 129) (.tmp 132) 30 "law.go:140" #[{ on := 2, ground := Ground.data }]).op, none⟩,
    ⟨(opExtract (some 133) (.tmp 129) 0 25 "law.go:140" #[{ on := 3, ground := Ground.data }]).op, none⟩,
    ⟨(opExtract (some 134) (.tmp 129) 1 4 "law.go:140" #[{ on := 3, ground := Ground.data }, { on := 6, ground := (Ground.gcOnly Departure.lateStores) }]).op, none⟩,
    ⟨(opAssign (some 22) (.tmp 133) 25 "law.go:140" #[{ on := 4, ground := Ground.data }, { on := 2, ground := Ground.chain }, { on := 0, ground := Ground.phase }, { on := 1, ground := Ground.phase }, { on := 2, ground := Ground.phase }, { on := 3, ground := Ground.phase }, { on := 4, ground := Ground.phase }, { on := 5, ground := (Ground.textOnly Departure.lateStores) }]).op, none⟩,
    ⟨(opAssign (some 15) (.tmp 134) 4 "law.go:140" #[{ on := 5, ground := Ground.data }, { on := 6, ground := Ground.chain }, { on := 0, ground := Ground.phase }, { on := 1, ground := Ground.phase }, { on := 2, ground := Ground.phase }, { on := 3, ground := Ground.phase }, { on := 4, ground := Ground.phase }, { on := 5, ground := Ground.phase }, { on := 6, ground := Ground.phase }]).op, none⟩
  ] (by kernel_rfl)))
  (.seq (.live [1, 2, 12, 15, 22, 24] (.region 27 [
    ⟨(opMove (some 136) (.tmp 22) 25 "law.go:141" #[]).op, none⟩,
    ⟨(opMove (some 137) (.tmp 1) 3 "law.go:141" #[]).op, none⟩,
    ⟨(opCallP p15 (some 138) [(.tmp 136), (.tmp 137)] #[25, 3] 30 "law.go:141" #[{ on := 0, ground := Ground.data }, { on := 1, ground := Ground.data }]).op, none⟩,
    ⟨(opMove (some 135) (.tmp 138) 30 "law.go:141" #[{ on := 2, ground := Ground.data }]).op, none⟩,
    ⟨(opExtract (some 139) (.tmp 135) 0 25 "law.go:141" #[{ on := 3, ground := Ground.data }]).op, none⟩,
    ⟨(opExtract (some 140) (.tmp 135) 1 4 "law.go:141" #[{ on := 3, ground := Ground.data }, { on := 6, ground := (Ground.gcOnly Departure.lateStores) }]).op, none⟩,
    ⟨(opAssign (some 23) (.tmp 139) 25 "law.go:141" #[{ on := 4, ground := Ground.data }, { on := 2, ground := Ground.chain }, { on := 0, ground := Ground.phase }, { on := 1, ground := Ground.phase }, { on := 2, ground := Ground.phase }, { on := 3, ground := Ground.phase }, { on := 4, ground := Ground.phase }, { on := 5, ground := (Ground.textOnly Departure.lateStores) }]).op, none⟩,
    ⟨(opAssign (some 24) (.tmp 140) 4 "law.go:141" #[{ on := 5, ground := Ground.data }, { on := 6, ground := Ground.chain }, { on := 0, ground := Ground.phase }, { on := 1, ground := Ground.phase }, { on := 2, ground := Ground.phase }, { on := 3, ground := Ground.phase }, { on := 4, ground := Ground.phase }, { on := 5, ground := Ground.phase }, { on := 6, ground := Ground.phase }]).op, none⟩
  ] (by kernel_rfl)))
  (.seq (.live [12, 15, 24, 25, 26] (.region 28 [
    ⟨(opMove (some 142) (.tmp 22) 25 "law.go:142" #[]).op, none⟩,
    ⟨(opMove (some 143) (.tmp 1) 3 "law.go:142" #[]).op, none⟩,
    ⟨(opMove (some 144) (.tmp 2) 25 "law.go:142" #[]).op, none⟩,
    ⟨(opCallP p11 (some 145) [(.tmp 142), (.tmp 143), (.tmp 144)] #[25, 3, 25] 30 "law.go:142" #[{ on := 0, ground := Ground.data }, { on := 1, ground := Ground.data }, { on := 2, ground := Ground.data }]).op, none⟩,
    ⟨(opMove (some 141) (.tmp 145) 30 "law.go:142" #[{ on := 3, ground := Ground.data }]).op, none⟩,
    ⟨(opExtract (some 146) (.tmp 141) 0 25 "law.go:142" #[{ on := 4, ground := Ground.data }]).op, none⟩,
    ⟨(opExtract (some 147) (.tmp 141) 1 4 "law.go:142" #[{ on := 4, ground := Ground.data }, { on := 7, ground := (Ground.gcOnly Departure.lateStores) }]).op, none⟩,
    ⟨(opAssign (some 25) (.tmp 146) 25 "law.go:142" #[{ on := 5, ground := Ground.data }, { on := 3, ground := Ground.chain }, { on := 0, ground := Ground.phase }, { on := 1, ground := Ground.phase }, { on := 2, ground := Ground.phase }, { on := 3, ground := Ground.phase }, { on := 4, ground := Ground.phase }, { on := 5, ground := Ground.phase }, { on := 6, ground := (Ground.textOnly Departure.lateStores) }]).op, none⟩,
    ⟨(opAssign (some 26) (.tmp 147) 4 "law.go:142" #[{ on := 6, ground := Ground.data }, { on := 7, ground := Ground.chain }, { on := 0, ground := Ground.phase }, { on := 1, ground := Ground.phase }, { on := 2, ground := Ground.phase }, { on := 3, ground := Ground.phase }, { on := 4, ground := Ground.phase }, { on := 5, ground := Ground.phase }, { on := 6, ground := Ground.phase }, { on := 7, ground := Ground.phase }]).op, none⟩
  ] (by kernel_rfl)))
  (.seq (.live [6] (.region 29 [
    ⟨(opMove (some 148) (.tmp 15) 4 "law.go:143" #[]).op, none⟩,
    ⟨(opMove (some 149) (.tmp 148) 4 "law.go:143" #[{ on := 0, ground := Ground.data }]).op, none⟩,
    ⟨(opMove (some 150) (.tmp 24) 4 "law.go:143" #[{ on := 1, ground := Ground.guard }]).op, (some (1, 149, true))⟩,
    ⟨(opNot (some 151) 4 (.tmp 150) 4 "law.go:143" #[{ on := 2, ground := Ground.data }, { on := 1, ground := Ground.guard }]).op, (some (1, 149, true))⟩,
    ⟨(opPick (some 152) (.tmp 149) (.tmp 151) (.const (Value.bool false)) 4 "law.go:143" #[{ on := 1, ground := Ground.data }, { on := 3, ground := Ground.data }]).op, none⟩,
    ⟨(opMove (some 153) (.tmp 152) 4 "law.go:143" #[{ on := 4, ground := Ground.data }, { on := 1, ground := Ground.chain }]).op, none⟩,
    ⟨(opMove (some 154) (.tmp 26) 4 "law.go:143" #[{ on := 5, ground := Ground.guard }]).op, (some (5, 153, true))⟩,
    ⟨(opPick (some 155) (.tmp 153) (.tmp 154) (.const (Value.bool false)) 4 "law.go:143" #[{ on := 5, ground := Ground.data }, { on := 6, ground := Ground.data }]).op, none⟩,
    ⟨(opMove (some 156) (.tmp 155) 4 "law.go:143" #[{ on := 7, ground := Ground.data }, { on := 5, ground := Ground.chain }]).op, none⟩,
    ⟨(opMove (some 157) (.tmp 25) 25 "law.go:143" #[{ on := 8, ground := Ground.guard }]).op, (some (8, 156, true))⟩,
    ⟨(opMove (some 158) (.tmp 12) 25 "law.go:143" #[{ on := 8, ground := Ground.guard }]).op, (some (8, 156, true))⟩,
    ⟨(opCallP p12 (some 159) [(.tmp 157), (.tmp 158)] #[25, 25] 4 "law.go:143" #[{ on := 9, ground := Ground.data }, { on := 10, ground := Ground.data }, { on := 8, ground := Ground.chain }, { on := 8, ground := Ground.guard }]).op, (some (8, 156, true))⟩,
    ⟨(opPick (some 160) (.tmp 156) (.tmp 159) (.const (Value.bool false)) 4 "law.go:143" #[{ on := 8, ground := Ground.data }, { on := 11, ground := Ground.data }]).op, none⟩,
    ⟨(opAssign (some 6) (.tmp 160) 4 "law.go:143" #[{ on := 12, ground := Ground.data }, { on := 11, ground := Ground.chain }, { on := 0, ground := Ground.phase }, { on := 1, ground := Ground.phase }, { on := 2, ground := Ground.phase }, { on := 3, ground := Ground.phase }, { on := 4, ground := Ground.phase }, { on := 5, ground := Ground.phase }, { on := 6, ground := Ground.phase }, { on := 7, ground := Ground.phase }, { on := 8, ground := Ground.phase }, { on := 9, ground := Ground.phase }, { on := 10, ground := Ground.phase }, { on := 11, ground := Ground.phase }, { on := 12, ground := Ground.phase }]).op, none⟩
  ] (by kernel_rfl)))
  (.live [6] .ret)))))

/-- What follows a loop. -/
noncomputable def f5_r1 : Sim Try.prog :=
  (.seq (.live [1, 2, 7, 12, 13] (.region 12 [
    ⟨(opMove (some 57) (.tmp 7) 25 "law.go:124" #[]).op, none⟩,
    ⟨(opMove (some 58) (.tmp 1) 3 "law.go:124" #[]).op, none⟩,
    ⟨(opMove (some 59) (.tmp 2) 25 "law.go:124" #[]).op, none⟩,
    ⟨(opCallP p11 (some 60) [(.tmp 57), (.tmp 58), (.tmp 59)] #[25, 3, 25] 30 "law.go:124" #[{ on := 0, ground := Ground.data }, { on := 1, ground := Ground.data }, { on := 2, ground := Ground.data }]).op, none⟩,
    ⟨(opMove (some 56) (.tmp 60) 30 "law.go:124" #[{ on := 3, ground := Ground.data }]).op, none⟩,
    ⟨(opExtract (some 61) (.tmp 56) 0 25 "law.go:124" #[{ on := 4, ground := Ground.data }]).op, none⟩,
    ⟨(opExtract (some 62) (.tmp 56) 1 4 "law.go:124" #[{ on := 4, ground := Ground.data }, { on := 7, ground := (Ground.gcOnly Departure.lateStores) }]).op, none⟩,
    ⟨(opAssign (some 12) (.tmp 61) 25 "law.go:124" #[{ on := 5, ground := Ground.data }, { on := 3, ground := Ground.chain }, { on := 0, ground := Ground.phase }, { on := 1, ground := Ground.phase }, { on := 2, ground := Ground.phase }, { on := 3, ground := Ground.phase }, { on := 4, ground := Ground.phase }, { on := 5, ground := Ground.phase }, { on := 6, ground := (Ground.textOnly Departure.lateStores) }]).op, none⟩,
    ⟨(opAssign (some 13) (.tmp 62) 4 "law.go:124" #[{ on := 6, ground := Ground.data }, { on := 7, ground := Ground.chain }, { on := 0, ground := Ground.phase }, { on := 1, ground := Ground.phase }, { on := 2, ground := Ground.phase }, { on := 3, ground := Ground.phase }, { on := 4, ground := Ground.phase }, { on := 5, ground := Ground.phase }, { on := 6, ground := Ground.phase }, { on := 7, ground := Ground.phase }]).op, none⟩
  ] (by kernel_rfl)))
  (.seq (.seq (.live [1, 2, 7, 12, 64] (.region 13 [
    ⟨(opMove (some 63) (.tmp 13) 4 "law.go:125" #[]).op, none⟩,
    ⟨(opNot (some 64) 4 (.tmp 63) 4 "law.go:125" #[{ on := 0, ground := Ground.data }]).op, none⟩
  ] (by kernel_rfl)))
  (.cond (.tmp 64)
    (.seq (.live [6] (.region 14 [
      ⟨(opMove (some 65) (.tmp 12) 25 "law.go:126" #[]).op, none⟩,
      ⟨(opLen (some 66) (.tmp 65) 25 (.slice 5) Try.underlying25 3 "law.go:126" #[{ on := 0, ground := Ground.data }]).op, none⟩,
      ⟨(opBin (some 67) .eql 3 (.tmp 66) (.const (Value.int IntKind.i64 0)) 3 4 "law.go:126" #[{ on := 1, ground := Ground.data }]).op, none⟩,
      ⟨(opAssign (some 6) (.tmp 67) 4 "law.go:126" #[{ on := 2, ground := Ground.data }, { on := 0, ground := Ground.phase }, { on := 1, ground := Ground.phase }, { on := 2, ground := Ground.phase }]).op, none⟩
    ] (by kernel_rfl)))
    (.live [6] .ret))
    .skip))
  (.seq (.live [1, 2, 7, 12, 14, 15] (.region 15 [
    ⟨(opMove (some 69) (.tmp 12) 25 "law.go:128" #[]).op, none⟩,
    ⟨(opMove (some 70) (.tmp 1) 3 "law.go:128" #[]).op, none⟩,
    ⟨(opCallP p15 (some 71) [(.tmp 69), (.tmp 70)] #[25, 3] 30 "law.go:128" #[{ on := 0, ground := Ground.data }, { on := 1, ground := Ground.data }]).op, none⟩,
    ⟨(opMove (some 68) (.tmp 71) 30 "law.go:128" #[{ on := 2, ground := Ground.data }]).op, none⟩,
    ⟨(opExtract (some 72) (.tmp 68) 0 25 "law.go:128" #[{ on := 3, ground := Ground.data }]).op, none⟩,
    ⟨(opExtract (some 73) (.tmp 68) 1 4 "law.go:128" #[{ on := 3, ground := Ground.data }, { on := 6, ground := (Ground.gcOnly Departure.lateStores) }]).op, none⟩,
    ⟨(opAssign (some 14) (.tmp 72) 25 "law.go:128" #[{ on := 4, ground := Ground.data }, { on := 2, ground := Ground.chain }, { on := 0, ground := Ground.phase }, { on := 1, ground := Ground.phase }, { on := 2, ground := Ground.phase }, { on := 3, ground := Ground.phase }, { on := 4, ground := Ground.phase }, { on := 5, ground := (Ground.textOnly Departure.lateStores) }]).op, none⟩,
    ⟨(opAssign (some 15) (.tmp 73) 4 "law.go:128" #[{ on := 5, ground := Ground.data }, { on := 6, ground := Ground.chain }, { on := 0, ground := Ground.phase }, { on := 1, ground := Ground.phase }, { on := 2, ground := Ground.phase }, { on := 3, ground := Ground.phase }, { on := 4, ground := Ground.phase }, { on := 5, ground := Ground.phase }, { on := 6, ground := Ground.phase }]).op, none⟩
  ] (by kernel_rfl)))
  (.seq (.seq (.live [1, 2, 7, 12, 86] (.region 16 [
    ⟨(opMove (some 74) (.tmp 15) 4 "law.go:129" #[]).op, none⟩,
    ⟨(opNot (some 75) 4 (.tmp 74) 4 "law.go:129" #[{ on := 0, ground := Ground.data }]).op, none⟩,
    ⟨(opMove (some 76) (.tmp 75) 4 "law.go:129" #[{ on := 1, ground := Ground.data }]).op, none⟩,
    ⟨(opMove (some 77) (.tmp 14) 25 "law.go:129" #[{ on := 2, ground := Ground.guard }]).op, (some (2, 76, false))⟩,
    ⟨(opMove (some 78) (.tmp 2) 25 "law.go:129" #[{ on := 2, ground := Ground.guard }]).op, (some (2, 76, false))⟩,
    ⟨(opCallP p12 (some 79) [(.tmp 77), (.tmp 78)] #[25, 25] 4 "law.go:129" #[{ on := 3, ground := Ground.data }, { on := 4, ground := Ground.data }, { on := 2, ground := Ground.chain }, { on := 2, ground := Ground.guard }]).op, (some (2, 76, false))⟩,
    ⟨(opNot (some 80) 4 (.tmp 79) 4 "law.go:129" #[{ on := 5, ground := Ground.data }, { on := 2, ground := Ground.guard }]).op, (some (2, 76, false))⟩,
    ⟨(opPick (some 81) (.tmp 76) (.const (Value.bool true)) (.tmp 80) 4 "law.go:129" #[{ on := 2, ground := Ground.data }, { on := 6, ground := Ground.data }]).op, none⟩,
    ⟨(opMove (some 82) (.tmp 81) 4 "law.go:129" #[{ on := 7, ground := Ground.data }, { on := 5, ground := Ground.chain }]).op, none⟩,
    ⟨(opMove (some 83) (.tmp 12) 25 "law.go:129" #[{ on := 8, ground := Ground.guard }]).op, (some (8, 82, false))⟩,
    ⟨(opCallP p16 (some 84) [(.tmp 83)] #[25] 4 "law.go:129" #[{ on := 9, ground := Ground.data }, { on := 8, ground := Ground.chain }, { on := 8, ground := Ground.guard }]).op, (some (8, 82, false))⟩,
    ⟨(opNot (some 85) 4 (.tmp 84) 4 "law.go:129" #[{ on := 10, ground := Ground.data }, { on := 8, ground := Ground.guard }]).op, (some (8, 82, false))⟩,
    ⟨(opPick (some 86) (.tmp 82) (.const (Value.bool true)) (.tmp 85) 4 "law.go:129" #[{ on := 8, ground := Ground.data }, { on := 11, ground := Ground.data }]).op, none⟩
  ] (by kernel_rfl)))
  (.cond (.tmp 86)
    (.seq (.live [6] (.region 17 [
      ⟨(opAssign (some 6) (.const (Value.bool false)) 4 "law.go:130" #[]).op, none⟩
    ] (by kernel_rfl)))
    (.live [6] .ret))
    .skip))
  (.seq (.live [1, 2, 7, 12, 16] (.region 18 [
    ⟨(opMove (some 87) (.tmp 7) 25 "law.go:132" #[]).op, none⟩,
    ⟨(opCallP p17 (some 88) [(.tmp 87)] #[25] 38 "law.go:132" #[{ on := 0, ground := Ground.data }]).op, none⟩,
    ⟨(opAssign (some 16) (.tmp 88) 38 "law.go:132" #[{ on := 1, ground := Ground.data }, { on := 1, ground := Ground.chain }, { on := 0, ground := Ground.phase }, { on := 1, ground := Ground.phase }]).op, none⟩
  ] (by kernel_rfl)))
  (.seq (.seq (.live [1, 2, 7, 12, 16, 17] (.region 19 [
    ⟨(opAssign (some 17) (.const (Value.int IntKind.i64 0)) 3 "law.go:133" #[]).op, none⟩
  ] (by kernel_rfl)))
  (.block 2 (.loop [1, 2, 7, 12, 16, 17] f5_l1)))
  f5_r0))))))

noncomputable def f5_b : Sim Try.prog :=
  (.seq (.live [0, 1, 2] (.region 0 [
    ⟨(opAssign (some 6) (.const (Value.bool false)) 4 "law.go:110" #[]).op, none⟩
  ] (by kernel_rfl)))
  (.seq (.seq (.live [0, 1, 2, 28] (.region 1 [
    ⟨(opCallP p8 (some 27) [] #[] 4 "law.go:111" #[]).op, none⟩,
    ⟨(opNot (some 28) 4 (.tmp 27) 4 "law.go:111" #[{ on := 0, ground := Ground.data }]).op, none⟩
  ] (by kernel_rfl)))
  (.cond (.tmp 28)
    (.seq (.live [6] (.region 2 [
      ⟨(opAssign (some 6) (.const (Value.bool false)) 4 "law.go:112" #[]).op, none⟩
    ] (by kernel_rfl)))
    (.live [6] .ret))
    .skip))
  (.seq (.seq (.live [0, 1, 2, 35] (.region 3 [
    ⟨(opMove (some 29) (.tmp 0) 22 "law.go:114" #[]).op, none⟩,
    ⟨(opCallP p9 (some 30) [(.tmp 29)] #[22] 4 "law.go:114" #[{ on := 0, ground := Ground.data }]).op, none⟩,
    ⟨(opMove (some 31) (.tmp 30) 4 "law.go:114" #[{ on := 1, ground := Ground.data }, { on := 1, ground := Ground.chain }]).op, none⟩,
    ⟨(opMove (some 32) (.tmp 2) 25 "law.go:114" #[{ on := 2, ground := Ground.guard }]).op, (some (2, 31, false))⟩,
    ⟨(opLen (some 33) (.tmp 32) 25 (.slice 5) Try.underlying25 3 "law.go:114" #[{ on := 3, ground := Ground.data }, { on := 2, ground := Ground.guard }]).op, (some (2, 31, false))⟩,
    ⟨(opBin (some 34) .gtr 3 (.tmp 33) (.const (Value.int IntKind.i64 1000)) 3 4 "law.go:114" #[{ on := 4, ground := Ground.data }, { on := 2, ground := Ground.guard }]).op, (some (2, 31, false))⟩,
    ⟨(opPick (some 35) (.tmp 31) (.const (Value.bool true)) (.tmp 34) 4 "law.go:114" #[{ on := 2, ground := Ground.data }, { on := 5, ground := Ground.data }]).op, none⟩
  ] (by kernel_rfl)))
  (.cond (.tmp 35)
    (.seq (.live [6] (.region 4 [
      ⟨(opAssign (some 6) (.const (Value.bool true)) 4 "law.go:115" #[]).op, none⟩
    ] (by kernel_rfl)))
    (.live [6] .ret))
    .skip))
  (.seq (.live [0, 1, 2, 7] (.region 5 [
    ⟨(opCallP p10 (some 36) [] #[] 25 "law.go:117" #[]).op, none⟩,
    ⟨(opAssign (some 7) (.tmp 36) 25 "law.go:117" #[{ on := 0, ground := Ground.data }, { on := 0, ground := Ground.chain }, { on := 0, ground := Ground.phase }]).op, none⟩
  ] (by kernel_rfl)))
  (.seq (.seq (.live [0, 1, 2, 7, 8] (.region 6 [
    ⟨(opAssign (some 8) (.const (Value.int IntKind.i64 0)) 3 "law.go:118" #[]).op, none⟩
  ] (by kernel_rfl)))
  (.block 0 (.loop [0, 1, 2, 7, 8] f5_l0)))
  f5_r1)))))

noncomputable def f5 : Fun Try.prog where
  id := 5
  fn := Try.f5
  hf := Try.func5
  hname := by kernel_rfl
  body := f5_b
  hbody := by kernel_rfl
  res := [rTmp 6]
  hres := by kernel_rfl
  n := 161
  hn := by kernel_rfl

end Go.Proofs.Ytblliolkgkgppaa.V

/- What the functions' runs come to; the right sides were printed by a tool, Lean checks them. -/
set_option linter.unusedVariables false
set_option maxRecDepth 100000
namespace Go.Proofs.Ytblliolkgkgppaa.V
open Go Go.V Go.RowKit

theorem keeps_run (F : Nat) (z y : Bool) (l d : List (List AV)) (s : Int) :
    (f5.run F [.ns z 3 l, .int .i64 s, .ns y 1 d] ⟨[], []⟩ : Ans) =
    branch (AV.bool (okCl l))
      (branch (AV.bool (greatB l)) (some (Fin.ret (AV.bool true), St.mk [] []))
        (branch (AV.bool (decide ((↑d.length : Int) > (1000 : Int)))) (some (Fin.ret (AV.bool true), St.mk [] []))
          (loopRun (f5_l0.run F) [0, 1, 2, 7, 8]
            (Cont.block 0 (Cont.then (f5_r1.run F (f5.leaveK Fun.done)) (f5.leaveK Fun.done))) F
            (Env.mk 161
              [(0, AV.ns z 3 l), (1, AV.int IntKind.i64 s), (2, AV.ns y 1 d),
                (7, AV.ns false 1 (bR zeroP)), (8, AV.int IntKind.i64 (0 : Int))])
            (St.mk [] []))))
      none := by kernel_rfl

theorem keeps_round (F m : Nat) (K : Cont) (z y w : Bool) (l p d : List (List AV)) (i s : Int) :
    (loopRun (f5_l0.run F) [0, 1, 2, 7, 8] K m.succ (Env.mk 161 [(0, .ns z 3 l), (1, .int .i64 s), (2, .ns w 1 d), (7, .ns y 1 p), (8, .int .i64 i)]) ⟨[], []⟩ : Ans) =
    branch (AV.bool (decide (i < (↑l.length : Int))))
      (branch (AV.bool (inR l i))
        (branch (AV.bool ((LD.one (LT.ns 1)).is (List.drop 2 (V.rowAt l i))))
          (branch
            (AV.bool
              (byOk p &&
                (byOk (rwA (List.drop 2 (V.rowAt l i))) &&
                  apOk (rwA (List.drop 2 (V.rowAt l i))).length 1)))
            (branch (AV.bool (oB (addP (nR p) (nR (rwA (List.drop 2 (V.rowAt l i)))))))
              (loopRun (f5_l0.run F) [0, 1, 2, 7, 8] K m
                (Env.mk 161
                  [(0, AV.ns z 3 l), (1, AV.int IntKind.i64 s), (2, AV.ns w 1 d),
                    (7,
                      AV.ns (!oB (addP (nR p) (nR (rwA (List.drop 2 (V.rowAt l i)))))) 1
                        (oR (addP (nR p) (nR (rwA (List.drop 2 (V.rowAt l i))))))),
                    (8, AV.int IntKind.i64 (IntKind.i64.wrap (i + (1 : Int))))])
                (St.mk [] []))
              (loopRun (f5_l0.run F) [0, 1, 2, 7, 8] K m
                (Env.mk 161
                  [(0, AV.ns z 3 l), (1, AV.int IntKind.i64 s), (2, AV.ns w 1 d),
                    (7, AV.ns y 1 p), (8, AV.int IntKind.i64 (IntKind.i64.wrap (i + (1 : Int))))])
                (St.mk [] [])))
            none)
          none)
        none)
      (K (AX.exit 0)
        (Env.mk 161
          [(1, AV.int IntKind.i64 s), (2, AV.ns w 1 d), (7, AV.ns y 1 p)])
        (St.mk [] [])) := by kernel_rfl

theorem keeps_out (F : Nat) (y w : Bool) (p d : List (List AV)) (s : Int) :
    ((Cont.block 0 (Cont.then (f5_r1.run F (f5.leaveK Fun.done)) (f5.leaveK Fun.done))) (.exit 0) (Env.mk 161 [(1, .int .i64 s), (2, .ns w 1 d), (7, .ns y 1 p)]) ⟨[], []⟩ : Ans) =
    branch (AV.bool (byOk p && (byOk d && apOk d.length 1)))
      (branch (AV.bool !oB (putP (nR p) s (nR d)))
        (some (Fin.ret (AV.bool ((↑(oR (putP (nR p) s (nR d))).length : Int) == (0 : Int))), St.mk [] []))
        (branch (AV.bool (byOk (oR (putP (nR p) s (nR d)))))
          (branch (AV.bool !oB (getP (ofS (nR (oR (putP (nR p) s (nR d))))) s))
            (some (Fin.ret (AV.bool false), St.mk [] []))
            (branch (AV.bool (byOk (oR (getP (ofS (nR (oR (putP (nR p) s (nR d))))) s)) && byOk d))
              (branch (AV.bool !nR (oR (getP (ofS (nR (oR (putP (nR p) s (nR d))))) s)) == nR d)
                (some (Fin.ret (AV.bool false), St.mk [] []))
                (branch (AV.bool (byOk (oR (putP (nR p) s (nR d)))))
                  (branch (AV.bool !ofBo (nR (oR (putP (nR p) s (nR d))))) (some (Fin.ret (AV.bool false), St.mk [] []))
                    (branch (AV.bool (byOk p))
                      (loopRun (f5_l1.run F) [1, 2, 7, 12, 16, 17]
                        (Cont.block 2 (Cont.then (f5_r0.run F (f5.leaveK Fun.done)) (f5.leaveK Fun.done))) F
                        (Env.mk 161
                          [(1, AV.int IntKind.i64 s), (2, AV.ns w 1 d),
                            (7, AV.ns y 1 p),
                            (12, AV.ns (!oB (putP (nR p) s (nR d))) 1 (oR (putP (nR p) s (nR d)))),
                            (16, AV.ns (slotsE (nR p)) 1 (slotsA (nR p))),
                            (17, AV.int IntKind.i64 (0 : Int))])
                        (St.mk [] []))
                      none))
                  none))
              none))
          none))
      none := by kernel_rfl

theorem keeps_round2 (F m : Nat) (K : Cont) (y w v u : Bool) (p d q e : List (List AV)) (i s : Int) :
    (loopRun (f5_l1.run F) [1, 2, 7, 12, 16, 17] K m.succ (Env.mk 161 [(1, .int .i64 s), (2, .ns w 1 d), (7, .ns y 1 p), (12, .ns v 1 q), (16, .ns u 1 e), (17, .int .i64 i)]) ⟨[], []⟩ : Ans) =
    branch (AV.bool (decide (i < (↑e.length : Int))))
      (branch (AV.bool (inR e i))
        (branch (AV.bool ((LD.one (LT.int IntKind.i64)).is (V.rowAt e i)))
          (branch (AV.bool (byOk p))
            (branch (AV.bool (inR e i))
              (branch (AV.bool ((LD.one (LT.int IntKind.i64)).is (V.rowAt e i)))
                (branch (AV.bool (byOk q))
                  (branch (AV.bool (inR e i))
                    (branch (AV.bool ((LD.one (LT.int IntKind.i64)).is (V.rowAt e i)))
                      (branch (AV.bool (hdI (V.rowAt e i) != s))
                        (branch (AV.bool !oB (getP (ofS (nR q)) (hdI (V.rowAt e i))))
                          (K AX.ret (Env.mk 161 [(6, AV.bool false)]) (St.mk [] []))
                          (branch
                            (AV.bool
                              (byOk (oR (getP (ofS (nR p)) (hdI (V.rowAt e i)))) &&
                                byOk (oR (getP (ofS (nR q)) (hdI (V.rowAt e i))))))
                            (branch
                              (AV.bool
                                !nR (oR (getP (ofS (nR p)) (hdI (V.rowAt e i)))) ==
                                    nR (oR (getP (ofS (nR q)) (hdI (V.rowAt e i)))))
                              (K AX.ret (Env.mk 161 [(6, AV.bool false)]) (St.mk [] []))
                              (loopRun (f5_l1.run F) [1, 2, 7, 12, 16, 17] K
                                m
                                (Env.mk 161
                                  [(1, AV.int IntKind.i64 s), (2, AV.ns w 1 d),
                                    (7, AV.ns y 1 p), (12, AV.ns v 1 q),
                                    (16, AV.ns u 1 e),
                                    (17, AV.int IntKind.i64 (IntKind.i64.wrap (i + (1 : Int))))])
                                (St.mk [] [])))
                            none))
                        (loopRun (f5_l1.run F) [1, 2, 7, 12, 16, 17] K m
                          (Env.mk 161
                            [(1, AV.int IntKind.i64 s), (2, AV.ns w 1 d),
                              (7, AV.ns y 1 p), (12, AV.ns v 1 q),
                              (16, AV.ns u 1 e),
                              (17, AV.int IntKind.i64 (IntKind.i64.wrap (i + (1 : Int))))])
                          (St.mk [] [])))
                      none)
                    none)
                  none)
                none)
              none)
            none)
          none)
        none)
      (K (AX.exit 2)
        (Env.mk 161
          [(1, AV.int IntKind.i64 s), (2, AV.ns w 1 d), (12, AV.ns v 1 q)])
        (St.mk [] [])) := by kernel_rfl

theorem keeps_out2 (F : Nat) (w v : Bool) (d q : List (List AV)) (s : Int) :
    ((Cont.block 2 (Cont.then (f5_r0.run F (f5.leaveK Fun.done)) (f5.leaveK Fun.done))) (.exit 2) (Env.mk 161 [(1, .int .i64 s), (2, .ns w 1 d), (12, .ns v 1 q)]) ⟨[], []⟩ : Ans) =
    branch (AV.bool (byOk q))
      (branch (AV.bool (byOk (oR (cutP (nR q) s))))
        (branch (AV.bool (byOk (oR (cutP (nR q) s)) && (byOk d && apOk d.length 1)))
          (branch (AV.bool (oB (cutP (nR q) s)))
            (branch (AV.bool !oB (getP (ofS (nR (oR (cutP (nR q) s)))) s))
              (branch (AV.bool (oB (putP (nR (oR (cutP (nR q) s))) s (nR d))))
                (branch (AV.bool (byOk (oR (putP (nR (oR (cutP (nR q) s))) s (nR d))) && byOk q))
                  (some (Fin.ret (AV.bool (nR (oR (putP (nR (oR (cutP (nR q) s))) s (nR d))) == nR q)), St.mk [] [])) none)
                (some (Fin.ret (AV.bool false), St.mk [] [])))
              (some (Fin.ret (AV.bool false), St.mk [] [])))
            (some (Fin.ret (AV.bool false), St.mk [] [])))
          none)
        none)
      none := by kernel_rfl

end Go.Proofs.Ytblliolkgkgppaa.V

/- Page: what slots have (plain). -/
set_option linter.unusedVariables false
namespace Go.Proofs.Ytblliolkgkgppaa.V
open Go Go.V Go.RowKit

/-- What a slot has. -/
def getS (s : Sl) (i : Nat) : Option (List Nat) := (s[i]?).join
theorem getP_nat (s : Sl) (i : Nat) : getP s (i : Int) = getS s i := by rw [getP, if_pos (by omega), Int.toNat_natCast]; rfl
theorem getS_ge {s : Sl} {i : Nat} (h : s.length ≤ i) : getS s i = none := by rw [getS, List.getElem?_eq_none h]; rfl
theorem getS_lt {s : Sl} {i : Nat} (h : i < s.length) : getS s i = s[i] := by rw [getS, List.getElem?_eq_getElem h]; rfl
theorem getS_pad (s : Sl) (m i : Nat) : getS (padS s m) i = getS s i := by
  rcases Nat.lt_or_ge i s.length with h | h
  · rw [getS_lt h, getS, padS, List.getElem?_append_left h, List.getElem?_eq_getElem h]; rfl
  · rw [getS_ge h, getS, padS, List.getElem?_append_right h, List.getElem?_replicate]
    split <;> rfl
theorem getS_set {s : Sl} {k : Nat} (hk : k < s.length) (o : Option (List Nat)) (i : Nat) : getS (s.set k o) i = if i = k then o else getS s i := by
  rw [getS, List.getElem?_set]
  by_cases h : k = i
  · subst h; rw [if_pos rfl, if_pos hk, if_pos rfl]; rfl
  · rw [if_neg h, if_neg (fun e => h e.symm)]; rfl
theorem trS_none (s : Sl) : ∀ i, (trS s).length ≤ i → i < s.length → getS s i = none := by
  rcases List.eq_nil_or_concat s with rfl | ⟨s', o, rfl⟩
  · intro i _ h; simp at h
  · rw [List.concat_eq_append]
    cases o with
    | some b => intro i h1 h2; rw [trS_id (trm_snoc _ _)] at h1; omega
    | none =>
      intro i h1 h2
      have e : trS (s' ++ [none]) = trS s' := by rw [trS, List.reverse_append, List.reverse_singleton, List.singleton_append, List.dropWhile_cons]; rfl
      rw [e] at h1
      rw [List.length_append, List.length_singleton] at h2
      rcases Nat.lt_or_ge i s'.length with h | h
      · have := trS_none s' i h1 h
        rw [getS_lt h] at this
        rw [getS_lt (by simp; omega), List.getElem_append_left h]
        exact this
      · have : i = s'.length := by omega
        subst this
        rw [getS_lt (by simp)]
        simp
termination_by s.length
decreasing_by all_goals simp_all
theorem getS_trS (s : Sl) (i : Nat) : getS (trS s) i = getS s i := by
  rcases Nat.lt_or_ge i (trS s).length with h | h
  · have hl := trS_len s
    have h2 := trS_take s
    rw [getS_lt h, getS_lt (by omega)]
    have : (s.take (trS s).length)[i]? = some s[i] := by rw [List.getElem?_take, if_pos h, List.getElem?_eq_getElem (by omega)]
    rw [← h2, List.getElem?_eq_getElem h] at this
    exact Option.some.inj this
  · rw [getS_ge h]
    rcases Nat.lt_or_ge i s.length with h2 | h2
    · exact (trS_none s i h h2).symm
    · rw [getS_ge h2]
theorem getS_with (s : Sl) (k : Nat) (o : Option (List Nat)) (i : Nat) : getS (withS s k o) i = if i = k then o else getS s i := by
  rw [withS, getS_trS, getS_set (by rw [padS_len]; omega), getS_pad]
/-- Slots without free ones at the end are what they have. -/
theorem sl_ext {s t : Sl} (hs : trm s = true) (ht : trm t = true) (h : ∀ i, getS s i = getS t i) : s = t := by
  have key : ∀ {s t : Sl}, trm t = true → (∀ i, getS s i = getS t i) → ¬ s.length < t.length := by
    intro s t ht h hl
    rcases List.eq_nil_or_concat t with rfl | ⟨t', o, rfl⟩
    · simp at hl
    · rw [List.concat_eq_append] at *
      rw [List.length_append, List.length_singleton] at hl
      have := h t'.length
      rw [getS_ge (by omega), getS_lt (by simp)] at this
      simp at this
      subst this
      simp [trm] at ht
  have hl : s.length = t.length := by
    have h1 := key (s := s) ht h
    have h2 := key (s := t) (t := s) hs fun i => (h i).symm
    omega
  apply List.ext_getElem hl
  intro i h1 h2
  have := h i
  rwa [getS_lt h1, getS_lt h2] at this
theorem with_back {s : Sl} (hs : trm s = true) (k : Nat) (o : Option (List Nat)) (h : getS s k = o) (o' : Option (List Nat)) : withS (withS s k o') k o = s := by
  refine sl_ext (trm_trS _) hs fun i => ?_
  rw [getS_with, getS_with]
  split
  · rename_i e; rw [e, h]
  · rfl
theorem sumN_set_le {s : Sl} {k : Nat} : sumN (s.set k none) ≤ sumN s := by
  have := sumN_set s k none
  exact this
theorem pgOk_cut {t : Sl} (h : pgOk t = true) {k : Nat} (hk : k < t.length) : pgOk (withS t k none) = true := by
  obtain ⟨h1, h2⟩ := pgOk_iff.mp h
  have hp : padS t (k + 1) = t := by rw [padS, show k + 1 - t.length = 0 by omega]; simp
  rw [pgOk_iff]
  refine ⟨?_, fun o ho => ?_⟩
  · have e1 : sumN (withS t k none) ≤ sumN t := by
      rw [withS, hp, trS_take]
      exact Nat.le_trans (sumN_take _ _) sumN_set_le
    have e2 : (withS t k none).length ≤ t.length := by
      have := trS_len ((padS t (k + 1)).set k none)
      rw [hp, List.length_set] at this
      rw [withS, hp]; exact this
    rw [szN] at h1 ⊢
    omega
  · rcases mem_with ho with h | h | h
    · exact h2 o h
    · rw [h]; exact Nat.zero_le _
    · rw [h]; exact Nat.zero_le _
theorem Pg.cut {q : List Nat} (hq : Pg q) {k : Nat} {b : List Nat} (h : getS (ofS q) k = some b) : ∃ c, cutP q (k : Int) = some c ∧ Pg c ∧ ofS c = withS (ofS q) k none := by
  obtain ⟨_, h1, h2, h3, _⟩ := hq.slots
  have hk : k < (ofS q).length := by
    rcases Nat.lt_or_ge k (ofS q).length with h' | h'
    · exact h'
    · rw [getS_ge h'] at h; cases h
  have hok := pgOk_cut h2 hk
  have hl := len_ofS q
  have e : toP (withS (ofS q) k none) = some (pgB (withS (ofS q) k none)) := by rw [toP, if_pos hok]
  obtain ⟨k1, k2⟩ := Pg.of (okSl_with h1 (by omega) (by omega) (fun c hc => by cases hc)) (trm_trS _) e
  exact ⟨_, by rw [cutP, cutS, getP_nat, h, if_pos (show (some b).isSome = true from rfl), Int.toNat_natCast, e], k1, k2⟩
theorem mem_slots : ∀ {s : Sl} {i n : Nat}, n ∈ slotsI s i → i ≤ n ∧ ∃ b, getS s (n - i) = some b
  | [], i, n, h => by cases h
  | none :: s, i, n, h => by
    rw [slotsI] at h
    obtain ⟨h1, b, h2⟩ := mem_slots h
    refine ⟨by omega, b, ?_⟩
    rw [show n - i = (n - (i + 1)) + 1 by omega]
    exact h2
  | some c :: s, i, n, h => by
    rw [slotsI] at h
    rcases List.mem_cons.mp h with rfl | h
    · exact ⟨Nat.le_refl _, c, by rw [Nat.sub_self]; rfl⟩
    · obtain ⟨h1, b, h2⟩ := mem_slots h
      refine ⟨by omega, b, ?_⟩
      rw [show n - i = (n - (i + 1)) + 1 by omega]
      exact h2
theorem getS_ok {s : Sl} (h : okSl s) {i : Nat} {b : List Nat} (hb : getS s i = some b) : (∀ x ∈ b, x < 256) ∧ b.length < 4611686018427387904 := by
  rcases Nat.lt_or_ge i s.length with hl | hl
  · rw [getS_lt hl] at hb
    exact h.1 b (by rw [← hb]; exact List.getElem_mem hl)
  · rw [getS_ge hl] at hb; cases hb

/-! ### PageKeeps -/
noncomputable abbrev keepK (F : Nat) : Cont := Cont.block 0 (Cont.then (f5_r1.run F (f5.leaveK Fun.done)) (f5.leaveK Fun.done))
noncomputable abbrev keepK2 (F : Nat) : Cont := Cont.block 2 (Cont.then (f5_r0.run F (f5.leaveK Fun.done)) (f5.leaveK Fun.done))
theorem keep_loop (F : Nat) (z w : Bool) (l d : List (List AV)) (s : Int) (hc : Calls' l) (hg : greatB l = false) : ∀ (k m i : Nat) (y : Bool) (p : List Nat), i + k = l.length → k < m → Pg p →
    ∃ y' q, Pg q ∧ loopRun (f5_l0.run F) [0, 1, 2, 7, 8] (keepK F) m (Env.mk 161 [(0, .ns z 3 l), (1, .int .i64 s), (2, .ns w 1 d), (7, .ns y 1 (bR p)), (8, .int .i64 (i : Int))]) ⟨[], []⟩ = keepK F (.exit 0) (Env.mk 161 [(1, .int .i64 s), (2, .ns w 1 d), (7, .ns y' 1 (bR q))]) ⟨[], []⟩
  | k, 0, i, y, p, hi, hm, hp => by omega
  | 0, m + 1, i, y, p, hi, hm, hp => ⟨y, p, hp, by rw [show m + 1 = m.succ from rfl, keeps_round, branch_not (by simp; omega)]⟩
  | k + 1, m + 1, i, y, p, hi, hm, hp => by
    have h1 : i < l.length := by omega
    have h100 := great_len hg
    obtain ⟨c1, c2, c3, c4⟩ := call_at hc hg h1
    have w0 : IntKind.i64.wrap ((i : Int) + 1) = ((i + 1 : Nat) : Int) := wrap_succ (by omega)
    have hby : byOk (bR p) = true := byOk_bR hp.1 (by rw [hp.2.1]; omega)
    rw [show m + 1 = m.succ from rfl, keeps_round, branch_of (by simpa using h1), branch_of (inR_nat h1), branch_of c1, branch_of (by rw [hby, c2, c3]; rfl), nR_bR, w0]
    cases ha : addP p (nR (rwA (List.drop 2 (V.rowAt l (i : Int))))) with
    | none =>
      rw [oB_none, branch_false]
      exact keep_loop F z w l d s hc hg k m (i + 1) y p (by omega) (by omega) hp
    | some q =>
      rw [oB_some, branch_true, oR_some]
      exact keep_loop F z w l d s hc hg k m (i + 1) _ q (by omega) (by omega) (hp.add c4 ha).1
theorem iR_at {l : List Nat} {i : Nat} (h : i < l.length) : inR (iR l) (i : Int) = true ∧ (LD.one (LT.int .i64)).is (V.rowAt (iR l) (i : Int)) = true ∧ hdI (V.rowAt (iR l) (i : Int)) = ((l[i] : Nat) : Int) := by
  have hl : i < (iR l).length := by rw [iR_length]; exact h
  have e : V.rowAt (iR l) (i : Int) = [.int .i64 (l[i] : Nat)] := by rw [rowAt_nat hl]; simp [iR]
  exact ⟨inR_nat hl, by rw [e]; rfl, by rw [e]; rfl⟩
theorem keep_loop2 (F : Nat) (y w v u : Bool) (d : List (List AV)) (p q : List Nat) (hp : Pg p) (hq : Pg q) (s k0 : Nat) (e : List Nat) (he : ∀ n ∈ e, ∃ b, getS (ofS p) n = some b) (hl : e.length ≤ 1000) (hs : s = k0) (hsame : ∀ n, n ≠ s → getS (ofS q) n = getS (ofS p) n) : ∀ (k m i : Nat), i + k = e.length → k < m →
    loopRun (f5_l1.run F) [1, 2, 7, 12, 16, 17] (keepK2 F) m (Env.mk 161 [(1, .int .i64 (s : Int)), (2, .ns w 1 d), (7, .ns y 1 (bR p)), (12, .ns v 1 (bR q)), (16, .ns u 1 (iR e)), (17, .int .i64 (i : Int))]) ⟨[], []⟩ = keepK2 F (.exit 2) (Env.mk 161 [(1, .int .i64 (s : Int)), (2, .ns w 1 d), (12, .ns v 1 (bR q))]) ⟨[], []⟩
  | k, 0, i, hi, hm => by omega
  | 0, m + 1, i, hi, hm => by rw [show m + 1 = m.succ from rfl, keeps_round2, branch_not (by rw [iR_length]; simp; omega)]
  | k + 1, m + 1, i, hi, hm => by
    have h1 : i < e.length := by omega
    obtain ⟨a1, a2, a3⟩ := iR_at h1
    obtain ⟨b, hb⟩ := he e[i] (List.getElem_mem h1)
    have w0 : IntKind.i64.wrap ((i : Int) + 1) = ((i + 1 : Nat) : Int) := wrap_succ (by omega)
    have hbp : byOk (bR p) = true := byOk_bR hp.1 (by rw [hp.2.1]; omega)
    have hbq : byOk (bR q) = true := byOk_bR hq.1 (by rw [hq.2.1]; omega)
    have ih := keep_loop2 F y w v u d p q hp hq s k0 e he hl hs hsame k m (i + 1) (by omega) (by omega)
    rw [show m + 1 = m.succ from rfl, keeps_round2, branch_of (by rw [iR_length]; simpa using h1), branch_of a1, branch_of a2, branch_of hbp, branch_of a1, branch_of a2, branch_of hbq, branch_of a1, branch_of a2, a3, w0, nR_bR, nR_bR]
    by_cases hne : e[i] = s
    · rw [branch_not (by simp [hne]), ih]
    · obtain ⟨g1, g2⟩ := getS_ok hp.slots.2.1 hb
      have hbb := byOk_bR g1 g2
      rw [branch_of (by simp; omega), getP_nat, getP_nat, hsame _ hne, hb, oB_some, branch_not (b := !true) rfl, oR_some, branch_of (by rw [hbb]; rfl), branch_not (by simp), ih]
theorem pageKeeps_true (z y : Bool) (l d : List (List AV)) (s : Int) (hc : Calls' l) (hl : l.length < 4611686018427387904) (hd : okR d = true) (hdl : d.length < 4611686018427387904) : ∃ F st, f5.run F [.ns z 3 l, .int .i64 s, .ns y 1 d] ⟨[], []⟩ = some (.ret (.bool true), st) := by
  refine ⟨l.length + 1000, ?_⟩
  rw [keeps_run, branch_of (hc.ok hl)]
  cases hg : greatB l with
  | true => exact ⟨_, rfl⟩
  | false =>
    rw [branch_false, zeroP_eq]
    by_cases h1 : (d.length : Int) > 1000
    · exact ⟨_, branch_of (by simpa using h1)⟩
    rw [branch_not (by simpa using h1)]
    obtain ⟨y', p, hp, h⟩ := keep_loop (l.length + 1000) z y l d s hc hg l.length (l.length + 1000) 0 false (List.replicate 256 0) (by omega) (by omega) zeros_pg.1
    have hbp : byOk (bR p) = true := byOk_bR hp.1 (by rw [hp.2.1]; omega)
    have hbd : byOk d = true := byOk_iff.mpr ⟨hd, hdl⟩
    have had : apOk d.length 1 = true := by rw [apOk_iff]; omega
    have hb : ∀ x ∈ nR d, x < 256 := fun x hx => okR_lt hd hx
    rw [show (0 : Int) = ((0 : Nat) : Int) from rfl, h, keepK, keeps_out, nR_bR, branch_of (by rw [hbp, hbd, had]; rfl)]
    cases hput : putP p s (nR d) with
    | none => exact ⟨_, by rw [oB_none, branch_of (b := !false) rfl, oR_none]; rfl⟩
    | some q =>
      obtain ⟨hq, hs, h0, h250⟩ := hp.put hb (by rw [nR_length]; exact hdl) hput
      obtain ⟨k, rfl⟩ := Int.eq_ofNat_of_zero_le h0
      rw [Int.toNat_natCast] at hs
      have hbq : byOk (bR q) = true := byOk_bR hq.1 (by rw [hq.2.1]; omega)
      have hget : getS (ofS q) k = some (nR d) := by rw [hs, getS_with, if_pos rfl]
      have hsl : slotsA p = iR (slotsI (ofS p) 0) := by rw [slotsA, opq_eq]
      have hlen : (slotsI (ofS p) 0).length ≤ 500 := by
        have : ∀ (t : Sl) (i : Nat), (slotsI t i).length ≤ t.length := by
          intro t
          induction t with
          | nil => intro i; simp [slotsI]
          | cons o t ih => intro i; cases o <;> simp [slotsI] <;> have := ih (i + 1) <;> omega
        have h2 := this (ofS p) 0
        have := len_ofS p
        omega
      have hloop := keep_loop2 (l.length + 1000) y' y (!oB (some q)) (slotsE p) d p q hp hq k k (slotsI (ofS p) 0) (fun n hn => by obtain ⟨_, b, h⟩ := mem_slots hn; exact ⟨b, by simpa using h⟩) (by omega) rfl (fun n hn => by rw [hs, getS_with, if_neg hn]) (slotsI (ofS p) 0).length (l.length + 1000) 0 (by omega) (by omega)
      obtain ⟨c, hc1, hc2, hc3⟩ := hq.cut hget
      have hbc : byOk (bR c) = true := byOk_bR hc2.1 (by rw [hc2.2.1]; omega)
      have hback : putP c (k : Int) (nR d) = some q := by
        rw [putP, if_pos hc2.2.2, hc3, putS, if_pos ⟨h0, h250⟩, Int.toNat_natCast, with_back hq.slots.2.2.2.1 k _ hget, toP, if_pos hq.slots.2.2.1, hq.slots.2.2.2.2]
      have hofb : ofBo q = true := by rw [ofBo, opq_eq]; exact hq.2.2
      rw [oB_some, branch_not (b := !true) rfl, oR_some, branch_of hbq, nR_bR, getP_nat, hget, oB_some, branch_not (b := !true) rfl, oR_some, ← okR_rows hd, branch_of (by rw [hbd]; rfl), branch_not (by simp), branch_of hbq, hofb, branch_not (b := !true) rfl, branch_of hbp, hsl]
      rw [oB_some] at hloop
      rw [show (0 : Int) = ((0 : Nat) : Int) from rfl]
      refine ⟨⟨[], []⟩, hloop.trans ?_⟩
      rw [keepK2, keeps_out2, branch_of hbq, nR_bR, hc1, oR_some, branch_of hbc, branch_of (by rw [hbc, hbd, had]; rfl), oB_some, branch_true, nR_bR, getP_nat, hc3, getS_with, if_pos rfl, oB_none, branch_of (b := !false) rfl, hback, oB_some, branch_true, oR_some, branch_of (by rw [hbq]; rfl), nR_bR]
      simp
theorem pageKeeps_law (as0 as1 as2 : List AV) (s0 : Ty.Shape tyCalls as0) (s1 : Ty.Shape (.int .i64) as1) (s2 : Ty.Shape (.sl (.int .u8) 1) as2) : ∃ F st, f5.run F [tyCalls.AV' as0, (Ty.int .i64).AV' as1, (Ty.sl (.int .u8) 1).AV' as2] ⟨[], []⟩ = some (.ret (.bool true), st) := by
  obtain ⟨z, l, rfl, h1, h2⟩ := calls_shape s0
  obtain ⟨s, rfl, _⟩ := s1
  obtain ⟨y, d, rfl, d1, _, d3⟩ := bytes_shape s2
  exact pageKeeps_true z y l d s h1 h2 d1 d3
end Go.Proofs.Ytblliolkgkgppaa.V

/- The functions' pieces, as told by gen.py. -/
set_option linter.unusedVariables false
set_option maxRecDepth 20000
namespace Go.Proofs.Ytblliolkgkgppaa.V
open Go Go.V Go.RowKit

theorem fl29_1 : fieldB Try.prog 29 1 1 1 false = true := by kernel_rfl
theorem ze4 : (Try.prog.info? 4).bind (·.zero) = some (.bool false) := by kernel_rfl

/-! ### 3: interlock/interlocklaw06.PageOrder (22); results 2; slots: 0 calls, 1 calls, 3 p, 4 q, 5 seen, 6 i, 7 i, 8 x, 9 ok, 10 y, 11 is -/
/-- A loop's round; at its head live: 0 calls, 3 p, 4 q, 5 seen, 6 i -/
noncomputable def f3_l0 : Sim Try.prog :=
  (.seq (.seq (.live [0, 3, 4, 5, 6, 22] (.region 9 [
    ⟨(opMove (some 19) (.tmp 6) 3 "law.go:181" #[]).op, none⟩,
    ⟨(opMove (some 20) (.tmp 0) 22 "law.go:181" #[]).op, none⟩,
    ⟨(opLen (some 21) (.tmp 20) 22 (.slice 29) Try.underlying22 3 "law.go:181" #[{ on := 1, ground := Ground.data }]).op, none⟩,
    ⟨(opBin (some 22) .lss 3 (.tmp 19) (.tmp 21) 3 4 "law.go:181" #[{ on := 0, ground := Ground.data }, { on := 2, ground := Ground.data }]).op, none⟩
  ] (by kernel_rfl)))
  (.cond (.tmp 22)
    .skip
    (.live [0, 3, 4] (.exit 0))))
  (.seq (.block 1 (.seq (.seq (.live [0, 3, 4, 5, 6, 31] (.region 11 [
      ⟨(opMove (some 25) (.tmp 5) 27 "law.go:182" #[]).op, none⟩,
      ⟨(opMove (some 26) (.tmp 0) 22 "law.go:182" #[]).op, none⟩,
      ⟨(opMove (some 27) (.tmp 6) 3 "law.go:182" #[]).op, none⟩,
      ⟨(opIndexAddrT (some 28) 22 (.tmp 26) (.tmp 27) 29 3 Try.underlying22 sz29 0 "law.go:182" #[{ on := 1, ground := Ground.data }, { on := 2, ground := Ground.data }]).op, none⟩,
      ⟨(opFieldAddr (some 29) 29 (.tmp 28) 1 1 1 false fl29_1 (by decide) 0 "law.go:182" #[{ on := 3, ground := Ground.data }]).op, none⟩,
      ⟨(opLoadT (.one (.int .i64)) (some 30) 3 (.tmp 29) (.int .i64) Try.underlying3 1 sz3 (by kernel_rfl) 3 "law.go:182" #[{ on := 4, ground := Ground.data }]).op, none⟩,
      ⟨(opLookup (.int .i64) (.one .bool) (some 31) 27 (.tmp 25) (.tmp 30) false 3 4 (.int .i64) Try.underlying27 Try.underlying3 (by decide) (.bool false) ze4 4 "law.go:182" #[{ on := 0, ground := Ground.data }, { on := 5, ground := Ground.data }]).op, none⟩
    ] (by kernel_rfl)))
    (.cond (.tmp 31)
      (.seq (.live [2] (.region 12 [
        ⟨(opAssign (some 2) (.const (Value.bool true)) 4 "law.go:183" #[]).op, none⟩
      ] (by kernel_rfl)))
      (.live [2] .ret))
      .skip))
    (.live [0, 3, 4, 5, 6] (.region 13 [
      ⟨(opMove (some 32) (.tmp 5) 27 "law.go:185" #[]).op, none⟩,
      ⟨(opMove (some 33) (.tmp 0) 22 "law.go:185" #[]).op, none⟩,
      ⟨(opMove (some 34) (.tmp 6) 3 "law.go:185" #[]).op, none⟩,
      ⟨(opIndexAddrT (some 35) 22 (.tmp 33) (.tmp 34) 29 3 Try.underlying22 sz29 0 "law.go:185" #[{ on := 1, ground := Ground.data }, { on := 2, ground := Ground.data }]).op, none⟩,
      ⟨(opFieldAddr (some 36) 29 (.tmp 35) 1 1 1 false fl29_1 (by decide) 0 "law.go:185" #[{ on := 3, ground := Ground.data }]).op, none⟩,
      ⟨(opLoadT (.one (.int .i64)) (some 37) 3 (.tmp 36) (.int .i64) Try.underlying3 1 sz3 (by kernel_rfl) 3 "law.go:185" #[{ on := 4, ground := Ground.data }]).op, none⟩,
      ⟨(opMapUpdate (.int .i64) none 27 (.tmp 32) (.tmp 37) (.const (Value.bool true)) 3 4 (.int .i64) Try.underlying27 Try.underlying3 (by decide) 0 "law.go:185" #[{ on := 0, ground := Ground.data }, { on := 5, ground := Ground.data }, { on := 0, ground := Ground.phase }, { on := 1, ground := Ground.phase }, { on := 2, ground := Ground.phase }, { on := 3, ground := Ground.phase }, { on := 4, ground := Ground.phase }, { on := 5, ground := Ground.phase }]).op, none⟩
    ] (by kernel_rfl)))))
  (.live [0, 3, 4, 5, 6] (.region 10 [
    ⟨(opMove (some 23) (.tmp 6) 3 "law.go:181" #[]).op, none⟩,
    ⟨(opBin (some 24) .add 3 (.tmp 23) (.const (Value.int IntKind.i64 1)) 3 3 "law.go:181" #[{ on := 0, ground := Ground.data }]).op, none⟩,
    ⟨(opAssign (some 6) (.tmp 24) 3 "law.go:181" #[{ on := 1, ground := Ground.data }, { on := 0, ground := Ground.phase }, { on := 1, ground := Ground.phase }]).op, none⟩
  ] (by kernel_rfl)))))

/-- A loop's round; at its head live: 0 calls, 3 p, 4 q, 7 i -/
noncomputable def f3_l1 : Sim Try.prog :=
  (.seq (.seq (.live [0, 3, 4, 7, 41] (.region 15 [
    ⟨(opMove (some 38) (.tmp 7) 3 "law.go:187" #[]).op, none⟩,
    ⟨(opMove (some 39) (.tmp 0) 22 "law.go:187" #[]).op, none⟩,
    ⟨(opLen (some 40) (.tmp 39) 22 (.slice 29) Try.underlying22 3 "law.go:187" #[{ on := 1, ground := Ground.data }]).op, none⟩,
    ⟨(opBin (some 41) .lss 3 (.tmp 38) (.tmp 40) 3 4 "law.go:187" #[{ on := 0, ground := Ground.data }, { on := 2, ground := Ground.data }]).op, none⟩
  ] (by kernel_rfl)))
  (.cond (.tmp 41)
    .skip
    (.live [3, 4] (.exit 2))))
  (.seq (.block 3 (.seq (.live [0, 4, 7, 8, 9] (.draw 17 [
      ⟨.p (opMove (some 45) (.tmp 3) 25 "law.go:188" #[]), none⟩,
      ⟨.p (opMove (some 46) (.tmp 0) 22 "law.go:188" #[]), none⟩,
      ⟨.p (opMove (some 47) (.tmp 7) 3 "law.go:188" #[]), none⟩,
      ⟨.pn (opIndexAddrT (some 48) 22 (.tmp 46) (.tmp 47) 29 3 Try.underlying22 sz29 0 "law.go:188" #[{ on := 1, ground := Ground.data }, { on := 2, ground := Ground.data }]) opIndexAddrT_nat, none⟩,
      ⟨.pn (opFieldAddr (some 49) 29 (.tmp 48) 1 1 1 false fl29_1 (by decide) 0 "law.go:188" #[{ on := 3, ground := Ground.data }]) opFieldAddr_nat, none⟩,
      ⟨.qn (opLoadT (.one (.int .i64)) (some 50) 3 (.tmp 49) (.int .i64) Try.underlying3 1 sz3 (by kernel_rfl) 3 "law.go:188" #[{ on := 4, ground := Ground.data }]) opLoadT_nat, none⟩,
      ⟨.p (opMove (some 51) (.tmp 0) 22 "law.go:188" #[]), none⟩,
      ⟨.p (opMove (some 52) (.tmp 7) 3 "law.go:188" #[]), none⟩,
      ⟨.pn (opIndexAddrT (some 53) 22 (.tmp 51) (.tmp 52) 29 3 Try.underlying22 sz29 0 "law.go:188" #[{ on := 6, ground := Ground.data }, { on := 7, ground := Ground.data }]) opIndexAddrT_nat, none⟩,
      ⟨.pn (opFieldAddr (some 54) 29 (.tmp 53) 2 2 1 false fl29_2 (by decide) 0 "law.go:188" #[{ on := 8, ground := Ground.data }]) opFieldAddr_nat, none⟩,
      ⟨.qn (opLoadT (.one (.ns 1)) (some 55) 25 (.tmp 54) (.slice 5) Try.underlying25 1 sz25 (by kernel_rfl) 25 "law.go:188" #[{ on := 9, ground := Ground.data }]) opLoadT_nat, none⟩,
      ⟨.pn (opCallP p11 (some 56) [(.tmp 45), (.tmp 50), (.tmp 55)] #[25, 3, 25] 30 "law.go:188" #[{ on := 0, ground := Ground.data }, { on := 5, ground := Ground.data }, { on := 10, ground := Ground.data }]) (opCallP_nat p11_nat), none⟩,
      ⟨.p (opMove (some 44) (.tmp 56) 30 "law.go:188" #[{ on := 11, ground := Ground.data }]), none⟩,
      ⟨.p (opExtract (some 57) (.tmp 44) 0 25 "law.go:188" #[{ on := 12, ground := Ground.data }]), none⟩,
      ⟨.p (opExtract (some 58) (.tmp 44) 1 4 "law.go:188" #[{ on := 12, ground := Ground.data }, { on := 15, ground := (Ground.gcOnly Departure.lateStores) }]), none⟩,
      ⟨.p (opAssign (some 8) (.tmp 57) 25 "law.go:188" #[{ on := 13, ground := Ground.data }, { on := 11, ground := Ground.chain }, { on := 0, ground := Ground.phase }, { on := 1, ground := Ground.phase }, { on := 2, ground := Ground.phase }, { on := 3, ground := Ground.phase }, { on := 4, ground := Ground.phase }, { on := 5, ground := Ground.phase }, { on := 6, ground := Ground.phase }, { on := 7, ground := Ground.phase }, { on := 8, ground := Ground.phase }, { on := 9, ground := Ground.phase }, { on := 10, ground := Ground.phase }, { on := 11, ground := Ground.phase }, { on := 12, ground := Ground.phase }, { on := 13, ground := Ground.phase }, { on := 14, ground := (Ground.textOnly Departure.lateStores) }]), none⟩,
      ⟨.p (opAssign (some 9) (.tmp 58) 4 "law.go:188" #[{ on := 14, ground := Ground.data }, { on := 15, ground := Ground.chain }, { on := 0, ground := Ground.phase }, { on := 1, ground := Ground.phase }, { on := 2, ground := Ground.phase }, { on := 3, ground := Ground.phase }, { on := 4, ground := Ground.phase }, { on := 5, ground := Ground.phase }, { on := 6, ground := Ground.phase }, { on := 7, ground := Ground.phase }, { on := 8, ground := Ground.phase }, { on := 9, ground := Ground.phase }, { on := 10, ground := Ground.phase }, { on := 11, ground := Ground.phase }, { on := 12, ground := Ground.phase }, { on := 13, ground := Ground.phase }, { on := 14, ground := Ground.phase }, { on := 15, ground := Ground.phase }]), none⟩
    ] mixed (by kernel_rfl)))
    (.seq (.live [0, 7, 8, 9, 10, 11] (.draw 18 [
      ⟨.p (opMove (some 60) (.tmp 4) 25 "law.go:189" #[]), none⟩,
      ⟨.p (opMove (some 61) (.tmp 0) 22 "law.go:189" #[]), none⟩,
      ⟨.p (opMove (some 62) (.tmp 0) 22 "law.go:189" #[]), none⟩,
      ⟨.p (opLen (some 63) (.tmp 62) 22 (.slice 29) Try.underlying22 3 "law.go:189" #[{ on := 2, ground := Ground.data }]), none⟩,
      ⟨.pn (opBin (some 64) .sub 3 (.tmp 63) (.const (Value.int IntKind.i64 1)) 3 3 "law.go:189" #[{ on := 3, ground := Ground.data }]) opBin_nat, none⟩,
      ⟨.p (opMove (some 65) (.tmp 7) 3 "law.go:189" #[]), none⟩,
      ⟨.pn (opBin (some 66) .sub 3 (.tmp 64) (.tmp 65) 3 3 "law.go:189" #[{ on := 4, ground := Ground.data }, { on := 5, ground := Ground.data }]) opBin_nat, none⟩,
      ⟨.pn (opIndexAddrT (some 67) 22 (.tmp 61) (.tmp 66) 29 3 Try.underlying22 sz29 0 "law.go:189" #[{ on := 1, ground := Ground.data }, { on := 6, ground := Ground.data }]) opIndexAddrT_nat, none⟩,
      ⟨.pn (opFieldAddr (some 68) 29 (.tmp 67) 1 1 1 false fl29_1 (by decide) 0 "law.go:189" #[{ on := 7, ground := Ground.data }]) opFieldAddr_nat, none⟩,
      ⟨.qn (opLoadT (.one (.int .i64)) (some 69) 3 (.tmp 68) (.int .i64) Try.underlying3 1 sz3 (by kernel_rfl) 3 "law.go:189" #[{ on := 8, ground := Ground.data }]) opLoadT_nat, none⟩,
      ⟨.p (opMove (some 70) (.tmp 0) 22 "law.go:189" #[]), none⟩,
      ⟨.p (opMove (some 71) (.tmp 0) 22 "law.go:189" #[]), none⟩,
      ⟨.p (opLen (some 72) (.tmp 71) 22 (.slice 29) Try.underlying22 3 "law.go:189" #[{ on := 11, ground := Ground.data }]), none⟩,
      ⟨.pn (opBin (some 73) .sub 3 (.tmp 72) (.const (Value.int IntKind.i64 1)) 3 3 "law.go:189" #[{ on := 12, ground := Ground.data }]) opBin_nat, none⟩,
      ⟨.p (opMove (some 74) (.tmp 7) 3 "law.go:189" #[]), none⟩,
      ⟨.pn (opBin (some 75) .sub 3 (.tmp 73) (.tmp 74) 3 3 "law.go:189" #[{ on := 13, ground := Ground.data }, { on := 14, ground := Ground.data }]) opBin_nat, none⟩,
      ⟨.pn (opIndexAddrT (some 76) 22 (.tmp 70) (.tmp 75) 29 3 Try.underlying22 sz29 0 "law.go:189" #[{ on := 10, ground := Ground.data }, { on := 15, ground := Ground.data }]) opIndexAddrT_nat, none⟩,
      ⟨.pn (opFieldAddr (some 77) 29 (.tmp 76) 2 2 1 false fl29_2 (by decide) 0 "law.go:189" #[{ on := 16, ground := Ground.data }]) opFieldAddr_nat, none⟩,
      ⟨.qn (opLoadT (.one (.ns 1)) (some 78) 25 (.tmp 77) (.slice 5) Try.underlying25 1 sz25 (by kernel_rfl) 25 "law.go:189" #[{ on := 17, ground := Ground.data }]) opLoadT_nat, none⟩,
      ⟨.pn (opCallP p11 (some 79) [(.tmp 60), (.tmp 69), (.tmp 78)] #[25, 3, 25] 30 "law.go:189" #[{ on := 0, ground := Ground.data }, { on := 9, ground := Ground.data }, { on := 18, ground := Ground.data }]) (opCallP_nat p11_nat), none⟩,
      ⟨.p (opMove (some 59) (.tmp 79) 30 "law.go:189" #[{ on := 19, ground := Ground.data }]), none⟩,
      ⟨.p (opExtract (some 80) (.tmp 59) 0 25 "law.go:189" #[{ on := 20, ground := Ground.data }]), none⟩,
      ⟨.p (opExtract (some 81) (.tmp 59) 1 4 "law.go:189" #[{ on := 20, ground := Ground.data }, { on := 23, ground := (Ground.gcOnly Departure.lateStores) }]), none⟩,
      ⟨.p (opAssign (some 10) (.tmp 80) 25 "law.go:189" #[{ on := 21, ground := Ground.data }, { on := 19, ground := Ground.chain }, { on := 0, ground := Ground.phase }, { on := 1, ground := Ground.phase }, { on := 2, ground := Ground.phase }, { on := 3, ground := Ground.phase }, { on := 4, ground := Ground.phase }, { on := 5, ground := Ground.phase }, { on := 6, ground := Ground.phase }, { on := 7, ground := Ground.phase }, { on := 8, ground := Ground.phase }, { on := 9, ground := Ground.phase }, { on := 10, ground := Ground.phase }, { on := 11, ground := Ground.phase }, { on := 12, ground := Ground.phase }, { on := 13, ground := Ground.phase }, { on := 14, ground := Ground.phase }, { on := 15, ground := Ground.phase }, { on := 16, ground := Ground.phase }, { on := 17, ground := Ground.phase }, { on := 18, ground := Ground.phase }, { on := 19, ground := Ground.phase }, { on := 20, ground := Ground.phase }, { on := 21, ground := Ground.phase }, { on := 22, ground := (Ground.textOnly Departure.lateStores) }]), none⟩,
      ⟨.p (opAssign (some 11) (.tmp 81) 4 "law.go:189" #[{ on := 22, ground := Ground.data }, { on := 23, ground := Ground.chain }, { on := 0, ground := Ground.phase }, { on := 1, ground := Ground.phase }, { on := 2, ground := Ground.phase }, { on := 3, ground := Ground.phase }, { on := 4, ground := Ground.phase }, { on := 5, ground := Ground.phase }, { on := 6, ground := Ground.phase }, { on := 7, ground := Ground.phase }, { on := 8, ground := Ground.phase }, { on := 9, ground := Ground.phase }, { on := 10, ground := Ground.phase }, { on := 11, ground := Ground.phase }, { on := 12, ground := Ground.phase }, { on := 13, ground := Ground.phase }, { on := 14, ground := Ground.phase }, { on := 15, ground := Ground.phase }, { on := 16, ground := Ground.phase }, { on := 17, ground := Ground.phase }, { on := 18, ground := Ground.phase }, { on := 19, ground := Ground.phase }, { on := 20, ground := Ground.phase }, { on := 21, ground := Ground.phase }, { on := 22, ground := Ground.phase }, { on := 23, ground := Ground.phase }]), none⟩
    ] mixed (by kernel_rfl)))
    (.seq (.seq (.live [0, 7, 8, 10, 87] (.region 19 [
      ⟨(opMove (some 82) (.tmp 9) 4 "law.go:190" #[]).op, none⟩,
      ⟨(opNot (some 83) 4 (.tmp 82) 4 "law.go:190" #[{ on := 0, ground := Ground.data }]).op, none⟩,
      ⟨(opMove (some 84) (.tmp 83) 4 "law.go:190" #[{ on := 1, ground := Ground.data }]).op, none⟩,
      ⟨(opMove (some 85) (.tmp 11) 4 "law.go:190" #[{ on := 2, ground := Ground.guard }]).op, (some (2, 84, false))⟩,
      ⟨(opNot (some 86) 4 (.tmp 85) 4 "law.go:190" #[{ on := 3, ground := Ground.data }, { on := 2, ground := Ground.guard }]).op, (some (2, 84, false))⟩,
      ⟨(opPick (some 87) (.tmp 84) (.const (Value.bool true)) (.tmp 86) 4 "law.go:190" #[{ on := 2, ground := Ground.data }, { on := 4, ground := Ground.data }]).op, none⟩
    ] (by kernel_rfl)))
    (.cond (.tmp 87)
      (.seq (.live [2] (.region 20 [
        ⟨(opAssign (some 2) (.const (Value.bool true)) 4 "law.go:191" #[]).op, none⟩
      ] (by kernel_rfl)))
      (.live [2] .ret))
      .skip))
    (.seq (.live [0, 3, 7, 10] (.region 21 [
      ⟨(opMove (some 88) (.tmp 8) 25 "law.go:193" #[]).op, none⟩,
      ⟨(opAssign (some 3) (.tmp 88) 25 "law.go:193" #[{ on := 0, ground := Ground.data }, { on := 0, ground := Ground.phase }]).op, none⟩
    ] (by kernel_rfl)))
    (.live [0, 3, 4, 7] (.region 22 [
      ⟨(opMove (some 89) (.tmp 10) 25 "law.go:194" #[]).op, none⟩,
      ⟨(opAssign (some 4) (.tmp 89) 25 "law.go:194" #[{ on := 0, ground := Ground.data }, { on := 0, ground := Ground.phase }]).op, none⟩
    ] (by kernel_rfl))))))))
  (.live [0, 3, 4, 7] (.region 16 [
    ⟨(opMove (some 42) (.tmp 7) 3 "law.go:187" #[]).op, none⟩,
    ⟨(opBin (some 43) .add 3 (.tmp 42) (.const (Value.int IntKind.i64 1)) 3 3 "law.go:187" #[{ on := 0, ground := Ground.data }]).op, none⟩,
    ⟨(opAssign (some 7) (.tmp 43) 3 "law.go:187" #[{ on := 1, ground := Ground.data }, { on := 0, ground := Ground.phase }, { on := 1, ground := Ground.phase }]).op, none⟩
  ] (by kernel_rfl)))))

/-- What follows a loop. -/
noncomputable def f3_r0 : Sim Try.prog :=
  (.seq (.live [2] (.region 23 [
    ⟨(opMove (some 90) (.tmp 3) 25 "law.go:196" #[]).op, none⟩,
    ⟨(opMove (some 91) (.tmp 4) 25 "law.go:196" #[]).op, none⟩,
    ⟨(opCallP p12 (some 92) [(.tmp 90), (.tmp 91)] #[25, 25] 4 "law.go:196" #[{ on := 0, ground := Ground.data }, { on := 1, ground := Ground.data }]).op, none⟩,
    ⟨(opAssign (some 2) (.tmp 92) 4 "law.go:196" #[{ on := 2, ground := Ground.data }, { on := 2, ground := Ground.chain }, { on := 0, ground := Ground.phase }, { on := 1, ground := Ground.phase }, { on := 2, ground := Ground.phase }]).op, none⟩
  ] (by kernel_rfl)))
  (.live [2] .ret))

/-- What follows a loop. -/
noncomputable def f3_r1 : Sim Try.prog :=
  (.seq (.seq (.live [0, 3, 4, 7] (.region 14 [
    ⟨(opAssign (some 7) (.const (Value.int IntKind.i64 0)) 3 "law.go:187" #[]).op, none⟩
  ] (by kernel_rfl)))
  (.block 2 (.loop [0, 3, 4, 7] f3_l1)))
  f3_r0)

noncomputable def f3_b : Sim Try.prog :=
  (.seq (.live [0] (.region 0 [
    ⟨(opAssign (some 2) (.const (Value.bool false)) 4 "law.go:171" #[]).op, none⟩
  ] (by kernel_rfl)))
  (.seq (.seq (.live [0, 13] (.region 1 [
    ⟨(opCallP p8 (some 12) [] #[] 4 "law.go:172" #[]).op, none⟩,
    ⟨(opNot (some 13) 4 (.tmp 12) 4 "law.go:172" #[{ on := 0, ground := Ground.data }]).op, none⟩
  ] (by kernel_rfl)))
  (.cond (.tmp 13)
    (.seq (.live [2] (.region 2 [
      ⟨(opAssign (some 2) (.const (Value.bool false)) 4 "law.go:173" #[]).op, none⟩
    ] (by kernel_rfl)))
    (.live [2] .ret))
    .skip))
  (.seq (.seq (.live [0, 15] (.region 3 [
    ⟨(opMove (some 14) (.tmp 0) 22 "law.go:175" #[]).op, none⟩,
    ⟨(opCallP p9 (some 15) [(.tmp 14)] #[22] 4 "law.go:175" #[{ on := 0, ground := Ground.data }]).op, none⟩
  ] (by kernel_rfl)))
  (.cond (.tmp 15)
    (.seq (.live [2] (.region 4 [
      ⟨(opAssign (some 2) (.const (Value.bool true)) 4 "law.go:176" #[]).op, none⟩
    ] (by kernel_rfl)))
    (.live [2] .ret))
    .skip))
  (.seq (.live [0, 3] (.region 5 [
    ⟨(opCallP p10 (some 16) [] #[] 25 "law.go:178" #[]).op, none⟩,
    ⟨(opAssign (some 3) (.tmp 16) 25 "law.go:178" #[{ on := 0, ground := Ground.data }, { on := 0, ground := Ground.chain }, { on := 0, ground := Ground.phase }]).op, none⟩
  ] (by kernel_rfl)))
  (.seq (.live [0, 3, 4] (.region 6 [
    ⟨(opCallP p10 (some 17) [] #[] 25 "law.go:179" #[]).op, none⟩,
    ⟨(opAssign (some 4) (.tmp 17) 25 "law.go:179" #[{ on := 0, ground := Ground.data }, { on := 0, ground := Ground.chain }, { on := 0, ground := Ground.phase }]).op, none⟩
  ] (by kernel_rfl)))
  (.seq (.live [0, 3, 4, 5] (.region 7 [
    ⟨(opMakeMap (some 18) 27 27 "law.go:180" #[]).op, none⟩,
    ⟨(opAssign (some 5) (.tmp 18) 27 "law.go:180" #[{ on := 0, ground := Ground.data }, { on := 0, ground := Ground.phase }]).op, none⟩
  ] (by kernel_rfl)))
  (.seq (.seq (.live [0, 3, 4, 5, 6] (.region 8 [
    ⟨(opAssign (some 6) (.const (Value.int IntKind.i64 0)) 3 "law.go:181" #[]).op, none⟩
  ] (by kernel_rfl)))
  (.block 0 (.loop [0, 3, 4, 5, 6] f3_l0)))
  f3_r1)))))))

noncomputable def f3 : Fun Try.prog where
  id := 3
  fn := Try.f3
  hf := Try.func3
  hname := by kernel_rfl
  body := f3_b
  hbody := by kernel_rfl
  res := [rTmp 2]
  hres := by kernel_rfl
  n := 93
  hn := by kernel_rfl

end Go.Proofs.Ytblliolkgkgppaa.V
