/- Merged out of 7 texts: what the claim's code comes to, and why. -/
import Derived.Test.YtblliolkgkgppaaR46
/- Page: the reference's Room; its slots of a page's bytes. -/
set_option linter.unusedVariables false
namespace Go.Proofs.Ytblliolkgkgppaa.V
open Go Go.V Go.RowKit

/-! ### Room -/
theorem zeros_rowN (c : Nat) : List.replicate c [AV.int IntKind.u8 (0 : Int)] = bR (List.replicate c 0) := by simp [bR]
theorem rA_zeros {l : List (List AV)} (hm : trm (sR l) = true) (hk : pgOk (sR l) = true) (n : Nat) : oB (rA l (List.replicate n 0)) = decide (freeK (sR l) ≤ 250 ∧ szN (sR l) + mS (sR l) + n ≤ 256 ∧ n ≤ 200) := by
  rw [rA, opq_eq, putS, Int.toNat_natCast, toP, pgOk_free hm hk, List.length_replicate]
  by_cases h1 : freeK (sR l) ≤ 250
  · rw [if_pos ⟨by omega, by omega⟩]
    by_cases h2 : szN (sR l) + mS (sR l) + n ≤ 256 ∧ n ≤ 200
    · rw [if_pos (by simpa using h2), oB_some, decide_eq_true ⟨h1, h2⟩]
    · rw [if_neg (by simpa using h2), oB_none, decide_eq_false (fun h => h2 h.2)]
  · rw [if_neg (by omega), oB_none, decide_eq_false (fun h => h1 h.1)]
/-- The greatest number, not above n, of bytes that can be added. -/
def downI (s : Sl) (n : Int) : Int := if freeK s ≤ 250 then max (min n (256 - (szN s : Int) - mS s)) (-1) else -1
theorem rroom_loop (F : Nat) (z : Bool) (l : List (List AV)) (hl : isN l = true) (hm : trm (sR l) = true) (hk : pgOk (sR l) = true) : ∀ (m n : Nat), n ≤ 201 → n < m →
    loopRun (f34_l0.run F) [1, 3] (Cont.block 0 (Cont.then (f34_r0.run F (f34.leaveK Fun.done)) (f34.leaveK Fun.done))) m (Env.mk 21 [(1, .eptr [.ns z 1 l]), (3, .int .i64 ((n : Int) - 1))]) ⟨[], []⟩ = some (.ret (.int .i64 (downI (sR l) ((n : Int) - 1))), ⟨[], []⟩)
  | 0, n, h, hn => by omega
  | m + 1, 0, h, hn => by
    have e : downI (sR l) (((0 : Nat) : Int) - 1) = -1 := by rw [downI]; split <;> omega
    rw [show m + 1 = m.succ from rfl, rroom_round, branch_not (by rfl), rroom_out, e]
  | m + 1, n + 1, h, hn => by
    have ih := rroom_loop F z l hl hm hk m n (by omega) (by omega)
    have e0 : ((n + 1 : Nat) : Int) - 1 = (n : Int) := by omega
    have hb : byOk (bR (List.replicate n 0)) = true := byOk_bR (fun x hx => by rw [List.eq_of_mem_replicate hx]; omega) (by rw [List.length_replicate]; omega)
    have w : IntKind.i64.wrap ((n : Int) - 1) = (n : Int) - 1 := wrapS (by omega) (by omega)
    rw [show m + 1 = m.succ from rfl, rroom_round, e0, branch_of (by simp), Int.toNat_natCast, branch_of (by simp [Nat.ble_eq]; omega), zeros_rowN, nR_bR, branch_of (by rw [hl, hb, cdec_iff.mpr (by rw [bR_length, List.length_replicate]; omega)]; rfl), rA_zeros hm hk, w, ih, rroom_ret]
    by_cases hc : freeK (sR l) ≤ 250 ∧ szN (sR l) + mS (sR l) + n ≤ 256 ∧ n ≤ 200
    · rw [branch_of (by rw [decide_eq_true_eq]; exact hc)]
      have e : downI (sR l) (n : Int) = n := by rw [downI, if_pos hc.1]; omega
      rw [e]
    · rw [branch_not (by rw [decide_eq_false_iff_not]; exact hc)]
      have e : downI (sR l) (n : Int) = downI (sR l) ((n : Int) - 1) := by
        rw [downI, downI]
        split
        · rename_i hf
          have : ¬ (szN (sR l) + mS (sR l) + n ≤ 256 ∧ n ≤ 200) := fun h2 => hc ⟨hf, h2⟩
          omega
        · rfl
      rw [e]
theorem freeK_mS (s : Sl) : (mS s = 0 ∧ freeK s < s.length) ∨ (mS s = 1 ∧ freeK s = s.length) := by
  cases ha : s.any (·.isNone) with
  | true => exact .inl ⟨by rw [mS, if_pos ha], (free_at ha).1⟩
  | false => exact .inr ⟨by rw [mS, if_neg (by simp [ha])], freeK_none ha⟩
theorem down_room {s : Sl} (hl : s.length ≤ 251) : downI s 200 = roomI s := by
  have hm : (if s.any (·.isNone) then (0 : Int) else 1) = (mS s : Int) := by rw [mS]; split <;> rfl
  unfold downI roomI
  simp only [hm]
  rcases freeK_mS s with ⟨h1, h2⟩ | ⟨h1, h2⟩
  · rw [if_pos (by omega), h1]
    split
    · omega
    · omega
  · rw [h1, h2]
    by_cases h3 : s.length ≤ 250
    · rw [if_pos h3]
      split
      · omega
      · omega
    · rw [if_neg h3, if_pos (by omega)]
noncomputable def roomR (l : List (List AV)) : Int := opq (roomI (sR l))
noncomputable def p34 : POrc Try.prog := f34.farN
  (fun args k => match args with
    | [.agg [x]] => onNs 1 x fun _ l => ifT (isN l && cdec (trm (sR l) = true ∧ pgOk (sR l) = true ∧ l.length ≤ 251)) (k (.int .i64 (roomR l)))
    | _ => none)
  fun args k fin h => by
    split at h
    · rename_i x
      obtain ⟨z, l, g1, hx⟩ := onNs_spec h
      obtain ⟨h1, g2⟩ := ifT_spec g1
      rw [Bool.and_eq_true, cdec_iff] at h1
      obtain ⟨e1, e2, e3, e4⟩ := h1
      obtain ⟨k1, k2, k3⟩ := isN_iff.mp e1
      rw [roomR, opq_eq] at g2
      refine ⟨_, _, g2, .cons (.agg (.cons hx .nil)) .nil, ⟨⟨by rw [k2]; exact sN_scoped _, trivial⟩, trivial⟩, trivial, 300, .int .i64 (roomI (sR l)), ⟨[], []⟩, rfl, ?_⟩
      rw [rroom_run, ← down_room (by rw [sR_length]; exact e4)]
      exact rroom_loop 300 z l e1 e2 e3 300 201 (by omega) (by omega)
    · cases h
theorem p34_nat : p34.Nat := by
  intro args k
  simp only [p34, Fun.farN]
  split
  · exact onNs_nat fun _ _ => ifT_nat rfl
  · rfl

/-! ### Of -/
noncomputable def rstS (t : Sl) (u : Nat) : St := match t with
  | [] => ⟨[.cells [.nilsl], .cells [.nilsl], .nov 0, .nov u], []⟩
  | o :: r => ⟨[.cells [.nilsl], .cells [.vs 2 (o :: r).length 1 (o :: r).length], .vec (o :: r).length (sCN (o :: r)), .nov u], []⟩
theorem rstS_snoc (t : Sl) (o : Option (List Nat)) (u : Nat) : rstS (t ++ [o]) u = ⟨[.cells [.nilsl], .cells [.vs 2 (t.length + 1) 1 (t.length + 1)], .vec (t.length + 1) (sCN t ++ [cellN o]), .nov u], []⟩ := by
  cases t with
  | nil => rfl
  | cons x t => simp [rstS, sCN]
noncomputable abbrev rofK (F : Nat) : Cont := Cont.block 0 (Cont.then (f29_r0.run F (f29.leaveK Fun.done)) (f29.leaveK Fun.done))
theorem own_rowN (b : List Nat) (n : Nat) (h : b.length = n) : rowsC 1 n (setC (zerC n [.int .u8 0]) 0 (flC (bR b) (minN (bR b).length n))) 0 = bR b ∧
    inC (zerC n [.int .u8 0]) 0 (mulN (minN (bR b).length n) 1) = true ∧ inC (setC (zerC n [.int .u8 0]) 0 (flC (bR b) (minN (bR b).length n))) 0 (mulN n 1) = true := by
  have := own_row b
  rw [Int.toNat_natCast, bR_length, h] at this
  rw [bR_length, h]
  exact this
theorem rof_loop (F : Nat) (z : Bool) (p : List Nat) (hp : p.length = 256) (hpb : ∀ b ∈ p, b < 256) (n0 : Nat) (hn0 : p[0]'(by omega) = n0) (h255 : n0 ≤ 255) : ∀ (k m i e : Nat) (t r : Sl) (u : Nat), i + k = n0 → k < m → e ≤ 256 → t.length = i → decL (((p.take (1 + n0)).drop 1).drop i) e p = some r → (∀ o ∈ r, olen o ≤ 200) →
    ∃ u', loopRun (f29_l0.run F) [0, 2, 4, 5, 6] (rofK F) m (Env.mk 94 [(0, .ns z 1 (bR p)), (2, .ptr 0 0), (4, .ptr 1 0), (5, .int .i64 (e : Int)), (6, .int .i64 (i : Int))]) (rstS t u) =
      rofK F (.exit 0) (Env.mk 94 [(0, .ns z 1 (bR p)), (2, .ptr 0 0), (4, .ptr 1 0)]) (rstS (t ++ r) u')
  | k, 0, i, e, t, r, u, hi, hm, he, htl, hd, hr => by omega
  | 0, m + 1, i, e, t, r, u, hi, hm, he, htl, hd, hr => by
    obtain ⟨c1, c2, c3⟩ : inR (bR p) (0 : Int) = true ∧ (LD.one (.int .u8)).is (V.rowAt (bR p) (0 : Int)) = true ∧ hdI (V.rowAt (bR p) (0 : Int)) = (p[0]'(by omega) : Nat) := bR_at hpb (i := 0) (by omega)
    rw [List.drop_eq_nil_of_le (by simp; omega)] at hd
    cases hd
    have w0 : IntKind.i64.wrap ((p[0]'(by omega) : Nat) : Int) = (n0 : Int) := by rw [hn0, wrap_nat (by omega)]
    refine ⟨u, ?_⟩
    rw [List.append_nil]
    cases t with
    | nil => rw [rstS, show m + 1 = m.succ from rfl, rof_round0, branch_of c1, branch_of c2, c3, w0, branch_not (by rw [decide_eq_false_iff_not]; omega)]
    | cons o t => rw [rstS, show m + 1 = m.succ from rfl, rof_round, branch_of c1, branch_of c2, c3, w0, branch_not (by rw [decide_eq_false_iff_not]; omega)]
  | k + 1, m + 1, i, e, t, r, u, hi, hm, he, htl, hd, hr => by
    obtain ⟨c1, c2, c3⟩ : inR (bR p) (0 : Int) = true ∧ (LD.one (.int .u8)).is (V.rowAt (bR p) (0 : Int)) = true ∧ hdI (V.rowAt (bR p) (0 : Int)) = (p[0]'(by omega) : Nat) := bR_at hpb (i := 0) (by omega)
    have h1 : 1 + i < p.length := by omega
    obtain ⟨d1, d2, d3⟩ := bR_at hpb h1
    have hlt : p[1 + i] < 256 := hpb _ (List.getElem_mem h1)
    have hcl : i < ((p.take (1 + n0)).drop 1).length := by simp; omega
    have hci : ((p.take (1 + n0)).drop 1)[i] = p[1 + i] := by simp only [List.getElem_drop, List.getElem_take]
    rw [drop_at hcl, hci] at hd
    generalize hx : p[1 + i] = c at *
    have w0 : IntKind.i64.wrap ((p[0]'(by omega) : Nat) : Int) = (n0 : Int) := by rw [hn0, wrap_nat (by omega)]
    have w1 : IntKind.i64.wrap (1 + (i : Int)) = ((1 + i : Nat) : Int) := by rw [show 1 + (i : Int) = ((1 + i : Nat) : Int) by omega, wrap_nat (by omega)]
    have w2 : IntKind.i64.wrap ((c : Nat) : Int) = (c : Int) := wrap_nat (by omega)
    have w3 : IntKind.i64.wrap ((c : Int) - 1) = (c : Int) - 1 := wrapS (by omega) (by omega)
    have w4 := wrap_succ (i := i) (by omega)
    have hg : ∀ cs : List AV, cs.length = t.length → (t.length.beq t.length && (inC cs 0 (mulN t.length 1) && apOk (t.length + 1) 24)) = true := fun cs hc => vs_guard hc.symm (by omega)
    rw [decL] at hd
    by_cases h0 : c = 0
    · rw [if_pos h0, Option.map_eq_some_iff] at hd
      obtain ⟨r', hd', rfl⟩ := hd
      obtain ⟨u', ih⟩ := rof_loop F z p hp hpb n0 hn0 h255 k m (i + 1) e (t ++ [none]) r' u (by omega) (by omega) he (by simp [htl]) hd' (fun o ho => hr o (List.mem_cons_of_mem _ ho))
      refine ⟨u', ?_⟩
      rw [rstS_snoc, List.append_assoc, List.singleton_append] at ih
      rw [← ih]
      have hneg : decide ((c : Int) - 1 < 0) = true := by rw [decide_eq_true_eq]; omega
      cases t with
      | nil =>
        rw [rstS, show m + 1 = m.succ from rfl, rof_round0, branch_of c1, branch_of c2, c3, w0, branch_of (by rw [decide_eq_true_eq]; omega), w1, branch_not (by rw [decide_eq_false_iff_not]; omega), branch_of d1, branch_of d2, d3, w2, w3, branch_of hneg, branch_of ap_one, w4, catC_nil]
        rfl
      | cons o t =>
        rw [rstS, show m + 1 = m.succ from rfl, rof_round, branch_of c1, branch_of c2, c3, w0, branch_of (by rw [decide_eq_true_eq]; omega), w1, branch_not (by rw [decide_eq_false_iff_not]; omega), branch_of d1, branch_of d2, d3, w2, w3, branch_of hneg, branch_of (hg _ (sCN_length _)), w4, catC_one (sCN_length _).symm]
        rfl
    · rw [if_neg h0] at hd
      by_cases h2 : c - 1 > e
      · rw [if_pos h2] at hd; cases hd
      · rw [if_neg h2, Option.map_eq_some_iff] at hd
        obtain ⟨r', hd', rfl⟩ := hd
        obtain ⟨n, rfl⟩ : ∃ n, c = n + 1 := ⟨c - 1, by omega⟩
        rw [Nat.add_sub_cancel] at *
        generalize hb : (p.take e).drop (e - n) = b at *
        have hbl : b.length = n := by rw [← hb]; simp; omega
        have h200 : n ≤ 200 := by
          have := hr _ List.mem_cons_self
          have hob : olen (some b) = b.length := rfl
          omega
        obtain ⟨u', ih⟩ := rof_loop F z p hp hpb n0 hn0 h255 k m (i + 1) (e - n) (t ++ [some b]) r' (u + 2) (by omega) (by omega) (by omega) (by simp [htl]) hd' (fun o ho => hr o (List.mem_cons_of_mem _ ho))
        refine ⟨u', ?_⟩
        rw [rstS_snoc, List.append_assoc, List.singleton_append] at ih
        rw [← ih]
        have e1 : ((n + 1 : Nat) : Int) - 1 = (n : Int) := by omega
        have w5 : IntKind.i64.wrap ((e : Int) - (n : Int)) = ((e - n : Nat) : Int) := by rw [show (e : Int) - (n : Int) = ((e - n : Nat) : Int) by omega, wrap_nat (by omega)]
        have w6 : IntKind.i64.wrap (((e - n : Nat) : Int) + (n : Int)) = (e : Int) := by rw [show ((e - n : Nat) : Int) + (n : Int) = (e : Int) by omega, wrap_nat (by omega)]
        have er : List.drop (e - n) (List.take e (bR p)) = bR b := by rw [bR_take, bR_drop, hb]
        obtain ⟨o1, o2, o3⟩ := own_rowN b n hbl
        have hmk : mkOk 1 (n : Int) = true := by rw [mkOk_iff]; omega
        have hcell : AV.ns false 1 (bR b) = cellN (some b) := rfl
        rw [e1] at w3
        cases t with
        | nil =>
          rw [rstS, show m + 1 = m.succ from rfl, rof_round0, branch_of c1, branch_of c2, c3, w0, branch_of (by rw [decide_eq_true_eq]; omega), w1, branch_not (by rw [decide_eq_false_iff_not]; omega), branch_of d1, branch_of d2, d3, w2, e1, w3, branch_not (by rw [decide_eq_false_iff_not]; omega), branch_not (by rw [decide_eq_false_iff_not]; omega), branch_not (by rw [decide_eq_false_iff_not]; omega), branch_of hmk, w5, w6, bR_length, if_pos ⟨by omega, by omega⟩, Int.toNat_natCast, Int.toNat_natCast, Int.toNat_natCast, if_pos ⟨by omega, by omega⟩, er,
            branch_of (by rw [Nat.beq_refl, o2]; rfl), branch_of (by rw [Nat.beq_refl, o3]; rfl), branch_of ap_one, o1, w4, catC_nil, hcell]
          rfl
        | cons o t =>
          rw [rstS, show m + 1 = m.succ from rfl, rof_round, branch_of c1, branch_of c2, c3, w0, branch_of (by rw [decide_eq_true_eq]; omega), w1, branch_not (by rw [decide_eq_false_iff_not]; omega), branch_of d1, branch_of d2, d3, w2, e1, w3, branch_not (by rw [decide_eq_false_iff_not]; omega), branch_not (by rw [decide_eq_false_iff_not]; omega), branch_not (by rw [decide_eq_false_iff_not]; omega), branch_of hmk, w5, w6, bR_length, if_pos ⟨by omega, by omega⟩, Int.toNat_natCast, Int.toNat_natCast, Int.toNat_natCast, if_pos ⟨by omega, by omega⟩, er,
            branch_of (by rw [Nat.beq_refl, o2]; rfl), branch_of (by rw [Nat.beq_refl, o3]; rfl), branch_of (hg _ (sCN_length _)), o1, w4, catC_one (sCN_length _).symm, hcell]
theorem rof_end (F : Nat) (z : Bool) {p : List Nat} (hp : Pg p) (u : Nat) :
    ∃ r' xs, rofK F (.exit 0) (Env.mk 94 [(0, .ns z 1 (bR p)), (2, .ptr 0 0), (4, .ptr 1 0)]) (rstS (ofS p) u) = some (.ret r', ⟨xs, []⟩) ∧ hard xs r' = .tup [.agg [match ofS p with | [] => .nilsl | _ => .sl 1 false (sN (ofS p))], .bool true] := by
  obtain ⟨q0, q1, q2, q3, q4⟩ := hp.slots
  have hby : byOk (bR p) = true := byOk_bR hp.1 (by rw [hp.2.1]; omega)
  have hok := okS_sN q1
  have hpg : pgR (sN (ofS p)) = bR p := by rw [pgR_ok (by rw [sR_sN]; exact q2), sR_sN, q4]
  generalize ofS p = s at *
  cases s with
  | nil =>
    refine ⟨.tup [.agg [.nilsl], .bool true], [.cells [.nilsl], .cells [.nilsl], .nov 0, .nov u], ?_, rfl⟩
    rw [rofK, rstS, rof_out0, show ([] : List (List AV)) = sN [] from rfl, branch_of hok, hpg, branch_of (by rw [hby]; rfl), branch_not (by simp)]
  | cons o s =>
    have hl : (o :: s).length ≤ (sCN (o :: s)).length := by rw [sCN_length]; exact Nat.le_refl _
    have hrow : rowsC 1 (o :: s).length (sCN (o :: s)) 0 = sN (o :: s) := by
      rw [rowsC_one hl, List.take_of_length_le (by rw [sCN_length]; exact Nat.le_refl _), cR_sCN]
    have htr : trN (o :: s).length (sCN (o :: s)) = (o :: s).length := by rw [trN_sCN, trS_id q3]
    refine ⟨.tup [.agg [.vs 2 (o :: s).length 1 (o :: s).length], .bool true], [.cells [.vs 2 (o :: s).length 1 (o :: s).length], .cells [.vs 2 (o :: s).length 1 (o :: s).length], .vec (o :: s).length (sCN (o :: s)), .nov u], ?_, ?_⟩
    · rw [rofK, rstS, rof_out, branch_of (by rw [Nat.beq_refl, inC_one hl]; rfl), hrow, branch_of hok, branch_not (by rw [sR_sN, q2]; rfl), hpg, branch_of (by rw [hby]; rfl), branch_not (by simp), branch_of (by rw [Nat.beq_refl, cR_sCN, hok, slC_sCN, cdec_iff.mpr hl]; rfl), htr, branch_not (by simp)]
    · simp only [hard, hardL, List.getElem?_cons_succ, List.getElem?_cons_zero, Nat.beq_refl]
      rw [rows_sCN _ _ (Nat.le_refl _), List.take_of_length_le (Nat.le_refl _)]
noncomputable def rfE (p : List Nat) : Bool := opq (ofS p).isEmpty
noncomputable def rfR (p : List Nat) : List (List AV) := opq (sN (ofS p))
noncomputable def p29 : POrc Try.prog := f29.farW
  (fun args k => match args with
    | [x] => onNs 1 x fun _ l => ifT (byOk l && cdec (Pg (nR l))) (k (.tup [.agg [.ns (rfE (nR l)) 1 (rfR (nR l))], .bool true]))
    | _ => none)
  fun args k fin h => by
    split at h
    · rename_i x
      obtain ⟨z, l, g1, hx⟩ := onNs_spec h
      obtain ⟨h1, g2⟩ := ifT_spec g1
      rw [Bool.and_eq_true, cdec_iff] at h1
      obtain ⟨e1, hp⟩ := h1
      have hok := byOk_iff.mp e1
      have hr := okR_rows hok.1
      generalize hpp : nR l = p at *
      subst hr
      refine ⟨_, _, g2, .cons hx .nil, ⟨bR_scoped _, trivial⟩, 300, ?_⟩
      obtain ⟨q0, q1, q2, q3, q4⟩ := hp.slots
      obtain ⟨s1, s2, s3, s4, s5⟩ := ofP_some q0
      have h0 : 0 < p.length := by rw [hp.2.1]; decide
      have hhd : p.headD 0 = p[0] := by cases p with | nil => simp at h0 | cons x p => rfl
      rw [hhd] at s2
      have hlt := hp.1 _ (List.getElem_mem h0)
      obtain ⟨u', lp⟩ := rof_loop 300 z p hp.2.1 hp.1 p[0] rfl (by omega) p[0] 300 0 256 [] (ofS p) 0 (by omega) (by omega) (by omega) rfl (by rw [List.drop_zero]; exact s2) (pgOk_iff.mp q2).2
      rw [List.nil_append] at lp
      obtain ⟨r', xs, k1, k2⟩ := rof_end 300 z hp u'
      refine ⟨r', ⟨xs, []⟩, ?_, ?_, ?_⟩
      · rw [rof_run, branch_not (by rw [bR_length, hp.2.1]; rfl)]
        exact lp.trans k1
      · show Scoped 0 0 (hard xs r')
        rw [k2]
        cases ofS p with
        | nil => exact ⟨⟨trivial, trivial⟩, trivial, trivial⟩
        | cons o s => exact ⟨⟨sN_scoped _, trivial⟩, trivial, trivial⟩
      · show Wk (hard xs r') _
        rw [k2, rfE, rfR, opq_eq, opq_eq]
        cases ofS p with
        | nil => exact .tup (.cons (.agg (.cons .nil .nil)) (.cons (.refl _) .nil))
        | cons o s => exact .tup (.cons (.agg (.cons .sl .nil)) (.cons (.refl _) .nil))
    · cases h
theorem p29_nat : p29.Nat := by
  intro args k
  simp only [p29, Fun.farW]
  split
  · exact onNs_nat fun _ _ => ifT_nat rfl
  · rfl
end Go.Proofs.Ytblliolkgkgppaa.V

/- The functions' pieces, as told by gen.py. -/
set_option linter.unusedVariables false
set_option maxRecDepth 20000
namespace Go.Proofs.Ytblliolkgkgppaa.V
open Go Go.V Go.RowKit


/-! ### 20: interlock/interlocklaw06.asks (25, 3, 25); results 6; slots:  -/
/-- A loop's round; at its head live: 0 , 7 , 9 , 10 , 11 , 12 , 13 , 14 , 15 , 16 , 17 , 18 , 19 , 20 , 21 , 22 , 23 , 24 , 25 , 26 , 27 , 28 , 29  -/
noncomputable def f20_l0 : Sim Try.prog :=
  (.seq (.seq (.live [0, 7, 9, 10, 11, 12, 13, 14, 15, 16, 17, 18, 19, 20, 21, 22, 23, 24, 25, 26, 27, 28, 29, 139] (.region 17 [
    ⟨(opMove (some 135) (.tmp 29) 3 "law.go:54" #[]).op, none⟩,
    ⟨(opFieldAddr (some 136) 53 (.tmp 7) 0 0 1 false fl53_0 (by decide) 0 "law.go:54" #[]).op, none⟩,
    ⟨(opLoadT (.one .any) (some 137) 43 (.tmp 136) (.slice 25) Try.underlying43 1 sz43 (by kernel_rfl) 43 "law.go:54" #[{ on := 1, ground := Ground.data }]).op, none⟩,
    ⟨(opLen (some 138) (.tmp 137) 43 (.slice 25) Try.underlying43 3 "law.go:54" #[{ on := 2, ground := Ground.data }]).op, none⟩,
    ⟨(opBin (some 139) .lss 3 (.tmp 135) (.tmp 138) 3 4 "law.go:54" #[{ on := 0, ground := Ground.data }, { on := 3, ground := Ground.data }]).op, none⟩
  ] (by kernel_rfl)))
  (.cond (.tmp 139)
    .skip
    (.live [0, 7, 9, 10, 11, 12, 13, 14, 15, 16, 17, 18, 19, 20, 21, 22, 23, 24, 25, 26, 27, 28] (.exit 0))))
  (.seq (.block 1 (.seq (.seq (.live [0, 7, 9, 10, 11, 12, 13, 14, 15, 16, 17, 18, 19, 20, 21, 22, 23, 24, 25, 26, 27, 28, 29, 147] (.region 19 [
      ⟨(opFieldAddr (some 142) 53 (.tmp 7) 0 0 1 false fl53_0 (by decide) 0 "law.go:55" #[]).op, none⟩,
      ⟨(opLoadT (.one .any) (some 143) 43 (.tmp 142) (.slice 25) Try.underlying43 1 sz43 (by kernel_rfl) 43 "law.go:55" #[{ on := 0, ground := Ground.data }]).op, none⟩,
      ⟨(opMove (some 144) (.tmp 29) 3 "law.go:55" #[]).op, none⟩,
      ⟨(opIndexAddrT (some 145) 43 (.tmp 143) (.tmp 144) 25 1 Try.underlying43 sz25 0 "law.go:55" #[{ on := 1, ground := Ground.data }, { on := 2, ground := Ground.data }]).op, none⟩,
      ⟨(opLoadT (.one (.ns 1)) (some 146) 25 (.tmp 145) (.slice 5) Try.underlying25 1 sz25 (by kernel_rfl) 25 "law.go:55" #[{ on := 3, ground := Ground.data }]).op, none⟩,
      ⟨(opEq (some 147) 25 (.slice 5) Try.underlying25 (.tmp 146) (.const (Value.slice none 0 0)) (.inl rfl) 25 4 "law.go:55" #[{ on := 4, ground := Ground.data }]).op, none⟩
    ] (by kernel_rfl)))
    (.cond (.tmp 147)
      (.live [0, 7, 9, 10, 11, 12, 13, 14, 15, 16, 17, 18, 19, 20, 21, 22, 23, 24, 25, 26, 27, 28, 29] (.exit 1))
      .skip))
    (.seq (.seq (.live [0, 7, 9, 10, 11, 12, 13, 14, 15, 16, 17, 18, 19, 20, 21, 22, 23, 24, 25, 26, 27, 28, 29, 159] (.region 20 [
      ⟨(opMove (some 148) (.tmp 28) 3 "law.go:58" #[]).op, none⟩,
      ⟨(opMove (some 149) (.tmp 18) 38 "law.go:58" #[]).op, none⟩,
      ⟨(opLen (some 150) (.tmp 149) 38 (.slice 3) Try.underlying38 3 "law.go:58" #[{ on := 1, ground := Ground.data }]).op, none⟩,
      ⟨(opBin (some 151) .geq 3 (.tmp 148) (.tmp 150) 3 4 "law.go:58" #[{ on := 0, ground := Ground.data }, { on := 2, ground := Ground.data }]).op, none⟩,
      ⟨(opMove (some 152) (.tmp 151) 4 "law.go:58" #[{ on := 3, ground := Ground.data }]).op, none⟩,
      ⟨(opMove (some 153) (.tmp 18) 38 "law.go:58" #[{ on := 4, ground := Ground.guard }]).op, (some (4, 152, false))⟩,
      ⟨(opMove (some 154) (.tmp 28) 3 "law.go:58" #[{ on := 4, ground := Ground.guard }]).op, (some (4, 152, false))⟩,
      ⟨(opIndexAddrT (some 155) 38 (.tmp 153) (.tmp 154) 3 1 Try.underlying38 sz3 0 "law.go:58" #[{ on := 5, ground := Ground.data }, { on := 6, ground := Ground.data }, { on := 4, ground := Ground.guard }]).op, (some (4, 152, false))⟩,
      ⟨(opLoadT (.one (.int .i64)) (some 156) 3 (.tmp 155) (.int .i64) Try.underlying3 1 sz3 (by kernel_rfl) 3 "law.go:58" #[{ on := 7, ground := Ground.data }, { on := 4, ground := Ground.guard }]).op, (some (4, 152, false))⟩,
      ⟨(opMove (some 157) (.tmp 29) 3 "law.go:58" #[{ on := 4, ground := Ground.guard }]).op, (some (4, 152, false))⟩,
      ⟨(opBin (some 158) .neq 3 (.tmp 156) (.tmp 157) 3 4 "law.go:58" #[{ on := 8, ground := Ground.data }, { on := 9, ground := Ground.data }, { on := 4, ground := Ground.guard }]).op, (some (4, 152, false))⟩,
      ⟨(opPick (some 159) (.tmp 152) (.const (Value.bool true)) (.tmp 158) 4 "law.go:58" #[{ on := 4, ground := Ground.data }, { on := 10, ground := Ground.data }]).op, none⟩
    ] (by kernel_rfl)))
    (.cond (.tmp 159)
      (.seq (.live [6] (.region 21 [
        ⟨(opAssign (some 6) (.const (Value.bool false)) 4 "law.go:59" #[]).op, none⟩
      ] (by kernel_rfl)))
      (.live [6] .ret))
      .skip))
    (.live [0, 7, 9, 10, 11, 12, 13, 14, 15, 16, 17, 18, 19, 20, 21, 22, 23, 24, 25, 26, 27, 28, 29] (.region 22 [
      ⟨(opMove (some 160) (.tmp 28) 3 "law.go:61" #[]).op, none⟩,
      ⟨(opBin (some 161) .add 3 (.tmp 160) (.const (Value.int IntKind.i64 1)) 3 3 "law.go:61" #[{ on := 0, ground := Ground.data }]).op, none⟩,
      ⟨(opAssign (some 28) (.tmp 161) 3 "law.go:61" #[{ on := 1, ground := Ground.data }, { on := 0, ground := Ground.phase }, { on := 1, ground := Ground.phase }]).op, none⟩
    ] (by kernel_rfl))))))
  (.live [0, 7, 9, 10, 11, 12, 13, 14, 15, 16, 17, 18, 19, 20, 21, 22, 23, 24, 25, 26, 27, 28, 29] (.region 18 [
    ⟨(opMove (some 140) (.tmp 29) 3 "law.go:54" #[]).op, none⟩,
    ⟨(opBin (some 141) .add 3 (.tmp 140) (.const (Value.int IntKind.i64 1)) 3 3 "law.go:54" #[{ on := 0, ground := Ground.data }]).op, none⟩,
    ⟨(opAssign (some 29) (.tmp 141) 3 "law.go:54" #[{ on := 1, ground := Ground.data }, { on := 0, ground := Ground.phase }, { on := 1, ground := Ground.phase }]).op, none⟩
  ] (by kernel_rfl)))))

/-- What follows a loop. -/
noncomputable def f20_r0 : Sim Try.prog :=
  (.seq (.live [6] (.draw 23 [
    ⟨.p (opMove (some 162) (.tmp 9) 25 "law.go:63" #[]), none⟩,
    ⟨.p (opMove (some 163) (.tmp 19) 25 "law.go:63" #[]), none⟩,
    ⟨.pn (opCallP p12 (some 164) [(.tmp 162), (.tmp 163)] #[25, 25] 4 "law.go:63" #[{ on := 0, ground := Ground.data }, { on := 1, ground := Ground.data }]) (opCallP_nat p12_nat), none⟩,
    ⟨.p (opMove (some 165) (.tmp 164) 4 "law.go:63" #[{ on := 2, ground := Ground.data }, { on := 2, ground := Ground.chain }]), none⟩,
    ⟨.p (opMove (some 166) (.tmp 10) 4 "law.go:63" #[{ on := 3, ground := Ground.guard }]), (some (3, 165, true))⟩,
    ⟨.p (opMove (some 167) (.tmp 20) 4 "law.go:63" #[{ on := 3, ground := Ground.guard }]), (some (3, 165, true))⟩,
    ⟨.p (opEq (some 168) 4 .bool Try.underlying4 (.tmp 166) (.tmp 167) (.inr rfl) 4 4 "law.go:63" #[{ on := 4, ground := Ground.data }, { on := 5, ground := Ground.data }, { on := 3, ground := Ground.guard }]), (some (3, 165, true))⟩,
    ⟨.p (opPick (some 169) (.tmp 165) (.tmp 168) (.const (Value.bool false)) 4 "law.go:63" #[{ on := 3, ground := Ground.data }, { on := 6, ground := Ground.data }]), none⟩,
    ⟨.p (opMove (some 170) (.tmp 169) 4 "law.go:63" #[{ on := 7, ground := Ground.data }, { on := 3, ground := Ground.chain }]), none⟩,
    ⟨.p (opMove (some 171) (.tmp 11) 25 "law.go:63" #[{ on := 8, ground := Ground.guard }]), (some (8, 170, true))⟩,
    ⟨.p (opMove (some 172) (.tmp 21) 25 "law.go:63" #[{ on := 8, ground := Ground.guard }]), (some (8, 170, true))⟩,
    ⟨.pn (opCallP p12 (some 173) [(.tmp 171), (.tmp 172)] #[25, 25] 4 "law.go:63" #[{ on := 9, ground := Ground.data }, { on := 10, ground := Ground.data }, { on := 8, ground := Ground.chain }, { on := 8, ground := Ground.guard }]) (opCallP_nat p12_nat), (some (8, 170, true))⟩,
    ⟨.p (opPick (some 174) (.tmp 170) (.tmp 173) (.const (Value.bool false)) 4 "law.go:63" #[{ on := 8, ground := Ground.data }, { on := 11, ground := Ground.data }]), none⟩,
    ⟨.p (opMove (some 175) (.tmp 174) 4 "law.go:63" #[{ on := 12, ground := Ground.data }, { on := 11, ground := Ground.chain }]), none⟩,
    ⟨.p (opMove (some 176) (.tmp 12) 4 "law.go:63" #[{ on := 13, ground := Ground.guard }]), (some (13, 175, true))⟩,
    ⟨.p (opMove (some 177) (.tmp 22) 4 "law.go:63" #[{ on := 13, ground := Ground.guard }]), (some (13, 175, true))⟩,
    ⟨.p (opEq (some 178) 4 .bool Try.underlying4 (.tmp 176) (.tmp 177) (.inr rfl) 4 4 "law.go:63" #[{ on := 14, ground := Ground.data }, { on := 15, ground := Ground.data }, { on := 13, ground := Ground.guard }]), (some (13, 175, true))⟩,
    ⟨.p (opPick (some 179) (.tmp 175) (.tmp 178) (.const (Value.bool false)) 4 "law.go:63" #[{ on := 13, ground := Ground.data }, { on := 16, ground := Ground.data }]), none⟩,
    ⟨.p (opMove (some 180) (.tmp 179) 4 "law.go:63" #[{ on := 17, ground := Ground.data }, { on := 13, ground := Ground.chain }]), none⟩,
    ⟨.p (opMove (some 181) (.tmp 13) 25 "law.go:63" #[{ on := 18, ground := Ground.guard }]), (some (18, 180, true))⟩,
    ⟨.p (opMove (some 182) (.tmp 23) 25 "law.go:63" #[{ on := 18, ground := Ground.guard }]), (some (18, 180, true))⟩,
    ⟨.pn (opCallP p12 (some 183) [(.tmp 181), (.tmp 182)] #[25, 25] 4 "law.go:63" #[{ on := 19, ground := Ground.data }, { on := 20, ground := Ground.data }, { on := 18, ground := Ground.chain }, { on := 18, ground := Ground.guard }]) (opCallP_nat p12_nat), (some (18, 180, true))⟩,
    ⟨.p (opPick (some 184) (.tmp 180) (.tmp 183) (.const (Value.bool false)) 4 "law.go:63" #[{ on := 18, ground := Ground.data }, { on := 21, ground := Ground.data }]), none⟩,
    ⟨.p (opMove (some 185) (.tmp 184) 4 "law.go:63" #[{ on := 22, ground := Ground.data }, { on := 21, ground := Ground.chain }]), none⟩,
    ⟨.p (opMove (some 186) (.tmp 14) 3 "law.go:63" #[{ on := 23, ground := Ground.guard }]), (some (23, 185, true))⟩,
    ⟨.p (opMove (some 187) (.tmp 24) 3 "law.go:63" #[{ on := 23, ground := Ground.guard }]), (some (23, 185, true))⟩,
    ⟨.pn (opBin (some 188) .eql 3 (.tmp 186) (.tmp 187) 3 4 "law.go:63" #[{ on := 24, ground := Ground.data }, { on := 25, ground := Ground.data }, { on := 23, ground := Ground.guard }]) opBin_nat, (some (23, 185, true))⟩,
    ⟨.p (opPick (some 189) (.tmp 185) (.tmp 188) (.const (Value.bool false)) 4 "law.go:63" #[{ on := 23, ground := Ground.data }, { on := 26, ground := Ground.data }]), none⟩,
    ⟨.p (opMove (some 190) (.tmp 189) 4 "law.go:63" #[{ on := 27, ground := Ground.data }, { on := 23, ground := Ground.chain }]), none⟩,
    ⟨.p (opMove (some 191) (.tmp 15) 4 "law.go:63" #[{ on := 28, ground := Ground.guard }]), (some (28, 190, true))⟩,
    ⟨.p (opMove (some 192) (.tmp 25) 4 "law.go:63" #[{ on := 28, ground := Ground.guard }]), (some (28, 190, true))⟩,
    ⟨.p (opEq (some 193) 4 .bool Try.underlying4 (.tmp 191) (.tmp 192) (.inr rfl) 4 4 "law.go:63" #[{ on := 29, ground := Ground.data }, { on := 30, ground := Ground.data }, { on := 28, ground := Ground.guard }]), (some (28, 190, true))⟩,
    ⟨.p (opPick (some 194) (.tmp 190) (.tmp 193) (.const (Value.bool false)) 4 "law.go:63" #[{ on := 28, ground := Ground.data }, { on := 31, ground := Ground.data }]), none⟩,
    ⟨.p (opMove (some 195) (.tmp 194) 4 "law.go:63" #[{ on := 32, ground := Ground.data }, { on := 28, ground := Ground.chain }]), none⟩,
    ⟨.p (opMove (some 196) (.tmp 16) 25 "law.go:63" #[{ on := 33, ground := Ground.guard }]), (some (33, 195, true))⟩,
    ⟨.p (opMove (some 197) (.tmp 26) 25 "law.go:63" #[{ on := 33, ground := Ground.guard }]), (some (33, 195, true))⟩,
    ⟨.pn (opCallP p12 (some 198) [(.tmp 196), (.tmp 197)] #[25, 25] 4 "law.go:63" #[{ on := 34, ground := Ground.data }, { on := 35, ground := Ground.data }, { on := 33, ground := Ground.chain }, { on := 33, ground := Ground.guard }]) (opCallP_nat p12_nat), (some (33, 195, true))⟩,
    ⟨.p (opPick (some 199) (.tmp 195) (.tmp 198) (.const (Value.bool false)) 4 "law.go:63" #[{ on := 33, ground := Ground.data }, { on := 36, ground := Ground.data }]), none⟩,
    ⟨.p (opMove (some 200) (.tmp 199) 4 "law.go:63" #[{ on := 37, ground := Ground.data }, { on := 36, ground := Ground.chain }]), none⟩,
    ⟨.p (opMove (some 201) (.tmp 17) 4 "law.go:63" #[{ on := 38, ground := Ground.guard }]), (some (38, 200, true))⟩,
    ⟨.p (opMove (some 202) (.tmp 27) 4 "law.go:63" #[{ on := 38, ground := Ground.guard }]), (some (38, 200, true))⟩,
    ⟨.p (opEq (some 203) 4 .bool Try.underlying4 (.tmp 201) (.tmp 202) (.inr rfl) 4 4 "law.go:63" #[{ on := 39, ground := Ground.data }, { on := 40, ground := Ground.data }, { on := 38, ground := Ground.guard }]), (some (38, 200, true))⟩,
    ⟨.p (opPick (some 204) (.tmp 200) (.tmp 203) (.const (Value.bool false)) 4 "law.go:63" #[{ on := 38, ground := Ground.data }, { on := 41, ground := Ground.data }]), none⟩,
    ⟨.p (opMove (some 205) (.tmp 204) 4 "law.go:63" #[{ on := 42, ground := Ground.data }, { on := 38, ground := Ground.chain }]), none⟩,
    ⟨.p (opMove (some 206) (.tmp 28) 3 "law.go:63" #[{ on := 43, ground := Ground.guard }]), (some (43, 205, true))⟩,
    ⟨.p (opMove (some 207) (.tmp 18) 38 "law.go:63" #[{ on := 43, ground := Ground.guard }]), (some (43, 205, true))⟩,
    ⟨.p (opLen (some 208) (.tmp 207) 38 (.slice 3) Try.underlying38 3 "law.go:63" #[{ on := 45, ground := Ground.data }, { on := 43, ground := Ground.guard }]), (some (43, 205, true))⟩,
    ⟨.pn (opBin (some 209) .eql 3 (.tmp 206) (.tmp 208) 3 4 "law.go:63" #[{ on := 44, ground := Ground.data }, { on := 46, ground := Ground.data }, { on := 43, ground := Ground.guard }]) opBin_nat, (some (43, 205, true))⟩,
    ⟨.p (opPick (some 210) (.tmp 205) (.tmp 209) (.const (Value.bool false)) 4 "law.go:63" #[{ on := 43, ground := Ground.data }, { on := 47, ground := Ground.data }]), none⟩,
    ⟨.p (opMove (some 211) (.tmp 210) 4 "law.go:63" #[{ on := 48, ground := Ground.data }, { on := 43, ground := Ground.chain }]), none⟩,
    ⟨.p (opMove (some 212) (.tmp 0) 25 "law.go:63" #[{ on := 49, ground := Ground.guard }]), (some (49, 211, true))⟩,
    ⟨.pn (opCallP p14 (some 213) [(.tmp 212)] #[25] 3 "law.go:63" #[{ on := 50, ground := Ground.data }, { on := 49, ground := Ground.chain }, { on := 49, ground := Ground.guard }]) (opCallP_nat p14_nat), (some (49, 211, true))⟩,
    ⟨.qn (opLoadT (.agg [.any]) (some 214) 53 (.tmp 7) d53 ud53 1 sz53 (by kernel_rfl) 53 "law.go:63" #[{ on := 49, ground := Ground.guard }]) opLoadT_nat, (some (49, 211, true))⟩,
    ⟨.pn (opCallP p34 (some 215) [(.tmp 214)] #[53] 3 "law.go:63" #[{ on := 52, ground := Ground.data }, { on := 51, ground := Ground.chain }, { on := 49, ground := Ground.guard }]) (opCallP_nat p34_nat), (some (49, 211, true))⟩,
    ⟨.pn (opBin (some 216) .eql 3 (.tmp 213) (.tmp 215) 3 4 "law.go:63" #[{ on := 51, ground := Ground.data }, { on := 53, ground := Ground.data }, { on := 49, ground := Ground.guard }]) opBin_nat, (some (49, 211, true))⟩,
    ⟨.p (opPick (some 217) (.tmp 211) (.tmp 216) (.const (Value.bool false)) 4 "law.go:63" #[{ on := 49, ground := Ground.data }, { on := 54, ground := Ground.data }]), none⟩,
    ⟨.p (opAssign (some 6) (.tmp 217) 4 "law.go:63" #[{ on := 55, ground := Ground.data }, { on := 53, ground := Ground.chain }, { on := 0, ground := Ground.phase }, { on := 1, ground := Ground.phase }, { on := 2, ground := Ground.phase }, { on := 3, ground := Ground.phase }, { on := 4, ground := Ground.phase }, { on := 5, ground := Ground.phase }, { on := 6, ground := Ground.phase }, { on := 7, ground := Ground.phase }, { on := 8, ground := Ground.phase }, { on := 9, ground := Ground.phase }, { on := 10, ground := Ground.phase }, { on := 11, ground := Ground.phase }, { on := 12, ground := Ground.phase }, { on := 13, ground := Ground.phase }, { on := 14, ground := Ground.phase }, { on := 15, ground := Ground.phase }, { on := 16, ground := Ground.phase }, { on := 17, ground := Ground.phase }, { on := 18, ground := Ground.phase }, { on := 19, ground := Ground.phase }, { on := 20, ground := Ground.phase }, { on := 21, ground := Ground.phase }, { on := 22, ground := Ground.phase }, { on := 23, ground := Ground.phase }, { on := 24, ground := Ground.phase }, { on := 25, ground := Ground.phase }, { on := 26, ground := Ground.phase }, { on := 27, ground := Ground.phase }, { on := 28, ground := Ground.phase }, { on := 29, ground := Ground.phase }, { on := 30, ground := Ground.phase }, { on := 31, ground := Ground.phase }, { on := 32, ground := Ground.phase }, { on := 33, ground := Ground.phase }, { on := 34, ground := Ground.phase }, { on := 35, ground := Ground.phase }, { on := 36, ground := Ground.phase }, { on := 37, ground := Ground.phase }, { on := 38, ground := Ground.phase }, { on := 39, ground := Ground.phase }, { on := 40, ground := Ground.phase }, { on := 41, ground := Ground.phase }, { on := 42, ground := Ground.phase }, { on := 43, ground := Ground.phase }, { on := 44, ground := Ground.phase }, { on := 45, ground := Ground.phase }, { on := 46, ground := Ground.phase }, { on := 47, ground := Ground.phase }, { on := 48, ground := Ground.phase }, { on := 49, ground := Ground.phase }, { on := 50, ground := Ground.phase }, { on := 51, ground := Ground.phase }, { on := 52, ground := Ground.phase }, { on := 53, ground := Ground.phase }, { on := 54, ground := Ground.phase }, { on := 55, ground := Ground.phase }]), none⟩
  ] mixed (by kernel_rfl)))
  (.live [6] .ret))

noncomputable def f20_b : Sim Try.prog :=
  (.seq (.live [0, 1, 2] (.region 0 [
    ⟨(opAssign (some 6) (.const (Value.bool false)) 4 "law.go:36" #[]).op, none⟩
  ] (by kernel_rfl)))
  (.seq (.live [0, 1, 2, 7, 8] (.items 1 [
    .one ((opMove (some 31) (.tmp 0) 25 "law.go:37" #[]).op),
    .one ((opCallP p29 (some 32) [(.tmp 31)] #[25] 54 "law.go:37" #[{ on := 0, ground := Ground.data }]).op),
    .one ((opMove (some 30) (.tmp 32) 54 "law.go:37" #[{ on := 1, ground := Ground.data }]).op),
    .one ((opExtract (some 33) (.tmp 30) 0 53 "law.go:37" #[{ on := 2, ground := Ground.data }]).op),
    .one ((opExtract (some 34) (.tmp 30) 1 4 "law.go:37" #[{ on := 2, ground := Ground.data }, { on := 6, ground := (Ground.gcOnly Departure.lateStores) }]).op),
    .two (op2Box 7 53 (.agg #[(.slice none 0 0)]) ze53 (.tmp 33) (by rfl) 1 sz53 (by kernel_rfl) 218 (by rfl) 0 0 "law.go:37" "law.go:37" #[] #[{ on := 5, ground := Ground.data }, { on := 3, ground := Ground.data }, { on := 1, ground := Ground.chain }, { on := 0, ground := Ground.phase }, { on := 1, ground := Ground.phase }, { on := 2, ground := Ground.phase }, { on := 3, ground := Ground.phase }, { on := 4, ground := (Ground.textOnly Departure.lateStores) }, { on := 5, ground := Ground.phase }]),
    .one ((opAssign (some 8) (.tmp 34) 4 "law.go:37" #[{ on := 4, ground := Ground.data }, { on := 6, ground := Ground.chain }, { on := 0, ground := Ground.phase }, { on := 1, ground := Ground.phase }, { on := 2, ground := Ground.phase }, { on := 3, ground := Ground.phase }, { on := 4, ground := Ground.phase }, { on := 5, ground := Ground.phase }, { on := 6, ground := Ground.phase }]).op)
  ]))
  (.seq (.seq (.live [0, 1, 2, 7, 8, 38] (.region 2 [
    ⟨(opMove (some 35) (.tmp 0) 25 "law.go:38" #[]).op, none⟩,
    ⟨(opCallP p16 (some 36) [(.tmp 35)] #[25] 4 "law.go:38" #[{ on := 0, ground := Ground.data }]).op, none⟩,
    ⟨(opMove (some 37) (.tmp 8) 4 "law.go:38" #[]).op, none⟩,
    ⟨(opNe (some 38) 4 .bool Try.underlying4 (.tmp 36) (.tmp 37) (.inr rfl) 4 4 "law.go:38" #[{ on := 1, ground := Ground.data }, { on := 2, ground := Ground.data }]).op, none⟩
  ] (by kernel_rfl)))
  (.cond (.tmp 38)
    (.seq (.live [6] (.region 3 [
      ⟨(opAssign (some 6) (.const (Value.bool false)) 4 "law.go:39" #[]).op, none⟩
    ] (by kernel_rfl)))
    (.live [6] .ret))
    .skip))
  (.seq (.live [0, 1, 2, 7, 8, 9, 10] (.region 4 [
    ⟨(opMove (some 40) (.tmp 0) 25 "law.go:41" #[]).op, none⟩,
    ⟨(opMove (some 41) (.tmp 1) 3 "law.go:41" #[]).op, none⟩,
    ⟨(opCallP p15 (some 42) [(.tmp 40), (.tmp 41)] #[25, 3] 30 "law.go:41" #[{ on := 0, ground := Ground.data }, { on := 1, ground := Ground.data }]).op, none⟩,
    ⟨(opMove (some 39) (.tmp 42) 30 "law.go:41" #[{ on := 2, ground := Ground.data }]).op, none⟩,
    ⟨(opExtract (some 43) (.tmp 39) 0 25 "law.go:41" #[{ on := 3, ground := Ground.data }]).op, none⟩,
    ⟨(opExtract (some 44) (.tmp 39) 1 4 "law.go:41" #[{ on := 3, ground := Ground.data }, { on := 6, ground := (Ground.gcOnly Departure.lateStores) }]).op, none⟩,
    ⟨(opAssign (some 9) (.tmp 43) 25 "law.go:41" #[{ on := 4, ground := Ground.data }, { on := 2, ground := Ground.chain }, { on := 0, ground := Ground.phase }, { on := 1, ground := Ground.phase }, { on := 2, ground := Ground.phase }, { on := 3, ground := Ground.phase }, { on := 4, ground := Ground.phase }, { on := 5, ground := (Ground.textOnly Departure.lateStores) }]).op, none⟩,
    ⟨(opAssign (some 10) (.tmp 44) 4 "law.go:41" #[{ on := 5, ground := Ground.data }, { on := 6, ground := Ground.chain }, { on := 0, ground := Ground.phase }, { on := 1, ground := Ground.phase }, { on := 2, ground := Ground.phase }, { on := 3, ground := Ground.phase }, { on := 4, ground := Ground.phase }, { on := 5, ground := Ground.phase }, { on := 6, ground := Ground.phase }]).op, none⟩
  ] (by kernel_rfl)))
  (.seq (.live [0, 1, 2, 7, 8, 9, 10, 11, 12] (.region 5 [
    ⟨(opMove (some 46) (.tmp 0) 25 "law.go:42" #[]).op, none⟩,
    ⟨(opMove (some 47) (.tmp 1) 3 "law.go:42" #[]).op, none⟩,
    ⟨(opMove (some 48) (.tmp 2) 25 "law.go:42" #[]).op, none⟩,
    ⟨(opCallP p11 (some 49) [(.tmp 46), (.tmp 47), (.tmp 48)] #[25, 3, 25] 30 "law.go:42" #[{ on := 0, ground := Ground.data }, { on := 1, ground := Ground.data }, { on := 2, ground := Ground.data }]).op, none⟩,
    ⟨(opMove (some 45) (.tmp 49) 30 "law.go:42" #[{ on := 3, ground := Ground.data }]).op, none⟩,
    ⟨(opExtract (some 50) (.tmp 45) 0 25 "law.go:42" #[{ on := 4, ground := Ground.data }]).op, none⟩,
    ⟨(opExtract (some 51) (.tmp 45) 1 4 "law.go:42" #[{ on := 4, ground := Ground.data }, { on := 7, ground := (Ground.gcOnly Departure.lateStores) }]).op, none⟩,
    ⟨(opAssign (some 11) (.tmp 50) 25 "law.go:42" #[{ on := 5, ground := Ground.data }, { on := 3, ground := Ground.chain }, { on := 0, ground := Ground.phase }, { on := 1, ground := Ground.phase }, { on := 2, ground := Ground.phase }, { on := 3, ground := Ground.phase }, { on := 4, ground := Ground.phase }, { on := 5, ground := Ground.phase }, { on := 6, ground := (Ground.textOnly Departure.lateStores) }]).op, none⟩,
    ⟨(opAssign (some 12) (.tmp 51) 4 "law.go:42" #[{ on := 6, ground := Ground.data }, { on := 7, ground := Ground.chain }, { on := 0, ground := Ground.phase }, { on := 1, ground := Ground.phase }, { on := 2, ground := Ground.phase }, { on := 3, ground := Ground.phase }, { on := 4, ground := Ground.phase }, { on := 5, ground := Ground.phase }, { on := 6, ground := Ground.phase }, { on := 7, ground := Ground.phase }]).op, none⟩
  ] (by kernel_rfl)))
  (.seq (.live [0, 1, 2, 7, 8, 9, 10, 11, 12, 13, 14, 15] (.region 6 [
    ⟨(opMove (some 53) (.tmp 0) 25 "law.go:43" #[]).op, none⟩,
    ⟨(opMove (some 54) (.tmp 2) 25 "law.go:43" #[]).op, none⟩,
    ⟨(opCallP p13 (some 55) [(.tmp 53), (.tmp 54)] #[25, 25] 33 "law.go:43" #[{ on := 0, ground := Ground.data }, { on := 1, ground := Ground.data }]).op, none⟩,
    ⟨(opMove (some 52) (.tmp 55) 33 "law.go:43" #[{ on := 2, ground := Ground.data }]).op, none⟩,
    ⟨(opExtract (some 56) (.tmp 52) 0 25 "law.go:43" #[{ on := 3, ground := Ground.data }]).op, none⟩,
    ⟨(opExtract (some 57) (.tmp 52) 1 3 "law.go:43" #[{ on := 3, ground := Ground.data }, { on := 7, ground := (Ground.gcOnly Departure.lateStores) }]).op, none⟩,
    ⟨(opExtract (some 58) (.tmp 52) 2 4 "law.go:43" #[{ on := 3, ground := Ground.data }, { on := 8, ground := (Ground.gcOnly Departure.lateStores) }]).op, none⟩,
    ⟨(opAssign (some 13) (.tmp 56) 25 "law.go:43" #[{ on := 4, ground := Ground.data }, { on := 2, ground := Ground.chain }, { on := 0, ground := Ground.phase }, { on := 1, ground := Ground.phase }, { on := 2, ground := Ground.phase }, { on := 3, ground := Ground.phase }, { on := 4, ground := Ground.phase }, { on := 5, ground := (Ground.textOnly Departure.lateStores) }, { on := 6, ground := (Ground.textOnly Departure.lateStores) }]).op, none⟩,
    ⟨(opAssign (some 14) (.tmp 57) 3 "law.go:43" #[{ on := 5, ground := Ground.data }, { on := 7, ground := Ground.chain }, { on := 0, ground := Ground.phase }, { on := 1, ground := Ground.phase }, { on := 2, ground := Ground.phase }, { on := 3, ground := Ground.phase }, { on := 4, ground := Ground.phase }, { on := 5, ground := Ground.phase }, { on := 6, ground := (Ground.textOnly Departure.lateStores) }, { on := 7, ground := Ground.phase }]).op, none⟩,
    ⟨(opAssign (some 15) (.tmp 58) 4 "law.go:43" #[{ on := 6, ground := Ground.data }, { on := 8, ground := Ground.chain }, { on := 0, ground := Ground.phase }, { on := 1, ground := Ground.phase }, { on := 2, ground := Ground.phase }, { on := 3, ground := Ground.phase }, { on := 4, ground := Ground.phase }, { on := 5, ground := Ground.phase }, { on := 6, ground := Ground.phase }, { on := 7, ground := Ground.phase }, { on := 8, ground := Ground.phase }]).op, none⟩
  ] (by kernel_rfl)))
  (.seq (.live [0, 1, 2, 7, 8, 9, 10, 11, 12, 13, 14, 15, 16, 17] (.region 7 [
    ⟨(opMove (some 60) (.tmp 0) 25 "law.go:44" #[]).op, none⟩,
    ⟨(opMove (some 61) (.tmp 1) 3 "law.go:44" #[]).op, none⟩,
    ⟨(opCallP p18 (some 62) [(.tmp 60), (.tmp 61)] #[25, 3] 30 "law.go:44" #[{ on := 0, ground := Ground.data }, { on := 1, ground := Ground.data }]).op, none⟩,
    ⟨(opMove (some 59) (.tmp 62) 30 "law.go:44" #[{ on := 2, ground := Ground.data }]).op, none⟩,
    ⟨(opExtract (some 63) (.tmp 59) 0 25 "law.go:44" #[{ on := 3, ground := Ground.data }]).op, none⟩,
    ⟨(opExtract (some 64) (.tmp 59) 1 4 "law.go:44" #[{ on := 3, ground := Ground.data }, { on := 6, ground := (Ground.gcOnly Departure.lateStores) }]).op, none⟩,
    ⟨(opAssign (some 16) (.tmp 63) 25 "law.go:44" #[{ on := 4, ground := Ground.data }, { on := 2, ground := Ground.chain }, { on := 0, ground := Ground.phase }, { on := 1, ground := Ground.phase }, { on := 2, ground := Ground.phase }, { on := 3, ground := Ground.phase }, { on := 4, ground := Ground.phase }, { on := 5, ground := (Ground.textOnly Departure.lateStores) }]).op, none⟩,
    ⟨(opAssign (some 17) (.tmp 64) 4 "law.go:44" #[{ on := 5, ground := Ground.data }, { on := 6, ground := Ground.chain }, { on := 0, ground := Ground.phase }, { on := 1, ground := Ground.phase }, { on := 2, ground := Ground.phase }, { on := 3, ground := Ground.phase }, { on := 4, ground := Ground.phase }, { on := 5, ground := Ground.phase }, { on := 6, ground := Ground.phase }]).op, none⟩
  ] (by kernel_rfl)))
  (.seq (.live [0, 1, 2, 7, 8, 9, 10, 11, 12, 13, 14, 15, 16, 17, 18] (.region 8 [
    ⟨(opMove (some 65) (.tmp 0) 25 "law.go:45" #[]).op, none⟩,
    ⟨(opCallP p17 (some 66) [(.tmp 65)] #[25] 38 "law.go:45" #[{ on := 0, ground := Ground.data }]).op, none⟩,
    ⟨(opAssign (some 18) (.tmp 66) 38 "law.go:45" #[{ on := 1, ground := Ground.data }, { on := 1, ground := Ground.chain }, { on := 0, ground := Ground.phase }, { on := 1, ground := Ground.phase }]).op, none⟩
  ] (by kernel_rfl)))
  (.seq (.seq (.live [0, 1, 2, 7, 9, 10, 11, 12, 13, 14, 15, 16, 17, 18, 68] (.region 9 [
    ⟨(opMove (some 67) (.tmp 8) 4 "law.go:46" #[]).op, none⟩,
    ⟨(opNot (some 68) 4 (.tmp 67) 4 "law.go:46" #[{ on := 0, ground := Ground.data }]).op, none⟩
  ] (by kernel_rfl)))
  (.cond (.tmp 68)
    (.seq (.live [6] (.region 10 [
      ⟨(opMove (some 69) (.tmp 10) 4 "law.go:47" #[]).op, none⟩,
      ⟨(opNot (some 70) 4 (.tmp 69) 4 "law.go:47" #[{ on := 0, ground := Ground.data }]).op, none⟩,
      ⟨(opMove (some 71) (.tmp 70) 4 "law.go:47" #[{ on := 1, ground := Ground.data }]).op, none⟩,
      ⟨(opMove (some 72) (.tmp 12) 4 "law.go:47" #[{ on := 2, ground := Ground.guard }]).op, (some (2, 71, true))⟩,
      ⟨(opNot (some 73) 4 (.tmp 72) 4 "law.go:47" #[{ on := 3, ground := Ground.data }, { on := 2, ground := Ground.guard }]).op, (some (2, 71, true))⟩,
      ⟨(opPick (some 74) (.tmp 71) (.tmp 73) (.const (Value.bool false)) 4 "law.go:47" #[{ on := 2, ground := Ground.data }, { on := 4, ground := Ground.data }]).op, none⟩,
      ⟨(opMove (some 75) (.tmp 74) 4 "law.go:47" #[{ on := 5, ground := Ground.data }, { on := 2, ground := Ground.chain }]).op, none⟩,
      ⟨(opMove (some 76) (.tmp 15) 4 "law.go:47" #[{ on := 6, ground := Ground.guard }]).op, (some (6, 75, true))⟩,
      ⟨(opNot (some 77) 4 (.tmp 76) 4 "law.go:47" #[{ on := 7, ground := Ground.data }, { on := 6, ground := Ground.guard }]).op, (some (6, 75, true))⟩,
      ⟨(opPick (some 78) (.tmp 75) (.tmp 77) (.const (Value.bool false)) 4 "law.go:47" #[{ on := 6, ground := Ground.data }, { on := 8, ground := Ground.data }]).op, none⟩,
      ⟨(opMove (some 79) (.tmp 78) 4 "law.go:47" #[{ on := 9, ground := Ground.data }, { on := 6, ground := Ground.chain }]).op, none⟩,
      ⟨(opMove (some 80) (.tmp 17) 4 "law.go:47" #[{ on := 10, ground := Ground.guard }]).op, (some (10, 79, true))⟩,
      ⟨(opNot (some 81) 4 (.tmp 80) 4 "law.go:47" #[{ on := 11, ground := Ground.data }, { on := 10, ground := Ground.guard }]).op, (some (10, 79, true))⟩,
      ⟨(opPick (some 82) (.tmp 79) (.tmp 81) (.const (Value.bool false)) 4 "law.go:47" #[{ on := 10, ground := Ground.data }, { on := 12, ground := Ground.data }]).op, none⟩,
      ⟨(opMove (some 83) (.tmp 82) 4 "law.go:47" #[{ on := 13, ground := Ground.data }, { on := 10, ground := Ground.chain }]).op, none⟩,
      ⟨(opMove (some 84) (.tmp 14) 3 "law.go:47" #[{ on := 14, ground := Ground.guard }]).op, (some (14, 83, true))⟩,
      ⟨(opBin (some 85) .eql 3 (.tmp 84) (.const (Value.int IntKind.i64 0)) 3 4 "law.go:47" #[{ on := 15, ground := Ground.data }, { on := 14, ground := Ground.guard }]).op, (some (14, 83, true))⟩,
      ⟨(opPick (some 86) (.tmp 83) (.tmp 85) (.const (Value.bool false)) 4 "law.go:47" #[{ on := 14, ground := Ground.data }, { on := 16, ground := Ground.data }]).op, none⟩,
      ⟨(opMove (some 87) (.tmp 86) 4 "law.go:47" #[{ on := 17, ground := Ground.data }, { on := 14, ground := Ground.chain }]).op, none⟩,
      ⟨(opMove (some 88) (.tmp 9) 25 "law.go:47" #[{ on := 18, ground := Ground.guard }]).op, (some (18, 87, true))⟩,
      ⟨(opLen (some 89) (.tmp 88) 25 (.slice 5) Try.underlying25 3 "law.go:47" #[{ on := 19, ground := Ground.data }, { on := 18, ground := Ground.guard }]).op, (some (18, 87, true))⟩,
      ⟨(opMove (some 90) (.tmp 11) 25 "law.go:47" #[{ on := 18, ground := Ground.guard }]).op, (some (18, 87, true))⟩,
      ⟨(opLen (some 91) (.tmp 90) 25 (.slice 5) Try.underlying25 3 "law.go:47" #[{ on := 21, ground := Ground.data }, { on := 18, ground := Ground.guard }]).op, (some (18, 87, true))⟩,
      ⟨(opBin (some 92) .add 3 (.tmp 89) (.tmp 91) 3 3 "law.go:47" #[{ on := 20, ground := Ground.data }, { on := 22, ground := Ground.data }, { on := 18, ground := Ground.guard }]).op, (some (18, 87, true))⟩,
      ⟨(opMove (some 93) (.tmp 13) 25 "law.go:47" #[{ on := 18, ground := Ground.guard }]).op, (some (18, 87, true))⟩,
      ⟨(opLen (some 94) (.tmp 93) 25 (.slice 5) Try.underlying25 3 "law.go:47" #[{ on := 24, ground := Ground.data }, { on := 18, ground := Ground.guard }]).op, (some (18, 87, true))⟩,
      ⟨(opBin (some 95) .add 3 (.tmp 92) (.tmp 94) 3 3 "law.go:47" #[{ on := 23, ground := Ground.data }, { on := 25, ground := Ground.data }, { on := 18, ground := Ground.guard }]).op, (some (18, 87, true))⟩,
      ⟨(opMove (some 96) (.tmp 16) 25 "law.go:47" #[{ on := 18, ground := Ground.guard }]).op, (some (18, 87, true))⟩,
      ⟨(opLen (some 97) (.tmp 96) 25 (.slice 5) Try.underlying25 3 "law.go:47" #[{ on := 27, ground := Ground.data }, { on := 18, ground := Ground.guard }]).op, (some (18, 87, true))⟩,
      ⟨(opBin (some 98) .add 3 (.tmp 95) (.tmp 97) 3 3 "law.go:47" #[{ on := 26, ground := Ground.data }, { on := 28, ground := Ground.data }, { on := 18, ground := Ground.guard }]).op, (some (18, 87, true))⟩,
      ⟨(opMove (some 99) (.tmp 18) 38 "law.go:47" #[{ on := 18, ground := Ground.guard }]).op, (some (18, 87, true))⟩,
      ⟨(opLen (some 100) (.tmp 99) 38 (.slice 3) Try.underlying38 3 "law.go:47" #[{ on := 30, ground := Ground.data }, { on := 18, ground := Ground.guard }]).op, (some (18, 87, true))⟩,
      ⟨(opBin (some 101) .add 3 (.tmp 98) (.tmp 100) 3 3 "law.go:47" #[{ on := 29, ground := Ground.data }, { on := 31, ground := Ground.data }, { on := 18, ground := Ground.guard }]).op, (some (18, 87, true))⟩,
      ⟨(opBin (some 102) .eql 3 (.tmp 101) (.const (Value.int IntKind.i64 0)) 3 4 "law.go:47" #[{ on := 32, ground := Ground.data }, { on := 18, ground := Ground.guard }]).op, (some (18, 87, true))⟩,
      ⟨(opPick (some 103) (.tmp 87) (.tmp 102) (.const (Value.bool false)) 4 "law.go:47" #[{ on := 18, ground := Ground.data }, { on := 33, ground := Ground.data }]).op, none⟩,
      ⟨(opMove (some 104) (.tmp 103) 4 "law.go:47" #[{ on := 34, ground := Ground.data }, { on := 18, ground := Ground.chain }]).op, none⟩,
      ⟨(opMove (some 105) (.tmp 0) 25 "law.go:47" #[{ on := 35, ground := Ground.guard }]).op, (some (35, 104, true))⟩,
      ⟨(opCallP p14 (some 106) [(.tmp 105)] #[25] 3 "law.go:47" #[{ on := 36, ground := Ground.data }, { on := 35, ground := Ground.chain }, { on := 35, ground := Ground.guard }]).op, (some (35, 104, true))⟩,
      ⟨(opBin (some 107) .eql 3 (.tmp 106) (.const (Value.int IntKind.i64 0)) 3 4 "law.go:47" #[{ on := 37, ground := Ground.data }, { on := 35, ground := Ground.guard }]).op, (some (35, 104, true))⟩,
      ⟨(opPick (some 108) (.tmp 104) (.tmp 107) (.const (Value.bool false)) 4 "law.go:47" #[{ on := 35, ground := Ground.data }, { on := 38, ground := Ground.data }]).op, none⟩,
      ⟨(opAssign (some 6) (.tmp 108) 4 "law.go:47" #[{ on := 39, ground := Ground.data }, { on := 37, ground := Ground.chain }, { on := 0, ground := Ground.phase }, { on := 1, ground := Ground.phase }, { on := 2, ground := Ground.phase }, { on := 3, ground := Ground.phase }, { on := 4, ground := Ground.phase }, { on := 5, ground := Ground.phase }, { on := 6, ground := Ground.phase }, { on := 7, ground := Ground.phase }, { on := 8, ground := Ground.phase }, { on := 9, ground := Ground.phase }, { on := 10, ground := Ground.phase }, { on := 11, ground := Ground.phase }, { on := 12, ground := Ground.phase }, { on := 13, ground := Ground.phase }, { on := 14, ground := Ground.phase }, { on := 15, ground := Ground.phase }, { on := 16, ground := Ground.phase }, { on := 17, ground := Ground.phase }, { on := 18, ground := Ground.phase }, { on := 19, ground := Ground.phase }, { on := 20, ground := Ground.phase }, { on := 21, ground := Ground.phase }, { on := 22, ground := Ground.phase }, { on := 23, ground := Ground.phase }, { on := 24, ground := Ground.phase }, { on := 25, ground := Ground.phase }, { on := 26, ground := Ground.phase }, { on := 27, ground := Ground.phase }, { on := 28, ground := Ground.phase }, { on := 29, ground := Ground.phase }, { on := 30, ground := Ground.phase }, { on := 31, ground := Ground.phase }, { on := 32, ground := Ground.phase }, { on := 33, ground := Ground.phase }, { on := 34, ground := Ground.phase }, { on := 35, ground := Ground.phase }, { on := 36, ground := Ground.phase }, { on := 37, ground := Ground.phase }, { on := 38, ground := Ground.phase }, { on := 39, ground := Ground.phase }]).op, none⟩
    ] (by kernel_rfl)))
    (.live [6] .ret))
    .skip))
  (.seq (.live [0, 1, 2, 7, 9, 10, 11, 12, 13, 14, 15, 16, 17, 18, 19, 20] (.region 11 [
    ⟨(opLoadT (.agg [.any]) (some 110) 53 (.tmp 7) d53 ud53 1 sz53 (by kernel_rfl) 53 "law.go:49" #[]).op, none⟩,
    ⟨(opMove (some 111) (.tmp 1) 3 "law.go:49" #[]).op, none⟩,
    ⟨(opCallP p30 (some 112) [(.tmp 110), (.tmp 111)] #[53, 3] 30 "law.go:49" #[{ on := 0, ground := Ground.data }, { on := 1, ground := Ground.data }]).op, none⟩,
    ⟨(opMove (some 109) (.tmp 112) 30 "law.go:49" #[{ on := 2, ground := Ground.data }]).op, none⟩,
    ⟨(opExtract (some 113) (.tmp 109) 0 25 "law.go:49" #[{ on := 3, ground := Ground.data }]).op, none⟩,
    ⟨(opExtract (some 114) (.tmp 109) 1 4 "law.go:49" #[{ on := 3, ground := Ground.data }, { on := 6, ground := (Ground.gcOnly Departure.lateStores) }]).op, none⟩,
    ⟨(opAssign (some 19) (.tmp 113) 25 "law.go:49" #[{ on := 4, ground := Ground.data }, { on := 2, ground := Ground.chain }, { on := 0, ground := Ground.phase }, { on := 1, ground := Ground.phase }, { on := 2, ground := Ground.phase }, { on := 3, ground := Ground.phase }, { on := 4, ground := Ground.phase }, { on := 5, ground := (Ground.textOnly Departure.lateStores) }]).op, none⟩,
    ⟨(opAssign (some 20) (.tmp 114) 4 "law.go:49" #[{ on := 5, ground := Ground.data }, { on := 6, ground := Ground.chain }, { on := 0, ground := Ground.phase }, { on := 1, ground := Ground.phase }, { on := 2, ground := Ground.phase }, { on := 3, ground := Ground.phase }, { on := 4, ground := Ground.phase }, { on := 5, ground := Ground.phase }, { on := 6, ground := Ground.phase }]).op, none⟩
  ] (by kernel_rfl)))
  (.seq (.live [0, 1, 2, 7, 9, 10, 11, 12, 13, 14, 15, 16, 17, 18, 19, 20, 21, 22] (.region 12 [
    ⟨(opLoadT (.agg [.any]) (some 116) 53 (.tmp 7) d53 ud53 1 sz53 (by kernel_rfl) 53 "law.go:50" #[]).op, none⟩,
    ⟨(opMove (some 117) (.tmp 1) 3 "law.go:50" #[]).op, none⟩,
    ⟨(opMove (some 118) (.tmp 2) 25 "law.go:50" #[]).op, none⟩,
    ⟨(opCallP p31 (some 119) [(.tmp 116), (.tmp 117), (.tmp 118)] #[53, 3, 25] 30 "law.go:50" #[{ on := 0, ground := Ground.data }, { on := 1, ground := Ground.data }, { on := 2, ground := Ground.data }]).op, none⟩,
    ⟨(opMove (some 115) (.tmp 119) 30 "law.go:50" #[{ on := 3, ground := Ground.data }]).op, none⟩,
    ⟨(opExtract (some 120) (.tmp 115) 0 25 "law.go:50" #[{ on := 4, ground := Ground.data }]).op, none⟩,
    ⟨(opExtract (some 121) (.tmp 115) 1 4 "law.go:50" #[{ on := 4, ground := Ground.data }, { on := 7, ground := (Ground.gcOnly Departure.lateStores) }]).op, none⟩,
    ⟨(opAssign (some 21) (.tmp 120) 25 "law.go:50" #[{ on := 5, ground := Ground.data }, { on := 3, ground := Ground.chain }, { on := 0, ground := Ground.phase }, { on := 1, ground := Ground.phase }, { on := 2, ground := Ground.phase }, { on := 3, ground := Ground.phase }, { on := 4, ground := Ground.phase }, { on := 5, ground := Ground.phase }, { on := 6, ground := (Ground.textOnly Departure.lateStores) }]).op, none⟩,
    ⟨(opAssign (some 22) (.tmp 121) 4 "law.go:50" #[{ on := 6, ground := Ground.data }, { on := 7, ground := Ground.chain }, { on := 0, ground := Ground.phase }, { on := 1, ground := Ground.phase }, { on := 2, ground := Ground.phase }, { on := 3, ground := Ground.phase }, { on := 4, ground := Ground.phase }, { on := 5, ground := Ground.phase }, { on := 6, ground := Ground.phase }, { on := 7, ground := Ground.phase }]).op, none⟩
  ] (by kernel_rfl)))
  (.seq (.live [0, 1, 7, 9, 10, 11, 12, 13, 14, 15, 16, 17, 18, 19, 20, 21, 22, 23, 24, 25] (.region 13 [
    ⟨(opLoadT (.agg [.any]) (some 123) 53 (.tmp 7) d53 ud53 1 sz53 (by kernel_rfl) 53 "law.go:51" #[]).op, none⟩,
    ⟨(opMove (some 124) (.tmp 2) 25 "law.go:51" #[]).op, none⟩,
    ⟨(opCallP p32 (some 125) [(.tmp 123), (.tmp 124)] #[53, 25] 33 "law.go:51" #[{ on := 0, ground := Ground.data }, { on := 1, ground := Ground.data }]).op, none⟩,
    ⟨(opMove (some 122) (.tmp 125) 33 "law.go:51" #[{ on := 2, ground := Ground.data }]).op, none⟩,
    ⟨(opExtract (some 126) (.tmp 122) 0 25 "law.go:51" #[{ on := 3, ground := Ground.data }]).op, none⟩,
    ⟨(opExtract (some 127) (.tmp 122) 1 3 "law.go:51" #[{ on := 3, ground := Ground.data }, { on := 7, ground := (Ground.gcOnly Departure.lateStores) }]).op, none⟩,
    ⟨(opExtract (some 128) (.tmp 122) 2 4 "law.go:51" #[{ on := 3, ground := Ground.data }, { on := 8, ground := (Ground.gcOnly Departure.lateStores) }]).op, none⟩,
    ⟨(opAssign (some 23) (.tmp 126) 25 "law.go:51" #[{ on := 4, ground := Ground.data }, { on := 2, ground := Ground.chain }, { on := 0, ground := Ground.phase }, { on := 1, ground := Ground.phase }, { on := 2, ground := Ground.phase }, { on := 3, ground := Ground.phase }, { on := 4, ground := Ground.phase }, { on := 5, ground := (Ground.textOnly Departure.lateStores) }, { on := 6, ground := (Ground.textOnly Departure.lateStores) }]).op, none⟩,
    ⟨(opAssign (some 24) (.tmp 127) 3 "law.go:51" #[{ on := 5, ground := Ground.data }, { on := 7, ground := Ground.chain }, { on := 0, ground := Ground.phase }, { on := 1, ground := Ground.phase }, { on := 2, ground := Ground.phase }, { on := 3, ground := Ground.phase }, { on := 4, ground := Ground.phase }, { on := 5, ground := Ground.phase }, { on := 6, ground := (Ground.textOnly Departure.lateStores) }, { on := 7, ground := Ground.phase }]).op, none⟩,
    ⟨(opAssign (some 25) (.tmp 128) 4 "law.go:51" #[{ on := 6, ground := Ground.data }, { on := 8, ground := Ground.chain }, { on := 0, ground := Ground.phase }, { on := 1, ground := Ground.phase }, { on := 2, ground := Ground.phase }, { on := 3, ground := Ground.phase }, { on := 4, ground := Ground.phase }, { on := 5, ground := Ground.phase }, { on := 6, ground := Ground.phase }, { on := 7, ground := Ground.phase }, { on := 8, ground := Ground.phase }]).op, none⟩
  ] (by kernel_rfl)))
  (.seq (.live [0, 7, 9, 10, 11, 12, 13, 14, 15, 16, 17, 18, 19, 20, 21, 22, 23, 24, 25, 26, 27] (.region 14 [
    ⟨(opLoadT (.agg [.any]) (some 130) 53 (.tmp 7) d53 ud53 1 sz53 (by kernel_rfl) 53 "law.go:52" #[]).op, none⟩,
    ⟨(opMove (some 131) (.tmp 1) 3 "law.go:52" #[]).op, none⟩,
    ⟨(opCallP p33 (some 132) [(.tmp 130), (.tmp 131)] #[53, 3] 30 "law.go:52" #[{ on := 0, ground := Ground.data }, { on := 1, ground := Ground.data }]).op, none⟩,
    ⟨(opMove (some 129) (.tmp 132) 30 "law.go:52" #[{ on := 2, ground := Ground.data }]).op, none⟩,
    ⟨(opExtract (some 133) (.tmp 129) 0 25 "law.go:52" #[{ on := 3, ground := Ground.data }]).op, none⟩,
    ⟨(opExtract (some 134) (.tmp 129) 1 4 "law.go:52" #[{ on := 3, ground := Ground.data }, { on := 6, ground := (Ground.gcOnly Departure.lateStores) }]).op, none⟩,
    ⟨(opAssign (some 26) (.tmp 133) 25 "law.go:52" #[{ on := 4, ground := Ground.data }, { on := 2, ground := Ground.chain }, { on := 0, ground := Ground.phase }, { on := 1, ground := Ground.phase }, { on := 2, ground := Ground.phase }, { on := 3, ground := Ground.phase }, { on := 4, ground := Ground.phase }, { on := 5, ground := (Ground.textOnly Departure.lateStores) }]).op, none⟩,
    ⟨(opAssign (some 27) (.tmp 134) 4 "law.go:52" #[{ on := 5, ground := Ground.data }, { on := 6, ground := Ground.chain }, { on := 0, ground := Ground.phase }, { on := 1, ground := Ground.phase }, { on := 2, ground := Ground.phase }, { on := 3, ground := Ground.phase }, { on := 4, ground := Ground.phase }, { on := 5, ground := Ground.phase }, { on := 6, ground := Ground.phase }]).op, none⟩
  ] (by kernel_rfl)))
  (.seq (.live [0, 7, 9, 10, 11, 12, 13, 14, 15, 16, 17, 18, 19, 20, 21, 22, 23, 24, 25, 26, 27, 28] (.region 15 [
    ⟨(opAssign (some 28) (.const (Value.int IntKind.i64 0)) 3 "law.go:53" #[]).op, none⟩
  ] (by kernel_rfl)))
  (.seq (.seq (.live [0, 7, 9, 10, 11, 12, 13, 14, 15, 16, 17, 18, 19, 20, 21, 22, 23, 24, 25, 26, 27, 28, 29] (.region 16 [
    ⟨(opAssign (some 29) (.const (Value.int IntKind.i64 0)) 3 "law.go:54" #[]).op, none⟩
  ] (by kernel_rfl)))
  (.block 0 (.loop [0, 7, 9, 10, 11, 12, 13, 14, 15, 16, 17, 18, 19, 20, 21, 22, 23, 24, 25, 26, 27, 28, 29] f20_l0)))
  f20_r0)))))))))))))))

noncomputable def f20 : Fun Try.prog where
  id := 20
  fn := Try.f20
  hf := Try.func20
  hname := by kernel_rfl
  body := f20_b
  hbody := by kernel_rfl
  res := [rTmp 6]
  hres := by kernel_rfl
  n := 218
  hn := by kernel_rfl

end Go.Proofs.Ytblliolkgkgppaa.V

/- What the functions' runs come to; the right sides were printed by a tool, Lean checks them. -/
set_option linter.unusedVariables false
set_option maxRecDepth 100000
namespace Go.Proofs.Ytblliolkgkgppaa.V
open Go Go.V Go.RowKit

theorem asks_run (F : Nat) (z y : Bool) (l b : List (List AV)) (i : Int) :
    (f20.run F [.ns z 1 l, .int .i64 i, .ns y 1 b] ⟨[], []⟩ : Ans) =
    branch (AV.bool (byOk l && cdec (Pg (nR l))))
      (branch (AV.bool (byOk l))
        (branch (AV.bool !ofBo (nR l) == true) (some (Fin.ret (AV.bool false), St.mk [] []))
          (branch (AV.bool (byOk l))
            (branch (AV.bool (byOk l && (byOk b && apOk b.length 1)))
              (branch (AV.bool (byOk l && (byOk b && apOk b.length 1)))
                (branch (AV.bool (byOk l))
                  (branch (AV.bool (byOk l))
                    (branch (AV.bool (isN (rfR (nR l))))
                      (branch (AV.bool (isN (rfR (nR l)) && (byOk b && cdec (b.length ≤ 1000000))))
                        (branch (AV.bool (isN (rfR (nR l)) && (byOk b && cdec (b.length ≤ 1000000))))
                          (branch (AV.bool (isN (rfR (nR l))))
                            (loopRun (f20_l0.run F)
                              [0, 7, 9, 10, 11, 12, 13, 14,
                                15, 16, 17, 18, 19, 20, 21,
                                22, 23, 24, 25, 26, 27, 28,
                                29]
                              (Cont.block 0 (Cont.then (f20_r0.run F (f20.leaveK Fun.done)) (f20.leaveK Fun.done)))
                              F
                              (Env.mk 218
                                [(0, AV.ns z 1 l),
                                  (7, AV.eptr [AV.ns (rfE (nR l)) 1 (rfR (nR l))]),
                                  (9, AV.ns (!oB (getP (ofS (nR l)) i)) 1 (oR (getP (ofS (nR l)) i))),
                                  (10, AV.bool (oB (getP (ofS (nR l)) i))),
                                  (11, AV.ns (!oB (putP (nR l) i (nR b))) 1 (oR (putP (nR l) i (nR b)))),
                                  (12, AV.bool (oB (putP (nR l) i (nR b)))),
                                  (13, AV.ns (!oB (addP (nR l) (nR b))) 1 (oR (addP (nR l) (nR b)))),
                                  (14, AV.int IntKind.i64 (addK (nR l) (nR b))),
                                  (15, AV.bool (oB (addP (nR l) (nR b)))),
                                  (16, AV.ns (!oB (cutP (nR l) i)) 1 (oR (cutP (nR l) i))),
                                  (17, AV.bool (oB (cutP (nR l) i))),
                                  (18, AV.ns (slotsE (nR l)) 1 (slotsA (nR l))),
                                  (19, AV.ns (!oB (getI (rfR (nR l)) i)) 1 (oR (getI (rfR (nR l)) i))),
                                  (20, AV.bool (oB (getI (rfR (nR l)) i))),
                                  (21,
                                    AV.ns (!oB (putI (rfR (nR l)) i (nR b))) 1 (oR (putI (rfR (nR l)) i (nR b)))),
                                  (22, AV.bool (oB (putI (rfR (nR l)) i (nR b)))),
                                  (23,
                                    AV.ns (!oB (rA (rfR (nR l)) (nR b))) 1 (oR (rA (rfR (nR l)) (nR b)))),
                                  (24, AV.int IntKind.i64 (rAK (rfR (nR l)) (nR b))),
                                  (25, AV.bool (oB (rA (rfR (nR l)) (nR b)))),
                                  (26, AV.ns (!oB (cutI (rfR (nR l)) i)) 1 (oR (cutI (rfR (nR l)) i))),
                                  (27, AV.bool (oB (cutI (rfR (nR l)) i))),
                                  (28, AV.int IntKind.i64 (0 : Int)), (29, AV.int IntKind.i64 (0 : Int))])
                              (St.mk [] []))
                            none)
                          none)
                        none)
                      none)
                    none)
                  none)
                none)
              none)
            none))
        none)
      none := by kernel_rfl

theorem asks_round (F m : Nat) (K : Cont) (e w : Bool) (R L : List (List AV)) (n i : Int) (v0 v9 v10 v11 v12 v13 v14 v15 v16 v17 v19 v20 v21 v22 v23 v24 v25 v26 v27 : AV) :
    (loopRun (f20_l0.run F) [0, 7, 9, 10, 11, 12, 13, 14, 15, 16, 17, 18, 19, 20, 21, 22, 23, 24, 25, 26, 27, 28, 29] K m.succ (Env.mk 218 [(0, v0), (7, .eptr [.ns e 1 R]), (9, v9), (10, v10), (11, v11), (12, v12), (13, v13), (14, v14), (15, v15), (16, v16), (17, v17), (18, .ns w 1 L), (19, v19), (20, v20), (21, v21), (22, v22), (23, v23), (24, v24), (25, v25), (26, v26), (27, v27), (28, .int .i64 n), (29, .int .i64 i)]) ⟨[], []⟩ : Ans) =
    branch (AV.bool (decide (i < (↑R.length : Int))))
      (branch (AV.bool (inR R i))
        (branch (AV.bool ((LD.one (LT.ns 1)).is (V.rowAt R i)))
          (branch (AV.bool (nilA (V.rowAt R i)))
            (loopRun (f20_l0.run F)
              [0, 7, 9, 10, 11, 12, 13, 14, 15,
                16, 17, 18, 19, 20, 21, 22, 23, 24,
                25, 26, 27, 28, 29]
              K m
              (Env.mk 218
                [(0, v0), (7, AV.eptr [AV.ns e 1 R]), (9, v9), (10, v10),
                  (11, v11), (12, v12), (13, v13), (14, v14), (15, v15),
                  (16, v16), (17, v17), (18, AV.ns w 1 L), (19, v19),
                  (20, v20), (21, v21), (22, v22), (23, v23), (24, v24),
                  (25, v25), (26, v26), (27, v27), (28, AV.int IntKind.i64 n),
                  (29, AV.int IntKind.i64 (IntKind.i64.wrap (i + (1 : Int))))])
              (St.mk [] []))
            (branch (AV.bool (decide (n ≥ (↑L.length : Int))))
              (K AX.ret (Env.mk 218 [(6, AV.bool false)]) (St.mk [] []))
              (branch (AV.bool (inR L n))
                (branch (AV.bool ((LD.one (LT.int IntKind.i64)).is (V.rowAt L n)))
                  (branch (AV.bool (hdI (V.rowAt L n) != i))
                    (K AX.ret (Env.mk 218 [(6, AV.bool false)]) (St.mk [] []))
                    (loopRun (f20_l0.run F)
                      [0, 7, 9, 10, 11, 12, 13, 14,
                        15, 16, 17, 18, 19, 20, 21, 22,
                        23, 24, 25, 26, 27, 28, 29]
                      K m
                      (Env.mk 218
                        [(0, v0), (7, AV.eptr [AV.ns e 1 R]), (9, v9), (10, v10),
                          (11, v11), (12, v12), (13, v13), (14, v14), (15, v15),
                          (16, v16), (17, v17), (18, AV.ns w 1 L), (19, v19),
                          (20, v20), (21, v21), (22, v22), (23, v23), (24, v24),
                          (25, v25), (26, v26), (27, v27),
                          (28, AV.int IntKind.i64 (IntKind.i64.wrap (n + (1 : Int)))),
                          (29, AV.int IntKind.i64 (IntKind.i64.wrap (i + (1 : Int))))])
                      (St.mk [] [])))
                  none)
                none)))
          none)
        none)
      (K (AX.exit 0)
        (Env.mk 218
          [(0, v0), (7, AV.eptr [AV.ns e 1 R]), (9, v9), (10, v10),
            (11, v11), (12, v12), (13, v13), (14, v14), (15, v15),
            (16, v16), (17, v17), (18, AV.ns w 1 L), (19, v19), (20, v20),
            (21, v21), (22, v22), (23, v23), (24, v24), (25, v25),
            (26, v26), (27, v27), (28, AV.int IntKind.i64 n)])
        (St.mk [] [])) := by kernel_rfl

theorem asks_out (F : Nat) (z e w z9 z11 z13 z16 z19 z21 z23 z26 b10 b12 b15 b17 b20 b22 b25 b27 : Bool) (l R L r9 r11 r13 r16 r19 r21 r23 r26 : List (List AV)) (n n14 n24 : Int) :
    ((Cont.block 0 (Cont.then (f20_r0.run F (f20.leaveK Fun.done)) (f20.leaveK Fun.done))) (.exit 0) (Env.mk 218 [(0, .ns z 1 l), (7, .eptr [.ns e 1 R]), (9, .ns z9 1 r9), (10, .bool b10), (11, .ns z11 1 r11), (12, .bool b12), (13, .ns z13 1 r13), (14, .int .i64 n14), (15, .bool b15), (16, .ns z16 1 r16), (17, .bool b17), (18, .ns w 1 L), (19, .ns z19 1 r19), (20, .bool b20), (21, .ns z21 1 r21), (22, .bool b22), (23, .ns z23 1 r23), (24, .int .i64 n24), (25, .bool b25), (26, .ns z26 1 r26), (27, .bool b27), (28, .int .i64 n)]) ⟨[], []⟩ : Ans) =
    branch (AV.bool (byOk r9 && byOk r19))
      (branch (AV.bool (nR r9 == nR r19))
        (branch (AV.bool (b10 == b20))
          (branch (AV.bool (byOk r11 && byOk r21))
            (branch (AV.bool (nR r11 == nR r21))
              (branch (AV.bool (b12 == b22))
                (branch (AV.bool (byOk r13 && byOk r23))
                  (branch (AV.bool (nR r13 == nR r23))
                    (branch (AV.bool (n14 == n24))
                      (branch (AV.bool (b15 == b25))
                        (branch (AV.bool (byOk r16 && byOk r26))
                          (branch (AV.bool (nR r16 == nR r26))
                            (branch (AV.bool (b17 == b27))
                              (branch (AV.bool (n == (↑L.length : Int)))
                                (branch (AV.bool (byOk l))
                                  (branch
                                    (AV.bool
                                      (isN R && cdec (trm (sR R) = true ∧ pgOk (sR R) = true ∧ R.length ≤ 251)))
                                    (some (Fin.ret (AV.bool (roomP (nR l) == roomR R)), St.mk [] [])) none)
                                  none)
                                (some (Fin.ret (AV.bool false), St.mk [] [])))
                              (some (Fin.ret (AV.bool false), St.mk [] [])))
                            (some (Fin.ret (AV.bool false), St.mk [] [])))
                          none)
                        (some (Fin.ret (AV.bool false), St.mk [] [])))
                      (some (Fin.ret (AV.bool false), St.mk [] [])))
                    (some (Fin.ret (AV.bool false), St.mk [] [])))
                  none)
                (some (Fin.ret (AV.bool false), St.mk [] [])))
              (some (Fin.ret (AV.bool false), St.mk [] [])))
            none)
          (some (Fin.ret (AV.bool false), St.mk [] [])))
        (some (Fin.ret (AV.bool false), St.mk [] [])))
      none := by kernel_rfl

theorem asks_ret (F : Nat) (st : St) :
    ((Cont.block 0 (Cont.then (f20_r0.run F (f20.leaveK Fun.done)) (f20.leaveK Fun.done))) .ret (Env.mk 218 [(6, .bool false)]) st : Ans) =
    some (Fin.ret (AV.bool false), st) := by kernel_rfl

end Go.Proofs.Ytblliolkgkgppaa.V

/- Page: all that is asked of a right page, as a callee. -/
set_option linter.unusedVariables false
namespace Go.Proofs.Ytblliolkgkgppaa.V
open Go Go.V Go.RowKit

noncomputable abbrev asksK (F : Nat) : Cont := Cont.block 0 (Cont.then (f20_r0.run F (f20.leaveK Fun.done)) (f20.leaveK Fun.done))
theorem iR_get {l : List Nat} {i : Nat} (h : i < l.length) : inR (iR l) (i : Int) = true ∧ (LD.one (LT.int .i64)).is (V.rowAt (iR l) (i : Int)) = true ∧ hdI (V.rowAt (iR l) (i : Int)) = ((l[i] : Nat) : Int) := iR_at h
theorem asks_loop (F : Nat) (K : Cont) (e w : Bool) (s : Sl) (hs : s.length ≤ 300) (D : List Nat) (hD : D.length ≤ 300) (v0 v9 v10 v11 v12 v13 v14 v15 v16 v17 v19 v20 v21 v22 v23 v24 v25 v26 v27 : AV) : ∀ (k m i n : Nat), i + k = s.length → k < m → n ≤ D.length → D.drop n = slotsI (s.drop i) i →
    loopRun (f20_l0.run F) [0, 7, 9, 10, 11, 12, 13, 14, 15, 16, 17, 18, 19, 20, 21, 22, 23, 24, 25, 26, 27, 28, 29] K m (Env.mk 218 [(0, v0), (7, .eptr [.ns e 1 (sN s)]), (9, v9), (10, v10), (11, v11), (12, v12), (13, v13), (14, v14), (15, v15), (16, v16), (17, v17), (18, .ns w 1 (iR D)), (19, v19), (20, v20), (21, v21), (22, v22), (23, v23), (24, v24), (25, v25), (26, v26), (27, v27), (28, .int .i64 (n : Int)), (29, .int .i64 (i : Int))]) ⟨[], []⟩ =
      K (.exit 0) (Env.mk 218 [(0, v0), (7, .eptr [.ns e 1 (sN s)]), (9, v9), (10, v10), (11, v11), (12, v12), (13, v13), (14, v14), (15, v15), (16, v16), (17, v17), (18, .ns w 1 (iR D)), (19, v19), (20, v20), (21, v21), (22, v22), (23, v23), (24, v24), (25, v25), (26, v26), (27, v27), (28, .int .i64 (D.length : Int))]) ⟨[], []⟩
  | k, 0, i, n, hi, hm, hn, hd => by omega
  | 0, m + 1, i, n, hi, hm, hn, hd => by
    have hnil : s.drop i = [] := List.drop_eq_nil_of_le (by omega)
    rw [hnil, slotsI] at hd
    have : D.length ≤ n := by rw [← List.drop_eq_nil_iff]; exact hd
    obtain rfl : n = D.length := by omega
    rw [show m + 1 = m.succ from rfl, asks_round, branch_not (by rw [decide_eq_false_iff_not, sN_length]; omega)]
  | k + 1, m + 1, i, n, hi, hm, hn, hd => by
    have h1 : i < s.length := by omega
    obtain ⟨r1, r2⟩ := sN_row h1
    rw [drop_at h1] at hd
    rw [show m + 1 = m.succ from rfl, asks_round, branch_of (by rw [decide_eq_true_eq, sN_length]; omega), branch_of r1, r2, wrap_succ (i := i) (by omega)]
    cases ho : s[i] with
    | none =>
      rw [ho, slotsI] at hd
      rw [branch_of (show (LD.one (LT.ns 1)).is [cellN none] = true from rfl), branch_of (show nilA [cellN none] = true from rfl)]
      exact asks_loop F K e w s hs D hD v0 v9 v10 v11 v12 v13 v14 v15 v16 v17 v19 v20 v21 v22 v23 v24 v25 v26 v27 k m (i + 1) n (by omega) (by omega) hn hd
    | some b =>
      rw [ho, slotsI] at hd
      have hlt : n < D.length := by
        rcases Nat.lt_or_ge n D.length with h | h
        · exact h
        · rw [List.drop_eq_nil_of_le h] at hd; cases hd
      rw [drop_at hlt] at hd
      obtain ⟨e1, e2⟩ := List.cons.inj hd
      obtain ⟨i1, i2, i3⟩ := iR_get hlt
      rw [branch_of (show (LD.one (LT.ns 1)).is [cellN (some b)] = true from rfl), branch_not (show nilA [cellN (some b)] = false from rfl), branch_not (by rw [decide_eq_false_iff_not, iR_length]; omega), branch_of i1, branch_of i2, i3, e1, branch_not (by simp), wrap_succ (i := n) (by omega)]
      exact asks_loop F K e w s hs D hD v0 v9 v10 v11 v12 v13 v14 v15 v16 v17 v19 v20 v21 v22 v23 v24 v25 v26 v27 k m (i + 1) (n + 1) (by omega) (by omega) (by omega) e2
theorem byOk_oR {o : Option (List Nat)} (h : ∀ b, o = some b → (∀ x ∈ b, x < 256) ∧ b.length < 4611686018427387904) : byOk (oR o) = true := by
  cases o with
  | none => rw [oR_none]; exact byOk_bR (l := []) (by simp) (by simp)
  | some b => rw [oR_some]; exact byOk_bR (h b rfl).1 (h b rfl).2
theorem slotsI_len : ∀ (s : Sl) (i : Nat), (slotsI s i).length ≤ s.length
  | [], _ => Nat.le_refl _
  | none :: s, i => by rw [slotsI, List.length_cons]; have := slotsI_len s (i + 1); omega
  | some _ :: s, i => by rw [slotsI, List.length_cons, List.length_cons]; have := slotsI_len s (i + 1); omega
theorem Pg.small {p : List Nat} (h : Pg p) : (∀ x ∈ p, x < 256) ∧ p.length < 4611686018427387904 := ⟨h.1, by rw [h.2.1]; decide⟩
theorem getP_ok {s : Sl} (h : okSl s) {i : Int} {b : List Nat} (hb : getP s i = some b) : (∀ x ∈ b, x < 256) ∧ b.length < 4611686018427387904 := by
  have hs := getP_bound (s := s) (i := i) (by rw [hb]; rfl)
  obtain ⟨n, rfl⟩ := Int.eq_ofNat_of_zero_le hs.1
  rw [getP_nat] at hb
  exact getS_ok h hb
theorem cutP_pg {p : List Nat} (hp : Pg p) {i : Int} {c : List Nat} (h : cutP p i = some c) : Pg c ∧ (ofS c).length ≤ (ofS p).length := by
  rw [cutP, cutS] at h
  split at h
  · rename_i hg
    have hs := getP_bound hg
    obtain ⟨n, rfl⟩ := Int.eq_ofNat_of_zero_le hs.1
    rw [getP_nat] at hg
    cases hb : getS (ofS p) n with
    | none => rw [hb] at hg; cases hg
    | some b =>
      obtain ⟨c', k1, k2, k3⟩ := hp.cut hb
      rw [cutP, cutS, getP_nat, hb, if_pos (show (some b).isSome = true from rfl)] at k1
      rw [h] at k1
      cases k1
      refine ⟨k2, ?_⟩
      rw [k3, withS]
      refine Nat.le_trans (trS_len _) ?_
      rw [List.length_set, padS_len]
      have := hs.2
      rw [Int.toNat_natCast] at this
      omega
  · cases h
theorem asks_can {z y : Bool} {p b : List Nat} (hp : Pg p) (hl : (ofS p).length ≤ 251) (hb : ∀ x ∈ b, x < 256) (hbl : b.length ≤ 1000000) (i : Int) : f20.run 400 [.ns z 1 (bR p), .int .i64 i, .ns y 1 (bR b)] ⟨[], []⟩ = some (.ret (.bool true), ⟨[], []⟩) := by
  obtain ⟨q0, q1, q2, q3, q4⟩ := hp.slots
  have hbp : byOk (bR p) = true := byOk_bR hp.1 hp.small.2
  have hbb : byOk (bR b) = true := byOk_bR hb (by omega)
  have hap : apOk (bR b).length 1 = true := by rw [apOk_iff, bR_length]; omega
  have hR : rfR p = sN (ofS p) := by rw [rfR, opq_eq]
  have hsR : sR (sN (ofS p)) = ofS p := sR_sN _
  have hN : isN (sN (ofS p)) = true := isN_sN q1 (by omega)
  have hB : ofB p = true := hp.2.2
  have hD : slotsA p = iR (slotsI (ofS p) 0) := by rw [slotsA, opq_eq]
  have e1 : getI (sN (ofS p)) i = getP (ofS p) i := by rw [getI, opq_eq, hsR]
  have e2 : putI (sN (ofS p)) i b = putP p i b := by rw [putI, opq_eq, hsR, putP, if_pos hB]
  have e3 : rA (sN (ofS p)) b = addP p b := by rw [rA, opq_eq, hsR, addP, if_pos hB, putP, if_pos hB]
  have e4 : rAK (sN (ofS p)) b = addK p b := by rw [rAK, addK, opq_eq, opq_eq, e3, hsR]
  have e5 : cutI (sN (ofS p)) i = cutP p i := by rw [cutI, opq_eq, hsR, cutP]
  have g1 : byOk (oR (getP (ofS p) i)) = true := byOk_oR fun c hc => getP_ok q1 hc
  have g2 : byOk (oR (putP p i b)) = true := byOk_oR fun c hc => (hp.put hb (by omega) hc).1.small
  have g3 : byOk (oR (addP p b)) = true := byOk_oR fun c hc => (hp.add hb hc).1.small
  have g4 : byOk (oR (cutP p i)) = true := byOk_oR fun c hc => (cutP_pg hp hc).1.small
  have lp := asks_loop 400 (asksK 400) (rfE p) (slotsE p) (ofS p) (by omega) (slotsI (ofS p) 0) (by have := slotsI_len (ofS p) 0; omega) (.ns z 1 (bR p)) (.ns (!oB (getP (ofS p) i)) 1 (oR (getP (ofS p) i))) (.bool (oB (getP (ofS p) i))) (.ns (!oB (putP p i b)) 1 (oR (putP p i b))) (.bool (oB (putP p i b))) (.ns (!oB (addP p b)) 1 (oR (addP p b))) (.int .i64 (addK p b)) (.bool (oB (addP p b))) (.ns (!oB (cutP p i)) 1 (oR (cutP p i))) (.bool (oB (cutP p i)))
    (.ns (!oB (getP (ofS p) i)) 1 (oR (getP (ofS p) i))) (.bool (oB (getP (ofS p) i))) (.ns (!oB (putP p i b)) 1 (oR (putP p i b))) (.bool (oB (putP p i b))) (.ns (!oB (addP p b)) 1 (oR (addP p b))) (.int .i64 (addK p b)) (.bool (oB (addP p b))) (.ns (!oB (cutP p i)) 1 (oR (cutP p i))) (.bool (oB (cutP p i))) (ofS p).length 400 0 0 (by omega) (by omega) (by omega) rfl
  have hadd : (byOk (bR p) && (byOk (bR b) && apOk (bR b).length 1)) = true := by rw [hbp, hbb, hap]; rfl
  have hrp : (isN (sN (ofS p)) && (byOk (bR b) && cdec ((bR b).length ≤ 1000000))) = true := by rw [hN, hbb, cdec_iff.mpr (by rw [bR_length]; exact hbl)]; rfl
  rw [asks_run, nR_bR, nR_bR, branch_of (by rw [hbp, cdec_iff.mpr hp]; rfl), branch_of hbp, branch_not (by rw [ofBo, opq_eq, hB]; rfl), branch_of hbp, branch_of hadd, branch_of hadd, branch_of hbp, branch_of hbp, hR, branch_of hN, branch_of hrp, branch_of hrp, branch_of hN, e1, e2, e3, e4, e5, hD]
  refine Eq.trans lp ?_
  have hroom : roomP p = roomR (sN (ofS p)) := by rw [roomP, roomR, opq_eq, opq_eq, if_pos hB, hsR]
  rw [asksK, asks_out, branch_of (by rw [g1]; rfl), branch_of (by simp), branch_of (by simp), branch_of (by rw [g2]; rfl), branch_of (by simp), branch_of (by simp), branch_of (by rw [g3]; rfl), branch_of (by simp), branch_of (by simp), branch_of (by simp), branch_of (by rw [g4]; rfl), branch_of (by simp), branch_of (by simp), branch_of (by rw [iR_length]; simp), branch_of hbp, branch_of (by rw [hN, hsR, cdec_iff.mpr ⟨q3, q2, by rw [sN_length]; exact hl⟩]; rfl), nR_bR, hroom]
  simp
noncomputable def p20 : POrc Try.prog := f20.farN
  (fun args k => match args with
    | [x, .int .i64 i, y] => onNs 1 x fun _ l => onNs 1 y fun _ b => ifT (byOk l && (byOk b && cdec (Pg (nR l) ∧ (ofS (nR l)).length ≤ 251 ∧ b.length ≤ 1000000))) (k (.bool true))
    | _ => none)
  fun args k fin h => by
    split at h
    · rename_i x i y
      obtain ⟨z, l, g1, hx⟩ := onNs_spec h
      obtain ⟨z', b, g2, hy⟩ := onNs_spec g1
      obtain ⟨h1, g3⟩ := ifT_spec g2
      simp only [Bool.and_eq_true, cdec_iff] at h1
      obtain ⟨e1, e2, e3, e4, e5⟩ := h1
      have hl := byOk_iff.mp e1
      have hb := byOk_iff.mp e2
      have r1 := okR_rows hl.1
      have r2 := okR_rows hb.1
      refine ⟨_, _, g3, .cons hx (.cons (.refl _) (.cons hy .nil)), ⟨okR_scoped hl.1, trivial, okR_scoped hb.1, trivial⟩, trivial, 400, .bool true, ⟨[], []⟩, rfl, ?_⟩
      have := asks_can (z := z) (y := z') e3 e4 (fun x hx => okR_lt hb.1 hx) (by rw [nR_length]; exact e5) i
      rw [← r1, ← r2] at this
      exact this
    · cases h
theorem p20_nat : p20.Nat := by
  intro args k
  simp only [p20, Fun.farN]
  split
  · exact onNs_nat fun _ _ => onNs_nat fun _ _ => ifT_nat rfl
  · rfl
end Go.Proofs.Ytblliolkgkgppaa.V

/- The functions' pieces, as told by gen.py. -/
set_option linter.unusedVariables false
set_option maxRecDepth 20000
namespace Go.Proofs.Ytblliolkgkgppaa.V
open Go Go.V Go.RowKit

noncomputable abbrev d29 : TypeDesc := (Try.prog.underlying 29).getD .bool
theorem ud29 : Try.prog.underlying 29 = some d29 := by kernel_rfl
theorem ze29 : (Try.prog.info? 29).bind (·.zero) = some (.agg #[(.int .i64 0), (.int .i64 0), (.slice none 0 0)]) := by kernel_rfl
theorem fl29_0 : fieldB Try.prog 29 0 0 1 false = true := by kernel_rfl

/-! ### 7: interlock/interlocklaw06.PageCalls (22); results 2; slots: 0 calls, 1 calls, 3 p, 4 i, 5 c, 6 q, 7 ok -/
/-- A loop's round; at its head live: 0 calls, 3 p, 4 i -/
noncomputable def f7_l0 : Sim Try.prog :=
  (.seq (.seq (.live [0, 3, 4, 16] (.region 7 [
    ⟨(opMove (some 13) (.tmp 4) 3 "law.go:87" #[]).op, none⟩,
    ⟨(opMove (some 14) (.tmp 0) 22 "law.go:87" #[]).op, none⟩,
    ⟨(opLen (some 15) (.tmp 14) 22 (.slice 29) Try.underlying22 3 "law.go:87" #[{ on := 1, ground := Ground.data }]).op, none⟩,
    ⟨(opBin (some 16) .lss 3 (.tmp 13) (.tmp 15) 3 4 "law.go:87" #[{ on := 0, ground := Ground.data }, { on := 2, ground := Ground.data }]).op, none⟩
  ] (by kernel_rfl)))
  (.cond (.tmp 16)
    .skip
    (.live [3] (.exit 0))))
  (.seq (.block 1 (.seq (.live [0, 3, 4, 5] (.items 9 [
      .one ((opMove (some 19) (.tmp 0) 22 "law.go:88" #[]).op),
      .one ((opMove (some 20) (.tmp 4) 3 "law.go:88" #[]).op),
      .one ((opIndexAddrT (some 21) 22 (.tmp 19) (.tmp 20) 29 3 Try.underlying22 sz29 0 "law.go:88" #[{ on := 0, ground := Ground.data }, { on := 1, ground := Ground.data }]).op),
      .one ((opLoadT (.agg [(.int .i64), (.int .i64), (.ns 1)]) (some 22) 29 (.tmp 21) d29 ud29 3 sz29 (by kernel_rfl) 29 "law.go:88" #[{ on := 2, ground := Ground.data }]).op),
      .two (op2Box 5 29 (.agg #[(.int .i64 0), (.int .i64 0), (.slice none 0 0)]) ze29 (.tmp 22) (by rfl) 3 sz29 (by kernel_rfl) 67 (by rfl) 0 0 "law.go:88" "law.go:88" #[] #[{ on := 4, ground := Ground.data }, { on := 3, ground := Ground.data }, { on := 0, ground := Ground.phase }, { on := 1, ground := Ground.phase }, { on := 2, ground := Ground.phase }, { on := 3, ground := Ground.phase }, { on := 4, ground := Ground.phase }])
    ]))
    (.seq (.seq (.live [0, 3, 4, 5, 29] (.region 10 [
      ⟨(opMove (some 23) (.tmp 3) 25 "law.go:89" #[]).op, none⟩,
      ⟨(opFieldAddr (some 24) 29 (.tmp 5) 1 1 1 false fl29_1 (by decide) 0 "law.go:89" #[]).op, none⟩,
      ⟨(opLoadT (.one (.int .i64)) (some 25) 3 (.tmp 24) (.int .i64) Try.underlying3 1 sz3 (by kernel_rfl) 3 "law.go:89" #[{ on := 1, ground := Ground.data }]).op, none⟩,
      ⟨(opFieldAddr (some 26) 29 (.tmp 5) 2 2 1 false fl29_2 (by decide) 0 "law.go:89" #[]).op, none⟩,
      ⟨(opLoadT (.one .any) (some 27) 25 (.tmp 26) (.slice 5) Try.underlying25 1 sz25 (by kernel_rfl) 25 "law.go:89" #[{ on := 3, ground := Ground.data }]).op, none⟩,
      ⟨(opCallP p20 (some 28) [(.tmp 23), (.tmp 25), (.tmp 27)] #[25, 3, 25] 4 "law.go:89" #[{ on := 0, ground := Ground.data }, { on := 2, ground := Ground.data }, { on := 4, ground := Ground.data }]).op, none⟩,
      ⟨(opNot (some 29) 4 (.tmp 28) 4 "law.go:89" #[{ on := 5, ground := Ground.data }]).op, none⟩
    ] (by kernel_rfl)))
    (.cond (.tmp 29)
      (.seq (.live [2] (.region 11 [
        ⟨(opAssign (some 2) (.const (Value.bool false)) 4 "law.go:90" #[]).op, none⟩
      ] (by kernel_rfl)))
      (.live [2] .ret))
      .skip))
    (.seq (.live [0, 3, 4, 5, 6] (.region 12 [
      ⟨(opBuildSlice (some 30) 25 0 [] 5 1 1 (.int .u8 0) el25 (by kernel_rfl) (by decide) 25 "law.go:92" #[]).op, none⟩,
      ⟨(opAssign (some 6) (.tmp 30) 25 "law.go:92" #[{ on := 0, ground := Ground.data }, { on := 0, ground := Ground.phase }]).op, none⟩
    ] (by kernel_rfl)))
    (.seq (.live [0, 3, 4, 5, 6, 7] (.region 13 [
      ⟨(opAssign (some 7) (.const (Value.bool false)) 4 "law.go:93" #[]).op, none⟩
    ] (by kernel_rfl)))
    (.seq (.seq (.live [0, 3, 4, 5, 6, 7, 32] (.region 14 [
      ⟨(opFieldAddr (some 31) 29 (.tmp 5) 0 0 1 false fl29_0 (by decide) 0 "law.go:94" #[]).op, none⟩,
      ⟨(opLoadT (.one (.int .i64)) (some 32) 3 (.tmp 31) (.int .i64) Try.underlying3 1 sz3 (by kernel_rfl) 3 "law.go:94" #[{ on := 0, ground := Ground.data }]).op, none⟩
    ] (by kernel_rfl)))
    (.block 2 (.seq (.live [0, 3, 4, 5, 6, 7, 32, 33] (.region 15 [
        ⟨(opBin (some 34) .eql 3 (.tmp 32) (.const (Value.int IntKind.i64 0)) 3 4 "law.go:95" #[]).op, none⟩,
        ⟨(opAssign (some 33) (.tmp 34) 4 "law.go:95" #[{ on := 0, ground := Ground.data }]).op, none⟩
      ] (by kernel_rfl)))
      (.cond (.tmp 33)
        (.live [0, 3, 4, 6, 7] (.region 16 [
          ⟨(opMove (some 36) (.tmp 3) 25 "law.go:96" #[]).op, none⟩,
          ⟨(opFieldAddr (some 37) 29 (.tmp 5) 2 2 1 false fl29_2 (by decide) 0 "law.go:96" #[]).op, none⟩,
          ⟨(opLoadT (.one .any) (some 38) 25 (.tmp 37) (.slice 5) Try.underlying25 1 sz25 (by kernel_rfl) 25 "law.go:96" #[{ on := 1, ground := Ground.data }]).op, none⟩,
          ⟨(opCallP p13 (some 39) [(.tmp 36), (.tmp 38)] #[25, 25] 33 "law.go:96" #[{ on := 0, ground := Ground.data }, { on := 2, ground := Ground.data }]).op, none⟩,
          ⟨(opMove (some 35) (.tmp 39) 33 "law.go:96" #[{ on := 3, ground := Ground.data }]).op, none⟩,
          ⟨(opExtract (some 40) (.tmp 35) 0 25 "law.go:96" #[{ on := 4, ground := Ground.data }]).op, none⟩,
          ⟨(opExtract (some 41) (.tmp 35) 1 3 "law.go:96" #[{ on := 4, ground := Ground.data }, { on := 8, ground := (Ground.gcOnly Departure.lateStores) }]).op, none⟩,
          ⟨(opExtract (some 42) (.tmp 35) 2 4 "law.go:96" #[{ on := 4, ground := Ground.data }, { on := 8, ground := (Ground.gcOnly Departure.lateStores) }]).op, none⟩,
          ⟨(opAssign (some 6) (.tmp 40) 25 "law.go:96" #[{ on := 5, ground := Ground.data }, { on := 3, ground := Ground.chain }, { on := 0, ground := Ground.phase }, { on := 1, ground := Ground.phase }, { on := 2, ground := Ground.phase }, { on := 3, ground := Ground.phase }, { on := 4, ground := Ground.phase }, { on := 5, ground := Ground.phase }, { on := 6, ground := (Ground.textOnly Departure.lateStores) }, { on := 7, ground := (Ground.textOnly Departure.lateStores) }]).op, none⟩,
          ⟨(opAssign (some 7) (.tmp 42) 4 "law.go:96" #[{ on := 7, ground := Ground.data }, { on := 8, ground := Ground.chain }, { on := 0, ground := Ground.phase }, { on := 1, ground := Ground.phase }, { on := 2, ground := Ground.phase }, { on := 3, ground := Ground.phase }, { on := 4, ground := Ground.phase }, { on := 5, ground := Ground.phase }, { on := 6, ground := Ground.phase }, { on := 7, ground := Ground.phase }, { on := 8, ground := Ground.phase }]).op, none⟩
        ] (by kernel_rfl)))
        (.seq (.live [0, 3, 4, 5, 6, 7, 32, 43] (.region 17 [
          ⟨(opBin (some 44) .eql 3 (.tmp 32) (.const (Value.int IntKind.i64 1)) 3 4 "law.go:97" #[]).op, none⟩,
          ⟨(opAssign (some 43) (.tmp 44) 4 "law.go:97" #[{ on := 0, ground := Ground.data }]).op, none⟩
        ] (by kernel_rfl)))
        (.cond (.tmp 43)
          (.live [0, 3, 4, 6, 7] (.region 18 [
            ⟨(opMove (some 46) (.tmp 3) 25 "law.go:98" #[]).op, none⟩,
            ⟨(opFieldAddr (some 47) 29 (.tmp 5) 1 1 1 false fl29_1 (by decide) 0 "law.go:98" #[]).op, none⟩,
            ⟨(opLoadT (.one (.int .i64)) (some 48) 3 (.tmp 47) (.int .i64) Try.underlying3 1 sz3 (by kernel_rfl) 3 "law.go:98" #[{ on := 1, ground := Ground.data }]).op, none⟩,
            ⟨(opFieldAddr (some 49) 29 (.tmp 5) 2 2 1 false fl29_2 (by decide) 0 "law.go:98" #[]).op, none⟩,
            ⟨(opLoadT (.one .any) (some 50) 25 (.tmp 49) (.slice 5) Try.underlying25 1 sz25 (by kernel_rfl) 25 "law.go:98" #[{ on := 3, ground := Ground.data }]).op, none⟩,
            ⟨(opCallP p11 (some 51) [(.tmp 46), (.tmp 48), (.tmp 50)] #[25, 3, 25] 30 "law.go:98" #[{ on := 0, ground := Ground.data }, { on := 2, ground := Ground.data }, { on := 4, ground := Ground.data }]).op, none⟩,
            ⟨(opMove (some 45) (.tmp 51) 30 "law.go:98" #[{ on := 5, ground := Ground.data }]).op, none⟩,
            ⟨(opExtract (some 52) (.tmp 45) 0 25 "law.go:98" #[{ on := 6, ground := Ground.data }]).op, none⟩,
            ⟨(opExtract (some 53) (.tmp 45) 1 4 "law.go:98" #[{ on := 6, ground := Ground.data }, { on := 9, ground := (Ground.gcOnly Departure.lateStores) }]).op, none⟩,
            ⟨(opAssign (some 6) (.tmp 52) 25 "law.go:98" #[{ on := 7, ground := Ground.data }, { on := 5, ground := Ground.chain }, { on := 0, ground := Ground.phase }, { on := 1, ground := Ground.phase }, { on := 2, ground := Ground.phase }, { on := 3, ground := Ground.phase }, { on := 4, ground := Ground.phase }, { on := 5, ground := Ground.phase }, { on := 6, ground := Ground.phase }, { on := 7, ground := Ground.phase }, { on := 8, ground := (Ground.textOnly Departure.lateStores) }]).op, none⟩,
            ⟨(opAssign (some 7) (.tmp 53) 4 "law.go:98" #[{ on := 8, ground := Ground.data }, { on := 9, ground := Ground.chain }, { on := 0, ground := Ground.phase }, { on := 1, ground := Ground.phase }, { on := 2, ground := Ground.phase }, { on := 3, ground := Ground.phase }, { on := 4, ground := Ground.phase }, { on := 5, ground := Ground.phase }, { on := 6, ground := Ground.phase }, { on := 7, ground := Ground.phase }, { on := 8, ground := Ground.phase }, { on := 9, ground := Ground.phase }]).op, none⟩
          ] (by kernel_rfl)))
          (.seq (.live [0, 3, 4, 5, 6, 7, 54] (.region 19 [
            ⟨(opBin (some 55) .eql 3 (.tmp 32) (.const (Value.int IntKind.i64 2)) 3 4 "law.go:99" #[]).op, none⟩,
            ⟨(opAssign (some 54) (.tmp 55) 4 "law.go:99" #[{ on := 0, ground := Ground.data }]).op, none⟩
          ] (by kernel_rfl)))
          (.cond (.tmp 54)
            (.live [0, 3, 4, 6, 7] (.region 20 [
              ⟨(opMove (some 57) (.tmp 3) 25 "law.go:100" #[]).op, none⟩,
              ⟨(opFieldAddr (some 58) 29 (.tmp 5) 1 1 1 false fl29_1 (by decide) 0 "law.go:100" #[]).op, none⟩,
              ⟨(opLoadT (.one (.int .i64)) (some 59) 3 (.tmp 58) (.int .i64) Try.underlying3 1 sz3 (by kernel_rfl) 3 "law.go:100" #[{ on := 1, ground := Ground.data }]).op, none⟩,
              ⟨(opCallP p18 (some 60) [(.tmp 57), (.tmp 59)] #[25, 3] 30 "law.go:100" #[{ on := 0, ground := Ground.data }, { on := 2, ground := Ground.data }]).op, none⟩,
              ⟨(opMove (some 56) (.tmp 60) 30 "law.go:100" #[{ on := 3, ground := Ground.data }]).op, none⟩,
              ⟨(opExtract (some 61) (.tmp 56) 0 25 "law.go:100" #[{ on := 4, ground := Ground.data }]).op, none⟩,
              ⟨(opExtract (some 62) (.tmp 56) 1 4 "law.go:100" #[{ on := 4, ground := Ground.data }, { on := 7, ground := (Ground.gcOnly Departure.lateStores) }]).op, none⟩,
              ⟨(opAssign (some 6) (.tmp 61) 25 "law.go:100" #[{ on := 5, ground := Ground.data }, { on := 3, ground := Ground.chain }, { on := 0, ground := Ground.phase }, { on := 1, ground := Ground.phase }, { on := 2, ground := Ground.phase }, { on := 3, ground := Ground.phase }, { on := 4, ground := Ground.phase }, { on := 5, ground := Ground.phase }, { on := 6, ground := (Ground.textOnly Departure.lateStores) }]).op, none⟩,
              ⟨(opAssign (some 7) (.tmp 62) 4 "law.go:100" #[{ on := 6, ground := Ground.data }, { on := 7, ground := Ground.chain }, { on := 0, ground := Ground.phase }, { on := 1, ground := Ground.phase }, { on := 2, ground := Ground.phase }, { on := 3, ground := Ground.phase }, { on := 4, ground := Ground.phase }, { on := 5, ground := Ground.phase }, { on := 6, ground := Ground.phase }, { on := 7, ground := Ground.phase }]).op, none⟩
            ] (by kernel_rfl)))
            .skip))))))))
    (.seq (.live [0, 3, 4, 6, 63] (.region 21 [
      ⟨(opMove (some 63) (.tmp 7) 4 "law.go:102" #[]).op, none⟩
    ] (by kernel_rfl)))
    (.cond (.tmp 63)
      (.live [0, 3, 4] (.region 22 [
        ⟨(opMove (some 64) (.tmp 6) 25 "law.go:103" #[]).op, none⟩,
        ⟨(opAssign (some 3) (.tmp 64) 25 "law.go:103" #[{ on := 0, ground := Ground.data }, { on := 0, ground := Ground.phase }]).op, none⟩
      ] (by kernel_rfl)))
      .skip))))))))
  (.live [0, 3, 4] (.region 8 [
    ⟨(opMove (some 17) (.tmp 4) 3 "law.go:87" #[]).op, none⟩,
    ⟨(opBin (some 18) .add 3 (.tmp 17) (.const (Value.int IntKind.i64 1)) 3 3 "law.go:87" #[{ on := 0, ground := Ground.data }]).op, none⟩,
    ⟨(opAssign (some 4) (.tmp 18) 3 "law.go:87" #[{ on := 1, ground := Ground.data }, { on := 0, ground := Ground.phase }, { on := 1, ground := Ground.phase }]).op, none⟩
  ] (by kernel_rfl)))))

/-- What follows a loop. -/
noncomputable def f7_r0 : Sim Try.prog :=
  (.seq (.live [2] (.region 23 [
    ⟨(opMove (some 65) (.tmp 3) 25 "law.go:106" #[]).op, none⟩,
    ⟨(opCallP p20 (some 66) [(.tmp 65), (.const (Value.int IntKind.i64 0)), (.const (Value.slice none 0 0))] #[25, 3, 25] 4 "law.go:106" #[{ on := 0, ground := Ground.data }]).op, none⟩,
    ⟨(opAssign (some 2) (.tmp 66) 4 "law.go:106" #[{ on := 1, ground := Ground.data }, { on := 1, ground := Ground.chain }, { on := 0, ground := Ground.phase }, { on := 1, ground := Ground.phase }]).op, none⟩
  ] (by kernel_rfl)))
  (.live [2] .ret))

noncomputable def f7_b : Sim Try.prog :=
  (.seq (.live [0] (.region 0 [
    ⟨(opAssign (some 2) (.const (Value.bool false)) 4 "law.go:79" #[]).op, none⟩
  ] (by kernel_rfl)))
  (.seq (.seq (.live [0, 9] (.region 1 [
    ⟨(opCallP p8 (some 8) [] #[] 4 "law.go:80" #[]).op, none⟩,
    ⟨(opNot (some 9) 4 (.tmp 8) 4 "law.go:80" #[{ on := 0, ground := Ground.data }]).op, none⟩
  ] (by kernel_rfl)))
  (.cond (.tmp 9)
    (.seq (.live [2] (.region 2 [
      ⟨(opAssign (some 2) (.const (Value.bool false)) 4 "law.go:81" #[]).op, none⟩
    ] (by kernel_rfl)))
    (.live [2] .ret))
    .skip))
  (.seq (.seq (.live [0, 11] (.region 3 [
    ⟨(opMove (some 10) (.tmp 0) 22 "law.go:83" #[]).op, none⟩,
    ⟨(opCallP p9 (some 11) [(.tmp 10)] #[22] 4 "law.go:83" #[{ on := 0, ground := Ground.data }]).op, none⟩
  ] (by kernel_rfl)))
  (.cond (.tmp 11)
    (.seq (.live [2] (.region 4 [
      ⟨(opAssign (some 2) (.const (Value.bool true)) 4 "law.go:84" #[]).op, none⟩
    ] (by kernel_rfl)))
    (.live [2] .ret))
    .skip))
  (.seq (.live [0, 3] (.region 5 [
    ⟨(opCallP p10 (some 12) [] #[] 25 "law.go:86" #[]).op, none⟩,
    ⟨(opAssign (some 3) (.tmp 12) 25 "law.go:86" #[{ on := 0, ground := Ground.data }, { on := 0, ground := Ground.chain }, { on := 0, ground := Ground.phase }]).op, none⟩
  ] (by kernel_rfl)))
  (.seq (.seq (.live [0, 3, 4] (.region 6 [
    ⟨(opAssign (some 4) (.const (Value.int IntKind.i64 0)) 3 "law.go:87" #[]).op, none⟩
  ] (by kernel_rfl)))
  (.block 0 (.loop [0, 3, 4] f7_l0)))
  f7_r0)))))

noncomputable def f7 : Fun Try.prog where
  id := 7
  fn := Try.f7
  hf := Try.func7
  hname := by kernel_rfl
  body := f7_b
  hbody := by kernel_rfl
  res := [rTmp 2]
  hres := by kernel_rfl
  n := 67
  hn := by kernel_rfl

end Go.Proofs.Ytblliolkgkgppaa.V

/- What the functions' runs come to; the right sides were printed by a tool, Lean checks them. -/
set_option linter.unusedVariables false
set_option maxRecDepth 100000
namespace Go.Proofs.Ytblliolkgkgppaa.V
open Go Go.V Go.RowKit

theorem pcalls_run (F : Nat) (z : Bool) (l : List (List AV)) :
    (f7.run F [.ns z 3 l] ⟨[], []⟩ : Ans) =
    branch (AV.bool (okCl l))
      (branch (AV.bool (greatB l)) (some (Fin.ret (AV.bool true), St.mk [] []))
        (loopRun (f7_l0.run F) [0, 3, 4]
          (Cont.block 0 (Cont.then (f7_r0.run F (f7.leaveK Fun.done)) (f7.leaveK Fun.done))) F
          (Env.mk 67
            [(0, AV.ns z 3 l), (3, AV.ns false 1 (bR zeroP)),
              (4, AV.int IntKind.i64 (0 : Int))])
          (St.mk [] [])))
      none := by kernel_rfl

theorem pcalls_round (F m : Nat) (K : Cont) (z y : Bool) (l p : List (List AV)) (i : Int) :
    (loopRun (f7_l0.run F) [0, 3, 4] K m.succ (Env.mk 67 [(0, .ns z 3 l), (3, .ns y 1 p), (4, .int .i64 i)]) ⟨[], []⟩ : Ans) =
    branch (AV.bool (decide (i < (↑l.length : Int))))
      (branch (AV.bool (inR l i))
        (branch (AV.bool ((LD.agg [LT.int IntKind.i64, LT.int IntKind.i64, LT.ns 1]).is (V.rowAt l i)))
          (branch
            (AV.bool
              (byOk p &&
                (byOk (rwA (V.rowAt l i).tail.tail) &&
                  cdec
                    (Pg (nR p) ∧
                      List.length (ofS (nR p)) ≤ 251 ∧ (rwA (V.rowAt l i).tail.tail).length ≤ 1000000))))
            (branch (AV.bool (hdI (V.rowAt l i) == (0 : Int)))
              (branch
                (AV.bool
                  (byOk p && (byOk (rwA (V.rowAt l i).tail.tail) && apOk (rwA (V.rowAt l i).tail.tail).length 1)))
                (branch (AV.bool (oB (addP (nR p) (nR (rwA (V.rowAt l i).tail.tail)))))
                  (loopRun (f7_l0.run F) [0, 3, 4] K m
                    (Env.mk 67
                      [(0, AV.ns z 3 l),
                        (3,
                          AV.ns (!oB (addP (nR p) (nR (rwA (V.rowAt l i).tail.tail)))) 1
                            (oR (addP (nR p) (nR (rwA (V.rowAt l i).tail.tail))))),
                        (4, AV.int IntKind.i64 (IntKind.i64.wrap (i + (1 : Int))))])
                    (St.mk [] []))
                  (loopRun (f7_l0.run F) [0, 3, 4] K m
                    (Env.mk 67
                      [(0, AV.ns z 3 l), (3, AV.ns y 1 p),
                        (4, AV.int IntKind.i64 (IntKind.i64.wrap (i + (1 : Int))))])
                    (St.mk [] [])))
                none)
              (branch (AV.bool (hdI (V.rowAt l i) == (1 : Int)))
                (branch
                  (AV.bool
                    (byOk p && (byOk (rwA (V.rowAt l i).tail.tail) && apOk (rwA (V.rowAt l i).tail.tail).length 1)))
                  (branch (AV.bool (oB (putP (nR p) (hdI (V.rowAt l i).tail) (nR (rwA (V.rowAt l i).tail.tail)))))
                    (loopRun (f7_l0.run F) [0, 3, 4] K m
                      (Env.mk 67
                        [(0, AV.ns z 3 l),
                          (3,
                            AV.ns (!oB (putP (nR p) (hdI (V.rowAt l i).tail) (nR (rwA (V.rowAt l i).tail.tail)))) 1
                              (oR (putP (nR p) (hdI (V.rowAt l i).tail) (nR (rwA (V.rowAt l i).tail.tail))))),
                          (4, AV.int IntKind.i64 (IntKind.i64.wrap (i + (1 : Int))))])
                      (St.mk [] []))
                    (loopRun (f7_l0.run F) [0, 3, 4] K m
                      (Env.mk 67
                        [(0, AV.ns z 3 l), (3, AV.ns y 1 p),
                          (4, AV.int IntKind.i64 (IntKind.i64.wrap (i + (1 : Int))))])
                      (St.mk [] [])))
                  none)
                (branch (AV.bool (hdI (V.rowAt l i) == (2 : Int)))
                  (branch (AV.bool (byOk p))
                    (branch (AV.bool (oB (cutP (nR p) (hdI (V.rowAt l i).tail))))
                      (loopRun (f7_l0.run F) [0, 3, 4] K m
                        (Env.mk 67
                          [(0, AV.ns z 3 l),
                            (3,
                              AV.ns (!oB (cutP (nR p) (hdI (V.rowAt l i).tail))) 1
                                (oR (cutP (nR p) (hdI (V.rowAt l i).tail)))),
                            (4, AV.int IntKind.i64 (IntKind.i64.wrap (i + (1 : Int))))])
                        (St.mk [] []))
                      (loopRun (f7_l0.run F) [0, 3, 4] K m
                        (Env.mk 67
                          [(0, AV.ns z 3 l), (3, AV.ns y 1 p),
                            (4, AV.int IntKind.i64 (IntKind.i64.wrap (i + (1 : Int))))])
                        (St.mk [] [])))
                    none)
                  (loopRun (f7_l0.run F) [0, 3, 4] K m
                    (Env.mk 67
                      [(0, AV.ns z 3 l), (3, AV.ns y 1 p),
                        (4, AV.int IntKind.i64 (IntKind.i64.wrap (i + (1 : Int))))])
                    (St.mk [] [])))))
            none)
          none)
        none)
      (K (AX.exit 0) (Env.mk 67 [(3, AV.ns y 1 p)]) (St.mk [] [])) := by kernel_rfl

theorem pcalls_out (F : Nat) (y : Bool) (p : List (List AV)) (st : St) :
    ((Cont.block 0 (Cont.then (f7_r0.run F (f7.leaveK Fun.done)) (f7.leaveK Fun.done))) (.exit 0) (Env.mk 67 [(3, .ns y 1 p)]) st : Ans) =
    branch
      (AV.bool
        (byOk p && (byOk [] && cdec (Pg (nR p) ∧ List.length (ofS (nR p)) ≤ 251 ∧ 0 ≤ 1000000))))
      (some (Fin.ret (AV.bool true), st)) none := by kernel_rfl

end Go.Proofs.Ytblliolkgkgppaa.V

/- Page: PageCalls is true. -/
set_option linter.unusedVariables false
namespace Go.Proofs.Ytblliolkgkgppaa.V
open Go Go.V Go.RowKit

theorem put_len {p b q : List Nat} {i : Int} (hp : Pg p) (hl : (ofS p).length ≤ 251) (hb : ∀ x ∈ b, x < 256) (hbl : b.length < 4611686018427387904) (h : putP p i b = some q) : (ofS q).length ≤ 251 := by
  obtain ⟨_, k2, k3, k4⟩ := hp.put hb hbl h
  rw [k2, withS]
  refine Nat.le_trans (trS_len _) ?_
  rw [List.length_set, padS_len]; omega
noncomputable abbrev pcK (F : Nat) : Cont := Cont.block 0 (Cont.then (f7_r0.run F (f7.leaveK Fun.done)) (f7.leaveK Fun.done))
theorem pcalls_loop (F : Nat) (z : Bool) (l : List (List AV)) (hc : Calls' l) (hg : greatB l = false) : ∀ (k m i : Nat) (y : Bool) (p : List Nat), i + k = l.length → k < m → Pg p → (ofS p).length ≤ 251 →
    ∃ y' q, Pg q ∧ (ofS q).length ≤ 251 ∧ loopRun (f7_l0.run F) [0, 3, 4] (pcK F) m (Env.mk 67 [(0, .ns z 3 l), (3, .ns y 1 (bR p)), (4, .int .i64 (i : Int))]) ⟨[], []⟩ = pcK F (.exit 0) (Env.mk 67 [(3, .ns y' 1 (bR q))]) ⟨[], []⟩
  | k, 0, i, y, p, hi, hm, hp, hl => by omega
  | 0, m + 1, i, y, p, hi, hm, hp, hl => ⟨y, p, hp, hl, by rw [show m + 1 = m.succ from rfl, pcalls_round, branch_not (by simp; omega)]⟩
  | k + 1, m + 1, i, y, p, hi, hm, hp, hl => by
    have h1 : i < l.length := by omega
    have h100 := great_len hg
    have ih := pcalls_loop F z l hc hg k m (i + 1)
    have hg' := hg
    rw [greatB, opq_eq, Bool.or_eq_false_iff, List.any_eq_false] at hg'
    have hs := hg'.2 l[i] (List.getElem_mem h1)
    obtain ⟨w, s, zz, d, hr, hd, _, hdl, _⟩ := hc l[i] (List.getElem_mem h1)
    rw [hr] at hs
    simp only [bigCall, List.drop_succ_cons, List.drop_zero, rwA, decide_eq_true_eq] at hs
    have hby : byOk d = true := byOk_iff.mpr ⟨hd, hdl⟩
    have hbp : byOk (bR p) = true := byOk_bR hp.1 (by rw [hp.2.1]; omega)
    have hap : apOk d.length 1 = true := by rw [apOk_iff]; omega
    have hlt : ∀ x ∈ nR d, x < 256 := fun x hx => okR_lt hd hx
    have hnl : (nR d).length = d.length := nR_length d
    rw [show m + 1 = m.succ from rfl, pcalls_round, branch_of (by simpa using h1), branch_of (inR_nat h1), rowAt_nat h1, hr, branch_of (by rfl), nR_bR, wrap_succ (by omega)]
    simp only [List.tail_cons, List.drop_succ_cons, List.drop_zero, hdI, rwA]
    rw [branch_of (by rw [hbp, hby, cdec_iff.mpr ⟨hp, hl, by omega⟩]; rfl)]
    by_cases w0 : w = 0
    · subst w0
      rw [branch_of (by rfl), branch_of (by rw [hbp, hby, hap]; rfl)]
      cases ha : addP p (nR d) with
      | none => rw [oB_none, branch_false]; exact ih y p (by omega) (by omega) hp hl
      | some q => rw [oB_some, branch_true, oR_some]; exact ih _ q (by omega) (by omega) (hp.add hlt ha).1 (add_len hp hl hlt ha)
    rw [branch_not (by simpa using w0)]
    by_cases w1 : w = 1
    · subst w1
      rw [branch_of (by rfl), branch_of (by rw [hbp, hby, hap]; rfl)]
      cases ha : putP p s (nR d) with
      | none => rw [oB_none, branch_false]; exact ih y p (by omega) (by omega) hp hl
      | some q => rw [oB_some, branch_true, oR_some]; exact ih _ q (by omega) (by omega) (hp.put hlt (by omega) ha).1 (put_len hp hl hlt (by omega) ha)
    rw [branch_not (by simpa using w1)]
    by_cases w2 : w = 2
    · subst w2
      rw [branch_of (by rfl), branch_of hbp]
      cases ha : cutP p s with
      | none => rw [oB_none, branch_false]; exact ih y p (by omega) (by omega) hp hl
      | some q => rw [oB_some, branch_true, oR_some]; exact ih _ q (by omega) (by omega) (cutP_pg hp ha).1 (by have := (cutP_pg hp ha).2; omega)
    rw [branch_not (by simpa using w2)]
    exact ih y p (by omega) (by omega) hp hl
theorem pageCalls_true (z : Bool) (l : List (List AV)) (hc : Calls' l) (hl : l.length < 4611686018427387904) : ∃ F st, f7.run F [.ns z 3 l] ⟨[], []⟩ = some (.ret (.bool true), st) := by
  refine ⟨1000, ⟨[], []⟩, ?_⟩
  rw [pcalls_run, branch_of (hc.ok hl)]
  cases hg : greatB l with
  | true => rfl
  | false =>
    obtain ⟨z1, z2⟩ := zeros_pg
    have h100 := great_len hg
    obtain ⟨y', q, k1, k2, k3⟩ := pcalls_loop 1000 z l hc hg l.length 1000 0 false (List.replicate 256 0) (by omega) (by omega) z1 (by rw [z2]; simp)
    have hbp : byOk (bR q) = true := byOk_bR k1.1 (by rw [k1.2.1]; omega)
    rw [branch_false, zeroP_eq]
    refine Eq.trans k3 ?_
    rw [pcK, pcalls_out, nR_bR, branch_of (by rw [hbp, show byOk [] = true from by rw [byOk_iff]; exact ⟨rfl, by decide⟩, cdec_iff.mpr ⟨k1, k2, by decide⟩]; rfl)]
theorem pageCalls_law (as0 : List AV) (s0 : Ty.Shape tyCalls as0) : ∃ F st, f7.run F [tyCalls.AV' as0] ⟨[], []⟩ = some (.ret (.bool true), st) := by
  obtain ⟨z, l, rfl, h1, h2⟩ := calls_shape s0
  exact pageCalls_true z l h1 h2
end Go.Proofs.Ytblliolkgkgppaa.V
