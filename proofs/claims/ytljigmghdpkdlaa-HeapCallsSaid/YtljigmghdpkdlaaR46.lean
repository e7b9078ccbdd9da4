/- Merged out of 23 texts: what the claim's code comes to, and why. -/
import Derived.Test.YtljigmghdpkdlaaR45
set_option linter.unusedVariables false
set_option linter.unusedSimpArgs false
set_option maxRecDepth 100000
namespace Go.Proofs.Ytljigmghdpkdlaa.V
open Go Go.V Go.RowKit
theorem ref_loop (F : Nat) (z : Bool) (l : List (List AV)) (h : okS l = true) (h255 : l.length ≤ 255) : ∀ (k m i e : Nat) (p : List Nat), i + k = l.length → k < m → p.length = 256 → e ≤ 256 →
  ∃ p' : List Nat, p'.length = 256 ∧ loopRun (f60_l0.run F) [1, 4, 5, 6] (Cont.block 0 (Cont.then (f60_r0.run F (f60.leaveK Fun.done)) (f60.leaveK Fun.done))) m
   (Env.mk 76 [(1, .eptr [.ns z 1 l]), (4, .ms 0 1 0 256 256), (5, .int .i64 (e : Int)), (6, .int .i64 (i : Int))]) ⟨[.cells (bC p)], []⟩
   = some (.ret (bif ((sR l).drop i).all (fun o => decide (olen o ≤ 200)) && decide (1 + l.length + sumN ((sR l).drop i) ≤ e) then .tup [.ms 0 1 0 256 256, .bool true] else .tup [.nilsl, .bool false]), ⟨[.cells (bC p')], []⟩) ∧
   ((((sR l).drop i).all (fun o => decide (olen o ≤ 200)) && decide (1 + l.length + sumN ((sR l).drop i) ≤ e)) = true → p' = pgFold ((sR l).drop i) i p e)
 | k, 0, i, e, p, hi, hm, hp, he => by omega
 | 0, m + 1, i, e, p, hi, hm, hp, he => by
  have e1 : (sR l).drop i = [] := List.drop_eq_nil_of_le (by rw [sR_length]; omega)
  refine ⟨p, hp, ?_, fun _ => by rw [e1]; rfl⟩
  have w1 : IntKind.i64.wrap (1 + (l.length : Int)) = ((1 + l.length : Nat) : Int) := by rw [show 1 + (l.length : Int) = ((1 + l.length : Nat) : Int) by omega, wrap_nat (by omega)]
  rw [show m + 1 = m.succ from rfl, by_round, branch_not (by simp; omega), by_out, e1, w1]
  by_cases hc : 1 + l.length ≤ e
  ·have : (([] : Sl).all (fun o => decide (olen o ≤ 200)) && decide (1 + l.length + sumN [] ≤ e)) = true := by simp [sumN]; omega
   rw [this, branch_not (by rw [decide_eq_false_iff_not]; omega)]; rfl
  ·have : (([] : Sl).all (fun o => decide (olen o ≤ 200)) && decide (1 + l.length + sumN [] ≤ e)) = false := by simp [sumN]; omega
   rw [this, branch_of (by rw [decide_eq_true_eq]; omega)]; rfl
 | k + 1, m + 1, i, e, p, hi, hm, hp, he => by
  have h1 : i < l.length := by omega
  obtain ⟨l1, l2, l3, l4⟩ := okS_at h h1
  have hd : (sR l).drop i = slot (V.rowAt l (i : Int)) :: (sR l).drop (i + 1) := by rw [drop_at (by rw [sR_length]; exact h1), l3]
  rw [hd]
  have w0 := wrap_succ (i := i) (by omega)
  rw [show m + 1 = m.succ from rfl, by_round, branch_of (by simp; omega), branch_of (inR_nat h1), branch_of l1, w0]
  cases hn : nilA (V.rowAt l (i : Int)) with
  | true =>
   have hsl : slot (V.rowAt l (i : Int)) = none := by rw [slot, hn]; rfl
   obtain ⟨p', q901, q902, q903⟩ := ref_loop F z l h h255 k m (i + 1) e p (by omega) (by omega) hp he
   have e2 : ((none :: (sR l).drop (i + 1)).all (fun o => decide (olen o ≤ 200)) && decide (1 + l.length + sumN (none :: (sR l).drop (i + 1)) ≤ e)) = (((sR l).drop (i + 1)).all (fun o => decide (olen o ≤ 200)) && decide (1 + l.length + sumN ((sR l).drop (i + 1)) ≤ e)) := by
    rw [List.all_cons, sumN_cons, show olen none = 0 from rfl, Nat.zero_add]; rfl
   refine ⟨p', q901, ?_, ?_⟩
   ·rw [hsl, e2, branch_of (b := true) rfl]; exact q902
   ·rw [hsl, e2]; exact q903
  | false =>
   obtain ⟨b, hb, hr⟩ := rows_slot (byOk_iff.mp l2).1 hn
   have hob : olen (some b) = b.length := rfl
   have hbl : b.length < 4611686018427387904 := by have := (byOk_iff.mp l2).2; rw [hr, bR_length] at this; exact this
   have w2 : IntKind.i64.wrap ((e : Int) - (b.length : Int)) = (e : Int) - (b.length : Int) := wrapS (by omega) (by omega)
   have w1 : IntKind.i64.wrap (1 + (l.length : Int)) = ((1 + l.length : Nat) : Int) := by rw [show 1 + (l.length : Int) = ((1 + l.length : Nat) : Int) by omega, wrap_nat (by omega)]
   have w3 : IntKind.i64.wrap (1 + (i : Int)) = ((1 + i : Nat) : Int) := by rw [show 1 + (i : Int) = ((1 + i : Nat) : Int) by omega, wrap_nat (by omega)]
   rw [hb, hr, bR_length, branch_not (b := false) rfl, branch_of (inR_nat h1), branch_of l1, w2, w1, w3]
   have eF : ∀ c : Bool, c = false → ((some b :: (sR l).drop (i + 1)).all (fun o => decide (olen o ≤ 200)) && decide (1 + l.length + sumN (some b :: (sR l).drop (i + 1)) ≤ e)) = c →
     ∃ p' : List Nat, p'.length = 256 ∧ (some (Fin.ret (AV.tup [AV.nilsl, AV.bool false]), (⟨[.cells (bC p)], []⟩ : St)) : Ans) = some (.ret (bif ((some b :: (sR l).drop (i + 1)).all (fun o => decide (olen o ≤ 200)) && decide (1 + l.length + sumN (some b :: (sR l).drop (i + 1)) ≤ e)) then .tup [.ms 0 1 0 256 256, .bool true] else .tup [.nilsl, .bool false]), ⟨[.cells (bC p')], []⟩) ∧
     (((some b :: (sR l).drop (i + 1)).all (fun o => decide (olen o ≤ 200)) && decide (1 + l.length + sumN (some b :: (sR l).drop (i + 1)) ≤ e)) = true → p' = pgFold (some b :: (sR l).drop (i + 1)) i p e) := by
    intro c hc hcc
    subst hc
    exact ⟨p, hp, by rw [hcc]; rfl, fun e => by rw [hcc] at e; cases e⟩
   by_cases g901 : b.length ≤ 200
   ·rw [branch_not (by rw [decide_eq_false_iff_not]; omega)]
    by_cases g902 : b.length + (1 + l.length) ≤ e
    ·have w4 : (e : Int) - (b.length : Int) = ((e - b.length : Nat) : Int) := by omega
     have w5 : IntKind.u8.wrap (IntKind.i64.wrap ((b.length : Int) + 1)) = ((b.length + 1 : Nat) : Int) := by
      rw [wrap_succ (by omega)]
      exact wrapU rfl (by omega) (by simp only [IntKind.bits]; omega)
     have hpl : 1 + i < p.length := by omega
     have hsl : (p.set (1 + i) (b.length + 1)).length = 256 := by rw [List.length_set]; exact hp
     have e2 : ((some b :: (sR l).drop (i + 1)).all (fun o => decide (olen o ≤ 200)) && decide (1 + l.length + sumN (some b :: (sR l).drop (i + 1)) ≤ e)) = (((sR l).drop (i + 1)).all (fun o => decide (olen o ≤ 200)) && decide (1 + l.length + sumN ((sR l).drop (i + 1)) ≤ e - b.length)) := by
      rw [List.all_cons, sumN_cons, hob, decide_eq_true g901, Bool.true_and]
      congr 1
      exact decide_eq_decide.mpr (by omega)
     have hlt : (e - b.length) ≤ 256 := by omega
     have hlen2 : (putN (p.set (1 + i) (b.length + 1)) (e - b.length) b).length = 256 := by rw [putN_length (by omega)]; exact hsl
     obtain ⟨p', q901, q902, q903⟩ := ref_loop F z l h h255 k m (i + 1) (e - b.length) (putN (p.set (1 + i) (b.length + 1)) (e - b.length) b) (by omega) (by omega) hlen2 hlt
     refine ⟨p', q901, ?_, ?_⟩
     ·rw [e2, branch_not (by rw [decide_eq_false_iff_not]; omega), w4, w5, if_pos ⟨by omega, by omega⟩, Int.toNat_natCast, Int.toNat_natCast, Nat.zero_add, Nat.mul_one, Nat.zero_add, Nat.mul_one, branch_of (by rw [Bool.true_and, inC_iff, bC_length]; omega), if_pos ⟨by omega, by omega⟩, setC_byte hpl]
      by_cases hlt2 : e - b.length < 256
      ·have hmin : minN b.length (256 - (e - b.length)) = b.length := by rw [minN, opq_eq]; omega
       rw [if_pos hlt2, branch_of (inR_nat h1), branch_of l1, hmin, mulN, opq_eq, Nat.mul_one, branch_of (by rw [inC_iff, bC_length]; omega), flC_bR, List.take_of_length_le (Nat.le_refl _), setC_bC (by omega)]
       exact q902
      ·have hb0 : b = [] := List.eq_nil_of_length_eq_zero (by omega)
       subst hb0
       rw [putN_nil] at q902
       rw [if_neg hlt2, branch_of (inR_nat h1), branch_of l1]
       exact q902
     ·rw [e2]; exact q903
    ·rw [branch_of (by rw [decide_eq_true_eq]; omega), by_ret]
     refine eF false rfl ?_
     rw [Bool.and_eq_false_iff]
     refine .inr ?_
     rw [sumN_cons, hob, decide_eq_false_iff_not]; omega
   ·rw [branch_of (by rw [decide_eq_true_eq]; omega), by_ret]
    refine eF false rfl ?_
    rw [List.all_cons, hob, decide_eq_false g901]; rfl
theorem ref_bytes (z : Bool) (l : List (List AV)) (h : okS l = true) : ∃ p' : List Nat, p'.length = 256 ∧ f60.run (l.length + 1) [.agg [.ns z 1 l]] ⟨[], []⟩ = some (.ret (bif pgOk (sR l) then .tup [.ms 0 1 0 256 256, .bool true] else .tup [.nilsl, .bool false]), ⟨[.cells (bC p')], []⟩) ∧ (pgOk (sR l) = true → p' = pgB (sR l)) := by
 have hz : (List.replicate 256 0).length = 256 := List.length_replicate
 rw [by_run, branch_of (by rw [mkOk_iff]; exact ⟨by decide, by decide⟩), zerC_byte]
 by_cases h255 : l.length ≤ 255
 ·have w1 : IntKind.u8.wrap (l.length : Int) = ((l.length : Nat) : Int) := wrapU rfl (by omega) (by simp only [IntKind.bits]; omega)
  obtain ⟨p', q901, q902, q903⟩ := ref_loop (l.length + 1) z l h h255 l.length (l.length + 1) 0 256 ((List.replicate 256 0).set 0 l.length) (by omega) (by omega) (by rw [List.length_set]; exact hz) (Nat.le_refl _)
  rw [List.drop_zero] at q902 q903
  have e : ((sR l).all (fun o => decide (olen o ≤ 200)) && decide (1 + l.length + sumN (sR l) ≤ 256)) = pgOk (sR l) := by
   rw [pgOk, szN, sR_length, Bool.and_comm]
  rw [e] at q902 q903
  refine ⟨p', q901, ?_, fun hh => by rw [q903 hh, pgB, sR_length]⟩
  rw [branch_not (by rw [decide_eq_false_iff_not]; omega), branch_of (by rw [Bool.true_and, inC_iff, bC_length, hz]; omega), w1, setC_byte (by rw [hz]; omega)]
  exact q902
 ·have e : pgOk (sR l) = false := by simp only [pgOk, szN, sR_length, Bool.and_eq_false_iff]; left; rw [decide_eq_false_iff_not]; omega
  refine ⟨List.replicate 256 0, hz, ?_, fun hh => by rw [e] at hh; cases hh⟩
  rw [branch_of (by rw [decide_eq_true_eq]; omega), e]; rfl
noncomputable def q60 : OrcQ Try.prog := f60.farR
 (fun args st k => match args with
  | [.agg [x]] => onNsQ 1 x st fun _ l => ifT (okS l) (k (.tup [.ns (!pgOk (sR l)) 1 (pgR l), .bool (pgOk (sR l))]))
  | _ => none)
 fun args st k fin h => by
  split at h
  ·rename_i x
   obtain ⟨z, l, h, hx⟩ := onNsQ_spec h
   obtain ⟨h1, h⟩ := ifT_spec h
   obtain ⟨p', q901, q902, q903⟩ := ref_bytes z l h1
   refine ⟨_, _, h, .cons (.agg (.cons (hx (okS_scoped (okS_iff.mp h1).1)) .nil)) .nil, l.length + 1, _, _, q902, ?_⟩
   cases e : pgOk (sR l) with
   | false =>
    refine ⟨fun y hy => ?_, ⟨trivial, trivial, trivial⟩, ?_⟩
    ·simp only [cond_false, List.mem_cons, List.not_mem_nil, or_false] at hy
     rcases hy with rfl | rfl <;> trivial
    ·rw [pgR_no e]
     exact .tup (.cons .nil (.cons (.refl _) .nil))
   | true =>
    have hh : hard [Ob.cells (bC p')] (.tup [.ms 0 1 0 256 256, .bool true]) = .tup [.sl 1 true (bR p'), .bool true] := by
     simp only [hard, hardL, List.getElem?_cons_zero, List.drop_zero]
     rw [rowsOf_bC 256 _ (by rw [q901]; exact Nat.le_refl _), List.take_of_length_le (by rw [q901]; exact Nat.le_refl _)]
     rfl
    refine ⟨fun y hy => ?_, ?_, ?_⟩
    ·simp only [cond_true, List.mem_cons, List.not_mem_nil, or_false] at hy
     rcases hy with rfl | rfl
     ·exact ⟨_, rfl, bC_flat _⟩
     ·trivial
    ·rw [cond_true, hh]; exact ⟨bR_scoped _, trivial, trivial⟩
    ·rw [cond_true, hh, pgR_ok e, q903 e]
     exact .tup (.cons .sl (.cons (.refl _) .nil))
  ·cases h
theorem rt_loop (F v : Nat) (cs : List AV) (os : List Ob) : ∀ (m n : Nat), okV n cs = true → n < m →
  loopRun (f78_l0.run F) [0] (Cont.block 0 (Cont.then (f78_r0.run F (f78.leaveK Fun.done)) (f78.leaveK Fun.done))) m (Env.mk 21 [(0, .vs 0 v 1 n)]) ⟨.vec v cs :: os, []⟩ = some (.ret (.vs 0 v 1 (trR (cR (cs.take n))).length), ⟨.vec v cs :: os, []⟩)
 | 0, n, h, hn => by omega
 | m + 1, 0, h, hn => by
  rw [show m + 1 = m.succ from rfl, rt_round, branch_not (by simp), rt_out, List.take_zero, show cR [] = [] from rfl, trR_nil]; rfl
 | m + 1, n + 1, h, hn => by
  obtain ⟨h1, h2⟩ := okV_iff.mp h
  have h0 : n < cs.length := by omega
  have hlen : (cR (cs.take (n + 1))).length = n + 1 := by rw [cR_length, List.length_take]; omega
  have hb := (okS_iff.mp h2).2
  rw [hlen] at hb
  have hw : IntKind.i64.wrap (((n + 1 : Nat) : Int) - 1) = ((n : Nat) : Int) := by
   rw [show ((n + 1 : Nat) : Int) - 1 = ((n : Nat) : Int) by omega, wrap_nat (by omega)]
  have hi : n < (cR (cs.take (n + 1))).length := by omega
  obtain ⟨k1, k2, k3, k4⟩ := okS_at h2 hi
  have hr : V.rowAt (cR (cs.take (n + 1))) ((n : Nat) : Int) = [cs[n]] := by rw [rowAt_nat hi]; simp [cR]
  rw [hr] at k1
  rw [show m + 1 = m.succ from rfl, rt_round, branch_of (by simp), hw, if_pos ⟨by omega, by omega⟩, branch_of (Nat.beq_refl v), Int.toNat_natCast, Nat.mul_one, is_at h0, branch_of k1, nilA_at h0, cR_snoc h0, trR_snoc]
  cases hx : nilA [cs[n]] with
  | false =>
   rw [branch_not rfl, rt_out, cond_false, List.length_append, cR_length, List.length_take, Nat.min_eq_left (by omega)]; rfl
  | true =>
   rw [branch_true, if_pos ⟨by omega, by omega⟩, cond_true]
   refine rt_loop F v cs os m n (okV_iff.mpr ⟨by omega, okS_sub h2 (fun y hy => ?_) ?_⟩) (by omega)
   ·rw [cR_snoc h0]; exact List.mem_append_left _ hy
   ·rw [hlen, cR_length, List.length_take]; omega
theorem okS_near {n : Nat} : ∀ {cs : List AV}, okS (cR cs) = true → (∀ c ∈ cs, (c = .nilsl ∨ ∃ f l, c = .sl 1 f l) ∨ ∃ z l, c = .ns z 1 l) → NearL n cs
 | [], _, _ => trivial
 | c :: cs, h, hc => by
  have h2 : okS (cR cs) = true := okS_sub h (fun x hx => by simp only [cR, List.map_cons]; exact List.mem_cons_of_mem _ hx) (by simp [cR])
  have h3 := okS_near (n := n) h2 fun x hx => hc x (List.mem_cons_of_mem _ hx)
  have h4 := ((okS_iff.mp h).1 [c] (by simp [cR])).1
  have h5 := okSlot_spec h4
  refine ⟨?_, h3⟩
  rcases hc c List.mem_cons_self with (rfl | ⟨f, l, rfl⟩) | ⟨z, l, rfl⟩
  ·trivial
  ·exact okR_scoped (l := l) h5.2.1
  ·exact okR_scoped (l := l) h5.2.1
def slC (c : AV) : Bool := match c with
 | .nilsl => true
 | .sl s _ _ => Nat.beq s 1
 | .ns _ s _ => Nat.beq s 1
 | _ => false
theorem slC_spec {c : AV} (h : slC c = true) : (c = .nilsl ∨ ∃ f l, c = .sl 1 f l) ∨ ∃ z l, c = .ns z 1 l := by
 unfold slC at h
 split at h
 ·exact .inl (.inl rfl)
 ·obtain rfl := Nat.eq_of_beq_eq_true h; exact .inl (.inr ⟨_, _, rfl⟩)
 ·obtain rfl := Nat.eq_of_beq_eq_true h; exact .inr ⟨_, _, rfl⟩
 ·cases h
def slA : ADT (Nat × List AV) where
 m := 1
 p := 0
 hp := by decide
 obs := fun x => [.vec x.1 x.2]
 Ok := fun x => okS (cR x.2) = true ∧ x.2.all slC = true
 len := fun _ => rfl
 near := fun x h o ho => by
  simp only [List.mem_cons, List.not_mem_nil, or_false] at ho
  subst ho
  exact okS_near h.1 fun c hc => slC_spec (List.all_eq_true.mp h.2 c hc)
 inj := fun x y _ _ h => by
  simp only [List.cons.injEq, Ob.vec.injEq, and_true] at h
  exact Prod.ext h.1 h.2
theorem slA_here {st : St} {j v : Nat} {cs : List AV} (ho : st.objs[j]? = some (.vec v cs)) (h : okS (cR cs) = true ∧ cs.all slC = true) : slA.Here st j (v, cs) := by
 have hl := getElem?_lt ho
 refine ⟨h, by show j + 1 ≤ _; omega, ?_⟩
 have hn : NearO 0 (.vec v cs) := okS_near h.1 fun c hc => slC_spec (List.all_eq_true.mp h.2 c hc)
 have e : renO (sh j) (.vec v cs) = .vec v cs := by
  rw [renO_near (n := 0) (ρ := sh j) (τ := fun k => k) (fun k hk => by omega) _ hn, renO_id]
 show (st.objs.drop j).take 1 = [renO (sh j) (.vec v cs)]
 rw [e, List.drop_eq_getElem_cons hl, List.take_succ_cons, List.take_zero]
 rw [List.getElem?_eq_getElem hl] at ho
 rw [Option.some.inj ho]
noncomputable def q78 : OrcQ Try.prog := f78.byQ
 (fun args st k => match args with
  | [.nilsl] => k .nilsl
  | [.vs j v s n] => match st.objs[j]? with
   | some (.vec v' cs) => ifT (Nat.beq s 1 && (Nat.beq v v' && (okS (cR cs) && (cs.all slC && cdec (n ≤ cs.length))))) (k (.vs j v 1 (trN n cs)))
   | _ => none
  | _ => none)
 fun args st k fin h => by
  split at h
  ·refine ⟨_, h, ?_⟩
   have := framed (st := st) (f78.sound (F := 1) (args := [.nilsl]) (st := ⟨[], []⟩) (fin := (.ret .nilsl, ⟨[], []⟩)) (by rw [rt_nil]; exact rt_nilr 1 0 _)) ⟨trivial, trivial⟩ trivial
   exact this
  ·rename_i j v s n
   split at h
   ·rename_i v' cs ho
    obtain ⟨h1, h2⟩ := ifT_spec h
    simp only [Bool.and_eq_true, cdec_iff] at h1
    obtain ⟨e1, e2, e3, e4, e5⟩ := h1
    obtain rfl := Nat.eq_of_beq_eq_true e1
    obtain rfl := Nat.eq_of_beq_eq_true e2
    refine ⟨_, h2, ?_⟩
    have hd := slA_here ho ⟨e3, e4⟩
    have hv : okV n cs = true := okV_iff.mpr ⟨e5, okS_sub e3 (fun y hy => by
     simp only [cR, List.mem_map] at hy ⊢
     obtain ⟨c, hc, rfl⟩ := hy
     exact ⟨c, List.mem_of_mem_take hc, rfl⟩) (by simp [cR]; omega)⟩
    have := ADT.placed (A := slA) (f := f78) (F := n + 1) (x := (v, cs)) (y := (v, cs)) (args0 := [.vs 0 v 1 n]) (r := .vs 0 v 1 (trN n cs)) (xs := []) (by
     show f78.run (n + 1) [.vs 0 v 1 n] ⟨[.vec v cs], []⟩ = some (.ret (.vs 0 v 1 (trN n cs)), ⟨[.vec v cs] ++ [], []⟩)
     rw [rt_runv, trN, opq_eq]
     exact rt_loop (n + 1) v cs [] (n + 1) n hv (by omega)) ⟨e3, e4⟩ ⟨by show 0 < 1; omega, trivial⟩ (by show 0 < 1; omega) hd
    rw [hd.same] at this
    exact this
   ·cases h
  ·cases h
theorem q78_nat : q78.NatQ := by
 intro args st k
 simp only [q78, Fun.byQ]
 split
 ·rfl
 ·split
  ·exact ifT_nat rfl
  ·rfl
 ·rfl
theorem ze91 : (Try.prog.info? 91).bind (·.zero) = some (.agg #[(.slice none 0 0)]) := by kernel_rfl
theorem sz91 : (Try.prog.info? 91).map (·.size) = some 1 := by kernel_rfl
noncomputable abbrev d91 : TypeDesc := (Try.prog.underlying 91).getD .bool
theorem ud91 : Try.prog.underlying 91 = some d91 := by kernel_rfl
noncomputable def f84_l0 : Sim Try.prog :=
 (.seq (.seq (.live [1, 2, 6, 7, 19] (.region 3 [
 ⟨(opFieldAddr (some 15) 91 (.tmp 7) 0 0 1 false fl91_0 (by decide) 0 "ref.go:86" #[]).op, none⟩,
 ⟨(opLoadT (.one .any) (some 16) 22 (.tmp 15) (.slice 34) Try.underlying22 1 sz22 (by kernel_rfl) 22 "ref.go:86" #[eD 0]).op, none⟩,
 ⟨(opLen (some 17) (.tmp 16) 22 (.slice 34) Try.underlying22 3 "ref.go:86" #[eD 1]).op, none⟩,
 ⟨(opMove (some 18) (.tmp 1) 3 "ref.go:86" #[]).op, none⟩,
 ⟨(opBin (some 19) .leq 3 (.tmp 17) (.tmp 18) 3 4 "ref.go:86" #[eD 2, eD 3]).op, none⟩
 ] (by kernel_rfl)))
 (.cond (.tmp 19)
 .skip
 (.live [1, 2, 6, 7] (.exit 0))))
 (.block 1 (.live [1, 2, 6, 7] (.region 4 [
 ⟨(opFieldAddr (some 20) 91 (.tmp 7) 0 0 1 false fl91_0 (by decide) 0 "ref.go:87" #[]).op, none⟩,
 ⟨(opLoadT (.one .any) (some 21) 22 (.tmp 20) (.slice 34) Try.underlying22 1 sz22 (by kernel_rfl) 22 "ref.go:87" #[eD 0]).op, none⟩,
 ⟨(opBuildSlice (some 22) 22 1 [(0, (.const (Value.slice none 0 0)))] 34 1 24 (.slice none 0 0) el22 (by kernel_rfl) (by decide) 22 "ref.go:87" #[]).op, none⟩,
 ⟨(opAppendR none 2 (some 23) (.tmp 21) (.tmp 22) 22 22 34 1 24 (.slice none 0 0) el22 (.slice 34) Try.underlying22 rfl 22 "ref.go:87" #[eD 1, eD 2]).op, none⟩,
 ⟨(opFieldAddr (some 24) 91 (.tmp 7) 0 0 1 false fl91_0 (by decide) 0 "ref.go:87" #[eP 0, eP 1, eP 2, eP 3]).op, none⟩,
 ⟨(opStore none 22 (.tmp 24) (.tmp 23) 1 sz22 0 "ref.go:87" #[eD 4, eD 3, eC 3, eP 0, eP 1, eP 2, eP 3]).op, none⟩
 ] (by kernel_rfl)))))
noncomputable def f84_r0 : Sim Try.prog :=
 (.seq (.live [6, 7] (.region 5 [
 ⟨(opFieldAddr (some 25) 91 (.tmp 7) 0 0 1 false fl91_0 (by decide) 0 "ref.go:89" #[]).op, none⟩,
 ⟨(opLoadT (.one .any) (some 26) 22 (.tmp 25) (.slice 34) Try.underlying22 1 sz22 (by kernel_rfl) 22 "ref.go:89" #[eD 0]).op, none⟩,
 ⟨(opMove (some 27) (.tmp 1) 3 "ref.go:89" #[]).op, none⟩,
 ⟨(opMove (some 28) (.tmp 2) 34 "ref.go:89" #[]).op, none⟩,
 ⟨(opIndexAddrT (some 29) 22 (.tmp 26) (.tmp 27) 34 1 Try.underlying22 sz34 0 "ref.go:89" #[eD 1, eD 2, eP 0, eP 1, eP 2, eP 3]).op, none⟩,
 ⟨(opStoreC none 34 (.tmp 29) (.tmp 28) 1 sz34 0 "ref.go:89" #[eD 4, eD 3, eP 0, eP 1, eP 2, eP 3]).op, none⟩
 ] (by kernel_rfl)))
 (.seq (.live [6, 7] (.region 6 [
 ⟨(opFieldAddr (some 30) 91 (.tmp 7) 0 0 1 false fl91_0 (by decide) 0 "ref.go:90" #[]).op, none⟩,
 ⟨(opLoadT (.one .any) (some 31) 22 (.tmp 30) (.slice 34) Try.underlying22 1 sz22 (by kernel_rfl) 22 "ref.go:90" #[eD 0]).op, none⟩,
 ⟨(opCallQ q78 (some 32) [(.tmp 31)] #[22] 22 "ref.go:90" #[eD 1]).op, none⟩,
 ⟨(opFieldAddr (some 33) 91 (.tmp 7) 0 0 1 false fl91_0 (by decide) 0 "ref.go:90" #[eP 0, eP 1, eP 2]).op, none⟩,
 ⟨(opStore none 22 (.tmp 33) (.tmp 32) 1 sz22 0 "ref.go:90" #[eD 3, eD 2, eC 2, eP 0, eP 1, eP 2]).op, none⟩
 ] (by kernel_rfl)))
 (.seq (.live [6] (.region 7 [
 ⟨(opLoadT (.agg [.any]) (some 34) 91 (.tmp 7) d91 ud91 1 sz91 (by kernel_rfl) 91 "ref.go:91" #[]).op, none⟩,
 ⟨(opStore none 91 (.tmp 6) (.tmp 34) 1 sz91 0 "ref.go:91" #[eD 0, eP 0]).op, none⟩
 ] (by kernel_rfl)))
 (.live [6] .ret))))
noncomputable def f84_b : Sim Try.prog :=
 (.seq (.live [1, 2, 3, 6] (.region 0 [
 ⟨(opBoxF (some 3) 91 (.tmp 0) 0 "ref.go:83" #[]).op, none⟩,
 ⟨(opAlloc (some 6) 91 (.agg #[(.slice none 0 0)]) ze91 0 "ref.go:83" #[]).op, none⟩
 ] (by kernel_rfl)))
 (.seq (.live [1, 2, 3, 6, 7] (.region 1 [
 ⟨(opBuild (some 8) 91 #[(.slice none 0 0)] [] ze91 (by kernel_rfl) 91 "ref.go:84" #[]).op, none⟩,
 ⟨(MSim.ph (opAlloc (some 7) 91 (.agg #[(.slice none 0 0)]) ze91 0 "ref.go:84" #[]) 1).op, none⟩,
 ⟨(opStore none 91 (.tmp 7) (.tmp 8) 1 sz91 0 "ref.go:84" #[eD 1, eD 0, eP 0, eP 1]).op, none⟩
 ] (by kernel_rfl)))
 (.seq (.live [1, 2, 6, 7] (.region 2 [
 ⟨(opFieldAddr (some 9) 91 (.tmp 7) 0 0 1 false fl91_0 (by decide) 0 "ref.go:85" #[]).op, none⟩,
 ⟨(opLoadT (.one .any) (some 10) 22 (.tmp 9) (.slice 34) Try.underlying22 1 sz22 (by kernel_rfl) 22 "ref.go:85" #[eD 0]).op, none⟩,
 ⟨(opFieldAddr (some 11) 91 (.tmp 3) 0 0 1 false fl91_0 (by decide) 0 "ref.go:85" #[]).op, none⟩,
 ⟨(opLoadT (.one .any) (some 12) 22 (.tmp 11) (.slice 34) Try.underlying22 1 sz22 (by kernel_rfl) 22 "ref.go:85" #[eD 2]).op, none⟩,
 ⟨(opAppendR none 2 (some 13) (.tmp 10) (.tmp 12) 22 22 34 1 24 (.slice none 0 0) el22 (.slice 34) Try.underlying22 rfl 22 "ref.go:85" #[eD 1, eD 3]).op, none⟩,
 ⟨(opFieldAddr (some 14) 91 (.tmp 7) 0 0 1 false fl91_0 (by decide) 0 "ref.go:85" #[eP 0, eP 1, eP 2, eP 3, eP 4]).op, none⟩,
 ⟨(opStore none 22 (.tmp 14) (.tmp 13) 1 sz22 0 "ref.go:85" #[eD 5, eD 4, eC 4, eP 0, eP 1, eP 2, eP 3, eP 4]).op, none⟩
 ] (by kernel_rfl)))
 (.seq (.block 0 (.loop [1, 2, 6, 7] f84_l0))
 f84_r0))))
noncomputable def f84 : Fun Try.prog where
 id := 84
 fn := Try.f84
 hf := Try.func84
 hname := by kernel_rfl
 body := f84_b
 hbody := by kernel_rfl
 res := [rCell 6 91 d91 ud91 1 sz91]
 hres := by kernel_rfl
 n := 35
 hn := by kernel_rfl
noncomputable def f81_b : Sim Try.prog :=
 (.seq (.live [1, 2] (.region 0 [
 ⟨(opBoxF (some 2) 91 (.tmp 0) 0 "ref.go:75" #[]).op, none⟩,
 ⟨(opAssign (some 4) (.const (Value.slice none 0 0)) 34 "ref.go:75" #[]).op, none⟩,
 ⟨(opAssign (some 5) (.const (Value.bool false)) 4 "ref.go:75" #[eC 1]).op, none⟩
 ] (by kernel_rfl)))
 (.seq (.seq (.live [1, 2, 22] (.region 1 [
 ⟨(opMove (some 6) (.tmp 1) 3 "ref.go:76" #[]).op, none⟩,
 ⟨(opBin (some 7) .lss 3 (.tmp 6) (.const (Value.int IntKind.i64 0)) 3 4 "ref.go:76" #[eD 0]).op, none⟩,
 ⟨(opMove (some 8) (.tmp 7) 4 "ref.go:76" #[eD 1]).op, none⟩,
 ⟨(opMove (some 9) (.tmp 1) 3 "ref.go:76" #[eG 2]).op, (some (2, 8, false))⟩,
 ⟨(opFieldAddr (some 10) 91 (.tmp 2) 0 0 1 false fl91_0 (by decide) 0 "ref.go:76" #[eG 2]).op, (some (2, 8, false))⟩,
 ⟨(opLoadT (.one .any) (some 11) 22 (.tmp 10) (.slice 34) Try.underlying22 1 sz22 (by kernel_rfl) 22 "ref.go:76" #[eD 4, eG 2]).op, (some (2, 8, false))⟩,
 ⟨(opLen (some 12) (.tmp 11) 22 (.slice 34) Try.underlying22 3 "ref.go:76" #[eD 5, eG 2]).op, (some (2, 8, false))⟩,
 ⟨(opBin (some 13) .geq 3 (.tmp 9) (.tmp 12) 3 4 "ref.go:76" #[eD 3, eD 6, eG 2]).op, (some (2, 8, false))⟩,
 ⟨(opPick (some 14) (.tmp 8) (.const (Value.bool true)) (.tmp 13) 4 "ref.go:76" #[eD 2, eD 7]).op, none⟩,
 ⟨(opMove (some 15) (.tmp 14) 4 "ref.go:76" #[eD 8, eC 2]).op, none⟩,
 ⟨(opFieldAddr (some 16) 91 (.tmp 2) 0 0 1 false fl91_0 (by decide) 0 "ref.go:76" #[eG 9]).op, (some (9, 15, false))⟩,
 ⟨(opLoadT (.one .any) (some 17) 22 (.tmp 16) (.slice 34) Try.underlying22 1 sz22 (by kernel_rfl) 22 "ref.go:76" #[eD 10, eG 9]).op, (some (9, 15, false))⟩,
 ⟨(opMove (some 18) (.tmp 1) 3 "ref.go:76" #[eG 9]).op, (some (9, 15, false))⟩,
 ⟨(opIndexAddrT (some 19) 22 (.tmp 17) (.tmp 18) 34 1 Try.underlying22 sz34 0 "ref.go:76" #[eD 11, eD 12, eG 9]).op, (some (9, 15, false))⟩,
 ⟨(opLoadT (.one (.ns 1)) (some 20) 34 (.tmp 19) (.slice 5) Try.underlying34 1 sz34 (by kernel_rfl) 34 "ref.go:76" #[eD 13, eG 9]).op, (some (9, 15, false))⟩,
 ⟨(opEq (some 21) 34 (.slice 5) Try.underlying34 (.tmp 20) (.const (Value.slice none 0 0)) (.inl rfl) 34 4 "ref.go:76" #[eD 14, eG 9]).op, (some (9, 15, false))⟩,
 ⟨(opPick (some 22) (.tmp 15) (.const (Value.bool true)) (.tmp 21) 4 "ref.go:76" #[eD 9, eD 15]).op, none⟩
 ] (by kernel_rfl)))
 (.cond (.tmp 22)
 (.seq (.live [4, 5] (.region 2 [
 ⟨(opAssign (some 4) (.const (Value.slice none 0 0)) 34 "ref.go:77" #[]).op, none⟩,
 ⟨(opAssign (some 5) (.const (Value.bool false)) 4 "ref.go:77" #[eC 0, eP 0]).op, none⟩
 ] (by kernel_rfl)))
 (.live [4, 5] .ret))
 .skip))
 (.seq (.live [4, 5] (.region 3 [
 ⟨(opFieldAddr (some 23) 91 (.tmp 2) 0 0 1 false fl91_0 (by decide) 0 "ref.go:79" #[]).op, none⟩,
 ⟨(opLoadT (.one .any) (some 24) 22 (.tmp 23) (.slice 34) Try.underlying22 1 sz22 (by kernel_rfl) 22 "ref.go:79" #[eD 0]).op, none⟩,
 ⟨(opMove (some 25) (.tmp 1) 3 "ref.go:79" #[]).op, none⟩,
 ⟨(opIndexAddrT (some 26) 22 (.tmp 24) (.tmp 25) 34 1 Try.underlying22 sz34 0 "ref.go:79" #[eD 1, eD 2]).op, none⟩,
 ⟨(opLoadT (.one (.ns 1)) (some 27) 34 (.tmp 26) (.slice 5) Try.underlying34 1 sz34 (by kernel_rfl) 34 "ref.go:79" #[eD 3]).op, none⟩,
 ⟨(opAssign (some 4) (.tmp 27) 34 "ref.go:79" #[eD 4, eP 0, eP 1, eP 2, eP 3, eP 4]).op, none⟩,
 ⟨(opAssign (some 5) (.const (Value.bool true)) 4 "ref.go:79" #[eC 5, eP 0, eP 1, eP 2, eP 3, eP 4, eP 5]).op, none⟩
 ] (by kernel_rfl)))
 (.live [4, 5] .ret))))
noncomputable def f81 : Fun Try.prog where
 id := 81
 fn := Try.f81
 hf := Try.func81
 hname := by kernel_rfl
 body := f81_b
 hbody := by kernel_rfl
 res := [rTmp 4, rTmp 5]
 hres := by kernel_rfl
 n := 28
 hn := by kernel_rfl
theorem rw_run (F : Nat) (z : Bool) (l : List (List AV)) (i : Int) (b : AV) :
 (f84.run F [.agg [.ns z 1 l], .int .i64 i, b] ⟨[], []⟩ : Ans) =
 branch (.bool (apOk l.length 24))
 (branch (.bool (l.length.beq 0))
 (loopRun (f84_l0.run F) [1, 2, 6, 7]
 (Cont.block 0 (Cont.then (f84_r0.run F (f84.leaveK Fun.done)) (f84.leaveK Fun.done))) F
 (Env.mk 35
 [(1, .int .i64 i), (2, b), (6, AV.ptr 0 0),
 (7, AV.ptr 1 0)])
 (St.mk [Ob.cells [AV.nilsl], Ob.cells [AV.nilsl], Ob.nov 0] []))
 (loopRun (f84_l0.run F) [1, 2, 6, 7]
 (Cont.block 0 (Cont.then (f84_r0.run F (f84.leaveK Fun.done)) (f84.leaveK Fun.done))) F
 (Env.mk 35
 [(1, .int .i64 i), (2, b), (6, AV.ptr 0 0),
 (7, AV.ptr 1 0)])
 (St.mk
 [Ob.cells [AV.nilsl], Ob.cells [AV.vs 2 1 1 l.length],
 Ob.vec 1 (catC [] 0 l)]
 [])))
 none := by kernel_rfl
theorem rw_round0 (F m : Nat) (K : Cont) (i : Int) (b : AV) (x : Ob) :
 (loopRun (f84_l0.run F) [1, 2, 6, 7] K m.succ (Env.mk 35 [(1, .int .i64 i), (2, b), (6, .ptr 0 0), (7, .ptr 1 0)]) ⟨[x, .cells [.nilsl], .nov 0], []⟩ : Ans) =
 branch (.bool (decide ((0 : Int) ≤ i)))
 (branch (.bool (apOk 1 24))
 (loopRun (f84_l0.run F) [1, 2, 6, 7] K m
 (Env.mk 35
 [(1, .int .i64 i), (2, b), (6, AV.ptr 0 0),
 (7, AV.ptr 1 0)])
 (St.mk
 [x, Ob.cells [AV.vs 2 1 1 1], Ob.vec 1 (catC [] 0 [[AV.nilsl]])]
 []))
 none)
 (K (AX.exit 0)
 (Env.mk 35
 [(1, .int .i64 i), (2, b), (6, AV.ptr 0 0),
 (7, AV.ptr 1 0)])
 (St.mk [x, Ob.cells [AV.nilsl], Ob.nov 0] [])) := by kernel_rfl
theorem rw_round (F m : Nat) (K : Cont) (i : Int) (b : AV) (x : Ob) (v n : Nat) (cs : List AV) :
 (loopRun (f84_l0.run F) [1, 2, 6, 7] K m.succ (Env.mk 35 [(1, .int .i64 i), (2, b), (6, .ptr 0 0), (7, .ptr 1 0)]) ⟨[x, .cells [.vs 2 v 1 n], .vec v cs], []⟩ : Ans) =
 branch (.bool (decide ((↑n : Int) ≤ i)))
 (branch (.bool (v.beq v && (inC cs 0 (mulN n 1) && apOk (n + 1) 24)))
 (loopRun (f84_l0.run F) [1, 2, 6, 7] K m
 (Env.mk 35
 [(1, .int .i64 i), (2, b), (6, AV.ptr 0 0),
 (7, AV.ptr 1 0)])
 (St.mk
 [x, Ob.cells [AV.vs 2 (v + 1) 1 (n + 1)],
 Ob.vec (v + 1) (catC cs (mulN n 1) [[AV.nilsl]])]
 []))
 none)
 (K (AX.exit 0)
 (Env.mk 35
 [(1, .int .i64 i), (2, b), (6, AV.ptr 0 0),
 (7, AV.ptr 1 0)])
 (St.mk [x, Ob.cells [AV.vs 2 v 1 n], Ob.vec v cs] [])) := by kernel_rfl
theorem rg_run (F : Nat) (z : Bool) (l : List (List AV)) (i : Int) :
 (f81.run F [.agg [.ns z 1 l], .int .i64 i] ⟨[], []⟩ : Ans) =
 branch (.bool (decide (i < 0))) (some (Fin.ret (AV.tup [AV.nilsl, AV.bool false]), St.mk [] []))
 (branch (.bool (decide (i ≥ (↑l.length : Int)))) (some (Fin.ret (AV.tup [AV.nilsl, AV.bool false]), St.mk [] []))
 (branch (.bool (inR l i))
 (branch (.bool ((LD.one (LT.ns 1)).is (V.rowAt l i)))
 (branch (.bool (nilA (V.rowAt l i))) (some (Fin.ret (AV.tup [AV.nilsl, AV.bool false]), St.mk [] []))
 (branch (.bool (inR l i))
 (branch (.bool ((LD.one (LT.ns 1)).is (V.rowAt l i)))
 (some
 (Fin.ret (AV.tup [AV.ns (nilA (V.rowAt l i)) 1 (rwA (V.rowAt l i)), AV.bool true]),
 St.mk [] []))
 none)
 none))
 none)
 none)) := by kernel_rfl
theorem rw_out0 (F : Nat) (i : Int) (v n : Nat) (cs : List AV) :
 ((Cont.block 0 (Cont.then (f84_r0.run F (f84.leaveK Fun.done)) (f84.leaveK Fun.done))) (.exit 0) (Env.mk 35 [(1, .int .i64 i), (2, .nilsl), (6, .ptr 0 0), (7, .ptr 1 0)]) ⟨[.cells [.nilsl], .cells [.vs 2 v 1 n], .vec v cs], []⟩ : Ans) =
 if (0 : Int) ≤ i ∧ i < (↑n : Int) then
 branch (.bool (v.beq v && (true && inC cs (i.toNat * 1) 1)))
 (branch
 (AV.bool
 (true &&
 (v.beq v &&
 (okS (cR (setC cs (i.toNat * 1) [AV.nilsl])) &&
 ((setC cs (i.toNat * 1) [AV.nilsl]).all slC &&
 cdec (n ≤ (setC cs (i.toNat * 1) [AV.nilsl]).length))))))
 (some
 (Fin.ret (AV.agg [AV.vs 2 v 1 (trN n (setC cs (i.toNat * 1) [AV.nilsl]))]),
 St.mk
 [Ob.cells [AV.vs 2 v 1 (trN n (setC cs (i.toNat * 1) [AV.nilsl]))],
 Ob.cells [AV.vs 2 v 1 (trN n (setC cs (i.toNat * 1) [AV.nilsl]))],
 Ob.vec v (setC cs (i.toNat * 1) [AV.nilsl])]
 []))
 none)
 none
 else none := by kernel_rfl
theorem rw_out (F : Nat) (i : Int) (v n : Nat) (cs : List AV) (bs : List (List AV)) :
 ((Cont.block 0 (Cont.then (f84_r0.run F (f84.leaveK Fun.done)) (f84.leaveK Fun.done))) (.exit 0) (Env.mk 35 [(1, .int .i64 i), (2, .ns false 1 bs), (6, .ptr 0 0), (7, .ptr 1 0)]) ⟨[.cells [.nilsl], .cells [.vs 2 v 1 n], .vec v cs], []⟩ : Ans) =
 if (0 : Int) ≤ i ∧ i < (↑n : Int) then
 branch (.bool (v.beq v && (true && inC cs (i.toNat * 1) 1)))
 (branch
 (AV.bool
 (true &&
 (v.beq v &&
 (okS (cR (setC cs (i.toNat * 1) [AV.ns false 1 bs])) &&
 ((setC cs (i.toNat * 1) [AV.ns false 1 bs]).all slC &&
 cdec (n ≤ (setC cs (i.toNat * 1) [AV.ns false 1 bs]).length))))))
 (some
 (Fin.ret
 (AV.agg [AV.vs 2 v 1 (trN n (setC cs (i.toNat * 1) [AV.ns false 1 bs]))]),
 St.mk
 [Ob.cells [AV.vs 2 v 1 (trN n (setC cs (i.toNat * 1) [AV.ns false 1 bs]))],
 Ob.cells [AV.vs 2 v 1 (trN n (setC cs (i.toNat * 1) [AV.ns false 1 bs]))],
 Ob.vec v (setC cs (i.toNat * 1) [AV.ns false 1 bs])]
 []))
 none)
 none
 else none := by kernel_rfl
def cellN (o : Option (List Nat)) : AV := match o with
 | none => .nilsl
 | some b => .ns false 1 (bR b)
def sCN (s : Sl) : List AV := s.map cellN
def sN (s : Sl) : List (List AV) := s.map fun o => [cellN o]
theorem cR_sCN (s : Sl) : cR (sCN s) = sN s := by simp [cR, sCN, sN]
theorem sCN_length (s : Sl) : (sCN s).length = s.length := by simp [sCN]
theorem sN_length (s : Sl) : (sN s).length = s.length := by simp [sN]
theorem sCN_append (s t : Sl) : sCN (s ++ t) = sCN s ++ sCN t := by simp [sCN]
theorem slot_N (o : Option (List Nat)) : slot [cellN o] = o := by
 cases o with
 | none => rfl
 | some b => simp [cellN, slot, nilA, rwA, nR_bR]
theorem sR_sN (s : Sl) : sR (sN s) = s := by
 simp only [sR, sN, List.map_map]
 conv => rhs; rw [← List.map_id s]
 exact List.map_congr_left fun o _ => slot_N o
theorem okS_sN {s : Sl} (h : okSl s) : okS (sN s) = true := by
 rw [okS_iff, sN_length]
 refine ⟨fun r hr => ?_, h.2⟩
 obtain ⟨o, ho, rfl⟩ := List.mem_map.mp hr
 cases o with
 | none => exact ⟨rfl, by simp [cellN, rwA]⟩
 | some b =>
  obtain ⟨h1, h2⟩ := h.1 b ho
  exact ⟨okR_bR h1, by simpa [cellN, rwA, bR_length] using h2⟩
theorem slC_sCN (s : Sl) : (sCN s).all slC = true := by
 rw [List.all_eq_true]
 intro c hc
 obtain ⟨o, _, rfl⟩ := List.mem_map.mp hc
 cases o <;> rfl
theorem sN_scoped {n m : Nat} : ∀ s : Sl, ScopedR n m (sN s)
 | [] => trivial
 | none :: s => ⟨⟨trivial, trivial⟩, sN_scoped s⟩
 | some b :: s => ⟨⟨bR_scoped b, trivial⟩, sN_scoped s⟩
theorem nilA_N (o : Option (List Nat)) : nilA [cellN o] = o.isNone := by cases o <;> rfl
theorem trR_sN (s : Sl) : trR (sN s) = sN (trS s) := by
 rw [trR, opq_eq, trS, sN, sN, ← List.map_reverse, List.map_reverse]
 have h : ∀ t : Sl, (t.map fun o => [cellN o]).dropWhile nilA = (t.dropWhile (·.isNone)).map fun o => [cellN o] := by
  intro t
  induction t with
  | nil => rfl
  | cons o t ih =>
   rw [List.map_cons, List.dropWhile_cons, List.dropWhile_cons, nilA_N]
   cases o with
   | none => exact ih
   | some b => rfl
 rw [← List.map_reverse, h, List.map_reverse]
theorem sN_take (s : Sl) (n : Nat) : cR ((sCN s).take n) = sN (s.take n) := by rw [show (sCN s).take n = sCN (s.take n) by simp [sCN], cR_sCN]
theorem trN_sCN (s : Sl) : trN s.length (sCN s) = (trS s).length := by
 rw [trN, opq_eq, List.take_of_length_le (by rw [sCN_length]; exact Nat.le_refl _), cR_sCN, trR_sN, sN_length]
theorem rows_sCN (s : Sl) (n : Nat) (h : n ≤ s.length) : rowsOf 1 n (sCN s) = some (sN (s.take n)) := by
 rw [rowsOf_one n _ (by rw [sCN_length]; exact h), sN_take]
theorem padC_sCN (s : Sl) (m : Nat) : padC (sCN s) m = sCN (padS s m) := by
 rw [padC, padS, sCN_append, sCN_length]
 congr 1
 simp [sCN, cellN]
theorem set_sCN (s : Sl) (k : Nat) (o : Option (List Nat)) : (sCN s).set k (cellN o) = sCN (s.set k o) := by simp [sCN, List.map_set]
theorem okSl_pad {s : Sl} (h : okSl s) {m : Nat} (hm : m < 4611686018427387904) : okSl (padS s m) := by
 refine ⟨fun b hb => ?_, by rw [padS_len]; have := h.2; omega⟩
 rcases List.mem_append.mp hb with hb | hb
 ·exact h.1 b hb
 ·have := List.eq_of_mem_replicate hb; cases this
theorem okSl_set {s : Sl} (h : okSl s) {k : Nat} {o : Option (List Nat)} (ho : ∀ b, o = some b → (∀ x ∈ b, x < 256) ∧ b.length < 4611686018427387904) : okSl (s.set k o) := by
 refine ⟨fun b hb => ?_, by rw [List.length_set]; exact h.2⟩
 rcases List.mem_or_eq_of_mem_set hb with hb | hb
 ·exact h.1 b hb
 ·exact ho b hb.symm
noncomputable def isN (l : List (List AV)) : Bool := cdec (okSl (sR l) ∧ l = sN (sR l) ∧ l.length ≤ 1000)
theorem isN_iff {l : List (List AV)} : isN l = true ↔ okSl (sR l) ∧ l = sN (sR l) ∧ l.length ≤ 1000 := cdec_iff
theorem isN_sN {s : Sl} (h : okSl s) (h2 : s.length ≤ 1000) : isN (sN s) = true := by rw [isN_iff, sR_sN, sN_length]; exact ⟨h, rfl, h2⟩
noncomputable abbrev rwK (F : Nat) : Cont := Cont.block 0 (Cont.then (f84_r0.run F (f84.leaveK Fun.done)) (f84.leaveK Fun.done))
theorem rw_loop (F k : Nat) (hk : k ≤ 1000) (b : AV) (x : Ob) : ∀ (d m v : Nat) (cs : List AV), cs.length + d = max cs.length (k + 1) → d < m →
  loopRun (f84_l0.run F) [1, 2, 6, 7] (rwK F) m (Env.mk 35 [(1, .int .i64 (k : Int)), (2, b), (6, .ptr 0 0), (7, .ptr 1 0)]) ⟨[x, .cells [.vs 2 v 1 cs.length], .vec v cs], []⟩
   = rwK F (.exit 0) (Env.mk 35 [(1, .int .i64 (k : Int)), (2, b), (6, .ptr 0 0), (7, .ptr 1 0)]) ⟨[x, .cells [.vs 2 (v + d) 1 (padC cs (k + 1)).length], .vec (v + d) (padC cs (k + 1))], []⟩
 | d, 0, v, cs, hd, hm => by omega
 | 0, m + 1, v, cs, hd, hm => by
  have : padC cs (k + 1) = cs := by rw [padC, show k + 1 - cs.length = 0 by omega]; simp
  rw [show m + 1 = m.succ from rfl, rw_round, branch_not (by simp; omega), this]
  rfl
 | d + 1, m + 1, v, cs, hd, hm => by
  have hlt : cs.length ≤ k := by omega
  have hp : padC (cs ++ [.nilsl]) (k + 1) = padC cs (k + 1) := by
   simp only [padC, List.length_append, List.length_singleton, List.append_assoc]
   rw [show k + 1 - cs.length = (k + 1 - (cs.length + 1)) + 1 by omega, List.replicate_succ]
   rfl
  rw [show m + 1 = m.succ from rfl, rw_round, branch_of (by simpa using hlt), branch_of (vs_guard rfl (by omega)), catC_one rfl]
  have ih := rw_loop F k hk b x d m (v + 1) (cs ++ [.nilsl]) (by rw [List.length_append, List.length_singleton]; omega) (by omega)
  rw [hp, List.length_append, List.length_singleton, show v + 1 + d = v + (d + 1) by omega] at ih
  exact ih
noncomputable def wrR (l : List (List AV)) (i : Int) (o : Option (List Nat)) : List (List AV) := opq (sN (withS (sR l) i.toNat o))
theorem rw_end (F k v : Nat) (hk : k ≤ 1000) (s : Sl) (hs : okSl s) (o : Option (List Nat)) (ho : ∀ b, o = some b → (∀ x ∈ b, x < 256) ∧ b.length < 4611686018427387904) :
  ∃ xs, rwK F (.exit 0) (Env.mk 35 [(1, .int .i64 (k : Int)), (2, cellN o), (6, .ptr 0 0), (7, .ptr 1 0)]) ⟨[.cells [.nilsl], .cells [.vs 2 v 1 (padC (sCN s) (k + 1)).length], .vec v (padC (sCN s) (k + 1))], []⟩ = some (.ret (.agg [.vs 2 v 1 (withS s k o).length]), ⟨xs, []⟩) ∧ xs[2]? = some (.vec v (sCN ((padS s (k + 1)).set k o))) := by
 have hl : k < (padC (sCN s) (k + 1)).length := by rw [padC_length]; omega
 have hset : setC (padC (sCN s) (k + 1)) k [cellN o] = sCN ((padS s (k + 1)).set k o) := by rw [setC_one hl, padC_sCN, set_sCN]
 have hok : okSl ((padS s (k + 1)).set k o) := okSl_set (okSl_pad hs (by omega)) ho
 have hlen : (padC (sCN s) (k + 1)).length = ((padS s (k + 1)).set k o).length := by rw [padC_sCN, sCN_length, List.length_set]
 have htr : trN ((padS s (k + 1)).set k o).length (sCN ((padS s (k + 1)).set k o)) = (withS s k o).length := trN_sCN _
 have hg1 : (v.beq v && (true && inC (padC (sCN s) (k + 1)) (k * 1) 1)) = true := by
  rw [Nat.beq_refl, Bool.true_and, Bool.true_and, inC_iff]; omega
 have hg2 : (true && (v.beq v && (okS (cR (sCN ((padS s (k + 1)).set k o))) && ((sCN ((padS s (k + 1)).set k o)).all slC && cdec ((padC (sCN s) (k + 1)).length ≤ (sCN ((padS s (k + 1)).set k o)).length))))) = true := by
  rw [Nat.beq_refl, cR_sCN, okS_sN hok, slC_sCN, cdec_iff.mpr (by rw [sCN_length, hlen]; exact Nat.le_refl _)]; rfl
 cases o with
 | none =>
  refine ⟨[.cells [.vs 2 v 1 (withS s k none).length], .cells [.vs 2 v 1 (withS s k none).length], .vec v (sCN ((padS s (k + 1)).set k none))], ?_, rfl⟩
  ·rw [rwK, show cellN none = .nilsl from rfl, rw_out0, if_pos ⟨by omega, by omega⟩, Int.toNat_natCast, branch_of hg1, Nat.mul_one, show AV.nilsl = cellN none from rfl, hset, branch_of hg2, hlen, htr]
 | some b =>
  refine ⟨[.cells [.vs 2 v 1 (withS s k (some b)).length], .cells [.vs 2 v 1 (withS s k (some b)).length], .vec v (sCN ((padS s (k + 1)).set k (some b)))], ?_, rfl⟩
  ·rw [rwK, show cellN (some b) = .ns false 1 (bR b) from rfl, rw_out, if_pos ⟨by omega, by omega⟩, Int.toNat_natCast, branch_of hg1, Nat.mul_one, show AV.ns false 1 (bR b) = cellN (some b) from rfl, hset, branch_of hg2, hlen, htr]
theorem rw_all (z : Bool) (k : Nat) (hk : k ≤ 1000) (s : Sl) (hs : okSl s) (h1000 : s.length ≤ 1000) (o : Option (List Nat)) (ho : ∀ b, o = some b → (∀ x ∈ b, x < 256) ∧ b.length < 4611686018427387904) :
  ∃ v xs, f84.run (k + 3) [.agg [.ns z 1 (sN s)], .int .i64 (k : Int), cellN o] ⟨[], []⟩ = some (.ret (.agg [.vs 2 v 1 (withS s k o).length]), ⟨xs, []⟩) ∧ xs[2]? = some (.vec v (sCN ((padS s (k + 1)).set k o))) := by
 have hap : apOk (sN s).length 24 = true := by rw [apOk_iff, sN_length]; omega
 rw [rw_run, branch_of hap]
 cases s with
 | nil =>
  have e : padC [.nilsl] (k + 1) = padC (sCN []) (k + 1) := by
   simp only [padC, sCN, List.map_nil, List.length_nil, List.length_singleton]
   rw [show k + 1 - 0 = (k + 1 - 1) + 1 by omega, List.replicate_succ]
   rfl
  have hl := rw_loop (k + 3) k hk (cellN o) (.cells [.nilsl]) k (k + 2) 1 [.nilsl] (by simp; omega) (by omega)
  rw [e] at hl
  obtain ⟨xs, q901, q902⟩ := rw_end (k + 3) k (1 + k) hk [] hs o ho
  refine ⟨1 + k, xs, ?_, q902⟩
  rw [branch_of (by rfl)]
  rw [show loopRun (f84_l0.run (k + 3)) [1, 2, 6, 7] (Cont.block 0 (Cont.then (f84_r0.run (k + 3) (f84.leaveK Fun.done)) (f84.leaveK Fun.done))) (k + 3) = loopRun (f84_l0.run (k + 3)) [1, 2, 6, 7] (Cont.block 0 (Cont.then (f84_r0.run (k + 3) (f84.leaveK Fun.done)) (f84.leaveK Fun.done))) (k + 2).succ from rfl, rw_round0, branch_of (by simp), branch_of ap_one, catC_nil]
  exact hl.trans q901
 | cons o900 s =>
  have hl := rw_loop (k + 3) k hk (cellN o) (.cells [.nilsl]) (max (sCN (o900 :: s)).length (k + 1) - (sCN (o900 :: s)).length) (k + 3) 1 (sCN (o900 :: s)) (by omega) (by omega)
  obtain ⟨xs, q901, q902⟩ := rw_end (k + 3) k (1 + (max (sCN (o900 :: s)).length (k + 1) - (sCN (o900 :: s)).length)) hk (o900 :: s) hs o ho
  refine ⟨_, xs, ?_, q902⟩
  have hc : catC [] 0 (sN (o900 :: s)) = sCN (o900 :: s) := by rw [catC_nil, ← cR_sCN, cR_flat]
  have hn : (sN (o900 :: s)).length.beq 0 = false := by rw [sN_length]; rfl
  rw [branch_not hn, hc, sN_length, ← sCN_length]
  exact hl.trans q901
theorem withS_take (s : Sl) (k : Nat) (o : Option (List Nat)) : ((padS s (k + 1)).set k o).take (withS s k o).length = withS s k o := by rw [withS]; exact (trS_take _).symm
theorem withS_len (s : Sl) (k : Nat) (o : Option (List Nat)) : (withS s k o).length ≤ ((padS s (k + 1)).set k o).length := trS_len _
theorem p84_spec {z : Bool} {l : List (List AV)} {i : Int} {b : AV} {o : Option (List Nat)} (hl : isN l = true) (hi : 0 ≤ i ∧ i ≤ 1000) (hb : b = cellN o) (ho : ∀ c, o = some c → (∀ x ∈ c, x < 256) ∧ c.length < 4611686018427387904) :
  ∃ F r' st', f84.run F [.agg [.ns z 1 l], .int .i64 i, b] ⟨[], []⟩ = some (.ret r', st') ∧ Scoped 0 0 (hard st'.objs r') ∧ Wk (hard st'.objs r') (.agg [.ns false 1 (wrR l i o)]) := by
 obtain ⟨h1, h2, h3⟩ := isN_iff.mp hl
 obtain ⟨k, rfl⟩ := Int.eq_ofNat_of_zero_le hi.1
 obtain ⟨v, xs, q901, q902⟩ := rw_all z k (by omega) (sR l) h1 (by rw [sR_length]; exact h3) o ho
 rw [← h2] at q901
 have hh : hard xs (.agg [.vs 2 v 1 (withS (sR l) k o).length]) = .agg [.sl 1 false (sN (withS (sR l) k o))] := by
  simp only [hard, hardL, q902, Nat.beq_refl]
  rw [rows_sCN _ _ (withS_len _ _ _), withS_take]
 refine ⟨k + 3, _, ⟨xs, []⟩, by rw [hb]; exact q901, ?_, ?_⟩
 ·show Scoped 0 0 (hard xs _)
  rw [hh]; exact ⟨sN_scoped _, trivial⟩
 ·show Wk (hard xs _) _
  rw [hh, wrR, opq_eq, Int.toNat_natCast]
  exact .agg (.cons .sl .nil)
noncomputable def p84 : POrc Try.prog := f84.farW
 (fun args k => match args with
  | [.agg [x], .int .i64 i, .nilsl] => onNs 1 x fun _ l => ifT (isN l && cdec (0 ≤ i ∧ i ≤ 1000)) (k (.agg [.ns false 1 (wrR l i none)]))
  | [.agg [x], .int .i64 i, .ns false s c] => onNs 1 x fun _ l => ifT (isN l && (cdec (0 ≤ i ∧ i ≤ 1000) && (Nat.beq s 1 && byOk c))) (k (.agg [.ns false 1 (wrR l i (some (nR c)))]))
  | _ => none)
 fun args k fin h => by
  split at h
  ·rename_i x i
   obtain ⟨z, l, h, hx⟩ := onNs_spec h
   obtain ⟨h1, h⟩ := ifT_spec h
   rw [Bool.and_eq_true, cdec_iff] at h1
   obtain ⟨F, r', st', q901, q902, q903⟩ := p84_spec (z := z) (o := none) h1.1 h1.2 rfl (fun c hc => by cases hc)
   obtain ⟨k1, k2, _⟩ := isN_iff.mp h1.1
   exact ⟨_, _, h, .cons (.agg (.cons hx .nil)) (.cons (.refl _) (.cons (.refl _) .nil)), ⟨⟨by rw [k2]; exact sN_scoped _, trivial⟩, trivial, trivial, trivial⟩, F, r', st', q901, q902, q903⟩
  ·rename_i x i s c
   obtain ⟨z, l, g901, hx⟩ := onNs_spec h
   obtain ⟨h1, g902⟩ := ifT_spec g901
   simp only [Bool.and_eq_true, cdec_iff] at h1
   obtain ⟨e1, e2, e3, e4⟩ := h1
   obtain rfl := Nat.eq_of_beq_eq_true e3
   have hok := byOk_iff.mp e4
   have hr := okR_rows hok.1
   obtain ⟨F, r', st', q901, q902, q903⟩ := p84_spec (z := z) (o := some (nR c)) (b := .ns false 1 c) e1 e2 (by rw [cellN, ← hr]) (fun c' hc => by
    cases hc; exact ⟨fun x hx => okR_lt hok.1 hx, by rw [nR_length]; exact hok.2⟩)
   obtain ⟨k1, k2, _⟩ := isN_iff.mp e1
   exact ⟨_, _, g902, .cons (.agg (.cons hx .nil)) (.cons (.refl _) (.cons (.refl _) .nil)), ⟨⟨by rw [k2]; exact sN_scoped _, trivial⟩, trivial, okR_scoped hok.1, trivial⟩, F, r', st', q901, q902, q903⟩
  ·cases h
noncomputable def getI (l : List (List AV)) (i : Int) : Option (List Nat) := opq (getP (sR l) i)
noncomputable def p81 : POrc Try.prog := f81.farW
 (fun args k => match args with
  | [.agg [x], .int .i64 i] => onNs 1 x fun _ l => ifT (isN l) (k (oV (getI l i)))
  | _ => none)
 fun args k fin h => by
  split at h
  ·rename_i x i
   obtain ⟨z, l, g901, hx⟩ := onNs_spec h
   obtain ⟨h1, g902⟩ := ifT_spec g901
   obtain ⟨k1, k2, k3⟩ := isN_iff.mp h1
   rw [getI, opq_eq] at g902
   generalize hs : sR l = s at k1 k2 g902
   subst k2
   refine ⟨_, _, g902, .cons (.agg (.cons hx .nil)) (.cons (.refl _) .nil), ⟨⟨sN_scoped _, trivial⟩, trivial, trivial⟩, 0, ?_⟩
   rw [rg_run]
   by_cases h0 : i < 0
   ·refine ⟨_, ⟨[], []⟩, branch_of (by simpa using h0), ⟨trivial, trivial, trivial⟩, ?_⟩
    rw [show getP s i = none by rw [getP, if_neg (by omega)]]
    exact oV_none
   ·obtain ⟨n, rfl⟩ := Int.eq_ofNat_of_zero_le (by omega : 0 ≤ i)
    rw [branch_not (by simp)]
    by_cases hn : s.length ≤ n
    ·refine ⟨_, ⟨[], []⟩, branch_of (by rw [sN_length]; simpa using hn), ⟨trivial, trivial, trivial⟩, ?_⟩
     rw [show getP s (n : Int) = none by rw [getP, if_pos (by omega), Int.toNat_natCast, List.getElem?_eq_none hn]; rfl]
     exact oV_none
    ·have hlt : n < s.length := by omega
     have hg : getP s (n : Int) = s[n] := by rw [getP, if_pos (by omega), Int.toNat_natCast, List.getElem?_eq_getElem hlt]; rfl
     have hi : inR (sN s) (n : Int) = true := inR_nat (by rw [sN_length]; exact hlt)
     have hr : V.rowAt (sN s) (n : Int) = [cellN s[n]] := by rw [rowAt_nat (by rw [sN_length]; exact hlt)]; simp [sN]
     rw [branch_not (by rw [sN_length]; simp; omega), branch_of hi, hr, hg]
     cases s[n] with
     | none => exact ⟨_, ⟨[], []⟩, rfl, ⟨trivial, trivial, trivial⟩, oV_none⟩
     | some b =>
      refine ⟨.tup [.ns false 1 (bR b), .bool true], ⟨[], []⟩, ?_, ⟨?_, trivial, trivial⟩, ?_⟩
      ·rw [branch_of (show (LD.one (LT.ns 1)).is [cellN (some b)] = true from rfl), branch_not (show nilA [cellN (some b)] = false from rfl), branch_of hi, branch_of (show (LD.one (LT.ns 1)).is [cellN (some b)] = true from rfl)]
       rfl
      ·simp only [hard]; rw [hardR_id _ _ (bR_scoped b)]; exact bR_scoped b
      ·simp only [hard, hardL]
       rw [hardR_id _ _ (bR_scoped b), oV, oB_some, oR_some]
       exact .refl _
  ·cases h
theorem p81_nat : p81.Nat := by
 intro args k
 simp only [p81, Fun.farW]
 split
 ·exact onNs_nat fun _ _ => ifT_nat rfl
 ·rfl
noncomputable def f79_b : Sim Try.prog :=
 (.seq (.live [1, 2, 3] (.region 0 [
 ⟨(opBoxF (some 3) 91 (.tmp 0) 0 "ref.go:95" #[]).op, none⟩,
 ⟨(opAssign (some 6) (.const (Value.slice none 0 0)) 34 "ref.go:95" #[]).op, none⟩,
 ⟨(opAssign (some 7) (.const (Value.bool false)) 4 "ref.go:95" #[eC 1]).op, none⟩
 ] (by kernel_rfl)))
 (.seq (.seq (.live [1, 2, 3, 14] (.region 1 [
 ⟨(opMove (some 9) (.tmp 1) 3 "ref.go:96" #[]).op, none⟩,
 ⟨(opBin (some 10) .lss 3 (.tmp 9) (.const (Value.int IntKind.i64 0)) 3 4 "ref.go:96" #[eD 0]).op, none⟩,
 ⟨(opMove (some 11) (.tmp 10) 4 "ref.go:96" #[eD 1]).op, none⟩,
 ⟨(opMove (some 12) (.tmp 1) 3 "ref.go:96" #[eG 2]).op, (some (2, 11, false))⟩,
 ⟨(opBin (some 13) .gtr 3 (.tmp 12) (.const (Value.int IntKind.i64 250)) 3 4 "ref.go:96" #[eD 3, eG 2]).op, (some (2, 11, false))⟩,
 ⟨(opPick (some 14) (.tmp 11) (.const (Value.bool true)) (.tmp 13) 4 "ref.go:96" #[eD 2, eD 4]).op, none⟩
 ] (by kernel_rfl)))
 (.cond (.tmp 14)
 (.seq (.live [6, 7] (.region 2 [
 ⟨(opAssign (some 6) (.const (Value.slice none 0 0)) 34 "ref.go:97" #[]).op, none⟩,
 ⟨(opAssign (some 7) (.const (Value.bool false)) 4 "ref.go:97" #[eC 0, eP 0]).op, none⟩
 ] (by kernel_rfl)))
 (.live [6, 7] .ret))
 .skip))
 (.seq (.live [1, 2, 3, 8] (.region 3 [
 ⟨(opMove (some 15) (.tmp 2) 34 "ref.go:99" #[]).op, none⟩,
 ⟨(opLen (some 16) (.tmp 15) 34 (.slice 5) Try.underlying34 3 "ref.go:99" #[eD 0]).op, none⟩,
 ⟨(opMakeC (some 17) 34 (.tmp 16) 5 1 1 (.int .u8 0) el34 [AV.int .u8 0] (by kernel_rfl) (by kernel_rfl) 34 "ref.go:99" #[eD 1, eD 1]).op, none⟩,
 ⟨(opAssign (some 8) (.tmp 17) 34 "ref.go:99" #[eD 2, eP 0, eP 1, eP 2]).op, none⟩
 ] (by kernel_rfl)))
 (.seq (.live [1, 3, 8] (.region 4 [
 ⟨(opMove (some 18) (.tmp 8) 34 "ref.go:100" #[]).op, none⟩,
 ⟨(opMove (some 19) (.tmp 2) 34 "ref.go:100" #[]).op, none⟩,
 ⟨(opCopyV (some 20) (.tmp 18) (.tmp 19) 34 34 5 1 Try.underlying34 sz5 3 "ref.go:100" #[eD 0, eD 1]).op, none⟩
 ] (by kernel_rfl)))
 (.seq (.live [6, 7] (.region 5 [
 ⟨(opLoadT (.agg [.any]) (some 21) 91 (.tmp 3) d91 ud91 1 sz91 (by kernel_rfl) 91 "ref.go:101" #[]).op, none⟩,
 ⟨(opMove (some 22) (.tmp 1) 3 "ref.go:101" #[]).op, none⟩,
 ⟨(opMoveZ (some 23) (.tmp 8) 34 "ref.go:101" #[]).op, none⟩,
 ⟨(opCallP p84 (some 24) [(.tmp 21), (.tmp 22), (.tmp 23)] #[91, 3, 34] 91 "ref.go:101" #[eD 0, eD 1, eD 2]).op, none⟩,
 ⟨(opCallQ q60 (some 25) [(.tmp 24)] #[91] 37 "ref.go:101" #[eD 3, eC 3]).op, none⟩,
 ⟨(opExtract (some 26) (.tmp 25) 0 34 "ref.go:101" #[eD 4]).op, none⟩,
 ⟨(opExtract (some 27) (.tmp 25) 1 4 "ref.go:101" #[eD 4]).op, none⟩,
 ⟨(opAssign (some 6) (.tmp 26) 34 "ref.go:101" #[eD 5, eC 4, eP 0, eP 1, eP 2, eP 3, eP 4, eP 5, eP 6]).op, none⟩,
 ⟨(opAssign (some 7) (.tmp 27) 4 "ref.go:101" #[eD 6, eC 7, eP 0, eP 1, eP 2, eP 3, eP 4, eP 5, eP 6, eP 7]).op, none⟩
 ] (by kernel_rfl)))
 (.live [6, 7] .ret))))))
noncomputable def f79 : Fun Try.prog where
 id := 79
 fn := Try.f79
 hf := Try.func79
 hname := by kernel_rfl
 body := f79_b
 hbody := by kernel_rfl
 res := [rTmp 6, rTmp 7]
 hres := by kernel_rfl
 n := 28
 hn := by kernel_rfl
noncomputable def f80_b : Sim Try.prog :=
 (.seq (.live [1, 2] (.region 0 [
 ⟨(opBoxF (some 2) 91 (.tmp 0) 0 "ref.go:118" #[]).op, none⟩,
 ⟨(opAssign (some 4) (.const (Value.slice none 0 0)) 34 "ref.go:118" #[]).op, none⟩,
 ⟨(opAssign (some 5) (.const (Value.bool false)) 4 "ref.go:118" #[eC 1]).op, none⟩
 ] (by kernel_rfl)))
 (.seq (.live [1, 2, 7] (.region 1 [
 ⟨(opLoadT (.agg [.any]) (some 9) 91 (.tmp 2) d91 ud91 1 sz91 (by kernel_rfl) 91 "ref.go:119" #[]).op, none⟩,
 ⟨(opMove (some 10) (.tmp 1) 3 "ref.go:119" #[]).op, none⟩,
 ⟨(opCallP p81 (some 11) [(.tmp 9), (.tmp 10)] #[91, 3] 37 "ref.go:119" #[eD 0, eD 1]).op, none⟩,
 ⟨(opMove (some 8) (.tmp 11) 37 "ref.go:119" #[eD 2]).op, none⟩,
 ⟨(opExtract (some 12) (.tmp 8) 0 34 "ref.go:119" #[eD 3]).op, none⟩,
 ⟨(opExtract (some 13) (.tmp 8) 1 4 "ref.go:119" #[eD 3, eX 6]).op, none⟩,
 ⟨(opAssign (some 6) (.tmp 12) 34 "ref.go:119" #[eD 4, eC 2, eP 0, eP 1, eP 2, eP 3, eP 4, eT 5]).op, none⟩,
 ⟨(opAssign (some 7) (.tmp 13) 4 "ref.go:119" #[eD 5, eC 6, eP 0, eP 1, eP 2, eP 3, eP 4, eP 5, eP 6]).op, none⟩
 ] (by kernel_rfl)))
 (.seq (.seq (.live [1, 2, 15] (.region 2 [
 ⟨(opMove (some 14) (.tmp 7) 4 "ref.go:120" #[]).op, none⟩,
 ⟨(opNot (some 15) 4 (.tmp 14) 4 "ref.go:120" #[eD 0]).op, none⟩
 ] (by kernel_rfl)))
 (.cond (.tmp 15)
 (.seq (.live [4, 5] (.region 3 [
 ⟨(opAssign (some 4) (.const (Value.slice none 0 0)) 34 "ref.go:121" #[]).op, none⟩,
 ⟨(opAssign (some 5) (.const (Value.bool false)) 4 "ref.go:121" #[eC 0, eP 0]).op, none⟩
 ] (by kernel_rfl)))
 (.live [4, 5] .ret))
 .skip))
 (.seq (.live [4, 5] (.region 4 [
 ⟨(opLoadT (.agg [.any]) (some 16) 91 (.tmp 2) d91 ud91 1 sz91 (by kernel_rfl) 91 "ref.go:123" #[]).op, none⟩,
 ⟨(opMove (some 17) (.tmp 1) 3 "ref.go:123" #[]).op, none⟩,
 ⟨(opCallP p84 (some 18) [(.tmp 16), (.tmp 17), (.const (Value.slice none 0 0))] #[91, 3, 34] 91 "ref.go:123" #[eD 0, eD 1]).op, none⟩,
 ⟨(opCallQ q60 (some 19) [(.tmp 18)] #[91] 37 "ref.go:123" #[eD 2, eC 2]).op, none⟩,
 ⟨(opExtract (some 20) (.tmp 19) 0 34 "ref.go:123" #[eD 3]).op, none⟩,
 ⟨(opExtract (some 21) (.tmp 19) 1 4 "ref.go:123" #[eD 3]).op, none⟩,
 ⟨(opAssign (some 4) (.tmp 20) 34 "ref.go:123" #[eD 4, eC 3, eP 0, eP 1, eP 2, eP 3, eP 4, eP 5]).op, none⟩,
 ⟨(opAssign (some 5) (.tmp 21) 4 "ref.go:123" #[eD 5, eC 6, eP 0, eP 1, eP 2, eP 3, eP 4, eP 5, eP 6]).op, none⟩
 ] (by kernel_rfl)))
 (.live [4, 5] .ret)))))
noncomputable def f80 : Fun Try.prog where
 id := 80
 fn := Try.f80
 hf := Try.func80
 hname := by kernel_rfl
 body := f80_b
 hbody := by kernel_rfl
 res := [rTmp 4, rTmp 5]
 hres := by kernel_rfl
 n := 22
 hn := by kernel_rfl
theorem rput_run (F : Nat) (z y : Bool) (l b : List (List AV)) (i : Int) :
 (f79.run F [.agg [.ns z 1 l], .int .i64 i, .ns y 1 b] ⟨[], []⟩ : Ans) =
 branch (.bool (decide (i < 0))) (some (Fin.ret (AV.tup [AV.nilsl, AV.bool false]), St.mk [] []))
 (branch (.bool (decide (i > 250))) (some (Fin.ret (AV.tup [AV.nilsl, AV.bool false]), St.mk [] []))
 (branch (.bool (mkOk 1 (↑b.length : Int)))
 (branch
 (AV.bool
 (inC (zerC (↑b.length : Int).toNat [AV.int IntKind.u8 (0 : Int)]) 0
 (mulN (minN b.length (↑b.length : Int).toNat) 1)))
 (branch
 (AV.bool
 (inC
 (setC (zerC (↑b.length : Int).toNat [AV.int IntKind.u8 (0 : Int)]) 0
 (flC b (minN b.length (↑b.length : Int).toNat)))
 0 (mulN (↑b.length : Int).toNat 1)))
 (branch
 (AV.bool
 (isN l &&
 (cdec ((0 : Int) ≤ i ∧ i ≤ 1000) &&
 (true &&
 byOk
 (rowsC 1 (↑b.length : Int).toNat
 (setC (zerC (↑b.length : Int).toNat [AV.int IntKind.u8 (0 : Int)]) 0
 (flC b (minN b.length (↑b.length : Int).toNat)))
 0)))))
 (branch
 (AV.bool
 (okS
 (wrR l i
 (some
 (nR
 (rowsC 1 (↑b.length : Int).toNat
 (setC (zerC (↑b.length : Int).toNat [AV.int IntKind.u8 (0 : Int)]) 0
 (flC b (minN b.length (↑b.length : Int).toNat)))
 0))))))
 (some
 (Fin.ret
 (AV.tup
 [AV.ns
 (!pgOk
 (sR
 (wrR l i
 (some
 (nR
 (rowsC 1 (↑b.length : Int).toNat
 (setC (zerC (↑b.length : Int).toNat [AV.int IntKind.u8 (0 : Int)]) 0
 (flC b (minN b.length (↑b.length : Int).toNat)))
 0))))))
 1
 (pgR
 (wrR l i
 (some
 (nR
 (rowsC 1 (↑b.length : Int).toNat
 (setC (zerC (↑b.length : Int).toNat [AV.int IntKind.u8 (0 : Int)]) 0
 (flC b (minN b.length (↑b.length : Int).toNat)))
 0))))),
 AV.bool
 (pgOk
 (sR
 (wrR l i
 (some
 (nR
 (rowsC 1 (↑b.length : Int).toNat
 (setC (zerC (↑b.length : Int).toNat [AV.int IntKind.u8 (0 : Int)]) 0
 (flC b (minN b.length (↑b.length : Int).toNat)))
 0))))))]),
 St.mk [Ob.gone] []))
 none)
 none)
 none)
 none)
 none)) := by kernel_rfl
theorem rcut_run (F : Nat) (z : Bool) (l : List (List AV)) (i : Int) :
 (f80.run F [.agg [.ns z 1 l], .int .i64 i] ⟨[], []⟩ : Ans) =
 branch (.bool (isN l))
 (branch (.bool !oB (getI l i)) (some (Fin.ret (AV.tup [AV.nilsl, AV.bool false]), St.mk [] []))
 (branch (.bool (isN l && cdec ((0 : Int) ≤ i ∧ i ≤ 1000)))
 (branch (.bool (okS (wrR l i none)))
 (some
 (Fin.ret
 (AV.tup
 [AV.ns (!pgOk (sR (wrR l i none))) 1 (pgR (wrR l i none)), AV.bool (pgOk (sR (wrR l i none)))]),
 St.mk [] []))
 none)
 none))
 none := by kernel_rfl
theorem okSl_take {s : Sl} (h : okSl s) (n : Nat) : okSl (s.take n) := ⟨fun b hb => h.1 b (List.mem_of_mem_take hb), by rw [List.length_take]; have := h.2; omega⟩
theorem okSl_withN {s : Sl} (h : okSl s) {k : Nat} (hk : k ≤ 1000) {o : Option (List Nat)} (ho : ∀ b, o = some b → (∀ x ∈ b, x < 256) ∧ b.length < 4611686018427387904) : okSl (withS s k o) := by
 rw [← withS_take]
 exact okSl_take (okSl_set (okSl_pad h (by omega)) ho) _
theorem wrR_eq (l : List (List AV)) (k : Nat) (o : Option (List Nat)) : wrR l (k : Int) o = sN (withS (sR l) k o) := by rw [wrR, opq_eq, Int.toNat_natCast]
theorem oV_toP (s : Sl) : AV.tup [.ns (!pgOk (sR (sN s))) 1 (pgR (sN s)), .bool (pgOk (sR (sN s)))] = oV (toP s) := by
 rw [toP]
 cases h : pgOk s with
 | true =>
  have e : pgOk (sR (sN s)) = true := by rw [sR_sN]; exact h
  rw [pgR_ok e, sR_sN, h, if_pos rfl, oV, oB_some, oR_some]
 | false =>
  have e : pgOk (sR (sN s)) = false := by rw [sR_sN]; exact h
  rw [pgR_no e, sR_sN, h, if_neg (by simp), oV, oB_none, oR_none]
theorem own_row (b : List Nat) : rowsC 1 (((bR b).length : Nat) : Int).toNat (setC (zerC (((bR b).length : Nat) : Int).toNat [.int .u8 0]) 0 (flC (bR b) (minN (bR b).length (((bR b).length : Nat) : Int).toNat))) 0 = bR b ∧
  inC (zerC (((bR b).length : Nat) : Int).toNat [.int .u8 0]) 0 (mulN (minN (bR b).length (((bR b).length : Nat) : Int).toNat) 1) = true ∧
  inC (setC (zerC (((bR b).length : Nat) : Int).toNat [.int .u8 0]) 0 (flC (bR b) (minN (bR b).length (((bR b).length : Nat) : Int).toNat))) 0 (mulN (((bR b).length : Nat) : Int).toNat 1) = true := by
 have hz : (List.replicate b.length 0).length = b.length := List.length_replicate
 have e1 : minN b.length b.length = b.length := by rw [minN, opq_eq, Nat.min_self]
 have e2 : putN (List.replicate b.length 0) 0 b = b := by rw [putN, List.take_zero, List.nil_append, Nat.zero_add, List.drop_replicate, Nat.sub_self]; simp
 rw [Int.toNat_natCast, bR_length, e1, zerC_byte, flC_bR, List.take_of_length_le (Nat.le_refl _), setC_bC (by omega), e2, mulN, opq_eq, Nat.mul_one]
 refine ⟨?_, by rw [inC_iff, bC_length]; omega, by rw [inC_iff, bC_length]; omega⟩
 rw [rowsC_bC (by omega), List.drop_zero, List.take_of_length_le (Nat.le_refl _)]
noncomputable def putI (l : List (List AV)) (i : Int) (b : List Nat) : Option (List Nat) := opq (putS (sR l) i b)
noncomputable def p79 : POrc Try.prog := f79.farW
 (fun args k => match args with
  | [.agg [x], .int .i64 i, y] => onNs 1 x fun _ l => onNs 1 y fun _ b => ifT (isN l && (byOk b && cdec (b.length ≤ 1000000))) (k (oV (putI l i (nR b))))
  | _ => none)
 fun args k fin h => by
  split at h
  ·rename_i x i y
   obtain ⟨z, l, g901, hx⟩ := onNs_spec h
   obtain ⟨z', b, g902, hy⟩ := onNs_spec g901
   obtain ⟨h1, g903⟩ := ifT_spec g902
   simp only [Bool.and_eq_true, cdec_iff] at h1
   obtain ⟨e1, e2, e3⟩ := h1
   obtain ⟨k1, k2, k3⟩ := isN_iff.mp e1
   have hok := byOk_iff.mp e2
   have hr := okR_rows hok.1
   rw [putI, opq_eq] at g903
   refine ⟨_, _, g903, .cons (.agg (.cons hx .nil)) (.cons (.refl _) (.cons hy .nil)), ⟨⟨by rw [k2]; exact sN_scoped _, trivial⟩, trivial, okR_scoped hok.1, trivial⟩, 0, ?_⟩
   have no : putS (sR l) i (nR b) = none → ∃ r' st', some (Fin.ret (AV.tup [AV.nilsl, AV.bool false]), (⟨[], []⟩ : St)) = some (.ret r', st') ∧ Scoped 0 0 (hard st'.objs r') ∧ Wk (hard st'.objs r') (oV (putS (sR l) i (nR b))) := by
    intro e
    rw [e]
    exact ⟨_, _, rfl, ⟨trivial, trivial, trivial⟩, oV_none⟩
   rw [rput_run]
   by_cases h0 : i < 0
   ·rw [branch_of (by rw [decide_eq_true_eq]; exact h0)]
    exact no (by rw [putS, if_neg (by omega)])
   ·rw [branch_not (by rw [decide_eq_false_iff_not]; exact h0)]
    by_cases h3 : i > 250
    ·rw [branch_of (by rw [decide_eq_true_eq]; exact h3)]
     exact no (by rw [putS, if_neg (by omega)])
    ·obtain ⟨n, rfl⟩ := Int.eq_ofNat_of_zero_le (by omega : 0 ≤ i)
     have hs : putS (sR l) (n : Int) (nR b) = toP (withS (sR l) n (some (nR b))) := by rw [putS, if_pos (by omega), Int.toNat_natCast]
     have hof : ∀ c, some (nR b) = some c → (∀ x ∈ c, x < 256) ∧ c.length < 4611686018427387904 := fun c hc => by
      cases hc; exact ⟨fun x hx => okR_lt hok.1 hx, by rw [nR_length]; exact hok.2⟩
     have ho := own_row (nR b)
     rw [← hr] at ho
     obtain ⟨o901, o902, o903⟩ := ho
     rw [branch_not (by rw [decide_eq_false_iff_not]; exact h3), branch_of (by rw [mkOk_iff]; omega), branch_of o902, branch_of o903, o901, branch_of (by rw [e1, e2, cdec_iff.mpr (show (0 : Int) ≤ (n : Int) ∧ (n : Int) ≤ 1000 by omega)]; rfl), wrR_eq, branch_of (okS_sN (okSl_withN k1 (by omega) hof)), oV_toP, hs]
     refine ⟨_, _, rfl, ?_, ?_⟩
     ·rw [hard_id _ _ (oV_scoped _)]; exact oV_scoped _
     ·rw [hard_id _ _ (oV_scoped _)]; exact .refl _
  ·cases h
theorem p79_nat : p79.Nat := by
 intro args k
 simp only [p79, Fun.farW]
 split
 ·exact onNs_nat fun _ _ => onNs_nat fun _ _ => ifT_nat rfl
 ·rfl
noncomputable def cutI (l : List (List AV)) (i : Int) : Option (List Nat) := opq (cutS (sR l) i)
noncomputable def p80 : POrc Try.prog := f80.farW
 (fun args k => match args with
  | [.agg [x], .int .i64 i] => onNs 1 x fun _ l => ifT (isN l) (k (oV (cutI l i)))
  | _ => none)
 fun args k fin h => by
  split at h
  ·rename_i x i
   obtain ⟨z, l, g901, hx⟩ := onNs_spec h
   obtain ⟨e1, g902⟩ := ifT_spec g901
   obtain ⟨k1, k2, k3⟩ := isN_iff.mp e1
   rw [cutI, opq_eq] at g902
   refine ⟨_, _, g902, .cons (.agg (.cons hx .nil)) (.cons (.refl _) .nil), ⟨⟨by rw [k2]; exact sN_scoped _, trivial⟩, trivial, trivial⟩, 0, ?_⟩
   rw [rcut_run, branch_of e1]
   cases hg : getP (sR l) i with
   | none =>
    rw [branch_of (by rw [getI, opq_eq, hg, oB_none]; rfl), show cutS (sR l) i = none by rw [cutS, hg]; rfl]
    exact ⟨_, _, rfl, ⟨trivial, trivial, trivial⟩, oV_none⟩
   | some b =>
    have hi : 0 ≤ i ∧ i.toNat < (sR l).length := by
     unfold getP at hg
     split at hg
     ·refine ⟨by assumption, ?_⟩
      rcases Nat.lt_or_ge i.toNat (sR l).length with hlt | hge
      ·exact hlt
      ·rw [List.getElem?_eq_none hge] at hg; cases hg
     ·cases hg
    obtain ⟨n, rfl⟩ := Int.eq_ofNat_of_zero_le hi.1
    have hn : n < l.length := by have := hi.2; rw [Int.toNat_natCast, sR_length] at this; exact this
    have hs : cutS (sR l) (n : Int) = toP (withS (sR l) n none) := by rw [cutS, hg, Int.toNat_natCast]; rfl
    rw [branch_not (by rw [getI, opq_eq, hg, oB_some]; rfl), branch_of (by rw [e1, cdec_iff.mpr (show (0 : Int) ≤ (n : Int) ∧ (n : Int) ≤ 1000 by omega)]; rfl), wrR_eq, branch_of (okS_sN (okSl_withN k1 (by omega) fun c hc => by cases hc)), oV_toP, hs]
    refine ⟨_, _, rfl, ?_, ?_⟩
    ·rw [hard_id _ _ (oV_scoped _)]; exact oV_scoped _
    ·rw [hard_id _ _ (oV_scoped _)]; exact .refl _
  ·cases h
theorem p80_nat : p80.Nat := by
 intro args k
 simp only [p80, Fun.farW]
 split
 ·exact onNs_nat fun _ _ => ifT_nat rfl
 ·rfl
noncomputable def f58_l0 : Sim Try.prog :=
 (.seq (.seq (.live [1, 2, 7, 22] (.region 2 [
 ⟨(opMove (some 10) (.tmp 7) 3 "ref.go:107" #[]).op, none⟩,
 ⟨(opFieldAddr (some 11) 91 (.tmp 2) 0 0 1 false fl91_0 (by decide) 0 "ref.go:107" #[]).op, none⟩,
 ⟨(opLoadT (.one .any) (some 12) 22 (.tmp 11) (.slice 34) Try.underlying22 1 sz22 (by kernel_rfl) 22 "ref.go:107" #[eD 1]).op, none⟩,
 ⟨(opLen (some 13) (.tmp 12) 22 (.slice 34) Try.underlying22 3 "ref.go:107" #[eD 2]).op, none⟩,
 ⟨(opBin (some 14) .lss 3 (.tmp 10) (.tmp 13) 3 4 "ref.go:107" #[eD 0, eD 3]).op, none⟩,
 ⟨(opMove (some 15) (.tmp 14) 4 "ref.go:107" #[eD 4]).op, none⟩,
 ⟨(opFieldAddr (some 16) 91 (.tmp 2) 0 0 1 false fl91_0 (by decide) 0 "ref.go:107" #[eG 5]).op, (some (5, 15, true))⟩,
 ⟨(opLoadT (.one .any) (some 17) 22 (.tmp 16) (.slice 34) Try.underlying22 1 sz22 (by kernel_rfl) 22 "ref.go:107" #[eD 6, eG 5]).op, (some (5, 15, true))⟩,
 ⟨(opMove (some 18) (.tmp 7) 3 "ref.go:107" #[eG 5]).op, (some (5, 15, true))⟩,
 ⟨(opIndexAddrT (some 19) 22 (.tmp 17) (.tmp 18) 34 1 Try.underlying22 sz34 0 "ref.go:107" #[eD 7, eD 8, eG 5]).op, (some (5, 15, true))⟩,
 ⟨(opLoadT (.one (.ns 1)) (some 20) 34 (.tmp 19) (.slice 5) Try.underlying34 1 sz34 (by kernel_rfl) 34 "ref.go:107" #[eD 9, eG 5]).op, (some (5, 15, true))⟩,
 ⟨(opNe (some 21) 34 (.slice 5) Try.underlying34 (.tmp 20) (.const (Value.slice none 0 0)) (.inl rfl) 34 4 "ref.go:107" #[eD 10, eG 5]).op, (some (5, 15, true))⟩,
 ⟨(opPick (some 22) (.tmp 15) (.tmp 21) (.const (Value.bool false)) 4 "ref.go:107" #[eD 5, eD 11]).op, none⟩
 ] (by kernel_rfl)))
 (.cond (.tmp 22)
 .skip
 (.live [1, 2, 7] (.exit 0))))
 (.block 1 (.live [1, 2, 7] (.region 3 [
 ⟨(opMove (some 23) (.tmp 7) 3 "ref.go:108" #[]).op, none⟩,
 ⟨(opBin (some 24) .add 3 (.tmp 23) (.const (Value.int IntKind.i64 1)) 3 3 "ref.go:108" #[eD 0]).op, none⟩,
 ⟨(opAssign (some 7) (.tmp 24) 3 "ref.go:108" #[eD 1, eP 0, eP 1]).op, none⟩
 ] (by kernel_rfl)))))
noncomputable def f58_r0 : Sim Try.prog :=
 (.seq (.live [7, 8, 9] (.region 4 [
 ⟨(opLoadT (.agg [.any]) (some 26) 91 (.tmp 2) d91 ud91 1 sz91 (by kernel_rfl) 91 "ref.go:110" #[]).op, none⟩,
 ⟨(opMove (some 27) (.tmp 7) 3 "ref.go:110" #[]).op, none⟩,
 ⟨(opMove (some 28) (.tmp 1) 34 "ref.go:110" #[]).op, none⟩,
 ⟨(opCallP p79 (some 29) [(.tmp 26), (.tmp 27), (.tmp 28)] #[91, 3, 34] 37 "ref.go:110" #[eD 0, eD 1, eD 2]).op, none⟩,
 ⟨(opMove (some 25) (.tmp 29) 37 "ref.go:110" #[eD 3]).op, none⟩,
 ⟨(opExtract (some 30) (.tmp 25) 0 34 "ref.go:110" #[eD 4]).op, none⟩,
 ⟨(opExtract (some 31) (.tmp 25) 1 4 "ref.go:110" #[eD 4, eX 7]).op, none⟩,
 ⟨(opAssign (some 8) (.tmp 30) 34 "ref.go:110" #[eD 5, eC 3, eP 0, eP 1, eP 2, eP 3, eP 4, eP 5, eT 6]).op, none⟩,
 ⟨(opAssign (some 9) (.tmp 31) 4 "ref.go:110" #[eD 6, eC 7, eP 0, eP 1, eP 2, eP 3, eP 4, eP 5, eP 6, eP 7]).op, none⟩
 ] (by kernel_rfl)))
 (.seq (.seq (.live [7, 8, 33] (.region 5 [
 ⟨(opMove (some 32) (.tmp 9) 4 "ref.go:111" #[]).op, none⟩,
 ⟨(opNot (some 33) 4 (.tmp 32) 4 "ref.go:111" #[eD 0]).op, none⟩
 ] (by kernel_rfl)))
 (.cond (.tmp 33)
 (.seq (.live [4, 5, 6] (.region 6 [
 ⟨(opAssign (some 4) (.const (Value.slice none 0 0)) 34 "ref.go:112" #[]).op, none⟩,
 ⟨(opAssign (some 5) (.const (Value.int IntKind.i64 0)) 3 "ref.go:112" #[eC 0, eP 0]).op, none⟩,
 ⟨(opAssign (some 6) (.const (Value.bool false)) 4 "ref.go:112" #[eC 1, eP 0, eP 1]).op, none⟩
 ] (by kernel_rfl)))
 (.live [4, 5, 6] .ret))
 .skip))
 (.seq (.live [4, 5, 6] (.region 7 [
 ⟨(opMove (some 34) (.tmp 8) 34 "ref.go:114" #[]).op, none⟩,
 ⟨(opMove (some 35) (.tmp 7) 3 "ref.go:114" #[eX 2]).op, none⟩,
 ⟨(opAssign (some 4) (.tmp 34) 34 "ref.go:114" #[eD 0, eP 0, eT 1]).op, none⟩,
 ⟨(opAssign (some 5) (.tmp 35) 3 "ref.go:114" #[eD 1, eC 2, eP 0, eP 1, eP 2]).op, none⟩,
 ⟨(opAssign (some 6) (.const (Value.bool true)) 4 "ref.go:114" #[eC 3, eP 0, eP 1, eP 2, eP 3]).op, none⟩
 ] (by kernel_rfl)))
 (.live [4, 5, 6] .ret))))
noncomputable def f58_b : Sim Try.prog :=
 (.seq (.live [1, 2] (.region 0 [
 ⟨(opBoxF (some 2) 91 (.tmp 0) 0 "ref.go:105" #[]).op, none⟩,
 ⟨(opAssign (some 4) (.const (Value.slice none 0 0)) 34 "ref.go:105" #[]).op, none⟩,
 ⟨(opAssign (some 5) (.const (Value.int IntKind.i64 0)) 3 "ref.go:105" #[eC 1]).op, none⟩,
 ⟨(opAssign (some 6) (.const (Value.bool false)) 4 "ref.go:105" #[eC 2]).op, none⟩
 ] (by kernel_rfl)))
 (.seq (.live [1, 2, 7] (.region 1 [
 ⟨(opAssign (some 7) (.const (Value.int IntKind.i64 0)) 3 "ref.go:106" #[]).op, none⟩
 ] (by kernel_rfl)))
 (.seq (.block 0 (.loop [1, 2, 7] f58_l0))
 f58_r0)))
noncomputable def f58 : Fun Try.prog where
 id := 58
 fn := Try.f58
 hf := Try.func58
 hname := by kernel_rfl
 body := f58_b
 hbody := by kernel_rfl
 res := [rTmp 4, rTmp 5, rTmp 6]
 hres := by kernel_rfl
 n := 36
 hn := by kernel_rfl
theorem radd_run (F : Nat) (z y : Bool) (l b : List (List AV)) :
 (f58.run F [.agg [.ns z 1 l], .ns y 1 b] ⟨[], []⟩ : Ans) =
 loopRun (f58_l0.run F) [1, 2, 7]
 (Cont.block 0 (Cont.then (f58_r0.run F (f58.leaveK Fun.done)) (f58.leaveK Fun.done))) F
 (Env.mk 36
 [(1, AV.ns y 1 b), (2, AV.eptr [AV.ns z 1 l]),
 (7, .int .i64 0)])
 (St.mk [] []) := by kernel_rfl
theorem radd_round (F m : Nat) (K : Cont) (z y : Bool) (l b : List (List AV)) (i : Int) :
 (loopRun (f58_l0.run F) [1, 2, 7] K m.succ (Env.mk 36 [(1, .ns y 1 b), (2, .eptr [.ns z 1 l]), (7, .int .i64 i)]) ⟨[], []⟩ : Ans) =
 branch (.bool (decide (i < (↑l.length : Int))))
 (branch (.bool (inR l i))
 (branch (.bool ((LD.one (LT.ns 1)).is (V.rowAt l i)))
 (branch (.bool !nilA (V.rowAt l i))
 (loopRun (f58_l0.run F) [1, 2, 7] K m
 (Env.mk 36
 [(1, AV.ns y 1 b), (2, AV.eptr [AV.ns z 1 l]),
 (7, .int .i64 (IntKind.i64.wrap (i + 1)))])
 (St.mk [] []))
 (K (AX.exit 0)
 (Env.mk 36
 [(1, AV.ns y 1 b), (2, AV.eptr [AV.ns z 1 l]),
 (7, .int .i64 i)])
 (St.mk [] [])))
 none)
 none)
 (K (AX.exit 0)
 (Env.mk 36
 [(1, AV.ns y 1 b), (2, AV.eptr [AV.ns z 1 l]), (7, .int .i64 i)])
 (St.mk [] [])) := by kernel_rfl
theorem radd_out (F : Nat) (z y : Bool) (l b : List (List AV)) (i : Int) :
 ((Cont.block 0 (Cont.then (f58_r0.run F (f58.leaveK Fun.done)) (f58.leaveK Fun.done))) (.exit 0) (Env.mk 36 [(1, .ns y 1 b), (2, .eptr [.ns z 1 l]), (7, .int .i64 i)]) ⟨[], []⟩ : Ans) =
 branch (.bool (isN l && (byOk b && cdec (b.length ≤ 1000000))))
 (branch (.bool !oB (putI l i (nR b)))
 (some (Fin.ret (AV.tup [AV.nilsl, .int .i64 0, AV.bool false]), St.mk [] []))
 (some
 (Fin.ret
 (AV.tup [AV.ns (!oB (putI l i (nR b))) 1 (oR (putI l i (nR b))), .int .i64 i, AV.bool true]),
 St.mk [] [])))
 none := by kernel_rfl
noncomputable def rA (l : List (List AV)) (b : List Nat) : Option (List Nat) := opq (putS (sR l) (freeK (sR l) : Nat) b)
noncomputable def rAK (l : List (List AV)) (b : List Nat) : Int := opq (if (rA l b).isSome then (freeK (sR l) : Int) else 0)
noncomputable def rAV (l : List (List AV)) (b : List Nat) : AV := .tup [.ns (!oB (rA l b)) 1 (oR (rA l b)), .int .i64 (rAK l b), .bool (oB (rA l b))]
theorem rAV_scoped (l : List (List AV)) (b : List Nat) : Scoped 0 0 (rAV l b) := by
 rw [rAV]
 cases rA l b with
 | none => rw [oR_none]; exact ⟨trivial, trivial, trivial, trivial⟩
 | some c => rw [oR_some]; exact ⟨bR_scoped c, trivial, trivial, trivial⟩
theorem sN_row {s : Sl} {i : Nat} (h : i < s.length) : inR (sN s) (i : Int) = true ∧ V.rowAt (sN s) (i : Int) = [cellN s[i]] := by
 refine ⟨inR_nat (by rw [sN_length]; exact h), ?_⟩
 rw [rowAt_nat (by rw [sN_length]; exact h)]; simp [sN]
theorem freeK_drop : ∀ {s : Sl} {i : Nat} (h : i < s.length), i + freeK (s.drop i) = if s[i].isNone then i else i + 1 + freeK (s.drop (i + 1))
 | s, i, h => by
  rw [drop_at h, freeK, List.findIdx_cons]
  cases s[i] with
  | none => simp
  | some b => simp [freeK]; omega
theorem radd_loop (F : Nat) (z y : Bool) (s : Sl) (hs : okSl s) (hl : s.length ≤ 1000) (b : List (List AV)) : ∀ (k m i : Nat), i + k = s.length → k < m →
  loopRun (f58_l0.run F) [1, 2, 7] (Cont.block 0 (Cont.then (f58_r0.run F (f58.leaveK Fun.done)) (f58.leaveK Fun.done))) m (Env.mk 36 [(1, .ns y 1 b), (2, .eptr [.ns z 1 (sN s)]), (7, .int .i64 (i : Int))]) ⟨[], []⟩ =
   (Cont.block 0 (Cont.then (f58_r0.run F (f58.leaveK Fun.done)) (f58.leaveK Fun.done))) (.exit 0) (Env.mk 36 [(1, .ns y 1 b), (2, .eptr [.ns z 1 (sN s)]), (7, .int .i64 ((i + freeK (s.drop i) : Nat) : Int))]) ⟨[], []⟩
 | k, 0, i, hi, hm => by omega
 | 0, m + 1, i, hi, hm => by
  have e : s.drop i = [] := List.drop_eq_nil_of_le (by omega)
  rw [show m + 1 = m.succ from rfl, radd_round, branch_not (by rw [decide_eq_false_iff_not, sN_length]; omega), e]
  rfl
 | k + 1, m + 1, i, hi, hm => by
  have h1 : i < s.length := by omega
  obtain ⟨r901, r902⟩ := sN_row h1
  have ih := radd_loop F z y s hs hl b k m (i + 1) (by omega) (by omega)
  rw [show m + 1 = m.succ from rfl, radd_round, branch_of (by rw [decide_eq_true_eq, sN_length]; omega), branch_of r901, r902, wrap_succ (by omega), freeK_drop h1]
  cases s[i] with
  | none => rw [branch_of (show (LD.one (LT.ns 1)).is [cellN none] = true from rfl), branch_not (show (!nilA [cellN none]) = false from rfl)]; rfl
  | some c => rw [branch_of (show (LD.one (LT.ns 1)).is [cellN (some c)] = true from rfl), branch_of (show (!nilA [cellN (some c)]) = true from rfl)]; exact ih
noncomputable def p58 : POrc Try.prog := f58.farW
 (fun args k => match args with
  | [.agg [x], y] => onNs 1 x fun _ l => onNs 1 y fun _ b => ifT (isN l && (byOk b && cdec (b.length ≤ 1000000))) (k (rAV l (nR b)))
  | _ => none)
 fun args k fin h => by
  split at h
  ·rename_i x y
   obtain ⟨z, l, g901, hx⟩ := onNs_spec h
   obtain ⟨z', b, g902, hy⟩ := onNs_spec g901
   obtain ⟨h1, g903⟩ := ifT_spec g902
   have h2 := h1
   simp only [Bool.and_eq_true, cdec_iff] at h1
   obtain ⟨e1, e2, e3⟩ := h1
   obtain ⟨k1, k2, k3⟩ := isN_iff.mp e1
   have hok := byOk_iff.mp e2
   refine ⟨_, _, g903, .cons (.agg (.cons hx .nil)) (.cons hy .nil), ⟨⟨by rw [k2]; exact sN_scoped _, trivial⟩, okR_scoped hok.1, trivial⟩, 1001, ?_⟩
   have lp := radd_loop 1001 z z' (sR l) k1 (by rw [sR_length]; exact k3) b l.length 1001 0 (by rw [sR_length]; omega) (by omega)
   rw [← k2, Nat.zero_add, List.drop_zero] at lp
   rw [radd_run]
   have hA : rA l (nR b) = putI l ((freeK (sR l) : Nat) : Int) (nR b) := rfl
   cases hp : putI l ((freeK (sR l) : Nat) : Int) (nR b) with
   | none =>
    refine ⟨.tup [.nilsl, .int .i64 0, .bool false], ⟨[], []⟩, lp.trans ?_, ⟨trivial, trivial, trivial, trivial⟩, ?_⟩
    ·rw [radd_out, branch_of h2, hp, oB_none, branch_of (by rfl)]
    ·rw [rAV, rAK, opq_eq, hA, hp, oB_none, oR_none]; exact .tup (.cons .nil (.cons (.refl _) (.cons (.refl _) .nil)))
   | some c =>
    refine ⟨rAV l (nR b), ⟨[], []⟩, lp.trans ?_, ?_, ?_⟩
    ·rw [radd_out, branch_of h2, hp, oB_some, branch_not (by rfl), rAV, rAK, opq_eq, hA, hp, oB_some]; rfl
    ·rw [hard_id _ _ (rAV_scoped _ _)]; exact rAV_scoped _ _
    ·rw [hard_id _ _ (rAV_scoped _ _)]; exact .refl _
  ·cases h
theorem p58_nat : p58.Nat := by
 intro args k
 simp only [p58, Fun.farW]
 split
 ·exact onNs_nat fun _ _ => onNs_nat fun _ _ => ifT_nat rfl
 ·rfl
noncomputable def f57_l0 : Sim Try.prog :=
 (.seq (.seq (.live [1, 3, 8] (.region 2 [
 ⟨(opMove (some 7) (.tmp 3) 3 "ref.go:128" #[]).op, none⟩,
 ⟨(opBin (some 8) .geq 3 (.tmp 7) (.const (Value.int IntKind.i64 0)) 3 4 "ref.go:128" #[eD 0]).op, none⟩
 ] (by kernel_rfl)))
 (.cond (.tmp 8)
 .skip
 (.live [] (.exit 0))))
 (.seq (.block 1 (.seq (.live [1, 3, 6] (.draw 4 [
 ⟨.qn (opLoadT (.agg [.any]) (some 12) 91 (.tmp 1) d91 ud91 1 sz91 (by kernel_rfl) 91 "ref.go:129" #[]) opLoadT_nat, none⟩,
 ⟨.p (opMove (some 13) (.tmp 3) 3 "ref.go:129" #[]), none⟩,
 ⟨.pn (opMakeF (some 14) 34 (.tmp 13) 5 1 1 (.int .u8 0) el34 [AV.int .u8 0] (by kernel_rfl) (by kernel_rfl) (by kernel_rfl) 34 "ref.go:129" #[eD 1, eD 1]) opMakeF_nat, none⟩,
 ⟨.pn (opCallP p58 (some 15) [(.tmp 12), (.tmp 14)] #[91, 34] 70 "ref.go:129" #[eD 0, eD 2]) (opCallP_nat p58_nat), none⟩,
 ⟨.p (opMove (some 11) (.tmp 15) 70 "ref.go:129" #[eD 3]), none⟩,
 ⟨.p (opExtract (some 16) (.tmp 11) 0 34 "ref.go:129" #[eD 4]), none⟩,
 ⟨.p (opExtract (some 17) (.tmp 11) 1 3 "ref.go:129" #[eD 4, eX 8]), none⟩,
 ⟨.p (opExtract (some 18) (.tmp 11) 2 4 "ref.go:129" #[eD 4, eX 9]), none⟩,
 ⟨.p (opAssign (some 4) (.tmp 16) 34 "ref.go:129" #[eD 5, eC 3, eP 0, eP 1, eP 2, eP 3, eP 4, eP 5, eT 6, eT 7]), none⟩,
 ⟨.p (opAssign (some 5) (.tmp 17) 3 "ref.go:129" #[eD 6, eC 8, eP 0, eP 1, eP 2, eP 3, eP 4, eP 5, eP 6, eT 7, eP 8]), none⟩,
 ⟨.p (opAssign (some 6) (.tmp 18) 4 "ref.go:129" #[eD 7, eC 9, eP 0, eP 1, eP 2, eP 3, eP 4, eP 5, eP 6, eP 7, eP 8, eP 9]), none⟩
 ] mixed (by kernel_rfl)))
 (.seq (.live [1, 3, 19] (.region 5 [
 ⟨(opMove (some 19) (.tmp 6) 4 "ref.go:130" #[]).op, none⟩
 ] (by kernel_rfl)))
 (.cond (.tmp 19)
 (.seq (.live [2] (.region 6 [
 ⟨(opMove (some 20) (.tmp 3) 3 "ref.go:131" #[]).op, none⟩,
 ⟨(opAssign (some 2) (.tmp 20) 3 "ref.go:131" #[eD 0, eP 0]).op, none⟩
 ] (by kernel_rfl)))
 (.live [2] .ret))
 .skip))))
 (.live [1, 3] (.region 3 [
 ⟨(opMove (some 9) (.tmp 3) 3 "ref.go:128" #[]).op, none⟩,
 ⟨(opBin (some 10) .sub 3 (.tmp 9) (.const (Value.int IntKind.i64 1)) 3 3 "ref.go:128" #[eD 0]).op, none⟩,
 ⟨(opAssign (some 3) (.tmp 10) 3 "ref.go:128" #[eD 1, eP 0, eP 1]).op, none⟩
 ] (by kernel_rfl)))))
noncomputable def f57_r0 : Sim Try.prog :=
 (.seq (.live [2] (.region 7 [
 ⟨(opAssign (some 2) (.const (Value.int IntKind.i64 (-1))) 3 "ref.go:134" #[]).op, none⟩
 ] (by kernel_rfl)))
 (.live [2] .ret))
noncomputable def f57_b : Sim Try.prog :=
 (.seq (.live [1] (.region 0 [
 ⟨(opBoxF (some 1) 91 (.tmp 0) 0 "ref.go:127" #[]).op, none⟩,
 ⟨(opAssign (some 2) (.const (Value.int IntKind.i64 0)) 3 "ref.go:127" #[]).op, none⟩
 ] (by kernel_rfl)))
 (.seq (.seq (.live [1, 3] (.region 1 [
 ⟨(opAssign (some 3) (.const (Value.int IntKind.i64 200)) 3 "ref.go:128" #[]).op, none⟩
 ] (by kernel_rfl)))
 (.block 0 (.loop [1, 3] f57_l0)))
 f57_r0))
noncomputable def f57 : Fun Try.prog where
 id := 57
 fn := Try.f57
 hf := Try.func57
 hname := by kernel_rfl
 body := f57_b
 hbody := by kernel_rfl
 res := [rTmp 2]
 hres := by kernel_rfl
 n := 21
 hn := by kernel_rfl
noncomputable def f55_l0 : Sim Try.prog :=
 (.seq (.seq (.live [0, 2, 4, 5, 6, 21] (.region 6 [
 ⟨(opMove (some 16) (.tmp 6) 3 "ref.go:50" #[]).op, none⟩,
 ⟨(opMove (some 17) (.tmp 0) 34 "ref.go:50" #[]).op, none⟩,
 ⟨(opIndexAddrT (some 18) 34 (.tmp 17) (.const (Value.int IntKind.i64 0)) 5 1 Try.underlying34 sz5 0 "ref.go:50" #[eD 1]).op, none⟩,
 ⟨(opLoadT (.one (.int .u8)) (some 19) 5 (.tmp 18) (.int .u8) Try.underlying5 1 sz5 (by kernel_rfl) 5 "ref.go:50" #[eD 2]).op, none⟩,
 ⟨(opConvInt (some 20) 5 3 (.tmp 19) (.int .u8) Try.underlying5 .i64 Try.underlying3 3 "ref.go:50" #[eD 3]).op, none⟩,
 ⟨(opBin (some 21) .lss 3 (.tmp 16) (.tmp 20) 3 4 "ref.go:50" #[eD 0, eD 4]).op, none⟩
 ] (by kernel_rfl)))
 (.cond (.tmp 21)
 .skip
 (.live [0, 2, 4] (.exit 0))))
 (.seq (.block 1 (.seq (.seq (.live [0, 2, 4, 5, 6, 26] (.region 8 [
 ⟨(opMove (some 24) (.tmp 6) 3 "ref.go:51" #[]).op, none⟩,
 ⟨(opBin (some 25) .add 3 (.const (Value.int IntKind.i64 1)) (.tmp 24) 3 3 "ref.go:51" #[eD 0]).op, none⟩,
 ⟨(opBin (some 26) .geq 3 (.tmp 25) (.const (Value.int IntKind.i64 256)) 3 4 "ref.go:51" #[eD 1]).op, none⟩
 ] (by kernel_rfl)))
 (.cond (.tmp 26)
 (.seq (.live [2, 3] (.region 9 [
 ⟨(opBuild (some 27) 91 #[(.slice none 0 0)] [] ze91 (by kernel_rfl) 91 "ref.go:52" #[]).op, none⟩,
 ⟨(opStore none 91 (.tmp 2) (.tmp 27) 1 sz91 0 "ref.go:52" #[eD 0, eP 0]).op, none⟩,
 ⟨(opAssign (some 3) (.const (Value.bool false)) 4 "ref.go:52" #[eC 1, eP 0, eP 1]).op, none⟩
 ] (by kernel_rfl)))
 (.live [2, 3] .ret))
 .skip))
 (.seq (.live [0, 2, 4, 5, 6, 7] (.region 10 [
 ⟨(opMove (some 28) (.tmp 0) 34 "ref.go:54" #[]).op, none⟩,
 ⟨(opMove (some 29) (.tmp 6) 3 "ref.go:54" #[]).op, none⟩,
 ⟨(opBin (some 30) .add 3 (.const (Value.int IntKind.i64 1)) (.tmp 29) 3 3 "ref.go:54" #[eD 1]).op, none⟩,
 ⟨(opIndexAddrT (some 31) 34 (.tmp 28) (.tmp 30) 5 1 Try.underlying34 sz5 0 "ref.go:54" #[eD 0, eD 2]).op, none⟩,
 ⟨(opLoadT (.one (.int .u8)) (some 32) 5 (.tmp 31) (.int .u8) Try.underlying5 1 sz5 (by kernel_rfl) 5 "ref.go:54" #[eD 3]).op, none⟩,
 ⟨(opConvInt (some 33) 5 3 (.tmp 32) (.int .u8) Try.underlying5 .i64 Try.underlying3 3 "ref.go:54" #[eD 4]).op, none⟩,
 ⟨(opBin (some 34) .sub 3 (.tmp 33) (.const (Value.int IntKind.i64 1)) 3 3 "ref.go:54" #[eD 5]).op, none⟩,
 ⟨(opAssign (some 7) (.tmp 34) 3 "ref.go:54" #[eD 6, eP 0, eP 1, eP 2, eP 3, eP 4, eP 5, eP 6]).op, none⟩
 ] (by kernel_rfl)))
 (.seq (.seq (.live [0, 2, 4, 5, 6, 7, 36] (.region 11 [
 ⟨(opMove (some 35) (.tmp 7) 3 "ref.go:55" #[]).op, none⟩,
 ⟨(opBin (some 36) .lss 3 (.tmp 35) (.const (Value.int IntKind.i64 0)) 3 4 "ref.go:55" #[eD 0]).op, none⟩
 ] (by kernel_rfl)))
 (.cond (.tmp 36)
 (.seq (.live [0, 2, 4, 5, 6] (.region 12 [
 ⟨(opFieldAddr (some 37) 91 (.tmp 4) 0 0 1 false fl91_0 (by decide) 0 "ref.go:56" #[]).op, none⟩,
 ⟨(opLoadT (.one .any) (some 38) 22 (.tmp 37) (.slice 34) Try.underlying22 1 sz22 (by kernel_rfl) 22 "ref.go:56" #[eD 0]).op, none⟩,
 ⟨(opBuildSlice (some 39) 22 1 [(0, (.const (Value.slice none 0 0)))] 34 1 24 (.slice none 0 0) el22 (by kernel_rfl) (by decide) 22 "ref.go:56" #[]).op, none⟩,
 ⟨(opAppendR none 2 (some 40) (.tmp 38) (.tmp 39) 22 22 34 1 24 (.slice none 0 0) el22 (.slice 34) Try.underlying22 rfl 22 "ref.go:56" #[eD 1, eD 2]).op, none⟩,
 ⟨(opFieldAddr (some 41) 91 (.tmp 4) 0 0 1 false fl91_0 (by decide) 0 "ref.go:56" #[eP 0, eP 1, eP 2, eP 3]).op, none⟩,
 ⟨(opStore none 22 (.tmp 41) (.tmp 40) 1 sz22 0 "ref.go:56" #[eD 4, eD 3, eC 3, eP 0, eP 1, eP 2, eP 3]).op, none⟩
 ] (by kernel_rfl)))
 (.live [0, 2, 4, 5, 6] (.exit 1)))
 .skip))
 (.seq (.seq (.live [0, 2, 4, 5, 6, 7, 48] (.region 13 [
 ⟨(opMove (some 42) (.tmp 7) 3 "ref.go:59" #[]).op, none⟩,
 ⟨(opBin (some 43) .gtr 3 (.tmp 42) (.const (Value.int IntKind.i64 200)) 3 4 "ref.go:59" #[eD 0]).op, none⟩,
 ⟨(opMove (some 44) (.tmp 43) 4 "ref.go:59" #[eD 1]).op, none⟩,
 ⟨(opMove (some 45) (.tmp 7) 3 "ref.go:59" #[eG 2]).op, (some (2, 44, false))⟩,
 ⟨(opMove (some 46) (.tmp 5) 3 "ref.go:59" #[eG 2]).op, (some (2, 44, false))⟩,
 ⟨(opBin (some 47) .gtr 3 (.tmp 45) (.tmp 46) 3 4 "ref.go:59" #[eD 3, eD 4, eG 2]).op, (some (2, 44, false))⟩,
 ⟨(opPick (some 48) (.tmp 44) (.const (Value.bool true)) (.tmp 47) 4 "ref.go:59" #[eD 2, eD 5]).op, none⟩
 ] (by kernel_rfl)))
 (.cond (.tmp 48)
 (.seq (.live [2, 3] (.region 14 [
 ⟨(opBuild (some 49) 91 #[(.slice none 0 0)] [] ze91 (by kernel_rfl) 91 "ref.go:60" #[]).op, none⟩,
 ⟨(opStore none 91 (.tmp 2) (.tmp 49) 1 sz91 0 "ref.go:60" #[eD 0, eP 0]).op, none⟩,
 ⟨(opAssign (some 3) (.const (Value.bool false)) 4 "ref.go:60" #[eC 1, eP 0, eP 1]).op, none⟩
 ] (by kernel_rfl)))
 (.live [2, 3] .ret))
 .skip))
 (.seq (.live [0, 2, 4, 5, 6, 7] (.region 15 [
 ⟨(opMove (some 50) (.tmp 5) 3 "ref.go:62" #[]).op, none⟩,
 ⟨(opMove (some 51) (.tmp 7) 3 "ref.go:62" #[]).op, none⟩,
 ⟨(opBin (some 52) .sub 3 (.tmp 50) (.tmp 51) 3 3 "ref.go:62" #[eD 0, eD 1]).op, none⟩,
 ⟨(opAssign (some 5) (.tmp 52) 3 "ref.go:62" #[eD 2, eP 0, eP 1, eP 2]).op, none⟩
 ] (by kernel_rfl)))
 (.seq (.live [0, 2, 4, 5, 6, 7, 8] (.region 16 [
 ⟨(opMove (some 53) (.tmp 7) 3 "ref.go:63" #[]).op, none⟩,
 ⟨(opMakeR none 3 (some 54) 34 (.tmp 53) 5 1 1 (.int .u8 0) el34 [AV.int .u8 0] (by kernel_rfl) (by kernel_rfl) 34 "ref.go:63" #[eD 0, eD 0]).op, none⟩,
 ⟨(opAssign (some 8) (.tmp 54) 34 "ref.go:63" #[eD 1, eP 0, eP 1]).op, none⟩
 ] (by kernel_rfl)))
 (.seq (.live [0, 2, 4, 5, 6, 8] (.region 17 [
 ⟨(opMove (some 55) (.tmp 8) 34 "ref.go:64" #[]).op, none⟩,
 ⟨(opMove (some 56) (.tmp 0) 34 "ref.go:64" #[]).op, none⟩,
 ⟨(opMove (some 57) (.tmp 5) 3 "ref.go:64" #[]).op, none⟩,
 ⟨(opMove (some 58) (.tmp 5) 3 "ref.go:64" #[]).op, none⟩,
 ⟨(opMove (some 59) (.tmp 7) 3 "ref.go:64" #[]).op, none⟩,
 ⟨(opBin (some 60) .add 3 (.tmp 58) (.tmp 59) 3 3 "ref.go:64" #[eD 3, eD 4]).op, none⟩,
 ⟨(opSlice (some 61) 34 (.tmp 56) (some (.tmp 57)) (some (.tmp 60)) none 5 1 Try.underlying34 sz5 34 "ref.go:64" #[eD 1, eD 2, eD 5]).op, none⟩,
 ⟨(opCopyV (some 62) (.tmp 55) (.tmp 61) 34 34 5 1 Try.underlying34 sz5 3 "ref.go:64" #[eD 0, eD 6]).op, none⟩
 ] (by kernel_rfl)))
 (.live [0, 2, 4, 5, 6] (.region 18 [
 ⟨(opFieldAddr (some 63) 91 (.tmp 4) 0 0 1 false fl91_0 (by decide) 0 "ref.go:65" #[]).op, none⟩,
 ⟨(opLoadT (.one .any) (some 64) 22 (.tmp 63) (.slice 34) Try.underlying22 1 sz22 (by kernel_rfl) 22 "ref.go:65" #[eD 0]).op, none⟩,
 ⟨(opMoveZ (some 65) (.tmp 8) 34 "ref.go:65" #[]).op, none⟩,
 ⟨(opBuildSlice (some 66) 22 1 [(0, (.tmp 65))] 34 1 24 (.slice none 0 0) el22 (by kernel_rfl) (by decide) 22 "ref.go:65" #[eD 2]).op, none⟩,
 ⟨(opAppendR none 2 (some 67) (.tmp 64) (.tmp 66) 22 22 34 1 24 (.slice none 0 0) el22 (.slice 34) Try.underlying22 rfl 22 "ref.go:65" #[eD 1, eD 3]).op, none⟩,
 ⟨(opFieldAddr (some 68) 91 (.tmp 4) 0 0 1 false fl91_0 (by decide) 0 "ref.go:65" #[eP 0, eP 1, eP 2, eP 3, eP 4]).op, none⟩,
 ⟨(opStore none 22 (.tmp 68) (.tmp 67) 1 sz22 0 "ref.go:65" #[eD 5, eD 4, eC 4, eP 0, eP 1, eP 2, eP 3, eP 4]).op, none⟩
 ] (by kernel_rfl)))))))))))
 (.live [0, 2, 4, 5, 6] (.region 7 [
 ⟨(opMove (some 22) (.tmp 6) 3 "ref.go:50" #[]).op, none⟩,
 ⟨(opBin (some 23) .add 3 (.tmp 22) (.const (Value.int IntKind.i64 1)) 3 3 "ref.go:50" #[eD 0]).op, none⟩,
 ⟨(opAssign (some 6) (.tmp 23) 3 "ref.go:50" #[eD 1, eP 0, eP 1]).op, none⟩
 ] (by kernel_rfl)))))
noncomputable def f55_r0 : Sim Try.prog :=
 (.seq (.live [0, 2, 4, 9, 10] (.region 19 [
 ⟨(opLoadT (.agg [.any]) (some 70) 91 (.tmp 4) d91 ud91 1 sz91 (by kernel_rfl) 91 "ref.go:67" #[]).op, none⟩,
 ⟨(opCallQ q60 (some 71) [(.tmp 70)] #[91] 37 "ref.go:67" #[eD 0]).op, none⟩,
 ⟨(opMove (some 69) (.tmp 71) 37 "ref.go:67" #[eD 1]).op, none⟩,
 ⟨(opExtract (some 72) (.tmp 69) 0 34 "ref.go:67" #[eD 2]).op, none⟩,
 ⟨(opExtract (some 73) (.tmp 69) 1 4 "ref.go:67" #[eD 2, eX 5]).op, none⟩,
 ⟨(opAssign (some 9) (.tmp 72) 34 "ref.go:67" #[eD 3, eC 1, eP 0, eP 1, eP 2, eP 3, eT 4]).op, none⟩,
 ⟨(opAssign (some 10) (.tmp 73) 4 "ref.go:67" #[eD 4, eC 5, eP 0, eP 1, eP 2, eP 3, eP 4, eP 5]).op, none⟩
 ] (by kernel_rfl)))
 (.seq (.seq (.live [2, 4, 91] (.draw 20 [
 ⟨.p (opMove (some 74) (.tmp 10) 4 "ref.go:68" #[]), none⟩,
 ⟨.p (opNot (some 75) 4 (.tmp 74) 4 "ref.go:68" #[eD 0]), none⟩,
 ⟨.p (opMove (some 76) (.tmp 75) 4 "ref.go:68" #[eD 1]), none⟩,
 ⟨.p (opMove (some 77) (.tmp 9) 34 "ref.go:68" #[eG 2]), (some (2, 76, false))⟩,
 ⟨.p (opMove (some 78) (.tmp 0) 34 "ref.go:68" #[eG 2]), (some (2, 76, false))⟩,
 ⟨.pn (opCallP p15 (some 79) [(.tmp 77), (.tmp 78)] #[34, 34] 4 "ref.go:68" #[eD 3, eD 4, eC 2, eG 2]) (opCallP_nat p15_nat), (some (2, 76, false))⟩,
 ⟨.p (opNot (some 80) 4 (.tmp 79) 4 "ref.go:68" #[eD 5, eG 2]), (some (2, 76, false))⟩,
 ⟨.p (opPick (some 81) (.tmp 76) (.const (Value.bool true)) (.tmp 80) 4 "ref.go:68" #[eD 2, eD 6]), none⟩,
 ⟨.p (opMove (some 82) (.tmp 81) 4 "ref.go:68" #[eD 7, eC 5]), none⟩,
 ⟨.pn (opFieldAddr (some 83) 91 (.tmp 4) 0 0 1 false fl91_0 (by decide) 0 "ref.go:68" #[eG 8]) opFieldAddr_nat, (some (8, 82, false))⟩,
 ⟨.qn (opLoadT (.one .any) (some 84) 22 (.tmp 83) (.slice 34) Try.underlying22 1 sz22 (by kernel_rfl) 22 "ref.go:68" #[eD 9, eG 8]) opLoadT_nat, (some (8, 82, false))⟩,
 ⟨.qn (opCallQ q78 (some 85) [(.tmp 84)] #[22] 22 "ref.go:68" #[eD 10, eC 8, eG 8]) (opCallQ_nat q78_nat), (some (8, 82, false))⟩,
 ⟨.p (opLen (some 86) (.tmp 85) 22 (.slice 34) Try.underlying22 3 "ref.go:68" #[eD 11, eG 8]), (some (8, 82, false))⟩,
 ⟨.pn (opFieldAddr (some 87) 91 (.tmp 4) 0 0 1 false fl91_0 (by decide) 0 "ref.go:68" #[eG 8]) opFieldAddr_nat, (some (8, 82, false))⟩,
 ⟨.qn (opLoadT (.one .any) (some 88) 22 (.tmp 87) (.slice 34) Try.underlying22 1 sz22 (by kernel_rfl) 22 "ref.go:68" #[eD 13, eG 8]) opLoadT_nat, (some (8, 82, false))⟩,
 ⟨.p (opLen (some 89) (.tmp 88) 22 (.slice 34) Try.underlying22 3 "ref.go:68" #[eD 14, eG 8]), (some (8, 82, false))⟩,
 ⟨.pn (opBin (some 90) .neq 3 (.tmp 86) (.tmp 89) 3 4 "ref.go:68" #[eD 12, eD 15, eG 8]) opBin_nat, (some (8, 82, false))⟩,
 ⟨.p (opPick (some 91) (.tmp 82) (.const (Value.bool true)) (.tmp 90) 4 "ref.go:68" #[eD 8, eD 16]), none⟩
 ] mixed (by kernel_rfl)))
 (.cond (.tmp 91)
 (.seq (.live [2, 3] (.region 21 [
 ⟨(opBuild (some 92) 91 #[(.slice none 0 0)] [] ze91 (by kernel_rfl) 91 "ref.go:69" #[]).op, none⟩,
 ⟨(opStore none 91 (.tmp 2) (.tmp 92) 1 sz91 0 "ref.go:69" #[eD 0, eP 0]).op, none⟩,
 ⟨(opAssign (some 3) (.const (Value.bool false)) 4 "ref.go:69" #[eC 1, eP 0, eP 1]).op, none⟩
 ] (by kernel_rfl)))
 (.live [2, 3] .ret))
 .skip))
 (.seq (.live [2, 3] (.region 22 [
 ⟨(opLoadT (.agg [.any]) (some 93) 91 (.tmp 4) d91 ud91 1 sz91 (by kernel_rfl) 91 "ref.go:71" #[]).op, none⟩,
 ⟨(opStore none 91 (.tmp 2) (.tmp 93) 1 sz91 0 "ref.go:71" #[eD 0, eP 0]).op, none⟩,
 ⟨(opAssign (some 3) (.const (Value.bool true)) 4 "ref.go:71" #[eC 1, eP 0, eP 1]).op, none⟩
 ] (by kernel_rfl)))
 (.live [2, 3] .ret))))
noncomputable def f55_b : Sim Try.prog :=
 (.seq (.live [0, 2] (.region 0 [
 ⟨(opAlloc (some 2) 91 (.agg #[(.slice none 0 0)]) ze91 0 "ref.go:44" #[]).op, none⟩,
 ⟨(opAssign (some 3) (.const (Value.bool false)) 4 "ref.go:44" #[]).op, none⟩
 ] (by kernel_rfl)))
 (.seq (.seq (.live [0, 2, 13] (.region 1 [
 ⟨(opMove (some 11) (.tmp 0) 34 "ref.go:45" #[]).op, none⟩,
 ⟨(opLen (some 12) (.tmp 11) 34 (.slice 5) Try.underlying34 3 "ref.go:45" #[eD 0]).op, none⟩,
 ⟨(opBin (some 13) .neq 3 (.tmp 12) (.const (Value.int IntKind.i64 256)) 3 4 "ref.go:45" #[eD 1]).op, none⟩
 ] (by kernel_rfl)))
 (.cond (.tmp 13)
 (.seq (.live [2, 3] (.region 2 [
 ⟨(opBuild (some 14) 91 #[(.slice none 0 0)] [] ze91 (by kernel_rfl) 91 "ref.go:46" #[]).op, none⟩,
 ⟨(opStore none 91 (.tmp 2) (.tmp 14) 1 sz91 0 "ref.go:46" #[eD 0, eP 0]).op, none⟩,
 ⟨(opAssign (some 3) (.const (Value.bool false)) 4 "ref.go:46" #[eC 1, eP 0, eP 1]).op, none⟩
 ] (by kernel_rfl)))
 (.live [2, 3] .ret))
 .skip))
 (.seq (.live [0, 2, 4] (.region 3 [
 ⟨(opBuild (some 15) 91 #[(.slice none 0 0)] [] ze91 (by kernel_rfl) 91 "ref.go:48" #[]).op, none⟩,
 ⟨(MSim.ph (opAlloc (some 4) 91 (.agg #[(.slice none 0 0)]) ze91 0 "ref.go:48" #[]) 2).op, none⟩,
 ⟨(opStore none 91 (.tmp 4) (.tmp 15) 1 sz91 0 "ref.go:48" #[eD 1, eD 0, eP 0, eP 1]).op, none⟩
 ] (by kernel_rfl)))
 (.seq (.live [0, 2, 4, 5] (.region 4 [
 ⟨(opAssign (some 5) (.const (Value.int IntKind.i64 256)) 3 "ref.go:49" #[]).op, none⟩
 ] (by kernel_rfl)))
 (.seq (.seq (.live [0, 2, 4, 5, 6] (.region 5 [
 ⟨(opAssign (some 6) (.const (Value.int IntKind.i64 0)) 3 "ref.go:50" #[]).op, none⟩
 ] (by kernel_rfl)))
 (.block 0 (.loop [0, 2, 4, 5, 6] f55_l0)))
 f55_r0)))))
noncomputable def f55 : Fun Try.prog where
 id := 55
 fn := Try.f55
 hf := Try.func55
 hname := by kernel_rfl
 body := f55_b
 hbody := by kernel_rfl
 res := [rCell 2 91 d91 ud91 1 sz91, rTmp 3]
 hres := by kernel_rfl
 n := 94
 hn := by kernel_rfl
theorem rroom_run (F : Nat) (z : Bool) (l : List (List AV)) :
 (f57.run F [.agg [.ns z 1 l]] ⟨[], []⟩ : Ans) =
 loopRun (f57_l0.run F) [1, 3]
 (Cont.block 0 (Cont.then (f57_r0.run F (f57.leaveK Fun.done)) (f57.leaveK Fun.done))) F
 (Env.mk 21 [(1, AV.eptr [AV.ns z 1 l]), (3, .int .i64 200)])
 (St.mk [] []) := by kernel_rfl
theorem rroom_round (F m : Nat) (K : Cont) (z : Bool) (l : List (List AV)) (i : Int) :
 (loopRun (f57_l0.run F) [1, 3] K m.succ (Env.mk 21 [(1, .eptr [.ns z 1 l]), (3, .int .i64 i)]) ⟨[], []⟩ : Ans) =
 branch (.bool (decide (i ≥ 0)))
 (branch
 (AV.bool
 (decide ((0 : Int) ≤ i) &&
 ((1 * i.toNat).ble 281474976710656 && i.toNat.ble 9223372036854775807)))
 (branch
 (AV.bool
 (isN l &&
 (byOk (List.replicate i.toNat [AV.int IntKind.u8 (0 : Int)]) &&
 cdec ((List.replicate i.toNat [AV.int IntKind.u8 (0 : Int)]).length ≤ 1000000))))
 (branch (.bool (oB (rA l (nR (List.replicate i.toNat [AV.int IntKind.u8 (0 : Int)])))))
 (K AX.ret (Env.mk 21 [(2, .int .i64 i)]) (St.mk [] []))
 (loopRun (f57_l0.run F) [1, 3] K m
 (Env.mk 21
 [(1, AV.eptr [AV.ns z 1 l]),
 (3, .int .i64 (IntKind.i64.wrap (i - 1)))])
 (St.mk [] [])))
 none)
 none)
 (K (AX.exit 0) (Env.mk 21 []) (St.mk [] [])) := by kernel_rfl
theorem rof_run (F : Nat) (z : Bool) (l : List (List AV)) :
 (f55.run F [.ns z 1 l] ⟨[], []⟩ : Ans) =
 branch (.bool ((↑l.length : Int) != 256))
 (some (Fin.ret (AV.tup [AV.agg [AV.nilsl], AV.bool false]), St.mk [Ob.cells [AV.nilsl]] []))
 (loopRun (f55_l0.run F) [0, 2, 4, 5, 6]
 (Cont.block 0 (Cont.then (f55_r0.run F (f55.leaveK Fun.done)) (f55.leaveK Fun.done))) F
 (Env.mk 94
 [(0, AV.ns z 1 l), (2, AV.ptr 0 0),
 (4, AV.ptr 1 0), (5, .int .i64 256),
 (6, .int .i64 0)])
 (St.mk [Ob.cells [AV.nilsl], Ob.cells [AV.nilsl], Ob.nov 0, Ob.nov 0] [])) := by kernel_rfl
theorem rroom_out (F : Nat) (st : St) :
 ((Cont.block 0 (Cont.then (f57_r0.run F (f57.leaveK Fun.done)) (f57.leaveK Fun.done))) (.exit 0) (Env.mk 21 []) st : Ans) =
 some (Fin.ret (.int .i64 (-1 : Int)), st) := by kernel_rfl
theorem rroom_ret (F : Nat) (i : Int) (st : St) :
 ((Cont.block 0 (Cont.then (f57_r0.run F (f57.leaveK Fun.done)) (f57.leaveK Fun.done))) .ret (Env.mk 21 [(2, .int .i64 i)]) st : Ans) =
 some (Fin.ret (.int .i64 i), st) := by kernel_rfl
theorem rof_round0 (F m : Nat) (K : Cont) (z : Bool) (l : List (List AV)) (e i : Int) (u : Nat) :
 (loopRun (f55_l0.run F) [0, 2, 4, 5, 6] K m.succ (Env.mk 94 [(0, .ns z 1 l), (2, .ptr 0 0), (4, .ptr 1 0), (5, .int .i64 e), (6, .int .i64 i)]) ⟨[.cells [.nilsl], .cells [.nilsl], .nov 0, .nov u], []⟩ : Ans) =
 branch (.bool (inR l (0 : Int)))
 (branch (.bool ((LD.one (LT.int IntKind.u8)).is (V.rowAt l (0 : Int))))
 (branch (.bool (decide (i < IntKind.i64.wrap (hdI (V.rowAt l (0 : Int))))))
 (branch (.bool (decide (IntKind.i64.wrap ((1 : Int) + i) ≥ 256)))
 (K AX.ret (Env.mk 94 [(2, AV.ptr 0 0), (3, AV.bool false)])
 (St.mk [Ob.cells [AV.nilsl], Ob.cells [AV.nilsl], Ob.nov 0, Ob.nov u] []))
 (branch (.bool (inR l (IntKind.i64.wrap ((1 : Int) + i))))
 (branch (.bool ((LD.one (LT.int IntKind.u8)).is (V.rowAt l (IntKind.i64.wrap ((1 : Int) + i)))))
 (branch
 (AV.bool
 (decide
 (IntKind.i64.wrap
 (IntKind.i64.wrap (hdI (V.rowAt l (IntKind.i64.wrap ((1 : Int) + i)))) - 1) <
 (0 : Int))))
 (branch (.bool (apOk 1 24))
 (loopRun (f55_l0.run F) [0, 2, 4, 5, 6] K m
 (Env.mk 94
 [(0, AV.ns z 1 l), (2, AV.ptr 0 0),
 (4, AV.ptr 1 0), (5, .int .i64 e),
 (6, .int .i64 (IntKind.i64.wrap (i + 1)))])
 (St.mk
 [Ob.cells [AV.nilsl], Ob.cells [AV.vs 2 1 1 1],
 Ob.vec 1 (catC [] 0 [[AV.nilsl]]), Ob.nov u]
 []))
 none)
 (branch
 (AV.bool
 (decide
 (IntKind.i64.wrap
 (IntKind.i64.wrap (hdI (V.rowAt l (IntKind.i64.wrap ((1 : Int) + i)))) - 1) >
 (200 : Int))))
 (K AX.ret (Env.mk 94 [(2, AV.ptr 0 0), (3, AV.bool false)])
 (St.mk [Ob.cells [AV.nilsl], Ob.cells [AV.nilsl], Ob.nov 0, Ob.nov u] []))
 (branch
 (AV.bool
 (decide
 (IntKind.i64.wrap
 (IntKind.i64.wrap (hdI (V.rowAt l (IntKind.i64.wrap ((1 : Int) + i)))) - 1) >
 e)))
 (K AX.ret (Env.mk 94 [(2, AV.ptr 0 0), (3, AV.bool false)])
 (St.mk [Ob.cells [AV.nilsl], Ob.cells [AV.nilsl], Ob.nov 0, Ob.nov u] []))
 (branch
 (AV.bool
 (mkOk 1
 (IntKind.i64.wrap
 (IntKind.i64.wrap (hdI (V.rowAt l (IntKind.i64.wrap ((1 : Int) + i)))) - 1))))
 (if
 (0 : Int) ≤
 IntKind.i64.wrap
 (IntKind.i64.wrap
 (e -
 IntKind.i64.wrap
 (IntKind.i64.wrap (hdI (V.rowAt l (IntKind.i64.wrap ((1 : Int) + i)))) -
 (1 : Int))) +
 IntKind.i64.wrap
 (IntKind.i64.wrap (hdI (V.rowAt l (IntKind.i64.wrap ((1 : Int) + i)))) - 1)) ∧
 IntKind.i64.wrap
 (IntKind.i64.wrap
 (e -
 IntKind.i64.wrap
 (IntKind.i64.wrap (hdI (V.rowAt l (IntKind.i64.wrap ((1 : Int) + i)))) -
 (1 : Int))) +
 IntKind.i64.wrap
 (IntKind.i64.wrap (hdI (V.rowAt l (IntKind.i64.wrap ((1 : Int) + i)))) - 1)) ≤
 (↑l.length : Int) then
 if
 (0 : Int) ≤
 IntKind.i64.wrap
 (e -
 IntKind.i64.wrap
 (IntKind.i64.wrap (hdI (V.rowAt l (IntKind.i64.wrap ((1 : Int) + i)))) -
 (1 : Int))) ∧
 IntKind.i64.wrap
 (e -
 IntKind.i64.wrap
 (IntKind.i64.wrap (hdI (V.rowAt l (IntKind.i64.wrap ((1 : Int) + i)))) -
 (1 : Int))) ≤
 (↑(IntKind.i64.wrap
 (IntKind.i64.wrap
 (e -
 IntKind.i64.wrap
 (IntKind.i64.wrap (hdI (V.rowAt l (IntKind.i64.wrap ((1 : Int) + i)))) -
 (1 : Int))) +
 IntKind.i64.wrap
 (IntKind.i64.wrap (hdI (V.rowAt l (IntKind.i64.wrap ((1 : Int) + i)))) -
 (1 : Int)))).toNat :
 Int) then
 branch
 (AV.bool
 ((u + 1).beq (u + 1) &&
 inC
 (zerC
 (IntKind.i64.wrap
 (IntKind.i64.wrap (hdI (V.rowAt l (IntKind.i64.wrap ((1 : Int) + i)))) -
 (1 : Int))).toNat
 [AV.int IntKind.u8 (0 : Int)])
 0
 (mulN
 (minN
 (List.drop
 (IntKind.i64.wrap
 (e -
 IntKind.i64.wrap
 (IntKind.i64.wrap (hdI (V.rowAt l (IntKind.i64.wrap ((1 : Int) + i)))) -
 (1 : Int)))).toNat
 (List.take
 (IntKind.i64.wrap
 (IntKind.i64.wrap
 (e -
 IntKind.i64.wrap
 (IntKind.i64.wrap
 (hdI (V.rowAt l (IntKind.i64.wrap ((1 : Int) + i)))) -
 (1 : Int))) +
 IntKind.i64.wrap
 (IntKind.i64.wrap
 (hdI (V.rowAt l (IntKind.i64.wrap ((1 : Int) + i)))) -
 (1 : Int)))).toNat
 l)).length
 (IntKind.i64.wrap
 (IntKind.i64.wrap (hdI (V.rowAt l (IntKind.i64.wrap ((1 : Int) + i)))) -
 (1 : Int))).toNat)
 1)))
 (branch
 (AV.bool
 ((u + 1).beq (u + 1) &&
 inC
 (setC
 (zerC
 (IntKind.i64.wrap
 (IntKind.i64.wrap (hdI (V.rowAt l (IntKind.i64.wrap ((1 : Int) + i)))) -
 (1 : Int))).toNat
 [AV.int IntKind.u8 (0 : Int)])
 0
 (flC
 (List.drop
 (IntKind.i64.wrap
 (e -
 IntKind.i64.wrap
 (IntKind.i64.wrap (hdI (V.rowAt l (IntKind.i64.wrap ((1 : Int) + i)))) -
 (1 : Int)))).toNat
 (List.take
 (IntKind.i64.wrap
 (IntKind.i64.wrap
 (e -
 IntKind.i64.wrap
 (IntKind.i64.wrap
 (hdI (V.rowAt l (IntKind.i64.wrap ((1 : Int) + i)))) -
 (1 : Int))) +
 IntKind.i64.wrap
 (IntKind.i64.wrap
 (hdI (V.rowAt l (IntKind.i64.wrap ((1 : Int) + i)))) -
 (1 : Int)))).toNat
 l))
 (minN
 (List.drop
 (IntKind.i64.wrap
 (e -
 IntKind.i64.wrap
 (IntKind.i64.wrap
 (hdI (V.rowAt l (IntKind.i64.wrap ((1 : Int) + i)))) -
 (1 : Int)))).toNat
 (List.take
 (IntKind.i64.wrap
 (IntKind.i64.wrap
 (e -
 IntKind.i64.wrap
 (IntKind.i64.wrap
 (hdI (V.rowAt l (IntKind.i64.wrap ((1 : Int) + i)))) -
 (1 : Int))) +
 IntKind.i64.wrap
 (IntKind.i64.wrap
 (hdI (V.rowAt l (IntKind.i64.wrap ((1 : Int) + i)))) -
 (1 : Int)))).toNat
 l)).length
 (IntKind.i64.wrap
 (IntKind.i64.wrap (hdI (V.rowAt l (IntKind.i64.wrap ((1 : Int) + i)))) -
 (1 : Int))).toNat)))
 0
 (mulN
 (IntKind.i64.wrap
 (IntKind.i64.wrap (hdI (V.rowAt l (IntKind.i64.wrap ((1 : Int) + i)))) -
 (1 : Int))).toNat
 1)))
 (branch (.bool (apOk 1 24))
 (loopRun (f55_l0.run F) [0, 2, 4, 5, 6] K m
 (Env.mk 94
 [(0, AV.ns z 1 l), (2, AV.ptr 0 0),
 (4, AV.ptr 1 0),
 (5,
 AV.int IntKind.i64
 (IntKind.i64.wrap
 (e -
 IntKind.i64.wrap
 (IntKind.i64.wrap (hdI (V.rowAt l (IntKind.i64.wrap ((1 : Int) + i)))) -
 (1 : Int))))),
 (6, .int .i64 (IntKind.i64.wrap (i + 1)))])
 (St.mk
 [Ob.cells [AV.nilsl], Ob.cells [AV.vs 2 1 1 1],
 Ob.vec 1
 (catC [] 0
 [[AV.ns false 1
 (rowsC 1
 (IntKind.i64.wrap
 (IntKind.i64.wrap
 (hdI (V.rowAt l (IntKind.i64.wrap ((1 : Int) + i)))) -
 (1 : Int))).toNat
 (setC
 (zerC
 (IntKind.i64.wrap
 (IntKind.i64.wrap
 (hdI (V.rowAt l (IntKind.i64.wrap ((1 : Int) + i)))) -
 (1 : Int))).toNat
 [AV.int IntKind.u8 (0 : Int)])
 0
 (flC
 (List.drop
 (IntKind.i64.wrap
 (e -
 IntKind.i64.wrap
 (IntKind.i64.wrap
 (hdI (V.rowAt l (IntKind.i64.wrap ((1 : Int) + i)))) -
 (1 : Int)))).toNat
 (List.take
 (IntKind.i64.wrap
 (IntKind.i64.wrap
 (e -
 IntKind.i64.wrap
 (IntKind.i64.wrap
 (hdI
 (V.rowAt l
 (IntKind.i64.wrap ((1 : Int) + i)))) -
 (1 : Int))) +
 IntKind.i64.wrap
 (IntKind.i64.wrap
 (hdI
 (V.rowAt l (IntKind.i64.wrap ((1 : Int) + i)))) -
 (1 : Int)))).toNat
 l))
 (minN
 (List.drop
 (IntKind.i64.wrap
 (e -
 IntKind.i64.wrap
 (IntKind.i64.wrap
 (hdI
 (V.rowAt l
 (IntKind.i64.wrap ((1 : Int) + i)))) -
 (1 : Int)))).toNat
 (List.take
 (IntKind.i64.wrap
 (IntKind.i64.wrap
 (e -
 IntKind.i64.wrap
 (IntKind.i64.wrap
 (hdI
 (V.rowAt l
 (IntKind.i64.wrap ((1 : Int) + i)))) -
 (1 : Int))) +
 IntKind.i64.wrap
 (IntKind.i64.wrap
 (hdI
 (V.rowAt l
 (IntKind.i64.wrap ((1 : Int) + i)))) -
 (1 : Int)))).toNat
 l)).length
 (IntKind.i64.wrap
 (IntKind.i64.wrap
 (hdI (V.rowAt l (IntKind.i64.wrap ((1 : Int) + i)))) -
 (1 : Int))).toNat)))
 0)]]),
 Ob.nov (u + 1 + 1)]
 []))
 none)
 none)
 none
 else none
 else none)
 none))))
 none)
 none))
 (K (AX.exit 0)
 (Env.mk 94
 [(0, AV.ns z 1 l), (2, AV.ptr 0 0),
 (4, AV.ptr 1 0)])
 (St.mk [Ob.cells [AV.nilsl], Ob.cells [AV.nilsl], Ob.nov 0, Ob.nov u] [])))
 none)
 none := by kernel_rfl
theorem rof_round (F m : Nat) (K : Cont) (z : Bool) (l : List (List AV)) (e i : Int) (v n u : Nat) (cs : List AV) :
 (loopRun (f55_l0.run F) [0, 2, 4, 5, 6] K m.succ (Env.mk 94 [(0, .ns z 1 l), (2, .ptr 0 0), (4, .ptr 1 0), (5, .int .i64 e), (6, .int .i64 i)]) ⟨[.cells [.nilsl], .cells [.vs 2 v 1 n], .vec v cs, .nov u], []⟩ : Ans) =
 branch (.bool (inR l (0 : Int)))
 (branch (.bool ((LD.one (LT.int IntKind.u8)).is (V.rowAt l (0 : Int))))
 (branch (.bool (decide (i < IntKind.i64.wrap (hdI (V.rowAt l (0 : Int))))))
 (branch (.bool (decide (IntKind.i64.wrap ((1 : Int) + i) ≥ 256)))
 (K AX.ret (Env.mk 94 [(2, AV.ptr 0 0), (3, AV.bool false)])
 (St.mk [Ob.cells [AV.nilsl], Ob.cells [AV.vs 2 v 1 n], Ob.vec v cs, Ob.nov u] []))
 (branch (.bool (inR l (IntKind.i64.wrap ((1 : Int) + i))))
 (branch (.bool ((LD.one (LT.int IntKind.u8)).is (V.rowAt l (IntKind.i64.wrap ((1 : Int) + i)))))
 (branch
 (AV.bool
 (decide
 (IntKind.i64.wrap
 (IntKind.i64.wrap (hdI (V.rowAt l (IntKind.i64.wrap ((1 : Int) + i)))) - 1) <
 (0 : Int))))
 (branch (.bool (v.beq v && (inC cs 0 (mulN n 1) && apOk (n + 1) 24)))
 (loopRun (f55_l0.run F) [0, 2, 4, 5, 6] K m
 (Env.mk 94
 [(0, AV.ns z 1 l), (2, AV.ptr 0 0),
 (4, AV.ptr 1 0), (5, .int .i64 e),
 (6, .int .i64 (IntKind.i64.wrap (i + 1)))])
 (St.mk
 [Ob.cells [AV.nilsl], Ob.cells [AV.vs 2 (v + 1) 1 (n + 1)],
 Ob.vec (v + 1) (catC cs (mulN n 1) [[AV.nilsl]]), Ob.nov u]
 []))
 none)
 (branch
 (AV.bool
 (decide
 (IntKind.i64.wrap
 (IntKind.i64.wrap (hdI (V.rowAt l (IntKind.i64.wrap ((1 : Int) + i)))) - 1) >
 (200 : Int))))
 (K AX.ret (Env.mk 94 [(2, AV.ptr 0 0), (3, AV.bool false)])
 (St.mk [Ob.cells [AV.nilsl], Ob.cells [AV.vs 2 v 1 n], Ob.vec v cs, Ob.nov u] []))
 (branch
 (AV.bool
 (decide
 (IntKind.i64.wrap
 (IntKind.i64.wrap (hdI (V.rowAt l (IntKind.i64.wrap ((1 : Int) + i)))) - 1) >
 e)))
 (K AX.ret (Env.mk 94 [(2, AV.ptr 0 0), (3, AV.bool false)])
 (St.mk [Ob.cells [AV.nilsl], Ob.cells [AV.vs 2 v 1 n], Ob.vec v cs, Ob.nov u] []))
 (branch
 (AV.bool
 (mkOk 1
 (IntKind.i64.wrap
 (IntKind.i64.wrap (hdI (V.rowAt l (IntKind.i64.wrap ((1 : Int) + i)))) - 1))))
 (if
 (0 : Int) ≤
 IntKind.i64.wrap
 (IntKind.i64.wrap
 (e -
 IntKind.i64.wrap
 (IntKind.i64.wrap (hdI (V.rowAt l (IntKind.i64.wrap ((1 : Int) + i)))) -
 (1 : Int))) +
 IntKind.i64.wrap
 (IntKind.i64.wrap (hdI (V.rowAt l (IntKind.i64.wrap ((1 : Int) + i)))) - 1)) ∧
 IntKind.i64.wrap
 (IntKind.i64.wrap
 (e -
 IntKind.i64.wrap
 (IntKind.i64.wrap (hdI (V.rowAt l (IntKind.i64.wrap ((1 : Int) + i)))) -
 (1 : Int))) +
 IntKind.i64.wrap
 (IntKind.i64.wrap (hdI (V.rowAt l (IntKind.i64.wrap ((1 : Int) + i)))) - 1)) ≤
 (↑l.length : Int) then
 if
 (0 : Int) ≤
 IntKind.i64.wrap
 (e -
 IntKind.i64.wrap
 (IntKind.i64.wrap (hdI (V.rowAt l (IntKind.i64.wrap ((1 : Int) + i)))) -
 (1 : Int))) ∧
 IntKind.i64.wrap
 (e -
 IntKind.i64.wrap
 (IntKind.i64.wrap (hdI (V.rowAt l (IntKind.i64.wrap ((1 : Int) + i)))) -
 (1 : Int))) ≤
 (↑(IntKind.i64.wrap
 (IntKind.i64.wrap
 (e -
 IntKind.i64.wrap
 (IntKind.i64.wrap (hdI (V.rowAt l (IntKind.i64.wrap ((1 : Int) + i)))) -
 (1 : Int))) +
 IntKind.i64.wrap
 (IntKind.i64.wrap (hdI (V.rowAt l (IntKind.i64.wrap ((1 : Int) + i)))) -
 (1 : Int)))).toNat :
 Int) then
 branch
 (AV.bool
 ((u + 1).beq (u + 1) &&
 inC
 (zerC
 (IntKind.i64.wrap
 (IntKind.i64.wrap (hdI (V.rowAt l (IntKind.i64.wrap ((1 : Int) + i)))) -
 (1 : Int))).toNat
 [AV.int IntKind.u8 (0 : Int)])
 0
 (mulN
 (minN
 (List.drop
 (IntKind.i64.wrap
 (e -
 IntKind.i64.wrap
 (IntKind.i64.wrap (hdI (V.rowAt l (IntKind.i64.wrap ((1 : Int) + i)))) -
 (1 : Int)))).toNat
 (List.take
 (IntKind.i64.wrap
 (IntKind.i64.wrap
 (e -
 IntKind.i64.wrap
 (IntKind.i64.wrap
 (hdI (V.rowAt l (IntKind.i64.wrap ((1 : Int) + i)))) -
 (1 : Int))) +
 IntKind.i64.wrap
 (IntKind.i64.wrap
 (hdI (V.rowAt l (IntKind.i64.wrap ((1 : Int) + i)))) -
 (1 : Int)))).toNat
 l)).length
 (IntKind.i64.wrap
 (IntKind.i64.wrap (hdI (V.rowAt l (IntKind.i64.wrap ((1 : Int) + i)))) -
 (1 : Int))).toNat)
 1)))
 (branch
 (AV.bool
 ((u + 1).beq (u + 1) &&
 inC
 (setC
 (zerC
 (IntKind.i64.wrap
 (IntKind.i64.wrap (hdI (V.rowAt l (IntKind.i64.wrap ((1 : Int) + i)))) -
 (1 : Int))).toNat
 [AV.int IntKind.u8 (0 : Int)])
 0
 (flC
 (List.drop
 (IntKind.i64.wrap
 (e -
 IntKind.i64.wrap
 (IntKind.i64.wrap (hdI (V.rowAt l (IntKind.i64.wrap ((1 : Int) + i)))) -
 (1 : Int)))).toNat
 (List.take
 (IntKind.i64.wrap
 (IntKind.i64.wrap
 (e -
 IntKind.i64.wrap
 (IntKind.i64.wrap
 (hdI (V.rowAt l (IntKind.i64.wrap ((1 : Int) + i)))) -
 (1 : Int))) +
 IntKind.i64.wrap
 (IntKind.i64.wrap
 (hdI (V.rowAt l (IntKind.i64.wrap ((1 : Int) + i)))) -
 (1 : Int)))).toNat
 l))
 (minN
 (List.drop
 (IntKind.i64.wrap
 (e -
 IntKind.i64.wrap
 (IntKind.i64.wrap
 (hdI (V.rowAt l (IntKind.i64.wrap ((1 : Int) + i)))) -
 (1 : Int)))).toNat
 (List.take
 (IntKind.i64.wrap
 (IntKind.i64.wrap
 (e -
 IntKind.i64.wrap
 (IntKind.i64.wrap
 (hdI (V.rowAt l (IntKind.i64.wrap ((1 : Int) + i)))) -
 (1 : Int))) +
 IntKind.i64.wrap
 (IntKind.i64.wrap
 (hdI (V.rowAt l (IntKind.i64.wrap ((1 : Int) + i)))) -
 (1 : Int)))).toNat
 l)).length
 (IntKind.i64.wrap
 (IntKind.i64.wrap (hdI (V.rowAt l (IntKind.i64.wrap ((1 : Int) + i)))) -
 (1 : Int))).toNat)))
 0
 (mulN
 (IntKind.i64.wrap
 (IntKind.i64.wrap (hdI (V.rowAt l (IntKind.i64.wrap ((1 : Int) + i)))) -
 (1 : Int))).toNat
 1)))
 (branch
 (AV.bool
 (v.beq v && (inC cs 0 (mulN n 1) && apOk (n + 1) 24)))
 (loopRun (f55_l0.run F) [0, 2, 4, 5, 6] K m
 (Env.mk 94
 [(0, AV.ns z 1 l), (2, AV.ptr 0 0),
 (4, AV.ptr 1 0),
 (5,
 AV.int IntKind.i64
 (IntKind.i64.wrap
 (e -
 IntKind.i64.wrap
 (IntKind.i64.wrap (hdI (V.rowAt l (IntKind.i64.wrap ((1 : Int) + i)))) -
 (1 : Int))))),
 (6, .int .i64 (IntKind.i64.wrap (i + 1)))])
 (St.mk
 [Ob.cells [AV.nilsl],
 Ob.cells [AV.vs 2 (v + 1) 1 (n + 1)],
 Ob.vec (v + 1)
 (catC cs (mulN n 1)
 [[AV.ns false 1
 (rowsC 1
 (IntKind.i64.wrap
 (IntKind.i64.wrap
 (hdI (V.rowAt l (IntKind.i64.wrap ((1 : Int) + i)))) -
 (1 : Int))).toNat
 (setC
 (zerC
 (IntKind.i64.wrap
 (IntKind.i64.wrap
 (hdI (V.rowAt l (IntKind.i64.wrap ((1 : Int) + i)))) -
 (1 : Int))).toNat
 [AV.int IntKind.u8 (0 : Int)])
 0
 (flC
 (List.drop
 (IntKind.i64.wrap
 (e -
 IntKind.i64.wrap
 (IntKind.i64.wrap
 (hdI (V.rowAt l (IntKind.i64.wrap ((1 : Int) + i)))) -
 (1 : Int)))).toNat
 (List.take
 (IntKind.i64.wrap
 (IntKind.i64.wrap
 (e -
 IntKind.i64.wrap
 (IntKind.i64.wrap
 (hdI
 (V.rowAt l
 (IntKind.i64.wrap ((1 : Int) + i)))) -
 (1 : Int))) +
 IntKind.i64.wrap
 (IntKind.i64.wrap
 (hdI
 (V.rowAt l (IntKind.i64.wrap ((1 : Int) + i)))) -
 (1 : Int)))).toNat
 l))
 (minN
 (List.drop
 (IntKind.i64.wrap
 (e -
 IntKind.i64.wrap
 (IntKind.i64.wrap
 (hdI
 (V.rowAt l
 (IntKind.i64.wrap ((1 : Int) + i)))) -
 (1 : Int)))).toNat
 (List.take
 (IntKind.i64.wrap
 (IntKind.i64.wrap
 (e -
 IntKind.i64.wrap
 (IntKind.i64.wrap
 (hdI
 (V.rowAt l
 (IntKind.i64.wrap ((1 : Int) + i)))) -
 (1 : Int))) +
 IntKind.i64.wrap
 (IntKind.i64.wrap
 (hdI
 (V.rowAt l
 (IntKind.i64.wrap ((1 : Int) + i)))) -
 (1 : Int)))).toNat
 l)).length
 (IntKind.i64.wrap
 (IntKind.i64.wrap
 (hdI (V.rowAt l (IntKind.i64.wrap ((1 : Int) + i)))) -
 (1 : Int))).toNat)))
 0)]]),
 Ob.nov (u + 1 + 1)]
 []))
 none)
 none)
 none
 else none
 else none)
 none))))
 none)
 none))
 (K (AX.exit 0)
 (Env.mk 94
 [(0, AV.ns z 1 l), (2, AV.ptr 0 0),
 (4, AV.ptr 1 0)])
 (St.mk [Ob.cells [AV.nilsl], Ob.cells [AV.vs 2 v 1 n], Ob.vec v cs, Ob.nov u] [])))
 none)
 none := by kernel_rfl
theorem rof_out0 (F : Nat) (z : Bool) (l : List (List AV)) (u : Nat) :
 ((Cont.block 0 (Cont.then (f55_r0.run F (f55.leaveK Fun.done)) (f55.leaveK Fun.done))) (.exit 0) (Env.mk 94 [(0, .ns z 1 l), (2, .ptr 0 0), (4, .ptr 1 0)]) ⟨[.cells [.nilsl], .cells [.nilsl], .nov 0, .nov u], []⟩ : Ans) =
 branch (.bool (okS []))
 (branch (.bool (byOk (pgR []) && byOk l))
 (branch (.bool !nR (pgR []) == nR l)
 (some
 (Fin.ret (AV.tup [AV.agg [AV.nilsl], AV.bool false]),
 St.mk [Ob.cells [AV.nilsl], Ob.cells [AV.nilsl], Ob.nov 0, Ob.nov u] []))
 (some
 (Fin.ret (AV.tup [AV.agg [AV.nilsl], AV.bool true]),
 St.mk [Ob.cells [AV.nilsl], Ob.cells [AV.nilsl], Ob.nov 0, Ob.nov u] [])))
 none)
 none := by kernel_rfl
theorem rof_out (F : Nat) (z : Bool) (l : List (List AV)) (v n u : Nat) (cs : List AV) :
 ((Cont.block 0 (Cont.then (f55_r0.run F (f55.leaveK Fun.done)) (f55.leaveK Fun.done))) (.exit 0) (Env.mk 94 [(0, .ns z 1 l), (2, .ptr 0 0), (4, .ptr 1 0)]) ⟨[.cells [.nilsl], .cells [.vs 2 v 1 n], .vec v cs, .nov u], []⟩ : Ans) =
 branch (.bool (v.beq v && inC cs 0 (mulN n 1)))
 (branch (.bool (okS (rowsC 1 n cs 0)))
 (branch (.bool !pgOk (sR (rowsC 1 n cs 0)))
 (some
 (Fin.ret (AV.tup [AV.agg [AV.nilsl], AV.bool false]),
 St.mk [Ob.cells [AV.nilsl], Ob.cells [AV.vs 2 v 1 n], Ob.vec v cs, Ob.nov u] []))
 (branch (.bool (byOk (pgR (rowsC 1 n cs 0)) && byOk l))
 (branch (.bool !nR (pgR (rowsC 1 n cs 0)) == nR l)
 (some
 (Fin.ret (AV.tup [AV.agg [AV.nilsl], AV.bool false]),
 St.mk [Ob.cells [AV.nilsl], Ob.cells [AV.vs 2 v 1 n], Ob.vec v cs, Ob.nov u] []))
 (branch (.bool (true && (v.beq v && (okS (cR cs) && (cs.all slC && cdec (n ≤ cs.length))))))
 (branch (.bool ((↑(trN n cs) : Int) != (↑n : Int)))
 (some
 (Fin.ret (AV.tup [AV.agg [AV.nilsl], AV.bool false]),
 St.mk [Ob.cells [AV.nilsl], Ob.cells [AV.vs 2 v 1 n], Ob.vec v cs, Ob.nov u] []))
 (some
 (Fin.ret (AV.tup [AV.agg [AV.vs 2 v 1 n], AV.bool true]),
 St.mk
 [Ob.cells [AV.vs 2 v 1 n], Ob.cells [AV.vs 2 v 1 n], Ob.vec v cs,
 Ob.nov u]
 [])))
 none))
 none))
 none)
 none := by kernel_rfl
theorem zeros_rowN (c : Nat) : List.replicate c [AV.int IntKind.u8 (0 : Int)] = bR (List.replicate c 0) := by simp [bR]
theorem rA_zeros {l : List (List AV)} (hm : trm (sR l) = true) (hk : pgOk (sR l) = true) (n : Nat) : oB (rA l (List.replicate n 0)) = decide (freeK (sR l) ≤ 250 ∧ szN (sR l) + mS (sR l) + n ≤ 256 ∧ n ≤ 200) := by
 rw [rA, opq_eq, putS, Int.toNat_natCast, toP, pgOk_free hm hk, List.length_replicate]
 by_cases h1 : freeK (sR l) ≤ 250
 ·rw [if_pos ⟨by omega, by omega⟩]
  by_cases h2 : szN (sR l) + mS (sR l) + n ≤ 256 ∧ n ≤ 200
  ·rw [if_pos (by simpa using h2), oB_some, decide_eq_true ⟨h1, h2⟩]
  ·rw [if_neg (by simpa using h2), oB_none, decide_eq_false (fun h => h2 h.2)]
 ·rw [if_neg (by omega), oB_none, decide_eq_false (fun h => h1 h.1)]
def downI (s : Sl) (n : Int) : Int := if freeK s ≤ 250 then max (min n (256 - (szN s : Int) - mS s)) (-1) else -1
theorem rroom_loop (F : Nat) (z : Bool) (l : List (List AV)) (hl : isN l = true) (hm : trm (sR l) = true) (hk : pgOk (sR l) = true) : ∀ (m n : Nat), n ≤ 201 → n < m →
  loopRun (f57_l0.run F) [1, 3] (Cont.block 0 (Cont.then (f57_r0.run F (f57.leaveK Fun.done)) (f57.leaveK Fun.done))) m (Env.mk 21 [(1, .eptr [.ns z 1 l]), (3, .int .i64 ((n : Int) - 1))]) ⟨[], []⟩ = some (.ret (.int .i64 (downI (sR l) ((n : Int) - 1))), ⟨[], []⟩)
 | 0, n, h, hn => by omega
 | m + 1, 0, h, hn => by
  have e : downI (sR l) (((0 : Nat) : Int) - 1) = -1 := by rw [downI]; split <;> omega
  rw [show m + 1 = m.succ from rfl, rroom_round, branch_not (by rfl), rroom_out, e]
 | m + 1, n + 1, h, hn => by
  have ih := rroom_loop F z l hl hm hk m n (by omega) (by omega)
  have e0 : ((n + 1 : Nat) : Int) - 1 = (n : Int) := by omega
  have hb : byOk (bR (List.replicate n 0)) = true := byOk_bR (fun x hx => by rw [List.eq_of_mem_replicate hx]; omega) (by rw [List.length_replicate]; omega)
  have w : IntKind.i64.wrap ((n : Int) - 1) = (n : Int) - 1 := wrapS (by omega) (by omega)
  rw [show m + 1 = m.succ from rfl, rroom_round, e0, branch_of (by simp), Int.toNat_natCast, branch_of (by simp [Nat.ble_eq]; omega), zeros_rowN, nR_bR, branch_of (by rw [hl, hb, cdec_iff.mpr (by rw [bR_length, List.length_replicate]; omega)]; rfl), rA_zeros hm hk, w, ih, rroom_ret]
  by_cases hc : freeK (sR l) ≤ 250 ∧ szN (sR l) + mS (sR l) + n ≤ 256 ∧ n ≤ 200
  ·rw [branch_of (by rw [decide_eq_true_eq]; exact hc)]
   have e : downI (sR l) (n : Int) = n := by rw [downI, if_pos hc.1]; omega
   rw [e]
  ·rw [branch_not (by rw [decide_eq_false_iff_not]; exact hc)]
   have e : downI (sR l) (n : Int) = downI (sR l) ((n : Int) - 1) := by
    rw [downI, downI]
    split
    ·rename_i hf
     have : ¬ (szN (sR l) + mS (sR l) + n ≤ 256 ∧ n ≤ 200) := fun h2 => hc ⟨hf, h2⟩
     omega
    ·rfl
   rw [e]
theorem freeK_mS (s : Sl) : (mS s = 0 ∧ freeK s < s.length) ∨ (mS s = 1 ∧ freeK s = s.length) := by
 cases ha : s.any (·.isNone) with
 | true => exact .inl ⟨by rw [mS, if_pos ha], (free_at ha).1⟩
 | false => exact .inr ⟨by rw [mS, if_neg (by simp [ha])], freeK_none ha⟩
theorem down_room {s : Sl} (hl : s.length ≤ 251) : downI s 200 = roomI s := by
 have hm : (if s.any (·.isNone) then (0 : Int) else 1) = (mS s : Int) := by rw [mS]; split <;> rfl
 unfold downI roomI
 simp only [hm]
 rcases freeK_mS s with ⟨h1, h2⟩ | ⟨h1, h2⟩
 ·rw [if_pos (by omega), h1]
  split
  ·omega
  ·omega
 ·rw [h1, h2]
  by_cases h3 : s.length ≤ 250
  ·rw [if_pos h3]
   split
   ·omega
   ·omega
  ·rw [if_neg h3, if_pos (by omega)]
noncomputable def roomR (l : List (List AV)) : Int := opq (roomI (sR l))
noncomputable def p57 : POrc Try.prog := f57.farN
 (fun args k => match args with
  | [.agg [x]] => onNs 1 x fun _ l => ifT (isN l && cdec (trm (sR l) = true ∧ pgOk (sR l) = true ∧ l.length ≤ 251)) (k (.int .i64 (roomR l)))
  | _ => none)
 fun args k fin h => by
  split at h
  ·rename_i x
   obtain ⟨z, l, g901, hx⟩ := onNs_spec h
   obtain ⟨h1, g902⟩ := ifT_spec g901
   rw [Bool.and_eq_true, cdec_iff] at h1
   obtain ⟨e1, e2, e3, e4⟩ := h1
   obtain ⟨k1, k2, k3⟩ := isN_iff.mp e1
   rw [roomR, opq_eq] at g902
   refine ⟨_, _, g902, .cons (.agg (.cons hx .nil)) .nil, ⟨⟨by rw [k2]; exact sN_scoped _, trivial⟩, trivial⟩, trivial, 300, .int .i64 (roomI (sR l)), ⟨[], []⟩, rfl, ?_⟩
   rw [rroom_run, ← down_room (by rw [sR_length]; exact e4)]
   exact rroom_loop 300 z l e1 e2 e3 300 201 (by omega) (by omega)
  ·cases h
noncomputable def rstS (t : Sl) (u : Nat) : St := match t with
 | [] => ⟨[.cells [.nilsl], .cells [.nilsl], .nov 0, .nov u], []⟩
 | o :: r => ⟨[.cells [.nilsl], .cells [.vs 2 (o :: r).length 1 (o :: r).length], .vec (o :: r).length (sCN (o :: r)), .nov u], []⟩
theorem rstS_snoc (t : Sl) (o : Option (List Nat)) (u : Nat) : rstS (t ++ [o]) u = ⟨[.cells [.nilsl], .cells [.vs 2 (t.length + 1) 1 (t.length + 1)], .vec (t.length + 1) (sCN t ++ [cellN o]), .nov u], []⟩ := by
 cases t with
 | nil => rfl
 | cons x t => simp [rstS, sCN]
noncomputable abbrev rofK (F : Nat) : Cont := Cont.block 0 (Cont.then (f55_r0.run F (f55.leaveK Fun.done)) (f55.leaveK Fun.done))
theorem own_rowN (b : List Nat) (n : Nat) (h : b.length = n) : rowsC 1 n (setC (zerC n [.int .u8 0]) 0 (flC (bR b) (minN (bR b).length n))) 0 = bR b ∧
  inC (zerC n [.int .u8 0]) 0 (mulN (minN (bR b).length n) 1) = true ∧ inC (setC (zerC n [.int .u8 0]) 0 (flC (bR b) (minN (bR b).length n))) 0 (mulN n 1) = true := by
 have := own_row b
 rw [Int.toNat_natCast, bR_length, h] at this
 rw [bR_length, h]
 exact this
theorem rof_loop (F : Nat) (z : Bool) (p : List Nat) (hp : p.length = 256) (hpb : ∀ b ∈ p, b < 256) (n0 : Nat) (hn0 : p[0]'(by omega) = n0) (h255 : n0 ≤ 255) : ∀ (k m i e : Nat) (t r : Sl) (u : Nat), i + k = n0 → k < m → e ≤ 256 → t.length = i → decL (((p.take (1 + n0)).drop 1).drop i) e p = some r → (∀ o ∈ r, olen o ≤ 200) →
  ∃ u', loopRun (f55_l0.run F) [0, 2, 4, 5, 6] (rofK F) m (Env.mk 94 [(0, .ns z 1 (bR p)), (2, .ptr 0 0), (4, .ptr 1 0), (5, .int .i64 (e : Int)), (6, .int .i64 (i : Int))]) (rstS t u) =
   rofK F (.exit 0) (Env.mk 94 [(0, .ns z 1 (bR p)), (2, .ptr 0 0), (4, .ptr 1 0)]) (rstS (t ++ r) u')
 | k, 0, i, e, t, r, u, hi, hm, he, htl, hd, hr => by omega
 | 0, m + 1, i, e, t, r, u, hi, hm, he, htl, hd, hr => by
  obtain ⟨c1, c2, c3⟩ : inR (bR p) (0 : Int) = true ∧ (LD.one (.int .u8)).is (V.rowAt (bR p) (0 : Int)) = true ∧ hdI (V.rowAt (bR p) (0 : Int)) = (p[0]'(by omega) : Nat) := bR_at hpb (i := 0) (by omega)
  rw [List.drop_eq_nil_of_le (by simp; omega)] at hd
  cases hd
  have w0 : IntKind.i64.wrap ((p[0]'(by omega) : Nat) : Int) = (n0 : Int) := by rw [hn0, wrap_nat (by omega)]
  refine ⟨u, ?_⟩
  rw [List.append_nil]
  cases t with
  | nil => rw [rstS, show m + 1 = m.succ from rfl, rof_round0, branch_of c1, branch_of c2, c3, w0, branch_not (by rw [decide_eq_false_iff_not]; omega)]
  | cons o t => rw [rstS, show m + 1 = m.succ from rfl, rof_round, branch_of c1, branch_of c2, c3, w0, branch_not (by rw [decide_eq_false_iff_not]; omega)]
 | k + 1, m + 1, i, e, t, r, u, hi, hm, he, htl, hd, hr => by
  obtain ⟨c1, c2, c3⟩ : inR (bR p) (0 : Int) = true ∧ (LD.one (.int .u8)).is (V.rowAt (bR p) (0 : Int)) = true ∧ hdI (V.rowAt (bR p) (0 : Int)) = (p[0]'(by omega) : Nat) := bR_at hpb (i := 0) (by omega)
  have h1 : 1 + i < p.length := by omega
  obtain ⟨d1, d2, d3⟩ := bR_at hpb h1
  have hlt : p[1 + i] < 256 := hpb _ (List.getElem_mem h1)
  have hcl : i < ((p.take (1 + n0)).drop 1).length := by simp; omega
  have hci : ((p.take (1 + n0)).drop 1)[i] = p[1 + i] := by simp only [List.getElem_drop, List.getElem_take]
  rw [drop_at hcl, hci] at hd
  generalize hx : p[1 + i] = c at *
  have w0 : IntKind.i64.wrap ((p[0]'(by omega) : Nat) : Int) = (n0 : Int) := by rw [hn0, wrap_nat (by omega)]
  have w1 : IntKind.i64.wrap (1 + (i : Int)) = ((1 + i : Nat) : Int) := by rw [show 1 + (i : Int) = ((1 + i : Nat) : Int) by omega, wrap_nat (by omega)]
  have w2 : IntKind.i64.wrap ((c : Nat) : Int) = (c : Int) := wrap_nat (by omega)
  have w3 : IntKind.i64.wrap ((c : Int) - 1) = (c : Int) - 1 := wrapS (by omega) (by omega)
  have w4 := wrap_succ (i := i) (by omega)
  have hg : ∀ cs : List AV, cs.length = t.length → (t.length.beq t.length && (inC cs 0 (mulN t.length 1) && apOk (t.length + 1) 24)) = true := fun cs hc => vs_guard hc.symm (by omega)
  rw [decL] at hd
  by_cases h0 : c = 0
  ·rw [if_pos h0, Option.map_eq_some_iff] at hd
   obtain ⟨r', hd', rfl⟩ := hd
   obtain ⟨u', ih⟩ := rof_loop F z p hp hpb n0 hn0 h255 k m (i + 1) e (t ++ [none]) r' u (by omega) (by omega) he (by simp [htl]) hd' (fun o ho => hr o (List.mem_cons_of_mem _ ho))
   refine ⟨u', ?_⟩
   rw [rstS_snoc, List.append_assoc, List.singleton_append] at ih
   rw [← ih]
   have hneg : decide ((c : Int) - 1 < 0) = true := by rw [decide_eq_true_eq]; omega
   cases t with
   | nil =>
    rw [rstS, show m + 1 = m.succ from rfl, rof_round0, branch_of c1, branch_of c2, c3, w0, branch_of (by rw [decide_eq_true_eq]; omega), w1, branch_not (by rw [decide_eq_false_iff_not]; omega), branch_of d1, branch_of d2, d3, w2, w3, branch_of hneg, branch_of ap_one, w4, catC_nil]
    rfl
   | cons o t =>
    rw [rstS, show m + 1 = m.succ from rfl, rof_round, branch_of c1, branch_of c2, c3, w0, branch_of (by rw [decide_eq_true_eq]; omega), w1, branch_not (by rw [decide_eq_false_iff_not]; omega), branch_of d1, branch_of d2, d3, w2, w3, branch_of hneg, branch_of (hg _ (sCN_length _)), w4, catC_one (sCN_length _).symm]
    rfl
  ·rw [if_neg h0] at hd
   by_cases h2 : c - 1 > e
   ·rw [if_pos h2] at hd; cases hd
   ·rw [if_neg h2, Option.map_eq_some_iff] at hd
    obtain ⟨r', hd', rfl⟩ := hd
    obtain ⟨n, rfl⟩ : ∃ n, c = n + 1 := ⟨c - 1, by omega⟩
    rw [Nat.add_sub_cancel] at *
    generalize hb : (p.take e).drop (e - n) = b at *
    have hbl : b.length = n := by rw [← hb]; simp; omega
    have h200 : n ≤ 200 := by
     have := hr _ List.mem_cons_self
     have hob : olen (some b) = b.length := rfl
     omega
    obtain ⟨u', ih⟩ := rof_loop F z p hp hpb n0 hn0 h255 k m (i + 1) (e - n) (t ++ [some b]) r' (u + 2) (by omega) (by omega) (by omega) (by simp [htl]) hd' (fun o ho => hr o (List.mem_cons_of_mem _ ho))
    refine ⟨u', ?_⟩
    rw [rstS_snoc, List.append_assoc, List.singleton_append] at ih
    rw [← ih]
    have e1 : ((n + 1 : Nat) : Int) - 1 = (n : Int) := by omega
    have w5 : IntKind.i64.wrap ((e : Int) - (n : Int)) = ((e - n : Nat) : Int) := by rw [show (e : Int) - (n : Int) = ((e - n : Nat) : Int) by omega, wrap_nat (by omega)]
    have w6 : IntKind.i64.wrap (((e - n : Nat) : Int) + (n : Int)) = (e : Int) := by rw [show ((e - n : Nat) : Int) + (n : Int) = (e : Int) by omega, wrap_nat (by omega)]
    have er : List.drop (e - n) (List.take e (bR p)) = bR b := by rw [bR_take, bR_drop, hb]
    obtain ⟨o901, o902, o903⟩ := own_rowN b n hbl
    have hmk : mkOk 1 (n : Int) = true := by rw [mkOk_iff]; omega
    have hcell : AV.ns false 1 (bR b) = cellN (some b) := rfl
    rw [e1] at w3
    cases t with
    | nil =>
     rw [rstS, show m + 1 = m.succ from rfl, rof_round0, branch_of c1, branch_of c2, c3, w0, branch_of (by rw [decide_eq_true_eq]; omega), w1, branch_not (by rw [decide_eq_false_iff_not]; omega), branch_of d1, branch_of d2, d3, w2, e1, w3, branch_not (by rw [decide_eq_false_iff_not]; omega), branch_not (by rw [decide_eq_false_iff_not]; omega), branch_not (by rw [decide_eq_false_iff_not]; omega), branch_of hmk, w5, w6, bR_length, if_pos ⟨by omega, by omega⟩, Int.toNat_natCast, Int.toNat_natCast, Int.toNat_natCast, if_pos ⟨by omega, by omega⟩, er,
      branch_of (by rw [Nat.beq_refl, o902]; rfl), branch_of (by rw [Nat.beq_refl, o903]; rfl), branch_of ap_one, o901, w4, catC_nil, hcell]
     rfl
    | cons o t =>
     rw [rstS, show m + 1 = m.succ from rfl, rof_round, branch_of c1, branch_of c2, c3, w0, branch_of (by rw [decide_eq_true_eq]; omega), w1, branch_not (by rw [decide_eq_false_iff_not]; omega), branch_of d1, branch_of d2, d3, w2, e1, w3, branch_not (by rw [decide_eq_false_iff_not]; omega), branch_not (by rw [decide_eq_false_iff_not]; omega), branch_not (by rw [decide_eq_false_iff_not]; omega), branch_of hmk, w5, w6, bR_length, if_pos ⟨by omega, by omega⟩, Int.toNat_natCast, Int.toNat_natCast, Int.toNat_natCast, if_pos ⟨by omega, by omega⟩, er,
      branch_of (by rw [Nat.beq_refl, o902]; rfl), branch_of (by rw [Nat.beq_refl, o903]; rfl), branch_of (hg _ (sCN_length _)), o901, w4, catC_one (sCN_length _).symm, hcell]
theorem rof_end (F : Nat) (z : Bool) {p : List Nat} (hp : Pg p) (u : Nat) :
  ∃ r' xs, rofK F (.exit 0) (Env.mk 94 [(0, .ns z 1 (bR p)), (2, .ptr 0 0), (4, .ptr 1 0)]) (rstS (ofS p) u) = some (.ret r', ⟨xs, []⟩) ∧ hard xs r' = .tup [.agg [match ofS p with | [] => .nilsl | _ => .sl 1 false (sN (ofS p))], .bool true] := by
 obtain ⟨q900, q901, q902, q903, q904⟩ := hp.slots
 have hby : byOk (bR p) = true := byOk_bR hp.1 (by rw [hp.2.1]; omega)
 have hok := okS_sN q901
 have hpg : pgR (sN (ofS p)) = bR p := by rw [pgR_ok (by rw [sR_sN]; exact q902), sR_sN, q904]
 generalize ofS p = s at *
 cases s with
 | nil =>
  refine ⟨.tup [.agg [.nilsl], .bool true], [.cells [.nilsl], .cells [.nilsl], .nov 0, .nov u], ?_, rfl⟩
  rw [rofK, rstS, rof_out0, show ([] : List (List AV)) = sN [] from rfl, branch_of hok, hpg, branch_of (by rw [hby]; rfl), branch_not (by simp)]
 | cons o s =>
  have hl : (o :: s).length ≤ (sCN (o :: s)).length := by rw [sCN_length]; exact Nat.le_refl _
  have hrow : rowsC 1 (o :: s).length (sCN (o :: s)) 0 = sN (o :: s) := by
   rw [rowsC_one hl, List.take_of_length_le (by rw [sCN_length]; exact Nat.le_refl _), cR_sCN]
  have htr : trN (o :: s).length (sCN (o :: s)) = (o :: s).length := by rw [trN_sCN, trS_id q903]
  refine ⟨.tup [.agg [.vs 2 (o :: s).length 1 (o :: s).length], .bool true], [.cells [.vs 2 (o :: s).length 1 (o :: s).length], .cells [.vs 2 (o :: s).length 1 (o :: s).length], .vec (o :: s).length (sCN (o :: s)), .nov u], ?_, ?_⟩
  ·rw [rofK, rstS, rof_out, branch_of (by rw [Nat.beq_refl, inC_one hl]; rfl), hrow, branch_of hok, branch_not (by rw [sR_sN, q902]; rfl), hpg, branch_of (by rw [hby]; rfl), branch_not (by simp), branch_of (by rw [Nat.beq_refl, cR_sCN, hok, slC_sCN, cdec_iff.mpr hl]; rfl), htr, branch_not (by simp)]
  ·simp only [hard, hardL, List.getElem?_cons_succ, List.getElem?_cons_zero, Nat.beq_refl]
   rw [rows_sCN _ _ (Nat.le_refl _), List.take_of_length_le (Nat.le_refl _)]
noncomputable def rfE (p : List Nat) : Bool := opq (ofS p).isEmpty
noncomputable def rfR (p : List Nat) : List (List AV) := opq (sN (ofS p))
noncomputable def p55 : POrc Try.prog := f55.farW
 (fun args k => match args with
  | [x] => onNs 1 x fun _ l => ifT (byOk l && cdec (Pg (nR l))) (k (.tup [.agg [.ns (rfE (nR l)) 1 (rfR (nR l))], .bool true]))
  | _ => none)
 fun args k fin h => by
  split at h
  ·rename_i x
   obtain ⟨z, l, g901, hx⟩ := onNs_spec h
   obtain ⟨h1, g902⟩ := ifT_spec g901
   rw [Bool.and_eq_true, cdec_iff] at h1
   obtain ⟨e1, hp⟩ := h1
   have hok := byOk_iff.mp e1
   have hr := okR_rows hok.1
   generalize hpp : nR l = p at *
   subst hr
   refine ⟨_, _, g902, .cons hx .nil, ⟨bR_scoped _, trivial⟩, 300, ?_⟩
   obtain ⟨q900, q901, q902, q903, q904⟩ := hp.slots
   obtain ⟨s901, s902, s903, s904, s905⟩ := ofP_some q900
   have h0 : 0 < p.length := by rw [hp.2.1]; decide
   have hhd : p.headD 0 = p[0] := by cases p with | nil => simp at h0 | cons x p => rfl
   rw [hhd] at s902
   have hlt := hp.1 _ (List.getElem_mem h0)
   obtain ⟨u', lp⟩ := rof_loop 300 z p hp.2.1 hp.1 p[0] rfl (by omega) p[0] 300 0 256 [] (ofS p) 0 (by omega) (by omega) (by omega) rfl (by rw [List.drop_zero]; exact s902) (pgOk_iff.mp q902).2
   rw [List.nil_append] at lp
   obtain ⟨r', xs, k1, k2⟩ := rof_end 300 z hp u'
   refine ⟨r', ⟨xs, []⟩, ?_, ?_, ?_⟩
   ·rw [rof_run, branch_not (by rw [bR_length, hp.2.1]; rfl)]
    exact lp.trans k1
   ·show Scoped 0 0 (hard xs r')
    rw [k2]
    cases ofS p with
    | nil => exact ⟨⟨trivial, trivial⟩, trivial, trivial⟩
    | cons o s => exact ⟨⟨sN_scoped _, trivial⟩, trivial, trivial⟩
   ·show Wk (hard xs r') _
    rw [k2, rfE, rfR, opq_eq, opq_eq]
    cases ofS p with
    | nil => exact .tup (.cons (.agg (.cons .nil .nil)) (.cons (.refl _) .nil))
    | cons o s => exact .tup (.cons (.agg (.cons .sl .nil)) (.cons (.refl _) .nil))
  ·cases h
theorem fl61_0 : fieldB Try.prog 61 0 0 1 false = true := by kernel_rfl
theorem sz59 : (Try.prog.info? 59).map (·.size) = some 1 := by kernel_rfl
noncomputable def f56_l0 : Sim Try.prog :=
 (.seq (.seq (.live [0, 24] (.draw 0 [
 ⟨.p (opMove (some 2) (.tmp 0) 56 "ref.go:14" #[]), none⟩,
 ⟨.p (opNilCheck (some 3) (.tmp 2) 0 "ref.go:14" #[eD 0]), none⟩,
 ⟨.pn (opFieldAddr (some 4) 61 (.tmp 3) 0 0 1 false fl61_0 (by decide) 0 "ref.go:14" #[eD 1]) opFieldAddr_nat, none⟩,
 ⟨.qn (opLoadT (.one .any) (some 5) 59 (.tmp 4) (.slice 91) Try.underlying59 1 sz59 (by kernel_rfl) 59 "ref.go:14" #[eD 2]) opLoadT_nat, none⟩,
 ⟨.p (opLen (some 6) (.tmp 5) 59 (.slice 91) Try.underlying59 3 "ref.go:14" #[eD 3]), none⟩,
 ⟨.pn (opBin (some 7) .gtr 3 (.tmp 6) (.const (Value.int IntKind.i64 0)) 3 4 "ref.go:14" #[eD 4]) opBin_nat, none⟩,
 ⟨.p (opMove (some 8) (.tmp 7) 4 "ref.go:14" #[eD 5]), none⟩,
 ⟨.p (opMove (some 9) (.tmp 0) 56 "ref.go:14" #[eG 6]), (some (6, 8, true))⟩,
 ⟨.p (opNilCheck (some 10) (.tmp 9) 0 "ref.go:14" #[eD 7, eG 6]), (some (6, 8, true))⟩,
 ⟨.pn (opFieldAddr (some 11) 61 (.tmp 10) 0 0 1 false fl61_0 (by decide) 0 "ref.go:14" #[eD 8, eG 6]) opFieldAddr_nat, (some (6, 8, true))⟩,
 ⟨.qn (opLoadT (.one .any) (some 12) 59 (.tmp 11) (.slice 91) Try.underlying59 1 sz59 (by kernel_rfl) 59 "ref.go:14" #[eD 9, eG 6]) opLoadT_nat, (some (6, 8, true))⟩,
 ⟨.p (opMove (some 13) (.tmp 0) 56 "ref.go:14" #[eG 6]), (some (6, 8, true))⟩,
 ⟨.p (opNilCheck (some 14) (.tmp 13) 0 "ref.go:14" #[eD 11, eG 6]), (some (6, 8, true))⟩,
 ⟨.pn (opFieldAddr (some 15) 61 (.tmp 14) 0 0 1 false fl61_0 (by decide) 0 "ref.go:14" #[eD 12, eG 6]) opFieldAddr_nat, (some (6, 8, true))⟩,
 ⟨.qn (opLoadT (.one .any) (some 16) 59 (.tmp 15) (.slice 91) Try.underlying59 1 sz59 (by kernel_rfl) 59 "ref.go:14" #[eD 13, eG 6]) opLoadT_nat, (some (6, 8, true))⟩,
 ⟨.p (opLen (some 17) (.tmp 16) 59 (.slice 91) Try.underlying59 3 "ref.go:14" #[eD 14, eG 6]), (some (6, 8, true))⟩,
 ⟨.pn (opBin (some 18) .sub 3 (.tmp 17) (.const (Value.int IntKind.i64 1)) 3 3 "ref.go:14" #[eD 15, eG 6]) opBin_nat, (some (6, 8, true))⟩,
 ⟨.pn (opIndexAddrT (some 19) 59 (.tmp 12) (.tmp 18) 91 1 Try.underlying59 sz91 0 "ref.go:14" #[eD 10, eD 16, eG 6]) opIndexAddrT_nat, (some (6, 8, true))⟩,
 ⟨.pn (opFieldAddr (some 20) 91 (.tmp 19) 0 0 1 false fl91_0 (by decide) 0 "ref.go:14" #[eD 17, eG 6]) opFieldAddr_nat, (some (6, 8, true))⟩,
 ⟨.qn (opLoadT (.one (.ns 1)) (some 21) 22 (.tmp 20) (.slice 34) Try.underlying22 1 sz22 (by kernel_rfl) 22 "ref.go:14" #[eD 18, eG 6]) opLoadT_nat, (some (6, 8, true))⟩,
 ⟨.p (opLen (some 22) (.tmp 21) 22 (.slice 34) Try.underlying22 3 "ref.go:14" #[eD 19, eG 6]), (some (6, 8, true))⟩,
 ⟨.pn (opBin (some 23) .eql 3 (.tmp 22) (.const (Value.int IntKind.i64 0)) 3 4 "ref.go:14" #[eD 20, eG 6]) opBin_nat, (some (6, 8, true))⟩,
 ⟨.p (opPick (some 24) (.tmp 8) (.tmp 23) (.const (Value.bool false)) 4 "ref.go:14" #[eD 6, eD 21]), none⟩
 ] mixed (by kernel_rfl)))
 (.cond (.tmp 24)
 .skip
 (.live [] (.exit 0))))
 (.block 1 (.live [0] (.draw 1 [
 ⟨.p (opMove (some 25) (.tmp 0) 56 "ref.go:15" #[]), none⟩,
 ⟨.p (opMove (some 26) (.tmp 0) 56 "ref.go:15" #[]), none⟩,
 ⟨.p (opNilCheck (some 27) (.tmp 26) 0 "ref.go:15" #[eD 1]), none⟩,
 ⟨.pn (opFieldAddr (some 28) 61 (.tmp 27) 0 0 1 false fl61_0 (by decide) 0 "ref.go:15" #[eD 2]) opFieldAddr_nat, none⟩,
 ⟨.qn (opLoadT (.one .any) (some 29) 59 (.tmp 28) (.slice 91) Try.underlying59 1 sz59 (by kernel_rfl) 59 "ref.go:15" #[eD 3]) opLoadT_nat, none⟩,
 ⟨.p (opMove (some 30) (.tmp 0) 56 "ref.go:15" #[]), none⟩,
 ⟨.p (opNilCheck (some 31) (.tmp 30) 0 "ref.go:15" #[eD 5]), none⟩,
 ⟨.pn (opFieldAddr (some 32) 61 (.tmp 31) 0 0 1 false fl61_0 (by decide) 0 "ref.go:15" #[eD 6]) opFieldAddr_nat, none⟩,
 ⟨.qn (opLoadT (.one .any) (some 33) 59 (.tmp 32) (.slice 91) Try.underlying59 1 sz59 (by kernel_rfl) 59 "ref.go:15" #[eD 7]) opLoadT_nat, none⟩,
 ⟨.p (opLen (some 34) (.tmp 33) 59 (.slice 91) Try.underlying59 3 "ref.go:15" #[eD 8]), none⟩,
 ⟨.pn (opBin (some 35) .sub 3 (.tmp 34) (.const (Value.int IntKind.i64 1)) 3 3 "ref.go:15" #[eD 9]) opBin_nat, none⟩,
 ⟨.pn (opSlice (some 36) 59 (.tmp 29) none (some (.tmp 35)) none 91 1 Try.underlying59 sz91 59 "ref.go:15" #[eD 4, eD 10]) opSlice_nat, none⟩,
 ⟨.p (opNilCheck (some 37) (.tmp 25) 0 "ref.go:15" #[eD 0, eP 0, eP 1, eP 2, eP 3, eP 4, eP 5, eP 6, eP 7, eP 8, eP 9, eP 10, eP 11]), none⟩,
 ⟨.pn (opFieldAddr (some 38) 61 (.tmp 37) 0 0 1 false fl61_0 (by decide) 0 "ref.go:15" #[eD 12, eP 0, eP 1, eP 2, eP 3, eP 4, eP 5, eP 6, eP 7, eP 8, eP 9, eP 10, eP 11]) opFieldAddr_nat, none⟩,
 ⟨.m (opStore none 59 (.tmp 38) (.tmp 36) 1 sz59 0 "ref.go:15" #[eD 13, eD 11, eP 0, eP 1, eP 2, eP 3, eP 4, eP 5, eP 6, eP 7, eP 8, eP 9, eP 10, eP 11]), none⟩
 ] mixed (by kernel_rfl)))))
noncomputable def f56_b : Sim Try.prog :=
 (.block 0 (.loop [0] f56_l0))
noncomputable def f56 : Fun Try.prog where
 id := 56
 fn := Try.f56
 hf := Try.func56
 hname := by kernel_rfl
 body := f56_b
 hbody := by kernel_rfl
 res := []
 hres := by kernel_rfl
 n := 39
 hn := by kernel_rfl
noncomputable def f64_b : Sim Try.prog :=
 (.seq (.live [0, 3] (.region 0 [
 ⟨(opBoxF (some 3) 30 (.tmp 1) 0 "ref.go:70" #[]).op, none⟩,
 ⟨(opAssign (some 4) (.const (Value.slice none 0 0)) 34 "ref.go:70" #[]).op, none⟩,
 ⟨(opAssign (some 5) (.const (Value.bool false)) 4 "ref.go:70" #[eC 1]).op, none⟩
 ] (by kernel_rfl)))
 (.seq (.seq (.live [0, 3, 20] (.draw 1 [
 ⟨.pn (opFieldAddr (some 8) 30 (.tmp 3) 0 0 1 false fl30_0 (by decide) 0 "ref.go:71" #[]) opFieldAddr_nat, none⟩,
 ⟨.qn (opLoadT (.one (.int .i64)) (some 9) 3 (.tmp 8) (.int .i64) Try.underlying3 1 sz3 (by kernel_rfl) 3 "ref.go:71" #[eD 0]) opLoadT_nat, none⟩,
 ⟨.pn (opBin (some 10) .lss 3 (.tmp 9) (.const (Value.int IntKind.i64 0)) 3 4 "ref.go:71" #[eD 1]) opBin_nat, none⟩,
 ⟨.p (opMove (some 11) (.tmp 10) 4 "ref.go:71" #[eD 2]), none⟩,
 ⟨.pn (opFieldAddr (some 12) 30 (.tmp 3) 0 0 1 false fl30_0 (by decide) 0 "ref.go:71" #[eG 3]) opFieldAddr_nat, (some (3, 11, false))⟩,
 ⟨.qn (opLoadT (.one (.int .i64)) (some 13) 3 (.tmp 12) (.int .i64) Try.underlying3 1 sz3 (by kernel_rfl) 3 "ref.go:71" #[eD 4, eG 3]) opLoadT_nat, (some (3, 11, false))⟩,
 ⟨.p (opMove (some 14) (.tmp 0) 56 "ref.go:71" #[eG 3]), (some (3, 11, false))⟩,
 ⟨.p (opNilCheck (some 15) (.tmp 14) 0 "ref.go:71" #[eD 6, eG 3]), (some (3, 11, false))⟩,
 ⟨.pn (opFieldAddr (some 16) 61 (.tmp 15) 0 0 1 false fl61_0 (by decide) 0 "ref.go:71" #[eD 7, eG 3]) opFieldAddr_nat, (some (3, 11, false))⟩,
 ⟨.qn (opLoadT (.one .any) (some 17) 59 (.tmp 16) (.slice 91) Try.underlying59 1 sz59 (by kernel_rfl) 59 "ref.go:71" #[eD 8, eG 3]) opLoadT_nat, (some (3, 11, false))⟩,
 ⟨.p (opLen (some 18) (.tmp 17) 59 (.slice 91) Try.underlying59 3 "ref.go:71" #[eD 9, eG 3]), (some (3, 11, false))⟩,
 ⟨.pn (opBin (some 19) .geq 3 (.tmp 13) (.tmp 18) 3 4 "ref.go:71" #[eD 5, eD 10, eG 3]) opBin_nat, (some (3, 11, false))⟩,
 ⟨.p (opPick (some 20) (.tmp 11) (.const (Value.bool true)) (.tmp 19) 4 "ref.go:71" #[eD 3, eD 11]), none⟩
 ] mixed (by kernel_rfl)))
 (.cond (.tmp 20)
 (.seq (.live [4, 5] (.region 2 [
 ⟨(opAssign (some 4) (.const (Value.slice none 0 0)) 34 "ref.go:72" #[]).op, none⟩,
 ⟨(opAssign (some 5) (.const (Value.bool false)) 4 "ref.go:72" #[eC 0, eP 0]).op, none⟩
 ] (by kernel_rfl)))
 (.live [4, 5] .ret))
 .skip))
 (.seq (.live [6, 7] (.draw 3 [
 ⟨.p (opMove (some 22) (.tmp 0) 56 "ref.go:74" #[]), none⟩,
 ⟨.p (opNilCheck (some 23) (.tmp 22) 0 "ref.go:74" #[eD 0]), none⟩,
 ⟨.pn (opFieldAddr (some 24) 61 (.tmp 23) 0 0 1 false fl61_0 (by decide) 0 "ref.go:74" #[eD 1]) opFieldAddr_nat, none⟩,
 ⟨.qn (opLoadT (.one .any) (some 25) 59 (.tmp 24) (.slice 91) Try.underlying59 1 sz59 (by kernel_rfl) 59 "ref.go:74" #[eD 2]) opLoadT_nat, none⟩,
 ⟨.pn (opFieldAddr (some 26) 30 (.tmp 3) 0 0 1 false fl30_0 (by decide) 0 "ref.go:74" #[]) opFieldAddr_nat, none⟩,
 ⟨.qn (opLoadT (.one (.int .i64)) (some 27) 3 (.tmp 26) (.int .i64) Try.underlying3 1 sz3 (by kernel_rfl) 3 "ref.go:74" #[eD 4]) opLoadT_nat, none⟩,
 ⟨.pn (opIndexAddrT (some 28) 59 (.tmp 25) (.tmp 27) 91 1 Try.underlying59 sz91 0 "ref.go:74" #[eD 3, eD 5]) opIndexAddrT_nat, none⟩,
 ⟨.qn (opLoadT (.agg [(.ns 1)]) (some 29) 91 (.tmp 28) d91 ud91 1 sz91 (by kernel_rfl) 91 "ref.go:74" #[eD 6]) opLoadT_nat, none⟩,
 ⟨.pn (opFieldAddr (some 30) 30 (.tmp 3) 1 1 1 false fl30_1 (by decide) 0 "ref.go:74" #[]) opFieldAddr_nat, none⟩,
 ⟨.qn (opLoadT (.one (.int .i64)) (some 31) 3 (.tmp 30) (.int .i64) Try.underlying3 1 sz3 (by kernel_rfl) 3 "ref.go:74" #[eD 8]) opLoadT_nat, none⟩,
 ⟨.pn (opCallP p81 (some 32) [(.tmp 29), (.tmp 31)] #[91, 3] 37 "ref.go:74" #[eD 7, eD 9]) (opCallP_nat p81_nat), none⟩,
 ⟨.p (opMove (some 21) (.tmp 32) 37 "ref.go:74" #[eD 10]), none⟩,
 ⟨.p (opExtract (some 33) (.tmp 21) 0 34 "ref.go:74" #[eD 11]), none⟩,
 ⟨.p (opExtract (some 34) (.tmp 21) 1 4 "ref.go:74" #[eD 11, eX 14]), none⟩,
 ⟨.p (opAssign (some 6) (.tmp 33) 34 "ref.go:74" #[eD 12, eC 10, eP 0, eP 1, eP 2, eP 3, eP 4, eP 5, eP 6, eP 7, eP 8, eP 9, eP 10, eP 11, eP 12, eT 13]), none⟩,
 ⟨.p (opAssign (some 7) (.tmp 34) 4 "ref.go:74" #[eD 13, eC 14, eP 0, eP 1, eP 2, eP 3, eP 4, eP 5, eP 6, eP 7, eP 8, eP 9, eP 10, eP 11, eP 12, eP 13, eP 14]), none⟩
 ] mixed (by kernel_rfl)))
 (.seq (.live [4, 5] (.region 4 [
 ⟨(opMove (some 35) (.tmp 6) 34 "ref.go:75" #[]).op, none⟩,
 ⟨(opCallP p51 (some 36) [(.tmp 35)] #[34] 34 "ref.go:75" #[eD 0]).op, none⟩,
 ⟨(opMove (some 37) (.tmp 7) 4 "ref.go:75" #[eX 3]).op, none⟩,
 ⟨(opAssign (some 4) (.tmp 36) 34 "ref.go:75" #[eD 1, eC 1, eP 0, eP 1, eT 2]).op, none⟩,
 ⟨(opAssign (some 5) (.tmp 37) 4 "ref.go:75" #[eD 2, eC 3, eP 0, eP 1, eP 2, eP 3]).op, none⟩
 ] (by kernel_rfl)))
 (.live [4, 5] .ret)))))
noncomputable def f64 : Fun Try.prog where
 id := 64
 fn := Try.f64
 hf := Try.func64
 hname := by kernel_rfl
 body := f64_b
 hbody := by kernel_rfl
 res := [rTmp 4, rTmp 5]
 hres := by kernel_rfl
 n := 38
 hn := by kernel_rfl
theorem rt56_nil (F : Nat) :
 (f56.run F.succ [.ptr 0 0] ⟨[.cells [.nilsl], .nov 0], []⟩ : Ans) =
 some (Fin.ret (AV.tup []), St.mk [Ob.cells [AV.nilsl], Ob.nov 0] []) := by kernel_rfl
theorem rt56_run (F v n : Nat) (cs : List AV) :
 (f56.run F [.ptr 0 0] ⟨[.cells [.vs 1 v 1 n], .vec v cs], []⟩ : Ans) =
 loopRun (f56_l0.run F) [0] (Cont.block 0 (f56.leaveK Fun.done)) F
 (Env.mk 39 [(0, AV.ptr 0 0)])
 (St.mk [Ob.cells [AV.vs 1 v 1 n], Ob.vec v cs] []) := by kernel_rfl
theorem rt56_round (F m v n : Nat) (cs : List AV) (K : Cont) :
 (loopRun (f56_l0.run F) [0] K m.succ (Env.mk 39 [(0, .ptr 0 0)]) ⟨[.cells [.vs 1 v 1 n], .vec v cs], []⟩ : Ans) =
 branch (.bool (decide ((↑n : Int) > 0)))
 (if
 (0 : Int) ≤ IntKind.i64.wrap ((↑n : Int) - 1) ∧
 IntKind.i64.wrap ((↑n : Int) - 1) < (↑n : Int) then
 branch (.bool (v.beq v))
 (branch
 (AV.bool
 ((LD.one (LT.ns 1)).is
 (List.drop ((IntKind.i64.wrap ((↑n : Int) - 1)).toNat * 1 + 0) cs)))
 (branch
 (AV.bool
 ((↑(rwA (List.drop ((IntKind.i64.wrap ((↑n : Int) - 1)).toNat * 1 + 0) cs)).length :
 Int) ==
 (0 : Int)))
 (if
 (0 : Int) ≤ IntKind.i64.wrap ((↑n : Int) - 1) ∧
 IntKind.i64.wrap ((↑n : Int) - 1) ≤ (↑n : Int) then
 loopRun (f56_l0.run F) [0] K m (Env.mk 39 [(0, AV.ptr 0 0)])
 (St.mk
 [Ob.cells [AV.vs 1 v 1 (IntKind.i64.wrap ((↑n : Int) - 1)).toNat], Ob.vec v cs]
 [])
 else none)
 (K (AX.exit 0) (Env.mk 39 [])
 (St.mk [Ob.cells [AV.vs 1 v 1 n], Ob.vec v cs] [])))
 none)
 none
 else none)
 (K (AX.exit 0) (Env.mk 39 []) (St.mk [Ob.cells [AV.vs 1 v 1 n], Ob.vec v cs] [])) := by kernel_rfl
theorem rget_nil (F : Nat) (p s : Int) :
 (f64.run F [.ptr 0 0, .agg [.int .i64 p, .int .i64 s]] ⟨[.cells [.nilsl], .nov 0], []⟩ : Ans) =
 branch (.bool (decide (p < 0)))
 (some (Fin.ret (AV.tup [AV.nilsl, AV.bool false]), St.mk [Ob.cells [AV.nilsl], Ob.nov 0] []))
 (branch (.bool (decide (p ≥ 0)))
 (some (Fin.ret (AV.tup [AV.nilsl, AV.bool false]), St.mk [Ob.cells [AV.nilsl], Ob.nov 0] [])) none) := by kernel_rfl
theorem rget_run (F v n : Nat) (cs : List AV) (p s : Int) :
 (f64.run F [.ptr 0 0, .agg [.int .i64 p, .int .i64 s]] ⟨[.cells [.vs 1 v 1 n], .vec v cs], []⟩ : Ans) =
 branch (.bool (decide (p < 0)))
 (some (Fin.ret (AV.tup [AV.nilsl, AV.bool false]), St.mk [Ob.cells [AV.vs 1 v 1 n], Ob.vec v cs] []))
 (branch (.bool (decide (p ≥ (↑n : Int))))
 (some
 (Fin.ret (AV.tup [AV.nilsl, AV.bool false]), St.mk [Ob.cells [AV.vs 1 v 1 n], Ob.vec v cs] []))
 (if (0 : Int) ≤ p ∧ p < (↑n : Int) then
 branch (.bool (v.beq v))
 (branch (.bool ((LD.agg [LT.ns 1]).is (List.drop (p.toNat * 1) cs)))
 (branch (.bool (isN (rwA (List.drop (p.toNat * 1) cs))))
 (branch
 (AV.bool
 (byOk (oR (getI (rwA (List.drop (p.toNat * 1) cs)) s)) &&
 apOk (oR (getI (rwA (List.drop (p.toNat * 1) cs)) s)).length 1))
 (some
 (Fin.ret
 (AV.tup
 [AV.sl 1 false (oR (getI (rwA (List.drop (p.toNat * 1) cs)) s)),
 AV.bool (oB (getI (rwA (List.drop (p.toNat * 1) cs)) s))]),
 St.mk [Ob.cells [AV.vs 1 v 1 n], Ob.vec v cs] []))
 none)
 none)
 none)
 none
 else none)) := by kernel_rfl
structure Rh where
 v : Nat
 cs : List (Bool × Sl)
 n : Nat
def qc (c : Bool × Sl) : AV := match c.1 with
 | true => .nilsl
 | false => .ns c.2.isEmpty 1 (sN c.2)
def qC (l : List (Bool × Sl)) : List AV := l.map qc
def SlB (s : Sl) : Prop := okSl s ∧ trm s = true ∧ pgOk s = true ∧ s.length ≤ 251
theorem SlB_nil : SlB [] := ⟨okSl_nil, rfl, by rw [pgOk_iff]; exact ⟨by decide, fun o h => by cases h⟩, by decide⟩
theorem PgB.sl {p : List Nat} (h : PgB p) : SlB (ofS p) := by
 obtain ⟨_, h1, h2, h3, _⟩ := h.1.slots
 exact ⟨h1, h3, h2, h.2⟩
theorem qC_length (l : List (Bool × Sl)) : (qC l).length = l.length := by simp [qC]
def Rh.obs (X : Rh) : List Ob :=
 match X.v with
 | 0 => [.cells [.nilsl], .nov 0]
 | v + 1 => [.cells [.vs 1 (v + 1) 1 X.n], .vec (v + 1) (qC X.cs)]
structure Rh.Ok (X : Rh) : Prop where
 z : X.v = 0 → X.cs = [] ∧ X.n = 0
 n : X.n ≤ X.cs.length
 m : X.cs.length ≤ 300
 sl : ∀ c ∈ X.cs, SlB c.2 ∧ (c.1 = true → c.2 = [])
theorem qc_inj {a b : Bool × Sl} (ha : a.1 = true → a.2 = []) (hb : b.1 = true → b.2 = []) (h : qc a = qc b) : a = b := by
 obtain ⟨x, s⟩ := a
 obtain ⟨y, t⟩ := b
 cases x <;> cases y <;> simp only [qc, AV.ns.injEq, true_and] at h
 ·have := congrArg sR h.2
  rw [sR_sN, sR_sN] at this
  rw [this]
 ·cases h
 ·cases h
 ·rw [show s = [] from ha rfl, show t = [] from hb rfl]
theorem qC_inj : ∀ {a b : List (Bool × Sl)}, (∀ c ∈ a, c.1 = true → c.2 = []) → (∀ c ∈ b, c.1 = true → c.2 = []) → qC a = qC b → a = b
 | [], [], _, _, _ => rfl
 | [], _ :: _, _, _, h => by simp [qC] at h
 | _ :: _, [], _, _, h => by simp [qC] at h
 | x :: a, y :: b, ha, hb, h => by
  simp only [qC, List.map_cons, List.cons.injEq] at h
  rw [qc_inj (ha x (by simp)) (hb y (by simp)) h.1, qC_inj (a := a) (b := b) (fun c hc => ha c (by simp [hc])) (fun c hc => hb c (by simp [hc])) h.2]
theorem qC_near (n : Nat) : ∀ l : List (Bool × Sl), NearL n (qC l)
 | [] => trivial
 | (true, s) :: l => ⟨trivial, qC_near n l⟩
 | (false, s) :: l => ⟨sN_scoped s, qC_near n l⟩
def rhA : ADT Rh where
 m := 2
 p := 0
 hp := by decide
 obs := Rh.obs
 Ok := Rh.Ok
 len X := by unfold Rh.obs; split <;> rfl
 near X h o ho := by
  unfold Rh.obs at ho
  split at ho
  ·simp at ho
   rcases ho with rfl | rfl
   ·exact ⟨trivial, trivial⟩
   ·trivial
  ·simp at ho
   rcases ho with rfl | rfl
   ·exact ⟨by show 1 < 2; omega, trivial⟩
   ·exact qC_near _ _
 inj X Y hX hY h := by
  obtain ⟨v, cs, n⟩ := X
  obtain ⟨v', cs', n'⟩ := Y
  unfold Rh.obs at h
  cases v with
  | zero =>
   cases v' with
   | zero =>
    obtain ⟨a1, a2⟩ := hX.z rfl
    obtain ⟨b1, b2⟩ := hY.z rfl
    simp only at a1 a2 b1 b2
    rw [a1, a2, b1, b2]
   | succ v' => simp at h
  | succ v =>
   cases v' with
   | zero => simp at h
   | succ v' =>
    simp only [List.cons.injEq, Ob.cells.injEq, AV.vs.injEq, true_and, and_true, Ob.vec.injEq] at h
    obtain ⟨⟨h1, h2⟩, _, h3⟩ := h
    have e : cs = cs' := qC_inj (fun c hc => (hX.sl c hc).2) (fun c hc => (hY.sl c hc).2) h3
    rw [Nat.succ.inj h1, h2, e]
theorem rh_obl {X : Rh} (h : X.Ok) : [rhA.ob 0 X 0, rhA.ob 0 X 1] = X.obs := rhA.obl_zero (x := X) h
theorem rh_G {X : Rh} (h : X.Ok) : rhA.G 0 X.obs = some X := by
 have := rhA.G_obl (x := X) h 0
 rwa [ADT.obl_zero rhA h] at this
theorem rh_Gob {X : Rh} (h : X.Ok) : rhA.G 0 [rhA.ob 0 X 0, rhA.ob 0 X 1] = some X := by rw [rh_obl h]; exact rh_G h
def Rh.at_ (X : Rh) (k : Nat) : Sl := if k < X.n then ((X.cs[k]?).getD (true, [])).2 else []
theorem qC_at {l : List (Bool × Sl)} (h : ∀ c ∈ l, SlB c.2 ∧ (c.1 = true → c.2 = [])) {i : Nat} (hi : i < l.length) : (LD.one (LT.ns 1)).is (List.drop (i * 1 + 0) (qC l)) = true ∧ (LD.agg [LT.ns 1]).is (List.drop (i * 1) (qC l)) = true ∧ rwA (List.drop (i * 1) (qC l)) = sN (l[i]).2 ∧ isN (sN (l[i]).2) = true := by
 have hl : i < (qC l).length := by rw [qC_length]; exact hi
 have e : (qC l)[i] = qc l[i] := by simp [qC]
 obtain ⟨h1, h2⟩ := h _ (List.getElem_mem hi)
 have hd : List.drop i (qC l) = qc l[i] :: List.drop (i + 1) (qC l) := by rw [List.drop_eq_getElem_cons hl, e]
 rw [Nat.add_zero, Nat.mul_one, hd]
 have hN : isN (sN (l[i]).2) = true := isN_sN h1.1 (by have := h1.2.2.2; omega)
 cases hc : l[i] with
 | mk b s =>
  rw [hc] at h2 hN
  cases b with
  | false => exact ⟨rfl, rfl, rfl, hN⟩
  | true =>
   have : s = [] := h2 rfl
   subst this
   exact ⟨rfl, rfl, rfl, hN⟩
theorem Rh.at_sl {X : Rh} (h : X.Ok) (k : Nat) : SlB (X.at_ k) := by
 rw [Rh.at_]
 split
 ·rename_i hk
  have := h.n
  rw [List.getElem?_eq_getElem (by omega)]
  exact (h.sl _ (List.getElem_mem _)).1
 ·exact SlB_nil
theorem Rh.at_ge {X : Rh} {k : Nat} (h : X.n ≤ k) : X.at_ k = [] := by rw [Rh.at_, if_neg (by omega)]
def Rh.Tight (X : Rh) : Prop := ∀ m, X.n = m + 1 → X.at_ m ≠ []
def trQ (cs : List (Bool × Sl)) : Nat → Nat
 | 0 => 0
 | n + 1 => if ((cs[n]?).getD (true, [])).2 = [] then trQ cs n else n + 1
theorem trQ_le (cs : List (Bool × Sl)) : ∀ n, trQ cs n ≤ n
 | 0 => Nat.le_refl _
 | n + 1 => by
  rw [trQ]
  split
  ·exact Nat.le_succ_of_le (trQ_le cs n)
  ·exact Nat.le_refl _
def Rh.trim (X : Rh) : Rh := ⟨X.v, X.cs, trQ X.cs X.n⟩
theorem Rh.Ok.trim {X : Rh} (h : X.Ok) : X.trim.Ok where
 z e := by obtain ⟨h1, h2⟩ := h.z e; exact ⟨h1, by show trQ X.cs X.n = 0; rw [h2]; rfl⟩
 n := Nat.le_trans (trQ_le _ _) h.n
 m := h.m
 sl := h.sl
theorem trQ_zero {cs : List (Bool × Sl)} : ∀ {n i : Nat}, trQ cs n ≤ i → i < n → ((cs[i]?).getD (true, [])).2 = []
 | 0, i, _, h => by omega
 | n + 1, i, h, hi => by
  rw [trQ] at h
  split at h
  ·rename_i h0
   by_cases e : i = n
   ·rw [e]; exact h0
   ·exact trQ_zero h (by omega)
  ·omega
theorem trQ_top {cs : List (Bool × Sl)} : ∀ {n m : Nat}, trQ cs n = m + 1 → ((cs[m]?).getD (true, [])).2 ≠ []
 | 0, m, h => by cases h
 | n + 1, m, h => by
  rw [trQ] at h
  split at h
  ·exact trQ_top h
  ·rename_i h0; obtain rfl : n = m := by omega
   exact h0
theorem Rh.at_trim (X : Rh) (i : Nat) : X.trim.at_ i = X.at_ i := by
 have hle := trQ_le X.cs X.n
 rw [Rh.at_, Rh.at_]
 show (if i < trQ X.cs X.n then _ else _) = _
 by_cases h1 : i < trQ X.cs X.n
 ·rw [if_pos h1, if_pos (by omega)]; rfl
 ·rw [if_neg h1]
  by_cases h2 : i < X.n
  ·rw [if_pos h2, trQ_zero (n := X.n) (by omega) h2]
  ·rw [if_neg h2]
theorem Rh.trim_tight (X : Rh) : X.trim.Tight := by
 intro m hm
 have hm : trQ X.cs X.n = m + 1 := hm
 have hle := trQ_le X.cs X.n
 rw [Rh.at_trim, Rh.at_, if_pos (by omega)]
 exact trQ_top hm
theorem rt_loopQ {cs : List (Bool × Sl)} (h : ∀ c ∈ cs, SlB c.2 ∧ (c.1 = true → c.2 = [])) (F v : Nat) (hm : cs.length ≤ 300) (K : Cont) : ∀ (n m : Nat), n ≤ cs.length → n < m →
  loopRun (f56_l0.run F) [0] K m (Env.mk 39 [(0, .ptr 0 0)]) ⟨[.cells [.vs 1 v 1 n], .vec v (qC cs)], []⟩
   = K (.exit 0) (Env.mk 39 []) ⟨[.cells [.vs 1 v 1 (trQ cs n)], .vec v (qC cs)], []⟩
 | n, 0, _, h => by omega
 | 0, m + 1, _, _ => by rw [show m + 1 = m.succ from rfl, rt56_round, branch_not (decide_eq_false (by omega))]; rfl
 | n + 1, m + 1, hn, hm' => by
  have hlt : n < cs.length := by omega
  obtain ⟨a1, a2, a3, a4⟩ := qC_at h hlt
  have w : IntKind.i64.wrap (((n + 1 : Nat) : Int) - 1) = (n : Nat) := by rw [wrapS (by omega) (by omega)]; omega
  rw [show m + 1 = m.succ from rfl, rt56_round, branch_of (decide_eq_true (by omega)), w, if_pos ⟨by omega, by omega⟩, branch_of (Nat.beq_refl _), Int.toNat_natCast, branch_of a1, Nat.add_zero, a3, sN_length, trQ, List.getElem?_eq_getElem hlt]
  by_cases h0 : (cs[n]).2 = []
  ·rw [branch_of (by rw [h0]; rfl), if_pos ⟨by omega, by omega⟩, if_pos (show ((some cs[n]).getD (true, [])).2 = [] from h0)]
   exact rt_loopQ h F v hm K n m (by omega) (by omega)
  ·have hl : (cs[n]).2.length ≠ 0 := fun e => h0 (List.eq_nil_of_length_eq_zero e)
   rw [branch_not (by rw [beq_eq_false_iff_ne]; omega), if_neg (show ¬ ((some cs[n]).getD (true, [])).2 = [] from h0)]
theorem rtrim_at {X : Rh} (h : X.Ok) : f56.run 1000 [.ptr 0 0] ⟨X.obs, []⟩ = some (.ret (.tup []), ⟨X.trim.obs ++ [], []⟩) := by
 rw [List.append_nil]
 obtain ⟨v, cs, n⟩ := X
 have hn := h.n
 have hm := h.m
 simp only at hn hm
 cases v with
 | zero =>
  obtain ⟨h1, h2⟩ := h.z rfl
  simp only at h1 h2
  subst h1; subst h2
  exact rt56_nil 999
 | succ v =>
  show f56.run 1000 [.ptr 0 0] ⟨[.cells [.vs 1 (v + 1) 1 n], .vec (v + 1) (qC cs)], []⟩ = _
  rw [rt56_run, rt_loopQ h.sl 1000 (v + 1) hm _ n 1000 hn (by omega)]
  rfl
noncomputable def s56 : OrcS Try.prog := f56.by'
 (fun args st k => match args with
  | [x] => rhA.on x st fun i X => k (.ret (.tup [])) (rhA.pl st i X.trim)
  | _ => none)
 fun args st k fin h => by
  split at h
  ·rename_i x
   obtain ⟨i, X, rfl, hd, h⟩ := ADT.on_spec h
   exact ⟨_, _, h, ADT.placed (A := rhA) (f := f56) (x := X) (y := X.trim) (args0 := [.ptr 0 0]) (r := .tup []) (xs := []) (rtrim_at hd.ok) hd.ok.trim ⟨by show 0 < 2; omega, trivial⟩ trivial hd⟩
  ·cases h
def Rh.get (X : Rh) (p s : Int) : Option (List Nat) := if 0 ≤ p then getP (X.at_ p.toNat) s else none
noncomputable def Rh.getZ (X : Rh) (p : Int) : Bool := opq (decide (p < 0 ∨ (X.n : Int) ≤ p))
noncomputable def Rh.getV (X : Rh) (p s : Int) : AV := .tup [.ns (X.getZ p) 1 (oR (X.get p s)), .bool (oB (X.get p s))]
theorem byOk_get {s : Sl} (h : SlB s) (i : Int) : (byOk (oR (getP s i)) && apOk (oR (getP s i)).length 1) = true := by
 cases hg : getP s i with
 | none => rw [oR_none, show byOk [] = true from byOk_bR (l := []) (by simp) (by simp)]; show apOk 0 1 = true; rw [apOk_iff]; omega
 | some b =>
  have hb := getP_ok h.1 hg
  have hs := getP_bound (s := s) (i := i) (by rw [hg]; rfl)
  obtain ⟨n, rfl⟩ := Int.eq_ofNat_of_zero_le hs.1
  have h1 := hs.2
  rw [Int.toNat_natCast] at h1
  rw [getP_nat, getS_lt h1] at hg
  have h2 : olen (some b) ≤ 200 := (pgOk_iff.mp h.2.2.1).2 (some b) (by rw [← hg]; exact List.getElem_mem h1)
  have h2 : b.length ≤ 200 := h2
  rw [oR_some, byOk_bR hb.1 hb.2, bR_length, show apOk b.length 1 = true by rw [apOk_iff]; omega]; rfl
theorem rget_at {X : Rh} (h : X.Ok) (p s : Int) (F : Nat) : ∃ r, f64.run F [.ptr 0 0, .agg [.int .i64 p, .int .i64 s]] ⟨X.obs, []⟩ = some (.ret r, ⟨X.obs ++ [], []⟩) ∧ Near 2 (frz r) ∧ (∀ τ, ren τ (frz r) = frz r) ∧ Wk (frz r) (X.getV p s) := by
 rw [List.append_nil]
 have no : X.get p s = none → (p < 0 ∨ (X.n : Int) ≤ p) → Near 2 (frz (AV.tup [AV.nilsl, AV.bool false])) ∧ (∀ τ, ren τ (frz (AV.tup [AV.nilsl, AV.bool false])) = frz (AV.tup [AV.nilsl, AV.bool false])) ∧ Wk (frz (AV.tup [AV.nilsl, AV.bool false])) (X.getV p s) := fun e hz => ⟨⟨trivial, trivial, trivial⟩, fun _ => rfl, by rw [Rh.getV, e, oB_none, oR_none, Rh.getZ, opq_eq, decide_eq_true hz]; exact .tup (.cons .nil (.cons (.refl _) .nil))⟩
 have hS := Rh.at_sl h p.toNat
 obtain ⟨v, cs, n⟩ := X
 have hn := h.n
 simp only at hn
 cases v with
 | zero =>
  obtain ⟨h1, h2⟩ := h.z rfl
  simp only at h1 h2
  subst h1; subst h2
  have e : (Rh.mk 0 [] 0).get p s = none := by
   unfold Rh.get
   split
   ·rw [Rh.at_ge (Nat.zero_le _), getP]; split <;> rfl
   ·rfl
  show ∃ r, f64.run F [.ptr 0 0, .agg [.int .i64 p, .int .i64 s]] ⟨[.cells [.nilsl], .nov 0], []⟩ = _ ∧ _
  rw [rget_nil]
  by_cases hp : p < 0
  ·exact ⟨_, branch_of (decide_eq_true hp), no e (.inl hp)⟩
  ·exact ⟨_, (branch_not (decide_eq_false hp)).trans (branch_of (decide_eq_true (by omega))), no e (.inr (by show ((0 : Nat) : Int) ≤ p; omega))⟩
 | succ v =>
  show ∃ r, f64.run F [.ptr 0 0, .agg [.int .i64 p, .int .i64 s]] ⟨[.cells [.vs 1 (v + 1) 1 n], .vec (v + 1) (qC cs)], []⟩ = _ ∧ _
  rw [rget_run]
  by_cases hp : p < 0
  ·have e : (Rh.mk (v + 1) cs n).get p s = none := by unfold Rh.get; rw [if_neg (by omega)]
   exact ⟨_, branch_of (decide_eq_true hp), no e (.inl hp)⟩
  ·obtain ⟨k, rfl⟩ := Int.eq_ofNat_of_zero_le (by omega : 0 ≤ p)
   by_cases hk : k < n
   ·have hlt : k < cs.length := by omega
    obtain ⟨a1, a2, a3, a4⟩ := qC_at h.sl hlt
    have ea : (Rh.mk (v + 1) cs n).at_ k = (cs[k]).2 := by
     rw [Rh.at_]; simp only; rw [if_pos hk, List.getElem?_eq_getElem hlt]; rfl
    have e : (Rh.mk (v + 1) cs n).get (k : Int) s = getP (cs[k]).2 s := by
     rw [Rh.get, if_pos (by omega), Int.toNat_natCast, ea]
    have eg : getI (sN (cs[k]).2) s = getP (cs[k]).2 s := by rw [getI, opq_eq, sR_sN]
    rw [Int.toNat_natCast, ea] at hS
    refine ⟨.tup [.sl 1 false (oR (getP (cs[k]).2 s)), .bool (oB (getP (cs[k]).2 s))], (branch_not (decide_eq_false hp)).trans ((branch_not (decide_eq_false (by omega))).trans ((if_pos ⟨by omega, by omega⟩).trans ((branch_of (Nat.beq_refl _)).trans (by rw [Int.toNat_natCast, branch_of a2, a3, branch_of a4, eg, branch_of (byOk_get hS s)]; rfl)))), ?_⟩
    have es : ∀ o : Option (List Nat), frz (.tup [.sl 1 false (oR o), .bool (oB o)]) = .tup [.sl 1 false (oR o), .bool (oB o)] := fun o => rfl
    rw [es]
    refine ⟨?_, fun τ => rfl, ?_⟩
    ·cases getP (cs[k]).2 s with
     | none => rw [oR_none]; exact ⟨trivial, trivial, trivial⟩
     | some b => rw [oR_some]; exact ⟨bR_scoped b, trivial, trivial⟩
    ·rw [Rh.getV, e, Rh.getZ, opq_eq, decide_eq_false (by show ¬ ((k : Int) < 0 ∨ (n : Int) ≤ k); omega)]
     exact .tup (.cons .sl (.cons (.refl _) .nil))
   ·have e : (Rh.mk (v + 1) cs n).get (k : Int) s = none := by
     rw [Rh.get, if_pos (by omega), Int.toNat_natCast, Rh.at_ge (by simp only; omega), getP]; split <;> rfl
    exact ⟨_, (branch_not (decide_eq_false hp)).trans (branch_of (decide_eq_true (by omega))), no e (.inr (by show (n : Int) ≤ k; omega))⟩
noncomputable def q64 : OrcQ Try.prog := f64.byQ
 (fun args st k => match args with
  | [x, r] => rhA.on x st fun j X => onRid r fun p s => k (X.getV p s)
  | _ => none)
 fun args st k fin h => by
  split at h
  ·rename_i x r
   obtain ⟨j, X, rfl, hd, h1⟩ := ADT.on_spec h
   obtain ⟨p, s, rfl, h2⟩ := onRid_spec h1
   refine ⟨_, h2, ?_⟩
   obtain ⟨r, g1, g2, g3, g4⟩ := rget_at hd.ok p s 0
   have := ADT.placed (A := rhA) (f := f64) (x := X) (y := X) (args0 := [.ptr 0 0, .agg [.int .i64 p, .int .i64 s]]) (r := r) (xs := []) g1 hd.ok ⟨by show 0 < 2; omega, ⟨trivial, trivial, trivial⟩, trivial⟩ g2 hd
   rw [hd.same, g3] at this
   exact CallsTo.wkR this g4
  ·cases h
theorem by91 : (Try.prog.info? 91).map (·.bytes) = some 24 := by kernel_rfl
theorem el59 : ElemOf Try.prog 59 91 1 24 (.agg #[(.slice none 0 0)]) := ⟨Try.underlying59, sz91, by91, ze91, by kernel_rfl, by decide⟩
noncomputable def f59_l0 : Sim Try.prog :=
 (.seq (.seq (.live [0, 1, 2, 14] (.region 0 [
 ⟨(opMove (some 8) (.tmp 0) 56 "ref.go:42" #[]).op, none⟩,
 ⟨(opNilCheck (some 9) (.tmp 8) 0 "ref.go:42" #[eD 0]).op, none⟩,
 ⟨(opFieldAddr (some 10) 61 (.tmp 9) 0 0 1 false fl61_0 (by decide) 0 "ref.go:42" #[eD 1]).op, none⟩,
 ⟨(opLoadT (.one .any) (some 11) 59 (.tmp 10) (.slice 91) Try.underlying59 1 sz59 (by kernel_rfl) 59 "ref.go:42" #[eD 2]).op, none⟩,
 ⟨(opLen (some 12) (.tmp 11) 59 (.slice 91) Try.underlying59 3 "ref.go:42" #[eD 3]).op, none⟩,
 ⟨(opMove (some 13) (.tmp 1) 3 "ref.go:42" #[]).op, none⟩,
 ⟨(opBin (some 14) .leq 3 (.tmp 12) (.tmp 13) 3 4 "ref.go:42" #[eD 4, eD 5]).op, none⟩
 ] (by kernel_rfl)))
 (.cond (.tmp 14)
 .skip
 (.live [0, 1, 2] (.exit 0))))
 (.block 1 (.live [0, 1, 2] (.region 1 [
 ⟨(opMove (some 15) (.tmp 0) 56 "ref.go:43" #[]).op, none⟩,
 ⟨(opMove (some 16) (.tmp 0) 56 "ref.go:43" #[]).op, none⟩,
 ⟨(opNilCheck (some 17) (.tmp 16) 0 "ref.go:43" #[eD 1]).op, none⟩,
 ⟨(opFieldAddr (some 18) 61 (.tmp 17) 0 0 1 false fl61_0 (by decide) 0 "ref.go:43" #[eD 2]).op, none⟩,
 ⟨(opLoadT (.one .any) (some 19) 59 (.tmp 18) (.slice 91) Try.underlying59 1 sz59 (by kernel_rfl) 59 "ref.go:43" #[eD 3]).op, none⟩,
 ⟨(opBuild (some 20) 91 #[(.slice none 0 0)] [] ze91 (by kernel_rfl) 91 "ref.go:43" #[]).op, none⟩,
 ⟨(opBuildSlice (some 21) 59 1 [(0, (.tmp 20))] 91 1 24 (.agg #[(.slice none 0 0)]) el59 (by kernel_rfl) (by decide) 59 "ref.go:43" #[eD 5]).op, none⟩,
 ⟨(opAppendR (some (.tmp 0)) 1 (some 22) (.tmp 19) (.tmp 21) 59 59 91 1 24 (.agg #[(.slice none 0 0)]) el59 (.slice 91) Try.underlying59 rfl 59 "ref.go:43" #[eD 4, eD 6]).op, none⟩,
 ⟨(opNilCheck (some 23) (.tmp 15) 0 "ref.go:43" #[eD 0, eP 0, eP 1, eP 2, eP 3, eP 4, eP 5, eP 6, eP 7]).op, none⟩,
 ⟨(opFieldAddr (some 24) 61 (.tmp 23) 0 0 1 false fl61_0 (by decide) 0 "ref.go:43" #[eD 8, eP 0, eP 1, eP 2, eP 3, eP 4, eP 5, eP 6, eP 7]).op, none⟩,
 ⟨(opStore none 59 (.tmp 24) (.tmp 22) 1 sz59 0 "ref.go:43" #[eD 9, eD 7, eC 7, eP 0, eP 1, eP 2, eP 3, eP 4, eP 5, eP 6, eP 7]).op, none⟩
 ] (by kernel_rfl)))))
noncomputable def f59_r0 : Sim Try.prog :=
 (.seq (.live [0, 1, 6] (.items 2 [
 .one ((opMove (some 26) (.tmp 2) 34 "ref.go:45" #[]).op),
 .one ((opCallP p55 (some 27) [(.tmp 26)] #[34] 92 "ref.go:45" #[eD 0]).op),
 .one ((opMove (some 25) (.tmp 27) 92 "ref.go:45" #[eD 1]).op),
 .one ((opExtract (some 28) (.tmp 25) 0 91 "ref.go:45" #[eD 2]).op),
 .one ((opExtract (some 29) (.tmp 25) 1 4 "ref.go:45" #[eD 2, eX 6]).op),
 .two (op2Box 6 91 (.agg #[(.slice none 0 0)]) ze91 (.tmp 28) (by rfl) 1 sz91 (by kernel_rfl) 39 (by rfl) 0 0 "ref.go:45" "ref.go:45" #[] #[eD 5, eD 3, eC 1, eP 0, eP 1, eP 2, eP 3, eT 4, eP 5]),
 .one ((opAssign (some 7) (.tmp 29) 4 "ref.go:45" #[eD 4, eC 6, eP 0, eP 1, eP 2, eP 3, eP 4, eP 5, eP 6]).op)
 ]))
 (.seq (.live [0] (.draw 3 [
 ⟨.p (opMove (some 30) (.tmp 0) 56 "ref.go:46" #[]), none⟩,
 ⟨.p (opNilCheck (some 31) (.tmp 30) 0 "ref.go:46" #[eD 0]), none⟩,
 ⟨.pn (opFieldAddr (some 32) 61 (.tmp 31) 0 0 1 false fl61_0 (by decide) 0 "ref.go:46" #[eD 1]) opFieldAddr_nat, none⟩,
 ⟨.qn (opLoadT (.one .any) (some 33) 59 (.tmp 32) (.slice 91) Try.underlying59 1 sz59 (by kernel_rfl) 59 "ref.go:46" #[eD 2]) opLoadT_nat, none⟩,
 ⟨.p (opMove (some 34) (.tmp 1) 3 "ref.go:46" #[]), none⟩,
 ⟨.qn (opLoadT (.agg [.any]) (some 35) 91 (.tmp 6) d91 ud91 1 sz91 (by kernel_rfl) 91 "ref.go:46" #[]) opLoadT_nat, none⟩,
 ⟨.pn (opIndexAddrT (some 36) 59 (.tmp 33) (.tmp 34) 91 1 Try.underlying59 sz91 0 "ref.go:46" #[eD 3, eD 4, eP 0, eP 1, eP 2, eP 3, eP 4, eP 5]) opIndexAddrT_nat, none⟩,
 ⟨.mn (opStoreC none 91 (.tmp 36) (.tmp 35) 1 sz91 0 "ref.go:46" #[eD 6, eD 5, eP 0, eP 1, eP 2, eP 3, eP 4, eP 5]) opStoreC_nat, none⟩
 ] mixed (by kernel_rfl)))
 (.live [] (.region 4 [
 ⟨(opMove (some 37) (.tmp 0) 56 "ref.go:47" #[]).op, none⟩,
 ⟨opCall (s56).orc (some 38) [(.tmp 37)] #[56] 0 "ref.go:47" #[eD 0], none⟩
 ] (by kernel_rfl)))))
noncomputable def f59_b : Sim Try.prog :=
 (.seq (.block 0 (.loop [0, 1, 2] f59_l0))
 f59_r0)
noncomputable def f59 : Fun Try.prog where
 id := 59
 fn := Try.f59
 hf := Try.func59
 hname := by kernel_rfl
 body := f59_b
 hbody := by kernel_rfl
 res := []
 hres := by kernel_rfl
 n := 39
 hn := by kernel_rfl
theorem rset_run (F : Nat) (k : Int) (z : Bool) (l : List (List AV)) (os : List Ob) :
 (f59.run F [.ptr 0 0, .int .i64 k, .ns z 1 l] ⟨os, []⟩ : Ans) =
 loopRun (f59_l0.run F) [0, 1, 2]
 (Cont.block 0 (Cont.then (f59_r0.run F (f59.leaveK Fun.done)) (f59.leaveK Fun.done))) F
 (Env.mk 39
 [(0, AV.ptr 0 0), (1, .int .i64 k), (2, AV.ns z 1 l)])
 (St.mk os []) := by kernel_rfl
theorem rset_round0 (F m : Nat) (k : Int) (z : Bool) (l : List (List AV)) (K : Cont) :
 (loopRun (f59_l0.run F) [0, 1, 2] K m.succ (Env.mk 39 [(0, .ptr 0 0), (1, .int .i64 k), (2, .ns z 1 l)]) ⟨[.cells [.nilsl], .nov 0], []⟩ : Ans) =
 branch (.bool (decide ((0 : Int) ≤ k)))
 (branch (.bool (apOk 1 24))
 (loopRun (f59_l0.run F) [0, 1, 2] K m
 (Env.mk 39
 [(0, AV.ptr 0 0), (1, .int .i64 k), (2, AV.ns z 1 l)])
 (St.mk
 [Ob.cells [AV.vs 1 1 1 1], Ob.vec 1 (catC [] 0 [[AV.nilsl]])]
 []))
 none)
 (K (AX.exit 0)
 (Env.mk 39
 [(0, AV.ptr 0 0), (1, .int .i64 k), (2, AV.ns z 1 l)])
 (St.mk [Ob.cells [AV.nilsl], Ob.nov 0] [])) := by kernel_rfl
theorem rset_round (F m v n : Nat) (cs : List AV) (k : Int) (z : Bool) (l : List (List AV)) (K : Cont) :
 (loopRun (f59_l0.run F) [0, 1, 2] K m.succ (Env.mk 39 [(0, .ptr 0 0), (1, .int .i64 k), (2, .ns z 1 l)]) ⟨[.cells [.vs 1 v 1 n], .vec v cs], []⟩ : Ans) =
 branch (.bool (decide ((↑n : Int) ≤ k)))
 (branch (.bool (v.beq v && (inC cs 0 (mulN n 1) && apOk (n + 1) 24)))
 (loopRun (f59_l0.run F) [0, 1, 2] K m
 (Env.mk 39
 [(0, AV.ptr 0 0), (1, .int .i64 k), (2, AV.ns z 1 l)])
 (St.mk
 [Ob.cells [AV.vs 1 (v + 1) 1 (n + 1)],
 Ob.vec (v + 1) (catC cs (mulN n 1) [[AV.nilsl]])]
 []))
 none)
 (K (AX.exit 0)
 (Env.mk 39
 [(0, AV.ptr 0 0), (1, .int .i64 k), (2, AV.ns z 1 l)])
 (St.mk [Ob.cells [AV.vs 1 v 1 n], Ob.vec v cs] [])) := by kernel_rfl
theorem rset_out (F v n : Nat) (cs : List AV) (k : Int) (z : Bool) (l : List (List AV)) :
 ((Cont.block 0 (Cont.then (f59_r0.run F (f59.leaveK Fun.done)) (f59.leaveK Fun.done))) (.exit 0) (Env.mk 39 [(0, .ptr 0 0), (1, .int .i64 k), (2, .ns z 1 l)]) ⟨[.cells [.vs 1 v 1 n], .vec v cs], []⟩ : Ans) =
 branch (.bool (byOk l && cdec (Pg (nR l))))
 (if (0 : Int) ≤ k ∧ k < (↑n : Int) then
 branch (.bool (v.beq v && (true && inC cs (k.toNat * 1) 1)))
 (onSome
 (rhA.G 0
 [Ob.cells [AV.vs 1 v 1 n],
 Ob.vec v (setC cs (k.toNat * 1) [AV.ns (rfE (nR l)) 1 (rfR (nR l))])])
 none fun (o : Rh) =>
 some (Fin.ret (AV.tup []), St.mk [rhA.ob 0 o.trim 0, rhA.ob 0 o.trim 1] []))
 none
 else none)
 none := by kernel_rfl
def Rh.grow (X : Rh) : Rh := ⟨X.v + 1, X.cs.take X.n ++ [(true, [])], X.n + 1⟩
theorem Rh.Ok.grow {X : Rh} (h : X.Ok) (hn : X.n < 300) : X.grow.Ok where
 z e := by cases e
 n := by have := h.n; simp only [Rh.grow, List.length_append, List.length_take, List.length_singleton]; omega
 m := by have := h.n; simp only [Rh.grow, List.length_append, List.length_take, List.length_singleton]; omega
 sl c hc := by
  simp only [Rh.grow, List.mem_append, List.mem_singleton] at hc
  rcases hc with hc | rfl
  ·exact h.sl c (List.mem_of_mem_take hc)
  ·exact ⟨SlB_nil, fun _ => rfl⟩
theorem Rh.at_grow {X : Rh} (h : X.Ok) (i : Nat) : X.grow.at_ i = X.at_ i := by
 have hn := h.n
 rw [Rh.at_, Rh.at_]
 show (if i < X.n + 1 then (((X.cs.take X.n ++ [(true, [])])[i]?).getD (true, [])).2 else []) = _
 by_cases h1 : i < X.n
 ·rw [if_pos (by omega), if_pos h1, List.getElem?_append_left (by rw [List.length_take]; omega), List.getElem?_take, if_pos h1]
 ·rw [if_neg h1]
  split
  ·obtain rfl : i = X.n := by omega
   rw [List.getElem?_append_right (by rw [List.length_take]; omega), List.length_take, Nat.min_eq_left hn, Nat.sub_self]; rfl
  ·rfl
def Rh.put (X : Rh) (k : Nat) (s : Sl) : Rh := ⟨X.v, X.cs.set k (false, s), X.n⟩
theorem Rh.Ok.put {X : Rh} (h : X.Ok) {k : Nat} {s : Sl} (hs : SlB s) : (X.put k s).Ok where
 z e := by obtain ⟨h1, h2⟩ := h.z e; exact ⟨by show X.cs.set k (false, s) = []; rw [h1]; rfl, h2⟩
 n := by show X.n ≤ (X.cs.set k (false, s)).length; rw [List.length_set]; exact h.n
 m := by show (X.cs.set k (false, s)).length ≤ 300; rw [List.length_set]; exact h.m
 sl c hc := by
  rcases List.mem_or_eq_of_mem_set hc with hc | rfl
  ·exact h.sl c hc
  ·exact ⟨hs, fun e => by cases e⟩
theorem Rh.at_put {X : Rh} (h : X.Ok) {k : Nat} (hk : k < X.n) (s : Sl) (i : Nat) : (X.put k s).at_ i = if i = k then s else X.at_ i := by
 have hn := h.n
 rw [Rh.at_, Rh.at_]
 show (if i < X.n then (((X.cs.set k (false, s))[i]?).getD (true, [])).2 else []) = _
 rw [List.getElem?_set]
 by_cases hi : k = i
 ·subst hi; rw [if_pos hk, if_pos rfl, if_pos (by omega), if_pos rfl]; rfl
 ·rw [if_neg hi, if_neg (show ¬ i = k from fun e => hi e.symm)]
def Rh.growTo (X : Rh) : Nat → Rh
 | 0 => X
 | c + 1 => Rh.growTo X.grow c
theorem Rh.growTo_ok : ∀ (c : Nat) {X : Rh}, X.Ok → X.n + c ≤ 300 → (X.growTo c).Ok ∧ (X.growTo c).n = X.n + c ∧ ∀ i, (X.growTo c).at_ i = X.at_ i
 | 0, X, h, _ => ⟨h, rfl, fun _ => rfl⟩
 | c + 1, X, h, hn => by
  obtain ⟨a1, a2, a3⟩ := Rh.growTo_ok c (h.grow (by omega)) (by show X.n + 1 + c ≤ 300; omega)
  refine ⟨a1, by rw [Rh.growTo, a2]; show X.n + 1 + c = _; omega, fun i => ?_⟩
  rw [Rh.growTo, a3, Rh.at_grow h]
def Rh.set (X : Rh) (k : Nat) (s : Sl) : Rh := ((X.growTo (k + 1 - X.n)).put k s).trim
theorem Rh.set_spec {X : Rh} (h : X.Ok) {k : Nat} {s : Sl} (hs : SlB s) (hk : k < 300) :
  (X.set k s).Ok ∧ (X.set k s).Tight ∧ (∀ i, (X.set k s).at_ i = if i = k then s else X.at_ i) ∧ (X.set k s).n ≤ max X.n (k + 1) := by
 have hn := h.n
 have hm := h.m
 obtain ⟨g1, g2, g3⟩ := Rh.growTo_ok (k + 1 - X.n) h (by omega)
 have g4 := g1.put (k := k) hs
 refine ⟨g4.trim, Rh.trim_tight _, fun i => ?_, ?_⟩
 ·rw [Rh.set, Rh.at_trim, Rh.at_put g1 (by omega), g3]
 ·rw [Rh.set]
  refine Nat.le_trans (trQ_le _ _) ?_
  show (X.growTo (k + 1 - X.n)).n ≤ _
  omega
theorem rset_loop (F : Nat) (K : Cont) (z : Bool) (l : List (List AV)) (k : Nat) : ∀ (c m : Nat) {X : Rh}, X.Ok → (X.n + c = k + 1 ∨ c = 0 ∧ k < X.n) → k < 300 → c < m →
  loopRun (f59_l0.run F) [0, 1, 2] K m (Env.mk 39 [(0, .ptr 0 0), (1, .int .i64 (k : Int)), (2, .ns z 1 l)]) ⟨X.obs, []⟩ = K (.exit 0) (Env.mk 39 [(0, .ptr 0 0), (1, .int .i64 (k : Int)), (2, .ns z 1 l)]) ⟨(X.growTo c).obs, []⟩
 | c, 0, X, _, _, _, h => by omega
 | 0, m + 1, X, hX, hc, hk, _ => by
  obtain ⟨v, cs, n⟩ := X
  cases v with
  | zero => obtain ⟨h1, h2⟩ := hX.z rfl; simp only at h2 hc; omega
  | succ v =>
   show loopRun (f59_l0.run F) [0, 1, 2] K m.succ (Env.mk 39 [(0, .ptr 0 0), (1, .int .i64 (k : Int)), (2, .ns z 1 l)]) ⟨[.cells [.vs 1 (v + 1) 1 n], .vec (v + 1) (qC cs)], []⟩ = _
   rw [rset_round, branch_not (decide_eq_false (by simp only at hc; omega))]
   rfl
 | c + 1, m + 1, X, hX, hc, hk, hm => by
  have ih := rset_loop F K z l k c m (hX.grow (by omega)) (by show X.n + 1 + c = k + 1 ∨ c = 0 ∧ k < X.n + 1; omega) hk (by omega)
  have hn := hX.n
  have hmm := hX.m
  obtain ⟨v, cs, n⟩ := X
  simp only at hn hc hmm
  rw [show m + 1 = m.succ from rfl, Rh.growTo]
  cases v with
  | zero =>
   obtain ⟨h1, h2⟩ := hX.z rfl
   simp only at h1 h2
   subst h1; subst h2
   show loopRun (f59_l0.run F) [0, 1, 2] K m.succ (Env.mk 39 [(0, .ptr 0 0), (1, .int .i64 (k : Int)), (2, .ns z 1 l)]) ⟨[.cells [.nilsl], .nov 0], []⟩ = _
   rw [rset_round0, branch_of (decide_eq_true (by omega)), branch_of (by rw [apOk_iff]; decide), catC_nil]
   exact ih
  | succ v =>
   have e1 : catC (qC cs) (mulN n 1) [[AV.nilsl]] = qC (cs.take n ++ [(true, [])]) := by
    rw [catC, opq_eq, mulN, opq_eq, Nat.mul_one]; simp [qC, qc]
   show loopRun (f59_l0.run F) [0, 1, 2] K m.succ (Env.mk 39 [(0, .ptr 0 0), (1, .int .i64 (k : Int)), (2, .ns z 1 l)]) ⟨[.cells [.vs 1 (v + 1) 1 n], .vec (v + 1) (qC cs)], []⟩ = _
   rw [rset_round, branch_of (decide_eq_true (by omega)), branch_of (by rw [Nat.beq_refl, inC_one (by rw [qC_length]; exact hn), show apOk (n + 1) 24 = true by rw [apOk_iff]; omega]; rfl), e1]
   exact ih
theorem rset_at {X : Rh} (h : X.Ok) {k : Nat} (z : Bool) {p : List Nat} (hp : PgB p) (hk : k < 300) : f59.run 1000 [.ptr 0 0, .int .i64 (k : Int), .ns z 1 (bR p)] ⟨X.obs, []⟩ = some (.ret (.tup []), ⟨(X.set k (ofS p)).obs ++ [], []⟩) := by
 have hn := h.n
 have hm := h.m
 obtain ⟨g1, g2, _⟩ := Rh.growTo_ok (k + 1 - X.n) h (by omega)
 have g3 := g1.put (k := k) hp.sl
 have hG := rh_G g3
 have hO := rh_obl g3.trim
 rw [rset_run, rset_loop 1000 _ _ _ k (k + 1 - X.n) 1000 h (by omega) hk (by omega), List.append_nil, Rh.set]
 generalize X.growTo (k + 1 - X.n) = Y at *
 obtain ⟨v, cs, n⟩ := Y
 simp only at g2
 have gn := g1.n
 simp only at gn
 have hk' : k < n := by omega
 cases v with
 | zero => obtain ⟨h1, h2⟩ := g1.z rfl; simp only at h2; omega
 | succ v =>
  show (Cont.block 0 (Cont.then (f59_r0.run 1000 (f59.leaveK Fun.done)) (f59.leaveK Fun.done))) (.exit 0) (Env.mk 39 [(0, .ptr 0 0), (1, .int .i64 (k : Int)), (2, .ns z 1 (bR p))]) ⟨[.cells [.vs 1 (v + 1) 1 n], .vec (v + 1) (qC cs)], []⟩ = _
  have i1 : inC (qC cs) (k * 1) 1 = true := by rw [inC_iff, qC_length]; omega
  have e1 : setC (qC cs) (k * 1) [AV.ns (rfE (nR (bR p))) 1 (rfR (nR (bR p)))] = qC (cs.set k (false, ofS p)) := by
   rw [Nat.mul_one, setC_one (by rw [qC_length]; omega), nR_bR, rfE, rfR, opq_eq, opq_eq]; simp [qC, qc, List.map_set]
  rw [rset_out, branch_of (by rw [byOk_Pg hp, nR_bR, show cdec (Pg p) = true from cdec_iff.mpr hp.1]; rfl), if_pos ⟨by omega, by omega⟩, Int.toNat_natCast, branch_of (by rw [Nat.beq_refl, i1]; rfl), e1]
  rw [show rhA.G 0 [Ob.cells [AV.vs 1 (v + 1) 1 n], Ob.vec (v + 1) (qC (cs.set k (false, ofS p)))] = _ from hG, onSome_some, hO]
noncomputable def s59 : OrcS Try.prog := f59.by'
 (fun args st k => match args with
  | [x, i, y] => rhA.on x st fun j X => onInt i fun kd i => onNs 1 y fun z l => ifT (decide (kd = .i64) && (pgOkB l && decide (0 ≤ i ∧ i < 300))) (k (.ret (.tup [])) (rhA.pl st j (opq (X.set i.toNat (ofS (nR l))))))
  | _ => none)
 fun args st k fin h => by
  split at h
  ·rename_i x i y
   obtain ⟨j, X, rfl, hd, h1⟩ := ADT.on_spec h
   obtain ⟨kd, i, h2, rfl⟩ := onInt_spec h1
   obtain ⟨z, l, h3, hy⟩ := onNs_spec h2
   obtain ⟨h4, h5⟩ := ifT_spec h3
   clear h h1 h2 h3
   simp only [Bool.and_eq_true, decide_eq_true_eq] at h4
   obtain ⟨rfl, h6, h7, h8⟩ := h4
   obtain ⟨hp, hl⟩ := pgOkB_pg h6
   obtain ⟨i, rfl⟩ := Int.eq_ofNat_of_zero_le h7
   refine ⟨_, _, h5, ?_⟩
   rw [opq_eq]
   have := ADT.placed (A := rhA) (f := f59) (x := X) (y := X.set i (ofS (nR l))) (args0 := [.ptr 0 0, .int .i64 (i : Int), .ns z 1 (bR (nR l))]) (r := .tup []) (xs := []) (rset_at hd.ok z hp (by omega)) (Rh.set_spec hd.ok hp.sl (by omega)).1 ⟨by show 0 < 2; omega, trivial, bR_scoped _, trivial⟩ trivial hd
   rw [← hl] at this
   exact CallsTo.wk this fun g w vs ⟨v, vr, e, r1, v2, vr2, e2, r2, v3, vr3, e3, r3, r4⟩ => ⟨v, vr, e, r1, v2, vr2, e2, r2, v3, vr3, e3, hy _ _ _ r3, r4⟩
  ·cases h
noncomputable def f61_b : Sim Try.prog :=
 (.seq (.live [0, 2, 4] (.region 0 [
 ⟨(opBoxF (some 4) 30 (.tmp 1) 0 "ref.go:79" #[]).op, none⟩,
 ⟨(opAssign (some 6) (.const (Value.int IntKind.i64 0)) 31 "ref.go:79" #[]).op, none⟩
 ] (by kernel_rfl)))
 (.seq (.live [0, 2, 4, 8] (.region 1 [
 ⟨(opMove (some 11) (.tmp 0) 56 "ref.go:80" #[]).op, none⟩,
 ⟨(opLoadT (.agg [(.int .i64), (.int .i64)]) (some 12) 30 (.tmp 4) d30 ud30 2 sz30 (by kernel_rfl) 30 "ref.go:80" #[]).op, none⟩,
 ⟨(opCallQ q64 (some 13) [(.tmp 11), (.tmp 12)] #[56, 30] 37 "ref.go:80" #[eD 0, eD 1]).op, none⟩,
 ⟨(opMove (some 10) (.tmp 13) 37 "ref.go:80" #[eD 2]).op, none⟩,
 ⟨(opExtract (some 14) (.tmp 10) 0 34 "ref.go:80" #[eD 3]).op, none⟩,
 ⟨(opExtract (some 15) (.tmp 10) 1 4 "ref.go:80" #[eD 3, eX 6]).op, none⟩,
 ⟨(opAssign (some 7) (.tmp 14) 34 "ref.go:80" #[eD 4, eC 2, eP 0, eP 1, eP 2, eP 3, eP 4, eT 5]).op, none⟩,
 ⟨(opAssign (some 8) (.tmp 15) 4 "ref.go:80" #[eD 5, eC 6, eP 0, eP 1, eP 2, eP 3, eP 4, eP 5, eP 6]).op, none⟩
 ] (by kernel_rfl)))
 (.seq (.seq (.live [0, 2, 4, 17] (.region 2 [
 ⟨(opMove (some 16) (.tmp 8) 4 "ref.go:81" #[]).op, none⟩,
 ⟨(opNot (some 17) 4 (.tmp 16) 4 "ref.go:81" #[eD 0]).op, none⟩
 ] (by kernel_rfl)))
 (.cond (.tmp 17)
 (.seq (.live [6] (.region 3 [
 ⟨(opAssign (some 6) (.const (Value.int IntKind.i64 13)) 31 "ref.go:82" #[]).op, none⟩
 ] (by kernel_rfl)))
 (.live [6] .ret))
 .skip))
 (.seq (.live [0, 4, 8, 9] (.draw 4 [
 ⟨.p (opMove (some 19) (.tmp 0) 56 "ref.go:84" #[]), none⟩,
 ⟨.p (opNilCheck (some 20) (.tmp 19) 0 "ref.go:84" #[eD 0]), none⟩,
 ⟨.pn (opFieldAddr (some 21) 61 (.tmp 20) 0 0 1 false fl61_0 (by decide) 0 "ref.go:84" #[eD 1]) opFieldAddr_nat, none⟩,
 ⟨.qn (opLoadT (.one .any) (some 22) 59 (.tmp 21) (.slice 91) Try.underlying59 1 sz59 (by kernel_rfl) 59 "ref.go:84" #[eD 2]) opLoadT_nat, none⟩,
 ⟨.pn (opFieldAddr (some 23) 30 (.tmp 4) 0 0 1 false fl30_0 (by decide) 0 "ref.go:84" #[]) opFieldAddr_nat, none⟩,
 ⟨.qn (opLoadT (.one (.int .i64)) (some 24) 3 (.tmp 23) (.int .i64) Try.underlying3 1 sz3 (by kernel_rfl) 3 "ref.go:84" #[eD 4]) opLoadT_nat, none⟩,
 ⟨.pn (opIndexAddrT (some 25) 59 (.tmp 22) (.tmp 24) 91 1 Try.underlying59 sz91 0 "ref.go:84" #[eD 3, eD 5]) opIndexAddrT_nat, none⟩,
 ⟨.qn (opLoadT (.agg [(.ns 1)]) (some 26) 91 (.tmp 25) d91 ud91 1 sz91 (by kernel_rfl) 91 "ref.go:84" #[eD 6]) opLoadT_nat, none⟩,
 ⟨.pn (opFieldAddr (some 27) 30 (.tmp 4) 1 1 1 false fl30_1 (by decide) 0 "ref.go:84" #[]) opFieldAddr_nat, none⟩,
 ⟨.qn (opLoadT (.one (.int .i64)) (some 28) 3 (.tmp 27) (.int .i64) Try.underlying3 1 sz3 (by kernel_rfl) 3 "ref.go:84" #[eD 8]) opLoadT_nat, none⟩,
 ⟨.p (opMove (some 29) (.tmp 2) 34 "ref.go:84" #[]), none⟩,
 ⟨.pn (opCallP p79 (some 30) [(.tmp 26), (.tmp 28), (.tmp 29)] #[91, 3, 34] 37 "ref.go:84" #[eD 7, eD 9, eD 10]) (opCallP_nat p79_nat), none⟩,
 ⟨.p (opMove (some 18) (.tmp 30) 37 "ref.go:84" #[eD 11]), none⟩,
 ⟨.p (opExtract (some 31) (.tmp 18) 0 34 "ref.go:84" #[eD 12]), none⟩,
 ⟨.p (opExtract (some 32) (.tmp 18) 1 4 "ref.go:84" #[eD 12, eX 15]), none⟩,
 ⟨.p (opAssign (some 9) (.tmp 31) 34 "ref.go:84" #[eD 13, eC 11, eP 0, eP 1, eP 2, eP 3, eP 4, eP 5, eP 6, eP 7, eP 8, eP 9, eP 10, eP 11, eP 12, eP 13, eT 14]), none⟩,
 ⟨.p (opAssign (some 8) (.tmp 32) 4 "ref.go:84" #[eD 14, eC 15, eP 0, eP 1, eP 2, eP 3, eP 4, eP 5, eP 6, eP 7, eP 8, eP 9, eP 10, eP 11, eP 12, eP 13, eP 14, eP 15]), none⟩
 ] mixed (by kernel_rfl)))
 (.seq (.seq (.live [0, 4, 9, 34] (.region 5 [
 ⟨(opMove (some 33) (.tmp 8) 4 "ref.go:85" #[]).op, none⟩,
 ⟨(opNot (some 34) 4 (.tmp 33) 4 "ref.go:85" #[eD 0]).op, none⟩
 ] (by kernel_rfl)))
 (.cond (.tmp 34)
 (.seq (.live [6] (.region 6 [
 ⟨(opAssign (some 6) (.const (Value.int IntKind.i64 36)) 31 "ref.go:86" #[]).op, none⟩
 ] (by kernel_rfl)))
 (.live [6] .ret))
 .skip))
 (.seq (.live [] (.region 7 [
 ⟨(opMove (some 35) (.tmp 0) 56 "ref.go:88" #[]).op, none⟩,
 ⟨(opFieldAddr (some 36) 30 (.tmp 4) 0 0 1 false fl30_0 (by decide) 0 "ref.go:88" #[]).op, none⟩,
 ⟨(opLoadT (.one (.int .i64)) (some 37) 3 (.tmp 36) (.int .i64) Try.underlying3 1 sz3 (by kernel_rfl) 3 "ref.go:88" #[eD 1]).op, none⟩,
 ⟨(opMove (some 38) (.tmp 9) 34 "ref.go:88" #[]).op, none⟩,
 ⟨opCall (s59).orc (some 39) [(.tmp 35), (.tmp 37), (.tmp 38)] #[56, 3, 34] 0 "ref.go:88" #[eD 0, eD 2, eD 3], none⟩
 ] (by kernel_rfl)))
 (.seq (.live [6] (.region 8 [
 ⟨(opAssign (some 6) (.const (Value.int IntKind.i64 0)) 31 "ref.go:89" #[]).op, none⟩
 ] (by kernel_rfl)))
 (.live [6] .ret))))))))
noncomputable def f61 : Fun Try.prog where
 id := 61
 fn := Try.f61
 hf := Try.func61
 hname := by kernel_rfl
 body := f61_b
 hbody := by kernel_rfl
 res := [rTmp 6]
 hres := by kernel_rfl
 n := 40
 hn := by kernel_rfl
noncomputable def f62_b : Sim Try.prog :=
 (.seq (.live [0, 3] (.region 0 [
 ⟨(opBoxF (some 3) 30 (.tmp 1) 0 "ref.go:93" #[]).op, none⟩,
 ⟨(opAssign (some 4) (.const (Value.int IntKind.i64 0)) 31 "ref.go:93" #[]).op, none⟩
 ] (by kernel_rfl)))
 (.seq (.live [0, 3, 6] (.region 1 [
 ⟨(opMove (some 10) (.tmp 0) 56 "ref.go:94" #[]).op, none⟩,
 ⟨(opLoadT (.agg [(.int .i64), (.int .i64)]) (some 11) 30 (.tmp 3) d30 ud30 2 sz30 (by kernel_rfl) 30 "ref.go:94" #[]).op, none⟩,
 ⟨(opCallQ q64 (some 12) [(.tmp 10), (.tmp 11)] #[56, 30] 37 "ref.go:94" #[eD 0, eD 1]).op, none⟩,
 ⟨(opMove (some 9) (.tmp 12) 37 "ref.go:94" #[eD 2]).op, none⟩,
 ⟨(opExtract (some 13) (.tmp 9) 0 34 "ref.go:94" #[eD 3]).op, none⟩,
 ⟨(opExtract (some 14) (.tmp 9) 1 4 "ref.go:94" #[eD 3, eX 6]).op, none⟩,
 ⟨(opAssign (some 5) (.tmp 13) 34 "ref.go:94" #[eD 4, eC 2, eP 0, eP 1, eP 2, eP 3, eP 4, eT 5]).op, none⟩,
 ⟨(opAssign (some 6) (.tmp 14) 4 "ref.go:94" #[eD 5, eC 6, eP 0, eP 1, eP 2, eP 3, eP 4, eP 5, eP 6]).op, none⟩
 ] (by kernel_rfl)))
 (.seq (.seq (.live [0, 3, 16] (.region 2 [
 ⟨(opMove (some 15) (.tmp 6) 4 "ref.go:95" #[]).op, none⟩,
 ⟨(opNot (some 16) 4 (.tmp 15) 4 "ref.go:95" #[eD 0]).op, none⟩
 ] (by kernel_rfl)))
 (.cond (.tmp 16)
 (.seq (.live [4] (.region 3 [
 ⟨(opAssign (some 4) (.const (Value.int IntKind.i64 13)) 31 "ref.go:96" #[]).op, none⟩
 ] (by kernel_rfl)))
 (.live [4] .ret))
 .skip))
 (.seq (.live [0, 3, 7] (.draw 4 [
 ⟨.p (opMove (some 18) (.tmp 0) 56 "ref.go:98" #[]), none⟩,
 ⟨.p (opNilCheck (some 19) (.tmp 18) 0 "ref.go:98" #[eD 0]), none⟩,
 ⟨.pn (opFieldAddr (some 20) 61 (.tmp 19) 0 0 1 false fl61_0 (by decide) 0 "ref.go:98" #[eD 1]) opFieldAddr_nat, none⟩,
 ⟨.qn (opLoadT (.one .any) (some 21) 59 (.tmp 20) (.slice 91) Try.underlying59 1 sz59 (by kernel_rfl) 59 "ref.go:98" #[eD 2]) opLoadT_nat, none⟩,
 ⟨.pn (opFieldAddr (some 22) 30 (.tmp 3) 0 0 1 false fl30_0 (by decide) 0 "ref.go:98" #[]) opFieldAddr_nat, none⟩,
 ⟨.qn (opLoadT (.one (.int .i64)) (some 23) 3 (.tmp 22) (.int .i64) Try.underlying3 1 sz3 (by kernel_rfl) 3 "ref.go:98" #[eD 4]) opLoadT_nat, none⟩,
 ⟨.pn (opIndexAddrT (some 24) 59 (.tmp 21) (.tmp 23) 91 1 Try.underlying59 sz91 0 "ref.go:98" #[eD 3, eD 5]) opIndexAddrT_nat, none⟩,
 ⟨.qn (opLoadT (.agg [(.ns 1)]) (some 25) 91 (.tmp 24) d91 ud91 1 sz91 (by kernel_rfl) 91 "ref.go:98" #[eD 6]) opLoadT_nat, none⟩,
 ⟨.pn (opFieldAddr (some 26) 30 (.tmp 3) 1 1 1 false fl30_1 (by decide) 0 "ref.go:98" #[]) opFieldAddr_nat, none⟩,
 ⟨.qn (opLoadT (.one (.int .i64)) (some 27) 3 (.tmp 26) (.int .i64) Try.underlying3 1 sz3 (by kernel_rfl) 3 "ref.go:98" #[eD 8]) opLoadT_nat, none⟩,
 ⟨.pn (opCallP p80 (some 28) [(.tmp 25), (.tmp 27)] #[91, 3] 37 "ref.go:98" #[eD 7, eD 9]) (opCallP_nat p80_nat), none⟩,
 ⟨.p (opMove (some 17) (.tmp 28) 37 "ref.go:98" #[eD 10]), none⟩,
 ⟨.p (opExtract (some 29) (.tmp 17) 0 34 "ref.go:98" #[eD 11]), none⟩,
 ⟨.p (opExtract (some 30) (.tmp 17) 1 4 "ref.go:98" #[eD 11, eX 14]), none⟩,
 ⟨.p (opAssign (some 7) (.tmp 29) 34 "ref.go:98" #[eD 12, eC 10, eP 0, eP 1, eP 2, eP 3, eP 4, eP 5, eP 6, eP 7, eP 8, eP 9, eP 10, eP 11, eP 12, eT 13]), none⟩,
 ⟨.p (opAssign (some 8) (.tmp 30) 4 "ref.go:98" #[eD 13, eC 14, eP 0, eP 1, eP 2, eP 3, eP 4, eP 5, eP 6, eP 7, eP 8, eP 9, eP 10, eP 11, eP 12, eP 13, eP 14]), none⟩
 ] mixed (by kernel_rfl)))
 (.seq (.live [] (.region 5 [
 ⟨(opMove (some 31) (.tmp 0) 56 "ref.go:99" #[]).op, none⟩,
 ⟨(opFieldAddr (some 32) 30 (.tmp 3) 0 0 1 false fl30_0 (by decide) 0 "ref.go:99" #[]).op, none⟩,
 ⟨(opLoadT (.one (.int .i64)) (some 33) 3 (.tmp 32) (.int .i64) Try.underlying3 1 sz3 (by kernel_rfl) 3 "ref.go:99" #[eD 1]).op, none⟩,
 ⟨(opMove (some 34) (.tmp 7) 34 "ref.go:99" #[]).op, none⟩,
 ⟨opCall (s59).orc (some 35) [(.tmp 31), (.tmp 33), (.tmp 34)] #[56, 3, 34] 0 "ref.go:99" #[eD 0, eD 2, eD 3], none⟩
 ] (by kernel_rfl)))
 (.seq (.live [4] (.region 6 [
 ⟨(opAssign (some 4) (.const (Value.int IntKind.i64 0)) 31 "ref.go:100" #[]).op, none⟩
 ] (by kernel_rfl)))
 (.live [4] .ret)))))))
noncomputable def f62 : Fun Try.prog where
 id := 62
 fn := Try.f62
 hf := Try.func62
 hname := by kernel_rfl
 body := f62_b
 hbody := by kernel_rfl
 res := [rTmp 4]
 hres := by kernel_rfl
 n := 36
 hn := by kernel_rfl
noncomputable def f63_b : Sim Try.prog :=
 (.seq (.live [0, 2, 4] (.region 0 [
 ⟨(opBoxF (some 4) 30 (.tmp 1) 0 "ref.go:104" #[]).op, none⟩,
 ⟨(opAssign (some 6) (.const (Value.int IntKind.i64 0)) 31 "ref.go:104" #[]).op, none⟩
 ] (by kernel_rfl)))
 (.seq (.live [0, 2, 4, 8] (.region 1 [
 ⟨(opMove (some 12) (.tmp 0) 56 "ref.go:105" #[]).op, none⟩,
 ⟨(opLoadT (.agg [(.int .i64), (.int .i64)]) (some 13) 30 (.tmp 4) d30 ud30 2 sz30 (by kernel_rfl) 30 "ref.go:105" #[]).op, none⟩,
 ⟨(opCallQ q64 (some 14) [(.tmp 12), (.tmp 13)] #[56, 30] 37 "ref.go:105" #[eD 0, eD 1]).op, none⟩,
 ⟨(opMove (some 11) (.tmp 14) 37 "ref.go:105" #[eD 2]).op, none⟩,
 ⟨(opExtract (some 15) (.tmp 11) 0 34 "ref.go:105" #[eD 3]).op, none⟩,
 ⟨(opExtract (some 16) (.tmp 11) 1 4 "ref.go:105" #[eD 3, eX 6]).op, none⟩,
 ⟨(opAssign (some 7) (.tmp 15) 34 "ref.go:105" #[eD 4, eC 2, eP 0, eP 1, eP 2, eP 3, eP 4, eT 5]).op, none⟩,
 ⟨(opAssign (some 8) (.tmp 16) 4 "ref.go:105" #[eD 5, eC 6, eP 0, eP 1, eP 2, eP 3, eP 4, eP 5, eP 6]).op, none⟩
 ] (by kernel_rfl)))
 (.seq (.seq (.live [0, 2, 4, 17] (.region 2 [
 ⟨(opMove (some 17) (.tmp 8) 4 "ref.go:106" #[]).op, none⟩
 ] (by kernel_rfl)))
 (.cond (.tmp 17)
 (.seq (.live [6] (.region 3 [
 ⟨(opAssign (some 6) (.const (Value.int IntKind.i64 12)) 31 "ref.go:107" #[]).op, none⟩
 ] (by kernel_rfl)))
 (.live [6] .ret))
 .skip))
 (.seq (.seq (.live [0, 2, 4, 35] (.region 4 [
 ⟨(opFieldAddr (some 18) 30 (.tmp 4) 0 0 1 false fl30_0 (by decide) 0 "ref.go:109" #[]).op, none⟩,
 ⟨(opLoadT (.one (.int .i64)) (some 19) 3 (.tmp 18) (.int .i64) Try.underlying3 1 sz3 (by kernel_rfl) 3 "ref.go:109" #[eD 0]).op, none⟩,
 ⟨(opBin (some 20) .lss 3 (.tmp 19) (.const (Value.int IntKind.i64 0)) 3 4 "ref.go:109" #[eD 1]).op, none⟩,
 ⟨(opMove (some 21) (.tmp 20) 4 "ref.go:109" #[eD 2]).op, none⟩,
 ⟨(opFieldAddr (some 22) 30 (.tmp 4) 0 0 1 false fl30_0 (by decide) 0 "ref.go:109" #[eG 3]).op, (some (3, 21, false))⟩,
 ⟨(opLoadT (.one (.int .i64)) (some 23) 3 (.tmp 22) (.int .i64) Try.underlying3 1 sz3 (by kernel_rfl) 3 "ref.go:109" #[eD 4, eG 3]).op, (some (3, 21, false))⟩,
 ⟨(opBin (some 24) .gtr 3 (.tmp 23) (.const (Value.int IntKind.i64 255)) 3 4 "ref.go:109" #[eD 5, eG 3]).op, (some (3, 21, false))⟩,
 ⟨(opPick (some 25) (.tmp 21) (.const (Value.bool true)) (.tmp 24) 4 "ref.go:109" #[eD 3, eD 6]).op, none⟩,
 ⟨(opMove (some 26) (.tmp 25) 4 "ref.go:109" #[eD 7, eC 3]).op, none⟩,
 ⟨(opFieldAddr (some 27) 30 (.tmp 4) 1 1 1 false fl30_1 (by decide) 0 "ref.go:109" #[eG 8]).op, (some (8, 26, false))⟩,
 ⟨(opLoadT (.one (.int .i64)) (some 28) 3 (.tmp 27) (.int .i64) Try.underlying3 1 sz3 (by kernel_rfl) 3 "ref.go:109" #[eD 9, eG 8]).op, (some (8, 26, false))⟩,
 ⟨(opBin (some 29) .lss 3 (.tmp 28) (.const (Value.int IntKind.i64 0)) 3 4 "ref.go:109" #[eD 10, eG 8]).op, (some (8, 26, false))⟩,
 ⟨(opPick (some 30) (.tmp 26) (.const (Value.bool true)) (.tmp 29) 4 "ref.go:109" #[eD 8, eD 11]).op, none⟩,
 ⟨(opMove (some 31) (.tmp 30) 4 "ref.go:109" #[eD 12, eC 8]).op, none⟩,
 ⟨(opFieldAddr (some 32) 30 (.tmp 4) 1 1 1 false fl30_1 (by decide) 0 "ref.go:109" #[eG 13]).op, (some (13, 31, false))⟩,
 ⟨(opLoadT (.one (.int .i64)) (some 33) 3 (.tmp 32) (.int .i64) Try.underlying3 1 sz3 (by kernel_rfl) 3 "ref.go:109" #[eD 14, eG 13]).op, (some (13, 31, false))⟩,
 ⟨(opBin (some 34) .gtr 3 (.tmp 33) (.const (Value.int IntKind.i64 250)) 3 4 "ref.go:109" #[eD 15, eG 13]).op, (some (13, 31, false))⟩,
 ⟨(opPick (some 35) (.tmp 31) (.const (Value.bool true)) (.tmp 34) 4 "ref.go:109" #[eD 13, eD 16]).op, none⟩
 ] (by kernel_rfl)))
 (.cond (.tmp 35)
 (.seq (.live [6] (.region 5 [
 ⟨(opAssign (some 6) (.const (Value.int IntKind.i64 41)) 31 "ref.go:110" #[]).op, none⟩
 ] (by kernel_rfl)))
 (.live [6] .ret))
 .skip))
 (.seq (.live [0, 2, 4, 9] (.region 6 [
 ⟨(opBuild (some 36) 91 #[(.slice none 0 0)] [] ze91 (by kernel_rfl) 91 "ref.go:112" #[]).op, none⟩,
 ⟨(opAlloc (some 9) 91 (.agg #[(.slice none 0 0)]) ze91 0 "ref.go:112" #[]).op, none⟩,
 ⟨(opStore none 91 (.tmp 9) (.tmp 36) 1 sz91 0 "ref.go:112" #[eD 1, eD 0, eP 0, eP 1]).op, none⟩
 ] (by kernel_rfl)))
 (.seq (.seq (.live [0, 2, 4, 9, 44] (.draw 7 [
 ⟨.pn (opFieldAddr (some 37) 30 (.tmp 4) 0 0 1 false fl30_0 (by decide) 0 "ref.go:113" #[]) opFieldAddr_nat, none⟩,
 ⟨.qn (opLoadT (.one (.int .i64)) (some 38) 3 (.tmp 37) (.int .i64) Try.underlying3 1 sz3 (by kernel_rfl) 3 "ref.go:113" #[eD 0]) opLoadT_nat, none⟩,
 ⟨.p (opMove (some 39) (.tmp 0) 56 "ref.go:113" #[]), none⟩,
 ⟨.p (opNilCheck (some 40) (.tmp 39) 0 "ref.go:113" #[eD 2]), none⟩,
 ⟨.pn (opFieldAddr (some 41) 61 (.tmp 40) 0 0 1 false fl61_0 (by decide) 0 "ref.go:113" #[eD 3]) opFieldAddr_nat, none⟩,
 ⟨.qn (opLoadT (.one .any) (some 42) 59 (.tmp 41) (.slice 91) Try.underlying59 1 sz59 (by kernel_rfl) 59 "ref.go:113" #[eD 4]) opLoadT_nat, none⟩,
 ⟨.p (opLen (some 43) (.tmp 42) 59 (.slice 91) Try.underlying59 3 "ref.go:113" #[eD 5]), none⟩,
 ⟨.pn (opBin (some 44) .lss 3 (.tmp 38) (.tmp 43) 3 4 "ref.go:113" #[eD 1, eD 6]) opBin_nat, none⟩
 ] mixed (by kernel_rfl)))
 (.cond (.tmp 44)
 (.live [0, 2, 4, 9] (.draw 8 [
 ⟨.p (opMove (some 45) (.tmp 0) 56 "ref.go:114" #[]), none⟩,
 ⟨.p (opNilCheck (some 46) (.tmp 45) 0 "ref.go:114" #[eD 0]), none⟩,
 ⟨.pn (opFieldAddr (some 47) 61 (.tmp 46) 0 0 1 false fl61_0 (by decide) 0 "ref.go:114" #[eD 1]) opFieldAddr_nat, none⟩,
 ⟨.qn (opLoadT (.one .any) (some 48) 59 (.tmp 47) (.slice 91) Try.underlying59 1 sz59 (by kernel_rfl) 59 "ref.go:114" #[eD 2]) opLoadT_nat, none⟩,
 ⟨.pn (opFieldAddr (some 49) 30 (.tmp 4) 0 0 1 false fl30_0 (by decide) 0 "ref.go:114" #[]) opFieldAddr_nat, none⟩,
 ⟨.qn (opLoadT (.one (.int .i64)) (some 50) 3 (.tmp 49) (.int .i64) Try.underlying3 1 sz3 (by kernel_rfl) 3 "ref.go:114" #[eD 4]) opLoadT_nat, none⟩,
 ⟨.pn (opIndexAddrT (some 51) 59 (.tmp 48) (.tmp 50) 91 1 Try.underlying59 sz91 0 "ref.go:114" #[eD 3, eD 5]) opIndexAddrT_nat, none⟩,
 ⟨.qn (opLoadT (.agg [(.ns 1)]) (some 52) 91 (.tmp 51) d91 ud91 1 sz91 (by kernel_rfl) 91 "ref.go:114" #[eD 6]) opLoadT_nat, none⟩,
 ⟨.m (opStore none 91 (.tmp 9) (.tmp 52) 1 sz91 0 "ref.go:114" #[eD 7, eP 0, eP 1, eP 2, eP 3, eP 4, eP 5, eP 6, eP 7]), none⟩
 ] mixed (by kernel_rfl)))
 .skip))
 (.seq (.live [0, 4, 8, 10] (.region 9 [
 ⟨(opLoadT (.agg [.any]) (some 54) 91 (.tmp 9) d91 ud91 1 sz91 (by kernel_rfl) 91 "ref.go:116" #[]).op, none⟩,
 ⟨(opFieldAddr (some 55) 30 (.tmp 4) 1 1 1 false fl30_1 (by decide) 0 "ref.go:116" #[]).op, none⟩,
 ⟨(opLoadT (.one (.int .i64)) (some 56) 3 (.tmp 55) (.int .i64) Try.underlying3 1 sz3 (by kernel_rfl) 3 "ref.go:116" #[eD 1]).op, none⟩,
 ⟨(opMove (some 57) (.tmp 2) 34 "ref.go:116" #[]).op, none⟩,
 ⟨(opCallP p79 (some 58) [(.tmp 54), (.tmp 56), (.tmp 57)] #[91, 3, 34] 37 "ref.go:116" #[eD 0, eD 2, eD 3]).op, none⟩,
 ⟨(opMove (some 53) (.tmp 58) 37 "ref.go:116" #[eD 4]).op, none⟩,
 ⟨(opExtract (some 59) (.tmp 53) 0 34 "ref.go:116" #[eD 5]).op, none⟩,
 ⟨(opExtract (some 60) (.tmp 53) 1 4 "ref.go:116" #[eD 5, eX 8]).op, none⟩,
 ⟨(opAssign (some 10) (.tmp 59) 34 "ref.go:116" #[eD 6, eC 4, eP 0, eP 1, eP 2, eP 3, eP 4, eP 5, eP 6, eT 7]).op, none⟩,
 ⟨(opAssign (some 8) (.tmp 60) 4 "ref.go:116" #[eD 7, eC 8, eP 0, eP 1, eP 2, eP 3, eP 4, eP 5, eP 6, eP 7, eP 8]).op, none⟩
 ] (by kernel_rfl)))
 (.seq (.seq (.live [0, 4, 10, 62] (.region 10 [
 ⟨(opMove (some 61) (.tmp 8) 4 "ref.go:117" #[]).op, none⟩,
 ⟨(opNot (some 62) 4 (.tmp 61) 4 "ref.go:117" #[eD 0]).op, none⟩
 ] (by kernel_rfl)))
 (.cond (.tmp 62)
 (.seq (.live [6] (.region 11 [
 ⟨(opAssign (some 6) (.const (Value.int IntKind.i64 36)) 31 "ref.go:118" #[]).op, none⟩
 ] (by kernel_rfl)))
 (.live [6] .ret))
 .skip))
 (.seq (.live [] (.region 12 [
 ⟨(opMove (some 63) (.tmp 0) 56 "ref.go:120" #[]).op, none⟩,
 ⟨(opFieldAddr (some 64) 30 (.tmp 4) 0 0 1 false fl30_0 (by decide) 0 "ref.go:120" #[]).op, none⟩,
 ⟨(opLoadT (.one (.int .i64)) (some 65) 3 (.tmp 64) (.int .i64) Try.underlying3 1 sz3 (by kernel_rfl) 3 "ref.go:120" #[eD 1]).op, none⟩,
 ⟨(opMove (some 66) (.tmp 10) 34 "ref.go:120" #[]).op, none⟩,
 ⟨opCall (s59).orc (some 67) [(.tmp 63), (.tmp 65), (.tmp 66)] #[56, 3, 34] 0 "ref.go:120" #[eD 0, eD 2, eD 3], none⟩
 ] (by kernel_rfl)))
 (.seq (.live [6] (.region 13 [
 ⟨(opAssign (some 6) (.const (Value.int IntKind.i64 0)) 31 "ref.go:121" #[]).op, none⟩
 ] (by kernel_rfl)))
 (.live [6] .ret)))))))))))
noncomputable def f63 : Fun Try.prog where
 id := 63
 fn := Try.f63
 hf := Try.func63
 hname := by kernel_rfl
 body := f63_b
 hbody := by kernel_rfl
 res := [rTmp 6]
 hres := by kernel_rfl
 n := 68
 hn := by kernel_rfl
theorem kput_nil (F : Nat) (p s : Int) (z : Bool) (l : List (List AV)) :
 (f61.run F [.ptr 0 0, .agg [.int .i64 p, .int .i64 s], .ns z 1 l] ⟨[.cells [.nilsl], .nov 0], []⟩ : Ans) =
 onSome (rhA.G 0 [Ob.cells [AV.nilsl], Ob.nov 0]) none fun (o : Rh) =>
 branch (.bool !oB (o.get p s))
 (some (Fin.ret (.int .i64 13), St.mk [Ob.cells [AV.nilsl], Ob.nov 0] [])) none := by kernel_rfl
theorem kput_run (F v n : Nat) (cs : List AV) (p s : Int) (z : Bool) (l : List (List AV)) :
 (f61.run F [.ptr 0 0, .agg [.int .i64 p, .int .i64 s], .ns z 1 l] ⟨[.cells [.vs 1 v 1 n], .vec v cs], []⟩ : Ans) =
 onSome (rhA.G 0 [Ob.cells [AV.vs 1 v 1 n], Ob.vec v cs]) none fun (o : Rh) =>
 branch (.bool !oB (o.get p s))
 (some (Fin.ret (.int .i64 13), St.mk [Ob.cells [AV.vs 1 v 1 n], Ob.vec v cs] []))
 (if (0 : Int) ≤ p ∧ p < (↑n : Int) then
 branch (.bool (v.beq v))
 (branch (.bool ((LD.agg [LT.ns 1]).is (List.drop (p.toNat * 1) cs)))
 (branch
 (.bool (isN (rwA (List.drop (p.toNat * 1) cs)) && (byOk l && cdec (l.length ≤ 1000000))))
 (branch (.bool !oB (putI (rwA (List.drop (p.toNat * 1) cs)) s (nR l)))
 (some
 (Fin.ret (.int .i64 36),
 St.mk [Ob.cells [AV.vs 1 v 1 n], Ob.vec v cs] []))
 (onSome (rhA.G 0 [Ob.cells [AV.vs 1 v 1 n], Ob.vec v cs]) none fun (o : Rh) =>
 branch
 (AV.bool
 (true &&
 (pgOkB (oR (putI (rwA (List.drop (p.toNat * 1) cs)) s (nR l))) &&
 decide ((0 : Int) ≤ p ∧ p < 300))))
 (some
 (Fin.ret (.int .i64 0),
 St.mk
 [rhA.ob 0
 (opq
 (o.set p.toNat
 (ofS (nR (oR (putI (rwA (List.drop (p.toNat * 1) cs)) s (nR l)))))))
 0,
 rhA.ob 0
 (opq
 (o.set p.toNat
 (ofS (nR (oR (putI (rwA (List.drop (p.toNat * 1) cs)) s (nR l)))))))
 1]
 []))
 none))
 none)
 none)
 none
 else none) := by kernel_rfl
theorem kcut_nil (F : Nat) (p s : Int) :
 (f62.run F [.ptr 0 0, .agg [.int .i64 p, .int .i64 s]] ⟨[.cells [.nilsl], .nov 0], []⟩ : Ans) =
 onSome (rhA.G 0 [Ob.cells [AV.nilsl], Ob.nov 0]) none fun (o : Rh) =>
 branch (.bool !oB (o.get p s))
 (some (Fin.ret (.int .i64 13), St.mk [Ob.cells [AV.nilsl], Ob.nov 0] [])) none := by kernel_rfl
theorem kcut_run (F v n : Nat) (cs : List AV) (p s : Int) :
 (f62.run F [.ptr 0 0, .agg [.int .i64 p, .int .i64 s]] ⟨[.cells [.vs 1 v 1 n], .vec v cs], []⟩ : Ans) =
 onSome (rhA.G 0 [Ob.cells [AV.vs 1 v 1 n], Ob.vec v cs]) none fun (o : Rh) =>
 branch (.bool !oB (o.get p s))
 (some (Fin.ret (.int .i64 13), St.mk [Ob.cells [AV.vs 1 v 1 n], Ob.vec v cs] []))
 (if (0 : Int) ≤ p ∧ p < (↑n : Int) then
 branch (.bool (v.beq v))
 (branch (.bool ((LD.agg [LT.ns 1]).is (List.drop (p.toNat * 1) cs)))
 (branch (.bool (isN (rwA (List.drop (p.toNat * 1) cs))))
 (onSome (rhA.G 0 [Ob.cells [AV.vs 1 v 1 n], Ob.vec v cs]) none fun (o : Rh) =>
 branch
 (AV.bool
 (true &&
 (pgOkB (oR (cutI (rwA (List.drop (p.toNat * 1) cs)) s)) &&
 decide ((0 : Int) ≤ p ∧ p < 300))))
 (some
 (Fin.ret (.int .i64 0),
 St.mk
 [rhA.ob 0
 (opq (o.set p.toNat (ofS (nR (oR (cutI (rwA (List.drop (p.toNat * 1) cs)) s))))))
 0,
 rhA.ob 0
 (opq (o.set p.toNat (ofS (nR (oR (cutI (rwA (List.drop (p.toNat * 1) cs)) s))))))
 1]
 []))
 none)
 none)
 none)
 none
 else none) := by kernel_rfl
theorem kres_nil (F : Nat) (p s : Int) (z : Bool) (l : List (List AV)) :
 (f63.run F [.ptr 0 0, .agg [.int .i64 p, .int .i64 s], .ns z 1 l] ⟨[.cells [.nilsl], .nov 0], []⟩ : Ans) =
 onSome (rhA.G 0 [Ob.cells [AV.nilsl], Ob.nov 0]) none fun (o : Rh) =>
 branch (.bool (oB (o.get p s)))
 (some (Fin.ret (.int .i64 12), St.mk [Ob.cells [AV.nilsl], Ob.nov 0] []))
 (branch (.bool (decide (p < 0)))
 (some (Fin.ret (.int .i64 41), St.mk [Ob.cells [AV.nilsl], Ob.nov 0] []))
 (branch (.bool (decide (p > 255)))
 (some (Fin.ret (.int .i64 41), St.mk [Ob.cells [AV.nilsl], Ob.nov 0] []))
 (branch (.bool (decide (s < 0)))
 (some (Fin.ret (.int .i64 41), St.mk [Ob.cells [AV.nilsl], Ob.nov 0] []))
 (branch (.bool (decide (s > 250)))
 (some (Fin.ret (.int .i64 41), St.mk [Ob.cells [AV.nilsl], Ob.nov 0] []))
 (branch (.bool (decide (p < 0))) none
 (branch (.bool (isN [] && (byOk l && cdec (l.length ≤ 1000000))))
 (branch (.bool !oB (putI [] s (nR l)))
 (some
 (Fin.ret (.int .i64 36),
 St.mk [Ob.cells [AV.nilsl], Ob.nov 0, Ob.cells [AV.nilsl]] []))
 (onSome (rhA.G 0 [Ob.cells [AV.nilsl], Ob.nov 0]) none fun (o : Rh) =>
 branch
 (.bool (true && (pgOkB (oR (putI [] s (nR l))) && decide ((0 : Int) ≤ p ∧ p < 300))))
 (some
 (Fin.ret (.int .i64 0),
 St.mk
 [rhA.ob 0 (opq (o.set p.toNat (ofS (nR (oR (putI [] s (nR l))))))) 0,
 rhA.ob 0 (opq (o.set p.toNat (ofS (nR (oR (putI [] s (nR l))))))) 1,
 Ob.cells [AV.nilsl]]
 []))
 none))
 none)))))) := by kernel_rfl
theorem kres_run (F v n : Nat) (cs : List AV) (p s : Int) (z : Bool) (l : List (List AV)) :
 (f63.run F [.ptr 0 0, .agg [.int .i64 p, .int .i64 s], .ns z 1 l] ⟨[.cells [.vs 1 v 1 n], .vec v cs], []⟩ : Ans) =
 onSome (rhA.G 0 [Ob.cells [AV.vs 1 v 1 n], Ob.vec v cs]) none fun (o : Rh) =>
 branch (.bool (oB (o.get p s)))
 (some (Fin.ret (.int .i64 12), St.mk [Ob.cells [AV.vs 1 v 1 n], Ob.vec v cs] []))
 (branch (.bool (decide (p < 0)))
 (some (Fin.ret (.int .i64 41), St.mk [Ob.cells [AV.vs 1 v 1 n], Ob.vec v cs] []))
 (branch (.bool (decide (p > 255)))
 (some
 (Fin.ret (.int .i64 41), St.mk [Ob.cells [AV.vs 1 v 1 n], Ob.vec v cs] []))
 (branch (.bool (decide (s < 0)))
 (some
 (Fin.ret (.int .i64 41), St.mk [Ob.cells [AV.vs 1 v 1 n], Ob.vec v cs] []))
 (branch (.bool (decide (s > 250)))
 (some
 (Fin.ret (.int .i64 41),
 St.mk [Ob.cells [AV.vs 1 v 1 n], Ob.vec v cs] []))
 (branch (.bool (decide (p < (↑n : Int))))
 (if (0 : Int) ≤ p ∧ p < (↑n : Int) then
 branch (.bool (v.beq v))
 (branch (.bool ((LD.agg [LT.ns 1]).is (List.drop (p.toNat * 1) cs)))
 (branch
 (AV.bool
 (isN (rwA (List.drop (p.toNat * 1) cs)) &&
 (byOk l && cdec (l.length ≤ 1000000))))
 (branch (.bool !oB (putI (rwA (List.drop (p.toNat * 1) cs)) s (nR l)))
 (some
 (Fin.ret (.int .i64 36),
 St.mk
 [Ob.cells [AV.vs 1 v 1 n], Ob.vec v cs,
 Ob.cells
 [AV.ns (nilA (List.drop (p.toNat * 1) cs)) 1
 (rwA (List.drop (p.toNat * 1) cs))]]
 []))
 (onSome (rhA.G 0 [Ob.cells [AV.vs 1 v 1 n], Ob.vec v cs]) none
 fun (o : Rh) =>
 branch
 (AV.bool
 (true &&
 (pgOkB (oR (putI (rwA (List.drop (p.toNat * 1) cs)) s (nR l))) &&
 decide ((0 : Int) ≤ p ∧ p < 300))))
 (some
 (Fin.ret (.int .i64 0),
 St.mk
 [rhA.ob 0
 (opq
 (o.set p.toNat
 (ofS (nR (oR (putI (rwA (List.drop (p.toNat * 1) cs)) s (nR l)))))))
 0,
 rhA.ob 0
 (opq
 (o.set p.toNat
 (ofS (nR (oR (putI (rwA (List.drop (p.toNat * 1) cs)) s (nR l)))))))
 1,
 Ob.cells
 [AV.ns (nilA (List.drop (p.toNat * 1) cs)) 1
 (rwA (List.drop (p.toNat * 1) cs))]]
 []))
 none))
 none)
 none)
 none
 else none)
 (branch (.bool (isN [] && (byOk l && cdec (l.length ≤ 1000000))))
 (branch (.bool !oB (putI [] s (nR l)))
 (some
 (Fin.ret (.int .i64 36),
 St.mk [Ob.cells [AV.vs 1 v 1 n], Ob.vec v cs, Ob.cells [AV.nilsl]] []))
 (onSome (rhA.G 0 [Ob.cells [AV.vs 1 v 1 n], Ob.vec v cs]) none fun (o : Rh) =>
 branch
 (.bool (true && (pgOkB (oR (putI [] s (nR l))) && decide ((0 : Int) ≤ p ∧ p < 300))))
 (some
 (Fin.ret (.int .i64 0),
 St.mk
 [rhA.ob 0 (opq (o.set p.toNat (ofS (nR (oR (putI [] s (nR l))))))) 0,
 rhA.ob 0 (opq (o.set p.toNat (ofS (nR (oR (putI [] s (nR l))))))) 1,
 Ob.cells [AV.nilsl]]
 []))
 none))
 none)))))) := by kernel_rfl
theorem SlB.page {s : Sl} (h : SlB s) : ∃ p, PgB p ∧ ofS p = s := by
 have e : toP s = some (pgB s) := by rw [toP, if_pos h.2.2.1]
 obtain ⟨h1, h2⟩ := Pg.of h.1 h.2.1 e
 exact ⟨_, ⟨h1, by rw [h2]; exact h.2.2.2⟩, h2⟩
theorem putS_pg {s : Sl} (h : SlB s) {i : Int} {b q : List Nat} (hb : ∀ x ∈ b, x < 256) (hbl : b.length < 4611686018427387904) (hq : putS s i b = some q) : PgB q := by
 obtain ⟨p, hp, rfl⟩ := h.page
 refine (hp.put hb hbl (i := i) ?_).1
 rw [putP, if_pos hp.1.2.2]; exact hq
theorem cutS_pg {s : Sl} (h : SlB s) {i : Int} {b : List Nat} (hg : getP s i = some b) : ∃ c, cutS s i = some c ∧ PgB c := by
 obtain ⟨p, hp, rfl⟩ := h.page
 have hs := getP_bound (s := ofS p) (i := i) (by rw [hg]; rfl)
 obtain ⟨n, rfl⟩ := Int.eq_ofNat_of_zero_le hs.1
 rw [getP_nat] at hg
 obtain ⟨c, k1, _⟩ := hp.1.cut hg
 exact ⟨c, k1, hp.cut k1⟩
noncomputable def Rh.putE (X : Rh) (p s : Int) (b : List Nat) : Int := opq (bif (X.get p s).isSome then (bif (putS (X.at_ p.toNat) s b).isSome then 0 else 36) else 13)
def Rh.putH (X : Rh) (p s : Int) (b : List Nat) : Rh := bif (X.get p s).isSome && (putS (X.at_ p.toNat) s b).isSome then X.set p.toNat (ofS ((putS (X.at_ p.toNat) s b).getD [])) else X
noncomputable def Rh.cutE (X : Rh) (p s : Int) : Int := opq (bif (X.get p s).isSome then 0 else 13)
def Rh.cutH (X : Rh) (p s : Int) : Rh := bif (X.get p s).isSome then X.set p.toNat (ofS ((cutS (X.at_ p.toNat) s).getD [])) else X
noncomputable def Rh.resE (X : Rh) (p s : Int) (b : List Nat) : Int := opq (bif (X.get p s).isSome then 12 else bif Hp.resB p s then (bif (putS (X.at_ p.toNat) s b).isSome then 0 else 36) else 41)
noncomputable def Rh.resH (X : Rh) (p s : Int) (b : List Nat) : Rh := bif !(X.get p s).isSome && (Hp.resB p s && (putS (X.at_ p.toNat) s b).isSome) then X.set p.toNat (ofS ((putS (X.at_ p.toNat) s b).getD [])) else X
theorem Rh.get_some {X : Rh} {p s : Int} {b : List Nat} (h : X.get p s = some b) : 0 ≤ p ∧ p < X.n ∧ getP (X.at_ p.toNat) s = some b := by
 rw [Rh.get] at h
 split at h
 ·rename_i hp
  refine ⟨hp, ?_, h⟩
  by_cases h' : p < X.n
  ·exact h'
  ·rw [Rh.at_ge (by omega), getP] at h
   split at h <;> cases h
 ·cases h
theorem Rh.Ok.putH {X : Rh} (h : X.Ok) (p s : Int) {b : List Nat} (hb : ∀ x ∈ b, x < 256) (hbl : b.length < 4611686018427387904) : (X.putH p s b).Ok := by
 rw [Rh.putH]
 cases hg : X.get p s with
 | none => exact h
 | some c =>
  cases hq : putS (X.at_ p.toNat) s b with
  | none => exact h
  | some q =>
   obtain ⟨g1, g2, g3⟩ := Rh.get_some hg
   have := h.n
   have := h.m
   exact (Rh.set_spec h (putS_pg (Rh.at_sl h _) hb hbl hq).sl (show p.toNat < 300 by omega)).1
theorem Rh.Ok.cutH {X : Rh} (h : X.Ok) (p s : Int) : (X.cutH p s).Ok := by
 rw [Rh.cutH]
 cases hg : X.get p s with
 | none => exact h
 | some c =>
  obtain ⟨g1, g2, g3⟩ := Rh.get_some hg
  obtain ⟨q, hq, hp⟩ := cutS_pg (Rh.at_sl h p.toNat) g3
  have := h.n
  have := h.m
  rw [show (some c).isSome = true from rfl, cond_true, hq]
  exact (Rh.set_spec h hp.sl (show p.toNat < 300 by omega)).1
theorem Rh.Ok.resH {X : Rh} (h : X.Ok) (p s : Int) {b : List Nat} (hb : ∀ x ∈ b, x < 256) (hbl : b.length < 4611686018427387904) : (X.resH p s b).Ok := by
 rw [Rh.resH]
 cases hg : X.get p s with
 | some c => exact h
 | none =>
  cases hr : Hp.resB p s with
  | false => exact h
  | true =>
   cases hq : putS (X.at_ p.toNat) s b with
   | none => exact h
   | some q =>
    rw [Hp.resB, decide_eq_true_eq] at hr
    exact (Rh.set_spec h (putS_pg (Rh.at_sl h _) hb hbl hq).sl (show p.toNat < 300 by omega)).1
theorem Rh.zero_get {v : Nat} {cs : List (Bool × Sl)} (h : (Rh.mk 0 cs v).Ok) (p s : Int) : (Rh.mk 0 cs v).get p s = none := by
 obtain ⟨_, h2⟩ := h.z rfl
 unfold Rh.get
 split
 ·rw [Rh.at_ge (by rw [h2]; omega), getP]; split <;> rfl
 ·rfl
theorem Rh.cell_at {v n : Nat} {cs : List (Bool × Sl)} (h : (Rh.mk (v + 1) cs n).Ok) {p : Int} (h1 : 0 ≤ p) (h2 : p < n) :
  (LD.agg [LT.ns 1]).is (List.drop (p.toNat * 1) (qC cs)) = true ∧ rwA (List.drop (p.toNat * 1) (qC cs)) = sN ((Rh.mk (v + 1) cs n).at_ p.toNat) ∧ isN (sN ((Rh.mk (v + 1) cs n).at_ p.toNat)) = true := by
 have hn : n ≤ cs.length := h.n
 have hlt : p.toNat < cs.length := by omega
 obtain ⟨a1, a2, a3, a4⟩ := qC_at h.sl hlt
 have ea : (Rh.mk (v + 1) cs n).at_ p.toNat = (cs[p.toNat]).2 := by
  rw [Rh.at_]; simp only; rw [if_pos (by omega), List.getElem?_eq_getElem hlt]; rfl
 rw [ea]
 exact ⟨a2, a3, a4⟩
theorem putI_sN (s : Sl) (i : Int) (b : List Nat) : putI (sN s) i b = putS s i b := by rw [putI, opq_eq, sR_sN]
theorem cutI_sN (s : Sl) (i : Int) : cutI (sN s) i = cutS s i := by rw [cutI, opq_eq, sR_sN]
theorem kput_at {X : Rh} (h : X.Ok) (p s : Int) (z : Bool) {b : List Nat} (hb : ∀ x ∈ b, x < 256) (hbl : b.length ≤ 1000000) : f61.run 0 [.ptr 0 0, .agg [.int .i64 p, .int .i64 s], .ns z 1 (bR b)] ⟨X.obs, []⟩ = some (.ret (.int .i64 (X.putE p s b)), ⟨(X.putH p s b).obs ++ [], []⟩) := by
 rw [List.append_nil]
 have hG := rh_G h
 have hok := h.putH p s hb (show b.length < 4611686018427387904 by omega)
 have hby := byOk_bR hb (show b.length < 4611686018427387904 by omega)
 have hS := Rh.at_sl h p.toNat
 have hm := h.m
 have hn := h.n
 cases hg : X.get p s with
 | none =>
  have e1 : X.putE p s b = 13 := by rw [Rh.putE, hg, opq_eq]; rfl
  have e2 : X.putH p s b = X := by rw [Rh.putH, hg]; rfl
  rw [e1, e2]
  obtain ⟨v, cs, n⟩ := X
  cases v with
  | zero =>
   obtain ⟨h1, h2⟩ := h.z rfl
   simp only at h1 h2
   subst h1; subst h2
   show f61.run 0 _ ⟨[.cells [.nilsl], .nov 0], []⟩ = _
   rw [kput_nil, show rhA.G 0 [Ob.cells [AV.nilsl], Ob.nov 0] = _ from hG, onSome_some, hg, branch_of (by rw [oB_none]; rfl)]; rfl
  | succ v =>
   show f61.run 0 _ ⟨[.cells [.vs 1 (v + 1) 1 n], .vec (v + 1) (qC cs)], []⟩ = _
   rw [kput_run, show rhA.G 0 [Ob.cells [AV.vs 1 (v + 1) 1 n], Ob.vec (v + 1) (qC cs)] = _ from hG, onSome_some, hg, branch_of (by rw [oB_none]; rfl)]; rfl
 | some c =>
  obtain ⟨g1, g2, g3⟩ := Rh.get_some hg
  obtain ⟨v, cs, n⟩ := X
  cases v with
  | zero => rw [Rh.zero_get h] at hg; cases hg
  | succ v =>
   obtain ⟨a1, a2, a3⟩ := Rh.cell_at h g1 g2
   show f61.run 0 _ ⟨[.cells [.vs 1 (v + 1) 1 n], .vec (v + 1) (qC cs)], []⟩ = _
   rw [kput_run, show rhA.G 0 [Ob.cells [AV.vs 1 (v + 1) 1 n], Ob.vec (v + 1) (qC cs)] = _ from hG, onSome_some, hg, branch_not (by rw [oB_some]; rfl), if_pos ⟨g1, g2⟩, branch_of (Nat.beq_refl _), branch_of a1, a2, branch_of (by rw [a3, hby, show cdec ((bR b).length ≤ 1000000) = true from cdec_iff.mpr (by rw [bR_length]; exact hbl)]; rfl), nR_bR, putI_sN]
   cases hq : putS ((Rh.mk (v + 1) cs n).at_ p.toNat) s b with
   | none =>
    rw [branch_of (by rw [oB_none]; rfl), show (Rh.mk (v + 1) cs n).putE p s b = 36 by rw [Rh.putE, hg, hq, opq_eq]; rfl, show (Rh.mk (v + 1) cs n).putH p s b = Rh.mk (v + 1) cs n by rw [Rh.putH, hg, hq]; rfl]; rfl
   | some q =>
    have hp := putS_pg hS hb (show b.length < 4611686018427387904 by omega) hq
    have e2 : (Rh.mk (v + 1) cs n).putH p s b = (Rh.mk (v + 1) cs n).set p.toNat (ofS q) := by rw [Rh.putH, hg, hq]; rfl
    simp only at hm hn g2
    rw [branch_not (by rw [oB_some]; rfl), onSome_some, oR_some, branch_of (by rw [pgOkB_bR hp, decide_eq_true ⟨g1, by omega⟩]; rfl), nR_bR, opq_eq, show (Rh.mk (v + 1) cs n).putE p s b = 0 by rw [Rh.putE, hg, hq, opq_eq]; rfl, ← rh_obl hok, e2]
theorem kcut_at {X : Rh} (h : X.Ok) (p s : Int) : f62.run 0 [.ptr 0 0, .agg [.int .i64 p, .int .i64 s]] ⟨X.obs, []⟩ = some (.ret (.int .i64 (X.cutE p s)), ⟨(X.cutH p s).obs ++ [], []⟩) := by
 rw [List.append_nil]
 have hG := rh_G h
 have hok := h.cutH p s
 have hS := Rh.at_sl h p.toNat
 have hm := h.m
 have hn := h.n
 cases hg : X.get p s with
 | none =>
  have e1 : X.cutE p s = 13 := by rw [Rh.cutE, hg, opq_eq]; rfl
  have e2 : X.cutH p s = X := by rw [Rh.cutH, hg]; rfl
  rw [e1, e2]
  obtain ⟨v, cs, n⟩ := X
  cases v with
  | zero =>
   obtain ⟨h1, h2⟩ := h.z rfl
   simp only at h1 h2
   subst h1; subst h2
   show f62.run 0 _ ⟨[.cells [.nilsl], .nov 0], []⟩ = _
   rw [kcut_nil, show rhA.G 0 [Ob.cells [AV.nilsl], Ob.nov 0] = _ from hG, onSome_some, hg, branch_of (by rw [oB_none]; rfl)]; rfl
  | succ v =>
   show f62.run 0 _ ⟨[.cells [.vs 1 (v + 1) 1 n], .vec (v + 1) (qC cs)], []⟩ = _
   rw [kcut_run, show rhA.G 0 [Ob.cells [AV.vs 1 (v + 1) 1 n], Ob.vec (v + 1) (qC cs)] = _ from hG, onSome_some, hg, branch_of (by rw [oB_none]; rfl)]; rfl
 | some c =>
  obtain ⟨g1, g2, g3⟩ := Rh.get_some hg
  obtain ⟨v, cs, n⟩ := X
  cases v with
  | zero => rw [Rh.zero_get h] at hg; cases hg
  | succ v =>
   obtain ⟨a1, a2, a3⟩ := Rh.cell_at h g1 g2
   obtain ⟨q, hq, hp⟩ := cutS_pg hS g3
   have e2 : (Rh.mk (v + 1) cs n).cutH p s = (Rh.mk (v + 1) cs n).set p.toNat (ofS q) := by rw [Rh.cutH, hg, show (some c).isSome = true from rfl, cond_true, hq]; rfl
   simp only at hm hn g2
   show f62.run 0 _ ⟨[.cells [.vs 1 (v + 1) 1 n], .vec (v + 1) (qC cs)], []⟩ = _
   rw [kcut_run, show rhA.G 0 [Ob.cells [AV.vs 1 (v + 1) 1 n], Ob.vec (v + 1) (qC cs)] = _ from hG, onSome_some, hg, branch_not (by rw [oB_some]; rfl), if_pos ⟨g1, g2⟩, branch_of (Nat.beq_refl _), branch_of a1, a2, branch_of a3, onSome_some, cutI_sN, hq, oR_some, branch_of (by rw [pgOkB_bR hp, decide_eq_true ⟨g1, by omega⟩]; rfl), nR_bR, opq_eq, show (Rh.mk (v + 1) cs n).cutE p s = 0 by rw [Rh.cutE, hg, opq_eq]; rfl, ← rh_obl hok, e2]
theorem kres_at {X : Rh} (h : X.Ok) (p s : Int) (z : Bool) {b : List Nat} (hb : ∀ x ∈ b, x < 256) (hbl : b.length ≤ 1000000) : ∃ xs, f63.run 0 [.ptr 0 0, .agg [.int .i64 p, .int .i64 s], .ns z 1 (bR b)] ⟨X.obs, []⟩ = some (.ret (.int .i64 (X.resE p s b)), ⟨(X.resH p s b).obs ++ xs, []⟩) := by
 have hG := rh_G h
 have hok := h.resH p s hb (show b.length < 4611686018427387904 by omega)
 have hby := byOk_bR hb (show b.length < 4611686018427387904 by omega)
 have hcd : cdec ((bR b).length ≤ 1000000) = true := cdec_iff.mpr (by rw [bR_length]; exact hbl)
 have hS := Rh.at_sl h p.toNat
 have hm := h.m
 have hn := h.n
 have no : X.get p s = none → Hp.resB p s = false → X.resE p s b = 41 ∧ X.resH p s b = X := fun hg hr => ⟨by rw [Rh.resE, hg, hr, opq_eq]; rfl, by rw [Rh.resH, hg, hr]; rfl⟩
 have full : X.get p s = none → Hp.resB p s = true → putS (X.at_ p.toNat) s b = none → X.resE p s b = 36 ∧ X.resH p s b = X := fun hg hr hq => ⟨by rw [Rh.resE, hg, hr, hq, opq_eq]; rfl, by rw [Rh.resH, hg, hr, hq]; rfl⟩
 have fine : ∀ q, X.get p s = none → Hp.resB p s = true → putS (X.at_ p.toNat) s b = some q → X.resE p s b = 0 ∧ X.resH p s b = X.set p.toNat (ofS q) := fun q hg hr hq => ⟨by rw [Rh.resE, hg, hr, hq, opq_eq]; rfl, by rw [Rh.resH, hg, hr, hq]; rfl⟩
 have e0 : (sN []) = ([] : List (List AV)) := rfl
 have hN0 : isN [] = true := by have := isN_sN okSl_nil (by decide); rwa [e0] at this
 have hI0 : putI [] s b = putS [] s b := by have := putI_sN [] s b; rwa [e0] at this
 obtain ⟨v, cs, n⟩ := X
 cases v with
 | zero =>
  have hg := Rh.zero_get h p s
  obtain ⟨h1, h2⟩ := h.z rfl
  simp only at h1 h2
  subst h1; subst h2
  have hat : (Rh.mk 0 [] 0).at_ p.toNat = [] := Rh.at_ge (Nat.zero_le _)
  show ∃ xs, f63.run 0 _ ⟨[.cells [.nilsl], .nov 0], []⟩ = _
  rw [kres_nil, show rhA.G 0 [Ob.cells [AV.nilsl], Ob.nov 0] = _ from hG, onSome_some, hg, branch_not (by rw [oB_none])]
  by_cases c1 : p < 0
  ·obtain ⟨e1, e2⟩ := no hg (by rw [Hp.resB, decide_eq_false_iff_not]; omega)
   rw [branch_of (decide_eq_true c1), e1, e2]; exact ⟨[], rfl⟩
  ·by_cases c2 : p > 255
   ·obtain ⟨e1, e2⟩ := no hg (by rw [Hp.resB, decide_eq_false_iff_not]; omega)
    rw [branch_not (decide_eq_false c1), branch_of (decide_eq_true c2), e1, e2]; exact ⟨[], rfl⟩
   ·by_cases c3 : s < 0
    ·obtain ⟨e1, e2⟩ := no hg (by rw [Hp.resB, decide_eq_false_iff_not]; omega)
     rw [branch_not (decide_eq_false c1), branch_not (decide_eq_false c2), branch_of (decide_eq_true c3), e1, e2]; exact ⟨[], rfl⟩
    ·by_cases c4 : s > 250
     ·obtain ⟨e1, e2⟩ := no hg (by rw [Hp.resB, decide_eq_false_iff_not]; omega)
      rw [branch_not (decide_eq_false c1), branch_not (decide_eq_false c2), branch_not (decide_eq_false c3), branch_of (decide_eq_true c4), e1, e2]; exact ⟨[], rfl⟩
     ·have hr : Hp.resB p s = true := by rw [Hp.resB, decide_eq_true_eq]; omega
      rw [branch_not (decide_eq_false c1), branch_not (decide_eq_false c2), branch_not (decide_eq_false c3), branch_not (decide_eq_false c4), branch_not (decide_eq_false c1), branch_of (by rw [hN0, hby, hcd]; rfl), nR_bR, hI0]
      cases hq : putS [] s b with
      | none =>
       obtain ⟨e1, e2⟩ := full hg hr (by rw [hat]; exact hq)
       rw [branch_of (by rw [oB_none]; rfl), e1, e2]; exact ⟨[_], rfl⟩
      | some q =>
       obtain ⟨e1, e2⟩ := fine q hg hr (by rw [hat]; exact hq)
       have hp := putS_pg SlB_nil hb (show b.length < 4611686018427387904 by omega) hq
       rw [branch_not (by rw [oB_some]; rfl), onSome_some, oR_some, branch_of (by rw [pgOkB_bR hp, decide_eq_true ⟨by omega, by omega⟩]; rfl), nR_bR, opq_eq, e1, e2]
       rw [e2] at hok
       rw [← rh_obl hok]; exact ⟨[_], rfl⟩
 | succ v =>
  simp only at hm hn
  show ∃ xs, f63.run 0 _ ⟨[.cells [.vs 1 (v + 1) 1 n], .vec (v + 1) (qC cs)], []⟩ = _
  rw [kres_run, show rhA.G 0 [Ob.cells [AV.vs 1 (v + 1) 1 n], Ob.vec (v + 1) (qC cs)] = _ from hG, onSome_some]
  cases hg : (Rh.mk (v + 1) cs n).get p s with
  | some c =>
   rw [branch_of (by rw [oB_some]), show (Rh.mk (v + 1) cs n).resE p s b = 12 by rw [Rh.resE, hg, opq_eq]; rfl, show (Rh.mk (v + 1) cs n).resH p s b = Rh.mk (v + 1) cs n by rw [Rh.resH, hg]; rfl]
   exact ⟨[], rfl⟩
  | none =>
   rw [branch_not (by rw [oB_none])]
   by_cases c1 : p < 0
   ·obtain ⟨e1, e2⟩ := no hg (by rw [Hp.resB, decide_eq_false_iff_not]; omega)
    rw [branch_of (decide_eq_true c1), e1, e2]; exact ⟨[], rfl⟩
   ·by_cases c2 : p > 255
    ·obtain ⟨e1, e2⟩ := no hg (by rw [Hp.resB, decide_eq_false_iff_not]; omega)
     rw [branch_not (decide_eq_false c1), branch_of (decide_eq_true c2), e1, e2]; exact ⟨[], rfl⟩
    ·by_cases c3 : s < 0
     ·obtain ⟨e1, e2⟩ := no hg (by rw [Hp.resB, decide_eq_false_iff_not]; omega)
      rw [branch_not (decide_eq_false c1), branch_not (decide_eq_false c2), branch_of (decide_eq_true c3), e1, e2]; exact ⟨[], rfl⟩
     ·by_cases c4 : s > 250
      ·obtain ⟨e1, e2⟩ := no hg (by rw [Hp.resB, decide_eq_false_iff_not]; omega)
       rw [branch_not (decide_eq_false c1), branch_not (decide_eq_false c2), branch_not (decide_eq_false c3), branch_of (decide_eq_true c4), e1, e2]; exact ⟨[], rfl⟩
      ·have hr : Hp.resB p s = true := by rw [Hp.resB, decide_eq_true_eq]; omega
       rw [branch_not (decide_eq_false c1), branch_not (decide_eq_false c2), branch_not (decide_eq_false c3), branch_not (decide_eq_false c4)]
       by_cases c5 : p < n
       ·obtain ⟨a1, a2, a3⟩ := Rh.cell_at h (show 0 ≤ p by omega) c5
        rw [branch_of (decide_eq_true c5), if_pos ⟨by omega, c5⟩, branch_of (Nat.beq_refl _), branch_of a1, a2, branch_of (by rw [a3, hby, hcd]; rfl), nR_bR, putI_sN]
        cases hq : putS ((Rh.mk (v + 1) cs n).at_ p.toNat) s b with
        | none =>
         obtain ⟨e1, e2⟩ := full hg hr hq
         rw [branch_of (by rw [oB_none]; rfl), e1, e2]; exact ⟨[_], rfl⟩
        | some q =>
         obtain ⟨e1, e2⟩ := fine q hg hr hq
         have hp := putS_pg hS hb (show b.length < 4611686018427387904 by omega) hq
         rw [branch_not (by rw [oB_some]; rfl), onSome_some, oR_some, branch_of (by rw [pgOkB_bR hp, decide_eq_true ⟨by omega, by omega⟩]; rfl), nR_bR, opq_eq, e1, e2]
         rw [e2] at hok
         rw [← rh_obl hok]; exact ⟨[_], rfl⟩
       ·have hat : (Rh.mk (v + 1) cs n).at_ p.toNat = [] := Rh.at_ge (by simp only; omega)
        rw [branch_not (decide_eq_false c5), branch_of (by rw [hN0, hby, hcd]; rfl), nR_bR, hI0]
        cases hq : putS [] s b with
        | none =>
         obtain ⟨e1, e2⟩ := full hg hr (by rw [hat]; exact hq)
         rw [branch_of (by rw [oB_none]; rfl), e1, e2]; exact ⟨[_], rfl⟩
        | some q =>
         obtain ⟨e1, e2⟩ := fine q hg hr (by rw [hat]; exact hq)
         have hp := putS_pg SlB_nil hb (show b.length < 4611686018427387904 by omega) hq
         rw [branch_not (by rw [oB_some]; rfl), onSome_some, oR_some, branch_of (by rw [pgOkB_bR hp, decide_eq_true ⟨by omega, by omega⟩]; rfl), nR_bR, opq_eq, e1, e2]
         rw [e2] at hok
         rw [← rh_obl hok]; exact ⟨[_], rfl⟩
noncomputable def s62 : OrcS Try.prog := f62.by'
 (fun args st k => match args with
  | [x, r] => rhA.on x st fun j X => onRid r fun p s => k (.ret (.int .i64 (X.cutE p s))) (rhA.pl st j (opq (X.cutH p s)))
  | _ => none)
 fun args st k fin h => by
  split at h
  ·rename_i x r
   obtain ⟨j, X, rfl, hd, h1⟩ := ADT.on_spec h
   obtain ⟨p, s, rfl, h2⟩ := onRid_spec h1
   refine ⟨_, _, h2, ?_⟩
   rw [opq_eq]
   exact ADT.placed (A := rhA) (f := f62) (x := X) (y := X.cutH p s) (args0 := [.ptr 0 0, .agg [.int .i64 p, .int .i64 s]]) (r := .int .i64 _) (xs := []) (kcut_at hd.ok p s) (hd.ok.cutH p s) ⟨by show 0 < 2; omega, ⟨trivial, trivial, trivial⟩, trivial⟩ trivial hd
  ·cases h
noncomputable def s61 : OrcS Try.prog := f61.by'
 (fun args st k => match args with
  | [x, r, y] => rhA.on x st fun j X => onRid r fun p s => onNs 1 y fun z l => ifT (byOk l && cdec (l.length ≤ 1000000)) (k (.ret (.int .i64 (X.putE p s (nR l)))) (rhA.pl st j (opq (X.putH p s (nR l)))))
  | _ => none)
 fun args st k fin h => by
  split at h
  ·rename_i x r y
   obtain ⟨j, X, rfl, hd, h1⟩ := ADT.on_spec h
   obtain ⟨p, s, rfl, h2⟩ := onRid_spec h1
   obtain ⟨z, l, h3, hy⟩ := onNs_spec h2
   obtain ⟨h4, h5⟩ := ifT_spec h3
   rw [Bool.and_eq_true, cdec_iff] at h4
   obtain ⟨l1, l2⟩ := byOk_iff.mp h4.1
   have hb : ∀ x ∈ nR l, x < 256 := fun x hx => okR_lt l1 hx
   refine ⟨_, _, h5, ?_⟩
   rw [opq_eq]
   have := ADT.placed (A := rhA) (f := f61) (x := X) (y := X.putH p s (nR l)) (args0 := [.ptr 0 0, .agg [.int .i64 p, .int .i64 s], .ns z 1 (bR (nR l))]) (r := .int .i64 _) (xs := []) (kput_at hd.ok p s z hb (by rw [nR_length]; exact h4.2)) (hd.ok.putH p s hb (by rw [nR_length]; exact l2)) ⟨by show 0 < 2; omega, ⟨trivial, trivial, trivial⟩, bR_scoped _, trivial⟩ trivial hd
   rw [← okR_rows l1] at this
   exact CallsTo.wk this fun g w vs ⟨v, vr, e, r1, v2, vr2, e2, r2, v3, vr3, e3, r3, r4⟩ => ⟨v, vr, e, r1, v2, vr2, e2, r2, v3, vr3, e3, hy _ _ _ r3, r4⟩
  ·cases h
noncomputable def s63 : OrcS Try.prog := f63.by'
 (fun args st k => match args with
  | [x, r, y] => rhA.on x st fun j X => onRid r fun p s => onNs 1 y fun z l => ifT (byOk l && cdec (l.length ≤ 1000000)) (k (.ret (.int .i64 (X.resE p s (nR l)))) (rhA.pl st j (opq (X.resH p s (nR l)))))
  | _ => none)
 fun args st k fin h => by
  split at h
  ·rename_i x r y
   obtain ⟨j, X, rfl, hd, h1⟩ := ADT.on_spec h
   obtain ⟨p, s, rfl, h2⟩ := onRid_spec h1
   obtain ⟨z, l, h3, hy⟩ := onNs_spec h2
   obtain ⟨h4, h5⟩ := ifT_spec h3
   rw [Bool.and_eq_true, cdec_iff] at h4
   obtain ⟨l1, l2⟩ := byOk_iff.mp h4.1
   have hb : ∀ x ∈ nR l, x < 256 := fun x hx => okR_lt l1 hx
   refine ⟨_, _, h5, ?_⟩
   rw [opq_eq]
   obtain ⟨xs, hr⟩ := kres_at hd.ok p s z hb (by rw [nR_length]; exact h4.2)
   have := ADT.placed (A := rhA) (f := f63) (x := X) (y := X.resH p s (nR l)) (args0 := [.ptr 0 0, .agg [.int .i64 p, .int .i64 s], .ns z 1 (bR (nR l))]) (r := .int .i64 _) (xs := xs) hr (hd.ok.resH p s hb (by rw [nR_length]; exact l2)) ⟨by show 0 < 2; omega, ⟨trivial, trivial, trivial⟩, bR_scoped _, trivial⟩ trivial hd
   rw [← okR_rows l1] at this
   exact CallsTo.wk this fun g w vs ⟨v, vr, e, r1, v2, vr2, e2, r2, v3, vr3, e3, r3, r4⟩ => ⟨v, vr, e, r1, v2, vr2, e2, r2, v3, vr3, e3, hy _ _ _ r3, r4⟩
  ·cases h
noncomputable def f26_l0 : Sim Try.prog :=
 (.seq (.seq (.live [0, 1, 4, 6, 16] (.region 4 [
 ⟨(opMove (some 15) (.tmp 6) 3 "ref.go:55" #[]).op, none⟩,
 ⟨(opBin (some 16) .lss 3 (.tmp 15) (.const (Value.int IntKind.i64 256)) 3 4 "ref.go:55" #[eD 0]).op, none⟩
 ] (by kernel_rfl)))
 (.cond (.tmp 16)
 .skip
 (.live [4] (.exit 0))))
 (.seq (.block 1 (.seq (.live [0, 1, 4, 6, 7] (.region 6 [
 ⟨(opBuild (some 19) 91 #[(.slice none 0 0)] [] ze91 (by kernel_rfl) 91 "ref.go:56" #[]).op, none⟩,
 ⟨(opAllocR (some (.tmp 4)) 1 (some 7) 91 (.agg #[(.slice none 0 0)]) ze91 0 "ref.go:56" #[]).op, none⟩,
 ⟨(opStore none 91 (.tmp 7) (.tmp 19) 1 sz91 0 "ref.go:56" #[eD 1, eD 0, eP 0, eP 1]).op, none⟩
 ] (by kernel_rfl)))
 (.seq (.seq (.live [0, 1, 4, 6, 7, 26] (.region 7 [
 ⟨(opMove (some 20) (.tmp 6) 3 "ref.go:57" #[]).op, none⟩,
 ⟨(opMove (some 21) (.tmp 0) 56 "ref.go:57" #[]).op, none⟩,
 ⟨(opNilCheck (some 22) (.tmp 21) 0 "ref.go:57" #[eD 1]).op, none⟩,
 ⟨(opFieldAddr (some 23) 61 (.tmp 22) 0 0 1 false fl61_0 (by decide) 0 "ref.go:57" #[eD 2]).op, none⟩,
 ⟨(opLoadT (.one .any) (some 24) 59 (.tmp 23) (.slice 91) Try.underlying59 1 sz59 (by kernel_rfl) 59 "ref.go:57" #[eD 3]).op, none⟩,
 ⟨(opLen (some 25) (.tmp 24) 59 (.slice 91) Try.underlying59 3 "ref.go:57" #[eD 4]).op, none⟩,
 ⟨(opBin (some 26) .lss 3 (.tmp 20) (.tmp 25) 3 4 "ref.go:57" #[eD 0, eD 5]).op, none⟩
 ] (by kernel_rfl)))
 (.cond (.tmp 26)
 (.live [0, 1, 4, 6, 7] (.region 8 [
 ⟨(opMove (some 27) (.tmp 0) 56 "ref.go:58" #[]).op, none⟩,
 ⟨(opNilCheck (some 28) (.tmp 27) 0 "ref.go:58" #[eD 0]).op, none⟩,
 ⟨(opFieldAddr (some 29) 61 (.tmp 28) 0 0 1 false fl61_0 (by decide) 0 "ref.go:58" #[eD 1]).op, none⟩,
 ⟨(opLoadT (.one .any) (some 30) 59 (.tmp 29) (.slice 91) Try.underlying59 1 sz59 (by kernel_rfl) 59 "ref.go:58" #[eD 2]).op, none⟩,
 ⟨(opMove (some 31) (.tmp 6) 3 "ref.go:58" #[]).op, none⟩,
 ⟨(opIndexAddrT (some 32) 59 (.tmp 30) (.tmp 31) 91 1 Try.underlying59 sz91 0 "ref.go:58" #[eD 3, eD 4]).op, none⟩,
 ⟨(opLoadT (.agg [(.ns 1)]) (some 33) 91 (.tmp 32) d91 ud91 1 sz91 (by kernel_rfl) 91 "ref.go:58" #[eD 5]).op, none⟩,
 ⟨(opStore none 91 (.tmp 7) (.tmp 33) 1 sz91 0 "ref.go:58" #[eD 6, eP 0, eP 1, eP 2, eP 3, eP 4, eP 5, eP 6]).op, none⟩
 ] (by kernel_rfl)))
 .skip))
 (.seq (.live [0, 1, 4, 6, 7, 38] (.region 9 [
 ⟨(opLoadT (.agg [.any]) (some 34) 91 (.tmp 7) d91 ud91 1 sz91 (by kernel_rfl) 91 "ref.go:60" #[]).op, none⟩,
 ⟨(opCallP p57 (some 35) [(.tmp 34)] #[91] 3 "ref.go:60" #[eD 0]).op, none⟩,
 ⟨(opMove (some 36) (.tmp 1) 34 "ref.go:60" #[]).op, none⟩,
 ⟨(opLen (some 37) (.tmp 36) 34 (.slice 5) Try.underlying34 3 "ref.go:60" #[eD 2]).op, none⟩,
 ⟨(opBin (some 38) .geq 3 (.tmp 35) (.tmp 37) 3 4 "ref.go:60" #[eD 1, eD 3]).op, none⟩
 ] (by kernel_rfl)))
 (.cond (.tmp 38)
 (.seq (.live [0, 4, 6, 8, 9] (.region 10 [
 ⟨(opLoadT (.agg [.any]) (some 40) 91 (.tmp 7) d91 ud91 1 sz91 (by kernel_rfl) 91 "ref.go:61" #[]).op, none⟩,
 ⟨(opMove (some 41) (.tmp 1) 34 "ref.go:61" #[]).op, none⟩,
 ⟨(opCallP p58 (some 42) [(.tmp 40), (.tmp 41)] #[91, 34] 70 "ref.go:61" #[eD 0, eD 1]).op, none⟩,
 ⟨(opMove (some 39) (.tmp 42) 70 "ref.go:61" #[eD 2]).op, none⟩,
 ⟨(opExtract (some 43) (.tmp 39) 0 34 "ref.go:61" #[eD 3]).op, none⟩,
 ⟨(opExtract (some 44) (.tmp 39) 1 3 "ref.go:61" #[eD 3, eX 7]).op, none⟩,
 ⟨(opExtract (some 45) (.tmp 39) 2 4 "ref.go:61" #[eD 3, eX 8]).op, none⟩,
 ⟨(opAssign (some 8) (.tmp 43) 34 "ref.go:61" #[eD 4, eC 2, eP 0, eP 1, eP 2, eP 3, eP 4, eT 5, eT 6]).op, none⟩,
 ⟨(opAssign (some 9) (.tmp 44) 3 "ref.go:61" #[eD 5, eC 7, eP 0, eP 1, eP 2, eP 3, eP 4, eP 5, eT 6, eP 7]).op, none⟩,
 ⟨(opAssign (some 10) (.tmp 45) 4 "ref.go:61" #[eD 6, eC 8, eP 0, eP 1, eP 2, eP 3, eP 4, eP 5, eP 6, eP 7, eP 8]).op, none⟩
 ] (by kernel_rfl)))
 (.seq (.live [4, 6, 9] (.region 11 [
 ⟨(opMove (some 46) (.tmp 0) 56 "ref.go:62" #[]).op, none⟩,
 ⟨(opMove (some 47) (.tmp 6) 3 "ref.go:62" #[]).op, none⟩,
 ⟨(opMove (some 48) (.tmp 8) 34 "ref.go:62" #[]).op, none⟩,
 ⟨opCall (s59).orc (some 49) [(.tmp 46), (.tmp 47), (.tmp 48)] #[56, 3, 34] 0 "ref.go:62" #[eD 0, eD 1, eD 2], none⟩
 ] (by kernel_rfl)))
 (.seq (.live [4, 5] (.region 12 [
 ⟨(opMove (some 50) (.tmp 6) 3 "ref.go:63" #[]).op, none⟩,
 ⟨(opMove (some 51) (.tmp 9) 3 "ref.go:63" #[]).op, none⟩,
 ⟨(opBuild (some 52) 30 #[(.int .i64 0), (.int .i64 0)] [(0, 0, 1, (.tmp 50)), (1, 1, 1, (.tmp 51))] ze30 (by kernel_rfl) 30 "ref.go:63" #[eD 0, eD 1]).op, none⟩,
 ⟨(opStore none 30 (.tmp 4) (.tmp 52) 2 sz30 0 "ref.go:63" #[eD 2, eP 0, eP 1, eP 2]).op, none⟩,
 ⟨(opAssign (some 5) (.const (Value.int IntKind.i64 0)) 31 "ref.go:63" #[eC 3, eP 0, eP 1, eP 2, eP 3]).op, none⟩
 ] (by kernel_rfl)))
 (.live [4, 5] .ret))))
 .skip)))))
 (.live [0, 1, 4, 6] (.region 5 [
 ⟨(opMove (some 17) (.tmp 6) 3 "ref.go:55" #[]).op, none⟩,
 ⟨(opBin (some 18) .add 3 (.tmp 17) (.const (Value.int IntKind.i64 1)) 3 3 "ref.go:55" #[eD 0]).op, none⟩,
 ⟨(opAssign (some 6) (.tmp 18) 3 "ref.go:55" #[eD 1, eP 0, eP 1]).op, none⟩
 ] (by kernel_rfl)))))
noncomputable def f26_r0 : Sim Try.prog :=
 (.seq (.live [4, 5] (.region 13 [
 ⟨(opBuild (some 53) 30 #[(.int .i64 0), (.int .i64 0)] [] ze30 (by kernel_rfl) 30 "ref.go:66" #[]).op, none⟩,
 ⟨(opStore none 30 (.tmp 4) (.tmp 53) 2 sz30 0 "ref.go:66" #[eD 0, eP 0]).op, none⟩,
 ⟨(opAssign (some 5) (.const (Value.int IntKind.i64 36)) 31 "ref.go:66" #[eC 1, eP 0, eP 1]).op, none⟩
 ] (by kernel_rfl)))
 (.live [4, 5] .ret))
noncomputable def f26_b : Sim Try.prog :=
 (.seq (.live [0, 1, 4] (.region 0 [
 ⟨(MSim.ph (opAlloc (some 4) 30 (.agg #[(.int .i64 0), (.int .i64 0)]) ze30 0 "ref.go:51" #[]) 1).op, none⟩,
 ⟨(opAssign (some 5) (.const (Value.int IntKind.i64 0)) 31 "ref.go:51" #[]).op, none⟩
 ] (by kernel_rfl)))
 (.seq (.seq (.live [0, 1, 4, 13] (.region 1 [
 ⟨(opMove (some 11) (.tmp 1) 34 "ref.go:52" #[]).op, none⟩,
 ⟨(opLen (some 12) (.tmp 11) 34 (.slice 5) Try.underlying34 3 "ref.go:52" #[eD 0]).op, none⟩,
 ⟨(opBin (some 13) .gtr 3 (.tmp 12) (.const (Value.int IntKind.i64 200)) 3 4 "ref.go:52" #[eD 1]).op, none⟩
 ] (by kernel_rfl)))
 (.cond (.tmp 13)
 (.seq (.live [4, 5] (.region 2 [
 ⟨(opBuild (some 14) 30 #[(.int .i64 0), (.int .i64 0)] [] ze30 (by kernel_rfl) 30 "ref.go:53" #[]).op, none⟩,
 ⟨(opStore none 30 (.tmp 4) (.tmp 14) 2 sz30 0 "ref.go:53" #[eD 0, eP 0]).op, none⟩,
 ⟨(opAssign (some 5) (.const (Value.int IntKind.i64 41)) 31 "ref.go:53" #[eC 1, eP 0, eP 1]).op, none⟩
 ] (by kernel_rfl)))
 (.live [4, 5] .ret))
 .skip))
 (.seq (.seq (.live [0, 1, 4, 6] (.region 3 [
 ⟨(opAssign (some 6) (.const (Value.int IntKind.i64 0)) 3 "ref.go:55" #[]).op, none⟩
 ] (by kernel_rfl)))
 (.block 0 (.loop [0, 1, 4, 6] f26_l0)))
 f26_r0)))
noncomputable def f26 : Fun Try.prog where
 id := 26
 fn := Try.f26
 hf := Try.func26
 hname := by kernel_rfl
 body := f26_b
 hbody := by kernel_rfl
 res := [rCell 4 30 d30 ud30 2 sz30, rTmp 5]
 hres := by kernel_rfl
 n := 54
 hn := by kernel_rfl
end Go.Proofs.Ytljigmghdpkdlaa.V
