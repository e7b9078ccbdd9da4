/- Merged out of 35 texts: what the claim's code comes to, and why. -/
import Derived.Test.YtljigmghdpkdlaaR44
set_option linter.unusedVariables false
set_option linter.unusedSimpArgs false
set_option maxRecDepth 100000
namespace Go.Proofs.Ytljigmghdpkdlaa.V
open Go Go.V Go.RowKit
noncomputable def firstK : List (List Nat) → Nat → Nat
 | [], _ => 0
 | p :: l, c => if (c : Int) ≤ roomP p then 0 else firstK l c + 1
theorem firstK_le : ∀ (L : List (List Nat)) (c : Nat), firstK L c ≤ L.length
 | [], c => Nat.le_refl _
 | p :: l, c => by
  rw [firstK]
  split
  ·omega
  ·have := firstK_le l c; simp; omega
theorem firstK_at : ∀ {L : List (List Nat)} {c : Nat} (h : firstK L c < L.length), (c : Int) ≤ roomP L[firstK L c]
 | p :: l, c, h => by
  by_cases hp : (c : Int) ≤ roomP p
  ·have e : firstK (p :: l) c = 0 := by rw [firstK, if_pos hp]
   simp only [e, List.getElem_cons_zero]; exact hp
  ·have e : firstK (p :: l) c = firstK l c + 1 := by rw [firstK, if_neg hp]
   simp only [e, List.getElem_cons_succ]
   exact firstK_at (by rw [e, List.length_cons] at h; omega)
theorem firstK_lt : ∀ {L : List (List Nat)} {c i : Nat} (h : i < L.length), i < firstK L c → roomP L[i] < (c : Int)
 | p :: l, c, 0, h, hi => by
  rw [firstK] at hi
  split at hi
  ·omega
  ·rename_i hp; simp only [List.getElem_cons_zero]; omega
 | p :: l, c, i + 1, h, hi => by
  rw [firstK] at hi
  split at hi
  ·omega
  ·simp only [List.getElem_cons_succ]
   exact firstK_lt (by simpa using h) (by omega)
theorem ixG_firstK (c : Nat) : ∀ (L : List (List Nat)) (i : Nat), ixG c (L.map roomP) i = if firstK L c < L.length then ((i + firstK L c : Nat) : Int) else -1
 | [], i => rfl
 | p :: l, i => by
  rw [List.map_cons, ixG, firstK]
  by_cases hp : (c : Int) ≤ roomP p
  ·rw [if_pos hp, if_pos hp, if_pos (by simp)]; rfl
  ·rw [if_neg hp, if_neg hp, ixG_firstK c l (i + 1), List.length_cons]
   by_cases h : firstK l c < l.length
   ·rw [if_pos h, if_pos (by omega)]; congr 1; omega
   ·rw [if_neg h, if_neg (by omega)]
noncomputable def Hp.k (X : Hp) (b : List Nat) : Nat := firstK X.pg_ b.length
noncomputable def Hp.addB (X : Hp) (b : List Nat) : Bool := decide (b.length ≤ 200) && Nat.blt (X.k b) 256
noncomputable def Hp.addE (X : Hp) (b : List Nat) : Int := opq (bif decide (b.length ≤ 200) then (bif Nat.blt (X.k b) 256 then 0 else 36) else 41)
noncomputable def Hp.addR (X : Hp) (b : List Nat) : Int := opq (bif X.addB b then (X.k b : Int) else 0)
noncomputable def Hp.addS (X : Hp) (b : List Nat) : Int := opq (bif X.addB b then addK (X.at_ (X.k b)) b else 0)
noncomputable def Hp.add (X : Hp) (b : List Nat) : Hp := bif X.addB b then X.set (X.k b) ((addP (X.at_ (X.k b)) b).getD []) else X
noncomputable def Hp.addA (X : Hp) (b : List Nat) : AV := .tup [.agg [.int .i64 (X.addR b), .int .i64 (X.addS b)], .int .i64 (X.addE b)]
theorem Hp.pg_len {X : Hp} (h : X.Ok) : X.pg_.length = X.n := by
 have := h.n
 rw [Hp.pg_, List.length_take]; omega
theorem Hp.pg_ok {X : Hp} (h : X.Ok) : ∀ b ∈ X.pg_, PgB b := fun b hb => h.pg b (List.mem_of_mem_take hb)
theorem Hp.at_ok {X : Hp} (h : X.Ok) (k : Nat) : PgB (X.at_ k) := by
 rw [Hp.at_]
 cases hg : X.pg_[k]? with
 | none => exact zeroP_pg
 | some b => exact Hp.pg_ok h b (List.mem_of_getElem? hg)
theorem roomP_zero : roomP zeroP = 200 := by
 rw [zeroP_pg.roomP, zeroP, opq_eq, zeros_pg.2]; rfl
theorem Hp.k_le {X : Hp} (h : X.Ok) (b : List Nat) : X.k b ≤ X.n := by rw [← Hp.pg_len h]; exact firstK_le _ _
theorem Hp.k_room {X : Hp} (h : X.Ok) {b : List Nat} (hb : b.length ≤ 200) : (addP (X.at_ (X.k b)) b).isSome = true := by
 rw [(Hp.at_ok h _).add_iff b hb]
 by_cases hk : X.k b < X.pg_.length
 ·rw [Hp.at_, List.getElem?_eq_getElem hk]
  exact firstK_at hk
 ·rw [Hp.at_, List.getElem?_eq_none (by omega)]
  show (b.length : Int) ≤ roomP zeroP
  rw [roomP_zero]; omega
theorem Hp.Ok.add {X : Hp} (h : X.Ok) {b : List Nat} (hb : ∀ x ∈ b, x < 256) : (X.add b).Ok := by
 rw [Hp.add]
 cases hB : X.addB b with
 | false => exact h
 | true =>
  rw [cond_true]
  simp only [Hp.addB, Bool.and_eq_true, decide_eq_true_eq, Nat.blt_eq] at hB
  have hs := Hp.k_room h hB.1
  cases ha : addP (X.at_ (X.k b)) b with
  | none => rw [ha] at hs; cases hs
  | some q => exact h.set ((Hp.at_ok h _).add hb ha).1 (by omega)
theorem rows_rm {ps : List (List Nat)} {n : Nat} (hn : n ≤ ps.length) : rowsC 1 n (rmC ps) 0 = cR (rmC (ps.take n)) := by
 rw [rowsC_one (by rw [rmC_length]; exact hn)]; simp [rmC, List.map_take]
theorem okI_rm {ps : List (List Nat)} (h : ps.length ≤ 1000) : okI (cR (rmC ps)) = true := by
 rw [okI_iff]
 refine ⟨fun r hr => ?_, by rw [cR_length, rmC_length]; exact h⟩
 simp only [cR, rmC, List.map_map, List.mem_map] at hr
 obtain ⟨b, _, rfl⟩ := hr
 rfl
theorem nI_rm (ps : List (List Nat)) : nI (cR (rmC ps)) = ps.map roomP := by
 simp only [nI, cR, rmC, List.map_map]
 exact List.map_congr_left fun b _ => rfl
theorem add_hat {X : Hp} (h : X.Ok) (z : Bool) {b : List Nat} (hb : ∀ x ∈ b, x < 256) (hbl : b.length < 4611686018427387904) : ∃ xs, f12.run 0 [.ptr 0 0, .ns z 1 (bR b)] ⟨X.obs, []⟩ = some (.ret (X.addA b), ⟨(X.add b).obs ++ xs, []⟩) := by
 have hby := byOk_bR hb hbl
 have hlen : (bR b).length = b.length := bR_length b
 have big : b.length > 200 → X.addA b = .tup [.agg [.int .i64 0, .int .i64 0], .int .i64 41] ∧ X.add b = X := by
  intro hg
  have e : decide (b.length ≤ 200) = false := decide_eq_false (by omega)
  constructor
  ·rw [Hp.addA, Hp.addR, Hp.addS, Hp.addE, opq_eq, opq_eq, opq_eq, Hp.addB, e]; rfl
  ·rw [Hp.add, Hp.addB, e]; rfl
 have full : b.length ≤ 200 → 256 ≤ X.k b → X.addA b = .tup [.agg [.int .i64 0, .int .i64 0], .int .i64 36] ∧ X.add b = X := by
  intro hg hk
  have e : decide (b.length ≤ 200) = true := decide_eq_true hg
  have e2 : Nat.blt (X.k b) 256 = false := by rw [Bool.eq_false_iff, ne_eq, Nat.blt_eq]; omega
  constructor
  ·rw [Hp.addA, Hp.addR, Hp.addS, Hp.addE, opq_eq, opq_eq, opq_eq, Hp.addB, e, e2]; rfl
  ·rw [Hp.add, Hp.addB, e, e2]; rfl
 have fine : b.length ≤ 200 → X.k b < 256 → X.addA b = .tup [.agg [.int .i64 (X.k b : Int), .int .i64 (addK (X.at_ (X.k b)) b)], .int .i64 0] ∧ X.add b = X.set (X.k b) (nR (oR (addP (X.at_ (X.k b)) b))) ∧
   (true && (!!oB (addP (X.at_ (X.k b)) b) && (pgOkB (oR (addP (X.at_ (X.k b)) b)) && decide ((0 : Int) ≤ (X.k b : Int) ∧ (X.k b : Int) < (300 : Int))))) = true := by
  intro hg hk
  have e : decide (b.length ≤ 200) = true := decide_eq_true hg
  have e2 : Nat.blt (X.k b) 256 = true := Nat.blt_eq.mpr hk
  have hs := Hp.k_room h hg
  cases ha : addP (X.at_ (X.k b)) b with
  | none => rw [ha] at hs; cases hs
  | some q =>
   refine ⟨?_, ?_, ?_⟩
   ·rw [Hp.addA, Hp.addR, Hp.addS, Hp.addE, opq_eq, opq_eq, opq_eq, Hp.addB, e, e2]; rfl
   ·rw [Hp.add, Hp.addB, e, e2, ha, oR_some, nR_bR]; rfl
   ·rw [oB_some, oR_some, pgOkB_bR ((Hp.at_ok h _).add hb ha).1, decide_eq_true (by omega)]; rfl
 have hX : ∀ k', (X.at_ k') = X.at_ k' := fun _ => rfl
 have hG := hp_G h
 have hn := h.n
 have hm := h.m
 have hkle := Hp.k_le h b
 have hat := (Hp.at_ok h (X.k b)).byOk
 have hO : X.k b < 256 → b.length ≤ 200 → [hpA.ob 0 (X.add b) 0, hpA.ob 0 (X.add b) 1, hpA.ob 0 (X.add b) 2] = (X.add b).obs := fun _ _ => hp_obl (h.add hb)
 have hap : b.length ≤ 200 → (byOk (bR b) && apOk (bR b).length 1) = true := by
  intro hg; rw [hby, hlen, show apOk b.length 1 = true by rw [apOk_iff]; omega]; rfl
 obtain ⟨v, ps, n⟩ := X
 simp only at hn hm hkle
 cases v with
 | zero =>
  obtain ⟨h1, h2⟩ := h.z rfl
  simp only at h1 h2
  subst h1; subst h2
  have hk0 : (Hp.mk 0 [] 0).k b = 0 := by omega
  show ∃ xs, f12.run 0 [.ptr 0 0, .ns z 1 (bR b)] ⟨[.cells [.nilsl, .nilsl], .nov 0, .nov 0], []⟩ = _
  rw [add_hnil, hlen]
  by_cases hg : (b.length : Int) > 200
  ·obtain ⟨e1, e2⟩ := big (by omega)
   rw [branch_of (decide_eq_true hg), e1, e2]
   exact ⟨[_], rfl⟩
  ·have hg' : b.length ≤ 200 := by omega
   obtain ⟨e1, e2, e3⟩ := fine hg' (by omega)
   rw [hk0] at e1 e2 e3 hat
   rw [hk0] at hO
   have hO := hO (by omega) hg'
   rw [branch_not (decide_eq_false hg), branch_of (show (okI [] && byOk (bR b)) = true by rw [hby, Bool.and_true, okI_iff]; exact ⟨fun _ h => (by cases h), by show 0 ≤ 1000; omega⟩)]
   rw [show hpA.G 0 [Ob.cells [AV.nilsl, AV.nilsl], Ob.nov 0, Ob.nov 0] = _ from hG, onSome_some, nR_bR, nR_bR, branch_of (by rw [hat, Bool.true_and]; rw [hlen] at hap; exact hap hg'), onSome_some,
    branch_of (by have e4 := e3; rw [decide_eq_true (by omega)] at e4; exact e4), e1]
   rw [show (Int.toNat (0 : Int)) = 0 from rfl, nR_bR, ← e2, show ∀ c : Ob, [hpA.ob 0 ((Hp.mk 0 [] 0).add b) 0, hpA.ob 0 ((Hp.mk 0 [] 0).add b) 1, hpA.ob 0 ((Hp.mk 0 [] 0).add b) 2, c] = [hpA.ob 0 ((Hp.mk 0 [] 0).add b) 0, hpA.ob 0 ((Hp.mk 0 [] 0).add b) 1, hpA.ob 0 ((Hp.mk 0 [] 0).add b) 2] ++ [c] from fun _ => rfl, hO]
   exact ⟨[_], rfl⟩
 | succ v =>
  show ∃ xs, f12.run 0 [.ptr 0 0, .ns z 1 (bR b)] ⟨[.cells [.vs 1 (v + 1) 1 n, .vs 2 (v + 1) 1 n], .vec (v + 1) (pC ps), .vec (v + 1) (rmC ps)], []⟩ = _
  rw [add_hrun, hlen]
  by_cases hg : (b.length : Int) > 200
  ·obtain ⟨e1, e2⟩ := big (by omega)
   rw [branch_of (decide_eq_true hg), e1, e2]
   exact ⟨[_], rfl⟩
  ·have hg' : b.length ≤ 200 := by omega
   have i2 : inC (rmC ps) 0 (mulN n 1) = true := inC_one (by rw [rmC_length]; exact hn)
   have hix : ixG (b.length : Int) (nI (rowsC 1 n (rmC ps) 0)) 0 = if (Hp.mk (v + 1) ps n).k b < n then (((Hp.mk (v + 1) ps n).k b : Nat) : Int) else -1 := by
    rw [rows_rm hn, nI_rm, ixG_firstK]
    have hl : (ps.take n).length = n := by rw [List.length_take]; omega
    rw [hl, Nat.zero_add]; rfl
   have hGG : hpA.G 0 [Ob.cells [AV.vs 1 (v + 1) 1 n, AV.vs 2 (v + 1) 1 n], Ob.vec (v + 1) (pC ps), Ob.vec (v + 1) (rmC ps)] = some (Hp.mk (v + 1) ps n) := hG
   have hoi : (okI (rowsC 1 n (rmC ps) 0) && byOk (bR b)) = true := by rw [hby, Bool.and_true, rows_rm hn]; exact okI_rm (by rw [List.length_take]; omega)
   have tail : ∀ c : Ob, [hpA.ob 0 ((Hp.mk (v + 1) ps n).add b) 0, hpA.ob 0 ((Hp.mk (v + 1) ps n).add b) 1, hpA.ob 0 ((Hp.mk (v + 1) ps n).add b) 2, c] = [hpA.ob 0 ((Hp.mk (v + 1) ps n).add b) 0, hpA.ob 0 ((Hp.mk (v + 1) ps n).add b) 1, hpA.ob 0 ((Hp.mk (v + 1) ps n).add b) 2] ++ [c] := fun _ => rfl
   rw [branch_not (decide_eq_false hg), branch_of (by rw [Nat.beq_refl, i2]; rfl), branch_of hoi, hix]
   by_cases hk : (Hp.mk (v + 1) ps n).k b < n
   ·rw [if_pos hk, branch_not (decide_eq_false (by omega))]
    by_cases hfu : 256 ≤ (Hp.mk (v + 1) ps n).k b
    ·obtain ⟨e1, e2⟩ := full hg' hfu
     rw [branch_of (decide_eq_true (by omega)), e1, e2]
     exact ⟨[_], rfl⟩
    ·obtain ⟨e1, e2, e3⟩ := fine hg' (by omega)
     have hO := hO (by omega) hg'
     rw [branch_not (decide_eq_false (by omega)), hGG, onSome_some, branch_of (by rw [decide_eq_true (by omega)]; rfl), Int.toNat_natCast, nR_bR, nR_bR, branch_of (by rw [hat, Bool.true_and]; rw [hlen] at hap; exact hap hg'), onSome_some, branch_of e3, e1, ← e2, tail, hO]
     exact ⟨[_], rfl⟩
   ·have hkn : (Hp.mk (v + 1) ps n).k b = n := by omega
    rw [if_neg hk, branch_of (by decide)]
    by_cases hfu : 256 ≤ n
    ·obtain ⟨e1, e2⟩ := full hg' (by omega)
     rw [branch_of (decide_eq_true (by omega)), e1, e2]
     exact ⟨[_], rfl⟩
    ·obtain ⟨e1, e2, e3⟩ := fine hg' (by omega)
     have hO := hO (by omega) hg'
     rw [hkn] at e1 e2 e3 hat
     rw [branch_not (decide_eq_false (by omega)), hGG, onSome_some, Int.toNat_natCast, nR_bR, nR_bR, branch_of (by rw [hat, Bool.true_and]; rw [hlen] at hap; exact hap hg'), onSome_some, branch_of e3, e1, ← e2, tail, hO]
     exact ⟨[_], rfl⟩
noncomputable def Hp.addO (X : Hp) (b : List Nat) : Hp := opq (X.add b)
noncomputable def s12 : OrcS Try.prog := f12.by'
 (fun args st k => match args with
  | [x, y] => hpA.on x st fun j X => onNs 1 y fun z l => ifT (byOk l) (k (.ret (X.addA (nR l))) (hpA.pl st j (X.addO (nR l))))
  | _ => none)
 fun args st k fin h => by
  split at h
  ·rename_i x y
   obtain ⟨j, X, rfl, hd, h1⟩ := ADT.on_spec h
   obtain ⟨z, l, h2, hy⟩ := onNs_spec h1
   obtain ⟨h3, h4⟩ := ifT_spec h2
   obtain ⟨l1, l2⟩ := byOk_iff.mp h3
   have hb : ∀ x ∈ nR l, x < 256 := fun x hx => okR_lt l1 hx
   refine ⟨_, _, h4, ?_⟩
   rw [Hp.addO, opq_eq]
   obtain ⟨xs, hr⟩ := add_hat hd.ok z hb (by rw [nR_length]; exact l2)
   have := ADT.placed (A := hpA) (f := f12) (x := X) (y := X.add (nR l)) (args0 := [.ptr 0 0, .ns z 1 (bR (nR l))]) (r := X.addA (nR l)) (xs := xs) hr (hd.ok.add hb) ⟨by show 0 < 3; omega, bR_scoped _, trivial⟩ ⟨⟨trivial, trivial, trivial⟩, trivial, trivial⟩ hd
   rw [← okR_rows l1] at this
   exact CallsTo.wk this fun g w vs ⟨v, vr, e, r1, v2, vr2, e2, r2, r3⟩ => ⟨v, vr, e, r1, v2, vr2, e2, hy _ _ _ r2, r3⟩
  ·cases h
noncomputable def f38_b : Sim Try.prog :=
 (.seq (.live [0, 1] (.region 0 [
 ⟨(opAssign (some 3) (.const (Value.slice none 0 0)) 34 "heap.go:128" #[]).op, none⟩,
 ⟨(opAssign (some 4) (.const (Value.bool false)) 4 "heap.go:128" #[eC 0]).op, none⟩
 ] (by kernel_rfl)))
 (.seq (.live [3, 4] (.region 1 [
 ⟨(opMove (some 5) (.tmp 0) 34 "heap.go:128" #[]).op, none⟩,
 ⟨(opFieldAddr (some 6) 30 (.tmp 1) 1 1 1 false fl30_1 (by decide) 0 "heap.go:128" #[]).op, none⟩,
 ⟨(opLoadT (.one (.int .i64)) (some 7) 3 (.tmp 6) (.int .i64) Try.underlying3 1 sz3 (by kernel_rfl) 3 "heap.go:128" #[eD 1]).op, none⟩,
 ⟨(opCallP p39 (some 8) [(.tmp 5), (.tmp 7)] #[34, 3] 37 "heap.go:128" #[eD 0, eD 2]).op, none⟩,
 ⟨(opExtract (some 9) (.tmp 8) 0 34 "heap.go:128" #[eD 3]).op, none⟩,
 ⟨(opExtract (some 10) (.tmp 8) 1 4 "heap.go:128" #[eD 3]).op, none⟩,
 ⟨(opAssign (some 3) (.tmp 9) 34 "heap.go:128" #[eD 4, eC 3, eP 0, eP 1, eP 2, eP 3, eP 4, eP 5]).op, none⟩,
 ⟨(opAssign (some 4) (.tmp 10) 4 "heap.go:128" #[eD 5, eC 6, eP 0, eP 1, eP 2, eP 3, eP 4, eP 5, eP 6]).op, none⟩
 ] (by kernel_rfl)))
 (.live [3, 4] .ret)))
noncomputable def f38 : Fun Try.prog where
 id := 38
 fn := Try.f38
 hf := Try.func38
 hname := by kernel_rfl
 body := f38_b
 hbody := by kernel_rfl
 res := [rTmp 3, rTmp 4]
 hres := by kernel_rfl
 n := 11
 hn := by kernel_rfl
noncomputable def f48_b : Sim Try.prog :=
 (.seq (.live [0, 1, 2] (.region 0 [
 ⟨(opAssign (some 4) (.const (Value.slice none 0 0)) 34 "heap.go:120" #[]).op, none⟩,
 ⟨(opAssign (some 5) (.const (Value.bool false)) 4 "heap.go:120" #[eC 0]).op, none⟩
 ] (by kernel_rfl)))
 (.seq (.live [4, 5] (.region 1 [
 ⟨(opMove (some 6) (.tmp 0) 34 "heap.go:120" #[]).op, none⟩,
 ⟨(opFieldAddr (some 7) 30 (.tmp 1) 1 1 1 false fl30_1 (by decide) 0 "heap.go:120" #[]).op, none⟩,
 ⟨(opLoadT (.one (.int .i64)) (some 8) 3 (.tmp 7) (.int .i64) Try.underlying3 1 sz3 (by kernel_rfl) 3 "heap.go:120" #[eD 1]).op, none⟩,
 ⟨(opLoadT (.one .any) (some 9) 34 (.tmp 2) (.slice 5) Try.underlying34 1 sz34 (by kernel_rfl) 34 "heap.go:120" #[]).op, none⟩,
 ⟨(opCallP p49 (some 10) [(.tmp 6), (.tmp 8), (.tmp 9)] #[34, 3, 34] 37 "heap.go:120" #[eD 0, eD 2, eD 3]).op, none⟩,
 ⟨(opExtract (some 11) (.tmp 10) 0 34 "heap.go:120" #[eD 4]).op, none⟩,
 ⟨(opExtract (some 12) (.tmp 10) 1 4 "heap.go:120" #[eD 4]).op, none⟩,
 ⟨(opAssign (some 4) (.tmp 11) 34 "heap.go:120" #[eD 5, eC 4, eP 0, eP 1, eP 2, eP 3, eP 4, eP 5, eP 6]).op, none⟩,
 ⟨(opAssign (some 5) (.tmp 12) 4 "heap.go:120" #[eD 6, eC 7, eP 0, eP 1, eP 2, eP 3, eP 4, eP 5, eP 6, eP 7]).op, none⟩
 ] (by kernel_rfl)))
 (.live [4, 5] .ret)))
noncomputable def f48 : Fun Try.prog where
 id := 48
 fn := Try.f48
 hf := Try.func48
 hname := by kernel_rfl
 body := f48_b
 hbody := by kernel_rfl
 res := [rTmp 4, rTmp 5]
 hres := by kernel_rfl
 n := 13
 hn := by kernel_rfl
noncomputable def f50_b : Sim Try.prog :=
 (.seq (.live [0, 1, 2] (.region 0 [
 ⟨(opAssign (some 4) (.const (Value.slice none 0 0)) 34 "heap.go:140" #[]).op, none⟩,
 ⟨(opAssign (some 5) (.const (Value.bool false)) 4 "heap.go:140" #[eC 0]).op, none⟩
 ] (by kernel_rfl)))
 (.seq (.live [4, 5] (.region 1 [
 ⟨(opMove (some 6) (.tmp 0) 34 "heap.go:140" #[]).op, none⟩,
 ⟨(opFieldAddr (some 7) 30 (.tmp 1) 1 1 1 false fl30_1 (by decide) 0 "heap.go:140" #[]).op, none⟩,
 ⟨(opLoadT (.one (.int .i64)) (some 8) 3 (.tmp 7) (.int .i64) Try.underlying3 1 sz3 (by kernel_rfl) 3 "heap.go:140" #[eD 1]).op, none⟩,
 ⟨(opLoadT (.one .any) (some 9) 34 (.tmp 2) (.slice 5) Try.underlying34 1 sz34 (by kernel_rfl) 34 "heap.go:140" #[]).op, none⟩,
 ⟨(opCallP p49 (some 10) [(.tmp 6), (.tmp 8), (.tmp 9)] #[34, 3, 34] 37 "heap.go:140" #[eD 0, eD 2, eD 3]).op, none⟩,
 ⟨(opExtract (some 11) (.tmp 10) 0 34 "heap.go:140" #[eD 4]).op, none⟩,
 ⟨(opExtract (some 12) (.tmp 10) 1 4 "heap.go:140" #[eD 4]).op, none⟩,
 ⟨(opAssign (some 4) (.tmp 11) 34 "heap.go:140" #[eD 5, eC 4, eP 0, eP 1, eP 2, eP 3, eP 4, eP 5, eP 6]).op, none⟩,
 ⟨(opAssign (some 5) (.tmp 12) 4 "heap.go:140" #[eD 6, eC 7, eP 0, eP 1, eP 2, eP 3, eP 4, eP 5, eP 6, eP 7]).op, none⟩
 ] (by kernel_rfl)))
 (.live [4, 5] .ret)))
noncomputable def f50 : Fun Try.prog where
 id := 50
 fn := Try.f50
 hf := Try.func50
 hname := by kernel_rfl
 body := f50_b
 hbody := by kernel_rfl
 res := [rTmp 4, rTmp 5]
 hres := by kernel_rfl
 n := 13
 hn := by kernel_rfl
noncomputable def f37_b (Os : List (Orc Try.prog)) : Sim Try.prog :=
 (.seq (.live [0, 1, 2] (.region 0 [
 ⟨(opAssign (some 6) (.const (Value.int IntKind.i64 0)) 31 "heap.go:106" #[]).op, none⟩
 ] (by kernel_rfl)))
 (.seq (.live [0, 1, 7, 8] (.region 1 [
 ⟨(opMove (some 10) (.tmp 2) 76 "heap.go:107" #[]).op, none⟩,
 ⟨(opMove (some 11) (.tmp 0) 26 "heap.go:107" #[]).op, none⟩,
 ⟨(opMove (some 12) (.tmp 1) 3 "heap.go:107" #[]).op, none⟩,
 ⟨(opCallQ q35 (some 13) [(.tmp 11), (.tmp 12)] #[26, 3] 34 "heap.go:107" #[eD 1, eD 2]).op, none⟩,
 ⟨opCallDyn Os (some 14) 10 [(.tmp 13)] #[34] 37 "heap.go:107" #[eD 0, eD 3, eC 3], none⟩,
 ⟨(opMove (some 9) (.tmp 14) 37 "heap.go:107" #[eD 4]).op, none⟩,
 ⟨(opExtract (some 15) (.tmp 9) 0 34 "heap.go:107" #[eD 5]).op, none⟩,
 ⟨(opExtract (some 16) (.tmp 9) 1 4 "heap.go:107" #[eD 5, eX 8]).op, none⟩,
 ⟨(opAssign (some 7) (.tmp 15) 34 "heap.go:107" #[eD 6, eC 4, eP 0, eP 1, eP 2, eP 3, eP 4, eP 5, eP 6, eT 7]).op, none⟩,
 ⟨(opAssign (some 8) (.tmp 16) 4 "heap.go:107" #[eD 7, eC 8, eP 0, eP 1, eP 2, eP 3, eP 4, eP 5, eP 6, eP 7, eP 8]).op, none⟩
 ] (by kernel_rfl)))
 (.seq (.seq (.live [0, 1, 7, 18] (.region 2 [
 ⟨(opMove (some 17) (.tmp 8) 4 "heap.go:108" #[]).op, none⟩,
 ⟨(opNot (some 18) 4 (.tmp 17) 4 "heap.go:108" #[eD 0]).op, none⟩
 ] (by kernel_rfl)))
 (.cond (.tmp 18)
 (.seq (.live [6] (.region 3 [
 ⟨(opAssign (some 6) (.const (Value.int IntKind.i64 36)) 31 "heap.go:109" #[]).op, none⟩
 ] (by kernel_rfl)))
 (.live [6] .ret))
 .skip))
 (.seq (.live [] (.region 4 [
 ⟨(opMove (some 19) (.tmp 0) 26 "heap.go:111" #[]).op, none⟩,
 ⟨(opMove (some 20) (.tmp 1) 3 "heap.go:111" #[]).op, none⟩,
 ⟨(opMove (some 21) (.tmp 7) 34 "heap.go:111" #[]).op, none⟩,
 ⟨opCall (s36).orc (some 22) [(.tmp 19), (.tmp 20), (.tmp 21)] #[26, 3, 34] 0 "heap.go:111" #[eD 0, eD 1, eD 2], none⟩
 ] (by kernel_rfl)))
 (.seq (.live [6] (.region 5 [
 ⟨(opAssign (some 6) (.const (Value.int IntKind.i64 0)) 31 "heap.go:112" #[]).op, none⟩
 ] (by kernel_rfl)))
 (.live [6] .ret))))))
noncomputable def f37 (Os : List (Orc Try.prog)) : Fun Try.prog where
 id := 37
 fn := Try.f37
 hf := Try.func37
 hname := by kernel_rfl
 body := f37_b Os
 hbody := by kernel_rfl
 res := [rTmp 6]
 hres := by kernel_rfl
 n := 23
 hn := by kernel_rfl
noncomputable def OsCh : List (Orc Try.prog) := [f38.orc 0, f48.orc 0, f50.orc 0]
noncomputable def f13_b : Sim Try.prog :=
 (.seq (.live [0, 3] (.region 0 [
 ⟨(opBoxF (some 3) 30 (.tmp 1) 0 "heap.go:124" #[]).op, none⟩,
 ⟨(opAssign (some 4) (.const (Value.int IntKind.i64 0)) 31 "heap.go:124" #[]).op, none⟩
 ] (by kernel_rfl)))
 (.seq (.seq (.live [0, 3, 6] (.region 1 [
 ⟨(opMove (some 8) (.tmp 0) 26 "heap.go:125" #[]).op, none⟩,
 ⟨(opLoadT (.agg [(.int .i64), (.int .i64)]) (some 9) 30 (.tmp 3) d30 ud30 2 sz30 (by kernel_rfl) 30 "heap.go:125" #[]).op, none⟩,
 ⟨(opCallQ q14 (some 10) [(.tmp 8), (.tmp 9)] #[26, 30] 37 "heap.go:125" #[eD 0, eD 1]).op, none⟩,
 ⟨(opMove (some 7) (.tmp 10) 37 "heap.go:125" #[eD 2]).op, none⟩,
 ⟨(opExtract (some 11) (.tmp 7) 0 34 "heap.go:125" #[eD 3]).op, none⟩,
 ⟨(opExtract (some 12) (.tmp 7) 1 4 "heap.go:125" #[eD 3, eX 6]).op, none⟩,
 ⟨(opAssign (some 5) (.tmp 11) 34 "heap.go:125" #[eD 4, eC 2, eP 0, eP 1, eP 2, eP 3, eP 4, eT 5]).op, none⟩,
 ⟨(opAssign (some 6) (.tmp 12) 4 "heap.go:125" #[eD 5, eC 6, eP 0, eP 1, eP 2, eP 3, eP 4, eP 5, eP 6]).op, none⟩
 ] (by kernel_rfl)))
 (.seq (.live [0, 3, 14] (.region 2 [
 ⟨(opMove (some 13) (.tmp 6) 4 "heap.go:125" #[]).op, none⟩,
 ⟨(opNot (some 14) 4 (.tmp 13) 4 "heap.go:125" #[eD 0]).op, none⟩
 ] (by kernel_rfl)))
 (.cond (.tmp 14)
 (.seq (.live [4] (.region 3 [
 ⟨(opAssign (some 4) (.const (Value.int IntKind.i64 13)) 31 "heap.go:126" #[]).op, none⟩
 ] (by kernel_rfl)))
 (.live [4] .ret))
 .skip)))
 (.seq (.live [4] (.region 4 [
 ⟨(opMove (some 15) (.tmp 0) 26 "heap.go:128" #[]).op, none⟩,
 ⟨(opFieldAddr (some 16) 30 (.tmp 3) 0 0 1 false fl30_0 (by decide) 0 "heap.go:128" #[]).op, none⟩,
 ⟨(opLoadT (.one (.int .i64)) (some 17) 3 (.tmp 16) (.int .i64) Try.underlying3 1 sz3 (by kernel_rfl) 3 "heap.go:128" #[eD 1]).op, none⟩,
 ⟨(opMakeFunc (some 18) (Fn.func 38) #[] #[(.tmp 3)] 76 "heap.go:128" #[]).op, none⟩,
 ⟨opCall ((f37 OsCh).orc 0) (some 19) [(.tmp 15), (.tmp 17), (.tmp 18)] #[26, 3, 76] 31 "heap.go:128" #[eD 0, eD 2, eD 3], none⟩,
 ⟨(opAssign (some 4) (.tmp 19) 31 "heap.go:128" #[eD 4, eC 4, eP 0, eP 1, eP 2, eP 3, eP 4]).op, none⟩
 ] (by kernel_rfl)))
 (.live [4] .ret))))
noncomputable def f13 : Fun Try.prog where
 id := 13
 fn := Try.f13
 hf := Try.func13
 hname := by kernel_rfl
 body := f13_b
 hbody := by kernel_rfl
 res := [rTmp 4]
 hres := by kernel_rfl
 n := 20
 hn := by kernel_rfl
noncomputable def f21_b : Sim Try.prog :=
 (.seq (.live [0, 4, 5] (.region 0 [
 ⟨(opBoxF (some 4) 30 (.tmp 1) 0 "heap.go:116" #[]).op, none⟩,
 ⟨(opBoxF (some 5) 34 (.tmp 2) 0 "heap.go:116" #[]).op, none⟩,
 ⟨(opAssign (some 6) (.const (Value.int IntKind.i64 0)) 31 "heap.go:116" #[]).op, none⟩
 ] (by kernel_rfl)))
 (.seq (.seq (.live [0, 4, 5, 8] (.region 1 [
 ⟨(opMove (some 10) (.tmp 0) 26 "heap.go:117" #[]).op, none⟩,
 ⟨(opLoadT (.agg [(.int .i64), (.int .i64)]) (some 11) 30 (.tmp 4) d30 ud30 2 sz30 (by kernel_rfl) 30 "heap.go:117" #[]).op, none⟩,
 ⟨(opCallQ q14 (some 12) [(.tmp 10), (.tmp 11)] #[26, 30] 37 "heap.go:117" #[eD 0, eD 1]).op, none⟩,
 ⟨(opMove (some 9) (.tmp 12) 37 "heap.go:117" #[eD 2]).op, none⟩,
 ⟨(opExtract (some 13) (.tmp 9) 0 34 "heap.go:117" #[eD 3]).op, none⟩,
 ⟨(opExtract (some 14) (.tmp 9) 1 4 "heap.go:117" #[eD 3, eX 6]).op, none⟩,
 ⟨(opAssign (some 7) (.tmp 13) 34 "heap.go:117" #[eD 4, eC 2, eP 0, eP 1, eP 2, eP 3, eP 4, eT 5]).op, none⟩,
 ⟨(opAssign (some 8) (.tmp 14) 4 "heap.go:117" #[eD 5, eC 6, eP 0, eP 1, eP 2, eP 3, eP 4, eP 5, eP 6]).op, none⟩
 ] (by kernel_rfl)))
 (.seq (.live [0, 4, 5, 16] (.region 2 [
 ⟨(opMove (some 15) (.tmp 8) 4 "heap.go:117" #[]).op, none⟩,
 ⟨(opNot (some 16) 4 (.tmp 15) 4 "heap.go:117" #[eD 0]).op, none⟩
 ] (by kernel_rfl)))
 (.cond (.tmp 16)
 (.seq (.live [6] (.region 3 [
 ⟨(opAssign (some 6) (.const (Value.int IntKind.i64 13)) 31 "heap.go:118" #[]).op, none⟩
 ] (by kernel_rfl)))
 (.live [6] .ret))
 .skip)))
 (.seq (.live [6] (.region 4 [
 ⟨(opMove (some 17) (.tmp 0) 26 "heap.go:120" #[]).op, none⟩,
 ⟨(opFieldAddr (some 18) 30 (.tmp 4) 0 0 1 false fl30_0 (by decide) 0 "heap.go:120" #[]).op, none⟩,
 ⟨(opLoadT (.one (.int .i64)) (some 19) 3 (.tmp 18) (.int .i64) Try.underlying3 1 sz3 (by kernel_rfl) 3 "heap.go:120" #[eD 1]).op, none⟩,
 ⟨(opMakeFunc (some 20) (Fn.func 48) #[] #[(.tmp 4), (.tmp 5)] 76 "heap.go:120" #[]).op, none⟩,
 ⟨opCall ((f37 OsCh).orc 0) (some 21) [(.tmp 17), (.tmp 19), (.tmp 20)] #[26, 3, 76] 31 "heap.go:120" #[eD 0, eD 2, eD 3], none⟩,
 ⟨(opAssign (some 6) (.tmp 21) 31 "heap.go:120" #[eD 4, eC 4, eP 0, eP 1, eP 2, eP 3, eP 4]).op, none⟩
 ] (by kernel_rfl)))
 (.live [6] .ret))))
noncomputable def f21 : Fun Try.prog where
 id := 21
 fn := Try.f21
 hf := Try.func21
 hname := by kernel_rfl
 body := f21_b
 hbody := by kernel_rfl
 res := [rTmp 6]
 hres := by kernel_rfl
 n := 22
 hn := by kernel_rfl
noncomputable def f22_b : Sim Try.prog :=
 (.seq (.live [0, 4, 5] (.region 0 [
 ⟨(opBoxF (some 4) 30 (.tmp 1) 0 "heap.go:132" #[]).op, none⟩,
 ⟨(opBoxF (some 5) 34 (.tmp 2) 0 "heap.go:132" #[]).op, none⟩,
 ⟨(opAssign (some 6) (.const (Value.int IntKind.i64 0)) 31 "heap.go:132" #[]).op, none⟩
 ] (by kernel_rfl)))
 (.seq (.live [0, 4, 5, 8] (.region 1 [
 ⟨(opMove (some 10) (.tmp 0) 26 "heap.go:133" #[]).op, none⟩,
 ⟨(opLoadT (.agg [(.int .i64), (.int .i64)]) (some 11) 30 (.tmp 4) d30 ud30 2 sz30 (by kernel_rfl) 30 "heap.go:133" #[]).op, none⟩,
 ⟨(opCallQ q14 (some 12) [(.tmp 10), (.tmp 11)] #[26, 30] 37 "heap.go:133" #[eD 0, eD 1]).op, none⟩,
 ⟨(opMove (some 9) (.tmp 12) 37 "heap.go:133" #[eD 2]).op, none⟩,
 ⟨(opExtract (some 13) (.tmp 9) 0 34 "heap.go:133" #[eD 3]).op, none⟩,
 ⟨(opExtract (some 14) (.tmp 9) 1 4 "heap.go:133" #[eD 3, eX 6]).op, none⟩,
 ⟨(opAssign (some 7) (.tmp 13) 34 "heap.go:133" #[eD 4, eC 2, eP 0, eP 1, eP 2, eP 3, eP 4, eT 5]).op, none⟩,
 ⟨(opAssign (some 8) (.tmp 14) 4 "heap.go:133" #[eD 5, eC 6, eP 0, eP 1, eP 2, eP 3, eP 4, eP 5, eP 6]).op, none⟩
 ] (by kernel_rfl)))
 (.seq (.block 0 (.seq (.live [0, 4, 5, 15] (.region 2 [
 ⟨(opMove (some 16) (.tmp 8) 4 "heap.go:135" #[]).op, none⟩,
 ⟨(opAssign (some 15) (.tmp 16) 4 "heap.go:135" #[eD 0]).op, none⟩
 ] (by kernel_rfl)))
 (.cond (.tmp 15)
 (.seq (.live [6] (.region 3 [
 ⟨(opAssign (some 6) (.const (Value.int IntKind.i64 12)) 31 "heap.go:136" #[]).op, none⟩
 ] (by kernel_rfl)))
 (.live [6] .ret))
 (.seq (.live [0, 4, 5, 17] (.region 4 [
 ⟨(opFieldAddr (some 18) 30 (.tmp 4) 0 0 1 false fl30_0 (by decide) 0 "heap.go:137" #[]).op, none⟩,
 ⟨(opLoadT (.one (.int .i64)) (some 19) 3 (.tmp 18) (.int .i64) Try.underlying3 1 sz3 (by kernel_rfl) 3 "heap.go:137" #[eD 0]).op, none⟩,
 ⟨(opFieldAddr (some 20) 30 (.tmp 4) 1 1 1 false fl30_1 (by decide) 0 "heap.go:137" #[]).op, none⟩,
 ⟨(opLoadT (.one (.int .i64)) (some 21) 3 (.tmp 20) (.int .i64) Try.underlying3 1 sz3 (by kernel_rfl) 3 "heap.go:137" #[eD 2]).op, none⟩,
 ⟨(opMinMax (some 22) false (.tmp 19) [(.tmp 21)] #[3, 3] 3 "heap.go:137" #[eD 1, eD 3]).op, none⟩,
 ⟨(opBin (some 23) .lss 3 (.tmp 22) (.const (Value.int IntKind.i64 0)) 3 4 "heap.go:137" #[eD 4]).op, none⟩,
 ⟨(opMove (some 24) (.tmp 23) 4 "heap.go:137" #[eD 5]).op, none⟩,
 ⟨(opFieldAddr (some 25) 30 (.tmp 4) 0 0 1 false fl30_0 (by decide) 0 "heap.go:137" #[eG 6]).op, (some (6, 24, false))⟩,
 ⟨(opLoadT (.one (.int .i64)) (some 26) 3 (.tmp 25) (.int .i64) Try.underlying3 1 sz3 (by kernel_rfl) 3 "heap.go:137" #[eD 7, eG 6]).op, (some (6, 24, false))⟩,
 ⟨(opBin (some 27) .geq 3 (.tmp 26) (.const (Value.int IntKind.i64 256)) 3 4 "heap.go:137" #[eD 8, eG 6]).op, (some (6, 24, false))⟩,
 ⟨(opPick (some 28) (.tmp 24) (.const (Value.bool true)) (.tmp 27) 4 "heap.go:137" #[eD 6, eD 9]).op, none⟩,
 ⟨(opMove (some 29) (.tmp 28) 4 "heap.go:137" #[eD 10, eC 6]).op, none⟩,
 ⟨(opFieldAddr (some 30) 30 (.tmp 4) 1 1 1 false fl30_1 (by decide) 0 "heap.go:137" #[eG 11]).op, (some (11, 29, false))⟩,
 ⟨(opLoadT (.one (.int .i64)) (some 31) 3 (.tmp 30) (.int .i64) Try.underlying3 1 sz3 (by kernel_rfl) 3 "heap.go:137" #[eD 12, eG 11]).op, (some (11, 29, false))⟩,
 ⟨(opBin (some 32) .gtr 3 (.tmp 31) (.const (Value.int IntKind.i64 250)) 3 4 "heap.go:137" #[eD 13, eG 11]).op, (some (11, 29, false))⟩,
 ⟨(opPick (some 33) (.tmp 29) (.const (Value.bool true)) (.tmp 32) 4 "heap.go:137" #[eD 11, eD 14]).op, none⟩,
 ⟨(opAssign (some 17) (.tmp 33) 4 "heap.go:137" #[eD 15, eC 11]).op, none⟩
 ] (by kernel_rfl)))
 (.cond (.tmp 17)
 (.seq (.live [6] (.region 5 [
 ⟨(opAssign (some 6) (.const (Value.int IntKind.i64 41)) 31 "heap.go:138" #[]).op, none⟩
 ] (by kernel_rfl)))
 (.live [6] .ret))
 .skip)))))
 (.seq (.live [6] (.region 6 [
 ⟨(opMove (some 34) (.tmp 0) 26 "heap.go:140" #[]).op, none⟩,
 ⟨(opFieldAddr (some 35) 30 (.tmp 4) 0 0 1 false fl30_0 (by decide) 0 "heap.go:140" #[]).op, none⟩,
 ⟨(opLoadT (.one (.int .i64)) (some 36) 3 (.tmp 35) (.int .i64) Try.underlying3 1 sz3 (by kernel_rfl) 3 "heap.go:140" #[eD 1]).op, none⟩,
 ⟨(opMakeFunc (some 37) (Fn.func 50) #[] #[(.tmp 4), (.tmp 5)] 76 "heap.go:140" #[]).op, none⟩,
 ⟨opCall ((f37 OsCh).orc 0) (some 38) [(.tmp 34), (.tmp 36), (.tmp 37)] #[26, 3, 76] 31 "heap.go:140" #[eD 0, eD 2, eD 3], none⟩,
 ⟨(opAssign (some 6) (.tmp 38) 31 "heap.go:140" #[eD 4, eC 4, eP 0, eP 1, eP 2, eP 3, eP 4]).op, none⟩
 ] (by kernel_rfl)))
 (.live [6] .ret)))))
noncomputable def f22 : Fun Try.prog where
 id := 22
 fn := Try.f22
 hf := Try.func22
 hname := by kernel_rfl
 body := f22_b
 hbody := by kernel_rfl
 res := [rTmp 6]
 hres := by kernel_rfl
 n := 39
 hn := by kernel_rfl
theorem cut_hrun (F : Nat) (X : Hp) (p s : Int) :
 (f13.run F [.ptr 0 0, .agg [.int .i64 p, .int .i64 s]] ⟨[hpA.ob 0 X 0, hpA.ob 0 X 1, hpA.ob 0 X 2], []⟩ : Ans) =
 onSome (hpA.G 0 [hpA.ob 0 X 0, hpA.ob 0 X 1, hpA.ob 0 X 2]) none
 fun (o : Hp) =>
 branch (.bool !oB (o.get p s))
 (some
 (Fin.ret (.int .i64 13),
 St.mk [hpA.ob 0 X 0, hpA.ob 0 X 1, hpA.ob 0 X 2] []))
 (onSome (hpA.G 0 [hpA.ob 0 X 0, hpA.ob 0 X 1, hpA.ob 0 X 2])
 none fun (o : Hp) =>
 branch (.bool (true && decide ((0 : Int) ≤ p)))
 (branch (.bool (byOk (bR (o.at_ p.toNat))))
 (branch (.bool !oB (cutP (nR (bR (o.at_ p.toNat))) s))
 (some
 (Fin.ret (.int .i64 36),
 St.mk [hpA.ob 0 X 0, hpA.ob 0 X 1, hpA.ob 0 X 2] []))
 (onSome
 (hpA.G 0
 [hpA.ob 0 X 0, hpA.ob 0 X 1, hpA.ob 0 X 2])
 none fun (o_1 : Hp) =>
 branch
 (AV.bool
 (true &&
 (!!oB (cutP (nR (bR (o.at_ p.toNat))) s) &&
 (pgOkB (oR (cutP (nR (bR (o.at_ p.toNat))) s)) && decide ((0 : Int) ≤ p ∧ p < 300)))))
 (some
 (Fin.ret (.int .i64 0),
 St.mk
 [hpA.ob 0
 (o_1.set (hdI (List.drop 0 [.int .i64 p, .int .i64 s])).toNat
 (nR
 (oR
 (cutP
 (nR
 (bR
 (o.at_
 (hdI
 (List.drop 0 [.int .i64 p, .int .i64 s])).toNat)))
 (hdI (List.drop 1 [.int .i64 p, .int .i64 s]))))))
 0,
 hpA.ob 0
 (o_1.set (hdI (List.drop 0 [.int .i64 p, .int .i64 s])).toNat
 (nR
 (oR
 (cutP
 (nR
 (bR
 (o.at_
 (hdI
 (List.drop 0 [.int .i64 p, .int .i64 s])).toNat)))
 (hdI (List.drop 1 [.int .i64 p, .int .i64 s]))))))
 1,
 hpA.ob 0
 (o_1.set (hdI (List.drop 0 [.int .i64 p, .int .i64 s])).toNat
 (nR
 (oR
 (cutP
 (nR
 (bR
 (o.at_
 (hdI
 (List.drop 0 [.int .i64 p, .int .i64 s])).toNat)))
 (hdI (List.drop 1 [.int .i64 p, .int .i64 s]))))))
 2]
 []))
 none))
 none)
 none) := by kernel_rfl
theorem put_hrun (F : Nat) (X : Hp) (p s : Int) (z : Bool) (l : List (List AV)) :
 (f21.run F [.ptr 0 0, .agg [.int .i64 p, .int .i64 s], .ns z 1 l] ⟨[hpA.ob 0 X 0, hpA.ob 0 X 1, hpA.ob 0 X 2], []⟩ : Ans) =
 onSome (hpA.G 0 [hpA.ob 0 X 0, hpA.ob 0 X 1, hpA.ob 0 X 2]) none
 fun (o : Hp) =>
 branch (.bool !oB (o.get p s))
 (some
 (Fin.ret (.int .i64 13),
 St.mk [hpA.ob 0 X 0, hpA.ob 0 X 1, hpA.ob 0 X 2] []))
 (onSome (hpA.G 0 [hpA.ob 0 X 0, hpA.ob 0 X 1, hpA.ob 0 X 2])
 none fun (o : Hp) =>
 branch (.bool (true && decide ((0 : Int) ≤ p)))
 (branch (.bool (byOk (bR (o.at_ p.toNat)) && (byOk l && apOk l.length 1)))
 (branch (.bool !oB (putP (nR (bR (o.at_ p.toNat))) s (nR l)))
 (some
 (Fin.ret (.int .i64 36),
 St.mk [hpA.ob 0 X 0, hpA.ob 0 X 1, hpA.ob 0 X 2] []))
 (onSome
 (hpA.G 0
 [hpA.ob 0 X 0, hpA.ob 0 X 1, hpA.ob 0 X 2])
 none fun (o_1 : Hp) =>
 branch
 (AV.bool
 (true &&
 (!!oB (putP (nR (bR (o.at_ p.toNat))) s (nR l)) &&
 (pgOkB (oR (putP (nR (bR (o.at_ p.toNat))) s (nR l))) &&
 decide ((0 : Int) ≤ p ∧ p < 300)))))
 (some
 (Fin.ret (.int .i64 0),
 St.mk
 [hpA.ob 0
 (o_1.set (hdI (List.drop 0 [.int .i64 p, .int .i64 s])).toNat
 (nR
 (oR
 (putP
 (nR
 (bR
 (o.at_
 (hdI
 (List.drop 0 [.int .i64 p, .int .i64 s])).toNat)))
 (hdI (List.drop 1 [.int .i64 p, .int .i64 s])) (nR l)))))
 0,
 hpA.ob 0
 (o_1.set (hdI (List.drop 0 [.int .i64 p, .int .i64 s])).toNat
 (nR
 (oR
 (putP
 (nR
 (bR
 (o.at_
 (hdI
 (List.drop 0 [.int .i64 p, .int .i64 s])).toNat)))
 (hdI (List.drop 1 [.int .i64 p, .int .i64 s])) (nR l)))))
 1,
 hpA.ob 0
 (o_1.set (hdI (List.drop 0 [.int .i64 p, .int .i64 s])).toNat
 (nR
 (oR
 (putP
 (nR
 (bR
 (o.at_
 (hdI
 (List.drop 0 [.int .i64 p, .int .i64 s])).toNat)))
 (hdI (List.drop 1 [.int .i64 p, .int .i64 s])) (nR l)))))
 2]
 []))
 none))
 none)
 none) := by kernel_rfl
theorem res_hrun (F : Nat) (X : Hp) (p s : Int) (z : Bool) (l : List (List AV)) :
 (f22.run F [.ptr 0 0, .agg [.int .i64 p, .int .i64 s], .ns z 1 l] ⟨[hpA.ob 0 X 0, hpA.ob 0 X 1, hpA.ob 0 X 2], []⟩ : Ans) =
 onSome (hpA.G 0 [hpA.ob 0 X 0, hpA.ob 0 X 1, hpA.ob 0 X 2]) none
 fun (o : Hp) =>
 branch (.bool (oB (o.get p s)))
 (some
 (Fin.ret (.int .i64 12),
 St.mk [hpA.ob 0 X 0, hpA.ob 0 X 1, hpA.ob 0 X 2] []))
 (branch (.bool (decide (leastI false p s < 0)))
 (some
 (Fin.ret (.int .i64 41),
 St.mk [hpA.ob 0 X 0, hpA.ob 0 X 1, hpA.ob 0 X 2] []))
 (branch (.bool (decide (p ≥ 256)))
 (some
 (Fin.ret (.int .i64 41),
 St.mk [hpA.ob 0 X 0, hpA.ob 0 X 1, hpA.ob 0 X 2] []))
 (branch (.bool (decide (s > 250)))
 (some
 (Fin.ret (.int .i64 41),
 St.mk [hpA.ob 0 X 0, hpA.ob 0 X 1, hpA.ob 0 X 2] []))
 (onSome
 (hpA.G 0 [hpA.ob 0 X 0, hpA.ob 0 X 1, hpA.ob 0 X 2])
 none fun (o : Hp) =>
 branch (.bool (true && decide ((0 : Int) ≤ p)))
 (branch (.bool (byOk (bR (o.at_ p.toNat)) && (byOk l && apOk l.length 1)))
 (branch (.bool !oB (putP (nR (bR (o.at_ p.toNat))) s (nR l)))
 (some
 (Fin.ret (.int .i64 36),
 St.mk [hpA.ob 0 X 0, hpA.ob 0 X 1, hpA.ob 0 X 2]
 []))
 (onSome
 (hpA.G 0
 [hpA.ob 0 X 0, hpA.ob 0 X 1, hpA.ob 0 X 2])
 none fun (o_1 : Hp) =>
 branch
 (AV.bool
 (true &&
 (!!oB (putP (nR (bR (o.at_ p.toNat))) s (nR l)) &&
 (pgOkB (oR (putP (nR (bR (o.at_ p.toNat))) s (nR l))) &&
 decide ((0 : Int) ≤ p ∧ p < 300)))))
 (some
 (Fin.ret (.int .i64 0),
 St.mk
 [hpA.ob 0
 (o_1.set (hdI (List.drop 0 [.int .i64 p, .int .i64 s])).toNat
 (nR
 (oR
 (putP
 (nR
 (bR
 (o.at_
 (hdI
 (List.drop 0
 [.int .i64 p, .int .i64 s])).toNat)))
 (hdI (List.drop 1 [.int .i64 p, .int .i64 s]))
 (nR l)))))
 0,
 hpA.ob 0
 (o_1.set (hdI (List.drop 0 [.int .i64 p, .int .i64 s])).toNat
 (nR
 (oR
 (putP
 (nR
 (bR
 (o.at_
 (hdI
 (List.drop 0
 [.int .i64 p, .int .i64 s])).toNat)))
 (hdI (List.drop 1 [.int .i64 p, .int .i64 s]))
 (nR l)))))
 1,
 hpA.ob 0
 (o_1.set (hdI (List.drop 0 [.int .i64 p, .int .i64 s])).toNat
 (nR
 (oR
 (putP
 (nR
 (bR
 (o.at_
 (hdI
 (List.drop 0
 [.int .i64 p, .int .i64 s])).toNat)))
 (hdI (List.drop 1 [.int .i64 p, .int .i64 s]))
 (nR l)))))
 2]
 []))
 none))
 none)
 none)))) := by kernel_rfl
noncomputable def big : Nat := opq 100000
theorem big_eq : big = 100000 := by rw [big, opq_eq]
theorem Hp.get_some {X : Hp} {p s : Int} {b : List Nat} (h : X.get p s = some b) : 0 ≤ p ∧ p.toNat < X.pg_.length ∧ X.pg_[p.toNat]? = some (X.at_ p.toNat) ∧ getP (ofS (X.at_ p.toNat)) s = some b := by
 rw [Hp.get] at h
 split at h
 ·rename_i hp
  refine ⟨hp, ?_⟩
  rw [Hp.at_]
  cases hq : X.pg_[p.toNat]? with
  | none => rw [hq] at h; cases h
  | some q =>
   rw [hq] at h
   refine ⟨?_, rfl, h⟩
   rcases Nat.lt_or_ge p.toNat X.pg_.length with h' | h'
   ·exact h'
   ·rw [List.getElem?_eq_none h'] at hq; cases hq
 ·cases h
theorem Hp.get_lt {X : Hp} (h : X.Ok) {p s : Int} {b : List Nat} (hg : X.get p s = some b) : p < 300 := by
 obtain ⟨h1, h2, _⟩ := Hp.get_some hg
 rw [Hp.pg_len h] at h2
 have := h.n
 have := h.m
 omega
theorem Hp.get_cut {X : Hp} (h : X.Ok) {p s : Int} {b : List Nat} (hg : X.get p s = some b) : ∃ c, cutP (X.at_ p.toNat) s = some c ∧ PgB c ∧ ofS c = withS (ofS (X.at_ p.toNat)) s.toNat none := by
 obtain ⟨h1, h2, h3, h4⟩ := Hp.get_some hg
 have hs := getP_bound (s := ofS (X.at_ p.toNat)) (i := s) (by rw [h4]; rfl)
 obtain ⟨n, rfl⟩ := Int.eq_ofNat_of_zero_le hs.1
 rw [getP_nat] at h4
 obtain ⟨c, k1, k2, k3⟩ := (Hp.at_ok h p.toNat).1.cut h4
 exact ⟨c, k1, (Hp.at_ok h p.toNat).cut k1, k3⟩
noncomputable def Hp.cutE (X : Hp) (p s : Int) : Int := opq (bif (X.get p s).isSome then 0 else 13)
noncomputable def Hp.cutH (X : Hp) (p s : Int) : Hp := bif (X.get p s).isSome then X.set p.toNat ((cutP (X.at_ p.toNat) s).getD []) else X
theorem Hp.Ok.cutH {X : Hp} (h : X.Ok) (p s : Int) : (X.cutH p s).Ok := by
 rw [Hp.cutH]
 cases hg : X.get p s with
 | none => exact h
 | some b =>
  obtain ⟨c, k1, k2, _⟩ := Hp.get_cut h hg
  have := Hp.get_lt h hg
  rw [show (some b).isSome = true from rfl, cond_true, k1]
  exact h.set k2 (by have := (Hp.get_some hg).1; omega)
theorem hcut_at {X : Hp} (h : X.Ok) (p s : Int) : f13.run 0 [.ptr 0 0, .agg [.int .i64 p, .int .i64 s]] ⟨X.obs, []⟩ = some (.ret (.int .i64 (X.cutE p s)), ⟨(X.cutH p s).obs ++ [], []⟩) := by
 have hG := hp_G h
 rw [← hp_obl h] at hG
 have hO := hp_obl h
 rw [List.append_nil, ← hp_obl h, cut_hrun, hG, onSome_some]
 cases hg : X.get p s with
 | none =>
  rw [branch_of (by rw [oB_none]; rfl), Hp.cutE, Hp.cutH, hg, opq_eq, hO]; rfl
 | some b =>
  obtain ⟨h1, h2, h3, h4⟩ := Hp.get_some hg
  obtain ⟨c, k1, k2, _⟩ := Hp.get_cut h hg
  have hlt := Hp.get_lt h hg
  rw [branch_not (by rw [oB_some]; rfl), onSome_some, branch_of (show (true && decide (0 ≤ p)) = true by rw [decide_eq_true h1]; rfl), branch_of (Hp.at_ok h _).byOk, nR_bR, k1, branch_not (by rw [oB_some]; rfl), onSome_some, oB_some, oR_some,
   branch_of (by rw [pgOkB_bR k2, decide_eq_true ⟨h1, hlt⟩]; rfl), Hp.cutE, hg, opq_eq]
  have e : X.cutH p s = X.set p.toNat c := by rw [Hp.cutH, hg, show (some b).isSome = true from rfl, cond_true, k1]; rfl
  rw [← hp_obl (h.cutH p s), e]
  show some (_, St.mk [hpA.ob 0 (X.set p.toNat (nR (oR (cutP (nR (bR (X.at_ p.toNat))) s)))) 0, hpA.ob 0 (X.set p.toNat (nR (oR (cutP (nR (bR (X.at_ p.toNat))) s)))) 1, hpA.ob 0 (X.set p.toNat (nR (oR (cutP (nR (bR (X.at_ p.toNat))) s)))) 2] []) = _
  rw [nR_bR, k1, oR_some, nR_bR]; rfl
noncomputable def Hp.putE (X : Hp) (p s : Int) (b : List Nat) : Int := opq (bif (X.get p s).isSome then (bif (putP (X.at_ p.toNat) s b).isSome then 0 else 36) else 13)
noncomputable def Hp.putH (X : Hp) (p s : Int) (b : List Nat) : Hp := bif (X.get p s).isSome && (putP (X.at_ p.toNat) s b).isSome then X.set p.toNat ((putP (X.at_ p.toNat) s b).getD []) else X
theorem Hp.Ok.putH {X : Hp} (h : X.Ok) (p s : Int) {b : List Nat} (hb : ∀ x ∈ b, x < 256) (hbl : b.length < 4611686018427387904) : (X.putH p s b).Ok := by
 rw [Hp.putH]
 cases hg : X.get p s with
 | none => exact h
 | some c =>
  cases hq : putP (X.at_ p.toNat) s b with
  | none => exact h
  | some q =>
   have := Hp.get_lt h hg
   exact h.set ((Hp.at_ok h _).put hb hbl hq).1 (by have := (Hp.get_some hg).1; omega)
theorem hput_at {X : Hp} (h : X.Ok) (p s : Int) (z : Bool) {b : List Nat} (hb : ∀ x ∈ b, x < 256) (hbl : b.length ≤ 140737488355328) : f21.run 0 [.ptr 0 0, .agg [.int .i64 p, .int .i64 s], .ns z 1 (bR b)] ⟨X.obs, []⟩ = some (.ret (.int .i64 (X.putE p s b)), ⟨(X.putH p s b).obs ++ [], []⟩) := by
 have hbl' : b.length < 4611686018427387904 := by omega
 have hG := hp_G h
 rw [← hp_obl h] at hG
 have hO := hp_obl h
 rw [List.append_nil, ← hp_obl h, put_hrun, hG, onSome_some]
 cases hg : X.get p s with
 | none =>
  rw [branch_of (by rw [oB_none]; rfl), Hp.putE, Hp.putH, hg, opq_eq, hO]; rfl
 | some c =>
  obtain ⟨h1, h2, h3, h4⟩ := Hp.get_some hg
  have hlt := Hp.get_lt h hg
  rw [branch_not (by rw [oB_some]; rfl), onSome_some, branch_of (show (true && decide (0 ≤ p)) = true by rw [decide_eq_true h1]; rfl), branch_of (by rw [(Hp.at_ok h _).byOk, byOk_bR hb hbl', bR_length, show apOk b.length 1 = true by rw [apOk_iff]; omega]; rfl), nR_bR, nR_bR]
  cases hq : putP (X.at_ p.toNat) s b with
  | none =>
   rw [branch_of (by rw [oB_none]; rfl), Hp.putE, Hp.putH, hg, hq, opq_eq, hO]; rfl
  | some q =>
   have k2 := ((Hp.at_ok h p.toNat).put hb hbl' hq).1
   rw [branch_not (by rw [oB_some]; rfl), onSome_some, oB_some, oR_some,
    branch_of (by rw [pgOkB_bR k2, decide_eq_true ⟨h1, hlt⟩]; rfl), Hp.putE, hg, hq, opq_eq]
   have e : X.putH p s b = X.set p.toNat q := by rw [Hp.putH, hg, hq]; rfl
   rw [← hp_obl (h.putH p s hb hbl'), e]
   show some (_, St.mk [hpA.ob 0 (X.set p.toNat (nR (oR (putP (nR (bR (X.at_ p.toNat))) s b)))) 0, hpA.ob 0 (X.set p.toNat (nR (oR (putP (nR (bR (X.at_ p.toNat))) s b)))) 1, hpA.ob 0 (X.set p.toNat (nR (oR (putP (nR (bR (X.at_ p.toNat))) s b)))) 2] []) = _
   rw [nR_bR, hq, oR_some, nR_bR]; rfl
noncomputable def Hp.resB (p s : Int) : Bool := decide (0 ≤ p ∧ 0 ≤ s ∧ p < 256 ∧ s ≤ 250)
noncomputable def Hp.resE (X : Hp) (p s : Int) (b : List Nat) : Int := opq (bif (X.get p s).isSome then 12 else bif Hp.resB p s then (bif (putP (X.at_ p.toNat) s b).isSome then 0 else 36) else 41)
noncomputable def Hp.resH (X : Hp) (p s : Int) (b : List Nat) : Hp := bif !(X.get p s).isSome && (Hp.resB p s && (putP (X.at_ p.toNat) s b).isSome) then X.set p.toNat ((putP (X.at_ p.toNat) s b).getD []) else X
theorem Hp.Ok.resH {X : Hp} (h : X.Ok) (p s : Int) {b : List Nat} (hb : ∀ x ∈ b, x < 256) (hbl : b.length < 4611686018427387904) : (X.resH p s b).Ok := by
 rw [Hp.resH]
 cases hg : X.get p s with
 | some c => exact h
 | none =>
  cases hr : Hp.resB p s with
  | false => exact h
  | true =>
   cases hq : putP (X.at_ p.toNat) s b with
   | none => exact h
   | some q =>
    rw [Hp.resB, decide_eq_true_eq] at hr
    exact h.set ((Hp.at_ok h _).put hb hbl hq).1 (by omega)
theorem hres_at {X : Hp} (h : X.Ok) (p s : Int) (z : Bool) {b : List Nat} (hb : ∀ x ∈ b, x < 256) (hbl : b.length ≤ 140737488355328) : f22.run 0 [.ptr 0 0, .agg [.int .i64 p, .int .i64 s], .ns z 1 (bR b)] ⟨X.obs, []⟩ = some (.ret (.int .i64 (X.resE p s b)), ⟨(X.resH p s b).obs ++ [], []⟩) := by
 have hbl' : b.length < 4611686018427387904 := by omega
 have hG := hp_G h
 rw [← hp_obl h] at hG
 have hO := hp_obl h
 rw [List.append_nil, ← hp_obl h, res_hrun, hG, onSome_some]
 cases hg : X.get p s with
 | some c =>
  rw [branch_of (by rw [oB_some]), Hp.resE, Hp.resH, hg, opq_eq, hO]; rfl
 | none =>
  rw [branch_not (by rw [oB_none])]
  have no : Hp.resB p s = false → X.resE p s b = 41 ∧ X.resH p s b = X := by
   intro hr
   rw [Hp.resE, Hp.resH, hg, hr, opq_eq]; exact ⟨rfl, rfl⟩
  by_cases c1 : leastI false p s < 0
  ·obtain ⟨e1, e2⟩ := no (by rw [Hp.resB, decide_eq_false_iff_not]; rw [leastI_min] at c1; omega)
   rw [branch_of (decide_eq_true c1), e1, e2, hO]
  ·by_cases c2 : p ≥ 256
   ·obtain ⟨e1, e2⟩ := no (by rw [Hp.resB, decide_eq_false_iff_not]; omega)
    rw [branch_not (decide_eq_false c1), branch_of (decide_eq_true c2), e1, e2, hO]
   ·by_cases c3 : s > 250
    ·obtain ⟨e1, e2⟩ := no (by rw [Hp.resB, decide_eq_false_iff_not]; omega)
     rw [branch_not (decide_eq_false c1), branch_not (decide_eq_false c2), branch_of (decide_eq_true c3), e1, e2, hO]
    ·rw [leastI_min] at c1
     have h1 : 0 ≤ p := by omega
     have hr : Hp.resB p s = true := by rw [Hp.resB, decide_eq_true_eq]; omega
     rw [branch_not (decide_eq_false (by rw [leastI_min]; exact c1)), branch_not (decide_eq_false c2), branch_not (decide_eq_false c3), onSome_some, branch_of (show (true && decide (0 ≤ p)) = true by rw [decide_eq_true h1]; rfl), branch_of (by rw [(Hp.at_ok h _).byOk, byOk_bR hb hbl', bR_length, show apOk b.length 1 = true by rw [apOk_iff]; omega]; rfl), nR_bR, nR_bR]
     cases hq : putP (X.at_ p.toNat) s b with
     | none =>
      rw [branch_of (by rw [oB_none]; rfl), Hp.resE, Hp.resH, hg, hr, hq, opq_eq, hO]; rfl
     | some q =>
      have k2 := ((Hp.at_ok h p.toNat).put hb hbl' hq).1
      rw [branch_not (by rw [oB_some]; rfl), onSome_some, oB_some, oR_some,
       branch_of (by rw [pgOkB_bR k2, decide_eq_true ⟨h1, by omega⟩]; rfl), Hp.resE, hg, hr, hq, opq_eq]
      have e : X.resH p s b = X.set p.toNat q := by rw [Hp.resH, hg, hr, hq]; rfl
      rw [← hp_obl (h.resH p s hb hbl'), e]
      show some (_, St.mk [hpA.ob 0 (X.set p.toNat (nR (oR (putP (nR (bR (X.at_ p.toNat))) s b)))) 0, hpA.ob 0 (X.set p.toNat (nR (oR (putP (nR (bR (X.at_ p.toNat))) s b)))) 1, hpA.ob 0 (X.set p.toNat (nR (oR (putP (nR (bR (X.at_ p.toNat))) s b)))) 2] []) = _
      rw [nR_bR, hq, oR_some, nR_bR]; rfl
noncomputable def Hp.cutO (X : Hp) (p s : Int) : Hp := opq (X.cutH p s)
noncomputable def s13 : OrcS Try.prog := f13.by'
 (fun args st k => match args with
  | [x, r] => hpA.on x st fun j X => onRid r fun p s => k (.ret (.int .i64 (X.cutE p s))) (hpA.pl st j (X.cutO p s))
  | _ => none)
 fun args st k fin h => by
  split at h
  ·rename_i x r
   obtain ⟨j, X, rfl, hd, h1⟩ := ADT.on_spec h
   obtain ⟨p, s, rfl, h2⟩ := onRid_spec h1
   refine ⟨_, _, h2, ?_⟩
   rw [Hp.cutO, opq_eq]
   exact ADT.placed (A := hpA) (f := f13) (x := X) (y := X.cutH p s) (args0 := [.ptr 0 0, .agg [.int .i64 p, .int .i64 s]]) (r := .int .i64 _) (xs := []) (hcut_at hd.ok p s) (hd.ok.cutH p s) ⟨by show 0 < 3; omega, ⟨trivial, trivial, trivial⟩, trivial⟩ trivial hd
  ·cases h
noncomputable def Hp.putO (X : Hp) (p s : Int) (b : List Nat) : Hp := opq (X.putH p s b)
noncomputable def s21 : OrcS Try.prog := f21.by'
 (fun args st k => match args with
  | [x, r, y] => hpA.on x st fun j X => onRid r fun p s => onNs 1 y fun z l => ifT (byOk l && apOk l.length 1) (k (.ret (.int .i64 (X.putE p s (nR l)))) (hpA.pl st j (X.putO p s (nR l))))
  | _ => none)
 fun args st k fin h => by
  split at h
  ·rename_i x r y
   obtain ⟨j, X, rfl, hd, h1⟩ := ADT.on_spec h
   obtain ⟨p, s, rfl, h2⟩ := onRid_spec h1
   obtain ⟨z, l, h3, hy⟩ := onNs_spec h2
   obtain ⟨h4, h5⟩ := ifT_spec h3
   rw [Bool.and_eq_true, apOk_iff, Nat.mul_one] at h4
   obtain ⟨l1, l2⟩ := byOk_iff.mp h4.1
   have hb : ∀ x ∈ nR l, x < 256 := fun x hx => okR_lt l1 hx
   refine ⟨_, _, h5, ?_⟩
   rw [Hp.putO, opq_eq]
   have := ADT.placed (A := hpA) (f := f21) (x := X) (y := X.putH p s (nR l)) (args0 := [.ptr 0 0, .agg [.int .i64 p, .int .i64 s], .ns z 1 (bR (nR l))]) (r := .int .i64 _) (xs := []) (hput_at hd.ok p s z hb (by rw [nR_length]; exact h4.2)) (hd.ok.putH p s hb (by rw [nR_length]; exact l2)) ⟨by show 0 < 3; omega, ⟨trivial, trivial, trivial⟩, bR_scoped _, trivial⟩ trivial hd
   rw [← okR_rows l1] at this
   exact CallsTo.wk this fun g w vs ⟨v, vr, e, r1, v2, vr2, e2, r2, v3, vr3, e3, r3, r4⟩ => ⟨v, vr, e, r1, v2, vr2, e2, r2, v3, vr3, e3, hy _ _ _ r3, r4⟩
  ·cases h
noncomputable def Hp.resO (X : Hp) (p s : Int) (b : List Nat) : Hp := opq (X.resH p s b)
noncomputable def s22 : OrcS Try.prog := f22.by'
 (fun args st k => match args with
  | [x, r, y] => hpA.on x st fun j X => onRid r fun p s => onNs 1 y fun z l => ifT (byOk l && apOk l.length 1) (k (.ret (.int .i64 (X.resE p s (nR l)))) (hpA.pl st j (X.resO p s (nR l))))
  | _ => none)
 fun args st k fin h => by
  split at h
  ·rename_i x r y
   obtain ⟨j, X, rfl, hd, h1⟩ := ADT.on_spec h
   obtain ⟨p, s, rfl, h2⟩ := onRid_spec h1
   obtain ⟨z, l, h3, hy⟩ := onNs_spec h2
   obtain ⟨h4, h5⟩ := ifT_spec h3
   rw [Bool.and_eq_true, apOk_iff, Nat.mul_one] at h4
   obtain ⟨l1, l2⟩ := byOk_iff.mp h4.1
   have hb : ∀ x ∈ nR l, x < 256 := fun x hx => okR_lt l1 hx
   refine ⟨_, _, h5, ?_⟩
   rw [Hp.resO, opq_eq]
   have := ADT.placed (A := hpA) (f := f22) (x := X) (y := X.resH p s (nR l)) (args0 := [.ptr 0 0, .agg [.int .i64 p, .int .i64 s], .ns z 1 (bR (nR l))]) (r := .int .i64 _) (xs := []) (hres_at hd.ok p s z hb (by rw [nR_length]; exact h4.2)) (hd.ok.resH p s hb (by rw [nR_length]; exact l2)) ⟨by show 0 < 3; omega, ⟨trivial, trivial, trivial⟩, bR_scoped _, trivial⟩ trivial hd
   rw [← okR_rows l1] at this
   exact CallsTo.wk this fun g w vs ⟨v, vr, e, r1, v2, vr2, e2, r2, v3, vr3, e3, r3, r4⟩ => ⟨v, vr, e, r1, v2, vr2, e2, r2, v3, vr3, e3, hy _ _ _ r3, r4⟩
  ·cases h
theorem eq30 : eqFlatB Try.prog 30 [(0, 0), (1, 0)] = true := by kernel_rfl
theorem sz49 : (Try.prog.info? 49).map (·.size) = some 5 := by kernel_rfl
theorem fl49_3 : fieldB Try.prog 49 3 4 1 false = true := by kernel_rfl
theorem sz26 : (Try.prog.info? 26).map (·.size) = some 1 := by kernel_rfl
noncomputable def f43_b : Sim Try.prog :=
 (.seq (.live [0] (.region 0 [
 ⟨(opAssign (some 2) (.const (Value.slice none 0 0)) 34 "slices.go:355" #[]).op, none⟩
 ] (by kernel_rfl)))
 (.seq (.seq (.live [0, 4] (.region 1 [
 ⟨(opMove (some 3) (.tmp 0) 34 "slices.go:357" #[]).op, none⟩,
 ⟨(opEq (some 4) 34 (.slice 5) Try.underlying34 (.tmp 3) (.const (Value.slice none 0 0)) (.inl rfl) 34 4 "slices.go:357" #[eD 0]).op, none⟩
 ] (by kernel_rfl)))
 (.cond (.tmp 4)
 (.seq (.live [2] (.region 2 [
 ⟨(opAssign (some 2) (.const (Value.slice none 0 0)) 34 "slices.go:358" #[]).op, none⟩
 ] (by kernel_rfl)))
 (.live [2] .ret))
 .skip))
 (.seq (.live [2] (.region 3 [
 ⟨(opBuildSlice (some 5) 34 0 [] 5 1 1 (.int .u8 0) el34 (by kernel_rfl) (by decide) 34 "slices.go:362" #[]).op, none⟩,
 ⟨(opMove (some 6) (.tmp 0) 34 "slices.go:362" #[]).op, none⟩,
 ⟨(opAppend (some 7) (.tmp 5) (.tmp 6) 34 34 5 1 1 (.int .u8 0) el34 (.slice 5) Try.underlying34 rfl 34 "slices.go:362" #[eD 0, eD 1]).op, none⟩,
 ⟨(opAssign (some 2) (.tmp 7) 34 "slices.go:362" #[eD 2, eC 2, eP 0, eP 1, eP 2]).op, none⟩
 ] (by kernel_rfl)))
 (.live [2] .ret))))
noncomputable def f43 : Fun Try.prog where
 id := 43
 fn := Try.f43
 hf := Try.func43
 hname := by kernel_rfl
 body := f43_b
 hbody := by kernel_rfl
 res := [rTmp 2]
 hres := by kernel_rfl
 n := 8
 hn := by kernel_rfl
noncomputable def f18_l0 : Sim Try.prog :=
 (.seq (.seq (.live [0, 1, 5, 14] (.region 4 [
 ⟨(opMove (some 11) (.tmp 5) 3 "ref.go:31" #[]).op, none⟩,
 ⟨(opMove (some 12) (.tmp 0) 22 "ref.go:31" #[]).op, none⟩,
 ⟨(opLen (some 13) (.tmp 12) 22 (.slice 34) Try.underlying22 3 "ref.go:31" #[eD 1]).op, none⟩,
 ⟨(opBin (some 14) .lss 3 (.tmp 11) (.tmp 13) 3 4 "ref.go:31" #[eD 0, eD 2]).op, none⟩
 ] (by kernel_rfl)))
 (.cond (.tmp 14)
 .skip
 (.live [] (.exit 0))))
 (.seq (.block 1 (.seq (.live [0, 1, 5, 26] (.draw 6 [
 ⟨.p (opMove (some 17) (.tmp 0) 22 "ref.go:32" #[]), none⟩,
 ⟨.p (opMove (some 18) (.tmp 5) 3 "ref.go:32" #[]), none⟩,
 ⟨.pn (opIndexAddrT (some 19) 22 (.tmp 17) (.tmp 18) 34 1 Try.underlying22 sz34 0 "ref.go:32" #[eD 0, eD 1]) opIndexAddrT_nat, none⟩,
 ⟨.qn (opLoadT (.one (.ns 1)) (some 20) 34 (.tmp 19) (.slice 5) Try.underlying34 1 sz34 (by kernel_rfl) 34 "ref.go:32" #[eD 2]) opLoadT_nat, none⟩,
 ⟨.p (opMove (some 21) (.tmp 1) 22 "ref.go:32" #[]), none⟩,
 ⟨.p (opMove (some 22) (.tmp 5) 3 "ref.go:32" #[]), none⟩,
 ⟨.pn (opIndexAddrT (some 23) 22 (.tmp 21) (.tmp 22) 34 1 Try.underlying22 sz34 0 "ref.go:32" #[eD 4, eD 5]) opIndexAddrT_nat, none⟩,
 ⟨.qn (opLoadT (.one (.ns 1)) (some 24) 34 (.tmp 23) (.slice 5) Try.underlying34 1 sz34 (by kernel_rfl) 34 "ref.go:32" #[eD 6]) opLoadT_nat, none⟩,
 ⟨.pn (opCallP p15 (some 25) [(.tmp 20), (.tmp 24)] #[34, 34] 4 "ref.go:32" #[eD 3, eD 7]) (opCallP_nat p15_nat), none⟩,
 ⟨.p (opNot (some 26) 4 (.tmp 25) 4 "ref.go:32" #[eD 8]), none⟩
 ] mixed (by kernel_rfl)))
 (.cond (.tmp 26)
 (.seq (.live [4] (.region 7 [
 ⟨(opAssign (some 4) (.const (Value.bool false)) 4 "ref.go:33" #[]).op, none⟩
 ] (by kernel_rfl)))
 (.live [4] .ret))
 .skip)))
 (.live [0, 1, 5] (.region 5 [
 ⟨(opMove (some 15) (.tmp 5) 3 "ref.go:31" #[]).op, none⟩,
 ⟨(opBin (some 16) .add 3 (.tmp 15) (.const (Value.int IntKind.i64 1)) 3 3 "ref.go:31" #[eD 0]).op, none⟩,
 ⟨(opAssign (some 5) (.tmp 16) 3 "ref.go:31" #[eD 1, eP 0, eP 1]).op, none⟩
 ] (by kernel_rfl)))))
noncomputable def f18_r0 : Sim Try.prog :=
 (.seq (.live [4] (.region 8 [
 ⟨(opAssign (some 4) (.const (Value.bool true)) 4 "ref.go:36" #[]).op, none⟩
 ] (by kernel_rfl)))
 (.live [4] .ret))
noncomputable def f18_b : Sim Try.prog :=
 (.seq (.live [0, 1] (.region 0 [
 ⟨(opAssign (some 4) (.const (Value.bool false)) 4 "ref.go:27" #[]).op, none⟩
 ] (by kernel_rfl)))
 (.seq (.seq (.live [0, 1, 10] (.region 1 [
 ⟨(opMove (some 6) (.tmp 0) 22 "ref.go:28" #[]).op, none⟩,
 ⟨(opLen (some 7) (.tmp 6) 22 (.slice 34) Try.underlying22 3 "ref.go:28" #[eD 0]).op, none⟩,
 ⟨(opMove (some 8) (.tmp 1) 22 "ref.go:28" #[]).op, none⟩,
 ⟨(opLen (some 9) (.tmp 8) 22 (.slice 34) Try.underlying22 3 "ref.go:28" #[eD 2]).op, none⟩,
 ⟨(opBin (some 10) .neq 3 (.tmp 7) (.tmp 9) 3 4 "ref.go:28" #[eD 1, eD 3]).op, none⟩
 ] (by kernel_rfl)))
 (.cond (.tmp 10)
 (.seq (.live [4] (.region 2 [
 ⟨(opAssign (some 4) (.const (Value.bool false)) 4 "ref.go:29" #[]).op, none⟩
 ] (by kernel_rfl)))
 (.live [4] .ret))
 .skip))
 (.seq (.seq (.live [0, 1, 5] (.region 3 [
 ⟨(opAssign (some 5) (.const (Value.int IntKind.i64 0)) 3 "ref.go:31" #[]).op, none⟩
 ] (by kernel_rfl)))
 (.block 0 (.loop [0, 1, 5] f18_l0)))
 f18_r0)))
noncomputable def f18 : Fun Try.prog where
 id := 18
 fn := Try.f18
 hf := Try.func18
 hname := by kernel_rfl
 body := f18_b
 hbody := by kernel_rfl
 res := [rTmp 4]
 hres := by kernel_rfl
 n := 27
 hn := by kernel_rfl
noncomputable def f29_l0 : Sim Try.prog :=
 (.seq (.seq (.live [0, 1, 5, 14] (.region 4 [
 ⟨(opMove (some 11) (.tmp 5) 3 "ref.go:164" #[]).op, none⟩,
 ⟨(opMove (some 12) (.tmp 0) 40 "ref.go:164" #[]).op, none⟩,
 ⟨(opLen (some 13) (.tmp 12) 40 (.slice 30) Try.underlying40 3 "ref.go:164" #[eD 1]).op, none⟩,
 ⟨(opBin (some 14) .lss 3 (.tmp 11) (.tmp 13) 3 4 "ref.go:164" #[eD 0, eD 2]).op, none⟩
 ] (by kernel_rfl)))
 (.cond (.tmp 14)
 .skip
 (.live [] (.exit 0))))
 (.seq (.block 1 (.seq (.live [0, 1, 5, 25] (.draw 6 [
 ⟨.p (opMove (some 17) (.tmp 0) 40 "ref.go:165" #[]), none⟩,
 ⟨.p (opMove (some 18) (.tmp 5) 3 "ref.go:165" #[]), none⟩,
 ⟨.pn (opIndexAddrT (some 19) 40 (.tmp 17) (.tmp 18) 30 2 Try.underlying40 sz30 0 "ref.go:165" #[eD 0, eD 1]) opIndexAddrT_nat, none⟩,
 ⟨.qn (opLoadT (.agg [(.int .i64), (.int .i64)]) (some 20) 30 (.tmp 19) d30 ud30 2 sz30 (by kernel_rfl) 30 "ref.go:165" #[eD 2]) opLoadT_nat, none⟩,
 ⟨.p (opMove (some 21) (.tmp 1) 40 "ref.go:165" #[]), none⟩,
 ⟨.p (opMove (some 22) (.tmp 5) 3 "ref.go:165" #[]), none⟩,
 ⟨.pn (opIndexAddrT (some 23) 40 (.tmp 21) (.tmp 22) 30 2 Try.underlying40 sz30 0 "ref.go:165" #[eD 4, eD 5]) opIndexAddrT_nat, none⟩,
 ⟨.qn (opLoadT (.agg [(.int .i64), (.int .i64)]) (some 24) 30 (.tmp 23) d30 ud30 2 sz30 (by kernel_rfl) 30 "ref.go:165" #[eD 6]) opLoadT_nat, none⟩,
 ⟨.pn (opNeS (some 25) 30 [(0, 0), (1, 0)] eq30 (.tmp 20) (.tmp 24) 30 4 "ref.go:165" #[eD 3, eD 7]) opNeS_nat, none⟩
 ] mixed (by kernel_rfl)))
 (.cond (.tmp 25)
 (.seq (.live [4] (.region 7 [
 ⟨(opAssign (some 4) (.const (Value.bool false)) 4 "ref.go:166" #[]).op, none⟩
 ] (by kernel_rfl)))
 (.live [4] .ret))
 .skip)))
 (.live [0, 1, 5] (.region 5 [
 ⟨(opMove (some 15) (.tmp 5) 3 "ref.go:164" #[]).op, none⟩,
 ⟨(opBin (some 16) .add 3 (.tmp 15) (.const (Value.int IntKind.i64 1)) 3 3 "ref.go:164" #[eD 0]).op, none⟩,
 ⟨(opAssign (some 5) (.tmp 16) 3 "ref.go:164" #[eD 1, eP 0, eP 1]).op, none⟩
 ] (by kernel_rfl)))))
noncomputable def f29_r0 : Sim Try.prog :=
 (.seq (.live [4] (.region 8 [
 ⟨(opAssign (some 4) (.const (Value.bool true)) 4 "ref.go:169" #[]).op, none⟩
 ] (by kernel_rfl)))
 (.live [4] .ret))
noncomputable def f29_b : Sim Try.prog :=
 (.seq (.live [0, 1] (.region 0 [
 ⟨(opAssign (some 4) (.const (Value.bool false)) 4 "ref.go:160" #[]).op, none⟩
 ] (by kernel_rfl)))
 (.seq (.seq (.live [0, 1, 10] (.region 1 [
 ⟨(opMove (some 6) (.tmp 0) 40 "ref.go:161" #[]).op, none⟩,
 ⟨(opLen (some 7) (.tmp 6) 40 (.slice 30) Try.underlying40 3 "ref.go:161" #[eD 0]).op, none⟩,
 ⟨(opMove (some 8) (.tmp 1) 40 "ref.go:161" #[]).op, none⟩,
 ⟨(opLen (some 9) (.tmp 8) 40 (.slice 30) Try.underlying40 3 "ref.go:161" #[eD 2]).op, none⟩,
 ⟨(opBin (some 10) .neq 3 (.tmp 7) (.tmp 9) 3 4 "ref.go:161" #[eD 1, eD 3]).op, none⟩
 ] (by kernel_rfl)))
 (.cond (.tmp 10)
 (.seq (.live [4] (.region 2 [
 ⟨(opAssign (some 4) (.const (Value.bool false)) 4 "ref.go:162" #[]).op, none⟩
 ] (by kernel_rfl)))
 (.live [4] .ret))
 .skip))
 (.seq (.seq (.live [0, 1, 5] (.region 3 [
 ⟨(opAssign (some 5) (.const (Value.int IntKind.i64 0)) 3 "ref.go:164" #[]).op, none⟩
 ] (by kernel_rfl)))
 (.block 0 (.loop [0, 1, 5] f29_l0)))
 f29_r0)))
noncomputable def f29 : Fun Try.prog where
 id := 29
 fn := Try.f29
 hf := Try.func29
 hname := by kernel_rfl
 body := f29_b
 hbody := by kernel_rfl
 res := [rTmp 4]
 hres := by kernel_rfl
 n := 26
 hn := by kernel_rfl
noncomputable def f20_l0 : Sim Try.prog :=
 (.seq (.seq (.live [0, 3, 4, 11] (.region 5 [
 ⟨(opMove (some 8) (.tmp 4) 3 "law.go:37" #[]).op, none⟩,
 ⟨(opMove (some 9) (.tmp 0) 47 "law.go:37" #[]).op, none⟩,
 ⟨(opLen (some 10) (.tmp 9) 47 (.slice 49) Try.underlying47 3 "law.go:37" #[eD 1]).op, none⟩,
 ⟨(opBin (some 11) .lss 3 (.tmp 8) (.tmp 10) 3 4 "law.go:37" #[eD 0, eD 2]).op, none⟩
 ] (by kernel_rfl)))
 (.cond (.tmp 11)
 .skip
 (.live [] (.exit 0))))
 (.seq (.block 1 (.seq (.live [0, 3, 4] (.region 7 [
 ⟨(opMove (some 14) (.tmp 3) 3 "law.go:38" #[]).op, none⟩,
 ⟨(opMove (some 15) (.tmp 0) 47 "law.go:38" #[]).op, none⟩,
 ⟨(opMove (some 16) (.tmp 4) 3 "law.go:38" #[]).op, none⟩,
 ⟨(opIndexAddrT (some 17) 47 (.tmp 15) (.tmp 16) 49 5 Try.underlying47 sz49 0 "law.go:38" #[eD 1, eD 2]).op, none⟩,
 ⟨(opFieldAddr (some 18) 49 (.tmp 17) 3 4 1 false fl49_3 (by decide) 0 "law.go:38" #[eD 3]).op, none⟩,
 ⟨(opLoadT (.one (.ns 1)) (some 19) 34 (.tmp 18) (.slice 5) Try.underlying34 1 sz34 (by kernel_rfl) 34 "law.go:38" #[eD 4]).op, none⟩,
 ⟨(opLen (some 20) (.tmp 19) 34 (.slice 5) Try.underlying34 3 "law.go:38" #[eD 5]).op, none⟩,
 ⟨(opBin (some 21) .add 3 (.tmp 14) (.tmp 20) 3 3 "law.go:38" #[eD 0, eD 6]).op, none⟩,
 ⟨(opAssign (some 3) (.tmp 21) 3 "law.go:38" #[eD 7, eP 0, eP 1, eP 2, eP 3, eP 4, eP 5, eP 6, eP 7]).op, none⟩
 ] (by kernel_rfl)))
 (.seq (.live [0, 3, 4, 23] (.region 8 [
 ⟨(opMove (some 22) (.tmp 3) 3 "law.go:39" #[]).op, none⟩,
 ⟨(opBin (some 23) .gtr 3 (.tmp 22) (.const (Value.int IntKind.i64 20000)) 3 4 "law.go:39" #[eD 0]).op, none⟩
 ] (by kernel_rfl)))
 (.cond (.tmp 23)
 (.seq (.live [2] (.region 9 [
 ⟨(opAssign (some 2) (.const (Value.bool true)) 4 "law.go:40" #[]).op, none⟩
 ] (by kernel_rfl)))
 (.live [2] .ret))
 .skip))))
 (.live [0, 3, 4] (.region 6 [
 ⟨(opMove (some 12) (.tmp 4) 3 "law.go:37" #[]).op, none⟩,
 ⟨(opBin (some 13) .add 3 (.tmp 12) (.const (Value.int IntKind.i64 1)) 3 3 "law.go:37" #[eD 0]).op, none⟩,
 ⟨(opAssign (some 4) (.tmp 13) 3 "law.go:37" #[eD 1, eP 0, eP 1]).op, none⟩
 ] (by kernel_rfl)))))
noncomputable def f20_r0 : Sim Try.prog :=
 (.seq (.live [2] (.region 10 [
 ⟨(opAssign (some 2) (.const (Value.bool false)) 4 "law.go:43" #[]).op, none⟩
 ] (by kernel_rfl)))
 (.live [2] .ret))
noncomputable def f20_b : Sim Try.prog :=
 (.seq (.live [0] (.region 0 [
 ⟨(opAssign (some 2) (.const (Value.bool false)) 4 "law.go:32" #[]).op, none⟩
 ] (by kernel_rfl)))
 (.seq (.seq (.live [0, 7] (.region 1 [
 ⟨(opMove (some 5) (.tmp 0) 47 "law.go:33" #[]).op, none⟩,
 ⟨(opLen (some 6) (.tmp 5) 47 (.slice 49) Try.underlying47 3 "law.go:33" #[eD 0]).op, none⟩,
 ⟨(opBin (some 7) .gtr 3 (.tmp 6) (.const (Value.int IntKind.i64 80)) 3 4 "law.go:33" #[eD 1]).op, none⟩
 ] (by kernel_rfl)))
 (.cond (.tmp 7)
 (.seq (.live [2] (.region 2 [
 ⟨(opAssign (some 2) (.const (Value.bool true)) 4 "law.go:34" #[]).op, none⟩
 ] (by kernel_rfl)))
 (.live [2] .ret))
 .skip))
 (.seq (.live [0, 3] (.region 3 [
 ⟨(opAssign (some 3) (.const (Value.int IntKind.i64 0)) 3 "law.go:36" #[]).op, none⟩
 ] (by kernel_rfl)))
 (.seq (.seq (.live [0, 3, 4] (.region 4 [
 ⟨(opAssign (some 4) (.const (Value.int IntKind.i64 0)) 3 "law.go:37" #[]).op, none⟩
 ] (by kernel_rfl)))
 (.block 0 (.loop [0, 3, 4] f20_l0)))
 f20_r0))))
noncomputable def f20 : Fun Try.prog where
 id := 20
 fn := Try.f20
 hf := Try.func20
 hname := by kernel_rfl
 body := f20_b
 hbody := by kernel_rfl
 res := [rTmp 2]
 hres := by kernel_rfl
 n := 24
 hn := by kernel_rfl
noncomputable def f82_b : Sim Try.prog :=
 (.seq (.live [0] (.region 0 [
 ⟨(opAssign (some 2) (.const (Value.bool false)) 4 "cmp.go:63" #[]).op, none⟩
 ] (by kernel_rfl)))
 (.seq (.live [2] (.region 1 [
 ⟨(opMove (some 3) (.tmp 0) 3 "cmp.go:64" #[]).op, none⟩,
 ⟨(opMove (some 4) (.tmp 0) 3 "cmp.go:64" #[]).op, none⟩,
 ⟨(opBin (some 5) .neq 3 (.tmp 3) (.tmp 4) 3 4 "cmp.go:64" #[eD 0, eD 1]).op, none⟩,
 ⟨(opAssign (some 2) (.tmp 5) 4 "cmp.go:64" #[eD 2, eP 0, eP 1, eP 2]).op, none⟩
 ] (by kernel_rfl)))
 (.live [2] .ret)))
noncomputable def f82 : Fun Try.prog where
 id := 82
 fn := Try.f82
 hf := Try.func82
 hname := by kernel_rfl
 body := f82_b
 hbody := by kernel_rfl
 res := [rTmp 2]
 hres := by kernel_rfl
 n := 6
 hn := by kernel_rfl
noncomputable def f67_b : Sim Try.prog :=
 (.seq (.live [0, 1] (.region 0 [
 ⟨(opAssign (some 4) (.const (Value.int IntKind.i64 0)) 3 "cmp.go:40" #[]).op, none⟩
 ] (by kernel_rfl)))
 (.seq (.live [0, 1, 5] (.region 1 [
 ⟨(opMove (some 7) (.tmp 0) 3 "cmp.go:41" #[]).op, none⟩,
 ⟨opCall (f82.orc 0) (some 8) [(.tmp 7)] #[3] 4 "cmp.go:41" #[eD 0], none⟩,
 ⟨(opAssign (some 5) (.tmp 8) 4 "cmp.go:41" #[eD 1, eC 1, eP 0, eP 1]).op, none⟩
 ] (by kernel_rfl)))
 (.seq (.live [0, 1, 5, 6] (.region 2 [
 ⟨(opMove (some 9) (.tmp 1) 3 "cmp.go:42" #[]).op, none⟩,
 ⟨opCall (f82.orc 0) (some 10) [(.tmp 9)] #[3] 4 "cmp.go:42" #[eD 0], none⟩,
 ⟨(opAssign (some 6) (.tmp 10) 4 "cmp.go:42" #[eD 1, eC 1, eP 0, eP 1]).op, none⟩
 ] (by kernel_rfl)))
 (.seq (.seq (.live [0, 1, 6, 11] (.region 3 [
 ⟨(opMove (some 11) (.tmp 5) 4 "cmp.go:43" #[]).op, none⟩
 ] (by kernel_rfl)))
 (.cond (.tmp 11)
 (.seq (.seq (.live [12] (.region 4 [
 ⟨(opMove (some 12) (.tmp 6) 4 "cmp.go:44" #[]).op, none⟩
 ] (by kernel_rfl)))
 (.cond (.tmp 12)
 (.seq (.live [4] (.region 5 [
 ⟨(opAssign (some 4) (.const (Value.int IntKind.i64 0)) 3 "cmp.go:45" #[]).op, none⟩
 ] (by kernel_rfl)))
 (.live [4] .ret))
 .skip))
 (.seq (.live [4] (.region 6 [
 ⟨(opAssign (some 4) (.const (Value.int IntKind.i64 (-1))) 3 "cmp.go:47" #[]).op, none⟩
 ] (by kernel_rfl)))
 (.live [4] .ret)))
 .skip))
 (.seq (.seq (.live [0, 1, 13] (.region 7 [
 ⟨(opMove (some 13) (.tmp 6) 4 "cmp.go:49" #[]).op, none⟩
 ] (by kernel_rfl)))
 (.cond (.tmp 13)
 (.seq (.live [4] (.region 8 [
 ⟨(opAssign (some 4) (.const (Value.int IntKind.i64 1)) 3 "cmp.go:50" #[]).op, none⟩
 ] (by kernel_rfl)))
 (.live [4] .ret))
 .skip))
 (.seq (.seq (.live [0, 1, 16] (.region 9 [
 ⟨(opMove (some 14) (.tmp 0) 3 "cmp.go:52" #[]).op, none⟩,
 ⟨(opMove (some 15) (.tmp 1) 3 "cmp.go:52" #[]).op, none⟩,
 ⟨(opBin (some 16) .lss 3 (.tmp 14) (.tmp 15) 3 4 "cmp.go:52" #[eD 0, eD 1]).op, none⟩
 ] (by kernel_rfl)))
 (.cond (.tmp 16)
 (.seq (.live [4] (.region 10 [
 ⟨(opAssign (some 4) (.const (Value.int IntKind.i64 (-1))) 3 "cmp.go:53" #[]).op, none⟩
 ] (by kernel_rfl)))
 (.live [4] .ret))
 .skip))
 (.seq (.seq (.live [19] (.region 11 [
 ⟨(opMove (some 17) (.tmp 0) 3 "cmp.go:55" #[]).op, none⟩,
 ⟨(opMove (some 18) (.tmp 1) 3 "cmp.go:55" #[]).op, none⟩,
 ⟨(opBin (some 19) .gtr 3 (.tmp 17) (.tmp 18) 3 4 "cmp.go:55" #[eD 0, eD 1]).op, none⟩
 ] (by kernel_rfl)))
 (.cond (.tmp 19)
 (.seq (.live [4] (.region 12 [
 ⟨(opAssign (some 4) (.const (Value.int IntKind.i64 1)) 3 "cmp.go:56" #[]).op, none⟩
 ] (by kernel_rfl)))
 (.live [4] .ret))
 .skip))
 (.seq (.live [4] (.region 13 [
 ⟨(opAssign (some 4) (.const (Value.int IntKind.i64 0)) 3 "cmp.go:58" #[]).op, none⟩
 ] (by kernel_rfl)))
 (.live [4] .ret)))))))))
noncomputable def f67 : Fun Try.prog where
 id := 67
 fn := Try.f67
 hf := Try.func67
 hname := by kernel_rfl
 body := f67_b
 hbody := by kernel_rfl
 res := [rTmp 4]
 hres := by kernel_rfl
 n := 20
 hn := by kernel_rfl
noncomputable def f66_l0 : Sim Try.prog :=
 (.seq (.live [3, 6, 7, 8, 9] (.region 3 [
 ⟨(opBin (some 9) .lss 3 (.tmp 8) (.tmp 7) 3 0 "cmp.go:71" #[]).op, none⟩
 ] (by kernel_rfl)))
 (.seq (.cond (.tmp 9)
 .skip
 (.live [3] (.exit 0)))
 (.seq (.block 1 (.seq (.live [3, 5, 6, 7, 8] (.region 4 [
 ⟨(opIndexAddrT (some 10) 23 (.tmp 6) (.tmp 8) 3 1 Try.underlying23 sz3 0 "cmp.go:71" #[]).op, none⟩,
 ⟨(opLoadT (.one (.int .i64)) (some 11) 3 (.tmp 10) (.int .i64) Try.underlying3 1 sz3 (by kernel_rfl) 3 "cmp.go:71" #[eD 0]).op, none⟩,
 ⟨(opAssign (some 5) (.tmp 11) 3 "cmp.go:71" #[eD 1, eP 0, eP 1]).op, none⟩
 ] (by kernel_rfl)))
 (.seq (.live [3, 5, 6, 7, 8, 14] (.region 5 [
 ⟨(opMove (some 12) (.tmp 5) 3 "cmp.go:72" #[]).op, none⟩,
 ⟨(opMove (some 13) (.tmp 3) 3 "cmp.go:72" #[]).op, none⟩,
 ⟨(opBin (some 14) .neq 3 (.tmp 12) (.tmp 13) 3 4 "cmp.go:72" #[eD 0, eD 1]).op, none⟩
 ] (by kernel_rfl)))
 (.cond (.tmp 14)
 (.seq (.live [2] (.region 6 [
 ⟨(opMove (some 15) (.tmp 5) 3 "cmp.go:73" #[]).op, none⟩,
 ⟨(opAssign (some 2) (.tmp 15) 3 "cmp.go:73" #[eD 0, eP 0]).op, none⟩
 ] (by kernel_rfl)))
 (.live [2] .ret))
 .skip))))
 (.live [3, 6, 7, 8] (.region 7 [
 ⟨(opBin (some 16) .add 3 (.tmp 8) (.const (Value.int IntKind.i64 1)) 3 3 "cmp.go:71" #[]).op, none⟩,
 ⟨(opMove (some 8) (.tmp 16) 3 "cmp.go:71" #[eD 0]).op, none⟩
 ] (by kernel_rfl))))))
noncomputable def f66_r0 : Sim Try.prog :=
 (.seq (.live [2] (.region 8 [
 ⟨(opMove (some 17) (.tmp 3) 3 "cmp.go:76" #[]).op, none⟩,
 ⟨(opAssign (some 2) (.tmp 17) 3 "cmp.go:76" #[eD 0, eP 0]).op, none⟩
 ] (by kernel_rfl)))
 (.live [2] .ret))
noncomputable def f66_b : Sim Try.prog :=
 (.seq (.live [0] (.region 0 [
 ⟨(opAssign (some 2) (.const (Value.int IntKind.i64 0)) 3 "cmp.go:69" #[]).op, none⟩
 ] (by kernel_rfl)))
 (.seq (.live [0, 3] (.region 1 [
 ⟨(opAssign (some 3) (.const (Value.int IntKind.i64 0)) 3 "cmp.go:70" #[]).op, none⟩
 ] (by kernel_rfl)))
 (.seq (.seq (.live [3, 6, 7, 8] (.region 2 [
 ⟨(opMove (some 6) (.tmp 0) 23 "cmp.go:71" #[]).op, none⟩,
 ⟨(opLen (some 7) (.tmp 6) 23 (.slice 3) Try.underlying23 3 "cmp.go:71" #[eD 0]).op, none⟩,
 ⟨(opMove (some 8) (.const (Value.int IntKind.i64 0)) 3 "cmp.go:71" #[]).op, none⟩
 ] (by kernel_rfl)))
 (.block 0 (.loop [3, 6, 7, 8] f66_l0)))
 f66_r0)))
noncomputable def f66 : Fun Try.prog where
 id := 66
 fn := Try.f66
 hf := Try.func66
 hname := by kernel_rfl
 body := f66_b
 hbody := by kernel_rfl
 res := [rTmp 2]
 hres := by kernel_rfl
 n := 18
 hn := by kernel_rfl
noncomputable def f74_l1 (Y : YOrc Try.prog) (Os : List (Orc Try.prog)) : Sim Try.prog :=
 (.seq (.live [0, 3, 10, 11, 12, 18, 19, 20, 21] (.region 4 [
 ⟨(opBin (some 21) .lss 3 (.tmp 20) (.tmp 19) 3 0 "heap.go:147" #[]).op, none⟩
 ] (by kernel_rfl)))
 (.seq (.cond (.tmp 21)
 .skip
 (.live [0, 10, 11, 12] (.exit 2)))
 (.seq (.block 3 (.seq (.live [0, 3, 6, 10, 11, 12, 18, 19, 20] (.region 5 [
 ⟨(opIndexAddrT (some 22) 23 (.tmp 18) (.tmp 20) 3 1 Try.underlying23 sz3 0 "heap.go:147" #[]).op, none⟩,
 ⟨(opLoadT (.one (.int .i64)) (some 23) 3 (.tmp 22) (.int .i64) Try.underlying3 1 sz3 (by kernel_rfl) 3 "heap.go:147" #[eD 0]).op, none⟩,
 ⟨(opAssign (some 6) (.tmp 23) 3 "heap.go:147" #[eD 1, eP 0, eP 1]).op, none⟩
 ] (by kernel_rfl)))
 (.seq (.live [0, 3, 10, 11, 12, 18, 19, 20, 29] (.region 6 [
 ⟨(opMove (some 24) (.tmp 0) 102 "heap.go:148" #[]).op, none⟩,
 ⟨(opMove (some 25) (.tmp 3) 3 "heap.go:148" #[]).op, none⟩,
 ⟨(opMove (some 26) (.tmp 6) 3 "heap.go:148" #[]).op, none⟩,
 ⟨(opBuild (some 27) 30 #[(.int .i64 0), (.int .i64 0)] [(0, 0, 1, (.tmp 25)), (1, 1, 1, (.tmp 26))] ze30 (by kernel_rfl) 30 "heap.go:148" #[eD 1, eD 2]).op, none⟩,
 ⟨opCallY Y Os (some 28) 24 [(.tmp 27)] #[30] 4 "heap.go:148" #[eD 0, eD 3], none⟩,
 ⟨(opNot (some 29) 4 (.tmp 28) 4 "heap.go:148" #[eD 4]).op, none⟩
 ] (by kernel_rfl)))
 (.cond (.tmp 29)
 (.live [] .ret)
 .skip))))
 (.live [0, 3, 10, 11, 12, 18, 19, 20] (.region 7 [
 ⟨(opBin (some 30) .add 3 (.tmp 20) (.const (Value.int IntKind.i64 1)) 3 3 "heap.go:147" #[]).op, none⟩,
 ⟨(opMove (some 20) (.tmp 30) 3 "heap.go:147" #[eD 0]).op, none⟩
 ] (by kernel_rfl))))))
noncomputable def f74_r0 (Y : YOrc Try.prog) (Os : List (Orc Try.prog)) : Sim Try.prog :=
 (.live [0, 10, 11, 12] (.region 8 [
 ⟨(opBin (some 31) .add 3 (.tmp 12) (.const (Value.int IntKind.i64 1)) 3 3 "heap.go:146" #[]).op, none⟩,
 ⟨(opMove (some 12) (.tmp 31) 3 "heap.go:146" #[eD 0]).op, none⟩
 ] (by kernel_rfl)))
noncomputable def f74_l0 (Y : YOrc Try.prog) (Os : List (Orc Try.prog)) : Sim Try.prog :=
 (.seq (.live [0, 10, 11, 12, 13] (.region 1 [
 ⟨(opBin (some 13) .lss 3 (.tmp 12) (.tmp 11) 3 0 "heap.go:146" #[]).op, none⟩
 ] (by kernel_rfl)))
 (.seq (.cond (.tmp 13)
 .skip
 (.live [] (.exit 0)))
 (.seq (.block 1 (.seq (.live [0, 3, 4, 10, 11, 12] (.region 2 [
 ⟨(opMove (some 14) (.tmp 12) 3 "heap.go:146" #[]).op, none⟩,
 ⟨(opIndexAddrT (some 15) 22 (.tmp 10) (.tmp 12) 34 1 Try.underlying22 sz34 0 "heap.go:146" #[]).op, none⟩,
 ⟨(opLoadT (.one (.ns 1)) (some 16) 34 (.tmp 15) (.slice 5) Try.underlying34 1 sz34 (by kernel_rfl) 34 "heap.go:146" #[eD 1]).op, none⟩,
 ⟨(opAssign (some 3) (.tmp 14) 3 "heap.go:146" #[eD 0, eP 0, eP 1, eP 2]).op, none⟩,
 ⟨(opAssign (some 4) (.tmp 16) 34 "heap.go:146" #[eD 2, eC 3, eP 0, eP 1, eP 2, eP 3]).op, none⟩
 ] (by kernel_rfl)))
 (.seq (.live [0, 3, 10, 11, 12, 18, 19, 20] (.region 3 [
 ⟨(opMove (some 17) (.tmp 4) 34 "heap.go:147" #[]).op, none⟩,
 ⟨(opCallP p75 (some 18) [(.tmp 17)] #[34] 23 "heap.go:147" #[eD 0]).op, none⟩,
 ⟨(opLen (some 19) (.tmp 18) 23 (.slice 3) Try.underlying23 3 "heap.go:147" #[eD 1]).op, none⟩,
 ⟨(opMove (some 20) (.const (Value.int IntKind.i64 0)) 3 "heap.go:147" #[]).op, none⟩
 ] (by kernel_rfl)))
 (.block 2 (.loop [0, 3, 10, 11, 12, 18, 19, 20] (f74_l1 Y Os))))))
 (f74_r0 Y Os))))
noncomputable def f74_b (Y : YOrc Try.prog) (Os : List (Orc Try.prog)) : Sim Try.prog :=
 (.seq (.live [0, 10, 11, 12] (.region 0 [
 ⟨(opLoadT (.one .any) (some 7) 26 (.tmp 1) (.pointer 67) Try.underlying26 1 sz26 (by kernel_rfl) 26 "heap.go:146" #[]).op, none⟩,
 ⟨(opNilCheck (some 8) (.tmp 7) 0 "heap.go:146" #[eD 0]).op, none⟩,
 ⟨(opFieldAddr (some 9) 67 (.tmp 8) 0 0 1 false fl67_0 (by decide) 0 "heap.go:146" #[eD 1]).op, none⟩,
 ⟨(opLoadT (.one .any) (some 10) 22 (.tmp 9) (.slice 34) Try.underlying22 1 sz22 (by kernel_rfl) 22 "heap.go:146" #[eD 2]).op, none⟩,
 ⟨(opLen (some 11) (.tmp 10) 22 (.slice 34) Try.underlying22 3 "heap.go:146" #[eD 3]).op, none⟩,
 ⟨(opMove (some 12) (.const (Value.int IntKind.i64 0)) 3 "heap.go:146" #[]).op, none⟩
 ] (by kernel_rfl)))
 (.block 0 (.loop [0, 10, 11, 12] (f74_l0 Y Os))))
noncomputable def f74 (Y : YOrc Try.prog) (Os : List (Orc Try.prog)) : Fun Try.prog where
 id := 74
 fn := Try.f74
 hf := Try.func74
 hname := by kernel_rfl
 body := f74_b Y Os
 hbody := by kernel_rfl
 res := []
 hres := by kernel_rfl
 n := 32
 hn := by kernel_rfl
theorem clone_run (F : Nat) (z : Bool) (l : List (List AV)) :
 (f43.run F [.ns z 1 l] ⟨[], []⟩ : Ans) =
 branch (.bool z) (some (Fin.ret AV.nilsl, St.mk [] []))
 (onCons l (some (Fin.ret (AV.sl 1 true []), St.mk [] [])) fun (x : List AV) (l : List (List AV)) =>
 if (0 + (x :: l).length) * 1 ≤ 140737488355328 then
 some (Fin.ret (AV.lg 0 1 (x :: l)), St.mk [] [(1, (x :: l).length)])
 else none) := by kernel_rfl
theorem cmp_run (F : Nat) (a b : Int) :
 (f67.run F [.int .i64 a, .int .i64 b] ⟨[], []⟩ : Ans) =
 branch (.bool (a != a))
 (branch (.bool (b != b)) (some (Fin.ret (.int .i64 0), St.mk [] []))
 (some (Fin.ret (.int .i64 (-1 : Int)), St.mk [] [])))
 (branch (.bool (b != b)) (some (Fin.ret (.int .i64 1), St.mk [] []))
 (branch (.bool (decide (a < b))) (some (Fin.ret (.int .i64 (-1 : Int)), St.mk [] []))
 (branch (.bool (decide (a > b))) (some (Fin.ret (.int .i64 1), St.mk [] []))
 (some (Fin.ret (.int .i64 0), St.mk [] []))))) := by kernel_rfl
theorem rows_run (F v n j : Nat) (Y : YOrc Try.prog) (ps : List (List Nat)) (os : List Ob) (k : Fin → St → Ans) :
 ((f74 Y.told []).runK F [.fn (.yield j) [] [], .eptr [.ptr 0 0]] ⟨.cells [.vs 1 v 1 n, .vs 2 v 1 n] :: .vec v (pC ps) :: .vec v (rmC ps) :: os, []⟩ k : Ans) =
 loopRun ((f74_l0 Y.told []).run F) [0, 10, 11, 12]
 (Cont.block 0 ((f74 Y.told []).leaveK k)) F
 (Env.mk 32
 [(0, AV.fn (Fn.yield j) [] []), (10, AV.vs 1 v 1 n),
 (11, .int .i64 (↑n : Int)), (12, .int .i64 0)])
 (St.mk
 (Ob.cells [AV.vs 1 v 1 n, AV.vs 2 v 1 n] ::
 Ob.vec v (pC ps) :: Ob.vec v (rmC ps) :: os)
 []) := by kernel_rfl
theorem rows_nil (F j : Nat) (Y : YOrc Try.prog) (os : List Ob) (k : Fin → St → Ans) :
 ((f74 Y.told []).runK F.succ [.fn (.yield j) [] [], .eptr [.ptr 0 0]] ⟨.cells [.nilsl, .nilsl] :: .nov 0 :: .nov 0 :: os, []⟩ k : Ans) =
 k (Fin.ret (AV.tup [])) (St.mk (Ob.cells [AV.nilsl, AV.nilsl] :: Ob.nov 0 :: Ob.nov 0 :: os) []) := by kernel_rfl
theorem rows_round (F v n i m j : Nat) (Y : YOrc Try.prog) (ps : List (List Nat)) (os : List Ob) (K : Cont) :
 (loopRun ((f74_l0 Y.told []).run F) [0, 10, 11, 12] K m.succ (Env.mk 32 [(0, .fn (.yield j) [] []), (10, .vs 1 v 1 n), (11, .int .i64 (n : Int)), (12, .int .i64 (i : Int))]) ⟨.cells [.vs 1 v 1 n, .vs 2 v 1 n] :: .vec v (pC ps) :: .vec v (rmC ps) :: os, []⟩ : Ans) =
 branch (.bool (decide ((↑i : Int) < (↑n : Int))))
 (if (0 : Int) ≤ (↑i : Int) ∧ (↑i : Int) < (↑n : Int) then
 branch (.bool (v.beq v))
 (branch (.bool ((LD.one (LT.ns 1)).is (List.drop (i * 1) (pC ps))))
 (branch (.bool (byOk (rwA (List.drop (i * 1) (pC ps)))))
 (loopRun ((f74_l1 Y.told []).run F)
 [0, 3, 10, 11, 12, 18, 19, 20]
 (Cont.block 2
 (Cont.block 1
 (Cont.then
 ((f74_r0 Y.told []).run F
 (Cont.then
 (fun (e : Env) (s : St) =>
 Nat.rec (motive := fun (x : Nat) => Env → St → Ans) (fun (x : Env) (x_1 : St) => none)
 (fun (x : Nat) (ih : Env → St → Ans) (env : Env) (st : St) =>
 (f74_l0 Y.told []).run F
 (Cont.then
 (fun (e : Env) (s : St) =>
 ih (Env.norm [0, 10, 11, 12] e) s)
 K)
 env st)
 m (Env.norm [0, 10, 11, 12] e) s)
 K))
 (Cont.then
 (fun (e : Env) (s : St) =>
 Nat.rec (motive := fun (x : Nat) => Env → St → Ans) (fun (x : Env) (x_1 : St) => none)
 (fun (x : Nat) (ih : Env → St → Ans) (env : Env) (st : St) =>
 (f74_l0 Y.told []).run F
 (Cont.then
 (fun (e : Env) (s : St) =>
 ih (Env.norm [0, 10, 11, 12] e) s)
 K)
 env st)
 m (Env.norm [0, 10, 11, 12] e) s)
 K))))
 F
 (Env.mk 32
 [(0, AV.fn (Fn.yield j) [] []), (3, .int .i64 (↑i : Int)),
 (10, AV.vs 1 v 1 n), (11, .int .i64 (↑n : Int)),
 (12, .int .i64 (↑i : Int)),
 (18,
 AV.ns (slotsE (nR (rwA (List.drop (i * 1) (pC ps))))) 1
 (slotsA (nR (rwA (List.drop (i * 1) (pC ps)))))),
 (19,
 .int .i64 (↑(slotsA (nR (rwA (List.drop (i * 1) (pC ps))))).length : Int)),
 (20, .int .i64 0)])
 (St.mk
 (Ob.cells [AV.vs 1 v 1 n, AV.vs 2 v 1 n] ::
 Ob.vec v (pC ps) :: Ob.vec v (rmC ps) :: os)
 []))
 none)
 none)
 none
 else none)
 (K (AX.exit 0) (Env.mk 32 [])
 (St.mk
 (Ob.cells [AV.vs 1 v 1 n, AV.vs 2 v 1 n] ::
 Ob.vec v (pC ps) :: Ob.vec v (rmC ps) :: os)
 [])) := by kernel_rfl
theorem rows_in (F v n i c q m j : Nat) (z : Bool) (l : List (List AV)) (Y : YOrc Try.prog) (st : St) (K : Cont) :
 (loopRun ((f74_l1 Y.told []).run F) [0, 3, 10, 11, 12, 18, 19, 20] K m.succ (Env.mk 32 [(0, .fn (.yield j) [] []), (3, .int .i64 (i : Int)), (10, .vs 1 v 1 n), (11, .int .i64 (n : Int)), (12, .int .i64 (i : Int)), (18, .ns z 1 l), (19, .int .i64 (c : Int)), (20, .int .i64 (q : Int))]) st : Ans) =
 branch (.bool (decide ((↑q : Int) < (↑c : Int))))
 (branch (.bool (inR l (↑q : Int)))
 (branch (.bool ((LD.one (LT.int IntKind.i64)).is (V.rowAt l (↑q : Int))))
 (onSome (Y.step j [AV.agg [.int .i64 (↑i : Int), .int .i64 (hdI (V.rowAt l (↑q : Int)))]] st)
 none fun (o : Bool × St) =>
 branch (.bool !o.fst) (K AX.ret (Env.mk 32 []) o.2)
 (loopRun ((f74_l1 Y.told []).run F)
 [0, 3, 10, 11, 12, 18, 19, 20] K m
 (Env.mk 32
 [(0, AV.fn (Fn.yield j) [] []), (3, .int .i64 (↑i : Int)),
 (10, AV.vs 1 v 1 n), (11, .int .i64 (↑n : Int)),
 (12, .int .i64 (↑i : Int)), (18, AV.ns z 1 l),
 (19, .int .i64 (↑c : Int)),
 (20, .int .i64 (IntKind.i64.wrap ((↑q : Int) + 1)))])
 o.2))
 none)
 none)
 (K (AX.exit 2)
 (Env.mk 32
 [(0, AV.fn (Fn.yield j) [] []), (10, AV.vs 1 v 1 n),
 (11, .int .i64 (↑n : Int)), (12, .int .i64 (↑i : Int))])
 st) := by kernel_rfl
def ridP : List (List Nat) → Nat → List (Nat × Nat)
 | [], _ => []
 | b :: t, i => (slotsI (ofS b) 0).map (fun s => (i, s)) ++ ridP t (i + 1)
def Hp.rids (X : Hp) : List (Nat × Nat) := ridP X.pg_ 0
def ridA (r : Nat × Nat) : AV := .agg [.int .i64 (r.1 : Int), .int .i64 (r.2 : Int)]
theorem slotsA_eq (b : List Nat) : slotsA b = iR (slotsI (ofS b) 0) := by rw [slotsA, opq_eq]
section
variable {Y : YOrc Try.prog} {j : Nat} {I : List (Nat × Nat) → St → Prop} {E : St → Prop}
theorem rows_inner (H1 : ∀ r rs st, I (r :: rs) st → ∃ b st', Y.step j [ridA r] st = some (b, st') ∧ ((b = true ∧ I rs st') ∨ (b = false ∧ E st')))
  (F v n i : Nat) (z : Bool) (ss : List Nat) (hss : ss.length ≤ 1000) (rest : List (Nat × Nat)) : ∀ (d q m : Nat) (st : St), q + d = ss.length → d < m → I ((ss.drop q).map (fun s => (i, s)) ++ rest) st →
  ∃ st', (I rest st' ∧ ∀ K, loopRun ((f74_l1 Y.told []).run F) [0, 3, 10, 11, 12, 18, 19, 20] K m (Env.mk 32 [(0, .fn (.yield j) [] []), (3, .int .i64 (i : Int)), (10, .vs 1 v 1 n), (11, .int .i64 (n : Int)), (12, .int .i64 (i : Int)), (18, .ns z 1 (iR ss)), (19, .int .i64 (ss.length : Int)), (20, .int .i64 (q : Int))]) st
    = K (.exit 2) (Env.mk 32 [(0, .fn (.yield j) [] []), (10, .vs 1 v 1 n), (11, .int .i64 (n : Int)), (12, .int .i64 (i : Int))]) st')
   ∨ (E st' ∧ ∀ K, loopRun ((f74_l1 Y.told []).run F) [0, 3, 10, 11, 12, 18, 19, 20] K m (Env.mk 32 [(0, .fn (.yield j) [] []), (3, .int .i64 (i : Int)), (10, .vs 1 v 1 n), (11, .int .i64 (n : Int)), (12, .int .i64 (i : Int)), (18, .ns z 1 (iR ss)), (19, .int .i64 (ss.length : Int)), (20, .int .i64 (q : Int))]) st
    = K .ret (Env.mk 32 []) st')
 | d, q, 0, _, _, h, _ => by omega
 | 0, q, m + 1, st, hq, _, hI => by
  refine ⟨st, .inl ⟨?_, fun K => ?_⟩⟩
  ·rw [List.drop_eq_nil_of_le (by omega)] at hI; exact hI
  ·rw [show m + 1 = m.succ from rfl, rows_in, branch_not (decide_eq_false (by omega))]
 | d + 1, q, m + 1, st, hq, hm, hI => by
  have hlt : q < ss.length := by omega
  obtain ⟨a1, a2, a3⟩ := iR_at hlt
  rw [List.drop_eq_getElem_cons hlt] at hI
  obtain ⟨b, st', k1, k2⟩ := H1 (i, ss[q]) _ st hI
  have step : ∀ K, loopRun ((f74_l1 Y.told []).run F) [0, 3, 10, 11, 12, 18, 19, 20] K (m + 1) (Env.mk 32 [(0, .fn (.yield j) [] []), (3, .int .i64 (i : Int)), (10, .vs 1 v 1 n), (11, .int .i64 (n : Int)), (12, .int .i64 (i : Int)), (18, .ns z 1 (iR ss)), (19, .int .i64 (ss.length : Int)), (20, .int .i64 (q : Int))]) st = _ := fun K => by
   rw [show m + 1 = m.succ from rfl, rows_in, branch_of (decide_eq_true (by omega)), branch_of a1, branch_of a2, a3,
    show Y.step j [AV.agg [AV.int IntKind.i64 (i : Int), AV.int IntKind.i64 ((ss[q] : Nat) : Int)]] st = some (b, st') from k1, onSome_some, wrap_succ (by omega)]
  rcases k2 with ⟨rfl, k2⟩ | ⟨rfl, k2⟩
  ·obtain ⟨st2, k3⟩ := rows_inner H1 F v n i z ss hss rest d (q + 1) m st' (by omega) (by omega) k2
   refine ⟨st2, k3.imp (fun ⟨x1, x2⟩ => ⟨x1, fun K => ?_⟩) (fun ⟨x1, x2⟩ => ⟨x1, fun K => ?_⟩)⟩
   ·exact (step K).trans ((branch_not rfl).trans (x2 K))
   ·exact (step K).trans ((branch_not rfl).trans (x2 K))
  ·exact ⟨st', .inr ⟨k2, fun K => (step K).trans (branch_of rfl)⟩⟩
theorem rows_outer {X : Hp} (h : X.Ok) {v : Nat} (hv : X.v = v + 1) (H1 : ∀ r rs st, I (r :: rs) st → ∃ b st', Y.step j [ridA r] st = some (b, st') ∧ ((b = true ∧ I rs st') ∨ (b = false ∧ E st')))
  (H2 : ∀ rs st, I rs st → ∃ os, st = ⟨X.obs ++ os, []⟩) (F : Nat) (hF : 1000 ≤ F) : ∀ (d i m : Nat) (st : St), i + d = X.n → d < m → I (ridP (X.pg_.drop i) i) st →
  ∃ st', (I [] st' ∨ E st') ∧ ∀ k, loopRun ((f74_l0 Y.told []).run F) [0, 10, 11, 12] (Cont.block 0 ((f74 Y.told []).leaveK k)) m (Env.mk 32 [(0, .fn (.yield j) [] []), (10, .vs 1 (v + 1) 1 X.n), (11, .int .i64 (X.n : Int)), (12, .int .i64 (i : Int))]) st = k (.ret (.tup [])) st'
 | d, i, 0, _, _, h, _ => by omega
 | 0, i, m + 1, st, hi, _, hI => by
  obtain ⟨os, rfl⟩ := H2 _ _ hI
  have hl := Hp.pg_len h
  obtain ⟨v', ps, n⟩ := X
  simp only at hv hi hl
  subst hv
  refine ⟨⟨(Hp.mk (v + 1) ps n).obs ++ os, []⟩, .inl ?_, fun k => ?_⟩
  ·rw [List.drop_eq_nil_of_le (by omega)] at hI; exact hI
  ·show loopRun ((f74_l0 Y.told []).run F) [0, 10, 11, 12] (Cont.block 0 ((f74 Y.told []).leaveK k)) m.succ (Env.mk 32 [(0, .fn (.yield j) [] []), (10, .vs 1 (v + 1) 1 n), (11, .int .i64 (n : Int)), (12, .int .i64 (i : Int))]) ⟨.cells [.vs 1 (v + 1) 1 n, .vs 2 (v + 1) 1 n] :: .vec (v + 1) (pC ps) :: .vec (v + 1) (rmC ps) :: os, []⟩ = _
   rw [rows_round, branch_not (decide_eq_false (by omega))]
   rfl
 | d + 1, i, m + 1, st, hi, hm, hI => by
  obtain ⟨os, rfl⟩ := H2 _ _ hI
  have hl := Hp.pg_len h
  have hpg := h.pg
  have hn := h.n
  have ih := rows_outer h hv H1 H2 F hF d (i + 1) m
  obtain ⟨v', ps, n⟩ := X
  simp only at hv hi hl hpg hn
  subst hv
  have hip : i < ps.length := by omega
  have hig : i < (Hp.mk (v + 1) ps n).pg_.length := by omega
  obtain ⟨a1, a2, a3⟩ := pC_at hpg hip
  have eg : (Hp.mk (v + 1) ps n).pg_[i] = ps[i] := by simp only [Hp.pg_, List.getElem_take]
  rw [List.drop_eq_getElem_cons hig, ridP, eg] at hI
  obtain ⟨st', hin⟩ := rows_inner H1 F (v + 1) n i (slotsE ps[i]) (slotsI (ofS ps[i]) 0) (by have := slotsI_len (ofS ps[i]) 0; have := len_ofS ps[i]; omega) (ridP (List.drop (i + 1) (Hp.mk (v + 1) ps n).pg_) (i + 1)) (slotsI (ofS ps[i]) 0).length 0 F _ (by omega) (by have := slotsI_len (ofS ps[i]) 0; have := len_ofS ps[i]; omega) hI
  have start : ∀ k, loopRun ((f74_l0 Y.told []).run F) [0, 10, 11, 12] (Cont.block 0 ((f74 Y.told []).leaveK k)) m.succ (Env.mk 32 [(0, .fn (.yield j) [] []), (10, .vs 1 (v + 1) 1 n), (11, .int .i64 (n : Int)), (12, .int .i64 (i : Int))]) ⟨.cells [.vs 1 (v + 1) 1 n, .vs 2 (v + 1) 1 n] :: .vec (v + 1) (pC ps) :: .vec (v + 1) (rmC ps) :: os, []⟩ = _ := fun k => by
   rw [rows_round, branch_of (decide_eq_true (by omega)), if_pos ⟨by omega, by omega⟩, branch_of (Nat.beq_refl _), branch_of a1, a2, branch_of a3, nR_bR, slotsA_eq, iR_length]
  rcases hin with ⟨x1, x2⟩ | ⟨x1, x2⟩
  ·obtain ⟨st2, k3, k4⟩ := ih st' (by show i + 1 + d = n; omega) (by omega) x1
   refine ⟨st2, k3, fun k => (start k).trans ((x2 _).trans (Eq.trans ?_ (k4 k)))⟩
   show loopRun ((f74_l0 Y.told []).run F) [0, 10, 11, 12] (Cont.block 0 ((f74 Y.told []).leaveK k)) m (Env.mk 32 [(0, .fn (.yield j) [] []), (10, .vs 1 (v + 1) 1 n), (11, .int .i64 (n : Int)), (12, .int .i64 (IntKind.i64.wrap ((i : Int) + 1)))]) st' = _
   rw [wrap_succ (by have := h.m; simp only at this; omega)]
  ·exact ⟨st', .inr x1, fun k => (start k).trans ((x2 _).trans rfl)⟩
theorem rows_all {X : Hp} (h : X.Ok) (H1 : ∀ r rs st, I (r :: rs) st → ∃ b st', Y.step j [ridA r] st = some (b, st') ∧ ((b = true ∧ I rs st') ∨ (b = false ∧ E st')))
  (H2 : ∀ rs st, I rs st → ∃ os, st = ⟨X.obs ++ os, []⟩) (F : Nat) (hF : 1000 ≤ F) (st : St) (hI : I X.rids st) :
  ∃ st', (I [] st' ∨ E st') ∧ ∀ k, (f74 Y.told []).runK F [.fn (.yield j) [] [], .eptr [.ptr 0 0]] st k = k (.ret (.tup [])) st' := by
 have hl := Hp.pg_len h
 have hn := h.n
 have hm := h.m
 obtain ⟨v, ps, n⟩ := X
 cases v with
 | zero =>
  obtain ⟨h1, h2⟩ := h.z rfl
  simp only at h1 h2
  subst h1; subst h2
  obtain ⟨os, rfl⟩ := H2 _ _ hI
  obtain ⟨F, rfl⟩ : ∃ F', F = F' + 1 := ⟨F - 1, by omega⟩
  exact ⟨_, .inl hI, fun k => rows_nil F j Y os k⟩
 | succ v =>
  obtain ⟨st', k1, k2⟩ := rows_outer h rfl H1 H2 F hF n 0 F st (by simp) (by simp only at hn hm; omega) hI
  obtain ⟨os, rfl⟩ := H2 _ _ hI
  exact ⟨st', k1, fun k => (rows_run F (v + 1) n j Y ps os k).trans (k2 k)⟩
end
def layR (st : St) (r : Bool × Bool × Nat × List AV) : St :=
 match st.objs with
 | a :: b :: c :: _ :: _ :: l :: _ => match l with
  | .lp _ _ f tm => match r.2.1 with
   | true => match r.1 with
    | true => ⟨[a, b, c, .cells [.nilsl], .nov 0, .lp 2 1 f tm], []⟩
    | false => ⟨[a, b, c, .cells [.nilsl], .nov 0, .lp 0 0 f tm], []⟩
   | false => match r.1 with
    | true => ⟨[a, b, c, .cells [.vs 4 r.2.2.1 2 r.2.2.1], .vec r.2.2.1 r.2.2.2, .lp 2 1 f tm], []⟩
    | false => ⟨[a, b, c, .cells [.vs 4 r.2.2.1 2 r.2.2.1], .vec r.2.2.1 r.2.2.2, .lp 0 0 f tm], []⟩
  | _ => ⟨[], []⟩
 | _ => ⟨[], []⟩
theorem layR_inj {a b c d e : Ob} {s i f : Nat} {tm : List AV} {r q : Bool × Bool × Nat × List AV} (hr : r.2.1 = true → r.2.2 = (0, [])) (hq : q.2.1 = true → q.2.2 = (0, [])) (h : layR ⟨[a, b, c, d, e, .lp s i f tm], []⟩ r = layR ⟨[a, b, c, d, e, .lp s i f tm], []⟩ q) : r = q := by
 obtain ⟨r1, r2, r3, r4⟩ := r
 obtain ⟨q1, q2, q3, q4⟩ := q
 cases r1 <;> cases r2 <;> cases q1 <;> cases q2 <;> simp [layR] at h hr hq ⊢ <;> simp_all
noncomputable def rowsR (Y : YOrc Try.prog) (args : List AV) (st : St) : Option (Bool × Bool × Nat × List AV) :=
 opq (open Classical in if h : ∃ r : Bool × Bool × Nat × List AV, (f74 Y.told []).runK big args st Fun.done = some (.ret (.tup []), layR st r) ∧ (r.2.1 = true → r.2.2 = (0, [])) then some (Classical.choose h) else none)
theorem rowsR_spec {Y : YOrc Try.prog} {args : List AV} {st : St} {r : Bool × Bool × Nat × List AV} (h : rowsR Y args st = some r) : (f74 Y.told []).runK big args st Fun.done = some (.ret (.tup []), layR st r) := by
 rw [rowsR, opq_eq] at h
 split at h
 ·rename_i hh
  cases h
  exact (Classical.choose_spec hh).1
 ·cases h
theorem rowsR_of {Y : YOrc Try.prog} {args : List AV} {a b c d e : Ob} {s i f : Nat} {tm : List AV} {r : Bool × Bool × Nat × List AV} (h : (f74 Y.told []).runK big args ⟨[a, b, c, d, e, .lp s i f tm], []⟩ Fun.done = some (.ret (.tup []), layR ⟨[a, b, c, d, e, .lp s i f tm], []⟩ r)) (hr : r.2.1 = true → r.2.2 = (0, [])) : rowsR Y args ⟨[a, b, c, d, e, .lp s i f tm], []⟩ = some r := by
 have hx : ∃ r : Bool × Bool × Nat × List AV, (f74 Y.told []).runK big args ⟨[a, b, c, d, e, .lp s i f tm], []⟩ Fun.done = some (.ret (.tup []), layR ⟨[a, b, c, d, e, .lp s i f tm], []⟩ r) ∧ (r.2.1 = true → r.2.2 = (0, [])) := ⟨r, h, hr⟩
 rw [rowsR, opq_eq, dif_pos hx]
 have := h.symm.trans (Classical.choose_spec hx).1
 simp only [Option.some.injEq, Prod.mk.injEq, true_and] at this
 rw [← layR_inj hr (Classical.choose_spec hx).2 this]
noncomputable def o74 (Y : YOrc Try.prog) : Orc Try.prog where
 id := 74
 fn := Try.f74
 hf := Try.func74
 hname := by kernel_rfl
 hb := by kernel_rfl
 sem args st k := onSome (rowsR Y args st) none fun r => match r.2.1 with
  | true => match r.1 with
   | true => k (.ret (.tup [])) (layR st (true, true, r.2.2))
   | false => k (.ret (.tup [])) (layR st (false, true, r.2.2))
  | false => match r.1 with
   | true => k (.ret (.tup [])) (layR st (true, false, r.2.2))
   | false => k (.ret (.tup [])) (layR st (false, false, r.2.2))
 sound k args st fin h g w vals hv hs := by
  cases hr : rowsR Y args st with
  | none => rw [hr] at h; cases h
  | some r =>
   rw [hr] at h
   have h : k (.ret (.tup [])) (layR st r) = some fin := by
    obtain ⟨b, e, r⟩ := r
    cases b <;> cases e <;> exact h
   refine ((f74 Y.told []).soundK (rowsR_spec hr) g w vals hv hs).mono ?_
   rintro e w' ⟨r', st2, g', e1, e2⟩
   simp only [Fun.done, Option.some.injEq, Prod.mk.injEq] at e1
   obtain ⟨rfl, rfl⟩ := e1
   exact ⟨_, _, g', h, e2⟩
theorem rowsR_all {Y : YOrc Try.prog} {j : Nat} {I : List (Nat × Nat) → St → Prop} {E : St → Prop} {X : Hp} (h : X.Ok) (H1 : ∀ r rs st, I (r :: rs) st → ∃ b st', Y.step j [ridA r] st = some (b, st') ∧ ((b = true ∧ I rs st') ∨ (b = false ∧ E st')))
  {a b c d e : Ob} {s i f : Nat} {tm : List AV} (H2 : ∀ rs st, I rs st → ∃ os, st = ⟨X.obs ++ os, []⟩) (hI : I X.rids ⟨[a, b, c, d, e, .lp s i f tm], []⟩)
  (H3 : ∀ st, I [] st ∨ E st → ∃ r : Bool × Bool × Nat × List AV, st = layR ⟨[a, b, c, d, e, .lp s i f tm], []⟩ r ∧ (r.2.1 = true → r.2.2 = (0, []))) :
  ∃ r, (I [] (layR ⟨[a, b, c, d, e, .lp s i f tm], []⟩ r) ∨ E (layR ⟨[a, b, c, d, e, .lp s i f tm], []⟩ r)) ∧ (r.2.1 = true → r.2.2 = (0, [])) ∧ rowsR Y [.fn (.yield j) [] [], .eptr [.ptr 0 0]] ⟨[a, b, c, d, e, .lp s i f tm], []⟩ = some r := by
 obtain ⟨st', k1, k2⟩ := rows_all h H1 H2 big (by rw [big_eq]; omega) _ hI
 obtain ⟨r, rfl, hr⟩ := H3 _ k1
 exact ⟨r, k1, hr, rowsR_of (k2 Fun.done) hr⟩
theorem sz40 : (Try.prog.info? 40).map (·.size) = some 1 := by kernel_rfl
theorem by30 : (Try.prog.info? 30).map (·.bytes) = some 16 := by kernel_rfl
theorem el40 : ElemOf Try.prog 40 30 2 16 (.agg #[(.int .i64 0), (.int .i64 0)]) := ⟨Try.underlying40, sz30, by30, ze30, by kernel_rfl, by decide⟩
noncomputable def f42_b : Sim Try.prog :=
 (.seq (.live [1] (.region 0 [
 ⟨(opBoxF (some 1) 26 (.tmp 0) 0 "heap.go:144" #[]).op, none⟩,
 ⟨(opAssign (some 2) (.const Value.nilFunc) 79 "heap.go:144" #[]).op, none⟩
 ] (by kernel_rfl)))
 (.seq (.live [2] (.region 1 [
 ⟨(opMakeFunc (some 3) (Fn.func 74) #[] #[(.tmp 1)] 78 "heap.go:145" #[]).op, none⟩,
 ⟨(opAssign (some 2) (.tmp 3) 79 "heap.go:145" #[eD 0, eP 0]).op, none⟩
 ] (by kernel_rfl)))
 (.live [2] .ret)))
noncomputable def f42 : Fun Try.prog where
 id := 42
 fn := Try.f42
 hf := Try.func42
 hname := by kernel_rfl
 body := f42_b
 hbody := by kernel_rfl
 res := [rTmp 2]
 hres := by kernel_rfl
 n := 4
 hn := by kernel_rfl
noncomputable def f73_a0 : Sim Try.prog :=
 (.live [2, 5] (.items 2 [
 .two (op2Box 5 30 (.agg #[(.int .i64 0), (.int .i64 0)]) ze30 (.tmp 7) (by rfl) 2 sz30 (by kernel_rfl) 13 (by rfl) 0 0 "iter.go:51" "iter.go:51" #[] #[eD 0, eP 0])
 ]))
noncomputable def f73_y0 : Sim Try.prog :=
 (.block 1 (.live [] (.region 3 [
 ⟨(opLoadT (.one .any) (some 8) 40 (.tmp 2) (.slice 30) Try.underlying40 1 sz40 (by kernel_rfl) 40 "iter.go:52" #[]).op, none⟩,
 ⟨(opLoadT (.agg [(.int .i64), (.int .i64)]) (some 9) 30 (.tmp 5) d30 ud30 2 sz30 (by kernel_rfl) 30 "iter.go:52" #[]).op, none⟩,
 ⟨(opBuildSlice (some 10) 40 1 [(0, (.tmp 9))] 30 2 16 (.agg #[(.int .i64 0), (.int .i64 0)]) el40 (by kernel_rfl) (by decide) 40 "iter.go:52" #[eD 1]).op, none⟩,
 ⟨(opAppendR (some (.tmp 2)) 1 (some 11) (.tmp 8) (.tmp 10) 40 40 30 2 16 (.agg #[(.int .i64 0), (.int .i64 0)]) el40 (.slice 30) Try.underlying40 rfl 40 "iter.go:52" #[eD 0, eD 2]).op, none⟩,
 ⟨(opStore none 40 (.tmp 2) (.tmp 11) 1 sz40 0 "iter.go:52" #[eD 3, eC 3, eP 0, eP 1, eP 2, eP 3]).op, none⟩
 ] (by kernel_rfl))))
noncomputable def f73_r0 : Sim Try.prog :=
 (.seq (.live [4] (.region 4 [
 ⟨(opLoadT (.one .any) (some 12) 40 (.tmp 2) (.slice 30) Try.underlying40 1 sz40 (by kernel_rfl) 40 "iter.go:54" #[]).op, none⟩,
 ⟨(opAssignZn (some 4) (.tmp 12) 40 "iter.go:54" #[eD 0, eP 0]).op, none⟩
 ] (by kernel_rfl)))
 (.live [4] .ret))
noncomputable def f73_b : Sim Try.prog :=
 (.seq (.live [1, 2] (.region 0 [
 ⟨(MSim.ph (opBox (some 2) 40 (.tmp 0) 0 "iter.go:50" #[]) 1).op, none⟩,
 ⟨(opAssignZn (some 4) (.const (Value.slice none 0 0)) 40 "iter.go:50" #[]).op, none⟩
 ] (by kernel_rfl)))
 (.seq (.seq (.live [2, 6] (.region 1 [
 ⟨(opMove (some 6) (.tmp 1) 79 "iter.go:51" #[]).op, none⟩
 ] (by kernel_rfl)))
 (.block 0 (.rangeF 73 (.tmp 6) #[7] f73_a0 f73_y0 (fun Y => o74 Y) (by kernel_rfl) (by kernel_rfl) (by kernel_rfl))))
 f73_r0))
noncomputable def f73 : Fun Try.prog where
 id := 73
 fn := Try.f73
 hf := Try.func73
 hname := by kernel_rfl
 body := f73_b
 hbody := by kernel_rfl
 res := [rTmp 4]
 hres := by kernel_rfl
 n := 13
 hn := by kernel_rfl
noncomputable def f41_b : Sim Try.prog :=
 (.seq (.live [0] (.region 0 [
 ⟨(opAssign (some 2) (.const (Value.slice none 0 0)) 40 "iter.go:59" #[]).op, none⟩
 ] (by kernel_rfl)))
 (.seq (.live [2] (.region 1 [
 ⟨(opMove (some 3) (.tmp 0) 79 "iter.go:60" #[]).op, none⟩,
 ⟨opCall (f73.orc 0) (some 4) [(.const (Value.slice none 0 0)), (.tmp 3)] #[40, 79] 40 "iter.go:60" #[eD 0], none⟩,
 ⟨(opAssign (some 2) (.tmp 4) 40 "iter.go:60" #[eD 1, eC 1, eP 0, eP 1]).op, none⟩
 ] (by kernel_rfl)))
 (.live [2] .ret)))
noncomputable def f41 : Fun Try.prog where
 id := 41
 fn := Try.f41
 hf := Try.func41
 hname := by kernel_rfl
 body := f41_b
 hbody := by kernel_rfl
 res := [rTmp 2]
 hres := by kernel_rfl
 n := 5
 hn := by kernel_rfl
noncomputable def f16_b : Sim Try.prog :=
 (.seq (.live [0] (.region 0 [
 ⟨(opAssign (some 2) (.const (Value.slice none 0 0)) 40 "heap.go:157" #[]).op, none⟩
 ] (by kernel_rfl)))
 (.seq (.live [2] (.region 1 [
 ⟨(opMove (some 3) (.tmp 0) 26 "heap.go:157" #[]).op, none⟩,
 ⟨opCall (f42.orc 0) (some 4) [(.tmp 3)] #[26] 79 "heap.go:157" #[eD 0], none⟩,
 ⟨opCall (f41.orc 0) (some 5) [(.tmp 4)] #[79] 40 "heap.go:157" #[eD 1, eC 1], none⟩,
 ⟨(opAssign (some 2) (.tmp 5) 40 "heap.go:157" #[eD 2, eC 2, eP 0, eP 1, eP 2]).op, none⟩
 ] (by kernel_rfl)))
 (.live [2] .ret)))
noncomputable def f16 : Fun Try.prog where
 id := 16
 fn := Try.f16
 hf := Try.func16
 hname := by kernel_rfl
 body := f16_b
 hbody := by kernel_rfl
 res := [rTmp 2]
 hres := by kernel_rfl
 n := 6
 hn := by kernel_rfl
theorem app_body0 (F : Nat) (a b c d e : Ob) (x : AV) (p s : Int) :
 ((rangeY F 73 #[7] f73_a0 f73_y0 (by kernel_rfl) (by kernel_rfl) (by kernel_rfl)).sem 5 [.agg [.int .i64 p, .int .i64 s]] ⟨[a, b, c, .cells [.nilsl], .nov 0, .lp 0 0 73 [.dead, .dead, .ptr 3 0, .dead, .dead, .dead, x, .dead, .dead, .dead, .dead, .dead, .dead]], []⟩ Fun.done : Ans) =
 branch (.bool (apOk 1 16))
 (some
 (Fin.ret (.bool true),
 St.mk
 [a, b, c, Ob.cells [AV.vs 4 1 2 1],
 Ob.vec 1 (catC [] 0 [[.int .i64 p, .int .i64 s]]),
 Ob.lp 0 0 73
 [AV.dead, AV.dead, AV.ptr 3 0, AV.dead, AV.dead, AV.dead, x, AV.dead, AV.dead, AV.dead,
 AV.dead, AV.dead, AV.dead]]
 []))
 none := by kernel_rfl
theorem app_body (F v n : Nat) (cs : List AV) (a b c d e : Ob) (x : AV) (p s : Int) :
 ((rangeY F 73 #[7] f73_a0 f73_y0 (by kernel_rfl) (by kernel_rfl) (by kernel_rfl)).sem 5 [.agg [.int .i64 p, .int .i64 s]] ⟨[a, b, c, .cells [.vs 4 v 2 n], .vec v cs, .lp 0 0 73 [.dead, .dead, .ptr 3 0, .dead, .dead, .dead, x, .dead, .dead, .dead, .dead, .dead, .dead]], []⟩ Fun.done : Ans) =
 branch (.bool (v.beq v && (inC cs 0 (mulN n 2) && apOk (n + 1) 16)))
 (some
 (Fin.ret (.bool true),
 St.mk
 [a, b, c, Ob.cells [AV.vs 4 (v + 1) 2 (n + 1)],
 Ob.vec (v + 1) (catC cs (mulN n 2) [[.int .i64 p, .int .i64 s]]),
 Ob.lp 0 0 73
 [AV.dead, AV.dead, AV.ptr 3 0, AV.dead, AV.dead, AV.dead, x, AV.dead, AV.dead, AV.dead,
 AV.dead, AV.dead, AV.dead]]
 []))
 none := by kernel_rfl
theorem all_run (F : Nat) (a b c : Ob) :
 (f16.run F [.ptr 0 0] ⟨[a, b, c], []⟩ : Ans) =
 onSome
 (rowsR (rangeY 0 73 #[(7 : Tmp)] f73_a0 f73_y0 (by kernel_rfl) (Eq.refl true) (Eq.refl true))
 [AV.fn (Fn.yield 5) [] [], AV.eptr [AV.ptr 0 0]]
 (St.mk
 [a, b, c, Ob.cells [AV.nilsl], Ob.nov 0,
 Ob.lp 0 0 73
 [AV.dead, AV.dead, AV.ptr 3 0, AV.dead, AV.dead, AV.dead,
 AV.fn (Fn.func (74 : FuncId)) [] [AV.eptr [AV.ptr 0 0]], AV.dead, AV.dead, AV.dead, AV.dead,
 AV.dead, AV.dead]]
 []))
 none fun (o : Bool × Bool × Nat × List AV) =>
 branch (.bool o.2.fst)
 (branch (.bool o.fst)
 (some (Fin.ret AV.nilsl, St.mk [a, b, c, Ob.cells [AV.nilsl], Ob.nov 0, Ob.gone] []))
 (some (Fin.ret AV.nilsl, St.mk [a, b, c, Ob.cells [AV.nilsl], Ob.nov 0, Ob.gone] [])))
 (branch (.bool o.fst)
 (branch (.bool (o.snd.2.fst.beq o.snd.2.fst && inC o.snd.2.snd 0 (mulN o.snd.2.fst 2)))
 (some
 (Fin.ret (AV.ns false 2 (rowsC 2 o.snd.2.fst o.snd.2.snd 0)),
 St.mk
 [a, b, c, Ob.cells [AV.vs 4 o.snd.2.fst 2 o.snd.2.fst], Ob.nov (o.snd.2.fst + 1),
 Ob.gone]
 []))
 none)
 (branch (.bool (o.snd.2.fst.beq o.snd.2.fst && inC o.snd.2.snd 0 (mulN o.snd.2.fst 2)))
 (some
 (Fin.ret (AV.ns false 2 (rowsC 2 o.snd.2.fst o.snd.2.snd 0)),
 St.mk
 [a, b, c, Ob.cells [AV.vs 4 o.snd.2.fst 2 o.snd.2.fst], Ob.nov (o.snd.2.fst + 1),
 Ob.gone]
 []))
 none)) := by kernel_rfl
theorem list_run (F : Nat) (z y : Bool) (l b : List (List AV)) (st : St) :
 (f18.run F [.ns z 1 l, .ns y 1 b] st : Ans) =
 branch (.bool ((↑l.length : Int) != (↑b.length : Int))) (some (Fin.ret (.bool false), st))
 (loopRun (f18_l0.run F) [0, 1, 5]
 (Cont.block 0 (Cont.then (f18_r0.run F (f18.leaveK Fun.done)) (f18.leaveK Fun.done))) F
 (Env.mk 27
 [(0, AV.ns z 1 l), (1, AV.ns y 1 b), (5, .int .i64 0)])
 st) := by kernel_rfl
theorem list_round (F m i : Nat) (z y : Bool) (l b : List (List AV)) (st : St) (K : Cont) :
 (loopRun (f18_l0.run F) [0, 1, 5] K m.succ (Env.mk 27 [(0, .ns z 1 l), (1, .ns y 1 b), (5, .int .i64 (i : Int))]) st : Ans) =
 branch (.bool (decide ((↑i : Int) < (↑l.length : Int))))
 (branch (.bool (inR l (↑i : Int)))
 (branch (.bool ((LD.one (LT.ns 1)).is (V.rowAt l (↑i : Int))))
 (branch (.bool (inR b (↑i : Int)))
 (branch (.bool ((LD.one (LT.ns 1)).is (V.rowAt b (↑i : Int))))
 (branch (.bool (byOk (rwA (V.rowAt l (↑i : Int))) && byOk (rwA (V.rowAt b (↑i : Int)))))
 (branch (.bool !nR (rwA (V.rowAt l (↑i : Int))) == nR (rwA (V.rowAt b (↑i : Int))))
 (K AX.ret (Env.mk 27 [(4, AV.bool false)]) st)
 (loopRun (f18_l0.run F) [0, 1, 5] K m
 (Env.mk 27
 [(0, AV.ns z 1 l), (1, AV.ns y 1 b),
 (5, .int .i64 (IntKind.i64.wrap ((↑i : Int) + 1)))])
 st))
 none)
 none)
 none)
 none)
 none)
 (K (AX.exit 0) (Env.mk 27 []) st) := by kernel_rfl
theorem rids_run (F : Nat) (z y : Bool) (l b : List (List AV)) (st : St) :
 (f29.run F [.ns z 2 l, .ns y 2 b] st : Ans) =
 branch (.bool ((↑l.length : Int) != (↑b.length : Int))) (some (Fin.ret (.bool false), st))
 (loopRun (f29_l0.run F) [0, 1, 5]
 (Cont.block 0 (Cont.then (f29_r0.run F (f29.leaveK Fun.done)) (f29.leaveK Fun.done))) F
 (Env.mk 26
 [(0, AV.ns z 2 l), (1, AV.ns y 2 b), (5, .int .i64 0)])
 st) := by kernel_rfl
theorem rids_round (F m i : Nat) (z y : Bool) (l b : List (List AV)) (st : St) (K : Cont) :
 (loopRun (f29_l0.run F) [0, 1, 5] K m.succ (Env.mk 26 [(0, .ns z 2 l), (1, .ns y 2 b), (5, .int .i64 (i : Int))]) st : Ans) =
 branch (.bool (decide ((↑i : Int) < (↑l.length : Int))))
 (branch (.bool (inR l (↑i : Int)))
 (branch (.bool ((LD.agg [LT.int IntKind.i64, LT.int IntKind.i64]).is (V.rowAt l (↑i : Int))))
 (branch (.bool (inR b (↑i : Int)))
 (branch (.bool ((LD.agg [LT.int IntKind.i64, LT.int IntKind.i64]).is (V.rowAt b (↑i : Int))))
 (branch
 (AV.bool
 !(hdI (V.rowAt l (↑i : Int)) == hdI (V.rowAt b (↑i : Int)) &&
 (hdI (V.rowAt l (↑i : Int)).tail == hdI (V.rowAt b (↑i : Int)).tail && true)))
 (K AX.ret (Env.mk 26 [(4, AV.bool false)]) st)
 (loopRun (f29_l0.run F) [0, 1, 5] K m
 (Env.mk 26
 [(0, AV.ns z 2 l), (1, AV.ns y 2 b),
 (5, .int .i64 (IntKind.i64.wrap ((↑i : Int) + 1)))])
 st))
 none)
 none)
 none)
 none)
 (K (AX.exit 0) (Env.mk 26 []) st) := by kernel_rfl
theorem great_run (F : Nat) (z : Bool) (l : List (List AV)) (st : St) :
 (f20.run F [.ns z 5 l] st : Ans) =
 branch (.bool (decide ((↑l.length : Int) > 80))) (some (Fin.ret (.bool true), st))
 (loopRun (f20_l0.run F) [0, 3, 4]
 (Cont.block 0 (Cont.then (f20_r0.run F (f20.leaveK Fun.done)) (f20.leaveK Fun.done))) F
 (Env.mk 24
 [(0, AV.ns z 5 l), (3, .int .i64 0),
 (4, .int .i64 0)])
 st) := by kernel_rfl
theorem great_round (F m i : Nat) (n : Int) (z : Bool) (l : List (List AV)) (st : St) (K : Cont) :
 (loopRun (f20_l0.run F) [0, 3, 4] K m.succ (Env.mk 24 [(0, .ns z 5 l), (3, .int .i64 n), (4, .int .i64 (i : Int))]) st : Ans) =
 branch (.bool (decide ((↑i : Int) < (↑l.length : Int))))
 (branch (.bool (inR l (↑i : Int)))
 (branch (.bool ((LD.one (LT.ns 1)).is (List.drop 4 (V.rowAt l (↑i : Int)))))
 (branch
 (AV.bool
 (decide
 (IntKind.i64.wrap (n + (↑(rwA (List.drop 4 (V.rowAt l (↑i : Int)))).length : Int)) >
 (20000 : Int))))
 (K AX.ret (Env.mk 24 [(2, AV.bool true)]) st)
 (loopRun (f20_l0.run F) [0, 3, 4] K m
 (Env.mk 24
 [(0, AV.ns z 5 l),
 (3,
 AV.int IntKind.i64
 (IntKind.i64.wrap (n + (↑(rwA (List.drop 4 (V.rowAt l (↑i : Int)))).length : Int)))),
 (4, .int .i64 (IntKind.i64.wrap ((↑i : Int) + 1)))])
 st))
 none)
 none)
 (K (AX.exit 0) (Env.mk 24 []) st) := by kernel_rfl
theorem or_run (F : Nat) (z : Bool) (a b : Int) (st : St) :
 (f66.run F.succ.succ.succ [.ns z 1 [[.int .i64 a], [.int .i64 b]]] st : Ans) =
 branch (.bool (a != 0)) (some (Fin.ret (.int .i64 a), st))
 (branch (.bool (b != 0)) (some (Fin.ret (.int .i64 b), st))
 (some (Fin.ret (.int .i64 0), st))) := by kernel_rfl
noncomputable def isB (r : List AV) : Bool := match r with
 | [x] => match x with
  | .ns _ sz d => Nat.beq sz 1 && byOk d
  | _ => false
 | _ => false
theorem isB_spec {r : List AV} (h : isB r = true) : ∃ z d, r = [.ns z 1 d] ∧ byOk d = true := by
 unfold isB at h
 split at h
 ·split at h
  ·rw [Bool.and_eq_true] at h
   obtain rfl := Nat.eq_of_beq_eq_true h.1
   exact ⟨_, _, rfl, h.2⟩
  ·cases h
 ·cases h
noncomputable def okBs (l : List (List AV)) : Bool := opq (l.all isB && decide (l.length < 4611686018427387904))
theorem okBs_iff {l : List (List AV)} : okBs l = true ↔ (∀ r ∈ l, isB r = true) ∧ l.length < 4611686018427387904 := by
 rw [okBs, opq_eq, Bool.and_eq_true, List.all_eq_true, decide_eq_true_eq]
theorem okBs_scoped {n m : Nat} : ∀ {l : List (List AV)}, (∀ r ∈ l, isB r = true) → ScopedR n m l
 | [], _ => trivial
 | r :: l, h => by
  obtain ⟨z, d, rfl, hd⟩ := isB_spec (h r (by simp))
  exact ⟨⟨okR_scoped (byOk_iff.mp hd).1, trivial⟩, okBs_scoped fun x hx => h x (by simp [hx])⟩
def bsR (l : List (List AV)) : List (List Nat) := l.map fun r => nR (rwA r)
theorem isB_at {l : List (List AV)} (h : ∀ r ∈ l, isB r = true) {i : Nat} (hi : i < l.length) : inR l (i : Int) = true ∧ (LD.one (LT.ns 1)).is (V.rowAt l (i : Int)) = true ∧ byOk (rwA (V.rowAt l (i : Int))) = true ∧ V.rowAt l (i : Int) = l[i] := by
 obtain ⟨z, d, hr, hd⟩ := isB_spec (h _ (List.getElem_mem hi))
 rw [rowAt_nat hi, hr]
 exact ⟨inR_nat hi, rfl, hd, rfl⟩
noncomputable def p43 : POrc Try.prog := f43.farW
 (fun args k => match args with
  | [x] => onNs 1 x fun z l => ifT (!z && (byOk l && apOk l.length 1)) (k (.ns false 1 l))
  | _ => none)
 fun args k fin h => by
  split at h
  ·rename_i x
   obtain ⟨z, l, g1, hx⟩ := onNs_spec h
   obtain ⟨h1, g2⟩ := ifT_spec g1
   simp only [Bool.and_eq_true, Bool.not_eq_true'] at h1
   obtain ⟨rfl, h2, h3⟩ := h1
   have hsc := okR_scoped (n := 0) (m := 0) (byOk_iff.mp h2).1
   cases l with
   | nil => exact ⟨_, _, g2, .cons hx .nil, ⟨hsc, trivial⟩, 0, .sl 1 true [], ⟨[], []⟩, by rw [clone_run]; rfl, trivial, .sl⟩
   | cons y l =>
    refine ⟨_, _, g2, .cons hx .nil, ⟨hsc, trivial⟩, 0, .lg 0 1 (y :: l), ⟨[], [(1, (y :: l).length)]⟩, ?_, ?_, ?_⟩
    ·rw [clone_run, branch_not rfl, onCons_cons, if_pos]
     rw [apOk_iff] at h3; omega
    ·simp only [hard]; rw [hardR_id _ _ hsc]; exact hsc
    ·simp only [hard]; rw [hardR_id _ _ hsc]; exact .sl
  ·cases h
theorem list_loop (F : Nat) (z y : Bool) (l b : List (List AV)) (hl : ∀ r ∈ l, isB r = true) (hb : ∀ r ∈ b, isB r = true) (hn : l.length < 4611686018427387904) (he : l.length = b.length) (st : St) : ∀ (d i m : Nat), i + d = l.length → d < m →
  loopRun (f18_l0.run F) [0, 1, 5] (Cont.block 0 (Cont.then (f18_r0.run F (f18.leaveK Fun.done)) (f18.leaveK Fun.done))) m (Env.mk 27 [(0, .ns z 1 l), (1, .ns y 1 b), (5, .int .i64 (i : Int))]) st
   = some (.ret (.bool (bsR (l.drop i) == bsR (b.drop i))), st)
 | d, i, 0, _, h => by omega
 | 0, i, m + 1, h, _ => by
  rw [show m + 1 = m.succ from rfl, list_round, branch_not (decide_eq_false (by omega)), List.drop_eq_nil_of_le (by omega), List.drop_eq_nil_of_le (by omega)]; rfl
 | d + 1, i, m + 1, h, hm => by
  have hi : i < l.length := by omega
  have hi' : i < b.length := by omega
  obtain ⟨a1, a2, a3, a4⟩ := isB_at hl hi
  obtain ⟨b1, b2, b3, b4⟩ := isB_at hb hi'
  rw [show m + 1 = m.succ from rfl, list_round, branch_of (decide_eq_true (by omega)), branch_of a1, branch_of a2, branch_of b1, branch_of b2, branch_of (by rw [a3, b3]; rfl), wrap_succ (by omega), a4, b4, List.drop_eq_getElem_cons hi, List.drop_eq_getElem_cons hi',
   list_loop F z y l b hl hb hn he st d (i + 1) m (by omega) (by omega)]
  simp only [bsR, List.map_cons, List.cons_beq_cons]
  cases nR (rwA l[i]) == nR (rwA b[i]) <;> rfl
noncomputable def p18 : POrc Try.prog := f18.farN
 (fun args k => match args with
  | [x, y] => onNs 1 x fun _ l => onNs 1 y fun _ b => ifT (okBs l && okBs b) (k (.bool (bsR l == bsR b)))
  | _ => none)
 fun args k fin h => by
  split at h
  ·rename_i x y
   obtain ⟨z, l, h, hx⟩ := onNs_spec h
   obtain ⟨z', b, h, hy⟩ := onNs_spec h
   obtain ⟨h1, h⟩ := ifT_spec h
   rw [Bool.and_eq_true] at h1
   obtain ⟨l1, l2⟩ := okBs_iff.mp h1.1
   obtain ⟨b1, b2⟩ := okBs_iff.mp h1.2
   refine ⟨_, _, h, .cons hx (.cons hy .nil), ⟨okBs_scoped l1, okBs_scoped b1, trivial⟩, trivial, l.length + 1, .bool _, ⟨[], []⟩, rfl, ?_⟩
   rw [list_run]
   by_cases hc : l.length = b.length
   ·rw [branch_not (by simp [hc])]
    exact list_loop _ z z' l b l1 b1 l2 hc _ l.length 0 _ (by omega) (by omega)
   ·rw [branch_of (by simp; omega)]
    have : (bsR l == bsR b) = false := by
     rw [beq_eq_false_iff_ne]; intro e
     have := congrArg List.length e
     simp only [bsR, List.length_map] at this
     exact hc this
    rw [this]
  ·cases h
def isP (r : List AV) : Bool := match r with
 | [x, y] => match x with
  | .int a _ => match y with
   | .int b _ => decide (a = .i64) && decide (b = .i64)
   | _ => false
  | _ => false
 | _ => false
theorem isP_spec {r : List AV} (h : isP r = true) : ∃ a b, r = [.int .i64 a, .int .i64 b] := by
 unfold isP at h
 split at h
 ·split at h
  ·split at h
   ·simp only [Bool.and_eq_true, decide_eq_true_eq] at h
    obtain ⟨rfl, rfl⟩ := h
    exact ⟨_, _, rfl⟩
   ·cases h
  ·cases h
 ·cases h
noncomputable def okPs (l : List (List AV)) : Bool := opq (l.all isP && decide (l.length < 4611686018427387904))
theorem okPs_iff {l : List (List AV)} : okPs l = true ↔ (∀ r ∈ l, isP r = true) ∧ l.length < 4611686018427387904 := by
 rw [okPs, opq_eq, Bool.and_eq_true, List.all_eq_true, decide_eq_true_eq]
theorem okPs_scoped {n m : Nat} : ∀ {l : List (List AV)}, (∀ r ∈ l, isP r = true) → ScopedR n m l
 | [], _ => trivial
 | r :: l, h => by
  obtain ⟨a, b, rfl⟩ := isP_spec (h r (by simp))
  exact ⟨⟨trivial, trivial, trivial⟩, okPs_scoped fun x hx => h x (by simp [hx])⟩
def psR (l : List (List AV)) : List (Int × Int) := l.map fun r => (hdI r, hdI r.tail)
theorem isP_at {l : List (List AV)} (h : ∀ r ∈ l, isP r = true) {i : Nat} (hi : i < l.length) : inR l (i : Int) = true ∧ (LD.agg [LT.int IntKind.i64, LT.int IntKind.i64]).is (V.rowAt l (i : Int)) = true ∧ V.rowAt l (i : Int) = l[i] := by
 obtain ⟨a, b, hr⟩ := isP_spec (h _ (List.getElem_mem hi))
 rw [rowAt_nat hi, hr]
 exact ⟨inR_nat hi, rfl, rfl⟩
theorem rids_loop (F : Nat) (z y : Bool) (l b : List (List AV)) (hl : ∀ r ∈ l, isP r = true) (hb : ∀ r ∈ b, isP r = true) (hn : l.length < 4611686018427387904) (he : l.length = b.length) (st : St) : ∀ (d i m : Nat), i + d = l.length → d < m →
  loopRun (f29_l0.run F) [0, 1, 5] (Cont.block 0 (Cont.then (f29_r0.run F (f29.leaveK Fun.done)) (f29.leaveK Fun.done))) m (Env.mk 26 [(0, .ns z 2 l), (1, .ns y 2 b), (5, .int .i64 (i : Int))]) st
   = some (.ret (.bool (psR (l.drop i) == psR (b.drop i))), st)
 | d, i, 0, _, h => by omega
 | 0, i, m + 1, h, _ => by
  rw [show m + 1 = m.succ from rfl, rids_round, branch_not (decide_eq_false (by omega)), List.drop_eq_nil_of_le (by omega), List.drop_eq_nil_of_le (by omega)]; rfl
 | d + 1, i, m + 1, h, hm => by
  have hi : i < l.length := by omega
  have hi' : i < b.length := by omega
  obtain ⟨a1, a2, a4⟩ := isP_at hl hi
  obtain ⟨b1, b2, b4⟩ := isP_at hb hi'
  rw [show m + 1 = m.succ from rfl, rids_round, branch_of (decide_eq_true (by omega)), branch_of a1, branch_of a2, branch_of b1, branch_of b2, wrap_succ (by omega), a4, b4, List.drop_eq_getElem_cons hi, List.drop_eq_getElem_cons hi',
   rids_loop F z y l b hl hb hn he st d (i + 1) m (by omega) (by omega)]
  simp only [psR, List.map_cons, List.cons_beq_cons, Bool.and_true]
  rw [show ((hdI l[i], hdI l[i].tail) == (hdI b[i], hdI b[i].tail)) = (hdI l[i] == hdI b[i] && hdI l[i].tail == hdI b[i].tail) from rfl]
  cases (hdI l[i] == hdI b[i] && hdI l[i].tail == hdI b[i].tail) <;> rfl
noncomputable def p29 : POrc Try.prog := f29.farN
 (fun args k => match args with
  | [x, y] => onNs 2 x fun _ l => onNs 2 y fun _ b => ifT (okPs l && okPs b) (k (.bool (psR l == psR b)))
  | _ => none)
 fun args k fin h => by
  split at h
  ·rename_i x y
   obtain ⟨z, l, h, hx⟩ := onNs_spec h
   obtain ⟨z', b, h, hy⟩ := onNs_spec h
   obtain ⟨h1, h⟩ := ifT_spec h
   rw [Bool.and_eq_true] at h1
   obtain ⟨l1, l2⟩ := okPs_iff.mp h1.1
   obtain ⟨b1, b2⟩ := okPs_iff.mp h1.2
   refine ⟨_, _, h, .cons hx (.cons hy .nil), ⟨okPs_scoped l1, okPs_scoped b1, trivial⟩, trivial, l.length + 1, .bool _, ⟨[], []⟩, rfl, ?_⟩
   rw [rids_run]
   by_cases hc : l.length = b.length
   ·rw [branch_not (by simp [hc])]
    exact rids_loop _ z z' l b l1 b1 l2 hc _ l.length 0 _ (by omega) (by omega)
   ·rw [branch_of (by simp; omega)]
    have : (psR l == psR b) = false := by
     rw [beq_eq_false_iff_ne]; intro e
     have := congrArg List.length e
     simp only [psR, List.length_map] at this
     exact hc this
    rw [this]
  ·cases h
theorem p29_nat : p29.Nat := by
 intro args k
 show (match args with | [x, y] => _ | _ => _) = thenA (match args with | [x, y] => _ | _ => _) k
 split
 ·exact onNs_nat fun _ _ => onNs_nat fun _ _ => ifT_nat rfl
 ·rfl
noncomputable def isC (r : List AV) : Bool := match r with
 | [x, y, p, s, b] => match x with
  | .int a _ => match y with
   | .int c _ => match p with
    | .int d _ => match s with
     | .int e _ => match b with
      | .ns _ sz l => decide (a = .i64 ∧ c = .i64 ∧ d = .i64 ∧ e = .i64) && (Nat.beq sz 1 && byOk l)
      | _ => false
     | _ => false
    | _ => false
   | _ => false
  | _ => false
 | _ => false
theorem isC_spec {r : List AV} (h : isC r = true) : ∃ a c p s z d, r = [.int .i64 a, .int .i64 c, .int .i64 p, .int .i64 s, .ns z 1 d] ∧ byOk d = true := by
 unfold isC at h
 split at h
 ·split at h
  ·split at h
   ·split at h
    ·split at h
     ·split at h
      ·simp only [Bool.and_eq_true, decide_eq_true_eq] at h
       obtain ⟨⟨rfl, rfl, rfl, rfl⟩, h2, h3⟩ := h
       obtain rfl := Nat.eq_of_beq_eq_true h2
       exact ⟨_, _, _, _, _, _, rfl, h3⟩
      ·cases h
     ·cases h
    ·cases h
   ·cases h
  ·cases h
 ·cases h
noncomputable def okCs (l : List (List AV)) : Bool := opq (l.all isC && decide (l.length < 4611686018427387904))
theorem okCs_iff {l : List (List AV)} : okCs l = true ↔ (∀ r ∈ l, isC r = true) ∧ l.length < 4611686018427387904 := by
 rw [okCs, opq_eq, Bool.and_eq_true, List.all_eq_true, decide_eq_true_eq]
theorem okCs_scoped {n m : Nat} : ∀ {l : List (List AV)}, (∀ r ∈ l, isC r = true) → ScopedR n m l
 | [], _ => trivial
 | r :: l, h => by
  obtain ⟨a, c, p, s, z, d, rfl, hd⟩ := isC_spec (h r (by simp))
  exact ⟨⟨trivial, trivial, trivial, trivial, okR_scoped (byOk_iff.mp hd).1, trivial⟩, okCs_scoped fun x hx => h x (by simp [hx])⟩
def cB (r : List AV) : List (List AV) := rwA (List.drop 4 r)
def greatI : List (List AV) → Int → Bool
 | [], _ => false
 | r :: t, n => if IntKind.i64.wrap (n + ((cB r).length : Int)) > 20000 then true else greatI t (IntKind.i64.wrap (n + ((cB r).length : Int)))
noncomputable def greatV (l : List (List AV)) : Bool := opq (if (l.length : Int) > 80 then true else greatI l 0)
theorem great_loop (F : Nat) (z : Bool) (l : List (List AV)) (hl : ∀ r ∈ l, isC r = true) (hn : l.length < 4611686018427387904) (st : St) : ∀ (d i m : Nat) (n : Int), i + d = l.length → d < m →
  loopRun (f20_l0.run F) [0, 3, 4] (Cont.block 0 (Cont.then (f20_r0.run F (f20.leaveK Fun.done)) (f20.leaveK Fun.done))) m (Env.mk 24 [(0, .ns z 5 l), (3, .int .i64 n), (4, .int .i64 (i : Int))]) st
   = some (.ret (.bool (greatI (l.drop i) n)), st)
 | d, i, 0, n, _, h => by omega
 | 0, i, m + 1, n, h, _ => by
  rw [show m + 1 = m.succ from rfl, great_round, branch_not (decide_eq_false (by omega)), List.drop_eq_nil_of_le (by omega)]; rfl
 | d + 1, i, m + 1, n, h, hm => by
  have hi : i < l.length := by omega
  obtain ⟨a, c, p, s, z', dd, hr, hd⟩ := isC_spec (hl _ (List.getElem_mem hi))
  rw [show m + 1 = m.succ from rfl, great_round, branch_of (decide_eq_true (by omega)), branch_of (inR_nat hi), rowAt_nat hi, branch_of (by rw [hr]; rfl), wrap_succ (by omega), List.drop_eq_getElem_cons hi, greatI]
  by_cases hc : IntKind.i64.wrap (n + ((cB l[i]).length : Int)) > 20000
  ·rw [if_pos hc]
   exact branch_of (decide_eq_true hc)
  ·rw [if_neg hc]
   exact (branch_not (decide_eq_false hc)).trans (great_loop F z l hl hn st d (i + 1) m _ (by omega) (by omega))
theorem greatI_lt : ∀ {l : List (List AV)} {n : Int}, (∀ r ∈ l, isC r = true) → 0 ≤ n → n ≤ 20000 → greatI l n = false → ∀ r ∈ l, (cB r).length ≤ 20000
 | r :: l, n, hl, h0, hn, h, r', hr' => by
  have hlt : (cB r).length < 4611686018427387904 := by
   obtain ⟨a, c, p, s, z, d, rfl, hd⟩ := isC_spec (hl r (by simp))
   exact (byOk_iff.mp hd).2
  rw [greatI, wrapS (by omega) (by omega)] at h
  split at h
  ·cases h
  ·rename_i hc
   rcases List.mem_cons.mp hr' with rfl | hr'
   ·omega
   ·exact greatI_lt (fun x hx => hl x (by simp [hx])) (by omega) (by omega) h r' hr'
theorem greatV_lt {l : List (List AV)} (hl : ∀ r ∈ l, isC r = true) (h : greatV l = false) : l.length ≤ 80 ∧ ∀ r ∈ l, (cB r).length ≤ 20000 := by
 rw [greatV, opq_eq] at h
 split at h
 ·cases h
 ·rename_i hc
  exact ⟨by omega, greatI_lt hl (by omega) (by omega) h⟩
noncomputable def p20 : POrc Try.prog := f20.farN
 (fun args k => match args with
  | [x] => onNs 5 x fun _ l => ifT (okCs l) (k (.bool (greatV l)))
  | _ => none)
 fun args k fin h => by
  split at h
  ·rename_i x
   obtain ⟨z, l, h, hx⟩ := onNs_spec h
   obtain ⟨h1, h⟩ := ifT_spec h
   obtain ⟨l1, l2⟩ := okCs_iff.mp h1
   refine ⟨_, _, h, .cons hx .nil, ⟨okCs_scoped l1, trivial⟩, trivial, l.length + 1, .bool _, ⟨[], []⟩, rfl, ?_⟩
   rw [great_run, greatV, opq_eq]
   by_cases hc : (l.length : Int) > 80
   ·rw [branch_of (decide_eq_true hc), if_pos hc]
   ·rw [branch_not (decide_eq_false hc), if_neg hc]
    exact great_loop _ z l l1 l2 _ l.length 0 _ 0 (by omega) (by omega)
  ·cases h
noncomputable def cmpV (a b : Int) : Int := opq (if a < b then -1 else if a > b then 1 else 0)
noncomputable def p67 : POrc Try.prog := f67.farN
 (fun args k => match args with
  | [x, y] => onInt x fun kd a => onInt y fun kd' b => ifT (decide (kd = .i64 ∧ kd' = .i64)) (k (.int .i64 (cmpV a b)))
  | _ => none)
 fun args k fin h => by
  split at h
  ·rename_i x y
   obtain ⟨kd, a, g1, rfl⟩ := onInt_spec h
   obtain ⟨kd', b, g2, rfl⟩ := onInt_spec g1
   obtain ⟨h1, g3⟩ := ifT_spec g2
   rw [decide_eq_true_eq] at h1
   obtain ⟨rfl, rfl⟩ := h1
   refine ⟨_, _, g3, .cons (.refl _) (.cons (.refl _) .nil), ⟨trivial, trivial, trivial⟩, trivial, 0, .int .i64 _, ⟨[], []⟩, rfl, ?_⟩
   rw [cmp_run, branch_not (by simp), branch_not (by simp), cmpV, opq_eq]
   by_cases h1 : a < b
   ·rw [branch_of (decide_eq_true h1), if_pos h1]
   ·rw [branch_not (decide_eq_false h1), if_neg h1]
    by_cases h2 : a > b
    ·rw [branch_of (decide_eq_true h2), if_pos h2]
    ·rw [branch_not (decide_eq_false h2), if_neg h2]
  ·cases h
theorem p67_nat : p67.Nat := by
 intro args k
 show (match args with | [x, y] => _ | _ => _) = thenA (match args with | [x, y] => _ | _ => _) k
 split
 ·exact onInt_nat fun _ _ => onInt_nat fun _ _ => ifT_nat rfl
 ·rfl
noncomputable def orV (a b : Int) : Int := opq (if a = 0 then b else a)
noncomputable def onTwo (l : List (List AV)) (k : Int → Int → Ans) : Ans :=
 match l with
 | x :: r => match r with
  | y :: t => match t with
   | [] => ifT (isI x && isI y) (k (hdI x) (hdI y))
   | _ => none
  | _ => none
 | _ => none
theorem onTwo_spec {l : List (List AV)} {k : Int → Int → Ans} {fin : Fin × St} (h : onTwo l k = some fin) : ∃ a b, l = [[.int .i64 a], [.int .i64 b]] ∧ k a b = some fin := by
 unfold onTwo at h
 split at h
 ·split at h
  ·split at h
   ·obtain ⟨h1, h2⟩ := ifT_spec h
    rw [Bool.and_eq_true] at h1
    exact ⟨_, _, by rw [← isI_spec h1.1, ← isI_spec h1.2], h2⟩
   ·cases h
  ·cases h
 ·cases h
theorem onTwo_nat {l : List (List AV)} {s s' : Int → Int → Ans} {K : AV → Ans} (h : ∀ a b, s a b = thenA (s' a b) K) : onTwo l s = thenA (onTwo l s') K := by
 unfold onTwo
 split
 ·split
  ·split
   ·exact ifT_nat (h _ _)
   ·rfl
  ·rfl
 ·rfl
noncomputable def p66 : POrc Try.prog := f66.farN
 (fun args k => match args with
  | [x] => onNs 1 x fun _ l => onTwo l fun a b => k (.int .i64 (orV a b))
  | _ => none)
 fun args k fin h => by
  split at h
  ·rename_i x
   obtain ⟨z, l, g1, hx⟩ := onNs_spec h
   obtain ⟨a, b, rfl, g2⟩ := onTwo_spec g1
   refine ⟨_, .int .i64 (orV a b), g2, .cons hx .nil, ⟨⟨⟨trivial, trivial⟩, ⟨trivial, trivial⟩, trivial⟩, trivial⟩, trivial, 3, .int .i64 (orV a b), ⟨[], []⟩, rfl, ?_⟩
   rw [show (3 : Nat) = (0 : Nat).succ.succ.succ from rfl, or_run, orV, opq_eq]
   by_cases h1 : a = 0
   ·rw [branch_not (by simp [h1]), if_pos h1]
    by_cases h2 : b = 0
    ·rw [branch_not (by simp [h2]), h2]
    ·rw [branch_of (by simp [h2])]
   ·rw [branch_of (by simp [h1]), if_neg h1]
  ·cases h
theorem p66_nat : p66.Nat := by
 intro args k
 show (match args with | [x] => _ | _ => _) = thenA (match args with | [x] => _ | _ => _) k
 split
 ·exact onNs_nat fun _ _ => onTwo_nat fun _ _ => rfl
 ·rfl
theorem ze40 : (Try.prog.info? 40).bind (·.zero) = some (.slice none 0 0) := by kernel_rfl
noncomputable def f17_l0 : Sim Try.prog :=
 (.seq (.live [3, 9, 10, 11, 12] (.region 3 [
 ⟨(opBin (some 12) .lss 3 (.tmp 11) (.tmp 10) 3 0 "heap.go:176" #[]).op, none⟩
 ] (by kernel_rfl)))
 (.seq (.cond (.tmp 12)
 .skip
 (.live [3] (.exit 0)))
 (.seq (.block 1 (.seq (.live [3, 5, 9, 10, 11] (.region 4 [
 ⟨(opIndexAddrT (some 13) 22 (.tmp 9) (.tmp 11) 34 1 Try.underlying22 sz34 0 "heap.go:176" #[]).op, none⟩,
 ⟨(opLoadT (.one (.ns 1)) (some 14) 34 (.tmp 13) (.slice 5) Try.underlying34 1 sz34 (by kernel_rfl) 34 "heap.go:176" #[eD 0]).op, none⟩,
 ⟨(opAssign (some 5) (.tmp 14) 34 "heap.go:176" #[eD 1, eP 0, eP 1]).op, none⟩
 ] (by kernel_rfl)))
 (.live [3, 9, 10, 11] (.region 5 [
 ⟨(opMove (some 15) (.tmp 3) 22 "heap.go:177" #[]).op, none⟩,
 ⟨(opMove (some 16) (.tmp 5) 34 "heap.go:177" #[]).op, none⟩,
 ⟨(opCallP p43 (some 17) [(.tmp 16)] #[34] 34 "heap.go:177" #[eD 1]).op, none⟩,
 ⟨(opBuildSlice (some 18) 22 1 [(0, (.tmp 17))] 34 1 24 (.slice none 0 0) el22 (by kernel_rfl) (by decide) 22 "heap.go:177" #[eD 2]).op, none⟩,
 ⟨(opAppendV (some 19) (.tmp 15) (.tmp 18) 22 22 34 1 24 (.slice none 0 0) el22 (.slice 34) Try.underlying22 rfl 22 "heap.go:177" #[eD 0, eD 3, eC 2]).op, none⟩,
 ⟨(opAssign (some 3) (.tmp 19) 22 "heap.go:177" #[eD 4, eC 4, eP 0, eP 1, eP 2, eP 3, eP 4]).op, none⟩
 ] (by kernel_rfl)))))
 (.live [3, 9, 10, 11] (.region 6 [
 ⟨(opBin (some 20) .add 3 (.tmp 11) (.const (Value.int IntKind.i64 1)) 3 3 "heap.go:176" #[]).op, none⟩,
 ⟨(opMove (some 11) (.tmp 20) 3 "heap.go:176" #[eD 0]).op, none⟩
 ] (by kernel_rfl))))))
noncomputable def f17_r0 : Sim Try.prog :=
 (.seq (.live [2] (.region 7 [
 ⟨(opMoveZn (some 21) (.tmp 3) 22 "heap.go:179" #[]).op, none⟩,
 ⟨(opAssign (some 2) (.tmp 21) 22 "heap.go:179" #[eD 0, eP 0]).op, none⟩
 ] (by kernel_rfl)))
 (.live [2] .ret))
noncomputable def f17_b : Sim Try.prog :=
 (.seq (.live [0] (.region 0 [
 ⟨(opAssign (some 2) (.const (Value.slice none 0 0)) 22 "heap.go:174" #[]).op, none⟩
 ] (by kernel_rfl)))
 (.seq (.live [0, 3] (.region 1 [
 ⟨(opAssign (some 3) (.const (Value.slice none 0 0)) 22 "heap.go:175" #[]).op, none⟩
 ] (by kernel_rfl)))
 (.seq (.seq (.live [3, 9, 10, 11] (.region 2 [
 ⟨(opMove (some 6) (.tmp 0) 26 "heap.go:176" #[]).op, none⟩,
 ⟨(opNilCheck (some 7) (.tmp 6) 0 "heap.go:176" #[eD 0]).op, none⟩,
 ⟨(opFieldAddr (some 8) 67 (.tmp 7) 0 0 1 false fl67_0 (by decide) 0 "heap.go:176" #[eD 1]).op, none⟩,
 ⟨(opLoadT (.one .any) (some 9) 22 (.tmp 8) (.slice 34) Try.underlying22 1 sz22 (by kernel_rfl) 22 "heap.go:176" #[eD 2]).op, none⟩,
 ⟨(opLen (some 10) (.tmp 9) 22 (.slice 34) Try.underlying22 3 "heap.go:176" #[eD 3]).op, none⟩,
 ⟨(opMove (some 11) (.const (Value.int IntKind.i64 0)) 3 "heap.go:176" #[]).op, none⟩
 ] (by kernel_rfl)))
 (.block 0 (.loop [3, 9, 10, 11] f17_l0)))
 f17_r0)))
noncomputable def f17 : Fun Try.prog where
 id := 17
 fn := Try.f17
 hf := Try.func17
 hname := by kernel_rfl
 body := f17_b
 hbody := by kernel_rfl
 res := [rTmp 2]
 hres := by kernel_rfl
 n := 22
 hn := by kernel_rfl
noncomputable def f31_a0 : Sim Try.prog :=
 (.live [4, 5, 7, 8] (.items 3 [
 .two (op2Box 8 30 (.agg #[(.int .i64 0), (.int .i64 0)]) ze30 (.tmp 11) (by rfl) 2 sz30 (by kernel_rfl) 34 (by rfl) 0 0 "heap.go:162" "heap.go:162" #[] #[eD 0, eP 0])
 ]))
noncomputable def f31_y0 : Sim Try.prog :=
 (.block 1 (.seq (.seq (.live [4, 7, 8, 15] (.region 4 [
 ⟨(opLoadT (.one .any) (some 12) 40 (.tmp 7) (.slice 30) Try.underlying40 1 sz40 (by kernel_rfl) 40 "heap.go:163" #[]).op, none⟩,
 ⟨(opLen (some 13) (.tmp 12) 40 (.slice 30) Try.underlying40 3 "heap.go:163" #[eD 0]).op, none⟩,
 ⟨(opLoadT (.one (.int .i64)) (some 14) 3 (.tmp 5) (.int .i64) Try.underlying3 1 sz3 (by kernel_rfl) 3 "heap.go:163" #[]).op, none⟩,
 ⟨(opBin (some 15) .geq 3 (.tmp 13) (.tmp 14) 3 4 "heap.go:163" #[eD 1, eD 2]).op, none⟩
 ] (by kernel_rfl)))
 (.cond (.tmp 15)
 (.live [] (.exit 0))
 .skip))
 (.seq (.live [7, 8, 28] (.draw 5 [
 ⟨.pn (opFieldAddr (some 16) 30 (.tmp 8) 0 0 1 false fl30_0 (by decide) 0 "heap.go:166" #[]) opFieldAddr_nat, none⟩,
 ⟨.qn (opLoadT (.one (.int .i64)) (some 17) 3 (.tmp 16) (.int .i64) Try.underlying3 1 sz3 (by kernel_rfl) 3 "heap.go:166" #[eD 0]) opLoadT_nat, none⟩,
 ⟨.pn (opFieldAddr (some 18) 30 (.tmp 4) 0 0 1 false fl30_0 (by decide) 0 "heap.go:166" #[]) opFieldAddr_nat, none⟩,
 ⟨.qn (opLoadT (.one (.int .i64)) (some 19) 3 (.tmp 18) (.int .i64) Try.underlying3 1 sz3 (by kernel_rfl) 3 "heap.go:166" #[eD 2]) opLoadT_nat, none⟩,
 ⟨.pn (opCallP p67 (some 20) [(.tmp 17), (.tmp 19)] #[3, 3] 3 "heap.go:166" #[eD 1, eD 3]) (opCallP_nat p67_nat), none⟩,
 ⟨.pn (opFieldAddr (some 21) 30 (.tmp 8) 1 1 1 false fl30_1 (by decide) 0 "heap.go:166" #[]) opFieldAddr_nat, none⟩,
 ⟨.qn (opLoadT (.one (.int .i64)) (some 22) 3 (.tmp 21) (.int .i64) Try.underlying3 1 sz3 (by kernel_rfl) 3 "heap.go:166" #[eD 5]) opLoadT_nat, none⟩,
 ⟨.pn (opFieldAddr (some 23) 30 (.tmp 4) 1 1 1 false fl30_1 (by decide) 0 "heap.go:166" #[]) opFieldAddr_nat, none⟩,
 ⟨.qn (opLoadT (.one (.int .i64)) (some 24) 3 (.tmp 23) (.int .i64) Try.underlying3 1 sz3 (by kernel_rfl) 3 "heap.go:166" #[eD 7]) opLoadT_nat, none⟩,
 ⟨.pn (opCallP p67 (some 25) [(.tmp 22), (.tmp 24)] #[3, 3] 3 "heap.go:166" #[eD 6, eD 8, eC 4]) (opCallP_nat p67_nat), none⟩,
 ⟨.p (opBuildSlice (some 26) 23 2 [(0, (.tmp 20)), (1, (.tmp 25))] 3 1 8 (.int .i64 0) el23 (by kernel_rfl) (by decide) 23 "heap.go:166" #[eD 4, eD 9]), none⟩,
 ⟨.pn (opCallP p66 (some 27) [(.tmp 26)] #[23] 3 "heap.go:166" #[eD 10, eC 9]) (opCallP_nat p66_nat), none⟩,
 ⟨.pn (opBin (some 28) .gtr 3 (.tmp 27) (.const (Value.int IntKind.i64 0)) 3 4 "heap.go:166" #[eD 11]) opBin_nat, none⟩
 ] mixed (by kernel_rfl)))
 (.cond (.tmp 28)
 (.live [] (.region 6 [
 ⟨(opLoadT (.one .any) (some 29) 40 (.tmp 7) (.slice 30) Try.underlying40 1 sz40 (by kernel_rfl) 40 "heap.go:167" #[]).op, none⟩,
 ⟨(opLoadT (.agg [(.int .i64), (.int .i64)]) (some 30) 30 (.tmp 8) d30 ud30 2 sz30 (by kernel_rfl) 30 "heap.go:167" #[]).op, none⟩,
 ⟨(opBuildSlice (some 31) 40 1 [(0, (.tmp 30))] 30 2 16 (.agg #[(.int .i64 0), (.int .i64 0)]) el40 (by kernel_rfl) (by decide) 40 "heap.go:167" #[eD 1]).op, none⟩,
 ⟨(opAppendR (some (.tmp 7)) 1 (some 32) (.tmp 29) (.tmp 31) 40 40 30 2 16 (.agg #[(.int .i64 0), (.int .i64 0)]) el40 (.slice 30) Try.underlying40 rfl 40 "heap.go:167" #[eD 0, eD 2]).op, none⟩,
 ⟨(opStore none 40 (.tmp 7) (.tmp 32) 1 sz40 0 "heap.go:167" #[eD 3, eC 3, eP 0, eP 1, eP 2, eP 3]).op, none⟩
 ] (by kernel_rfl)))
 .skip))))
noncomputable def f31_r0 : Sim Try.prog :=
 (.seq (.live [6] (.region 7 [
 ⟨(opLoadT (.one .any) (some 33) 40 (.tmp 7) (.slice 30) Try.underlying40 1 sz40 (by kernel_rfl) 40 "heap.go:170" #[]).op, none⟩,
 ⟨(opAssignZn (some 6) (.tmp 33) 40 "heap.go:170" #[eD 0, eP 0]).op, none⟩
 ] (by kernel_rfl)))
 (.live [6] .ret))
noncomputable def f31_b : Sim Try.prog :=
 (.seq (.live [0, 4, 5] (.region 0 [
 ⟨(opBoxF (some 4) 30 (.tmp 1) 0 "heap.go:160" #[]).op, none⟩,
 ⟨(opBoxF (some 5) 3 (.tmp 2) 0 "heap.go:160" #[]).op, none⟩,
 ⟨(opAssignZn (some 6) (.const (Value.slice none 0 0)) 40 "heap.go:160" #[]).op, none⟩
 ] (by kernel_rfl)))
 (.seq (.live [0, 4, 5, 7] (.region 1 [
 ⟨(MSim.ph (opAlloc (some 7) 40 (.slice none 0 0) ze40 0 "heap.go:161" #[]) 1).op, none⟩
 ] (by kernel_rfl)))
 (.seq (.seq (.live [4, 5, 7, 10] (.region 2 [
 ⟨(opMove (some 9) (.tmp 0) 26 "heap.go:162" #[]).op, none⟩,
 ⟨opCall (f42.orc 0) (some 10) [(.tmp 9)] #[26] 79 "heap.go:162" #[eD 0], none⟩
 ] (by kernel_rfl)))
 (.block 0 (.rangeF 31 (.tmp 10) #[11] f31_a0 f31_y0 (fun Y => o74 Y) (by kernel_rfl) (by kernel_rfl) (by kernel_rfl))))
 f31_r0)))
noncomputable def f31 : Fun Try.prog where
 id := 31
 fn := Try.f31
 hf := Try.func31
 hname := by kernel_rfl
 body := f31_b
 hbody := by kernel_rfl
 res := [rTmp 6]
 hres := by kernel_rfl
 n := 34
 hn := by kernel_rfl
theorem pages_nil (F : Nat) :
 (f17.run F.succ [.ptr 0 0] ⟨[.cells [.nilsl, .nilsl], .nov 0, .nov 0], []⟩ : Ans) =
 some (Fin.ret AV.nilsl, St.mk [Ob.cells [AV.nilsl, AV.nilsl], Ob.nov 0, Ob.nov 0] []) := by kernel_rfl
theorem pages_run (F v n : Nat) (cs ds : List AV) :
 (f17.run F [.ptr 0 0] ⟨[.cells [.vs 1 v 1 n, .vs 2 v 1 n], .vec v cs, .vec v ds], []⟩ : Ans) =
 loopRun (f17_l0.run F) [3, 9, 10, 11]
 (Cont.block 0 (Cont.then (f17_r0.run F (f17.leaveK Fun.done)) (f17.leaveK Fun.done))) F
 (Env.mk 22
 [(3, AV.nilsl), (9, AV.vs 1 v 1 n), (10, .int .i64 (↑n : Int)),
 (11, .int .i64 0)])
 (St.mk [Ob.cells [AV.vs 1 v 1 n, AV.vs 2 v 1 n], Ob.vec v cs, Ob.vec v ds] []) := by kernel_rfl
theorem pages_round0 (F v n i m : Nat) (cs ds : List AV) (K : Cont) :
 (loopRun (f17_l0.run F) [3, 9, 10, 11] K m.succ (Env.mk 22 [(3, .nilsl), (9, .vs 1 v 1 n), (10, .int .i64 (n : Int)), (11, .int .i64 (i : Int))]) ⟨[.cells [.vs 1 v 1 n, .vs 2 v 1 n], .vec v cs, .vec v ds], []⟩ : Ans) =
 branch (.bool (decide ((↑i : Int) < (↑n : Int))))
 (if (0 : Int) ≤ (↑i : Int) ∧ (↑i : Int) < (↑n : Int) then
 branch (.bool (v.beq v))
 (branch (.bool ((LD.one (LT.ns 1)).is (List.drop (i * 1) cs)))
 (branch
 (AV.bool
 (!nilA (List.drop (i * 1) cs) &&
 (byOk (rwA (List.drop (i * 1) cs)) &&
 apOk (rwA (List.drop (i * 1) cs)).length 1)))
 (branch (.bool (apOk 1 24))
 (loopRun (f17_l0.run F) [3, 9, 10, 11] K m
 (Env.mk 22
 [(3, AV.vs 3 0 1 1), (9, AV.vs 1 v 1 n),
 (10, .int .i64 (↑n : Int)),
 (11, .int .i64 (IntKind.i64.wrap ((↑i : Int) + 1)))])
 (St.mk
 [Ob.cells [AV.vs 1 v 1 n, AV.vs 2 v 1 n], Ob.vec v cs, Ob.vec v ds,
 Ob.vec 0 (catC [] 0 [[AV.ns false 1 (rwA (List.drop (i * 1) cs))]])]
 []))
 none)
 none)
 none)
 none
 else none)
 (K (AX.exit 0) (Env.mk 22 [(3, AV.nilsl)])
 (St.mk [Ob.cells [AV.vs 1 v 1 n, AV.vs 2 v 1 n], Ob.vec v cs, Ob.vec v ds] [])) := by kernel_rfl
theorem pages_round (F v n i m u q : Nat) (cs ds es : List AV) (K : Cont) :
 (loopRun (f17_l0.run F) [3, 9, 10, 11] K m.succ (Env.mk 22 [(3, .vs 3 u 1 q), (9, .vs 1 v 1 n), (10, .int .i64 (n : Int)), (11, .int .i64 (i : Int))]) ⟨[.cells [.vs 1 v 1 n, .vs 2 v 1 n], .vec v cs, .vec v ds, .vec u es], []⟩ : Ans) =
 branch (.bool (decide ((↑i : Int) < (↑n : Int))))
 (if (0 : Int) ≤ (↑i : Int) ∧ (↑i : Int) < (↑n : Int) then
 branch (.bool (v.beq v))
 (branch (.bool ((LD.one (LT.ns 1)).is (List.drop (i * 1) cs)))
 (branch
 (AV.bool
 (!nilA (List.drop (i * 1) cs) &&
 (byOk (rwA (List.drop (i * 1) cs)) &&
 apOk (rwA (List.drop (i * 1) cs)).length 1)))
 (branch (.bool (u.beq u && (inC es 0 (mulN q 1) && apOk (q + 1) 24)))
 (loopRun (f17_l0.run F) [3, 9, 10, 11] K m
 (Env.mk 22
 [(3, AV.vs 3 (u + 1) 1 (q + 1)),
 (9, AV.vs 1 v 1 n), (10, .int .i64 (↑n : Int)),
 (11, .int .i64 (IntKind.i64.wrap ((↑i : Int) + 1)))])
 (St.mk
 [Ob.cells [AV.vs 1 v 1 n, AV.vs 2 v 1 n], Ob.vec v cs, Ob.vec v ds,
 Ob.vec (u + 1)
 (catC es (mulN q 1) [[AV.ns false 1 (rwA (List.drop (i * 1) cs))]])]
 []))
 none)
 none)
 none)
 none
 else none)
 (K (AX.exit 0) (Env.mk 22 [(3, AV.vs 3 u 1 q)])
 (St.mk
 [Ob.cells [AV.vs 1 v 1 n, AV.vs 2 v 1 n], Ob.vec v cs, Ob.vec v ds, Ob.vec u es]
 [])) := by kernel_rfl
theorem after_run (F : Nat) (a b c : Ob) (p s m : Int) :
 (f31.run F [.ptr 0 0, .agg [.int .i64 p, .int .i64 s], .int .i64 m] ⟨[a, b, c], []⟩ : Ans) =
 onSome
 (rowsR (rangeY F 31 #[(11 : Tmp)] f31_a0 f31_y0 (by kernel_rfl) (Eq.refl true) (Eq.refl true))
 [AV.fn (Fn.yield 5) [] [], AV.eptr [AV.ptr 0 0]]
 (St.mk
 [a, b, c, Ob.cells [AV.nilsl], Ob.nov 0,
 Ob.lp 0 0 31
 [AV.dead, AV.dead, AV.dead, AV.dead, AV.eptr [.int .i64 p, .int .i64 s],
 AV.eptr [.int .i64 m], AV.dead, AV.ptr 3 0, AV.dead, AV.dead,
 AV.fn (Fn.func (74 : FuncId)) [] [AV.eptr [AV.ptr 0 0]], AV.dead, AV.dead, AV.dead, AV.dead,
 AV.dead, AV.dead, AV.dead, AV.dead, AV.dead, AV.dead, AV.dead, AV.dead, AV.dead, AV.dead, AV.dead, AV.dead,
 AV.dead, AV.dead, AV.dead, AV.dead, AV.dead, AV.dead, AV.dead]]
 []))
 none fun (o : Bool × Bool × Nat × List AV) =>
 branch (.bool o.2.fst)
 (branch (.bool o.fst)
 (some (Fin.ret AV.nilsl, St.mk [a, b, c, Ob.cells [AV.nilsl], Ob.nov 0, Ob.gone] []))
 (some (Fin.ret AV.nilsl, St.mk [a, b, c, Ob.cells [AV.nilsl], Ob.nov 0, Ob.gone] [])))
 (branch (.bool o.fst)
 (branch (.bool (o.snd.2.fst.beq o.snd.2.fst && inC o.snd.2.snd 0 (mulN o.snd.2.fst 2)))
 (some
 (Fin.ret (AV.ns false 2 (rowsC 2 o.snd.2.fst o.snd.2.snd 0)),
 St.mk
 [a, b, c, Ob.cells [AV.vs 4 o.snd.2.fst 2 o.snd.2.fst], Ob.nov (o.snd.2.fst + 1),
 Ob.gone]
 []))
 none)
 (branch (.bool (o.snd.2.fst.beq o.snd.2.fst && inC o.snd.2.snd 0 (mulN o.snd.2.fst 2)))
 (some
 (Fin.ret (AV.ns false 2 (rowsC 2 o.snd.2.fst o.snd.2.snd 0)),
 St.mk
 [a, b, c, Ob.cells [AV.vs 4 o.snd.2.fst 2 o.snd.2.fst], Ob.nov (o.snd.2.fst + 1),
 Ob.gone]
 []))
 none)) := by kernel_rfl
theorem pages_out0 (F : Nat) (os : List Ob) :
 ((Cont.block 0 (Cont.then (f17_r0.run F (f17.leaveK Fun.done)) (f17.leaveK Fun.done))) (.exit 0) (Env.mk 22 [(3, .nilsl)]) ⟨os, []⟩ : Ans) =
 some (Fin.ret AV.nilsl, St.mk os []) := by kernel_rfl
theorem pages_out (F u q : Nat) (a b c : Ob) (es : List AV) :
 ((Cont.block 0 (Cont.then (f17_r0.run F (f17.leaveK Fun.done)) (f17.leaveK Fun.done))) (.exit 0) (Env.mk 22 [(3, .vs 3 u 1 q)]) ⟨[a, b, c, .vec u es], []⟩ : Ans) =
 branch (.bool (u.beq u && inC es 0 (mulN q 1)))
 (some (Fin.ret (AV.ns false 1 (rowsC 1 q es 0)), St.mk [a, b, c, Ob.nov (u + 1)] []))
 none := by kernel_rfl
theorem aft_body0 (F : Nat) (a b c : Ob) (x : AV) (p s p' s' m : Int) :
 ((rangeY F 31 #[11] f31_a0 f31_y0 (by kernel_rfl) (by kernel_rfl) (by kernel_rfl)).sem 5 [.agg [.int .i64 p', .int .i64 s']] ⟨[a, b, c, .cells [.nilsl], .nov 0, .lp 0 0 31 [.dead, .dead, .dead, .dead, .eptr [.int .i64 p, .int .i64 s], .eptr [.int .i64 m], .dead, .ptr 3 0, .dead, .dead, x, .dead, .dead, .dead, .dead, .dead, .dead, .dead, .dead, .dead, .dead, .dead, .dead, .dead, .dead, .dead, .dead, .dead, .dead, .dead, .dead, .dead, .dead, .dead]], []⟩ Fun.done : Ans) =
 branch (.bool (decide ((0 : Int) ≥ m)))
 (some
 (Fin.ret (.bool false),
 St.mk
 [a, b, c, Ob.cells [AV.nilsl], Ob.nov 0,
 Ob.lp 2 1 31
 [AV.dead, AV.dead, AV.dead, AV.dead, AV.eptr [.int .i64 p, .int .i64 s],
 AV.eptr [.int .i64 m], AV.dead, AV.ptr 3 0, AV.dead, AV.dead, x, AV.dead,
 AV.dead, AV.dead, AV.dead, AV.dead, AV.dead, AV.dead, AV.dead, AV.dead, AV.dead, AV.dead, AV.dead,
 AV.dead, AV.dead, AV.dead, AV.dead, AV.dead, AV.dead, AV.dead, AV.dead, AV.dead, AV.dead, AV.dead]]
 []))
 (branch (.bool (decide (orV (cmpV p' p) (cmpV s' s) > 0)))
 (branch (.bool (apOk 1 16))
 (some
 (Fin.ret (.bool true),
 St.mk
 [a, b, c, Ob.cells [AV.vs 4 1 2 1],
 Ob.vec 1 (catC [] 0 [[.int .i64 p', .int .i64 s']]),
 Ob.lp 0 0 31
 [AV.dead, AV.dead, AV.dead, AV.dead, AV.eptr [.int .i64 p, .int .i64 s],
 AV.eptr [.int .i64 m], AV.dead, AV.ptr 3 0, AV.dead, AV.dead, x, AV.dead,
 AV.dead, AV.dead, AV.dead, AV.dead, AV.dead, AV.dead, AV.dead, AV.dead, AV.dead, AV.dead, AV.dead,
 AV.dead, AV.dead, AV.dead, AV.dead, AV.dead, AV.dead, AV.dead, AV.dead, AV.dead, AV.dead, AV.dead]]
 []))
 none)
 (some
 (Fin.ret (.bool true),
 St.mk
 [a, b, c, Ob.cells [AV.nilsl], Ob.nov 0,
 Ob.lp 0 0 31
 [AV.dead, AV.dead, AV.dead, AV.dead, AV.eptr [.int .i64 p, .int .i64 s],
 AV.eptr [.int .i64 m], AV.dead, AV.ptr 3 0, AV.dead, AV.dead, x, AV.dead,
 AV.dead, AV.dead, AV.dead, AV.dead, AV.dead, AV.dead, AV.dead, AV.dead, AV.dead, AV.dead, AV.dead,
 AV.dead, AV.dead, AV.dead, AV.dead, AV.dead, AV.dead, AV.dead, AV.dead, AV.dead, AV.dead, AV.dead]]
 []))) := by kernel_rfl
theorem aft_body (F v n : Nat) (cs : List AV) (a b c : Ob) (x : AV) (p s p' s' m : Int) :
 ((rangeY F 31 #[11] f31_a0 f31_y0 (by kernel_rfl) (by kernel_rfl) (by kernel_rfl)).sem 5 [.agg [.int .i64 p', .int .i64 s']] ⟨[a, b, c, .cells [.vs 4 v 2 n], .vec v cs, .lp 0 0 31 [.dead, .dead, .dead, .dead, .eptr [.int .i64 p, .int .i64 s], .eptr [.int .i64 m], .dead, .ptr 3 0, .dead, .dead, x, .dead, .dead, .dead, .dead, .dead, .dead, .dead, .dead, .dead, .dead, .dead, .dead, .dead, .dead, .dead, .dead, .dead, .dead, .dead, .dead, .dead, .dead, .dead]], []⟩ Fun.done : Ans) =
 branch (.bool (decide ((↑n : Int) ≥ m)))
 (some
 (Fin.ret (.bool false),
 St.mk
 [a, b, c, Ob.cells [AV.vs 4 v 2 n], Ob.vec v cs,
 Ob.lp 2 1 31
 [AV.dead, AV.dead, AV.dead, AV.dead, AV.eptr [.int .i64 p, .int .i64 s],
 AV.eptr [.int .i64 m], AV.dead, AV.ptr 3 0, AV.dead, AV.dead, x, AV.dead,
 AV.dead, AV.dead, AV.dead, AV.dead, AV.dead, AV.dead, AV.dead, AV.dead, AV.dead, AV.dead, AV.dead,
 AV.dead, AV.dead, AV.dead, AV.dead, AV.dead, AV.dead, AV.dead, AV.dead, AV.dead, AV.dead, AV.dead]]
 []))
 (branch (.bool (decide (orV (cmpV p' p) (cmpV s' s) > 0)))
 (branch (.bool (v.beq v && (inC cs 0 (mulN n 2) && apOk (n + 1) 16)))
 (some
 (Fin.ret (.bool true),
 St.mk
 [a, b, c, Ob.cells [AV.vs 4 (v + 1) 2 (n + 1)],
 Ob.vec (v + 1) (catC cs (mulN n 2) [[.int .i64 p', .int .i64 s']]),
 Ob.lp 0 0 31
 [AV.dead, AV.dead, AV.dead, AV.dead, AV.eptr [.int .i64 p, .int .i64 s],
 AV.eptr [.int .i64 m], AV.dead, AV.ptr 3 0, AV.dead, AV.dead, x, AV.dead,
 AV.dead, AV.dead, AV.dead, AV.dead, AV.dead, AV.dead, AV.dead, AV.dead, AV.dead, AV.dead, AV.dead,
 AV.dead, AV.dead, AV.dead, AV.dead, AV.dead, AV.dead, AV.dead, AV.dead, AV.dead, AV.dead, AV.dead]]
 []))
 none)
 (some
 (Fin.ret (.bool true),
 St.mk
 [a, b, c, Ob.cells [AV.vs 4 v 2 n], Ob.vec v cs,
 Ob.lp 0 0 31
 [AV.dead, AV.dead, AV.dead, AV.dead, AV.eptr [.int .i64 p, .int .i64 s],
 AV.eptr [.int .i64 m], AV.dead, AV.ptr 3 0, AV.dead, AV.dead, x, AV.dead,
 AV.dead, AV.dead, AV.dead, AV.dead, AV.dead, AV.dead, AV.dead, AV.dead, AV.dead, AV.dead, AV.dead,
 AV.dead, AV.dead, AV.dead, AV.dead, AV.dead, AV.dead, AV.dead, AV.dead, AV.dead, AV.dead, AV.dead]]
 []))) := by kernel_rfl
def rC (l : List (Nat × Nat)) : List AV := l.flatMap fun r => [.int .i64 (r.1 : Int), .int .i64 (r.2 : Int)]
def rP (l : List (Nat × Nat)) : List (List AV) := l.map fun r => [.int .i64 (r.1 : Int), .int .i64 (r.2 : Int)]
theorem rC_snoc (l : List (Nat × Nat)) (r : Nat × Nat) : rC (l ++ [r]) = rC l ++ [.int .i64 (r.1 : Int), .int .i64 (r.2 : Int)] := by simp [rC]
theorem rC_length : ∀ l : List (Nat × Nat), (rC l).length = 2 * l.length
 | [] => rfl
 | r :: l => by
  have := rC_length l
  simp only [rC, List.flatMap_cons, List.length_append, List.length_cons, List.length_nil] at this ⊢
  omega
theorem rP_length (l : List (Nat × Nat)) : (rP l).length = l.length := by simp [rP]
theorem rowsOf_rC : ∀ l : List (Nat × Nat), rowsOf 2 l.length (rC l) = some (rP l)
 | [] => rfl
 | r :: l => by
  have ih := rowsOf_rC l
  simp only [rC, List.flatMap_cons, List.length_cons, rowsOf, takeN, List.cons_append, List.nil_append, List.drop_succ_cons, List.drop_zero] at ih ⊢
  rw [ih]; rfl
theorem rowsC_rC (l : List (Nat × Nat)) : rowsC 2 l.length (rC l) 0 = rP l := by
 rw [rowsC, opq_eq, List.drop_zero, rowsOf_rC]; rfl
theorem inC_rC (l : List (Nat × Nat)) : inC (rC l) 0 (mulN l.length 2) = true := by
 rw [inC_iff, mulN, opq_eq, rC_length]; omega
theorem catC_rC (l : List (Nat × Nat)) (r : Nat × Nat) : catC (rC l) (mulN l.length 2) [[.int .i64 (r.1 : Int), .int .i64 (r.2 : Int)]] = rC (l ++ [r]) := by
 rw [catC, opq_eq, mulN, opq_eq, List.take_of_length_le (by rw [rC_length]; omega), rC_snoc]; rfl
def vA (l : List (Nat × Nat)) : AV := match l with
 | [] => .nilsl
 | _ :: _ => .vs 4 l.length 2 l.length
def oA (l : List (Nat × Nat)) : Ob := match l with
 | [] => .nov 0
 | _ :: _ => .vec l.length (rC l)
def rOf (b : Bool) (l : List (Nat × Nat)) : Bool × Bool × Nat × List AV := match l with
 | [] => (b, true, 0, [])
 | _ :: _ => (b, false, l.length, rC l)
theorem rOf_ok (b : Bool) (l : List (Nat × Nat)) : (rOf b l).2.1 = true → (rOf b l).2.2 = (0, []) := by
 cases l with
 | nil => intro _; rfl
 | cons r l => intro h; cases h
theorem layR_rOf (b : Bool) (l : List (Nat × Nat)) {x y z d e : Ob} {s i f : Nat} {tm : List AV} : layR ⟨[x, y, z, d, e, .lp s i f tm], []⟩ (rOf b l) = ⟨[x, y, z, .cells [vA l], oA l, bif b then .lp 2 1 f tm else .lp 0 0 f tm], []⟩ := by
 cases l <;> cases b <;> rfl
def fV (l : List (Nat × Nat)) : AV := match l with
 | [] => .nilsl
 | _ :: _ => .ns false 2 (rP l)
def xV (l : List (Nat × Nat)) : List Ob := match l with
 | [] => [.cells [.nilsl], .nov 0, .gone]
 | _ :: _ => [.cells [.vs 4 l.length 2 l.length], .nov (l.length + 1), .gone]
noncomputable def ridsE (l : List (Nat × Nat)) : Bool := opq l.isEmpty
noncomputable def ridsV (l : List (Nat × Nat)) : List (List AV) := opq (rP l)
theorem rP_scoped {n m : Nat} : ∀ l : List (Nat × Nat), ScopedR n m (rP l)
 | [] => trivial
 | r :: l => ⟨⟨trivial, trivial, trivial⟩, rP_scoped l⟩
theorem fV_wk (l : List (Nat × Nat)) : Wk (frz (fV l)) (.ns (ridsE l) 2 (ridsV l)) := by
 rw [ridsE, ridsV, opq_eq, opq_eq]
 cases l with
 | nil => exact .nil
 | cons r l => exact .refl _
theorem fV_near (l : List (Nat × Nat)) : Near 3 (frz (fV l)) ∧ ∀ τ, ren τ (frz (fV l)) = frz (fV l) := by
 cases l with
 | nil => exact ⟨trivial, fun _ => rfl⟩
 | cons r l => exact ⟨rP_scoped (r :: l), fun _ => rfl⟩
theorem ridP_len : ∀ (ps : List (List Nat)) (i : Nat), (ridP ps i).length ≤ 255 * ps.length
 | [], _ => Nat.le_refl _
 | b :: t, i => by
  have := ridP_len t (i + 1)
  have h1 := slotsI_len (ofS b) 0
  have h2 := len_ofS b
  simp only [ridP, List.length_append, List.length_map, List.length_cons]
  omega
theorem Hp.rids_len {X : Hp} (h : X.Ok) : X.rids.length ≤ 76500 := by
 have h1 := ridP_len X.pg_ 0
 have h2 := Hp.pg_len h
 have := h.n
 have := h.m
 rw [Hp.rids]
 omega
noncomputable def endR (a b c : Ob) (o : Bool × Bool × Nat × List AV) : Ans :=
 branch (.bool o.2.1)
  (branch (.bool o.1) (some (.ret .nilsl, ⟨[a, b, c, .cells [.nilsl], .nov 0, .gone], []⟩)) (some (.ret .nilsl, ⟨[a, b, c, .cells [.nilsl], .nov 0, .gone], []⟩)))
  (branch (.bool o.1)
   (branch (.bool (o.2.2.1.beq o.2.2.1 && inC o.2.2.2 0 (mulN o.2.2.1 2))) (some (.ret (.ns false 2 (rowsC 2 o.2.2.1 o.2.2.2 0)), ⟨[a, b, c, .cells [.vs 4 o.2.2.1 2 o.2.2.1], .nov (o.2.2.1 + 1), .gone], []⟩)) none)
   (branch (.bool (o.2.2.1.beq o.2.2.1 && inC o.2.2.2 0 (mulN o.2.2.1 2))) (some (.ret (.ns false 2 (rowsC 2 o.2.2.1 o.2.2.2 0)), ⟨[a, b, c, .cells [.vs 4 o.2.2.1 2 o.2.2.1], .nov (o.2.2.1 + 1), .gone], []⟩)) none))
theorem endR_rOf (a b c : Ob) (e : Bool) (l : List (Nat × Nat)) : endR a b c (rOf e l) = some (.ret (fV l), ⟨[a, b, c] ++ xV l, []⟩) := by
 cases l with
 | nil => cases e <;> rfl
 | cons r l =>
  have h : (((r :: l).length).beq (r :: l).length && inC (rC (r :: l)) 0 (mulN (r :: l).length 2)) = true := by rw [Nat.beq_refl, inC_rC]; rfl
  have h2 := rowsC_rC (r :: l)
  cases e
  ·show branch (.bool (((r :: l).length).beq (r :: l).length && inC (rC (r :: l)) 0 (mulN (r :: l).length 2))) _ _ = _
   rw [branch_of h]
   show some (Fin.ret (.ns false 2 (rowsC 2 (r :: l).length (rC (r :: l)) 0)), _) = _
   rw [h2]; rfl
  ·show branch (.bool (((r :: l).length).beq (r :: l).length && inC (rC (r :: l)) 0 (mulN (r :: l).length 2))) _ _ = _
   rw [branch_of h]
   show some (Fin.ret (.ns false 2 (rowsC 2 (r :: l).length (rC (r :: l)) 0)), _) = _
   rw [h2]; rfl
noncomputable def yA : YOrc Try.prog := rangeY 0 73 #[7] f73_a0 f73_y0 (by kernel_rfl) (by kernel_rfl) (by kernel_rfl)
def tmA : List AV := [.dead, .dead, .ptr 3 0, .dead, .dead, .dead, .fn (.func 74) [] [.eptr [.ptr 0 0]], .dead, .dead, .dead, .dead, .dead, .dead]
noncomputable def stA (X : Hp) (f : Nat) (tm : List AV) (b : Bool) (l : List (Nat × Nat)) : St := ⟨[hpA.ob 0 X 0, hpA.ob 0 X 1, hpA.ob 0 X 2, .cells [vA l], oA l, bif b then .lp 2 1 f tm else .lp 0 0 f tm], []⟩
theorem stA_hp {X : Hp} (h : X.Ok) (f : Nat) (tm : List AV) (b : Bool) (l : List (Nat × Nat)) : ∃ os, stA X f tm b l = ⟨X.obs ++ os, []⟩ := by
 rw [← hp_obl h]
 exact ⟨[.cells [vA l], oA l, bif b then .lp 2 1 f tm else .lp 0 0 f tm], rfl⟩
theorem stA_lay (X : Hp) (f : Nat) (tm : List AV) (b : Bool) (l : List (Nat × Nat)) : stA X f tm b l = layR ⟨[hpA.ob 0 X 0, hpA.ob 0 X 1, hpA.ob 0 X 2, .cells [.nilsl], .nov 0, .lp 0 0 f tm], []⟩ (rOf b l) := (layR_rOf b l).symm
theorem app_step (X : Hp) (l : List (Nat × Nat)) (r : Nat × Nat) (hl : l.length ≤ 100000) : yA.step 5 [ridA r] (stA X 73 tmA false l) = some (true, stA X 73 tmA false (l ++ [r])) := by
 refine YOrc.step_of ?_
 cases l with
 | nil =>
  refine (app_body0 0 (hpA.ob 0 X 0) (hpA.ob 0 X 1) (hpA.ob 0 X 2) .gone .gone (.fn (.func 74) [] [.eptr [.ptr 0 0]]) (r.1 : Int) (r.2 : Int)).trans ?_
  rw [branch_of (by rw [apOk_iff]; omega), catC_nil]
  rfl
 | cons x l =>
  refine (app_body 0 (x :: l).length (x :: l).length (rC (x :: l)) (hpA.ob 0 X 0) (hpA.ob 0 X 1) (hpA.ob 0 X 2) .gone .gone (.fn (.func 74) [] [.eptr [.ptr 0 0]]) (r.1 : Int) (r.2 : Int)).trans ?_
  rw [branch_of (by rw [Nat.beq_refl, inC_rC, show apOk ((x :: l).length + 1) 16 = true by rw [apOk_iff]; omega]; rfl), catC_rC]
  have e : (x :: l).length + 1 = (x :: l ++ [r]).length := by simp
  rw [e]
  rfl
theorem all_at {X : Hp} (h : X.Ok) : f16.run 0 [.ptr 0 0] ⟨X.obs, []⟩ = some (.ret (fV X.rids), ⟨X.obs ++ xV X.rids, []⟩) := by
 have hlen := Hp.rids_len h
 obtain ⟨r, k1, k2, k3⟩ := rowsR_all (Y := yA) (j := 5) (I := fun rs st => ∃ l, l ++ rs = X.rids ∧ st = stA X 73 tmA false l) (E := fun _ => False) h
  (fun r rs st ⟨l, e1, e2⟩ => ⟨true, _, by rw [e2]; exact app_step X l r (by have := congrArg List.length e1; simp at this; omega), .inl ⟨rfl, l ++ [r], by rw [List.append_assoc]; exact e1, rfl⟩⟩)
  (a := hpA.ob 0 X 0) (b := hpA.ob 0 X 1) (c := hpA.ob 0 X 2) (d := .cells [.nilsl]) (e := .nov 0) (s := 0) (i := 0) (f := 73) (tm := tmA)
  (fun rs st ⟨l, _, e2⟩ => by rw [e2]; exact stA_hp h ..)
  ⟨[], rfl, rfl⟩
  (fun st hst => by
   rcases hst with ⟨l, _, e2⟩ | hst
   ·exact ⟨rOf false l, by rw [e2]; exact stA_lay .., rOf_ok _ _⟩
   ·cases hst)
 rcases k1 with ⟨l, e1, e2⟩ | k1
 ·rw [List.append_nil] at e1
  subst e1
  rw [stA_lay] at e2
  have := layR_inj k2 (rOf_ok _ _) e2
  subst this
  rw [← hp_obl h, all_run]
  have k3 : rowsR (rangeY 0 73 #[7] f73_a0 f73_y0 (by kernel_rfl) (by kernel_rfl) (by kernel_rfl)) [AV.fn (Fn.yield 5) [] [], AV.eptr [AV.ptr 0 0]]
    (St.mk [hpA.ob 0 X 0, hpA.ob 0 X 1, hpA.ob 0 X 2, Ob.cells [AV.nilsl], Ob.nov 0, Ob.lp 0 0 73 [AV.dead, AV.dead, AV.ptr 3 0, AV.dead, AV.dead, AV.dead, AV.fn (Fn.func 74) [] [AV.eptr [AV.ptr 0 0]], AV.dead, AV.dead, AV.dead, AV.dead, AV.dead, AV.dead]] []) = some (rOf false X.rids) := k3
  rw [k3, onSome_some]
  exact endR_rOf _ _ _ false X.rids
 ·cases k1
noncomputable def q16 : OrcQ Try.prog := f16.byQ
 (fun args st k => match args with
  | [x] => hpA.on x st fun j X => k (.ns (ridsE X.rids) 2 (ridsV X.rids))
  | _ => none)
 fun args st k fin h => by
  split at h
  ·rename_i x
   obtain ⟨j, X, rfl, hd, h1⟩ := ADT.on_spec h
   refine ⟨_, h1, ?_⟩
   obtain ⟨n1, n2⟩ := fV_near X.rids
   have := ADT.placed (A := hpA) (f := f16) (x := X) (y := X) (args0 := [.ptr 0 0]) (r := fV X.rids) (xs := xV X.rids) (all_at hd.ok) hd.ok ⟨by show 0 < 3; omega, trivial⟩ n1 hd
   rw [hd.same, n2] at this
   exact CallsTo.wkR this (fV_wk _)
  ·cases h
noncomputable def gtR (p s : Int) (r : Nat × Nat) : Bool := decide (orV (cmpV (r.1 : Int) p) (cmpV (r.2 : Int) s) > 0)
theorem gtR_iff (p s : Int) (r : Nat × Nat) : gtR p s r = true ↔ p < r.1 ∨ (p = r.1 ∧ s < r.2) := by
 rw [gtR, decide_eq_true_eq, orV, opq_eq, cmpV, opq_eq, cmpV, opq_eq]
 repeat' split
 all_goals omega
noncomputable def Hp.after (X : Hp) (p s m : Int) : List (Nat × Nat) := (X.rids.filter (gtR p s)).take m.toNat
noncomputable def yF : YOrc Try.prog := rangeY 0 31 #[11] f31_a0 f31_y0 (by kernel_rfl) (by kernel_rfl) (by kernel_rfl)
def tmF (p s m : Int) : List AV := [.dead, .dead, .dead, .dead, .eptr [.int .i64 p, .int .i64 s], .eptr [.int .i64 m], .dead, .ptr 3 0, .dead, .dead, .fn (.func 74) [] [.eptr [.ptr 0 0]], .dead, .dead, .dead, .dead, .dead, .dead, .dead, .dead, .dead, .dead, .dead, .dead, .dead, .dead, .dead, .dead, .dead, .dead, .dead, .dead, .dead, .dead, .dead]
theorem aft_step (X : Hp) (p s m : Int) (l : List (Nat × Nat)) (r : Nat × Nat) (hl : l.length ≤ 100000) : yF.step 5 [ridA r] (stA X 31 (tmF p s m) false l) =
  some (if (l.length : Int) ≥ m then (false, stA X 31 (tmF p s m) true l) else if gtR p s r = true then (true, stA X 31 (tmF p s m) false (l ++ [r])) else (true, stA X 31 (tmF p s m) false l)) := by
 cases l with
 | nil =>
  have hb := aft_body0 0 (hpA.ob 0 X 0) (hpA.ob 0 X 1) (hpA.ob 0 X 2) (.fn (.func 74) [] [.eptr [.ptr 0 0]]) p s (r.1 : Int) (r.2 : Int) m
  by_cases h1 : (0 : Int) ≥ m
  ·rw [branch_of (decide_eq_true h1)] at hb
   rw [if_pos (show (([] : List (Nat × Nat)).length : Int) ≥ m from h1)]
   exact YOrc.step_of hb
  ·rw [branch_not (decide_eq_false h1)] at hb
   rw [if_neg (show ¬ (([] : List (Nat × Nat)).length : Int) ≥ m from h1)]
   cases hg : gtR p s r with
   | true =>
    rw [branch_of (show decide (orV (cmpV (r.1 : Int) p) (cmpV (r.2 : Int) s) > 0) = true from hg), branch_of (by rw [apOk_iff]; omega), catC_nil] at hb
    rw [if_pos rfl]
    exact YOrc.step_of hb
   | false =>
    rw [branch_not (show decide (orV (cmpV (r.1 : Int) p) (cmpV (r.2 : Int) s) > 0) = false from hg)] at hb
    rw [if_neg (by simp)]
    exact YOrc.step_of hb
 | cons x l =>
  have hb := aft_body 0 (x :: l).length (x :: l).length (rC (x :: l)) (hpA.ob 0 X 0) (hpA.ob 0 X 1) (hpA.ob 0 X 2) (.fn (.func 74) [] [.eptr [.ptr 0 0]]) p s (r.1 : Int) (r.2 : Int) m
  by_cases h1 : ((x :: l).length : Int) ≥ m
  ·rw [branch_of (decide_eq_true h1)] at hb
   rw [if_pos h1]
   exact YOrc.step_of hb
  ·rw [branch_not (decide_eq_false h1)] at hb
   rw [if_neg h1]
   cases hg : gtR p s r with
   | true =>
    rw [branch_of (show decide (orV (cmpV (r.1 : Int) p) (cmpV (r.2 : Int) s) > 0) = true from hg), branch_of (by rw [Nat.beq_refl, inC_rC, show apOk ((x :: l).length + 1) 16 = true by rw [apOk_iff]; omega]; rfl), catC_rC] at hb
    rw [if_pos rfl]
    have e : (x :: l).length + 1 = (x :: l ++ [r]).length := by simp
    rw [e] at hb
    exact YOrc.step_of hb
   | false =>
    rw [branch_not (show decide (orV (cmpV (r.1 : Int) p) (cmpV (r.2 : Int) s) > 0) = false from hg)] at hb
    rw [if_neg (by simp)]
    exact YOrc.step_of hb
theorem after_at {X : Hp} (h : X.Ok) (p s m : Int) : f31.run 0 [.ptr 0 0, .agg [.int .i64 p, .int .i64 s], .int .i64 m] ⟨X.obs, []⟩ = some (.ret (fV (X.after p s m)), ⟨X.obs ++ xV (X.after p s m), []⟩) := by
 have hlen := Hp.rids_len h
 obtain ⟨r, k1, k2, k3⟩ := rowsR_all (Y := yF) (j := 5) (I := fun rs st => ∃ l, l.length + rs.length ≤ 100000 ∧ l ++ (rs.filter (gtR p s)).take (m.toNat - l.length) = X.after p s m ∧ st = stA X 31 (tmF p s m) false l) (E := fun st => ∃ l, l = X.after p s m ∧ st = stA X 31 (tmF p s m) true l) h
  (fun r rs st ⟨l, e0, e1, e2⟩ => by
   have hs := aft_step X p s m l r (by simp at e0; omega)
   rw [← e2] at hs
   by_cases hc : (l.length : Int) ≥ m
   ·rw [if_pos hc] at hs
    refine ⟨_, _, hs, .inr ⟨rfl, l, ?_, rfl⟩⟩
    rw [← e1, show m.toNat - l.length = 0 by omega]; simp
   ·rw [if_neg hc] at hs
    cases hg : gtR p s r with
    | true =>
     rw [if_pos hg] at hs
     refine ⟨_, _, hs, .inl ⟨rfl, l ++ [r], by simp at e0 ⊢; omega, ?_, rfl⟩⟩
     rw [← e1, List.filter_cons_of_pos hg, show m.toNat - l.length = (m.toNat - (l ++ [r]).length) + 1 by simp; omega, List.take_succ_cons, List.append_assoc]; rfl
    | false =>
     rw [if_neg (by simp [hg])] at hs
     refine ⟨_, _, hs, .inl ⟨rfl, l, by simp at e0 ⊢; omega, ?_, e2⟩⟩
     rw [← e1, List.filter_cons_of_neg (by simp [hg])])
  (a := hpA.ob 0 X 0) (b := hpA.ob 0 X 1) (c := hpA.ob 0 X 2) (d := .cells [.nilsl]) (e := .nov 0) (s := 0) (i := 0) (f := 31) (tm := tmF p s m)
  (fun rs st ⟨l, _, _, e2⟩ => by rw [e2]; exact stA_hp h ..)
  ⟨[], by simp; omega, rfl, rfl⟩
  (fun st hst => by
   rcases hst with ⟨l, _, _, e2⟩ | ⟨l, _, e2⟩
   ·exact ⟨rOf false l, by rw [e2]; exact stA_lay .., rOf_ok _ _⟩
   ·exact ⟨rOf true l, by rw [e2]; exact stA_lay .., rOf_ok _ _⟩)
 have fin : ∃ e, r = rOf e (X.after p s m) := by
  rcases k1 with ⟨l, _, e1, e2⟩ | ⟨l, e1, e2⟩
  ·rw [List.filter_nil, List.take_nil, List.append_nil] at e1
   rw [stA_lay, e1] at e2
   exact ⟨false, layR_inj k2 (rOf_ok _ _) e2⟩
  ·rw [stA_lay, e1] at e2
   exact ⟨true, layR_inj k2 (rOf_ok _ _) e2⟩
 obtain ⟨e, rfl⟩ := fin
 rw [← hp_obl h, after_run]
 refine Eq.trans (congrArg (fun o => onSome o none (endR (hpA.ob 0 X 0) (hpA.ob 0 X 1) (hpA.ob 0 X 2))) k3) ?_
 rw [onSome_some]
 exact endR_rOf _ _ _ e _
noncomputable def q31 : OrcQ Try.prog := f31.byQ
 (fun args st k => match args with
  | [x, r, m] => hpA.on x st fun j X => onRid r fun p s => onInt m fun kd m => ifT (decide (kd = .i64)) (k (.ns (ridsE (X.after p s m)) 2 (ridsV (X.after p s m))))
  | _ => none)
 fun args st k fin h => by
  split at h
  ·rename_i x r m
   obtain ⟨j, X, rfl, hd, h1⟩ := ADT.on_spec h
   obtain ⟨p, s, rfl, h2⟩ := onRid_spec h1
   obtain ⟨kd, m, h3, rfl⟩ := onInt_spec h2
   obtain ⟨h4, h5⟩ := ifT_spec h3
   rw [decide_eq_true_eq] at h4
   subst h4
   refine ⟨_, h5, ?_⟩
   obtain ⟨n1, n2⟩ := fV_near (X.after p s m)
   have := ADT.placed (A := hpA) (f := f31) (x := X) (y := X) (args0 := [.ptr 0 0, .agg [.int .i64 p, .int .i64 s], .int .i64 m]) (r := fV (X.after p s m)) (xs := xV (X.after p s m)) (after_at hd.ok p s m) hd.ok ⟨by show 0 < 3; omega, ⟨trivial, trivial, trivial⟩, trivial, trivial⟩ n1 hd
   rw [hd.same, n2] at this
   exact CallsTo.wkR this (fV_wk _)
  ·cases h
theorem q31_nat : q31.NatQ := by
 intro args st k
 show (match args with | [x, r, m] => _ | _ => _) = thenA (match args with | [x, r, m] => _ | _ => _) k
 split
 ·exact ADT.on_nat fun j X => onRid_nat fun p s => onInt_nat fun _ _ => ifT_nat rfl
 ·rfl
def pT (l : List (List Nat)) : AV := match l with
 | [] => .nilsl
 | _ :: t => .vs 3 t.length 1 (t.length + 1)
def pS (l : List (List Nat)) : List Ob := match l with
 | [] => []
 | p :: t => [.vec t.length (pC (p :: t))]
def pF (l : List (List Nat)) : AV := match l with
 | [] => .nilsl
 | p :: t => .ns false 1 (cR (pC (p :: t)))
def pX (l : List (List Nat)) : List Ob := match l with
 | [] => []
 | p :: t => [.nov (t.length + 1)]
theorem pC_ns {ps : List (List Nat)} {i : Nat} (hi : i < ps.length) : nilA (List.drop (i * 1) (pC ps)) = false := by
 rw [Nat.mul_one, nilA_at (by rw [pC_length]; exact hi)]; simp [pC]; rfl
theorem pages_loop {ps : List (List Nat)} (h : ∀ b ∈ ps, PgB b) (F v n : Nat) (hn : n ≤ ps.length) (hm : ps.length ≤ 300) : ∀ (d i m : Nat), i + d = n → d < m →
  loopRun (f17_l0.run F) [3, 9, 10, 11] (Cont.block 0 (Cont.then (f17_r0.run F (f17.leaveK Fun.done)) (f17.leaveK Fun.done))) m (Env.mk 22 [(3, pT (ps.take i)), (9, .vs 1 v 1 n), (10, .int .i64 (n : Int)), (11, .int .i64 (i : Int))]) ⟨[.cells [.vs 1 v 1 n, .vs 2 v 1 n], .vec v (pC ps), .vec v (rmC ps)] ++ pS (ps.take i), []⟩
   = some (.ret (pF (ps.take n)), ⟨[.cells [.vs 1 v 1 n, .vs 2 v 1 n], .vec v (pC ps), .vec v (rmC ps)] ++ pX (ps.take n), []⟩)
 | d, i, 0, _, h => by omega
 | 0, i, m + 1, hi, _ => by
  obtain rfl : i = n := by omega
  rw [show m + 1 = m.succ from rfl]
  cases hl : ps.take i with
  | nil =>
   show loopRun (f17_l0.run F) [3, 9, 10, 11] _ m.succ (Env.mk 22 [(3, .nilsl), (9, .vs 1 v 1 i), (10, .int .i64 (i : Int)), (11, .int .i64 (i : Int))]) ⟨[.cells [.vs 1 v 1 i, .vs 2 v 1 i], .vec v (pC ps), .vec v (rmC ps)], []⟩ = _
   rw [pages_round0, branch_not (decide_eq_false (by omega)), pages_out0]
   rfl
  | cons p t =>
   show loopRun (f17_l0.run F) [3, 9, 10, 11] _ m.succ (Env.mk 22 [(3, .vs 3 t.length 1 (t.length + 1)), (9, .vs 1 v 1 i), (10, .int .i64 (i : Int)), (11, .int .i64 (i : Int))]) ⟨[.cells [.vs 1 v 1 i, .vs 2 v 1 i], .vec v (pC ps), .vec v (rmC ps), .vec t.length (pC (p :: t))], []⟩ = _
   rw [pages_round, branch_not (decide_eq_false (by omega)), pages_out, branch_of (by rw [Nat.beq_refl, inC_one (by rw [pC_length]; simp)]; rfl), rowsC_one (by rw [pC_length]; simp)]
   have e : (pC (p :: t)).take (t.length + 1) = pC (p :: t) := List.take_of_length_le (by rw [pC_length]; simp)
   rw [e]
   rfl
 | d + 1, i, m + 1, hi, hm' => by
  have hlt : i < ps.length := by omega
  obtain ⟨a1, a2, a3⟩ := pC_at h hlt
  have a4 := pC_ns hlt
  have ap : apOk (bR ps[i]).length 1 = true := by rw [apOk_iff, bR_length, (h _ (List.getElem_mem hlt)).1.2.1]; omega
  have et : ps.take (i + 1) = ps.take i ++ [ps[i]] := by rw [List.take_add_one, List.getElem?_eq_getElem hlt]; rfl
  have ih := pages_loop h F v n hn hm d (i + 1) m (by omega) (by omega)
  rw [et] at ih
  rw [show m + 1 = m.succ from rfl, ← ih]
  have hl : (ps.take i).length = i := by rw [List.length_take]; omega
  cases hp : ps.take i with
  | nil =>
   show loopRun (f17_l0.run F) [3, 9, 10, 11] _ m.succ (Env.mk 22 [(3, .nilsl), (9, .vs 1 v 1 n), (10, .int .i64 (n : Int)), (11, .int .i64 (i : Int))]) ⟨[.cells [.vs 1 v 1 n, .vs 2 v 1 n], .vec v (pC ps), .vec v (rmC ps)], []⟩ = _
   rw [pages_round0, branch_of (decide_eq_true (by omega)), if_pos ⟨by omega, by omega⟩, branch_of (Nat.beq_refl _), branch_of a1, a2, branch_of (by rw [a4, a3, ap]; rfl), branch_of (by rw [apOk_iff]; omega), wrap_succ (by omega), catC_nil]
   rfl
  | cons p t =>
   rw [hp] at hl
   simp only [List.length_cons] at hl
   show loopRun (f17_l0.run F) [3, 9, 10, 11] _ m.succ (Env.mk 22 [(3, .vs 3 t.length 1 (t.length + 1)), (9, .vs 1 v 1 n), (10, .int .i64 (n : Int)), (11, .int .i64 (i : Int))]) ⟨[.cells [.vs 1 v 1 n, .vs 2 v 1 n], .vec v (pC ps), .vec v (rmC ps), .vec t.length (pC (p :: t))], []⟩ = _
   rw [pages_round, branch_of (decide_eq_true (by omega)), if_pos ⟨by omega, by omega⟩, branch_of (Nat.beq_refl _), branch_of a1, a2, branch_of (by rw [a4, a3, ap]; rfl), branch_of (by rw [Nat.beq_refl, inC_one (by rw [pC_length]; simp), show apOk (t.length + 1 + 1) 24 = true by rw [apOk_iff]; omega]; rfl), wrap_succ (by omega), catC_one (by rw [pC_length]; simp)]
   have e : pC (p :: t) ++ [AV.ns false 1 (bR ps[i])] = pC (p :: t ++ [ps[i]]) := by simp [pC]
   rw [e]
   show _ = loopRun (f17_l0.run F) [3, 9, 10, 11] _ m (Env.mk 22 [(3, .vs 3 (t ++ [ps[i]]).length 1 ((t ++ [ps[i]]).length + 1)), (9, .vs 1 v 1 n), (10, .int .i64 (n : Int)), (11, .int .i64 ((i + 1 : Nat) : Int))]) ⟨[.cells [.vs 1 v 1 n, .vs 2 v 1 n], .vec v (pC ps), .vec v (rmC ps), .vec (t ++ [ps[i]]).length (pC (p :: (t ++ [ps[i]])))], []⟩
   rw [List.length_append, List.length_singleton]
   rfl
theorem pages_at {X : Hp} (h : X.Ok) : f17.run 1000 [.ptr 0 0] ⟨X.obs, []⟩ = some (.ret (pF X.pg_), ⟨X.obs ++ pX X.pg_, []⟩) := by
 obtain ⟨v, ps, n⟩ := X
 have hn := h.n
 have hm := h.m
 simp only at hn hm
 cases v with
 | zero =>
  obtain ⟨h1, h2⟩ := h.z rfl
  simp only at h1 h2
  subst h1; subst h2
  exact pages_nil 999
 | succ v =>
  show f17.run 1000 [.ptr 0 0] ⟨[.cells [.vs 1 (v + 1) 1 n, .vs 2 (v + 1) 1 n], .vec (v + 1) (pC ps), .vec (v + 1) (rmC ps)], []⟩ = _
  rw [pages_run]
  have := pages_loop h.pg 1000 (v + 1) n hn hm n 0 1000 (by omega) (by omega)
  rw [List.take_zero] at this
  exact this
noncomputable def pgsE (l : List (List Nat)) : Bool := opq l.isEmpty
noncomputable def pgsV (l : List (List Nat)) : List (List AV) := opq (cR (pC l))
theorem pgsV_length (l : List (List Nat)) : (pgsV l).length = l.length := by rw [pgsV, opq_eq, cR_length, pC_length]
theorem pgsV_ok {l : List (List Nat)} (h : ∀ b ∈ l, PgB b) (hl : l.length ≤ 300) : okBs (pgsV l) = true := by
 rw [okBs_iff, pgsV_length]
 refine ⟨fun r hr => ?_, by omega⟩
 rw [pgsV, opq_eq, cR, pC, List.map_map, List.mem_map] at hr
 obtain ⟨b, hb, rfl⟩ := hr
 show (Nat.beq 1 1 && byOk (bR b)) = true
 rw [(h b hb).byOk]; rfl
theorem cR_scoped {n m : Nat} : ∀ l : List (List Nat), ScopedR n m (cR (pC l))
 | [] => trivial
 | b :: l => ⟨⟨bR_scoped b, trivial⟩, cR_scoped l⟩
noncomputable def q17 : OrcQ Try.prog := f17.byQ
 (fun args st k => match args with
  | [x] => hpA.on x st fun j X => k (.ns (pgsE X.pg_) 1 (pgsV X.pg_))
  | _ => none)
 fun args st k fin h => by
  split at h
  ·rename_i x
   obtain ⟨j, X, rfl, hd, h1⟩ := ADT.on_spec h
   refine ⟨_, h1, ?_⟩
   have hn : Near 3 (frz (pF X.pg_)) ∧ (∀ τ, ren τ (frz (pF X.pg_)) = frz (pF X.pg_)) ∧ Wk (frz (pF X.pg_)) (.ns (pgsE X.pg_) 1 (pgsV X.pg_)) := by
    rw [pgsE, pgsV, opq_eq, opq_eq]
    cases X.pg_ with
    | nil => exact ⟨trivial, fun _ => rfl, .nil⟩
    | cons p t => exact ⟨cR_scoped (p :: t), fun _ => rfl, .refl _⟩
   obtain ⟨n1, n2, n3⟩ := hn
   have := ADT.placed (A := hpA) (f := f17) (x := X) (y := X) (args0 := [.ptr 0 0]) (r := pF X.pg_) (xs := pX X.pg_) (pages_at hd.ok) hd.ok ⟨by show 0 < 3; omega, trivial⟩ n1 hd
   rw [hd.same, n2] at this
   exact CallsTo.wkR this n3
  ·cases h
noncomputable def f9_b : Sim Try.prog :=
 (.seq (.live [] (.region 0 [
 ⟨(opAssign (some 0) (.const (Value.bool false)) 4 "law.go:20" #[]).op, none⟩
 ] (by kernel_rfl)))
 (.seq (.live [1] (.region 1 [
 ⟨opCall (s11).orc (some 8) [] #[] 26 "law.go:21" #[], none⟩,
 ⟨(opAssign (some 1) (.tmp 8) 26 "law.go:21" #[eD 0, eC 0, eP 0]).op, none⟩
 ] (by kernel_rfl)))
 (.seq (.seq (.live [1, 10] (.region 2 [
 ⟨(opMove (some 9) (.tmp 1) 26 "law.go:22" #[]).op, none⟩,
 ⟨(opEq (some 10) 26 (.pointer 67) Try.underlying26 (.tmp 9) (.const (Value.pointer none)) (.inl rfl) 26 4 "law.go:22" #[eD 0]).op, none⟩
 ] (by kernel_rfl)))
 (.cond (.tmp 10)
 (.seq (.live [0] (.region 3 [
 ⟨(opAssign (some 0) (.const (Value.bool false)) 4 "law.go:23" #[]).op, none⟩
 ] (by kernel_rfl)))
 (.live [0] .ret))
 .skip))
 (.seq (.live [1, 2, 3] (.items 4 [
 .one ((opMove (some 12) (.tmp 1) 26 "law.go:25" #[]).op),
 .one ((opBuildSliceO (some 13) 34 1 [(0, (.const (Value.int IntKind.u8 97)))] 5 1 1 (.int .u8 0) el34 (by kernel_rfl) (by decide) 34 "law.go:25" #[]).op),
 .one ((opConvSl (some 14) 34 (.tmp 13) 5 Try.underlying34 Try.underlying5 34 "law.go:25" #[eD 1]).op),
 .one (opCall (s12).orc (some 15) [(.tmp 12), (.tmp 14)] #[26, 34] 32 "law.go:25" #[eD 0, eD 2]),
 .one ((opMove (some 11) (.tmp 15) 32 "law.go:25" #[eD 3]).op),
 .one ((opExtract (some 16) (.tmp 11) 0 30 "law.go:25" #[eD 4]).op),
 .one ((opExtract (some 17) (.tmp 11) 1 31 "law.go:25" #[eD 4, eX 8]).op),
 .two (op2Box 2 30 (.agg #[(.int .i64 0), (.int .i64 0)]) ze30 (.tmp 16) (by rfl) 2 sz30 (by kernel_rfl) 67 (by rfl) 0 0 "law.go:25" "law.go:25" #[] #[eD 7, eD 5, eC 3, eP 0, eP 1, eP 2, eP 3, eP 4, eP 5, eT 6, eP 7]),
 .one ((opAssign (some 3) (.tmp 17) 31 "law.go:25" #[eD 6, eC 8, eP 0, eP 1, eP 2, eP 3, eP 4, eP 5, eP 6, eP 7, eP 8]).op)
 ]))
 (.seq (.live [1, 2, 3, 4] (.region 5 [
 ⟨(opMove (some 18) (.tmp 1) 26 "law.go:26" #[]).op, none⟩,
 ⟨(opLoadT (.agg [(.int .i64), (.int .i64)]) (some 19) 30 (.tmp 2) d30 ud30 2 sz30 (by kernel_rfl) 30 "law.go:26" #[]).op, none⟩,
 ⟨opCall (s13).orc (some 20) [(.tmp 18), (.tmp 19)] #[26, 30] 31 "law.go:26" #[eD 0, eD 1], none⟩,
 ⟨(opAssign (some 4) (.tmp 20) 31 "law.go:26" #[eD 2, eC 2, eP 0, eP 1, eP 2]).op, none⟩
 ] (by kernel_rfl)))
 (.seq (.live [1, 2, 3, 4, 5] (.region 6 [
 ⟨(opMove (some 21) (.tmp 1) 26 "law.go:27" #[]).op, none⟩,
 ⟨(opBuild (some 22) 30 #[(.int .i64 0), (.int .i64 0)] [(0, 0, 1, (.const (Value.int IntKind.i64 1))), (1, 1, 1, (.const (Value.int IntKind.i64 2)))] ze30 (by kernel_rfl) 30 "law.go:27" #[]).op, none⟩,
 ⟨(opBuildSliceO (some 23) 34 1 [(0, (.const (Value.int IntKind.u8 98)))] 5 1 1 (.int .u8 0) el34 (by kernel_rfl) (by decide) 34 "law.go:27" #[]).op, none⟩,
 ⟨(opConvSl (some 24) 34 (.tmp 23) 5 Try.underlying34 Try.underlying5 34 "law.go:27" #[eD 2]).op, none⟩,
 ⟨opCall (s22).orc (some 25) [(.tmp 21), (.tmp 22), (.tmp 24)] #[26, 30, 34] 31 "law.go:27" #[eD 0, eD 1, eD 3], none⟩,
 ⟨(opAssign (some 5) (.tmp 25) 31 "law.go:27" #[eD 4, eC 4, eP 0, eP 1, eP 2, eP 3, eP 4]).op, none⟩
 ] (by kernel_rfl)))
 (.seq (.live [1, 2, 3, 4, 5, 6, 7] (.region 7 [
 ⟨(opMove (some 27) (.tmp 1) 26 "law.go:28" #[]).op, none⟩,
 ⟨(opBuild (some 28) 30 #[(.int .i64 0), (.int .i64 0)] [(0, 0, 1, (.const (Value.int IntKind.i64 1))), (1, 1, 1, (.const (Value.int IntKind.i64 2)))] ze30 (by kernel_rfl) 30 "law.go:28" #[]).op, none⟩,
 ⟨(opCallQ q14 (some 29) [(.tmp 27), (.tmp 28)] #[26, 30] 37 "law.go:28" #[eD 0, eD 1]).op, none⟩,
 ⟨(opMove (some 26) (.tmp 29) 37 "law.go:28" #[eD 2]).op, none⟩,
 ⟨(opExtract (some 30) (.tmp 26) 0 34 "law.go:28" #[eD 3]).op, none⟩,
 ⟨(opExtract (some 31) (.tmp 26) 1 4 "law.go:28" #[eD 3, eX 6]).op, none⟩,
 ⟨(opAssign (some 6) (.tmp 30) 34 "law.go:28" #[eD 4, eC 2, eP 0, eP 1, eP 2, eP 3, eP 4, eT 5]).op, none⟩,
 ⟨(opAssign (some 7) (.tmp 31) 4 "law.go:28" #[eD 5, eC 6, eP 0, eP 1, eP 2, eP 3, eP 4, eP 5, eP 6]).op, none⟩
 ] (by kernel_rfl)))
 (.seq (.live [0] (.region 8 [
 ⟨(opMove (some 32) (.tmp 3) 31 "law.go:29" #[]).op, none⟩,
 ⟨(opBin (some 33) .eql 31 (.tmp 32) (.const (Value.int IntKind.i64 0)) 31 4 "law.go:29" #[eD 0]).op, none⟩,
 ⟨(opMove (some 34) (.tmp 33) 4 "law.go:29" #[eD 1]).op, none⟩,
 ⟨(opMove (some 35) (.tmp 4) 31 "law.go:29" #[eG 2]).op, (some (2, 34, true))⟩,
 ⟨(opBin (some 36) .eql 31 (.tmp 35) (.const (Value.int IntKind.i64 0)) 31 4 "law.go:29" #[eD 3, eG 2]).op, (some (2, 34, true))⟩,
 ⟨(opPick (some 37) (.tmp 34) (.tmp 36) (.const (Value.bool false)) 4 "law.go:29" #[eD 2, eD 4]).op, none⟩,
 ⟨(opMove (some 38) (.tmp 37) 4 "law.go:29" #[eD 5, eC 2]).op, none⟩,
 ⟨(opMove (some 39) (.tmp 5) 31 "law.go:29" #[eG 6]).op, (some (6, 38, true))⟩,
 ⟨(opBin (some 40) .eql 31 (.tmp 39) (.const (Value.int IntKind.i64 0)) 31 4 "law.go:29" #[eD 7, eG 6]).op, (some (6, 38, true))⟩,
 ⟨(opPick (some 41) (.tmp 38) (.tmp 40) (.const (Value.bool false)) 4 "law.go:29" #[eD 6, eD 8]).op, none⟩,
 ⟨(opMove (some 42) (.tmp 41) 4 "law.go:29" #[eD 9, eC 6]).op, none⟩,
 ⟨(opLoadT (.agg [(.int .i64), (.int .i64)]) (some 43) 30 (.tmp 2) d30 ud30 2 sz30 (by kernel_rfl) 30 "law.go:29" #[eG 10]).op, (some (10, 42, true))⟩,
 ⟨(opBuild (some 44) 30 #[(.int .i64 0), (.int .i64 0)] [] ze30 (by kernel_rfl) 30 "law.go:29" #[eG 10]).op, (some (10, 42, true))⟩,
 ⟨(opEqS (some 45) 30 [(0, 0), (1, 0)] eq30 (.tmp 43) (.tmp 44) 30 4 "law.go:29" #[eD 11, eD 12, eG 10]).op, (some (10, 42, true))⟩,
 ⟨(opPick (some 46) (.tmp 42) (.tmp 45) (.const (Value.bool false)) 4 "law.go:29" #[eD 10, eD 13]).op, none⟩,
 ⟨(opMove (some 47) (.tmp 46) 4 "law.go:29" #[eD 14, eC 10]).op, none⟩,
 ⟨(opMove (some 48) (.tmp 7) 4 "law.go:29" #[eG 15]).op, (some (15, 47, true))⟩,
 ⟨(opPick (some 49) (.tmp 47) (.tmp 48) (.const (Value.bool false)) 4 "law.go:29" #[eD 15, eD 16]).op, none⟩,
 ⟨(opMove (some 50) (.tmp 49) 4 "law.go:29" #[eD 17, eC 15]).op, none⟩,
 ⟨(opMove (some 51) (.tmp 6) 34 "law.go:29" #[eG 18]).op, (some (18, 50, true))⟩,
 ⟨(opBytesStrC (some 52) 34 9 (.tmp 51) 5 Try.underlying34 Try.underlying5 Try.underlying9 9 "law.go:29" #[eD 19, eG 18]).op, (some (18, 50, true))⟩,
 ⟨(opBinS (some 53) .eql 9 (.tmp 52) (.const (Value.string { data := #[98] })) 9 4 "law.go:29" #[eD 20, eG 18]).op, (some (18, 50, true))⟩,
 ⟨(opPick (some 54) (.tmp 50) (.tmp 53) (.const (Value.bool false)) 4 "law.go:29" #[eD 18, eD 21]).op, none⟩,
 ⟨(opMove (some 55) (.tmp 54) 4 "law.go:29" #[eD 22, eC 18]).op, none⟩,
 ⟨(opMove (some 56) (.tmp 1) 26 "law.go:29" #[eG 23]).op, (some (23, 55, true))⟩,
 ⟨(opCallQ q17 (some 57) [(.tmp 56)] #[26] 22 "law.go:29" #[eD 24, eC 23, eG 23]).op, (some (23, 55, true))⟩,
 ⟨(opLen (some 58) (.tmp 57) 22 (.slice 34) Try.underlying22 3 "law.go:29" #[eD 25, eG 23]).op, (some (23, 55, true))⟩,
 ⟨(opBin (some 59) .eql 3 (.tmp 58) (.const (Value.int IntKind.i64 2)) 3 4 "law.go:29" #[eD 26, eG 23]).op, (some (23, 55, true))⟩,
 ⟨(opPick (some 60) (.tmp 55) (.tmp 59) (.const (Value.bool false)) 4 "law.go:29" #[eD 23, eD 27]).op, none⟩,
 ⟨(opMove (some 61) (.tmp 60) 4 "law.go:29" #[eD 28, eC 25]).op, none⟩,
 ⟨(opMove (some 62) (.tmp 1) 26 "law.go:29" #[eG 29]).op, (some (29, 61, true))⟩,
 ⟨(opCallQ q16 (some 63) [(.tmp 62)] #[26] 40 "law.go:29" #[eD 30, eC 29, eG 29]).op, (some (29, 61, true))⟩,
 ⟨(opLen (some 64) (.tmp 63) 40 (.slice 30) Try.underlying40 3 "law.go:29" #[eD 31, eG 29]).op, (some (29, 61, true))⟩,
 ⟨(opBin (some 65) .eql 3 (.tmp 64) (.const (Value.int IntKind.i64 1)) 3 4 "law.go:29" #[eD 32, eG 29]).op, (some (29, 61, true))⟩,
 ⟨(opPick (some 66) (.tmp 61) (.tmp 65) (.const (Value.bool false)) 4 "law.go:29" #[eD 29, eD 33]).op, none⟩,
 ⟨(opAssign (some 0) (.tmp 66) 4 "law.go:29" #[eD 34, eC 31, eP 0, eP 1, eP 2, eP 3, eP 4, eP 5, eP 6, eP 7, eP 8, eP 9, eP 10, eP 11, eP 12, eP 13, eP 14, eP 15, eP 16, eP 17, eP 18, eP 19, eP 20, eP 21, eP 22, eP 23, eP 24, eP 25, eP 26, eP 27, eP 28, eP 29, eP 30, eP 31, eP 32, eP 33, eP 34]).op, none⟩
 ] (by kernel_rfl)))
 (.live [0] .ret)))))))))
noncomputable def f9 : Fun Try.prog where
 id := 9
 fn := Try.f9
 hf := Try.func9
 hname := by kernel_rfl
 body := f9_b
 hbody := by kernel_rfl
 res := [rTmp 0]
 hres := by kernel_rfl
 n := 67
 hn := by kernel_rfl
theorem alive_run (F : Nat) :
 (f9.run F [] ⟨[], []⟩ : Ans) =
 onSome
 (hpA.G 0 [hpA.ob 0 hp0 0, hpA.ob 0 hp0 1, hpA.ob 0 hp0 2])
 none fun (o : Hp) =>
 branch (.bool (byOk [[AV.int IntKind.u8 (97 : Int)]]))
 (onSome
 (hpA.G 0
 [hpA.ob 0 (o.addO [97]) 0, hpA.ob 0 (o.addO [97]) 1,
 hpA.ob 0 (o.addO [97]) 2])
 none fun (o_1 : Hp) =>
 onSome
 (hpA.G 0
 [hpA.ob 0 (o_1.cutO (o.addR [97]) (o.addS [97])) 0,
 hpA.ob 0 (o_1.cutO (o.addR [97]) (o.addS [97])) 1,
 hpA.ob 0 (o_1.cutO (o.addR [97]) (o.addS [97])) 2])
 none fun (o_2 : Hp) =>
 branch (.bool (byOk [[AV.int IntKind.u8 (98 : Int)]] && apOk 1 1))
 (onSome
 (hpA.G 0
 [hpA.ob 0 (o_2.resO (1 : Int) (2 : Int) [98]) 0,
 hpA.ob 0 (o_2.resO (1 : Int) (2 : Int) [98]) 1,
 hpA.ob 0 (o_2.resO (1 : Int) (2 : Int) [98]) 2])
 none fun (o_3 : Hp) =>
 branch (.bool (o.addE [97] == 0))
 (branch (.bool (o_1.cutE (o.addR [97]) (o.addS [97]) == 0))
 (branch (.bool (o_2.resE (1 : Int) (2 : Int) [98] == 0))
 (branch (.bool (o.addR [97] == 0 && (o.addS [97] == 0 && true)))
 (branch (.bool (oB (o_3.get (1 : Int) (2 : Int))))
 (branch (.bool (okR (oR (o_3.get (1 : Int) (2 : Int)))))
 (branch (.bool ((txC (oR (o_3.get (1 : Int) (2 : Int)))).toList == [UInt8.ofNat 98]))
 (onSome
 (hpA.G 0
 [hpA.ob 0 (o_2.resO (1 : Int) (2 : Int) [98]) 0,
 hpA.ob 0 (o_2.resO (1 : Int) (2 : Int) [98]) 1,
 hpA.ob 0 (o_2.resO (1 : Int) (2 : Int) [98]) 2])
 none fun (o : Hp) =>
 branch (.bool ((↑(pgsV o.pg_).length : Int) == 2))
 (onSome
 (hpA.G 0
 [hpA.ob 0 (o_2.resO (1 : Int) (2 : Int) [98]) 0,
 hpA.ob 0 (o_2.resO (1 : Int) (2 : Int) [98]) 1,
 hpA.ob 0 (o_2.resO (1 : Int) (2 : Int) [98]) 2])
 none fun (o : Hp) =>
 some
 (Fin.ret (.bool ((↑(ridsV o.rids).length : Int) == 1)),
 St.mk
 [hpA.ob 0 (o_2.resO (1 : Int) (2 : Int) [98]) 0,
 hpA.ob 0 (o_2.resO (1 : Int) (2 : Int) [98]) 1,
 hpA.ob 0 (o_2.resO (1 : Int) (2 : Int) [98]) 2, Ob.gone,
 Ob.gone]
 []))
 (some
 (Fin.ret (.bool false),
 St.mk
 [hpA.ob 0 (o_2.resO (1 : Int) (2 : Int) [98]) 0,
 hpA.ob 0 (o_2.resO (1 : Int) (2 : Int) [98]) 1,
 hpA.ob 0 (o_2.resO (1 : Int) (2 : Int) [98]) 2, Ob.gone,
 Ob.gone]
 [])))
 (some
 (Fin.ret (.bool false),
 St.mk
 [hpA.ob 0 (o_2.resO (1 : Int) (2 : Int) [98]) 0,
 hpA.ob 0 (o_2.resO (1 : Int) (2 : Int) [98]) 1,
 hpA.ob 0 (o_2.resO (1 : Int) (2 : Int) [98]) 2, Ob.gone,
 Ob.gone]
 [])))
 none)
 (some
 (Fin.ret (.bool false),
 St.mk
 [hpA.ob 0 (o_2.resO (1 : Int) (2 : Int) [98]) 0,
 hpA.ob 0 (o_2.resO (1 : Int) (2 : Int) [98]) 1,
 hpA.ob 0 (o_2.resO (1 : Int) (2 : Int) [98]) 2, Ob.gone, Ob.gone]
 [])))
 (some
 (Fin.ret (.bool false),
 St.mk
 [hpA.ob 0 (o_2.resO (1 : Int) (2 : Int) [98]) 0,
 hpA.ob 0 (o_2.resO (1 : Int) (2 : Int) [98]) 1,
 hpA.ob 0 (o_2.resO (1 : Int) (2 : Int) [98]) 2, Ob.gone, Ob.gone]
 [])))
 (some
 (Fin.ret (.bool false),
 St.mk
 [hpA.ob 0 (o_2.resO (1 : Int) (2 : Int) [98]) 0,
 hpA.ob 0 (o_2.resO (1 : Int) (2 : Int) [98]) 1,
 hpA.ob 0 (o_2.resO (1 : Int) (2 : Int) [98]) 2, Ob.gone, Ob.gone]
 [])))
 (some
 (Fin.ret (.bool false),
 St.mk
 [hpA.ob 0 (o_2.resO (1 : Int) (2 : Int) [98]) 0,
 hpA.ob 0 (o_2.resO (1 : Int) (2 : Int) [98]) 1,
 hpA.ob 0 (o_2.resO (1 : Int) (2 : Int) [98]) 2, Ob.gone, Ob.gone]
 [])))
 (some
 (Fin.ret (.bool false),
 St.mk
 [hpA.ob 0 (o_2.resO (1 : Int) (2 : Int) [98]) 0,
 hpA.ob 0 (o_2.resO (1 : Int) (2 : Int) [98]) 1,
 hpA.ob 0 (o_2.resO (1 : Int) (2 : Int) [98]) 2, Ob.gone, Ob.gone]
 [])))
 none)
 none := by kernel_rfl
theorem Pg.inj {p q : List Nat} (hp : Pg p) (hq : Pg q) (h : ofS p = ofS q) : p = q := by
 have h1 := hp.slots.2.2.2.2
 have h2 := hq.slots.2.2.2.2
 rw [← h1, ← h2, h]
theorem ofS_zero : ofS zeroP = [] := by rw [zeroP, opq_eq]; exact zeros_pg.2
theorem slN_zeroP : slN zeroP = 0 := by rw [slN, ofS_zero]; rfl
theorem slotsI_nil : ∀ {s : Sl} {i : Nat}, slotsI s i = [] → ∀ j, getS s j = none
 | [], i, _, j => getS_ge (Nat.zero_le _)
 | none :: s, i, h, 0 => rfl
 | none :: s, i, h, j + 1 => slotsI_nil (s := s) (i := i + 1) h j
 | some b :: s, i, h, j => by cases h
theorem PgB.zero {p : List Nat} (hp : PgB p) (h : slN p = 0) : p = zeroP := by
 refine hp.1.inj zeroP_pg.1 ?_
 rw [ofS_zero]
 have h0 : slotsI (ofS p) 0 = [] := List.eq_nil_of_length_eq_zero h
 refine sl_ext hp.1.slots.2.2.2.1 rfl fun i => ?_
 rw [slotsI_nil h0 i, getS_ge (Nat.zero_le _)]
theorem Hp.at_lt {X : Hp} {i : Nat} (h : i < X.pg_.length) : X.at_ i = X.pg_[i] := by
 rw [Hp.at_, List.getElem?_eq_getElem h]; rfl
theorem Hp.at_ge {X : Hp} {i : Nat} (h : X.pg_.length ≤ i) : X.at_ i = zeroP := by
 rw [Hp.at_, List.getElem?_eq_none h]; rfl
theorem at_append {A : List (List Nat)} (c i : Nat) : ((A ++ List.replicate c zeroP)[i]?).getD zeroP = (A[i]?).getD zeroP := by
 rcases Nat.lt_or_ge i A.length with h | h
 ·rw [List.getElem?_append_left h]
 ·rw [List.getElem?_append_right h, List.getElem?_eq_none h, List.getElem?_replicate]
  split <;> rfl
theorem Hp.at_growTo {X : Hp} (h : X.Ok) {c : Nat} (hc : X.n + c ≤ 300) (i : Nat) : (X.growTo c).at_ i = X.at_ i := by
 rw [Hp.at_, (Hp.growTo_ok c h hc).2.2, at_append]; rfl
theorem Hp.at_put {X : Hp} (h : X.Ok) {k : Nat} (hk : k < X.n) (p : List Nat) (i : Nat) : (X.put k p).at_ i = if i = k then p else X.at_ i := by
 have hl := Hp.pg_len h
 have hn := h.n
 have e : (X.put k p).pg_ = X.pg_.set k p := by simp only [Hp.put, Hp.pg_, List.take_set]
 rw [Hp.at_, e, List.getElem?_set]
 by_cases hi : k = i
 ·subst hi; rw [if_pos rfl, if_pos (by omega), if_pos rfl]; rfl
 ·rw [if_neg hi, if_neg (fun e => hi e.symm)]; rfl
theorem trH_zero {ps : List (List Nat)} : ∀ {n i : Nat}, trH ps n ≤ i → i < n → slN (ps.getD i []) = 0
 | 0, i, _, h => by omega
 | n + 1, i, h, hi => by
  rw [trH] at h
  split at h
  ·rename_i h0
   by_cases e : i = n
   ·rw [e]; exact h0
   ·exact trH_zero h (by omega)
  ·omega
theorem trH_top {ps : List (List Nat)} : ∀ {n m : Nat}, trH ps n = m + 1 → slN (ps.getD m []) ≠ 0
 | 0, m, h => by cases h
 | n + 1, m, h => by
  rw [trH] at h
  split at h
  ·exact trH_top h
  ·rename_i h0; obtain rfl : n = m := by omega
   exact h0
theorem Hp.at_trim {X : Hp} (h : X.Ok) (i : Nat) : X.trim.at_ i = X.at_ i := by
 have hn := h.n
 have hle := trH_le X.ps X.n
 rw [Hp.at_, Hp.at_]
 show ((X.ps.take (trH X.ps X.n))[i]?).getD zeroP = ((X.ps.take X.n)[i]?).getD zeroP
 rw [List.getElem?_take, List.getElem?_take]
 by_cases h1 : i < trH X.ps X.n
 ·rw [if_pos h1, if_pos (by omega)]
 ·rw [if_neg h1]
  by_cases h2 : i < X.n
  ·rw [if_pos h2]
   have h3 := trH_zero (ps := X.ps) (n := X.n) (i := i) (by omega) h2
   have hi : i < X.ps.length := by omega
   rw [List.getD_eq_getElem?_getD, List.getElem?_eq_getElem hi] at h3
   rw [List.getElem?_eq_getElem hi]
   show zeroP = X.ps[i]
   exact ((h.pg _ (List.getElem_mem hi)).zero h3).symm
  ·rw [if_neg h2]
def Hp.Tight (X : Hp) : Prop := ∀ m, X.n = m + 1 → slN (X.at_ m) ≠ 0
theorem Hp.trim_tight {X : Hp} (h : X.Ok) : X.trim.Tight := by
 intro m hm
 have hm : trH X.ps X.n = m + 1 := hm
 have h1 := trH_top hm
 have hle := trH_le X.ps X.n
 have hn := h.n
 have hi : m < X.ps.length := by omega
 rw [Hp.at_trim h, Hp.at_]
 show slN (((X.ps.take X.n)[m]?).getD zeroP) ≠ 0
 rw [List.getElem?_take, if_pos (by omega), List.getElem?_eq_getElem hi]
 rw [List.getD_eq_getElem?_getD, List.getElem?_eq_getElem hi] at h1
 exact h1
theorem Hp.set_spec {X : Hp} (h : X.Ok) {k : Nat} {p : List Nat} (hp : PgB p) (hk : k < 300) :
  (X.set k p).Ok ∧ (X.set k p).Tight ∧ (∀ i, (X.set k p).at_ i = if i = k then p else X.at_ i) ∧ (X.set k p).n ≤ max X.n (k + 1) := by
 have hn := h.n
 have hm := h.m
 obtain ⟨g1, g2, g3⟩ := Hp.growTo_ok (k + 1 - X.n) h (by omega)
 have g4 := g1.put (k := k) hp
 refine ⟨h.set hp hk, Hp.trim_tight g4, fun i => ?_, ?_⟩
 ·rw [Hp.set, Hp.at_trim g4, Hp.at_put g1 (by omega), Hp.at_growTo h (by omega)]
 ·rw [Hp.set]
  refine Nat.le_trans (trH_le _ _) ?_
  show (X.growTo (k + 1 - X.n)).n ≤ _
  omega
theorem Hp.get_eq (X : Hp) (p s : Int) : X.get p s = if 0 ≤ p then getP (ofS (X.at_ p.toNat)) s else none := by
 rw [Hp.get, Hp.at_]
 split
 ·cases X.pg_[p.toNat]? with
  | some b => rfl
  | none =>
   show none = getP (ofS zeroP) s
   rw [ofS_zero, getP]
   split <;> rfl
 ·rfl
theorem hp0_tight : hp0.Tight := fun m h => by cases h
structure Hp.Fine (X : Hp) : Prop where
 ok : X.Ok
 ti : X.Tight
 n : X.n ≤ 256
theorem hp0_fine : hp0.Fine := ⟨hp0_ok, hp0_tight, Nat.zero_le _⟩
theorem Hp.add_fine {X : Hp} (h : X.Fine) {b : List Nat} (hb : ∀ x ∈ b, x < 256) :
  ((200 < b.length ∨ 256 ≤ X.k b) ∧ X.add b = X ∧ X.addE b ≠ 0 ∧ X.addR b = 0 ∧ X.addS b = 0) ∨
  (b.length ≤ 200 ∧ X.k b < 256 ∧ X.addE b = 0 ∧ X.addR b = (X.k b : Int) ∧ X.addS b = (freeK (ofS (X.at_ (X.k b))) : Int) ∧ freeK (ofS (X.at_ (X.k b))) ≤ 250 ∧
   ∃ q, addP (X.at_ (X.k b)) b = some q ∧ PgB q ∧ ofS q = withS (ofS (X.at_ (X.k b))) (freeK (ofS (X.at_ (X.k b)))) (some b) ∧ X.add b = X.set (X.k b) q) := by
 by_cases hg : b.length ≤ 200
 ·by_cases hk : X.k b < 256
  ·right
   have e : X.addB b = true := by rw [Hp.addB, decide_eq_true hg, Nat.blt_eq.mpr hk]; rfl
   have hs := Hp.k_room h.ok hg
   cases ha : addP (X.at_ (X.k b)) b with
   | none => rw [ha] at hs; cases hs
   | some q =>
    obtain ⟨k1, k2, k3⟩ := (Hp.at_ok h.ok _).add hb ha
    refine ⟨hg, hk, ?_, ?_, ?_, k3, q, rfl, k1, k2, ?_⟩
    ·rw [Hp.addE, opq_eq, decide_eq_true hg, Nat.blt_eq.mpr hk]; rfl
    ·rw [Hp.addR, opq_eq, e]; rfl
    ·rw [Hp.addS, opq_eq, e, cond_true, addK, opq_eq, ha]; rfl
    ·rw [Hp.add, e, ha]; rfl
  ·left
   have hb2 : Nat.blt (X.k b) 256 = false := by rw [Bool.eq_false_iff, ne_eq, Nat.blt_eq]; exact hk
   have e : X.addB b = false := by rw [Hp.addB, hb2, Bool.and_false]
   refine ⟨.inr (by omega), by rw [Hp.add, e]; rfl, ?_, by rw [Hp.addR, opq_eq, e]; rfl, by rw [Hp.addS, opq_eq, e]; rfl⟩
   rw [Hp.addE, opq_eq, decide_eq_true hg, hb2]; decide
 ·left
  have e : X.addB b = false := by rw [Hp.addB, decide_eq_false hg]; rfl
  refine ⟨.inl (by omega), by rw [Hp.add, e]; rfl, ?_, by rw [Hp.addR, opq_eq, e]; rfl, by rw [Hp.addS, opq_eq, e]; rfl⟩
  rw [Hp.addE, opq_eq, decide_eq_false hg]; show (41 : Int) ≠ 0; decide
theorem Hp.Fine.add {X : Hp} (h : X.Fine) {b : List Nat} (hb : ∀ x ∈ b, x < 256) : (X.add b).Fine ∧ (X.add b).n ≤ X.n + 1 := by
 have hk := Hp.k_le h.ok b
 have hn := h.n
 rcases Hp.add_fine h hb with ⟨_, e, _⟩ | ⟨_, h1, _, _, _, _, q, _, hq, _, e⟩
 ·rw [e]; exact ⟨h, by omega⟩
 ·obtain ⟨s1, s2, s3, s4⟩ := Hp.set_spec h.ok hq (show X.k b < 300 by omega)
  rw [e]
  exact ⟨⟨s1, s2, by omega⟩, by omega⟩
theorem Hp.Fine.cut {X : Hp} (h : X.Fine) (p s : Int) : (X.cutH p s).Fine := by
 rw [Hp.cutH]
 cases hg : X.get p s with
 | none => exact h
 | some b =>
  obtain ⟨c, k1, k2, _⟩ := Hp.get_cut h.ok hg
  obtain ⟨g1, g2, g3, g4⟩ := Hp.get_some hg
  rw [Hp.pg_len h.ok] at g2
  have := h.n
  obtain ⟨s1, s2, s3, s4⟩ := Hp.set_spec h.ok k2 (show p.toNat < 300 by omega)
  rw [show (some b).isSome = true from rfl, cond_true, k1]
  exact ⟨s1, s2, by show (X.set p.toNat c).n ≤ 256; omega⟩
theorem Hp.Fine.put {X : Hp} (h : X.Fine) (p s : Int) {b : List Nat} (hb : ∀ x ∈ b, x < 256) (hbl : b.length < 4611686018427387904) : (X.putH p s b).Fine := by
 rw [Hp.putH]
 cases hg : X.get p s with
 | none => exact h
 | some c =>
  cases hq : putP (X.at_ p.toNat) s b with
  | none => exact h
  | some q =>
   obtain ⟨k2, _⟩ := (Hp.at_ok h.ok p.toNat).put hb hbl hq
   obtain ⟨g1, g2, g3, g4⟩ := Hp.get_some hg
   rw [Hp.pg_len h.ok] at g2
   have := h.n
   obtain ⟨s1, s2, s3, s4⟩ := Hp.set_spec h.ok k2 (show p.toNat < 300 by omega)
   exact ⟨s1, s2, by show (X.set p.toNat q).n ≤ 256; omega⟩
theorem Hp.Fine.res {X : Hp} (h : X.Fine) (p s : Int) {b : List Nat} (hb : ∀ x ∈ b, x < 256) (hbl : b.length < 4611686018427387904) : (X.resH p s b).Fine := by
 rw [Hp.resH]
 cases hg : X.get p s with
 | some c => exact h
 | none =>
  cases hr : Hp.resB p s with
  | false => exact h
  | true =>
   cases hq : putP (X.at_ p.toNat) s b with
   | none => exact h
   | some q =>
    obtain ⟨k2, _⟩ := (Hp.at_ok h.ok p.toNat).put hb hbl hq
    rw [Hp.resB, decide_eq_true_eq] at hr
    have := h.n
    obtain ⟨s1, s2, s3, s4⟩ := Hp.set_spec h.ok k2 (show p.toNat < 300 by omega)
    exact ⟨s1, s2, by show (X.set p.toNat q).n ≤ 256; omega⟩
theorem Hp.cut_fine {X : Hp} (h : X.Fine) {p s : Int} {b : List Nat} (hg : X.get p s = some b) :
  X.cutE p s = 0 ∧ (∀ i, i ≠ p.toNat → (X.cutH p s).at_ i = X.at_ i) ∧ ofS ((X.cutH p s).at_ p.toNat) = withS (ofS (X.at_ p.toNat)) s.toNat none := by
 obtain ⟨c, k1, k2, k3⟩ := Hp.get_cut h.ok hg
 obtain ⟨g1, g2, g3, g4⟩ := Hp.get_some hg
 have hlt := Hp.get_lt h.ok hg
 obtain ⟨s1, s2, s3, s4⟩ := Hp.set_spec h.ok k2 (show p.toNat < 300 by omega)
 have e : X.cutH p s = X.set p.toNat c := by rw [Hp.cutH, hg, show (some b).isSome = true from rfl, cond_true, k1]; rfl
 refine ⟨by rw [Hp.cutE, hg, opq_eq]; rfl, fun i hi => ?_, ?_⟩
 ·rw [e, s3, if_neg hi]
 ·rw [e, s3, if_pos rfl, k3]
theorem Hp.res_fine {X : Hp} (h : X.Fine) {p s : Int} {b : List Nat} (hb : ∀ x ∈ b, x < 256) (hbl : b.length < 4611686018427387904) (hg : X.get p s = none) (hr : 0 ≤ p ∧ 0 ≤ s ∧ p < 256 ∧ s ≤ 250) {q : List Nat} (hq : putP (X.at_ p.toNat) s b = some q) :
  X.resE p s b = 0 ∧ X.resH p s b = X.set p.toNat q ∧ PgB q ∧ ofS q = withS (ofS (X.at_ p.toNat)) s.toNat (some b) := by
 have e : Hp.resB p s = true := decide_eq_true hr
 obtain ⟨k1, k2, _⟩ := (Hp.at_ok h.ok p.toNat).put hb hbl hq
 exact ⟨by rw [Hp.resE, hg, e, hq, opq_eq]; rfl, by rw [Hp.resH, hg, e, hq]; rfl, k1, k2⟩
theorem with_nilS (s : Nat) (b : List Nat) : withS ([] : Sl) s (some b) = List.replicate s none ++ [some b] := by
 have hp : padS ([] : Sl) (s + 1) = List.replicate s none ++ [none] := by rw [padS, ← List.replicate_succ']; simp
 have hs : (List.replicate s (none : Option (List Nat)) ++ [none]).set s (some b) = List.replicate s none ++ [some b] := by
  rw [List.set_append_right _ _ (by simp)]; simp
 rw [withS, hp, hs]
 exact trS_id (trm_snoc _ _)
theorem put_zero {b : List Nat} {s : Nat} (hs : s ≤ 250) (hb : s + 2 + b.length ≤ 256) (hl : b.length ≤ 200) : ∃ q, putP zeroP (s : Int) b = some q := by
 have h0 : ofB zeroP = true := zeroP_pg.1.2.2
 have hok : pgOk (List.replicate s none ++ [some b]) = true := by
  rw [pgOk_iff]
  refine ⟨?_, fun o ho => ?_⟩
  ·have : sumN (List.replicate s none ++ [some b]) = b.length := by
    have hz : ∀ n, sumN (List.replicate n none ++ [some b]) = b.length := by
     intro n
     induction n with
     | zero => simp [sumN, olen]
     | succ n ih => rw [List.replicate_succ, List.cons_append, sumN_cons, ih]; simp [olen]
    exact hz s
   rw [szN, this]; simp; omega
  ·rcases List.mem_append.mp ho with ho | ho
   ·rw [List.eq_of_mem_replicate ho]; exact Nat.zero_le _
   ·rw [List.mem_singleton.mp ho]; exact hl
 exact ⟨_, by rw [putP, if_pos h0, ofS_zero, putS, if_pos ⟨by omega, by omega⟩, Int.toNat_natCast, with_nilS, toP, if_pos hok]⟩
theorem hp_Gob {X : Hp} (h : X.Ok) : hpA.G 0 [hpA.ob 0 X 0, hpA.ob 0 X 1, hpA.ob 0 X 2] = some X := by rw [hp_obl h]; exact hp_G h
theorem alive_true (F : Nat) : ∃ st, f9.run F [] ⟨[], []⟩ = some (.ret (.bool true), st) := by
 have f0 := hp0_fine
 have z0 : ∀ i, hp0.at_ i = zeroP := fun i => Hp.at_ge (Nat.zero_le _)
 have b97 : ∀ x ∈ [97], x < 256 := by simp
 have b98 : ∀ x ∈ [98], x < 256 := by simp
 obtain ⟨f1, _⟩ := f0.add b97
 have k0 : hp0.k [97] = 0 := rfl
 rcases Hp.add_fine f0 b97 with ⟨h, _⟩ | ⟨_, _, a1, a2, a3, _, q, _, a4, a5, a6⟩
 ·rw [k0] at h; simp at h
 rw [k0, z0, ofS_zero] at a3 a5
 rw [k0] at a2 a6
 obtain ⟨_, _, s3, _⟩ := Hp.set_spec f0.ok a4 (show 0 < 300 by omega)
 rw [← a6] at s3
 have e0 : ofS ((hp0.add [97]).at_ 0) = [some [97]] := by rw [s3, if_pos rfl, a5]; rfl
 have g1 : (hp0.add [97]).get 0 0 = some [97] := by
  rw [Hp.get_eq, if_pos (by omega), show (0 : Int).toNat = 0 from rfl, e0]; rfl
 have f2 := f1.cut 0 0
 obtain ⟨c1, c2, c3⟩ := Hp.cut_fine f1 g1
 simp only [show ((0 : Int).toNat) = 0 from rfl] at c2 c3
 have z2 : ∀ i, ((hp0.add [97]).cutH 0 0).at_ i = zeroP := by
  intro i
  by_cases hi : i = 0
  ·subst hi
   refine (Hp.at_ok f2.ok 0).1.inj zeroP_pg.1 ?_
   rw [c3, e0, ofS_zero]; rfl
  ·rw [c2 i hi, s3, if_neg hi, z0]
 have n2 : ((hp0.add [97]).cutH 0 0).n = 0 := by
  cases hn : ((hp0.add [97]).cutH 0 0).n with
  | zero => rfl
  | succ m => exact absurd (by rw [z2]; exact slN_zeroP) (f2.ti m hn)
 generalize hX2 : (hp0.add [97]).cutH 0 0 = X2 at *
 have g2 : X2.get 1 2 = none := by rw [Hp.get_eq, if_pos (by omega), z2, ofS_zero]; rfl
 obtain ⟨q3, hq3⟩ := put_zero (b := [98]) (s := 2) (by omega) (by decide) (by decide)
 obtain ⟨r1, r2, r3, r4⟩ := Hp.res_fine f2 b98 (by decide) g2 (by omega) (q := q3) (by rw [z2]; exact hq3)
 have f3 := f2.res 1 2 b98 (by decide)
 obtain ⟨_, _, t3, t4⟩ := Hp.set_spec f2.ok r3 (show (1 : Int).toNat < 300 by decide)
 rw [← r2] at t3 t4
 simp only [show ((1 : Int).toNat) = 1 from rfl, show ((2 : Int).toNat) = 2 from rfl] at t3 t4 r4
 generalize hX3 : X2.resH 1 2 [98] = X3 at *
 have e1 : ofS (X3.at_ 1) = [none, none, some [98]] := by
  rw [t3, if_pos rfl, r4, z2, ofS_zero, with_nilS]; rfl
 have e2 : X3.at_ 0 = zeroP := by rw [t3, if_neg (by decide), z2]
 have g3 : X3.get 1 2 = some [98] := by
  rw [Hp.get_eq, if_pos (by omega), show (1 : Int).toNat = 1 from rfl, e1]; rfl
 have l3 := Hp.pg_len f3.ok
 have n3 : X3.n = 2 := by
  have h1 : ¬ X3.n < 2 := by
   intro h
   rw [Hp.at_ge (by omega), ofS_zero] at e1; cases e1
  have h2 : X3.n ≤ 2 := by rw [n2] at t4; exact t4
  omega
 have pg3 : X3.pg_ = [X3.at_ 0, X3.at_ 1] := by
  apply List.ext_getElem (by rw [l3, n3]; rfl)
  intro i h1 h2
  rcases i with _ | _ | i
  ·rw [← Hp.at_lt h1]; rfl
  ·rw [← Hp.at_lt h1]; rfl
  ·simp at h2; omega
 have rd3 : X3.rids = [(1, 2)] := by
  rw [Hp.rids, pg3, ridP, ridP, ridP, e1, e2, ofS_zero]; rfl
 rw [alive_run, hp_Gob f0.ok, onSome_some, branch_of (show byOk [[AV.int IntKind.u8 (97 : Int)]] = true from byOk_bR (l := [97]) (by simp) (by decide)), Hp.addO, opq_eq, hp_Gob f1.ok, onSome_some, a1, a2, a3, Hp.cutO, opq_eq]
 rw [show (((0 : Nat) : Int)) = 0 from rfl, show ((freeK [] : Nat) : Int) = 0 from rfl, hX2, hp_Gob f2.ok, onSome_some, branch_of (by rw [show byOk [[AV.int IntKind.u8 (98 : Int)]] = true from byOk_bR (l := [98]) (by simp) (by decide), show apOk 1 1 = true by rw [apOk_iff]; omega]; rfl), Hp.resO, opq_eq, hX3, hp_Gob f3.ok, onSome_some, c1, r1, g3, oB_some, oR_some]
 refine ⟨⟨[hpA.ob 0 X3 0, hpA.ob 0 X3 1, hpA.ob 0 X3 2, .gone, .gone], []⟩, ?_⟩
 have htx : ((txC (bR [98])).toList == [UInt8.ofNat 98]) = true := by rw [txC, opq_eq, nR_bR, ByteArray.toList_eq, textOf, foldl_push]; rfl
 refine (branch_of rfl).trans ((branch_of rfl).trans ((branch_of rfl).trans ((branch_of rfl).trans ((branch_of rfl).trans ((branch_of (okR_bR b98)).trans ((branch_of htx).trans ?_))))))
 ·rw [onSome_some, branch_of (by rw [pgsV_length, l3, n3]; rfl), onSome_some, ridsV, opq_eq, rd3]; rfl
noncomputable def p9 : POrc Try.prog := f9.farN
 (fun args k => match args with
  | [] => k (.bool true)
  | _ => none)
 fun args k fin h => by
  split at h
  ·obtain ⟨st, hr⟩ := alive_true 0
   exact ⟨_, _, h, .nil, trivial, trivial, 0, .bool true, st, rfl, hr⟩
  ·cases h
theorem fl49_2 : fieldB Try.prog 49 2 2 2 true = true := by kernel_rfl
theorem fl49_0 : fieldB Try.prog 49 0 0 1 false = true := by kernel_rfl
end Go.Proofs.Ytljigmghdpkdlaa.V
namespace Go.Proofs.Ytljigmghdpkdlaa.V
open Go Go.V Go.RowKit
end Go.Proofs.Ytljigmghdpkdlaa.V
namespace Go.Proofs.Ytljigmghdpkdlaa.V
open Go Go.V Go.RowKit
theorem getP_slot {p : List Nat} (hp : PgB p) {s : Int} {b : List Nat} (h : getP (ofS p) s = some b) : ∃ n : Nat, s = n ∧ n ≤ 250 ∧ getS (ofS p) n = some b ∧ (∀ x ∈ b, x < 256) ∧ b.length ≤ 200 := by
 have hs := getP_bound (s := ofS p) (i := s) (by rw [h]; rfl)
 obtain ⟨n, rfl⟩ := Int.eq_ofNat_of_zero_le hs.1
 have h1 := hs.2
 rw [Int.toNat_natCast] at h1
 rw [getP_nat] at h
 have h2 := hp.2
 refine ⟨n, rfl, by omega, h, (getS_ok hp.1.slots.2.1 h).1, ?_⟩
 rw [getS_lt h1] at h
 have := (pgOk_iff.mp hp.1.slots.2.2.1).2 (some b) (by rw [← h]; exact List.getElem_mem h1)
 exact this
abbrev tyCall : Ty := .st [.int .i64, .int .i64, .st [.int .i64, .int .i64], .sl (.int .u8) 1]
abbrev tyCalls : Ty := .sl tyCall 56
theorem call_shape {xs : List AV} (h : Ty.Shape tyCall xs) : ∃ w c p s z d, xs = [.int .i64 w, .int .i64 c, .int .i64 p, .int .i64 s, .ns z 1 d] ∧ byOk d = true := by
 obtain ⟨a, b, rfl, ⟨w, rfl, _⟩, a2, b2, rfl, ⟨c, rfl, _⟩, a3, b3, rfl, ⟨a4, b4, rfl, ⟨p, rfl, _⟩, a5, b5, rfl, ⟨s, rfl, _⟩, rfl⟩, a6, b6, rfl, hd, rfl⟩ := h
 obtain ⟨z, d, rfl, d1, d2, d3⟩ := bytes_shape hd
 exact ⟨w, c, p, s, z, d, rfl, byOk_iff.mpr ⟨d1, d3⟩⟩
theorem calls_shape {xs : List AV} (h : Ty.Shape tyCalls xs) : ∃ z l, xs = [.ns z 5 l] ∧ okCs l = true := by
 obtain ⟨z, l, rfl, hz, h1, h2, h3⟩ := h
 refine ⟨z, l, rfl, okCs_iff.mpr ⟨fun r hr => ?_, ?_⟩⟩
 ·obtain ⟨w, c, p, s, z', d, rfl, hd⟩ := call_shape (h3 r hr)
  show (decide (IntKind.i64 = IntKind.i64 ∧ IntKind.i64 = IntKind.i64 ∧ IntKind.i64 = IntKind.i64 ∧ IntKind.i64 = IntKind.i64) && (Nat.beq 1 1 && byOk d)) = true
  rw [hd]; rfl
 ·have : reachBytes < 4611686018427387904 := by decide
  omega
end Go.Proofs.Ytljigmghdpkdlaa.V
namespace Go.Proofs.Ytljigmghdpkdlaa.V
open Go Go.V Go.RowKit
end Go.Proofs.Ytljigmghdpkdlaa.V
namespace Go.Proofs.Ytljigmghdpkdlaa.V
open Go Go.V Go.RowKit
end Go.Proofs.Ytljigmghdpkdlaa.V
namespace Go.Proofs.Ytljigmghdpkdlaa.V
open Go Go.V Go.RowKit
theorem ridsV_length (l : List (Nat × Nat)) : (ridsV l).length = l.length := by rw [ridsV, opq_eq, rP_length]
theorem okPs_rP (l : List (Nat × Nat)) (h : l.length ≤ 100000) : okPs (rP l) = true := by
 rw [okPs_iff, rP_length]
 refine ⟨fun r hr => ?_, by omega⟩
 obtain ⟨x, _, rfl⟩ := List.mem_map.mp hr
 rfl
theorem fl91_0 : fieldB Try.prog 91 0 0 1 false = true := by kernel_rfl
noncomputable def f60_l0 : Sim Try.prog :=
 (.seq (.seq (.live [1, 4, 5, 6, 23] (.region 7 [
 ⟨(opMove (some 19) (.tmp 6) 3 "ref.go:25" #[]).op, none⟩,
 ⟨(opFieldAddr (some 20) 91 (.tmp 1) 0 0 1 false fl91_0 (by decide) 0 "ref.go:25" #[]).op, none⟩,
 ⟨(opLoadT (.one .any) (some 21) 22 (.tmp 20) (.slice 34) Try.underlying22 1 sz22 (by kernel_rfl) 22 "ref.go:25" #[eD 1]).op, none⟩,
 ⟨(opLen (some 22) (.tmp 21) 22 (.slice 34) Try.underlying22 3 "ref.go:25" #[eD 2]).op, none⟩,
 ⟨(opBin (some 23) .lss 3 (.tmp 19) (.tmp 22) 3 4 "ref.go:25" #[eD 0, eD 3]).op, none⟩
 ] (by kernel_rfl)))
 (.cond (.tmp 23)
 .skip
 (.live [1, 4, 5] (.exit 0))))
 (.seq (.block 1 (.seq (.seq (.live [1, 4, 5, 6, 31] (.region 9 [
 ⟨(opFieldAddr (some 26) 91 (.tmp 1) 0 0 1 false fl91_0 (by decide) 0 "ref.go:26" #[]).op, none⟩,
 ⟨(opLoadT (.one .any) (some 27) 22 (.tmp 26) (.slice 34) Try.underlying22 1 sz22 (by kernel_rfl) 22 "ref.go:26" #[eD 0]).op, none⟩,
 ⟨(opMove (some 28) (.tmp 6) 3 "ref.go:26" #[]).op, none⟩,
 ⟨(opIndexAddrT (some 29) 22 (.tmp 27) (.tmp 28) 34 1 Try.underlying22 sz34 0 "ref.go:26" #[eD 1, eD 2]).op, none⟩,
 ⟨(opLoadT (.one (.ns 1)) (some 30) 34 (.tmp 29) (.slice 5) Try.underlying34 1 sz34 (by kernel_rfl) 34 "ref.go:26" #[eD 3]).op, none⟩,
 ⟨(opEq (some 31) 34 (.slice 5) Try.underlying34 (.tmp 30) (.const (Value.slice none 0 0)) (.inl rfl) 34 4 "ref.go:26" #[eD 4]).op, none⟩
 ] (by kernel_rfl)))
 (.cond (.tmp 31)
 (.live [1, 4, 5, 6] (.exit 1))
 .skip))
 (.seq (.live [1, 4, 5, 6, 7] (.region 10 [
 ⟨(opFieldAddr (some 32) 91 (.tmp 1) 0 0 1 false fl91_0 (by decide) 0 "ref.go:29" #[]).op, none⟩,
 ⟨(opLoadT (.one .any) (some 33) 22 (.tmp 32) (.slice 34) Try.underlying22 1 sz22 (by kernel_rfl) 22 "ref.go:29" #[eD 0]).op, none⟩,
 ⟨(opMove (some 34) (.tmp 6) 3 "ref.go:29" #[]).op, none⟩,
 ⟨(opIndexAddrT (some 35) 22 (.tmp 33) (.tmp 34) 34 1 Try.underlying22 sz34 0 "ref.go:29" #[eD 1, eD 2]).op, none⟩,
 ⟨(opLoadT (.one (.ns 1)) (some 36) 34 (.tmp 35) (.slice 5) Try.underlying34 1 sz34 (by kernel_rfl) 34 "ref.go:29" #[eD 3]).op, none⟩,
 ⟨(opLen (some 37) (.tmp 36) 34 (.slice 5) Try.underlying34 3 "ref.go:29" #[eD 4]).op, none⟩,
 ⟨(opAssign (some 7) (.tmp 37) 3 "ref.go:29" #[eD 5, eP 0, eP 1, eP 2, eP 3, eP 4, eP 5]).op, none⟩
 ] (by kernel_rfl)))
 (.seq (.seq (.live [1, 4, 5, 6, 7, 49] (.region 11 [
 ⟨(opMove (some 38) (.tmp 7) 3 "ref.go:30" #[]).op, none⟩,
 ⟨(opBin (some 39) .gtr 3 (.tmp 38) (.const (Value.int IntKind.i64 200)) 3 4 "ref.go:30" #[eD 0]).op, none⟩,
 ⟨(opMove (some 40) (.tmp 39) 4 "ref.go:30" #[eD 1]).op, none⟩,
 ⟨(opMove (some 41) (.tmp 5) 3 "ref.go:30" #[eG 2]).op, (some (2, 40, false))⟩,
 ⟨(opMove (some 42) (.tmp 7) 3 "ref.go:30" #[eG 2]).op, (some (2, 40, false))⟩,
 ⟨(opBin (some 43) .sub 3 (.tmp 41) (.tmp 42) 3 3 "ref.go:30" #[eD 3, eD 4, eG 2]).op, (some (2, 40, false))⟩,
 ⟨(opFieldAddr (some 44) 91 (.tmp 1) 0 0 1 false fl91_0 (by decide) 0 "ref.go:30" #[eG 2]).op, (some (2, 40, false))⟩,
 ⟨(opLoadT (.one .any) (some 45) 22 (.tmp 44) (.slice 34) Try.underlying22 1 sz22 (by kernel_rfl) 22 "ref.go:30" #[eD 6, eG 2]).op, (some (2, 40, false))⟩,
 ⟨(opLen (some 46) (.tmp 45) 22 (.slice 34) Try.underlying22 3 "ref.go:30" #[eD 7, eG 2]).op, (some (2, 40, false))⟩,
 ⟨(opBin (some 47) .add 3 (.const (Value.int IntKind.i64 1)) (.tmp 46) 3 3 "ref.go:30" #[eD 8, eG 2]).op, (some (2, 40, false))⟩,
 ⟨(opBin (some 48) .lss 3 (.tmp 43) (.tmp 47) 3 4 "ref.go:30" #[eD 5, eD 9, eG 2]).op, (some (2, 40, false))⟩,
 ⟨(opPick (some 49) (.tmp 40) (.const (Value.bool true)) (.tmp 48) 4 "ref.go:30" #[eD 2, eD 10]).op, none⟩
 ] (by kernel_rfl)))
 (.cond (.tmp 49)
 (.seq (.live [2, 3] (.region 12 [
 ⟨(opAssign (some 2) (.const (Value.slice none 0 0)) 34 "ref.go:31" #[]).op, none⟩,
 ⟨(opAssign (some 3) (.const (Value.bool false)) 4 "ref.go:31" #[eC 0, eP 0]).op, none⟩
 ] (by kernel_rfl)))
 (.live [2, 3] .ret))
 .skip))
 (.seq (.live [1, 4, 5, 6, 7] (.region 13 [
 ⟨(opMove (some 50) (.tmp 4) 34 "ref.go:33" #[]).op, none⟩,
 ⟨(opMove (some 51) (.tmp 6) 3 "ref.go:33" #[]).op, none⟩,
 ⟨(opBin (some 52) .add 3 (.const (Value.int IntKind.i64 1)) (.tmp 51) 3 3 "ref.go:33" #[eD 1]).op, none⟩,
 ⟨(opMove (some 53) (.tmp 7) 3 "ref.go:33" #[]).op, none⟩,
 ⟨(opBin (some 54) .add 3 (.tmp 53) (.const (Value.int IntKind.i64 1)) 3 3 "ref.go:33" #[eD 3]).op, none⟩,
 ⟨(opConvInt (some 55) 3 5 (.tmp 54) (.int .i64) Try.underlying3 .u8 Try.underlying5 5 "ref.go:33" #[eD 4]).op, none⟩,
 ⟨(opIndexAddrT (some 56) 34 (.tmp 50) (.tmp 52) 5 1 Try.underlying34 sz5 0 "ref.go:33" #[eD 0, eD 2, eP 0, eP 1, eP 2, eP 3, eP 4, eP 5]).op, none⟩,
 ⟨(opStoreC none 5 (.tmp 56) (.tmp 55) 1 sz5 0 "ref.go:33" #[eD 6, eD 5, eP 0, eP 1, eP 2, eP 3, eP 4, eP 5]).op, none⟩
 ] (by kernel_rfl)))
 (.seq (.live [1, 4, 5, 6] (.region 14 [
 ⟨(opMove (some 57) (.tmp 5) 3 "ref.go:34" #[]).op, none⟩,
 ⟨(opMove (some 58) (.tmp 7) 3 "ref.go:34" #[]).op, none⟩,
 ⟨(opBin (some 59) .sub 3 (.tmp 57) (.tmp 58) 3 3 "ref.go:34" #[eD 0, eD 1]).op, none⟩,
 ⟨(opAssign (some 5) (.tmp 59) 3 "ref.go:34" #[eD 2, eP 0, eP 1, eP 2]).op, none⟩
 ] (by kernel_rfl)))
 (.live [1, 4, 5, 6] (.draw 15 [
 ⟨.p (opMove (some 60) (.tmp 4) 34 "ref.go:35" #[]), none⟩,
 ⟨.p (opMove (some 61) (.tmp 5) 3 "ref.go:35" #[]), none⟩,
 ⟨.pn (opSlice (some 62) 34 (.tmp 60) (some (.tmp 61)) none none 5 1 Try.underlying34 sz5 34 "ref.go:35" #[eD 0, eD 1]) opSlice_nat, none⟩,
 ⟨.pn (opFieldAddr (some 63) 91 (.tmp 1) 0 0 1 false fl91_0 (by decide) 0 "ref.go:35" #[]) opFieldAddr_nat, none⟩,
 ⟨.qn (opLoadT (.one .any) (some 64) 22 (.tmp 63) (.slice 34) Try.underlying22 1 sz22 (by kernel_rfl) 22 "ref.go:35" #[eD 3]) opLoadT_nat, none⟩,
 ⟨.p (opMove (some 65) (.tmp 6) 3 "ref.go:35" #[]), none⟩,
 ⟨.pn (opIndexAddrT (some 66) 22 (.tmp 64) (.tmp 65) 34 1 Try.underlying22 sz34 0 "ref.go:35" #[eD 4, eD 5]) opIndexAddrT_nat, none⟩,
 ⟨.qn (opLoadT (.one (.ns 1)) (some 67) 34 (.tmp 66) (.slice 5) Try.underlying34 1 sz34 (by kernel_rfl) 34 "ref.go:35" #[eD 6]) opLoadT_nat, none⟩,
 ⟨.mn (opCopyV (some 68) (.tmp 62) (.tmp 67) 34 34 5 1 Try.underlying34 sz5 3 "ref.go:35" #[eD 2, eD 7]) opCopyV_nat, none⟩
 ] mixed (by kernel_rfl)))))))))
 (.live [1, 4, 5, 6] (.region 8 [
 ⟨(opMove (some 24) (.tmp 6) 3 "ref.go:25" #[]).op, none⟩,
 ⟨(opBin (some 25) .add 3 (.tmp 24) (.const (Value.int IntKind.i64 1)) 3 3 "ref.go:25" #[eD 0]).op, none⟩,
 ⟨(opAssign (some 6) (.tmp 25) 3 "ref.go:25" #[eD 1, eP 0, eP 1]).op, none⟩
 ] (by kernel_rfl)))))
noncomputable def f60_r0 : Sim Try.prog :=
 (.seq (.seq (.live [4, 74] (.region 16 [
 ⟨(opFieldAddr (some 69) 91 (.tmp 1) 0 0 1 false fl91_0 (by decide) 0 "ref.go:37" #[]).op, none⟩,
 ⟨(opLoadT (.one .any) (some 70) 22 (.tmp 69) (.slice 34) Try.underlying22 1 sz22 (by kernel_rfl) 22 "ref.go:37" #[eD 0]).op, none⟩,
 ⟨(opLen (some 71) (.tmp 70) 22 (.slice 34) Try.underlying22 3 "ref.go:37" #[eD 1]).op, none⟩,
 ⟨(opBin (some 72) .add 3 (.const (Value.int IntKind.i64 1)) (.tmp 71) 3 3 "ref.go:37" #[eD 2]).op, none⟩,
 ⟨(opMove (some 73) (.tmp 5) 3 "ref.go:37" #[]).op, none⟩,
 ⟨(opBin (some 74) .gtr 3 (.tmp 72) (.tmp 73) 3 4 "ref.go:37" #[eD 3, eD 4]).op, none⟩
 ] (by kernel_rfl)))
 (.cond (.tmp 74)
 (.seq (.live [2, 3] (.region 17 [
 ⟨(opAssign (some 2) (.const (Value.slice none 0 0)) 34 "ref.go:38" #[]).op, none⟩,
 ⟨(opAssign (some 3) (.const (Value.bool false)) 4 "ref.go:38" #[eC 0, eP 0]).op, none⟩
 ] (by kernel_rfl)))
 (.live [2, 3] .ret))
 .skip))
 (.seq (.live [2, 3] (.region 18 [
 ⟨(opMove (some 75) (.tmp 4) 34 "ref.go:40" #[]).op, none⟩,
 ⟨(opAssign (some 2) (.tmp 75) 34 "ref.go:40" #[eD 0, eP 0]).op, none⟩,
 ⟨(opAssign (some 3) (.const (Value.bool true)) 4 "ref.go:40" #[eC 1, eP 0, eP 1]).op, none⟩
 ] (by kernel_rfl)))
 (.live [2, 3] .ret)))
noncomputable def f60_b : Sim Try.prog :=
 (.seq (.live [1] (.region 0 [
 ⟨(opBoxF (some 1) 91 (.tmp 0) 0 "ref.go:18" #[]).op, none⟩,
 ⟨(opAssign (some 2) (.const (Value.slice none 0 0)) 34 "ref.go:18" #[]).op, none⟩,
 ⟨(opAssign (some 3) (.const (Value.bool false)) 4 "ref.go:18" #[eC 1]).op, none⟩
 ] (by kernel_rfl)))
 (.seq (.live [1, 4] (.region 1 [
 ⟨(opMakeC (some 8) 34 (.const (Value.int IntKind.i64 256)) 5 1 1 (.int .u8 0) el34 [AV.int .u8 0] (by kernel_rfl) (by kernel_rfl) 34 "ref.go:19" #[]).op, none⟩,
 ⟨(opAssign (some 4) (.tmp 8) 34 "ref.go:19" #[eD 0, eP 0]).op, none⟩
 ] (by kernel_rfl)))
 (.seq (.seq (.live [1, 4, 12] (.region 2 [
 ⟨(opFieldAddr (some 9) 91 (.tmp 1) 0 0 1 false fl91_0 (by decide) 0 "ref.go:20" #[]).op, none⟩,
 ⟨(opLoadT (.one .any) (some 10) 22 (.tmp 9) (.slice 34) Try.underlying22 1 sz22 (by kernel_rfl) 22 "ref.go:20" #[eD 0]).op, none⟩,
 ⟨(opLen (some 11) (.tmp 10) 22 (.slice 34) Try.underlying22 3 "ref.go:20" #[eD 1]).op, none⟩,
 ⟨(opBin (some 12) .gtr 3 (.tmp 11) (.const (Value.int IntKind.i64 255)) 3 4 "ref.go:20" #[eD 2]).op, none⟩
 ] (by kernel_rfl)))
 (.cond (.tmp 12)
 (.seq (.live [2, 3] (.region 3 [
 ⟨(opAssign (some 2) (.const (Value.slice none 0 0)) 34 "ref.go:21" #[]).op, none⟩,
 ⟨(opAssign (some 3) (.const (Value.bool false)) 4 "ref.go:21" #[eC 0, eP 0]).op, none⟩
 ] (by kernel_rfl)))
 (.live [2, 3] .ret))
 .skip))
 (.seq (.live [1, 4] (.region 4 [
 ⟨(opMove (some 13) (.tmp 4) 34 "ref.go:23" #[]).op, none⟩,
 ⟨(opFieldAddr (some 14) 91 (.tmp 1) 0 0 1 false fl91_0 (by decide) 0 "ref.go:23" #[]).op, none⟩,
 ⟨(opLoadT (.one .any) (some 15) 22 (.tmp 14) (.slice 34) Try.underlying22 1 sz22 (by kernel_rfl) 22 "ref.go:23" #[eD 1]).op, none⟩,
 ⟨(opLen (some 16) (.tmp 15) 22 (.slice 34) Try.underlying22 3 "ref.go:23" #[eD 2]).op, none⟩,
 ⟨(opConvInt (some 17) 3 5 (.tmp 16) (.int .i64) Try.underlying3 .u8 Try.underlying5 5 "ref.go:23" #[eD 3]).op, none⟩,
 ⟨(opIndexAddrT (some 18) 34 (.tmp 13) (.const (Value.int IntKind.i64 0)) 5 1 Try.underlying34 sz5 0 "ref.go:23" #[eD 0, eP 0, eP 1, eP 2, eP 3, eP 4]).op, none⟩,
 ⟨(opStoreC none 5 (.tmp 18) (.tmp 17) 1 sz5 0 "ref.go:23" #[eD 5, eD 4, eP 0, eP 1, eP 2, eP 3, eP 4]).op, none⟩
 ] (by kernel_rfl)))
 (.seq (.live [1, 4, 5] (.region 5 [
 ⟨(opAssign (some 5) (.const (Value.int IntKind.i64 256)) 3 "ref.go:24" #[]).op, none⟩
 ] (by kernel_rfl)))
 (.seq (.seq (.live [1, 4, 5, 6] (.region 6 [
 ⟨(opAssign (some 6) (.const (Value.int IntKind.i64 0)) 3 "ref.go:25" #[]).op, none⟩
 ] (by kernel_rfl)))
 (.block 0 (.loop [1, 4, 5, 6] f60_l0)))
 f60_r0))))))
noncomputable def f60 : Fun Try.prog where
 id := 60
 fn := Try.f60
 hf := Try.func60
 hname := by kernel_rfl
 body := f60_b
 hbody := by kernel_rfl
 res := [rTmp 2, rTmp 3]
 hres := by kernel_rfl
 n := 76
 hn := by kernel_rfl
noncomputable def f78_l0 : Sim Try.prog :=
 (.seq (.seq (.live [0, 14] (.region 1 [
 ⟨(opMove (some 3) (.tmp 0) 22 "ref.go:11" #[]).op, none⟩,
 ⟨(opLen (some 4) (.tmp 3) 22 (.slice 34) Try.underlying22 3 "ref.go:11" #[eD 0]).op, none⟩,
 ⟨(opBin (some 5) .gtr 3 (.tmp 4) (.const (Value.int IntKind.i64 0)) 3 4 "ref.go:11" #[eD 1]).op, none⟩,
 ⟨(opMove (some 6) (.tmp 5) 4 "ref.go:11" #[eD 2]).op, none⟩,
 ⟨(opMove (some 7) (.tmp 0) 22 "ref.go:11" #[eG 3]).op, (some (3, 6, true))⟩,
 ⟨(opMove (some 8) (.tmp 0) 22 "ref.go:11" #[eG 3]).op, (some (3, 6, true))⟩,
 ⟨(opLen (some 9) (.tmp 8) 22 (.slice 34) Try.underlying22 3 "ref.go:11" #[eD 5, eG 3]).op, (some (3, 6, true))⟩,
 ⟨(opBin (some 10) .sub 3 (.tmp 9) (.const (Value.int IntKind.i64 1)) 3 3 "ref.go:11" #[eD 6, eG 3]).op, (some (3, 6, true))⟩,
 ⟨(opIndexAddrT (some 11) 22 (.tmp 7) (.tmp 10) 34 1 Try.underlying22 sz34 0 "ref.go:11" #[eD 4, eD 7, eG 3]).op, (some (3, 6, true))⟩,
 ⟨(opLoadT (.one (.ns 1)) (some 12) 34 (.tmp 11) (.slice 5) Try.underlying34 1 sz34 (by kernel_rfl) 34 "ref.go:11" #[eD 8, eG 3]).op, (some (3, 6, true))⟩,
 ⟨(opEq (some 13) 34 (.slice 5) Try.underlying34 (.tmp 12) (.const (Value.slice none 0 0)) (.inl rfl) 34 4 "ref.go:11" #[eD 9, eG 3]).op, (some (3, 6, true))⟩,
 ⟨(opPick (some 14) (.tmp 6) (.tmp 13) (.const (Value.bool false)) 4 "ref.go:11" #[eD 3, eD 10]).op, none⟩
 ] (by kernel_rfl)))
 (.cond (.tmp 14)
 .skip
 (.live [0] (.exit 0))))
 (.block 1 (.live [0] (.region 2 [
 ⟨(opMove (some 15) (.tmp 0) 22 "ref.go:12" #[]).op, none⟩,
 ⟨(opMove (some 16) (.tmp 0) 22 "ref.go:12" #[]).op, none⟩,
 ⟨(opLen (some 17) (.tmp 16) 22 (.slice 34) Try.underlying22 3 "ref.go:12" #[eD 1]).op, none⟩,
 ⟨(opBin (some 18) .sub 3 (.tmp 17) (.const (Value.int IntKind.i64 1)) 3 3 "ref.go:12" #[eD 2]).op, none⟩,
 ⟨(opSlice (some 19) 22 (.tmp 15) none (some (.tmp 18)) none 34 1 Try.underlying22 sz34 22 "ref.go:12" #[eD 0, eD 3]).op, none⟩,
 ⟨(opAssign (some 0) (.tmp 19) 22 "ref.go:12" #[eD 4, eP 0, eP 1, eP 2, eP 3, eP 4]).op, none⟩
 ] (by kernel_rfl)))))
noncomputable def f78_r0 : Sim Try.prog :=
 (.seq (.live [2] (.region 3 [
 ⟨(opMove (some 20) (.tmp 0) 22 "ref.go:14" #[]).op, none⟩,
 ⟨(opAssign (some 2) (.tmp 20) 22 "ref.go:14" #[eD 0, eP 0]).op, none⟩
 ] (by kernel_rfl)))
 (.live [2] .ret))
noncomputable def f78_b : Sim Try.prog :=
 (.seq (.live [0] (.region 0 [
 ⟨(opAssign (some 2) (.const (Value.slice none 0 0)) 22 "ref.go:10" #[]).op, none⟩
 ] (by kernel_rfl)))
 (.seq (.block 0 (.loop [0] f78_l0))
 f78_r0))
noncomputable def f78 : Fun Try.prog where
 id := 78
 fn := Try.f78
 hf := Try.func78
 hname := by kernel_rfl
 body := f78_b
 hbody := by kernel_rfl
 res := [rTmp 2]
 hres := by kernel_rfl
 n := 21
 hn := by kernel_rfl
theorem by_run (F : Nat) (z : Bool) (l : List (List AV)) :
 (f60.run F [.agg [.ns z 1 l]] ⟨[], []⟩ : Ans) =
 branch (.bool (mkOk 1 (256 : Int)))
 (branch (.bool (decide ((↑l.length : Int) > 255)))
 (some
 (Fin.ret (AV.tup [AV.nilsl, AV.bool false]),
 St.mk [Ob.cells (zerC 256 [AV.int IntKind.u8 (0 : Int)])] []))
 (branch (.bool (true && inC (zerC 256 [AV.int IntKind.u8 (0 : Int)]) 0 1))
 (loopRun (f60_l0.run F) [1, 4, 5, 6]
 (Cont.block 0 (Cont.then (f60_r0.run F (f60.leaveK Fun.done)) (f60.leaveK Fun.done))) F
 (Env.mk 76
 [(1, AV.eptr [AV.ns z 1 l]),
 (4, AV.ms 0 1 0 256 256),
 (5, .int .i64 256), (6, .int .i64 0)])
 (St.mk
 [Ob.cells
 (setC (zerC 256 [AV.int IntKind.u8 (0 : Int)]) 0
 [AV.int IntKind.u8 (IntKind.u8.wrap (↑l.length : Int))])]
 []))
 none))
 none := by kernel_rfl
theorem by_round (F m : Nat) (K : Cont) (z : Bool) (l : List (List AV)) (cs : List AV) (e i : Int) :
 (loopRun (f60_l0.run F) [1, 4, 5, 6] K m.succ (Env.mk 76 [(1, .eptr [.ns z 1 l]), (4, .ms 0 1 0 256 256), (5, .int .i64 e), (6, .int .i64 i)]) ⟨[.cells cs], []⟩ : Ans) =
 branch (.bool (decide (i < (↑l.length : Int))))
 (branch (.bool (inR l i))
 (branch (.bool ((LD.one (LT.ns 1)).is (V.rowAt l i)))
 (branch (.bool (nilA (V.rowAt l i)))
 (loopRun (f60_l0.run F) [1, 4, 5, 6] K m
 (Env.mk 76
 [(1, AV.eptr [AV.ns z 1 l]),
 (4, AV.ms 0 1 0 256 256),
 (5, .int .i64 e), (6, .int .i64 (IntKind.i64.wrap (i + 1)))])
 (St.mk [Ob.cells cs] []))
 (branch (.bool (inR l i))
 (branch (.bool ((LD.one (LT.ns 1)).is (V.rowAt l i)))
 (branch (.bool (decide ((↑(rwA (V.rowAt l i)).length : Int) > 200)))
 (K AX.ret (Env.mk 76 [(2, AV.nilsl), (3, AV.bool false)])
 (St.mk [Ob.cells cs] []))
 (branch
 (AV.bool
 (decide
 (IntKind.i64.wrap (e - (↑(rwA (V.rowAt l i)).length : Int)) <
 IntKind.i64.wrap ((1 : Int) + (↑l.length : Int)))))
 (K AX.ret (Env.mk 76 [(2, AV.nilsl), (3, AV.bool false)])
 (St.mk [Ob.cells cs] []))
 (if (0 : Int) ≤ IntKind.i64.wrap ((1 : Int) + i) ∧ IntKind.i64.wrap ((1 : Int) + i) < 256 then
 branch
 (AV.bool
 (true && inC cs (0 + (IntKind.i64.wrap ((1 : Int) + i)).toNat * 1) 1))
 (if
 (0 : Int) ≤ IntKind.i64.wrap (e - (↑(rwA (V.rowAt l i)).length : Int)) ∧
 IntKind.i64.wrap (e - (↑(rwA (V.rowAt l i)).length : Int)) ≤ 256 then
 if (IntKind.i64.wrap (e - (↑(rwA (V.rowAt l i)).length : Int))).toNat < 256 then
 branch (.bool (inR l i))
 (branch (.bool ((LD.one (LT.ns 1)).is (V.rowAt l i)))
 (branch
 (AV.bool
 (inC
 (setC cs (0 + (IntKind.i64.wrap ((1 : Int) + i)).toNat * 1)
 [AV.int IntKind.u8
 (IntKind.u8.wrap
 (IntKind.i64.wrap ((↑(rwA (V.rowAt l i)).length : Int) + 1)))])
 (0 +
 (IntKind.i64.wrap (e - (↑(rwA (V.rowAt l i)).length : Int))).toNat * 1)
 (mulN
 (minN (rwA (V.rowAt l i)).length
 (256 -
 (IntKind.i64.wrap (e - (↑(rwA (V.rowAt l i)).length : Int))).toNat))
 1)))
 (loopRun (f60_l0.run F) [1, 4, 5, 6] K m
 (Env.mk 76
 [(1, AV.eptr [AV.ns z 1 l]),
 (4, AV.ms 0 1 0 256 256),
 (5,
 .int .i64 (IntKind.i64.wrap (e - (↑(rwA (V.rowAt l i)).length : Int)))),
 (6, .int .i64 (IntKind.i64.wrap (i + 1)))])
 (St.mk
 [Ob.cells
 (setC
 (setC cs (0 + (IntKind.i64.wrap ((1 : Int) + i)).toNat * 1)
 [AV.int IntKind.u8
 (IntKind.u8.wrap
 (IntKind.i64.wrap ((↑(rwA (V.rowAt l i)).length : Int) + 1)))])
 (0 +
 (IntKind.i64.wrap (e - (↑(rwA (V.rowAt l i)).length : Int))).toNat *
 1)
 (flC (rwA (V.rowAt l i))
 (minN (rwA (V.rowAt l i)).length
 (256 -
 (IntKind.i64.wrap (e - (↑(rwA (V.rowAt l i)).length : Int))).toNat))))]
 []))
 none)
 none)
 none
 else
 branch (.bool (inR l i))
 (branch (.bool ((LD.one (LT.ns 1)).is (V.rowAt l i)))
 (loopRun (f60_l0.run F) [1, 4, 5, 6] K m
 (Env.mk 76
 [(1, AV.eptr [AV.ns z 1 l]),
 (4, AV.ms 0 1 0 256 256),
 (5,
 .int .i64 (IntKind.i64.wrap (e - (↑(rwA (V.rowAt l i)).length : Int)))),
 (6, .int .i64 (IntKind.i64.wrap (i + 1)))])
 (St.mk
 [Ob.cells
 (setC cs (0 + (IntKind.i64.wrap ((1 : Int) + i)).toNat * 1)
 [AV.int IntKind.u8
 (IntKind.u8.wrap
 (IntKind.i64.wrap ((↑(rwA (V.rowAt l i)).length : Int) + 1)))])]
 []))
 none)
 none
 else none)
 none
 else none)))
 none)
 none))
 none)
 none)
 (K (AX.exit 0)
 (Env.mk 76
 [(1, AV.eptr [AV.ns z 1 l]),
 (4, AV.ms 0 1 0 256 256), (5, .int .i64 e)])
 (St.mk [Ob.cells cs] [])) := by kernel_rfl
theorem rt_runv (F v n : Nat) (cs : List AV) (st : List Ob) :
 (f78.run F [.vs 0 v 1 n] ⟨.vec v cs :: st, []⟩ : Ans) =
 loopRun (f78_l0.run F) [0]
 (Cont.block 0 (Cont.then (f78_r0.run F (f78.leaveK Fun.done)) (f78.leaveK Fun.done))) F
 (Env.mk 21 [(0, AV.vs 0 v 1 n)]) (St.mk (Ob.vec v cs :: st) []) := by kernel_rfl
theorem by_out (F : Nat) (z : Bool) (l : List (List AV)) (e : Int) (st : St) :
 ((Cont.block 0 (Cont.then (f60_r0.run F (f60.leaveK Fun.done)) (f60.leaveK Fun.done))) (.exit 0) (Env.mk 76 [(1, .eptr [.ns z 1 l]), (4, .ms 0 1 0 256 256), (5, .int .i64 e)]) st : Ans) =
 branch (.bool (decide (IntKind.i64.wrap ((1 : Int) + (↑l.length : Int)) > e)))
 (some (Fin.ret (AV.tup [AV.nilsl, AV.bool false]), st))
 (some (Fin.ret (AV.tup [AV.ms 0 1 0 256 256, AV.bool true]), st)) := by kernel_rfl
theorem by_ret (F : Nat) (st : St) :
 ((Cont.block 0 (Cont.then (f60_r0.run F (f60.leaveK Fun.done)) (f60.leaveK Fun.done))) .ret (Env.mk 76 [(2, .nilsl), (3, .bool false)]) st : Ans) =
 some (Fin.ret (AV.tup [AV.nilsl, AV.bool false]), st) := by kernel_rfl
theorem rt_round (F m v n : Nat) (K : Cont) (cs : List AV) (st : List Ob) :
 (loopRun (f78_l0.run F) [0] K m.succ (Env.mk 21 [(0, .vs 0 v 1 n)]) ⟨.vec v cs :: st, []⟩ : Ans) =
 branch (.bool (decide ((↑n : Int) > 0)))
 (if
 (0 : Int) ≤ IntKind.i64.wrap ((↑n : Int) - 1) ∧
 IntKind.i64.wrap ((↑n : Int) - 1) < (↑n : Int) then
 branch (.bool (v.beq v))
 (branch
 (AV.bool
 ((LD.one (LT.ns 1)).is
 (List.drop ((IntKind.i64.wrap ((↑n : Int) - 1)).toNat * 1) cs)))
 (branch (.bool (nilA (List.drop ((IntKind.i64.wrap ((↑n : Int) - 1)).toNat * 1) cs)))
 (if
 (0 : Int) ≤ IntKind.i64.wrap ((↑n : Int) - 1) ∧
 IntKind.i64.wrap ((↑n : Int) - 1) ≤ (↑n : Int) then
 loopRun (f78_l0.run F) [0] K m
 (Env.mk 21
 [(0, AV.vs 0 v 1 (IntKind.i64.wrap ((↑n : Int) - 1)).toNat)])
 (St.mk (Ob.vec v cs :: st) [])
 else none)
 (K (AX.exit 0) (Env.mk 21 [(0, AV.vs 0 v 1 n)])
 (St.mk (Ob.vec v cs :: st) [])))
 none)
 none
 else none)
 (K (AX.exit 0) (Env.mk 21 [(0, AV.vs 0 v 1 n)])
 (St.mk (Ob.vec v cs :: st) [])) := by kernel_rfl
theorem rt_out (F v n : Nat) (st : St) :
 ((Cont.block 0 (Cont.then (f78_r0.run F (f78.leaveK Fun.done)) (f78.leaveK Fun.done))) (.exit 0) (Env.mk 21 [(0, .vs 0 v 1 n)]) st : Ans) =
 some (Fin.ret (AV.vs 0 v 1 n), st) := by kernel_rfl
theorem rt_nil (F : Nat) (st : St) :
 (f78.run F [.nilsl] st : Ans) =
 loopRun (f78_l0.run F) [0]
 (Cont.block 0 (Cont.then (f78_r0.run F (f78.leaveK Fun.done)) (f78.leaveK Fun.done))) F
 (Env.mk 21 [(0, AV.nilsl)]) st := by kernel_rfl
theorem rt_nilr (F m : Nat) (st : St) :
 (loopRun (f78_l0.run F) [0] (Cont.block 0 (Cont.then (f78_r0.run F (f78.leaveK Fun.done)) (f78.leaveK Fun.done))) m.succ (Env.mk 21 [(0, .nilsl)]) st : Ans) =
 some (Fin.ret AV.nilsl, st) := by kernel_rfl
end Go.Proofs.Ytljigmghdpkdlaa.V
