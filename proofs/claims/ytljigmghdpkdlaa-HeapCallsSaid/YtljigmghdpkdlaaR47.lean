/- Merged out of 15 texts: what the claim's code comes to, and why. -/
import Derived.Test.YtljigmghdpkdlaaR46
set_option linter.unusedVariables false
set_option linter.unusedSimpArgs false
set_option maxRecDepth 100000
namespace Go.Proofs.Ytljigmghdpkdlaa.V
open Go Go.V Go.RowKit
theorem kadd_run (F : Nat) (z : Bool) (l : List (List AV)) (a b : Ob) :
 (f26.run F [.ptr 0 0, .ns z 1 l] ⟨[a, b], []⟩ : Ans) =
 branch (.bool (decide ((↑l.length : Int) > 200)))
 (some
 (Fin.ret
 (AV.tup [AV.agg [.int .i64 0, .int .i64 0], .int .i64 41]),
 St.mk [a, b, Ob.cells [.int .i64 0, .int .i64 0], Ob.nov 0] []))
 (loopRun (f26_l0.run F) [0, 1, 4, 6]
 (Cont.block 0 (Cont.then (f26_r0.run F (f26.leaveK Fun.done)) (f26.leaveK Fun.done))) F
 (Env.mk 54
 [(0, AV.ptr 0 0), (1, AV.ns z 1 l),
 (4, AV.ptr 2 0), (6, .int .i64 0)])
 (St.mk [a, b, Ob.cells [.int .i64 0, .int .i64 0], Ob.nov 0] [])) := by kernel_rfl
theorem kadd_round (F m v n i u : Nat) (cs : List AV) (z : Bool) (l : List (List AV)) (c : Ob) (K : Cont) :
 (loopRun (f26_l0.run F) [0, 1, 4, 6] K m.succ (Env.mk 54 [(0, .ptr 0 0), (1, .ns z 1 l), (4, .ptr 2 0), (6, .int .i64 (i : Int))]) ⟨[.cells [.vs 1 v 1 n], .vec v cs, .cells [.int .i64 0, .int .i64 0], .nov u], []⟩ : Ans) =
 branch (.bool (decide ((↑i : Int) < 256)))
 (branch (.bool ((u + 1).beq (u + 1)))
 (branch (.bool (decide ((↑i : Int) < (↑n : Int))))
 (if (0 : Int) ≤ (↑i : Int) ∧ (↑i : Int) < (↑n : Int) then
 branch (.bool (v.beq v))
 (branch (.bool ((LD.agg [LT.ns 1]).is (List.drop (i * 1) cs)))
 (branch (.bool ((u + 1).beq (u + 1)))
 (branch (.bool ((u + 1).beq (u + 1)))
 (branch
 (AV.bool
 (isN (rwA (List.drop (i * 1) cs)) &&
 cdec
 (trm (sR (rwA (List.drop (i * 1) cs))) = true ∧
 pgOk (sR (rwA (List.drop (i * 1) cs))) = true ∧
 (rwA (List.drop (i * 1) cs)).length ≤ 251)))
 (branch (.bool (decide (roomR (rwA (List.drop (i * 1) cs)) ≥ (↑l.length : Int))))
 (branch (.bool ((u + 1).beq (u + 1)))
 (branch
 (AV.bool
 (isN (rwA (List.drop (i * 1) cs)) && (byOk l && cdec (l.length ≤ 1000000))))
 (onSome (rhA.G 0 [Ob.cells [AV.vs 1 v 1 n], Ob.vec v cs]) none
 fun (o : Rh) =>
 branch
 (AV.bool
 (true &&
 (pgOkB (oR (rA (rwA (List.drop (i * 1) cs)) (nR l))) &&
 decide ((0 : Int) ≤ (↑i : Int) ∧ (↑i : Int) < 300))))
 (K AX.ret
 (Env.mk 54
 [(4, AV.ptr 2 0), (5, .int .i64 0)])
 (St.mk
 [rhA.ob 0
 (opq (o.set i (ofS (nR (oR (rA (rwA (List.drop (i * 1) cs)) (nR l)))))))
 0,
 rhA.ob 0
 (opq (o.set i (ofS (nR (oR (rA (rwA (List.drop (i * 1) cs)) (nR l)))))))
 1,
 Ob.cells
 [.int .i64 (↑i : Int),
 .int .i64 (rAK (rwA (List.drop (i * 1) cs)) (nR l))],
 Ob.vec (u + 1)
 [AV.ns (nilA (List.drop (i * 1) cs)) 1
 (rwA (List.drop (i * 1) cs))]]
 []))
 none)
 none)
 none)
 (loopRun (f26_l0.run F) [0, 1, 4, 6] K m
 (Env.mk 54
 [(0, AV.ptr 0 0), (1, AV.ns z 1 l),
 (4, AV.ptr 2 0),
 (6, .int .i64 (IntKind.i64.wrap ((↑i : Int) + 1)))])
 (St.mk
 [Ob.cells [AV.vs 1 v 1 n], Ob.vec v cs,
 Ob.cells [.int .i64 0, .int .i64 0],
 Ob.vec (u + 1)
 [AV.ns (nilA (List.drop (i * 1) cs)) 1
 (rwA (List.drop (i * 1) cs))]]
 [])))
 none)
 none)
 none)
 none)
 none
 else none)
 (branch (.bool ((u + 1).beq (u + 1)))
 (branch (.bool (isN [] && cdec (true = true ∧ true = true ∧ 0 ≤ 251)))
 (branch (.bool (decide (roomR [] ≥ (↑l.length : Int))))
 (branch (.bool ((u + 1).beq (u + 1)))
 (branch (.bool (isN [] && (byOk l && cdec (l.length ≤ 1000000))))
 (onSome (rhA.G 0 [Ob.cells [AV.vs 1 v 1 n], Ob.vec v cs]) none fun (o : Rh) =>
 branch
 (AV.bool
 (true &&
 (pgOkB (oR (rA [] (nR l))) && decide ((0 : Int) ≤ (↑i : Int) ∧ (↑i : Int) < 300))))
 (K AX.ret
 (Env.mk 54
 [(4, AV.ptr 2 0), (5, .int .i64 0)])
 (St.mk
 [rhA.ob 0 (opq (o.set i (ofS (nR (oR (rA [] (nR l))))))) 0,
 rhA.ob 0 (opq (o.set i (ofS (nR (oR (rA [] (nR l))))))) 1,
 Ob.cells [.int .i64 (↑i : Int), .int .i64 (rAK [] (nR l))],
 Ob.vec (u + 1) [AV.nilsl]]
 []))
 none)
 none)
 none)
 (loopRun (f26_l0.run F) [0, 1, 4, 6] K m
 (Env.mk 54
 [(0, AV.ptr 0 0), (1, AV.ns z 1 l),
 (4, AV.ptr 2 0),
 (6, .int .i64 (IntKind.i64.wrap ((↑i : Int) + 1)))])
 (St.mk
 [Ob.cells [AV.vs 1 v 1 n], Ob.vec v cs,
 Ob.cells [.int .i64 0, .int .i64 0],
 Ob.vec (u + 1) [AV.nilsl]]
 [])))
 none)
 none))
 none)
 (K (AX.exit 0) (Env.mk 54 [(4, AV.ptr 2 0)])
 (St.mk
 [Ob.cells [AV.vs 1 v 1 n], Ob.vec v cs,
 Ob.cells [.int .i64 0, .int .i64 0], Ob.nov u]
 [])) := by kernel_rfl
theorem kadd_round2 (F m v n i u : Nat) (cs : List AV) (x : AV) (z : Bool) (l : List (List AV)) (c : Ob) (K : Cont) :
 (loopRun (f26_l0.run F) [0, 1, 4, 6] K m.succ (Env.mk 54 [(0, .ptr 0 0), (1, .ns z 1 l), (4, .ptr 2 0), (6, .int .i64 (i : Int))]) ⟨[.cells [.vs 1 v 1 n], .vec v cs, .cells [.int .i64 0, .int .i64 0], .vec u [x]], []⟩ : Ans) =
 branch (.bool (decide ((↑i : Int) < 256)))
 (branch (.bool ((u + 1).beq (u + 1)))
 (branch (.bool (decide ((↑i : Int) < (↑n : Int))))
 (if (0 : Int) ≤ (↑i : Int) ∧ (↑i : Int) < (↑n : Int) then
 branch (.bool (v.beq v))
 (branch (.bool ((LD.agg [LT.ns 1]).is (List.drop (i * 1) cs)))
 (branch (.bool ((u + 1).beq (u + 1)))
 (branch (.bool ((u + 1).beq (u + 1)))
 (branch
 (AV.bool
 (isN (rwA (List.drop (i * 1) cs)) &&
 cdec
 (trm (sR (rwA (List.drop (i * 1) cs))) = true ∧
 pgOk (sR (rwA (List.drop (i * 1) cs))) = true ∧
 (rwA (List.drop (i * 1) cs)).length ≤ 251)))
 (branch (.bool (decide (roomR (rwA (List.drop (i * 1) cs)) ≥ (↑l.length : Int))))
 (branch (.bool ((u + 1).beq (u + 1)))
 (branch
 (AV.bool
 (isN (rwA (List.drop (i * 1) cs)) && (byOk l && cdec (l.length ≤ 1000000))))
 (onSome (rhA.G 0 [Ob.cells [AV.vs 1 v 1 n], Ob.vec v cs]) none
 fun (o : Rh) =>
 branch
 (AV.bool
 (true &&
 (pgOkB (oR (rA (rwA (List.drop (i * 1) cs)) (nR l))) &&
 decide ((0 : Int) ≤ (↑i : Int) ∧ (↑i : Int) < 300))))
 (K AX.ret
 (Env.mk 54
 [(4, AV.ptr 2 0), (5, .int .i64 0)])
 (St.mk
 [rhA.ob 0
 (opq (o.set i (ofS (nR (oR (rA (rwA (List.drop (i * 1) cs)) (nR l)))))))
 0,
 rhA.ob 0
 (opq (o.set i (ofS (nR (oR (rA (rwA (List.drop (i * 1) cs)) (nR l)))))))
 1,
 Ob.cells
 [.int .i64 (↑i : Int),
 .int .i64 (rAK (rwA (List.drop (i * 1) cs)) (nR l))],
 Ob.vec (u + 1)
 [AV.ns (nilA (List.drop (i * 1) cs)) 1
 (rwA (List.drop (i * 1) cs))]]
 []))
 none)
 none)
 none)
 (loopRun (f26_l0.run F) [0, 1, 4, 6] K m
 (Env.mk 54
 [(0, AV.ptr 0 0), (1, AV.ns z 1 l),
 (4, AV.ptr 2 0),
 (6, .int .i64 (IntKind.i64.wrap ((↑i : Int) + 1)))])
 (St.mk
 [Ob.cells [AV.vs 1 v 1 n], Ob.vec v cs,
 Ob.cells [.int .i64 0, .int .i64 0],
 Ob.vec (u + 1)
 [AV.ns (nilA (List.drop (i * 1) cs)) 1
 (rwA (List.drop (i * 1) cs))]]
 [])))
 none)
 none)
 none)
 none)
 none
 else none)
 (branch (.bool ((u + 1).beq (u + 1)))
 (branch (.bool (isN [] && cdec (true = true ∧ true = true ∧ 0 ≤ 251)))
 (branch (.bool (decide (roomR [] ≥ (↑l.length : Int))))
 (branch (.bool ((u + 1).beq (u + 1)))
 (branch (.bool (isN [] && (byOk l && cdec (l.length ≤ 1000000))))
 (onSome (rhA.G 0 [Ob.cells [AV.vs 1 v 1 n], Ob.vec v cs]) none fun (o : Rh) =>
 branch
 (AV.bool
 (true &&
 (pgOkB (oR (rA [] (nR l))) && decide ((0 : Int) ≤ (↑i : Int) ∧ (↑i : Int) < 300))))
 (K AX.ret
 (Env.mk 54
 [(4, AV.ptr 2 0), (5, .int .i64 0)])
 (St.mk
 [rhA.ob 0 (opq (o.set i (ofS (nR (oR (rA [] (nR l))))))) 0,
 rhA.ob 0 (opq (o.set i (ofS (nR (oR (rA [] (nR l))))))) 1,
 Ob.cells [.int .i64 (↑i : Int), .int .i64 (rAK [] (nR l))],
 Ob.vec (u + 1) [AV.nilsl]]
 []))
 none)
 none)
 none)
 (loopRun (f26_l0.run F) [0, 1, 4, 6] K m
 (Env.mk 54
 [(0, AV.ptr 0 0), (1, AV.ns z 1 l),
 (4, AV.ptr 2 0),
 (6, .int .i64 (IntKind.i64.wrap ((↑i : Int) + 1)))])
 (St.mk
 [Ob.cells [AV.vs 1 v 1 n], Ob.vec v cs,
 Ob.cells [.int .i64 0, .int .i64 0],
 Ob.vec (u + 1) [AV.nilsl]]
 [])))
 none)
 none))
 none)
 (K (AX.exit 0) (Env.mk 54 [(4, AV.ptr 2 0)])
 (St.mk
 [Ob.cells [AV.vs 1 v 1 n], Ob.vec v cs,
 Ob.cells [.int .i64 0, .int .i64 0], Ob.vec u [x]]
 [])) := by kernel_rfl
theorem kadd_r0 (F m i u : Nat) (z : Bool) (l : List (List AV)) (K : Cont) :
 (loopRun (f26_l0.run F) [0, 1, 4, 6] K m.succ (Env.mk 54 [(0, .ptr 0 0), (1, .ns z 1 l), (4, .ptr 2 0), (6, .int .i64 (i : Int))]) ⟨[.cells [.nilsl], .nov 0, .cells [.int .i64 0, .int .i64 0], .nov u], []⟩ : Ans) =
 branch (.bool (decide ((↑i : Int) < 256)))
 (branch (.bool ((u + 1).beq (u + 1)))
 (branch (.bool ((u + 1).beq (u + 1)))
 (branch (.bool (isN [] && cdec (true = true ∧ true = true ∧ 0 ≤ 251)))
 (branch (.bool (decide (roomR [] ≥ (↑l.length : Int))))
 (branch (.bool ((u + 1).beq (u + 1)))
 (branch (.bool (isN [] && (byOk l && cdec (l.length ≤ 1000000))))
 (onSome (rhA.G 0 [Ob.cells [AV.nilsl], Ob.nov 0]) none fun (o : Rh) =>
 branch
 (AV.bool
 (true && (pgOkB (oR (rA [] (nR l))) && decide ((0 : Int) ≤ (↑i : Int) ∧ (↑i : Int) < 300))))
 (K AX.ret
 (Env.mk 54
 [(4, AV.ptr 2 0), (5, .int .i64 0)])
 (St.mk
 [rhA.ob 0 (opq (o.set i (ofS (nR (oR (rA [] (nR l))))))) 0,
 rhA.ob 0 (opq (o.set i (ofS (nR (oR (rA [] (nR l))))))) 1,
 Ob.cells [.int .i64 (↑i : Int), .int .i64 (rAK [] (nR l))],
 Ob.vec (u + 1) [AV.nilsl]]
 []))
 none)
 none)
 none)
 (loopRun (f26_l0.run F) [0, 1, 4, 6] K m
 (Env.mk 54
 [(0, AV.ptr 0 0), (1, AV.ns z 1 l),
 (4, AV.ptr 2 0),
 (6, .int .i64 (IntKind.i64.wrap ((↑i : Int) + 1)))])
 (St.mk
 [Ob.cells [AV.nilsl], Ob.nov 0,
 Ob.cells [.int .i64 0, .int .i64 0],
 Ob.vec (u + 1) [AV.nilsl]]
 [])))
 none)
 none)
 none)
 (K (AX.exit 0) (Env.mk 54 [(4, AV.ptr 2 0)])
 (St.mk
 [Ob.cells [AV.nilsl], Ob.nov 0, Ob.cells [.int .i64 0, .int .i64 0],
 Ob.nov u]
 [])) := by kernel_rfl
theorem kadd_out (F : Nat) (a b : Ob) (g : Ob) (p s : Int) :
 ((Cont.block 0 (Cont.then (f26_r0.run F (f26.leaveK Fun.done)) (f26.leaveK Fun.done))) (.exit 0) (Env.mk 54 [(4, .ptr 2 0)]) ⟨[a, b, .cells [.int .i64 p, .int .i64 s], g], []⟩ : Ans) =
 some
 (Fin.ret
 (AV.tup [AV.agg [.int .i64 0, .int .i64 0], .int .i64 36]),
 St.mk [a, b, Ob.cells [.int .i64 0, .int .i64 0], g] []) := by kernel_rfl
theorem kadd_ret (F : Nat) (a b : Ob) (g : Ob) (p s e : Int) :
 ((Cont.block 0 (Cont.then (f26_r0.run F (f26.leaveK Fun.done)) (f26.leaveK Fun.done))) .ret (Env.mk 54 [(4, .ptr 2 0), (5, .int .i64 e)]) ⟨[a, b, .cells [.int .i64 p, .int .i64 s], g], []⟩ : Ans) =
 some
 (Fin.ret (AV.tup [AV.agg [.int .i64 p, .int .i64 s], .int .i64 e]),
 St.mk [a, b, Ob.cells [.int .i64 p, .int .i64 s], g] []) := by kernel_rfl
theorem SlB.add {s : Sl} (h : SlB s) {b : List Nat} (hb : ∀ x ∈ b, x < 256) (hl : b.length ≤ 200) : ((b.length : Int) ≤ roomI s → ∃ q, putS s (freeK s : Nat) b = some q ∧ PgB q) := by
 intro hr
 obtain ⟨p, hp, rfl⟩ := h.page
 have h1 := (hp.add_iff b hl).mpr (by rw [hp.roomP]; exact hr)
 rw [addP, if_pos hp.1.2.2] at h1
 cases ha : putP p (freeK (ofS p) : Nat) b with
 | none => rw [ha] at h1; cases h1
 | some q =>
  refine ⟨q, ?_, (hp.put hb (by omega) ha).1⟩
  rw [putP, if_pos hp.1.2.2] at ha; exact ha
def Rh.kF (X : Rh) (c : Nat) : Nat → Nat → Nat
 | 0, i => i
 | d + 1, i => if (c : Int) ≤ roomI (X.at_ i) then i else X.kF c d (i + 1)
theorem Rh.kF_spec (X : Rh) (c : Nat) : ∀ (d i : Nat), i ≤ X.kF c d i ∧ X.kF c d i ≤ i + d ∧ (∀ t, i ≤ t → t < X.kF c d i → roomI (X.at_ t) < (c : Int)) ∧ (X.kF c d i < i + d → (c : Int) ≤ roomI (X.at_ (X.kF c d i)))
 | 0, i => ⟨Nat.le_refl _, Nat.le_refl _, fun t h1 h2 => by rw [Rh.kF] at h2; omega, fun h => by rw [Rh.kF] at h; omega⟩
 | d + 1, i => by
  rw [Rh.kF]
  split
  ·rename_i h
   exact ⟨Nat.le_refl _, by omega, fun t h1 h2 => by omega, fun _ => h⟩
  ·rename_i h
   obtain ⟨a1, a2, a3, a4⟩ := X.kF_spec c d (i + 1)
   refine ⟨by omega, by omega, fun t h1 h2 => ?_, fun h3 => a4 (by omega)⟩
   by_cases e : t = i
   ·subst e; omega
   ·exact a3 t (by omega) h2
theorem room_nil : roomI [] = 200 := rfl
def isReg (g : Ob) : Prop := ∃ u, g = .nov u ∨ ∃ x, g = .vec u [x]
theorem rA_sN (s : Sl) (b : List Nat) : rA (sN s) b = putS s (freeK s : Nat) b := by rw [rA, opq_eq, sR_sN]
theorem rAK_sN {s : Sl} {b q : List Nat} (h : putS s (freeK s : Nat) b = some q) : rAK (sN s) b = (freeK s : Int) := by
 rw [rAK, opq_eq, rA_sN, h, sR_sN]; rfl
theorem roomR_sN (s : Sl) : roomR (sN s) = roomI s := by rw [roomR, opq_eq, sR_sN]
theorem cond_sN {s : Sl} (h : SlB s) : (isN (sN s) && cdec (trm (sR (sN s)) = true ∧ pgOk (sR (sN s)) = true ∧ (sN s).length ≤ 251)) = true := by
 rw [isN_sN h.1 (by have := h.2.2.2; omega), show cdec (trm (sR (sN s)) = true ∧ pgOk (sR (sN s)) = true ∧ (sN s).length ≤ 251) = true from cdec_iff.mpr (by rw [sR_sN, sN_length]; exact ⟨h.2.1, h.2.2.1, h.2.2.2⟩)]; rfl
theorem isN_nil : isN [] = true := isN_sN okSl_nil (by decide)
theorem cond_nil : (isN [] && cdec (true = true ∧ true = true ∧ 0 ≤ 251)) = true := by
 rw [isN_nil, show cdec (true = true ∧ true = true ∧ 0 ≤ 251) = true from cdec_iff.mpr ⟨rfl, rfl, by omega⟩]; rfl
theorem kadd_vec (F m v n i u : Nat) (hi : i < 256) (cs : List AV) (x : AV) (z : Bool) (l : List (List AV)) (K : Cont) :
  loopRun (f26_l0.run F) [0, 1, 4, 6] K m.succ (Env.mk 54 [(0, .ptr 0 0), (1, .ns z 1 l), (4, .ptr 2 0), (6, .int .i64 (i : Int))]) ⟨[.cells [.vs 1 v 1 n], .vec v cs, .cells [.int .i64 0, .int .i64 0], .vec u [x]], []⟩
   = loopRun (f26_l0.run F) [0, 1, 4, 6] K m.succ (Env.mk 54 [(0, .ptr 0 0), (1, .ns z 1 l), (4, .ptr 2 0), (6, .int .i64 (i : Int))]) ⟨[.cells [.vs 1 v 1 n], .vec v cs, .cells [.int .i64 0, .int .i64 0], .nov u], []⟩ := by
 have hd : decide ((i : Int) < 256) = true := decide_eq_true (by omega)
 rw [kadd_round2 (c := .gone), kadd_round (c := .gone), hd, branch_true, branch_true]
theorem kadd_reg (F m v n i : Nat) (hi : i < 256) (cs : List AV) {g : Ob} (hg : isReg g) : ∃ u, ∀ (z : Bool) (l : List (List AV)) (K : Cont),
  loopRun (f26_l0.run F) [0, 1, 4, 6] K (m + 1) (Env.mk 54 [(0, .ptr 0 0), (1, .ns z 1 l), (4, .ptr 2 0), (6, .int .i64 (i : Int))]) ⟨[.cells [.vs 1 v 1 n], .vec v cs, .cells [.int .i64 0, .int .i64 0], g], []⟩
   = loopRun (f26_l0.run F) [0, 1, 4, 6] K m.succ (Env.mk 54 [(0, .ptr 0 0), (1, .ns z 1 l), (4, .ptr 2 0), (6, .int .i64 (i : Int))]) ⟨[.cells [.vs 1 v 1 n], .vec v cs, .cells [.int .i64 0, .int .i64 0], .nov u], []⟩ := by
 obtain ⟨u, rfl | ⟨x, rfl⟩⟩ := hg
 ·exact ⟨u, fun z l K => rfl⟩
 ·exact ⟨u, fun z l K => kadd_vec F m v n i u hi cs x z l K⟩
theorem kadd_loop (F : Nat) {X : Rh} (h : X.Ok) {v : Nat} (hv : X.v = v + 1) (z : Bool) {b : List Nat} (hb : ∀ x ∈ b, x < 256) (hl : b.length ≤ 200) : ∀ (d i m : Nat) (g : Ob), i + d = 256 → d < m → isReg g →
  (∃ q g', X.kF b.length d i < 256 ∧ putS (X.at_ (X.kF b.length d i)) (freeK (X.at_ (X.kF b.length d i)) : Nat) b = some q ∧ ∀ K, loopRun (f26_l0.run F) [0, 1, 4, 6] K m (Env.mk 54 [(0, .ptr 0 0), (1, .ns z 1 (bR b)), (4, .ptr 2 0), (6, .int .i64 (i : Int))]) ⟨X.obs ++ [.cells [.int .i64 0, .int .i64 0], g], []⟩
    = K .ret (Env.mk 54 [(4, .ptr 2 0), (5, .int .i64 0)]) ⟨(X.set (X.kF b.length d i) (ofS q)).obs ++ [.cells [.int .i64 (X.kF b.length d i : Int), .int .i64 (freeK (X.at_ (X.kF b.length d i)) : Int)], g'], []⟩) ∨
  (X.kF b.length d i = 256 ∧ ∃ g', ∀ K, loopRun (f26_l0.run F) [0, 1, 4, 6] K m (Env.mk 54 [(0, .ptr 0 0), (1, .ns z 1 (bR b)), (4, .ptr 2 0), (6, .int .i64 (i : Int))]) ⟨X.obs ++ [.cells [.int .i64 0, .int .i64 0], g], []⟩
    = K (.exit 0) (Env.mk 54 [(4, .ptr 2 0)]) ⟨X.obs ++ [.cells [.int .i64 0, .int .i64 0], g'], []⟩)
 | d, i, 0, g, _, h, _ => by omega
 | 0, i, m + 1, g, hi, _, hg => by
  refine .inr ⟨by rw [Rh.kF]; omega, g, fun K => ?_⟩
  obtain ⟨v', cs, n⟩ := X
  simp only at hv
  subst hv
  obtain ⟨u, rfl | ⟨x, rfl⟩⟩ := hg
  ·show loopRun (f26_l0.run F) [0, 1, 4, 6] K m.succ _ ⟨[.cells [.vs 1 (v + 1) 1 n], .vec (v + 1) (qC cs), .cells [.int .i64 0, .int .i64 0], .nov u], []⟩ = _
   rw [kadd_round (c := .gone), branch_not (decide_eq_false (by omega))]; rfl
  ·show loopRun (f26_l0.run F) [0, 1, 4, 6] K m.succ _ ⟨[.cells [.vs 1 (v + 1) 1 n], .vec (v + 1) (qC cs), .cells [.int .i64 0, .int .i64 0], .vec u [x]], []⟩ = _
   rw [kadd_round2 (c := .gone), branch_not (decide_eq_false (by omega))]; rfl
 | d + 1, i, m + 1, g, hi, hm, hg => by
  have hby := byOk_bR hb (show b.length < 4611686018427387904 by omega)
  have hcd : cdec ((bR b).length ≤ 1000000) = true := cdec_iff.mpr (by rw [bR_length]; omega)
  have hS := Rh.at_sl h i
  have hadd := hS.add hb hl
  have ih := fun g' hg' => kadd_loop F h hv z hb hl d (i + 1) m g' (by omega) (by omega) hg'
  have hG := rh_G h
  have hn := h.n
  have hm3 := h.m
  have hsp := fun (s : Sl) (hs : SlB s) => (Rh.set_spec h hs (show i < 300 by omega)).1
  rw [Rh.kF]
  by_cases hr : (b.length : Int) ≤ roomI (X.at_ i)
  ·rw [if_pos hr]
   obtain ⟨q, hq, hp⟩ := hadd hr
   have hok := hsp _ hp.sl
   refine .inl ⟨q, ?_⟩
   obtain ⟨v', cs, n⟩ := X
   simp only at hv hn hm3
   subst hv
   by_cases hin : i < n
   ·obtain ⟨a1, a2, a3⟩ := Rh.cell_at h (p := (i : Int)) (by omega) (by omega)
    rw [Int.toNat_natCast] at a1 a2 a3
    obtain ⟨u, hu⟩ := kadd_reg F m (v + 1) n i (by omega) (qC cs) hg
    ·refine ⟨.vec (u + 1) [.ns (nilA (List.drop (i * 1) (qC cs))) 1 (sN ((Rh.mk (v + 1) cs n).at_ i))], by omega, hq, fun K => (hu z (bR b) K).trans ?_⟩
     rw [kadd_round (c := .gone)]
     rw [branch_of (decide_eq_true (by omega)), branch_of (Nat.beq_refl _), branch_of (decide_eq_true (by omega)), if_pos ⟨by omega, by omega⟩, branch_of (Nat.beq_refl _), branch_of a1, branch_of (Nat.beq_refl _), branch_of (Nat.beq_refl _), a2, branch_of (cond_sN hS), roomR_sN, bR_length, branch_of (decide_eq_true hr), branch_of (Nat.beq_refl _), branch_of (by rw [a3, hby, ← bR_length b, hcd]; rfl),
      show rhA.G 0 [Ob.cells [AV.vs 1 (v + 1) 1 n], Ob.vec (v + 1) (qC cs)] = _ from hG, onSome_some, nR_bR, rA_sN, hq, oR_some, branch_of (by rw [pgOkB_bR hp, decide_eq_true ⟨by omega, by omega⟩]; rfl), nR_bR, opq_eq, rAK_sN hq, ← rh_obl hok]
     rfl
   ·have hat : (Rh.mk (v + 1) cs n).at_ i = [] := Rh.at_ge (by simp only; omega)
    rw [hat] at hq hr
    have e0 : rA [] b = some q := by have := rA_sN [] b; rw [show sN [] = [] from rfl] at this; rw [this]; exact hq
    have e1 : rAK [] b = (freeK [] : Nat) := by have := rAK_sN hq; rw [show sN [] = [] from rfl] at this; exact this
    have e2 : roomR [] = roomI [] := roomR_sN []
    obtain ⟨u, hu⟩ := kadd_reg F m (v + 1) n i (by omega) (qC cs) hg
    ·refine ⟨.vec (u + 1) [.nilsl], by omega, by rw [hat]; exact hq, fun K => (hu z (bR b) K).trans ?_⟩
     rw [kadd_round (c := .gone)]
     rw [branch_of (decide_eq_true (by omega)), branch_of (Nat.beq_refl _), branch_not (decide_eq_false (by omega)), branch_of (Nat.beq_refl _), branch_of cond_nil, e2, bR_length, branch_of (decide_eq_true hr), branch_of (Nat.beq_refl _), branch_of (by rw [isN_nil, hby, ← bR_length b, hcd]; rfl),
      show rhA.G 0 [Ob.cells [AV.vs 1 (v + 1) 1 n], Ob.vec (v + 1) (qC cs)] = _ from hG, onSome_some, nR_bR, e0, oR_some, branch_of (by rw [pgOkB_bR hp, decide_eq_true ⟨by omega, by omega⟩]; rfl), nR_bR, opq_eq, e1, hat, ← rh_obl hok]
     rfl
  ·rw [if_neg hr]
   have hin : i < X.n := by
    by_cases hin : i < X.n
    ·exact hin
    ·rw [Rh.at_ge (by omega), room_nil] at hr; omega
   obtain ⟨v', cs, n⟩ := X
   simp only at hv hn hm3 hin
   subst hv
   obtain ⟨a1, a2, a3⟩ := Rh.cell_at h (p := (i : Int)) (by omega) (by omega)
   rw [Int.toNat_natCast] at a1 a2 a3
   obtain ⟨u, hu⟩ := kadd_reg F m (v + 1) n i (by omega) (qC cs) hg
   have step : ∀ K, loopRun (f26_l0.run F) [0, 1, 4, 6] K (m + 1) (Env.mk 54 [(0, .ptr 0 0), (1, .ns z 1 (bR b)), (4, .ptr 2 0), (6, .int .i64 (i : Int))]) ⟨(Rh.mk (v + 1) cs n).obs ++ [.cells [.int .i64 0, .int .i64 0], g], []⟩
     = loopRun (f26_l0.run F) [0, 1, 4, 6] K m (Env.mk 54 [(0, .ptr 0 0), (1, .ns z 1 (bR b)), (4, .ptr 2 0), (6, .int .i64 ((i + 1 : Nat) : Int))]) ⟨(Rh.mk (v + 1) cs n).obs ++ [.cells [.int .i64 0, .int .i64 0], .vec (u + 1) [.ns (nilA (List.drop (i * 1) (qC cs))) 1 (sN ((Rh.mk (v + 1) cs n).at_ i))]], []⟩ := fun K => by
    ·refine (hu z (bR b) K).trans ?_
     rw [kadd_round (c := .gone)]
     rw [branch_of (decide_eq_true (by omega)), branch_of (Nat.beq_refl _), branch_of (decide_eq_true (by omega)), if_pos ⟨by omega, by omega⟩, branch_of (Nat.beq_refl _), branch_of a1, branch_of (Nat.beq_refl _), branch_of (Nat.beq_refl _), a2, branch_of (cond_sN hS), roomR_sN, bR_length, branch_not (decide_eq_false hr), wrap_succ (by omega)]
     rfl
   rcases ih _ ⟨u + 1, .inr ⟨_, rfl⟩⟩ with ⟨q, g', k1, k2, k3⟩ | ⟨k1, g', k3⟩
   ·exact .inl ⟨q, g', k1, k2, fun K => (step K).trans (k3 K)⟩
   ·exact .inr ⟨k1, g', fun K => (step K).trans (k3 K)⟩
noncomputable def Rh.k (X : Rh) (b : List Nat) : Nat := X.kF b.length 256 0
noncomputable def Rh.addB (X : Rh) (b : List Nat) : Bool := decide (b.length ≤ 200) && Nat.blt (X.k b) 256
noncomputable def Rh.addE (X : Rh) (b : List Nat) : Int := opq (bif decide (b.length ≤ 200) then (bif Nat.blt (X.k b) 256 then 0 else 36) else 41)
noncomputable def Rh.addR (X : Rh) (b : List Nat) : Int := opq (bif X.addB b then (X.k b : Int) else 0)
noncomputable def Rh.addS (X : Rh) (b : List Nat) : Int := opq (bif X.addB b then (freeK (X.at_ (X.k b)) : Int) else 0)
noncomputable def Rh.add (X : Rh) (b : List Nat) : Rh := bif X.addB b then X.set (X.k b) (ofS ((putS (X.at_ (X.k b)) (freeK (X.at_ (X.k b)) : Nat) b).getD [])) else X
noncomputable def Rh.addA (X : Rh) (b : List Nat) : AV := .tup [.agg [.int .i64 (X.addR b), .int .i64 (X.addS b)], .int .i64 (X.addE b)]
theorem kadd_at {X : Rh} (h : X.Ok) (z : Bool) {b : List Nat} (hb : ∀ x ∈ b, x < 256) (hbl : b.length < 4611686018427387904) : ∃ xs, f26.run 1000 [.ptr 0 0, .ns z 1 (bR b)] ⟨X.obs, []⟩ = some (.ret (X.addA b), ⟨(X.add b).obs ++ xs, []⟩) ∧ (X.add b).Ok := by
 have hby := byOk_bR hb hbl
 have big : b.length > 200 → X.addA b = .tup [.agg [.int .i64 0, .int .i64 0], .int .i64 41] ∧ X.add b = X := by
  intro hg
  have e : decide (b.length ≤ 200) = false := decide_eq_false (by omega)
  constructor
  ·rw [Rh.addA, Rh.addR, Rh.addS, Rh.addE, opq_eq, opq_eq, opq_eq, Rh.addB, e]; rfl
  ·rw [Rh.add, Rh.addB, e]; rfl
 have full : b.length ≤ 200 → X.k b = 256 → X.addA b = .tup [.agg [.int .i64 0, .int .i64 0], .int .i64 36] ∧ X.add b = X := by
  intro hg hk
  have e : decide (b.length ≤ 200) = true := decide_eq_true hg
  have e2 : Nat.blt (X.k b) 256 = false := by rw [Bool.eq_false_iff, ne_eq, Nat.blt_eq]; omega
  constructor
  ·rw [Rh.addA, Rh.addR, Rh.addS, Rh.addE, opq_eq, opq_eq, opq_eq, Rh.addB, e, e2]; rfl
  ·rw [Rh.add, Rh.addB, e, e2]; rfl
 have fine : ∀ q, b.length ≤ 200 → X.k b < 256 → putS (X.at_ (X.k b)) (freeK (X.at_ (X.k b)) : Nat) b = some q → X.addA b = .tup [.agg [.int .i64 (X.k b : Int), .int .i64 (freeK (X.at_ (X.k b)) : Int)], .int .i64 0] ∧ X.add b = X.set (X.k b) (ofS q) := by
  intro q hg hk hq
  have e : decide (b.length ≤ 200) = true := decide_eq_true hg
  have e2 : Nat.blt (X.k b) 256 = true := Nat.blt_eq.mpr hk
  constructor
  ·rw [Rh.addA, Rh.addR, Rh.addS, Rh.addE, opq_eq, opq_eq, opq_eq, Rh.addB, e, e2]; rfl
  ·rw [Rh.add, Rh.addB, e, e2, hq]; rfl
 have hO : X.obs = [rhA.ob 0 X 0, rhA.ob 0 X 1] := (rh_obl h).symm
 by_cases hg : (b.length : Int) > 200
 ·obtain ⟨e1, e2⟩ := big (by omega)
  rw [e1, e2]
  refine ⟨[.cells [.int .i64 0, .int .i64 0], .nov 0], ?_, h⟩
  rw [hO, kadd_run, bR_length, branch_of (decide_eq_true hg)]; rfl
 ·have hl : b.length ≤ 200 := by omega
  have run : f26.run 1000 [.ptr 0 0, .ns z 1 (bR b)] ⟨X.obs, []⟩ = loopRun (f26_l0.run 1000) [0, 1, 4, 6] (Cont.block 0 (Cont.then (f26_r0.run 1000 (f26.leaveK Fun.done)) (f26.leaveK Fun.done))) 1000 (Env.mk 54 [(0, .ptr 0 0), (1, .ns z 1 (bR b)), (4, .ptr 2 0), (6, .int .i64 ((0 : Nat) : Int))]) ⟨X.obs ++ [.cells [.int .i64 0, .int .i64 0], .nov 0], []⟩ := by
   rw [hO, kadd_run, bR_length, branch_not (decide_eq_false hg)]; rfl
  rw [run]
  cases hv : X.v with
  | zero =>
   obtain ⟨v, cs, n⟩ := X
   simp only at hv
   subst hv
   obtain ⟨h1, h2⟩ := h.z rfl
   simp only at h1 h2
   subst h1; subst h2
   have hG := rh_G h
   have hat : ∀ i, (Rh.mk 0 [] 0).at_ i = [] := fun i => Rh.at_ge (Nat.zero_le _)
   have hr : (b.length : Int) ≤ roomI [] := by rw [room_nil]; omega
   have hk : (Rh.mk 0 [] 0).k b = 0 := by rw [Rh.k, Rh.kF, hat, if_pos hr]
   obtain ⟨q, hq, hp⟩ := SlB_nil.add hb hl hr
   obtain ⟨e1, e2⟩ := fine q hl (by omega) (by rw [hat]; exact hq)
   have hok := (Rh.set_spec h hp.sl (show 0 < 300 by omega)).1
   have e0 : rA [] b = some q := by have := rA_sN [] b; rw [show sN [] = [] from rfl] at this; rw [this]; exact hq
   have e3 : rAK [] b = (freeK [] : Nat) := by have := rAK_sN hq; rw [show sN [] = [] from rfl] at this; exact this
   have e4 : roomR [] = roomI [] := roomR_sN []
   have hcd : cdec ((bR b).length ≤ 1000000) = true := cdec_iff.mpr (by rw [bR_length]; omega)
   rw [hk] at e2
   refine ⟨[.cells [.int .i64 0, .int .i64 (freeK [] : Nat)], .vec 1 [.nilsl]], ?_, by rw [e2]; exact hok⟩
   rw [e1, e2, hk]
   show loopRun (f26_l0.run 1000) [0, 1, 4, 6] _ (Nat.succ 999) _ ⟨[.cells [.nilsl], .nov 0, .cells [.int .i64 0, .int .i64 0], .nov 0], []⟩ = _
   rw [kadd_r0, branch_of (decide_eq_true (by omega)), branch_of (Nat.beq_refl _), branch_of (Nat.beq_refl _), branch_of cond_nil, e4, bR_length, branch_of (decide_eq_true hr), branch_of (Nat.beq_refl _), branch_of (by rw [isN_nil, hby, ← bR_length b, hcd]; rfl),
    show rhA.G 0 [Ob.cells [AV.nilsl], Ob.nov 0] = _ from hG, onSome_some, nR_bR, e0, oR_some, branch_of (by rw [pgOkB_bR hp, decide_eq_true ⟨by omega, by omega⟩]; rfl), nR_bR, opq_eq, e3, kadd_ret, hat, ← rh_obl hok]
   rfl
  | succ v =>
   rcases kadd_loop 1000 h hv z hb hl 256 0 1000 (.nov 0) (by omega) (by omega) ⟨0, .inl rfl⟩ with ⟨q, g', k1, k2, k3⟩ | ⟨k1, g', k3⟩
   ·obtain ⟨e1, e2⟩ := fine q hl k1 k2
    have hp := putS_pg (Rh.at_sl h _) hb hbl k2
    have hok := (Rh.set_spec h hp.sl (show X.k b < 300 by have : X.k b < 256 := k1; omega)).1
    refine ⟨[.cells [.int .i64 (X.k b : Int), .int .i64 (freeK (X.at_ (X.k b)) : Int)], g'], ?_, by rw [e2]; exact hok⟩
    rw [k3, e1, e2]
    show Cont.block 0 _ .ret _ ⟨(X.set (X.k b) (ofS q)).obs ++ [.cells [.int .i64 (X.k b : Int), .int .i64 (freeK (X.at_ (X.k b)) : Int)], g'], []⟩ = _
    rw [← rh_obl hok]
    exact kadd_ret 1000 _ _ _ _ _ _
   ·obtain ⟨e1, e2⟩ := full hl k1
    refine ⟨[.cells [.int .i64 0, .int .i64 0], g'], ?_, by rw [e2]; exact h⟩
    rw [k3, e1, e2, hO]
    exact kadd_out 1000 _ _ _ _ _
noncomputable def s26 : OrcS Try.prog := f26.by'
 (fun args st k => match args with
  | [x, y] => rhA.on x st fun j X => onNs 1 y fun z l => ifT (byOk l) (k (.ret (X.addA (nR l))) (rhA.pl st j (opq (X.add (nR l)))))
  | _ => none)
 fun args st k fin h => by
  split at h
  ·rename_i x y
   obtain ⟨j, X, rfl, hd, h1⟩ := ADT.on_spec h
   obtain ⟨z, l, h2, hy⟩ := onNs_spec h1
   obtain ⟨h3, h4⟩ := ifT_spec h2
   obtain ⟨l1, l2⟩ := byOk_iff.mp h3
   have hb : ∀ x ∈ nR l, x < 256 := fun x hx => okR_lt l1 hx
   refine ⟨_, _, h4, ?_⟩
   rw [opq_eq]
   obtain ⟨xs, hr, hok⟩ := kadd_at hd.ok z hb (by rw [nR_length]; exact l2)
   have := ADT.placed (A := rhA) (f := f26) (x := X) (y := X.add (nR l)) (args0 := [.ptr 0 0, .ns z 1 (bR (nR l))]) (r := X.addA (nR l)) (xs := xs) hr hok ⟨by show 0 < 2; omega, bR_scoped _, trivial⟩ ⟨⟨trivial, trivial, trivial⟩, trivial, trivial⟩ hd
   rw [← okR_rows l1] at this
   exact CallsTo.wk this fun g w vs ⟨v, vr, e, r1, v2, vr2, e2, r2, r3⟩ => ⟨v, vr, e, r1, v2, vr2, e2, hy _ _ _ r2, r3⟩
  ·cases h
noncomputable def f27_l0 : Sim Try.prog :=
 (.seq (.seq (.live [0, 3, 4, 14] (.region 3 [
 ⟨(opMove (some 8) (.tmp 4) 3 "ref.go:152" #[]).op, none⟩,
 ⟨(opMove (some 9) (.tmp 0) 56 "ref.go:152" #[]).op, none⟩,
 ⟨(opNilCheck (some 10) (.tmp 9) 0 "ref.go:152" #[eD 1]).op, none⟩,
 ⟨(opFieldAddr (some 11) 61 (.tmp 10) 0 0 1 false fl61_0 (by decide) 0 "ref.go:152" #[eD 2]).op, none⟩,
 ⟨(opLoadT (.one .any) (some 12) 59 (.tmp 11) (.slice 91) Try.underlying59 1 sz59 (by kernel_rfl) 59 "ref.go:152" #[eD 3]).op, none⟩,
 ⟨(opLen (some 13) (.tmp 12) 59 (.slice 91) Try.underlying59 3 "ref.go:152" #[eD 4]).op, none⟩,
 ⟨(opBin (some 14) .lss 3 (.tmp 8) (.tmp 13) 3 4 "ref.go:152" #[eD 0, eD 5]).op, none⟩
 ] (by kernel_rfl)))
 (.cond (.tmp 14)
 .skip
 (.live [3] (.exit 0))))
 (.seq (.block 1 (.seq (.live [0, 3, 4, 5] (.region 5 [
 ⟨(opMove (some 18) (.tmp 0) 56 "ref.go:153" #[]).op, none⟩,
 ⟨(opNilCheck (some 19) (.tmp 18) 0 "ref.go:153" #[eD 0]).op, none⟩,
 ⟨(opFieldAddr (some 20) 61 (.tmp 19) 0 0 1 false fl61_0 (by decide) 0 "ref.go:153" #[eD 1]).op, none⟩,
 ⟨(opLoadT (.one .any) (some 21) 59 (.tmp 20) (.slice 91) Try.underlying59 1 sz59 (by kernel_rfl) 59 "ref.go:153" #[eD 2]).op, none⟩,
 ⟨(opMove (some 22) (.tmp 4) 3 "ref.go:153" #[]).op, none⟩,
 ⟨(opIndexAddrT (some 23) 59 (.tmp 21) (.tmp 22) 91 1 Try.underlying59 sz91 0 "ref.go:153" #[eD 3, eD 4]).op, none⟩,
 ⟨(opLoadT (.agg [(.ns 1)]) (some 24) 91 (.tmp 23) d91 ud91 1 sz91 (by kernel_rfl) 91 "ref.go:153" #[eD 5]).op, none⟩,
 ⟨(opCallQ q60 (some 25) [(.tmp 24)] #[91] 37 "ref.go:153" #[eD 6]).op, none⟩,
 ⟨(opMove (some 17) (.tmp 25) 37 "ref.go:153" #[eD 7]).op, none⟩,
 ⟨(opExtract (some 26) (.tmp 17) 0 34 "ref.go:153" #[eD 8]).op, none⟩,
 ⟨(opExtract (some 27) (.tmp 17) 1 4 "ref.go:153" #[eD 8, eX 11]).op, none⟩,
 ⟨(opAssign (some 5) (.tmp 26) 34 "ref.go:153" #[eD 9, eC 7, eP 0, eP 1, eP 2, eP 3, eP 4, eP 5, eP 6, eP 7, eP 8, eP 9, eT 10]).op, none⟩,
 ⟨(opAssign (some 6) (.tmp 27) 4 "ref.go:153" #[eD 10, eC 11, eP 0, eP 1, eP 2, eP 3, eP 4, eP 5, eP 6, eP 7, eP 8, eP 9, eP 10, eP 11]).op, none⟩
 ] (by kernel_rfl)))
 (.live [0, 3, 4] (.region 6 [
 ⟨(opMove (some 28) (.tmp 3) 22 "ref.go:154" #[]).op, none⟩,
 ⟨(opMove (some 29) (.tmp 5) 34 "ref.go:154" #[]).op, none⟩,
 ⟨(opBuildSlice (some 30) 22 1 [(0, (.tmp 29))] 34 1 24 (.slice none 0 0) el22 (by kernel_rfl) (by decide) 22 "ref.go:154" #[eD 1]).op, none⟩,
 ⟨(opAppendV (some 31) (.tmp 28) (.tmp 30) 22 22 34 1 24 (.slice none 0 0) el22 (.slice 34) Try.underlying22 rfl 22 "ref.go:154" #[eD 0, eD 2]).op, none⟩,
 ⟨(opAssign (some 3) (.tmp 31) 22 "ref.go:154" #[eD 3, eC 3, eP 0, eP 1, eP 2, eP 3]).op, none⟩
 ] (by kernel_rfl)))))
 (.live [0, 3, 4] (.region 4 [
 ⟨(opMove (some 15) (.tmp 4) 3 "ref.go:152" #[]).op, none⟩,
 ⟨(opBin (some 16) .add 3 (.tmp 15) (.const (Value.int IntKind.i64 1)) 3 3 "ref.go:152" #[eD 0]).op, none⟩,
 ⟨(opAssign (some 4) (.tmp 16) 3 "ref.go:152" #[eD 1, eP 0, eP 1]).op, none⟩
 ] (by kernel_rfl)))))
noncomputable def f27_r0 : Sim Try.prog :=
 (.seq (.live [2] (.region 7 [
 ⟨(opMoveZn (some 32) (.tmp 3) 22 "ref.go:156" #[]).op, none⟩,
 ⟨(opAssign (some 2) (.tmp 32) 22 "ref.go:156" #[eD 0, eP 0]).op, none⟩
 ] (by kernel_rfl)))
 (.live [2] .ret))
noncomputable def f27_b : Sim Try.prog :=
 (.seq (.live [0] (.region 0 [
 ⟨(opAssign (some 2) (.const (Value.slice none 0 0)) 22 "ref.go:150" #[]).op, none⟩
 ] (by kernel_rfl)))
 (.seq (.live [0, 3] (.region 1 [
 ⟨(opBuildSlice (some 7) 22 0 [] 34 1 24 (.slice none 0 0) el22 (by kernel_rfl) (by decide) 22 "ref.go:151" #[]).op, none⟩,
 ⟨(opAssign (some 3) (.tmp 7) 22 "ref.go:151" #[eD 0, eP 0]).op, none⟩
 ] (by kernel_rfl)))
 (.seq (.seq (.live [0, 3, 4] (.region 2 [
 ⟨(opAssign (some 4) (.const (Value.int IntKind.i64 0)) 3 "ref.go:152" #[]).op, none⟩
 ] (by kernel_rfl)))
 (.block 0 (.loop [0, 3, 4] f27_l0)))
 f27_r0)))
noncomputable def f27 : Fun Try.prog where
 id := 27
 fn := Try.f27
 hf := Try.func27
 hname := by kernel_rfl
 body := f27_b
 hbody := by kernel_rfl
 res := [rTmp 2]
 hres := by kernel_rfl
 n := 33
 hn := by kernel_rfl
noncomputable def f30_l1 : Sim Try.prog :=
 (.seq (.seq (.live [0, 3, 4, 5, 26] (.region 6 [
 ⟨(opMove (some 16) (.tmp 5) 3 "ref.go:128" #[]).op, none⟩,
 ⟨(opMove (some 17) (.tmp 0) 56 "ref.go:128" #[]).op, none⟩,
 ⟨(opNilCheck (some 18) (.tmp 17) 0 "ref.go:128" #[eD 1]).op, none⟩,
 ⟨(opFieldAddr (some 19) 61 (.tmp 18) 0 0 1 false fl61_0 (by decide) 0 "ref.go:128" #[eD 2]).op, none⟩,
 ⟨(opLoadT (.one .any) (some 20) 59 (.tmp 19) (.slice 91) Try.underlying59 1 sz59 (by kernel_rfl) 59 "ref.go:128" #[eD 3]).op, none⟩,
 ⟨(opMove (some 21) (.tmp 4) 3 "ref.go:128" #[]).op, none⟩,
 ⟨(opIndexAddrT (some 22) 59 (.tmp 20) (.tmp 21) 91 1 Try.underlying59 sz91 0 "ref.go:128" #[eD 4, eD 5]).op, none⟩,
 ⟨(opFieldAddr (some 23) 91 (.tmp 22) 0 0 1 false fl91_0 (by decide) 0 "ref.go:128" #[eD 6]).op, none⟩,
 ⟨(opLoadT (.one (.ns 1)) (some 24) 22 (.tmp 23) (.slice 34) Try.underlying22 1 sz22 (by kernel_rfl) 22 "ref.go:128" #[eD 7]).op, none⟩,
 ⟨(opLen (some 25) (.tmp 24) 22 (.slice 34) Try.underlying22 3 "ref.go:128" #[eD 8]).op, none⟩,
 ⟨(opBin (some 26) .lss 3 (.tmp 16) (.tmp 25) 3 4 "ref.go:128" #[eD 0, eD 9]).op, none⟩
 ] (by kernel_rfl)))
 (.cond (.tmp 26)
 .skip
 (.live [0, 3, 4] (.exit 2))))
 (.seq (.block 3 (.seq (.live [0, 3, 4, 5, 40] (.region 8 [
 ⟨(opMove (some 29) (.tmp 0) 56 "ref.go:129" #[]).op, none⟩,
 ⟨(opNilCheck (some 30) (.tmp 29) 0 "ref.go:129" #[eD 0]).op, none⟩,
 ⟨(opFieldAddr (some 31) 61 (.tmp 30) 0 0 1 false fl61_0 (by decide) 0 "ref.go:129" #[eD 1]).op, none⟩,
 ⟨(opLoadT (.one .any) (some 32) 59 (.tmp 31) (.slice 91) Try.underlying59 1 sz59 (by kernel_rfl) 59 "ref.go:129" #[eD 2]).op, none⟩,
 ⟨(opMove (some 33) (.tmp 4) 3 "ref.go:129" #[]).op, none⟩,
 ⟨(opIndexAddrT (some 34) 59 (.tmp 32) (.tmp 33) 91 1 Try.underlying59 sz91 0 "ref.go:129" #[eD 3, eD 4]).op, none⟩,
 ⟨(opFieldAddr (some 35) 91 (.tmp 34) 0 0 1 false fl91_0 (by decide) 0 "ref.go:129" #[eD 5]).op, none⟩,
 ⟨(opLoadT (.one (.ns 1)) (some 36) 22 (.tmp 35) (.slice 34) Try.underlying22 1 sz22 (by kernel_rfl) 22 "ref.go:129" #[eD 6]).op, none⟩,
 ⟨(opMove (some 37) (.tmp 5) 3 "ref.go:129" #[]).op, none⟩,
 ⟨(opIndexAddrT (some 38) 22 (.tmp 36) (.tmp 37) 34 1 Try.underlying22 sz34 0 "ref.go:129" #[eD 7, eD 8]).op, none⟩,
 ⟨(opLoadT (.one (.ns 1)) (some 39) 34 (.tmp 38) (.slice 5) Try.underlying34 1 sz34 (by kernel_rfl) 34 "ref.go:129" #[eD 9]).op, none⟩,
 ⟨(opNe (some 40) 34 (.slice 5) Try.underlying34 (.tmp 39) (.const (Value.slice none 0 0)) (.inl rfl) 34 4 "ref.go:129" #[eD 10]).op, none⟩
 ] (by kernel_rfl)))
 (.cond (.tmp 40)
 (.live [0, 3, 4, 5] (.region 9 [
 ⟨(opMove (some 41) (.tmp 3) 40 "ref.go:130" #[]).op, none⟩,
 ⟨(opMove (some 42) (.tmp 4) 3 "ref.go:130" #[]).op, none⟩,
 ⟨(opMove (some 43) (.tmp 5) 3 "ref.go:130" #[]).op, none⟩,
 ⟨(opBuild (some 44) 30 #[(.int .i64 0), (.int .i64 0)] [(0, 0, 1, (.tmp 42)), (1, 1, 1, (.tmp 43))] ze30 (by kernel_rfl) 30 "ref.go:130" #[eD 1, eD 2]).op, none⟩,
 ⟨(opBuildSlice (some 45) 40 1 [(0, (.tmp 44))] 30 2 16 (.agg #[(.int .i64 0), (.int .i64 0)]) el40 (by kernel_rfl) (by decide) 40 "ref.go:130" #[eD 3]).op, none⟩,
 ⟨(opAppendV (some 46) (.tmp 41) (.tmp 45) 40 40 30 2 16 (.agg #[(.int .i64 0), (.int .i64 0)]) el40 (.slice 30) Try.underlying40 rfl 40 "ref.go:130" #[eD 0, eD 4]).op, none⟩,
 ⟨(opAssign (some 3) (.tmp 46) 40 "ref.go:130" #[eD 5, eC 5, eP 0, eP 1, eP 2, eP 3, eP 4, eP 5]).op, none⟩
 ] (by kernel_rfl)))
 .skip)))
 (.live [0, 3, 4, 5] (.region 7 [
 ⟨(opMove (some 27) (.tmp 5) 3 "ref.go:128" #[]).op, none⟩,
 ⟨(opBin (some 28) .add 3 (.tmp 27) (.const (Value.int IntKind.i64 1)) 3 3 "ref.go:128" #[eD 0]).op, none⟩,
 ⟨(opAssign (some 5) (.tmp 28) 3 "ref.go:128" #[eD 1, eP 0, eP 1]).op, none⟩
 ] (by kernel_rfl)))))
noncomputable def f30_r0 : Sim Try.prog :=
 (.live [0, 3, 4] (.region 4 [
 ⟨(opMove (some 14) (.tmp 4) 3 "ref.go:127" #[]).op, none⟩,
 ⟨(opBin (some 15) .add 3 (.tmp 14) (.const (Value.int IntKind.i64 1)) 3 3 "ref.go:127" #[eD 0]).op, none⟩,
 ⟨(opAssign (some 4) (.tmp 15) 3 "ref.go:127" #[eD 1, eP 0, eP 1]).op, none⟩
 ] (by kernel_rfl)))
noncomputable def f30_l0 : Sim Try.prog :=
 (.seq (.seq (.live [0, 3, 4, 13] (.region 3 [
 ⟨(opMove (some 7) (.tmp 4) 3 "ref.go:127" #[]).op, none⟩,
 ⟨(opMove (some 8) (.tmp 0) 56 "ref.go:127" #[]).op, none⟩,
 ⟨(opNilCheck (some 9) (.tmp 8) 0 "ref.go:127" #[eD 1]).op, none⟩,
 ⟨(opFieldAddr (some 10) 61 (.tmp 9) 0 0 1 false fl61_0 (by decide) 0 "ref.go:127" #[eD 2]).op, none⟩,
 ⟨(opLoadT (.one .any) (some 11) 59 (.tmp 10) (.slice 91) Try.underlying59 1 sz59 (by kernel_rfl) 59 "ref.go:127" #[eD 3]).op, none⟩,
 ⟨(opLen (some 12) (.tmp 11) 59 (.slice 91) Try.underlying59 3 "ref.go:127" #[eD 4]).op, none⟩,
 ⟨(opBin (some 13) .lss 3 (.tmp 7) (.tmp 12) 3 4 "ref.go:127" #[eD 0, eD 5]).op, none⟩
 ] (by kernel_rfl)))
 (.cond (.tmp 13)
 .skip
 (.live [3] (.exit 0))))
 (.seq (.block 1 (.seq (.live [0, 3, 4, 5] (.region 5 [
 ⟨(opAssign (some 5) (.const (Value.int IntKind.i64 0)) 3 "ref.go:128" #[]).op, none⟩
 ] (by kernel_rfl)))
 (.block 2 (.loop [0, 3, 4, 5] f30_l1))))
 f30_r0))
noncomputable def f30_r1 : Sim Try.prog :=
 (.seq (.live [2] (.region 10 [
 ⟨(opMoveZn (some 47) (.tmp 3) 40 "ref.go:134" #[]).op, none⟩,
 ⟨(opAssign (some 2) (.tmp 47) 40 "ref.go:134" #[eD 0, eP 0]).op, none⟩
 ] (by kernel_rfl)))
 (.live [2] .ret))
noncomputable def f30_b : Sim Try.prog :=
 (.seq (.live [0] (.region 0 [
 ⟨(opAssign (some 2) (.const (Value.slice none 0 0)) 40 "ref.go:125" #[]).op, none⟩
 ] (by kernel_rfl)))
 (.seq (.live [0, 3] (.region 1 [
 ⟨(opBuildSlice (some 6) 40 0 [] 30 2 16 (.agg #[(.int .i64 0), (.int .i64 0)]) el40 (by kernel_rfl) (by decide) 40 "ref.go:126" #[]).op, none⟩,
 ⟨(opAssign (some 3) (.tmp 6) 40 "ref.go:126" #[eD 0, eP 0]).op, none⟩
 ] (by kernel_rfl)))
 (.seq (.seq (.live [0, 3, 4] (.region 2 [
 ⟨(opAssign (some 4) (.const (Value.int IntKind.i64 0)) 3 "ref.go:127" #[]).op, none⟩
 ] (by kernel_rfl)))
 (.block 0 (.loop [0, 3, 4] f30_l0)))
 f30_r1)))
noncomputable def f30 : Fun Try.prog where
 id := 30
 fn := Try.f30
 hf := Try.func30
 hname := by kernel_rfl
 body := f30_b
 hbody := by kernel_rfl
 res := [rTmp 2]
 hres := by kernel_rfl
 n := 48
 hn := by kernel_rfl
theorem kby_nil (F : Nat) :
 (f27.run F.succ [.ptr 0 0] ⟨[.cells [.nilsl], .nov 0], []⟩ : Ans) =
 some (Fin.ret (AV.sl 1 true []), St.mk [Ob.cells [AV.nilsl], Ob.nov 0] []) := by kernel_rfl
theorem kby_run (F : Nat) (a b : Ob) :
 (f27.run F [.ptr 0 0] ⟨[a, b], []⟩ : Ans) =
 loopRun (f27_l0.run F) [0, 3, 4]
 (Cont.block 0 (Cont.then (f27_r0.run F (f27.leaveK Fun.done)) (f27.leaveK Fun.done))) F
 (Env.mk 33
 [(0, AV.ptr 0 0), (3, AV.sl 1 true []),
 (4, .int .i64 0)])
 (St.mk [a, b] []) := by kernel_rfl
theorem kby_r0 (F m v n i : Nat) (cs : List AV) (K : Cont) :
 (loopRun (f27_l0.run F) [0, 3, 4] K m.succ (Env.mk 33 [(0, .ptr 0 0), (3, .sl 1 true []), (4, .int .i64 (i : Int))]) ⟨[.cells [.vs 1 v 1 n], .vec v cs], []⟩ : Ans) =
 branch (.bool (decide ((↑i : Int) < (↑n : Int))))
 (if (0 : Int) ≤ (↑i : Int) ∧ (↑i : Int) < (↑n : Int) then
 branch (.bool (v.beq v))
 (branch (.bool ((LD.agg [LT.ns 1]).is (List.drop (i * 1) cs)))
 (branch (.bool (okS (rwA (List.drop (i * 1) cs))))
 (branch (.bool (true && apOk 1 24))
 (loopRun (f27_l0.run F) [0, 3, 4] K m
 (Env.mk 33
 [(0, AV.ptr 0 0), (3, AV.vs 2 0 1 1),
 (4, .int .i64 (IntKind.i64.wrap ((↑i : Int) + 1)))])
 (St.mk
 [Ob.cells [AV.vs 1 v 1 n], Ob.vec v cs,
 Ob.vec 0
 (catC (catC [] 0 []) (mulN 0 1)
 [[AV.ns (!pgOk (sR (rwA (List.drop (i * 1) cs)))) 1
 (pgR (rwA (List.drop (i * 1) cs)))]])]
 []))
 none)
 none)
 none)
 none
 else none)
 (K (AX.exit 0) (Env.mk 33 [(3, AV.sl 1 true [])])
 (St.mk [Ob.cells [AV.vs 1 v 1 n], Ob.vec v cs] [])) := by kernel_rfl
theorem kby_r1 (F m v n i u q : Nat) (cs es : List AV) (K : Cont) :
 (loopRun (f27_l0.run F) [0, 3, 4] K m.succ (Env.mk 33 [(0, .ptr 0 0), (3, .vs 2 u 1 q), (4, .int .i64 (i : Int))]) ⟨[.cells [.vs 1 v 1 n], .vec v cs, .vec u es], []⟩ : Ans) =
 branch (.bool (decide ((↑i : Int) < (↑n : Int))))
 (if (0 : Int) ≤ (↑i : Int) ∧ (↑i : Int) < (↑n : Int) then
 branch (.bool (v.beq v))
 (branch (.bool ((LD.agg [LT.ns 1]).is (List.drop (i * 1) cs)))
 (branch (.bool (okS (rwA (List.drop (i * 1) cs))))
 (branch (.bool (u.beq u && (inC es 0 (mulN q 1) && apOk (q + 1) 24)))
 (loopRun (f27_l0.run F) [0, 3, 4] K m
 (Env.mk 33
 [(0, AV.ptr 0 0),
 (3, AV.vs 2 (u + 1) 1 (q + 1)),
 (4, .int .i64 (IntKind.i64.wrap ((↑i : Int) + 1)))])
 (St.mk
 [Ob.cells [AV.vs 1 v 1 n], Ob.vec v cs,
 Ob.vec (u + 1)
 (catC es (mulN q 1)
 [[AV.ns (!pgOk (sR (rwA (List.drop (i * 1) cs)))) 1
 (pgR (rwA (List.drop (i * 1) cs)))]])]
 []))
 none)
 none)
 none)
 none
 else none)
 (K (AX.exit 0) (Env.mk 33 [(3, AV.vs 2 u 1 q)])
 (St.mk [Ob.cells [AV.vs 1 v 1 n], Ob.vec v cs, Ob.vec u es] [])) := by kernel_rfl
theorem kby_o0 (F : Nat) (os : List Ob) :
 ((Cont.block 0 (Cont.then (f27_r0.run F (f27.leaveK Fun.done)) (f27.leaveK Fun.done))) (.exit 0) (Env.mk 33 [(3, .sl 1 true [])]) ⟨os, []⟩ : Ans) =
 some (Fin.ret (AV.sl 1 true []), St.mk os []) := by kernel_rfl
theorem kby_o1 (F u q : Nat) (a b : Ob) (es : List AV) :
 ((Cont.block 0 (Cont.then (f27_r0.run F (f27.leaveK Fun.done)) (f27.leaveK Fun.done))) (.exit 0) (Env.mk 33 [(3, .vs 2 u 1 q)]) ⟨[a, b, .vec u es], []⟩ : Ans) =
 branch (.bool (u.beq u && inC es 0 (mulN q 1)))
 (some (Fin.ret (AV.ns false 1 (rowsC 1 q es 0)), St.mk [a, b, Ob.nov (u + 1)] []))
 none := by kernel_rfl
theorem kall_run (F : Nat) (a b : Ob) :
 (f30.run F [.ptr 0 0] ⟨[a, b], []⟩ : Ans) =
 loopRun (f30_l0.run F) [0, 3, 4]
 (Cont.block 0 (Cont.then (f30_r1.run F (f30.leaveK Fun.done)) (f30.leaveK Fun.done))) F
 (Env.mk 48
 [(0, AV.ptr 0 0), (3, AV.sl 2 true []),
 (4, .int .i64 0)])
 (St.mk [a, b] []) := by kernel_rfl
theorem kall_nil (F : Nat) :
 (f30.run F.succ [.ptr 0 0] ⟨[.cells [.nilsl], .nov 0], []⟩ : Ans) =
 some (Fin.ret (AV.sl 2 true []), St.mk [Ob.cells [AV.nilsl], Ob.nov 0] []) := by kernel_rfl
theorem kall_o0 (F m v n i : Nat) (cs : List AV) (K : Cont) :
 (loopRun (f30_l0.run F) [0, 3, 4] K m.succ (Env.mk 48 [(0, .ptr 0 0), (3, .sl 2 true []), (4, .int .i64 (i : Int))]) ⟨[.cells [.vs 1 v 1 n], .vec v cs], []⟩ : Ans) =
 branch (.bool (decide ((↑i : Int) < (↑n : Int))))
 (loopRun (f30_l1.run F) [0, 3, 4, 5]
 (Cont.block 2
 (Cont.block 1
 (Cont.then
 (f30_r0.run F
 (Cont.then
 (fun (e : Env) (s : St) =>
 Nat.rec (motive := fun (x : Nat) => Env → St → Ans) (fun (x : Env) (x_1 : St) => none)
 (fun (x : Nat) (ih : Env → St → Ans) (env : Env) (st : St) =>
 f30_l0.run F
 (Cont.then (fun (e : Env) (s : St) => ih (Env.norm [0, 3, 4] e) s) K) env
 st)
 m (Env.norm [0, 3, 4] e) s)
 K))
 (Cont.then
 (fun (e : Env) (s : St) =>
 Nat.rec (motive := fun (x : Nat) => Env → St → Ans) (fun (x : Env) (x_1 : St) => none)
 (fun (x : Nat) (ih : Env → St → Ans) (env : Env) (st : St) =>
 f30_l0.run F
 (Cont.then (fun (e : Env) (s : St) => ih (Env.norm [0, 3, 4] e) s) K) env
 st)
 m (Env.norm [0, 3, 4] e) s)
 K))))
 F
 (Env.mk 48
 [(0, AV.ptr 0 0), (3, AV.sl 2 true []),
 (4, .int .i64 (↑i : Int)), (5, .int .i64 0)])
 (St.mk [Ob.cells [AV.vs 1 v 1 n], Ob.vec v cs] []))
 (K (AX.exit 0) (Env.mk 48 [(3, AV.sl 2 true [])])
 (St.mk [Ob.cells [AV.vs 1 v 1 n], Ob.vec v cs] [])) := by kernel_rfl
theorem kall_o1 (F m v n i u q : Nat) (cs es : List AV) (K : Cont) :
 (loopRun (f30_l0.run F) [0, 3, 4] K m.succ (Env.mk 48 [(0, .ptr 0 0), (3, .vs 2 u 2 q), (4, .int .i64 (i : Int))]) ⟨[.cells [.vs 1 v 1 n], .vec v cs, .vec u es], []⟩ : Ans) =
 branch (.bool (decide ((↑i : Int) < (↑n : Int))))
 (loopRun (f30_l1.run F) [0, 3, 4, 5]
 (Cont.block 2
 (Cont.block 1
 (Cont.then
 (f30_r0.run F
 (Cont.then
 (fun (e : Env) (s : St) =>
 Nat.rec (motive := fun (x : Nat) => Env → St → Ans) (fun (x : Env) (x_1 : St) => none)
 (fun (x : Nat) (ih : Env → St → Ans) (env : Env) (st : St) =>
 f30_l0.run F
 (Cont.then (fun (e : Env) (s : St) => ih (Env.norm [0, 3, 4] e) s) K) env
 st)
 m (Env.norm [0, 3, 4] e) s)
 K))
 (Cont.then
 (fun (e : Env) (s : St) =>
 Nat.rec (motive := fun (x : Nat) => Env → St → Ans) (fun (x : Env) (x_1 : St) => none)
 (fun (x : Nat) (ih : Env → St → Ans) (env : Env) (st : St) =>
 f30_l0.run F
 (Cont.then (fun (e : Env) (s : St) => ih (Env.norm [0, 3, 4] e) s) K) env
 st)
 m (Env.norm [0, 3, 4] e) s)
 K))))
 F
 (Env.mk 48
 [(0, AV.ptr 0 0), (3, AV.vs 2 u 2 q),
 (4, .int .i64 (↑i : Int)), (5, .int .i64 0)])
 (St.mk [Ob.cells [AV.vs 1 v 1 n], Ob.vec v cs, Ob.vec u es] []))
 (K (AX.exit 0) (Env.mk 48 [(3, AV.vs 2 u 2 q)])
 (St.mk [Ob.cells [AV.vs 1 v 1 n], Ob.vec v cs, Ob.vec u es] [])) := by kernel_rfl
theorem kall_i0 (F m v n i j : Nat) (cs : List AV) (K : Cont) :
 (loopRun (f30_l1.run F) [0, 3, 4, 5] K m.succ (Env.mk 48 [(0, .ptr 0 0), (3, .sl 2 true []), (4, .int .i64 (i : Int)), (5, .int .i64 (j : Int))]) ⟨[.cells [.vs 1 v 1 n], .vec v cs], []⟩ : Ans) =
 if (0 : Int) ≤ (↑i : Int) ∧ (↑i : Int) < (↑n : Int) then
 branch (.bool (v.beq v))
 (branch (.bool ((LD.one (LT.ns 1)).is (List.drop (i * 1 + 0) cs)))
 (branch (.bool (decide ((↑j : Int) < (↑(rwA (List.drop (i * 1 + 0) cs)).length : Int))))
 (if (0 : Int) ≤ (↑i : Int) ∧ (↑i : Int) < (↑n : Int) then
 branch (.bool (v.beq v))
 (branch (.bool ((LD.one (LT.ns 1)).is (List.drop (i * 1 + 0) cs)))
 (branch (.bool (inR (rwA (List.drop (i * 1 + 0) cs)) (↑j : Int)))
 (branch
 (AV.bool
 ((LD.one (LT.ns 1)).is
 (V.rowAt (rwA (List.drop (i * 1 + 0) cs)) (↑j : Int))))
 (branch (.bool !nilA (V.rowAt (rwA (List.drop (i * 1 + 0) cs)) (↑j : Int)))
 (branch (.bool (true && apOk 1 16))
 (loopRun (f30_l1.run F) [0, 3, 4, 5] K m
 (Env.mk 48
 [(0, AV.ptr 0 0),
 (3, AV.vs 2 0 2 1),
 (4, .int .i64 (↑i : Int)),
 (5, .int .i64 (IntKind.i64.wrap ((↑j : Int) + 1)))])
 (St.mk
 [Ob.cells [AV.vs 1 v 1 n], Ob.vec v cs,
 Ob.vec 0
 (catC (catC [] 0 []) (mulN 0 2)
 [[.int .i64 (↑i : Int), .int .i64 (↑j : Int)]])]
 []))
 none)
 (loopRun (f30_l1.run F) [0, 3, 4, 5] K m
 (Env.mk 48
 [(0, AV.ptr 0 0), (3, AV.sl 2 true []),
 (4, .int .i64 (↑i : Int)),
 (5, .int .i64 (IntKind.i64.wrap ((↑j : Int) + 1)))])
 (St.mk [Ob.cells [AV.vs 1 v 1 n], Ob.vec v cs] [])))
 none)
 none)
 none)
 none
 else none)
 (K (AX.exit 2)
 (Env.mk 48
 [(0, AV.ptr 0 0), (3, AV.sl 2 true []),
 (4, .int .i64 (↑i : Int))])
 (St.mk [Ob.cells [AV.vs 1 v 1 n], Ob.vec v cs] [])))
 none)
 none
 else none := by kernel_rfl
theorem kall_i1 (F m v n i j u q : Nat) (cs es : List AV) (K : Cont) :
 (loopRun (f30_l1.run F) [0, 3, 4, 5] K m.succ (Env.mk 48 [(0, .ptr 0 0), (3, .vs 2 u 2 q), (4, .int .i64 (i : Int)), (5, .int .i64 (j : Int))]) ⟨[.cells [.vs 1 v 1 n], .vec v cs, .vec u es], []⟩ : Ans) =
 if (0 : Int) ≤ (↑i : Int) ∧ (↑i : Int) < (↑n : Int) then
 branch (.bool (v.beq v))
 (branch (.bool ((LD.one (LT.ns 1)).is (List.drop (i * 1 + 0) cs)))
 (branch (.bool (decide ((↑j : Int) < (↑(rwA (List.drop (i * 1 + 0) cs)).length : Int))))
 (if (0 : Int) ≤ (↑i : Int) ∧ (↑i : Int) < (↑n : Int) then
 branch (.bool (v.beq v))
 (branch (.bool ((LD.one (LT.ns 1)).is (List.drop (i * 1 + 0) cs)))
 (branch (.bool (inR (rwA (List.drop (i * 1 + 0) cs)) (↑j : Int)))
 (branch
 (AV.bool
 ((LD.one (LT.ns 1)).is
 (V.rowAt (rwA (List.drop (i * 1 + 0) cs)) (↑j : Int))))
 (branch (.bool !nilA (V.rowAt (rwA (List.drop (i * 1 + 0) cs)) (↑j : Int)))
 (branch
 (.bool (u.beq u && (inC es 0 (mulN q 2) && apOk (q + 1) 16)))
 (loopRun (f30_l1.run F) [0, 3, 4, 5] K m
 (Env.mk 48
 [(0, AV.ptr 0 0),
 (3, AV.vs 2 (u + 1) 2 (q + 1)),
 (4, .int .i64 (↑i : Int)),
 (5, .int .i64 (IntKind.i64.wrap ((↑j : Int) + 1)))])
 (St.mk
 [Ob.cells [AV.vs 1 v 1 n], Ob.vec v cs,
 Ob.vec (u + 1)
 (catC es (mulN q 2)
 [[.int .i64 (↑i : Int), .int .i64 (↑j : Int)]])]
 []))
 none)
 (loopRun (f30_l1.run F) [0, 3, 4, 5] K m
 (Env.mk 48
 [(0, AV.ptr 0 0), (3, AV.vs 2 u 2 q),
 (4, .int .i64 (↑i : Int)),
 (5, .int .i64 (IntKind.i64.wrap ((↑j : Int) + 1)))])
 (St.mk [Ob.cells [AV.vs 1 v 1 n], Ob.vec v cs, Ob.vec u es] [])))
 none)
 none)
 none)
 none
 else none)
 (K (AX.exit 2)
 (Env.mk 48
 [(0, AV.ptr 0 0), (3, AV.vs 2 u 2 q),
 (4, .int .i64 (↑i : Int))])
 (St.mk [Ob.cells [AV.vs 1 v 1 n], Ob.vec v cs, Ob.vec u es] [])))
 none)
 none
 else none := by kernel_rfl
theorem kall_e0 (F : Nat) (os : List Ob) :
 ((Cont.block 0 (Cont.then (f30_r1.run F (f30.leaveK Fun.done)) (f30.leaveK Fun.done))) (.exit 0) (Env.mk 48 [(3, .sl 2 true [])]) ⟨os, []⟩ : Ans) =
 some (Fin.ret (AV.sl 2 true []), St.mk os []) := by kernel_rfl
theorem kall_e1 (F u q : Nat) (a b : Ob) (es : List AV) :
 ((Cont.block 0 (Cont.then (f30_r1.run F (f30.leaveK Fun.done)) (f30.leaveK Fun.done))) (.exit 0) (Env.mk 48 [(3, .vs 2 u 2 q)]) ⟨[a, b, .vec u es], []⟩ : Ans) =
 branch (.bool (u.beq u && inC es 0 (mulN q 2)))
 (some (Fin.ret (AV.ns false 2 (rowsC 2 q es 0)), St.mk [a, b, Ob.nov (u + 1)] []))
 none := by kernel_rfl
def Rh.sl_ (X : Rh) : List Sl := (X.cs.take X.n).map (·.2)
theorem Rh.sl_len {X : Rh} (h : X.Ok) : X.sl_.length = X.n := by
 have := h.n
 rw [Rh.sl_, List.length_map, List.length_take]; omega
theorem Rh.sl_at {X : Rh} {i : Nat} (h : i < X.sl_.length) : X.sl_[i] = X.at_ i := by
 have hl : i < X.n ∧ i < X.cs.length := by rw [Rh.sl_, List.length_map, List.length_take] at h; omega
 simp only [Rh.sl_, List.getElem_map, List.getElem_take, Rh.at_]
 rw [if_pos hl.1, List.getElem?_eq_getElem hl.2]; rfl
def Rh.by_ (X : Rh) : List (List Nat) := X.sl_.map pgB
def bT (l : List (List Nat)) : AV := match l with
 | [] => .sl 1 true []
 | _ :: t => .vs 2 t.length 1 (t.length + 1)
def bS (l : List (List Nat)) : List Ob := match l with
 | [] => []
 | p :: t => [.vec t.length (pC (p :: t))]
def bF (l : List (List Nat)) : AV := match l with
 | [] => .sl 1 true []
 | p :: t => .ns false 1 (cR (pC (p :: t)))
def bX (l : List (List Nat)) : List Ob := match l with
 | [] => []
 | p :: t => [.nov (t.length + 1)]
theorem kby_loop {X : Rh} (h : X.Ok) {v : Nat} (hv : X.v = v + 1) (F : Nat) : ∀ (d i m : Nat), i + d = X.n → d < m →
  loopRun (f27_l0.run F) [0, 3, 4] (Cont.block 0 (Cont.then (f27_r0.run F (f27.leaveK Fun.done)) (f27.leaveK Fun.done))) m (Env.mk 33 [(0, .ptr 0 0), (3, bT (X.by_.take i)), (4, .int .i64 (i : Int))]) ⟨X.obs ++ bS (X.by_.take i), []⟩
   = some (.ret (bF X.by_), ⟨X.obs ++ bX X.by_, []⟩)
 | d, i, 0, _, h => by omega
 | 0, i, m + 1, hi, _ => by
  have hl : X.by_.length = X.n := by rw [Rh.by_, List.length_map, Rh.sl_len h]
  have et : X.by_.take i = X.by_ := List.take_of_length_le (by omega)
  have hm3 := h.m
  have hn := h.n
  rw [et, show m + 1 = m.succ from rfl]
  generalize X.by_ = B at *
  obtain ⟨v', cs, n⟩ := X
  simp only at hv hi
  subst hv
  cases B with
  | nil =>
   show loopRun (f27_l0.run F) [0, 3, 4] _ m.succ (Env.mk 33 [(0, .ptr 0 0), (3, .sl 1 true []), (4, .int .i64 (i : Int))]) ⟨[.cells [.vs 1 (v + 1) 1 n], .vec (v + 1) (qC cs)], []⟩ = _
   rw [kby_r0, branch_not (decide_eq_false (by omega)), kby_o0]; rfl
  | cons p t =>
   show loopRun (f27_l0.run F) [0, 3, 4] _ m.succ (Env.mk 33 [(0, .ptr 0 0), (3, .vs 2 t.length 1 (t.length + 1)), (4, .int .i64 (i : Int))]) ⟨[.cells [.vs 1 (v + 1) 1 n], .vec (v + 1) (qC cs), .vec t.length (pC (p :: t))], []⟩ = _
   rw [kby_r1, branch_not (decide_eq_false (by omega)), kby_o1, branch_of (by rw [Nat.beq_refl, inC_one (by rw [pC_length]; simp)]; rfl), rowsC_one (by rw [pC_length]; simp)]
   have e : (pC (p :: t)).take (t.length + 1) = pC (p :: t) := List.take_of_length_le (by rw [pC_length]; simp)
   rw [e]; rfl
 | d + 1, i, m + 1, hi, hm' => by
  have hl : X.by_.length = X.n := by rw [Rh.by_, List.length_map, Rh.sl_len h]
  have hlt : i < X.by_.length := by omega
  have hS := Rh.at_sl h i
  have eb : X.by_[i] = pgB (X.at_ i) := by simp only [Rh.by_, List.getElem_map]; rw [Rh.sl_at]
  have et : X.by_.take (i + 1) = X.by_.take i ++ [pgB (X.at_ i)] := by rw [List.take_add_one, List.getElem?_eq_getElem hlt, eb]; rfl
  have ih := kby_loop h hv F d (i + 1) m (by omega) (by omega)
  rw [et] at ih
  have hlen : (X.by_.take i).length = i := by rw [List.length_take]; omega
  have hm3 := h.m
  have hn := h.n
  rw [show m + 1 = m.succ from rfl, ← ih]
  have okS1 : okS (sN (X.at_ i)) = true := okS_sN hS.1
  have ep : pgR (sN (X.at_ i)) = bR (pgB (X.at_ i)) := by rw [pgR_ok (by rw [sR_sN]; exact hS.2.2.1), sR_sN]
  have ek : (!pgOk (sR (sN (X.at_ i)))) = false := by rw [sR_sN, hS.2.2.1]; rfl
  generalize X.by_.take i = B at *
  obtain ⟨v', cs, n⟩ := X
  simp only at hv hi hm3 hn
  subst hv
  obtain ⟨a1, a2, a3⟩ := Rh.cell_at h (p := (i : Int)) (by omega) (by omega)
  rw [Int.toNat_natCast] at a1 a2 a3
  cases B with
  | nil =>
   show loopRun (f27_l0.run F) [0, 3, 4] _ m.succ (Env.mk 33 [(0, .ptr 0 0), (3, .sl 1 true []), (4, .int .i64 (i : Int))]) ⟨[.cells [.vs 1 (v + 1) 1 n], .vec (v + 1) (qC cs)], []⟩ = _
   rw [kby_r0, branch_of (decide_eq_true (by omega)), if_pos ⟨by omega, by omega⟩, branch_of (Nat.beq_refl _), branch_of a1, a2, branch_of okS1, branch_of (by rw [show apOk 1 24 = true by rw [apOk_iff]; omega]; rfl), ek, ep, catC_nil, wrap_succ (by omega)]
   have e : catC ([] : List (List AV)).flatten (mulN 0 1) [[AV.ns false 1 (bR (pgB ((Rh.mk (v + 1) cs n).at_ i)))]] = pC [pgB ((Rh.mk (v + 1) cs n).at_ i)] := by
    rw [catC, opq_eq]; simp [pC]
   rw [e]; rfl
  | cons p t =>
   simp only [List.length_cons] at hlen
   show loopRun (f27_l0.run F) [0, 3, 4] _ m.succ (Env.mk 33 [(0, .ptr 0 0), (3, .vs 2 t.length 1 (t.length + 1)), (4, .int .i64 (i : Int))]) ⟨[.cells [.vs 1 (v + 1) 1 n], .vec (v + 1) (qC cs), .vec t.length (pC (p :: t))], []⟩ = _
   rw [kby_r1, branch_of (decide_eq_true (by omega)), if_pos ⟨by omega, by omega⟩, branch_of (Nat.beq_refl _), branch_of a1, a2, branch_of okS1, branch_of (by rw [Nat.beq_refl, inC_one (by rw [pC_length]; simp), show apOk (t.length + 1 + 1) 24 = true by rw [apOk_iff]; omega]; rfl), ek, ep, wrap_succ (by omega), catC_one (by rw [pC_length]; simp)]
   have e : pC (p :: t) ++ [AV.ns false 1 (bR (pgB ((Rh.mk (v + 1) cs n).at_ i)))] = pC (p :: t ++ [pgB ((Rh.mk (v + 1) cs n).at_ i)]) := by simp [pC]
   rw [e]
   have e2 : t.length + 1 = (t ++ [pgB ((Rh.mk (v + 1) cs n).at_ i)]).length := by simp
   rw [e2]; rfl
theorem kby_at {X : Rh} (h : X.Ok) : f27.run 1000 [.ptr 0 0] ⟨X.obs, []⟩ = some (.ret (bF X.by_), ⟨X.obs ++ bX X.by_, []⟩) := by
 have hm3 := h.m
 have hn := h.n
 cases hv : X.v with
 | zero =>
  obtain ⟨v, cs, n⟩ := X
  simp only at hv
  subst hv
  obtain ⟨h1, h2⟩ := h.z rfl
  simp only at h1 h2
  subst h1; subst h2
  exact kby_nil 999
 | succ v =>
  have := kby_loop h hv 1000 X.n 0 1000 (by omega) (by omega)
  rw [List.take_zero] at this
  rw [← this]
  have hO : X.obs = [rhA.ob 0 X 0, rhA.ob 0 X 1] := (rh_obl h).symm
  rw [hO, kby_run]; rfl
noncomputable def q27 : OrcQ Try.prog := f27.byQ
 (fun args st k => match args with
  | [x] => rhA.on x st fun j X => k (.ns false 1 (pgsV X.by_))
  | _ => none)
 fun args st k fin h => by
  split at h
  ·rename_i x
   obtain ⟨j, X, rfl, hd, h1⟩ := ADT.on_spec h
   refine ⟨_, h1, ?_⟩
   have hn : Near 2 (frz (bF X.by_)) ∧ (∀ τ, ren τ (frz (bF X.by_)) = frz (bF X.by_)) ∧ Wk (frz (bF X.by_)) (.ns false 1 (pgsV X.by_)) := by
    rw [pgsV, opq_eq]
    cases X.by_ with
    | nil => exact ⟨trivial, fun _ => rfl, .sl⟩
    | cons p t => exact ⟨cR_scoped (p :: t), fun _ => rfl, .refl _⟩
   obtain ⟨n1, n2, n3⟩ := hn
   have := ADT.placed (A := rhA) (f := f27) (x := X) (y := X) (args0 := [.ptr 0 0]) (r := bF X.by_) (xs := bX X.by_) (kby_at hd.ok) hd.ok ⟨by show 0 < 2; omega, trivial⟩ n1 hd
   rw [hd.same, n2] at this
   exact CallsTo.wkR this n3
  ·cases h
def ridS : List Sl → Nat → List (Nat × Nat)
 | [], _ => []
 | s :: t, i => (slotsI s 0).map (fun j => (i, j)) ++ ridS t (i + 1)
def Rh.rids (X : Rh) : List (Nat × Nat) := ridS X.sl_ 0
def vB (l : List (Nat × Nat)) : AV := match l with
 | [] => .sl 2 true []
 | _ :: t => .vs 2 t.length 2 (t.length + 1)
def oB2 (l : List (Nat × Nat)) : List Ob := match l with
 | [] => []
 | r :: t => [.vec t.length (rC (r :: t))]
def fB (l : List (Nat × Nat)) : AV := match l with
 | [] => .sl 2 true []
 | r :: t => .ns false 2 (rP (r :: t))
def xB (l : List (Nat × Nat)) : List Ob := match l with
 | [] => []
 | r :: t => [.nov (t.length + 1)]
theorem cellN_is (o : Option (List Nat)) : (LD.one (LT.ns 1)).is [cellN o] = true := by cases o <;> rfl
theorem kall_step {X : Rh} (h : X.Ok) {v : Nat} (hv : X.v = v + 1) (F : Nat) {i : Nat} (hi : i < X.n) (acc : List (Nat × Nat)) (hacc : acc.length ≤ 100000) {j : Nat} (hj : j < (X.at_ i).length) (m : Nat) (K : Cont) :
  loopRun (f30_l1.run F) [0, 3, 4, 5] K (m + 1) (Env.mk 48 [(0, .ptr 0 0), (3, vB acc), (4, .int .i64 (i : Int)), (5, .int .i64 (j : Int))]) ⟨X.obs ++ oB2 acc, []⟩
   = loopRun (f30_l1.run F) [0, 3, 4, 5] K m (Env.mk 48 [(0, .ptr 0 0), (3, vB (acc ++ if (X.at_ i)[j].isNone then [] else [(i, j)])), (4, .int .i64 (i : Int)), (5, .int .i64 ((j + 1 : Nat) : Int))]) ⟨X.obs ++ oB2 (acc ++ if (X.at_ i)[j].isNone then [] else [(i, j)]), []⟩ := by
 have hS := Rh.at_sl h i
 have h251 := hS.2.2.2
 have hm3 := h.m
 have hn := h.n
 obtain ⟨r1, r2⟩ := sN_row hj
 have r3 : nilA [cellN (X.at_ i)[j]] = (X.at_ i)[j].isNone := nilA_N _
 obtain ⟨v', cs, n⟩ := X
 simp only at hv hi hm3 hn
 subst hv
 have hlt : i < cs.length := by omega
 obtain ⟨a1, a2, a3, a4⟩ := qC_at h.sl hlt
 have ea : (Rh.mk (v + 1) cs n).at_ i = (cs[i]).2 := by
  rw [Rh.at_]; simp only; rw [if_pos hi, List.getElem?_eq_getElem hlt]; rfl
 have a3' : rwA (List.drop (i * 1 + 0) (qC cs)) = sN ((Rh.mk (v + 1) cs n).at_ i) := by rw [Nat.add_zero, a3, ea]
 have hz : ((0 : Int) ≤ (i : Int) ∧ (i : Int) < (n : Int)) := ⟨by omega, by omega⟩
 cases acc with
 | nil =>
  show loopRun (f30_l1.run F) [0, 3, 4, 5] K m.succ (Env.mk 48 [(0, .ptr 0 0), (3, .sl 2 true []), (4, .int .i64 (i : Int)), (5, .int .i64 (j : Int))]) ⟨[.cells [.vs 1 (v + 1) 1 n], .vec (v + 1) (qC cs)], []⟩ = _
  rw [kall_i0, if_pos hz, branch_of (Nat.beq_refl _), branch_of a1, a3', sN_length, branch_of (decide_eq_true (by omega)), if_pos hz, branch_of (Nat.beq_refl _), branch_of a1, branch_of r1, r2, branch_of (cellN_is _), r3, wrap_succ (by omega)]
  cases (((Rh.mk (v + 1) cs n).at_ i)[j]).isNone with
  | true => rw [branch_not (b := !true) rfl]; rfl
  | false =>
   rw [branch_of (b := !false) rfl, branch_of (by rw [show apOk 1 16 = true by rw [apOk_iff]; omega]; rfl), catC_nil]
   have e : catC ([] : List (List AV)).flatten (mulN 0 2) [[AV.int IntKind.i64 (i : Int), AV.int IntKind.i64 (j : Int)]] = rC [(i, j)] := catC_rC [] (i, j)
   rw [e]; rfl
 | cons x t =>
  simp only [List.length_cons] at hacc
  show loopRun (f30_l1.run F) [0, 3, 4, 5] K m.succ (Env.mk 48 [(0, .ptr 0 0), (3, .vs 2 t.length 2 (t.length + 1)), (4, .int .i64 (i : Int)), (5, .int .i64 (j : Int))]) ⟨[.cells [.vs 1 (v + 1) 1 n], .vec (v + 1) (qC cs), .vec t.length (rC (x :: t))], []⟩ = _
  rw [kall_i1, if_pos hz, branch_of (Nat.beq_refl _), branch_of a1, a3', sN_length, branch_of (decide_eq_true (by omega)), if_pos hz, branch_of (Nat.beq_refl _), branch_of a1, branch_of r1, r2, branch_of (cellN_is _), r3, wrap_succ (by omega)]
  cases (((Rh.mk (v + 1) cs n).at_ i)[j]).isNone with
  | true =>
   rw [branch_not (b := !true) rfl]
   have e : x :: t ++ (if true = true then [] else [(i, j)]) = x :: t := by simp
   rw [e]; rfl
  | false =>
   have hin : inC (rC (x :: t)) 0 (mulN (t.length + 1) 2) = true := inC_rC (x :: t)
   have hct : catC (rC (x :: t)) (mulN (t.length + 1) 2) [[AV.int IntKind.i64 (i : Int), AV.int IntKind.i64 (j : Int)]] = rC (x :: t ++ [(i, j)]) := catC_rC (x :: t) (i, j)
   rw [branch_of (b := !false) rfl, branch_of (by rw [Nat.beq_refl, hin, show apOk (t.length + 1 + 1) 16 = true by rw [apOk_iff]; omega]; rfl), hct]
   have e2 : t.length + 1 = (t ++ [(i, j)]).length := by simp
   rw [e2]; rfl
theorem kall_inner {X : Rh} (h : X.Ok) {v : Nat} (hv : X.v = v + 1) (F : Nat) {i : Nat} (hi : i < X.n) : ∀ (d j m : Nat) (acc : List (Nat × Nat)), j + d = (X.at_ i).length → d < m → acc.length ≤ 300 * i + j → ∀ K,
  loopRun (f30_l1.run F) [0, 3, 4, 5] K m (Env.mk 48 [(0, .ptr 0 0), (3, vB acc), (4, .int .i64 (i : Int)), (5, .int .i64 (j : Int))]) ⟨X.obs ++ oB2 acc, []⟩
   = K (.exit 2) (Env.mk 48 [(0, .ptr 0 0), (3, vB (acc ++ (slotsI ((X.at_ i).drop j) j).map fun s => (i, s))), (4, .int .i64 (i : Int))]) ⟨X.obs ++ oB2 (acc ++ (slotsI ((X.at_ i).drop j) j).map fun s => (i, s)), []⟩
 | d, j, 0, acc, _, h, _, K => by omega
 | 0, j, m + 1, acc, hj, _, _, K => by
  have hS := Rh.at_sl h i
  rw [List.drop_eq_nil_of_le (by omega)]
  simp only [slotsI, List.map_nil, List.append_nil]
  have hm3 := h.m
  have hn := h.n
  obtain ⟨v', cs, n⟩ := X
  simp only at hv hi hm3 hn
  subst hv
  have hlt : i < cs.length := by omega
  obtain ⟨a1, a2, a3, a4⟩ := qC_at h.sl hlt
  have ea : (Rh.mk (v + 1) cs n).at_ i = (cs[i]).2 := by
   rw [Rh.at_]; simp only; rw [if_pos hi, List.getElem?_eq_getElem hlt]; rfl
  have a3' : rwA (List.drop (i * 1 + 0) (qC cs)) = sN ((Rh.mk (v + 1) cs n).at_ i) := by rw [Nat.add_zero, a3, ea]
  have hz : ((0 : Int) ≤ (i : Int) ∧ (i : Int) < (n : Int)) := ⟨by omega, by omega⟩
  cases acc with
  | nil =>
   show loopRun (f30_l1.run F) [0, 3, 4, 5] K m.succ (Env.mk 48 [(0, .ptr 0 0), (3, .sl 2 true []), (4, .int .i64 (i : Int)), (5, .int .i64 (j : Int))]) ⟨[.cells [.vs 1 (v + 1) 1 n], .vec (v + 1) (qC cs)], []⟩ = _
   rw [kall_i0, if_pos hz, branch_of (Nat.beq_refl _), branch_of a1, a3', sN_length, branch_not (decide_eq_false (by omega))]; rfl
  | cons x t =>
   show loopRun (f30_l1.run F) [0, 3, 4, 5] K m.succ (Env.mk 48 [(0, .ptr 0 0), (3, .vs 2 t.length 2 (t.length + 1)), (4, .int .i64 (i : Int)), (5, .int .i64 (j : Int))]) ⟨[.cells [.vs 1 (v + 1) 1 n], .vec (v + 1) (qC cs), .vec t.length (rC (x :: t))], []⟩ = _
   rw [kall_i1, if_pos hz, branch_of (Nat.beq_refl _), branch_of a1, a3', sN_length, branch_not (decide_eq_false (by omega))]; rfl
 | d + 1, j, m + 1, acc, hj, hm, hacc, K => by
  have hlt : j < (X.at_ i).length := by omega
  have h251 := (Rh.at_sl h i).2.2.2
  have hm3 := h.m
  have hn := h.n
  rw [kall_step h hv F hi acc (by omega) hlt m K, kall_inner h hv F hi d (j + 1) m _ (by omega) (by omega) (by rw [List.length_append]; split <;> simp <;> omega) K, List.drop_eq_getElem_cons hlt]
  have e : acc ++ (if (X.at_ i)[j].isNone then [] else [(i, j)]) ++ (slotsI (List.drop (j + 1) (X.at_ i)) (j + 1)).map (fun s => (i, s)) = acc ++ (slotsI ((X.at_ i)[j] :: List.drop (j + 1) (X.at_ i)) j).map fun s => (i, s) := by
   cases (X.at_ i)[j] with
   | none => simp [slotsI]
   | some b => simp [slotsI]
  rw [e]
theorem slotsI_le251 {X : Rh} (h : X.Ok) (i : Nat) : (slotsI (X.at_ i) 0).length ≤ 251 := Nat.le_trans (slotsI_len _ _) (Rh.at_sl h i).2.2.2
theorem kall_loop {X : Rh} (h : X.Ok) {v : Nat} (hv : X.v = v + 1) (F : Nat) (hF : 1000 ≤ F) : ∀ (d i m : Nat) (acc : List (Nat × Nat)), i + d = X.n → d < m → acc.length ≤ 300 * i →
  loopRun (f30_l0.run F) [0, 3, 4] (Cont.block 0 (Cont.then (f30_r1.run F (f30.leaveK Fun.done)) (f30.leaveK Fun.done))) m (Env.mk 48 [(0, .ptr 0 0), (3, vB acc), (4, .int .i64 (i : Int))]) ⟨X.obs ++ oB2 acc, []⟩
   = some (.ret (fB (acc ++ ridS (X.sl_.drop i) i)), ⟨X.obs ++ xB (acc ++ ridS (X.sl_.drop i) i), []⟩)
 | d, i, 0, acc, _, h, _ => by omega
 | 0, i, m + 1, acc, hi, _, _ => by
  have hl := Rh.sl_len h
  rw [List.drop_eq_nil_of_le (by omega)]
  simp only [ridS, List.append_nil]
  obtain ⟨v', cs, n⟩ := X
  simp only at hv hi
  subst hv
  cases acc with
  | nil =>
   show loopRun (f30_l0.run F) [0, 3, 4] _ m.succ (Env.mk 48 [(0, .ptr 0 0), (3, .sl 2 true []), (4, .int .i64 (i : Int))]) ⟨[.cells [.vs 1 (v + 1) 1 n], .vec (v + 1) (qC cs)], []⟩ = _
   rw [kall_o0, branch_not (decide_eq_false (by omega)), kall_e0]; rfl
  | cons x t =>
   show loopRun (f30_l0.run F) [0, 3, 4] _ m.succ (Env.mk 48 [(0, .ptr 0 0), (3, .vs 2 t.length 2 (t.length + 1)), (4, .int .i64 (i : Int))]) ⟨[.cells [.vs 1 (v + 1) 1 n], .vec (v + 1) (qC cs), .vec t.length (rC (x :: t))], []⟩ = _
   have hin : inC (rC (x :: t)) 0 (mulN (t.length + 1) 2) = true := inC_rC (x :: t)
   have hrw : rowsC 2 (t.length + 1) (rC (x :: t)) 0 = rP (x :: t) := rowsC_rC (x :: t)
   rw [kall_o1, branch_not (decide_eq_false (by omega)), kall_e1, branch_of (by rw [Nat.beq_refl, hin]; rfl), hrw]; rfl
 | d + 1, i, m + 1, acc, hi, hm, hacc => by
  have hl := Rh.sl_len h
  have hlt : i < X.sl_.length := by omega
  have h251 := (Rh.at_sl h i).2.2.2
  have hin := kall_inner h hv F (show i < X.n by omega) (X.at_ i).length 0 F acc (by omega) (by omega) (by omega)
  have ih := kall_loop h hv F hF d (i + 1) m (acc ++ (slotsI (X.at_ i) 0).map fun s => (i, s)) (by omega) (by omega) (by have := slotsI_le251 h i; rw [List.length_append, List.length_map]; omega)
  have hm3 := h.m
  have hn := h.n
  have e : acc ++ ridS (X.sl_.drop i) i = acc ++ (slotsI (X.at_ i) 0).map (fun s => (i, s)) ++ ridS (X.sl_.drop (i + 1)) (i + 1) := by
   rw [List.drop_eq_getElem_cons hlt, ridS, Rh.sl_at, List.append_assoc]
  rw [e, ← ih]
  rw [List.drop_zero] at hin
  generalize acc ++ (slotsI (X.at_ i) 0).map (fun s => (i, s)) = acc2 at *
  obtain ⟨v', cs, n⟩ := X
  simp only at hv hi hm3 hn
  subst hv
  have w : IntKind.i64.wrap ((i : Int) + 1) = ((i + 1 : Nat) : Int) := wrap_succ (by omega)
  cases acc with
  | nil =>
   show loopRun (f30_l0.run F) [0, 3, 4] _ m.succ (Env.mk 48 [(0, .ptr 0 0), (3, .sl 2 true []), (4, .int .i64 (i : Int))]) ⟨[.cells [.vs 1 (v + 1) 1 n], .vec (v + 1) (qC cs)], []⟩ = _
   rw [kall_o0, branch_of (decide_eq_true (by omega))]
   refine (hin _).trans ?_
   rw [← w]
   cases acc2 <;> rfl
  | cons x t =>
   show loopRun (f30_l0.run F) [0, 3, 4] _ m.succ (Env.mk 48 [(0, .ptr 0 0), (3, .vs 2 t.length 2 (t.length + 1)), (4, .int .i64 (i : Int))]) ⟨[.cells [.vs 1 (v + 1) 1 n], .vec (v + 1) (qC cs), .vec t.length (rC (x :: t))], []⟩ = _
   rw [kall_o1, branch_of (decide_eq_true (by omega))]
   refine (hin _).trans ?_
   rw [← w]
   cases acc2 <;> rfl
theorem kall_at {X : Rh} (h : X.Ok) : f30.run 1000 [.ptr 0 0] ⟨X.obs, []⟩ = some (.ret (fB X.rids), ⟨X.obs ++ xB X.rids, []⟩) := by
 have hm3 := h.m
 have hn := h.n
 cases hv : X.v with
 | zero =>
  obtain ⟨v, cs, n⟩ := X
  simp only at hv
  subst hv
  obtain ⟨h1, h2⟩ := h.z rfl
  simp only at h1 h2
  subst h1; subst h2
  exact kall_nil 999
 | succ v =>
  have := kall_loop h hv 1000 (by omega) X.n 0 1000 [] (by omega) (by omega) (by simp)
  rw [List.drop_zero, List.nil_append] at this
  rw [Rh.rids, ← this]
  have hO : X.obs = [rhA.ob 0 X 0, rhA.ob 0 X 1] := (rh_obl h).symm
  rw [hO, kall_run]; rfl
noncomputable def q30 : OrcQ Try.prog := f30.byQ
 (fun args st k => match args with
  | [x] => rhA.on x st fun j X => k (.ns false 2 (ridsV X.rids))
  | _ => none)
 fun args st k fin h => by
  split at h
  ·rename_i x
   obtain ⟨j, X, rfl, hd, h1⟩ := ADT.on_spec h
   refine ⟨_, h1, ?_⟩
   have hn : Near 2 (frz (fB X.rids)) ∧ (∀ τ, ren τ (frz (fB X.rids)) = frz (fB X.rids)) ∧ Wk (frz (fB X.rids)) (.ns false 2 (ridsV X.rids)) := by
    rw [ridsV, opq_eq]
    cases X.rids with
    | nil => exact ⟨trivial, fun _ => rfl, .sl⟩
    | cons p t => exact ⟨rP_scoped (p :: t), fun _ => rfl, .refl _⟩
   obtain ⟨n1, n2, n3⟩ := hn
   have := ADT.placed (A := rhA) (f := f30) (x := X) (y := X) (args0 := [.ptr 0 0]) (r := fB X.rids) (xs := xB X.rids) (kall_at hd.ok) hd.ok ⟨by show 0 < 2; omega, trivial⟩ n1 hd
   rw [hd.same, n2] at this
   exact CallsTo.wkR this n3
  ·cases h
noncomputable def f65_l0 : Sim Try.prog :=
 (.seq (.seq (.live [2, 4, 7, 8, 9, 22] (.region 4 [
 ⟨(opMove (some 13) (.tmp 9) 3 "ref.go:141" #[]).op, none⟩,
 ⟨(opMove (some 14) (.tmp 7) 40 "ref.go:141" #[]).op, none⟩,
 ⟨(opLen (some 15) (.tmp 14) 40 (.slice 30) Try.underlying40 3 "ref.go:141" #[eD 1]).op, none⟩,
 ⟨(opBin (some 16) .lss 3 (.tmp 13) (.tmp 15) 3 4 "ref.go:141" #[eD 0, eD 2]).op, none⟩,
 ⟨(opMove (some 17) (.tmp 16) 4 "ref.go:141" #[eD 3]).op, none⟩,
 ⟨(opMove (some 18) (.tmp 8) 40 "ref.go:141" #[eG 4]).op, (some (4, 17, true))⟩,
 ⟨(opLen (some 19) (.tmp 18) 40 (.slice 30) Try.underlying40 3 "ref.go:141" #[eD 5, eG 4]).op, (some (4, 17, true))⟩,
 ⟨(opMove (some 20) (.tmp 2) 3 "ref.go:141" #[eG 4]).op, (some (4, 17, true))⟩,
 ⟨(opBin (some 21) .lss 3 (.tmp 19) (.tmp 20) 3 4 "ref.go:141" #[eD 6, eD 7, eG 4]).op, (some (4, 17, true))⟩,
 ⟨(opPick (some 22) (.tmp 17) (.tmp 21) (.const (Value.bool false)) 4 "ref.go:141" #[eD 4, eD 8]).op, none⟩
 ] (by kernel_rfl)))
 (.cond (.tmp 22)
 .skip
 (.live [8] (.exit 0))))
 (.seq (.block 1 (.seq (.live [2, 4, 7, 8, 9, 52] (.draw 6 [
 ⟨.p (opMove (some 25) (.tmp 7) 40 "ref.go:142" #[]), none⟩,
 ⟨.p (opMove (some 26) (.tmp 9) 3 "ref.go:142" #[]), none⟩,
 ⟨.pn (opIndexAddrT (some 27) 40 (.tmp 25) (.tmp 26) 30 2 Try.underlying40 sz30 0 "ref.go:142" #[eD 0, eD 1]) opIndexAddrT_nat, none⟩,
 ⟨.pn (opFieldAddr (some 28) 30 (.tmp 27) 0 0 1 false fl30_0 (by decide) 0 "ref.go:142" #[eD 2]) opFieldAddr_nat, none⟩,
 ⟨.qn (opLoadT (.one (.int .i64)) (some 29) 3 (.tmp 28) (.int .i64) Try.underlying3 1 sz3 (by kernel_rfl) 3 "ref.go:142" #[eD 3]) opLoadT_nat, none⟩,
 ⟨.pn (opFieldAddr (some 30) 30 (.tmp 4) 0 0 1 false fl30_0 (by decide) 0 "ref.go:142" #[]) opFieldAddr_nat, none⟩,
 ⟨.qn (opLoadT (.one (.int .i64)) (some 31) 3 (.tmp 30) (.int .i64) Try.underlying3 1 sz3 (by kernel_rfl) 3 "ref.go:142" #[eD 5]) opLoadT_nat, none⟩,
 ⟨.pn (opBin (some 32) .gtr 3 (.tmp 29) (.tmp 31) 3 4 "ref.go:142" #[eD 4, eD 6]) opBin_nat, none⟩,
 ⟨.p (opMove (some 33) (.tmp 32) 4 "ref.go:142" #[eD 7]), none⟩,
 ⟨.p (opMove (some 34) (.tmp 7) 40 "ref.go:142" #[eG 8]), (some (8, 33, false))⟩,
 ⟨.p (opMove (some 35) (.tmp 9) 3 "ref.go:142" #[eG 8]), (some (8, 33, false))⟩,
 ⟨.pn (opIndexAddrT (some 36) 40 (.tmp 34) (.tmp 35) 30 2 Try.underlying40 sz30 0 "ref.go:142" #[eD 9, eD 10, eG 8]) opIndexAddrT_nat, (some (8, 33, false))⟩,
 ⟨.pn (opFieldAddr (some 37) 30 (.tmp 36) 0 0 1 false fl30_0 (by decide) 0 "ref.go:142" #[eD 11, eG 8]) opFieldAddr_nat, (some (8, 33, false))⟩,
 ⟨.qn (opLoadT (.one (.int .i64)) (some 38) 3 (.tmp 37) (.int .i64) Try.underlying3 1 sz3 (by kernel_rfl) 3 "ref.go:142" #[eD 12, eG 8]) opLoadT_nat, (some (8, 33, false))⟩,
 ⟨.pn (opFieldAddr (some 39) 30 (.tmp 4) 0 0 1 false fl30_0 (by decide) 0 "ref.go:142" #[eG 8]) opFieldAddr_nat, (some (8, 33, false))⟩,
 ⟨.qn (opLoadT (.one (.int .i64)) (some 40) 3 (.tmp 39) (.int .i64) Try.underlying3 1 sz3 (by kernel_rfl) 3 "ref.go:142" #[eD 14, eG 8]) opLoadT_nat, (some (8, 33, false))⟩,
 ⟨.pn (opBin (some 41) .eql 3 (.tmp 38) (.tmp 40) 3 4 "ref.go:142" #[eD 13, eD 15, eG 8]) opBin_nat, (some (8, 33, false))⟩,
 ⟨.p (opMove (some 42) (.tmp 41) 4 "ref.go:142" #[eD 16, eC 8, eG 8]), (some (8, 33, false))⟩,
 ⟨.p (opMove (some 43) (.tmp 7) 40 "ref.go:142" #[eG 17]), (some (17, 42, true))⟩,
 ⟨.p (opMove (some 44) (.tmp 9) 3 "ref.go:142" #[eG 17]), (some (17, 42, true))⟩,
 ⟨.pn (opIndexAddrT (some 45) 40 (.tmp 43) (.tmp 44) 30 2 Try.underlying40 sz30 0 "ref.go:142" #[eD 18, eD 19, eG 17]) opIndexAddrT_nat, (some (17, 42, true))⟩,
 ⟨.pn (opFieldAddr (some 46) 30 (.tmp 45) 1 1 1 false fl30_1 (by decide) 0 "ref.go:142" #[eD 20, eG 17]) opFieldAddr_nat, (some (17, 42, true))⟩,
 ⟨.qn (opLoadT (.one (.int .i64)) (some 47) 3 (.tmp 46) (.int .i64) Try.underlying3 1 sz3 (by kernel_rfl) 3 "ref.go:142" #[eD 21, eG 17]) opLoadT_nat, (some (17, 42, true))⟩,
 ⟨.pn (opFieldAddr (some 48) 30 (.tmp 4) 1 1 1 false fl30_1 (by decide) 0 "ref.go:142" #[eG 17]) opFieldAddr_nat, (some (17, 42, true))⟩,
 ⟨.qn (opLoadT (.one (.int .i64)) (some 49) 3 (.tmp 48) (.int .i64) Try.underlying3 1 sz3 (by kernel_rfl) 3 "ref.go:142" #[eD 23, eG 17]) opLoadT_nat, (some (17, 42, true))⟩,
 ⟨.pn (opBin (some 50) .gtr 3 (.tmp 47) (.tmp 49) 3 4 "ref.go:142" #[eD 22, eD 24, eG 17]) opBin_nat, (some (17, 42, true))⟩,
 ⟨.p (opPick (some 51) (.tmp 42) (.tmp 50) (.const (Value.bool false)) 4 "ref.go:142" #[eD 17, eD 25, eG 8]), (some (8, 33, false))⟩,
 ⟨.p (opPick (some 52) (.tmp 33) (.const (Value.bool true)) (.tmp 51) 4 "ref.go:142" #[eD 8, eD 26]), none⟩
 ] mixed (by kernel_rfl)))
 (.cond (.tmp 52)
 (.live [2, 4, 7, 8, 9] (.region 7 [
 ⟨(opMove (some 53) (.tmp 8) 40 "ref.go:143" #[]).op, none⟩,
 ⟨(opMove (some 54) (.tmp 7) 40 "ref.go:143" #[]).op, none⟩,
 ⟨(opMove (some 55) (.tmp 9) 3 "ref.go:143" #[]).op, none⟩,
 ⟨(opIndexAddrT (some 56) 40 (.tmp 54) (.tmp 55) 30 2 Try.underlying40 sz30 0 "ref.go:143" #[eD 1, eD 2]).op, none⟩,
 ⟨(opLoadT (.agg [(.int .i64), (.int .i64)]) (some 57) 30 (.tmp 56) d30 ud30 2 sz30 (by kernel_rfl) 30 "ref.go:143" #[eD 3]).op, none⟩,
 ⟨(opBuildSlice (some 58) 40 1 [(0, (.tmp 57))] 30 2 16 (.agg #[(.int .i64 0), (.int .i64 0)]) el40 (by kernel_rfl) (by decide) 40 "ref.go:143" #[eD 4]).op, none⟩,
 ⟨(opAppendV (some 59) (.tmp 53) (.tmp 58) 40 40 30 2 16 (.agg #[(.int .i64 0), (.int .i64 0)]) el40 (.slice 30) Try.underlying40 rfl 40 "ref.go:143" #[eD 0, eD 5]).op, none⟩,
 ⟨(opAssign (some 8) (.tmp 59) 40 "ref.go:143" #[eD 6, eC 6, eP 0, eP 1, eP 2, eP 3, eP 4, eP 5, eP 6]).op, none⟩
 ] (by kernel_rfl)))
 .skip)))
 (.live [2, 4, 7, 8, 9] (.region 5 [
 ⟨(opMove (some 23) (.tmp 9) 3 "ref.go:141" #[]).op, none⟩,
 ⟨(opBin (some 24) .add 3 (.tmp 23) (.const (Value.int IntKind.i64 1)) 3 3 "ref.go:141" #[eD 0]).op, none⟩,
 ⟨(opAssign (some 9) (.tmp 24) 3 "ref.go:141" #[eD 1, eP 0, eP 1]).op, none⟩
 ] (by kernel_rfl)))))
noncomputable def f65_r0 : Sim Try.prog :=
 (.seq (.live [6] (.region 8 [
 ⟨(opMoveZn (some 60) (.tmp 8) 40 "ref.go:146" #[]).op, none⟩,
 ⟨(opAssign (some 6) (.tmp 60) 40 "ref.go:146" #[eD 0, eP 0]).op, none⟩
 ] (by kernel_rfl)))
 (.live [6] .ret))
noncomputable def f65_b : Sim Try.prog :=
 (.seq (.live [0, 2, 4] (.region 0 [
 ⟨(opBoxF (some 4) 30 (.tmp 1) 0 "ref.go:138" #[]).op, none⟩,
 ⟨(opAssign (some 6) (.const (Value.slice none 0 0)) 40 "ref.go:138" #[]).op, none⟩
 ] (by kernel_rfl)))
 (.seq (.live [2, 4, 7] (.region 1 [
 ⟨(opMove (some 10) (.tmp 0) 56 "ref.go:139" #[]).op, none⟩,
 ⟨(opCallQ q30 (some 11) [(.tmp 10)] #[56] 40 "ref.go:139" #[eD 0]).op, none⟩,
 ⟨(opAssign (some 7) (.tmp 11) 40 "ref.go:139" #[eD 1, eC 1, eP 0, eP 1]).op, none⟩
 ] (by kernel_rfl)))
 (.seq (.live [2, 4, 7, 8] (.region 2 [
 ⟨(opBuildSlice (some 12) 40 0 [] 30 2 16 (.agg #[(.int .i64 0), (.int .i64 0)]) el40 (by kernel_rfl) (by decide) 40 "ref.go:140" #[]).op, none⟩,
 ⟨(opAssign (some 8) (.tmp 12) 40 "ref.go:140" #[eD 0, eP 0]).op, none⟩
 ] (by kernel_rfl)))
 (.seq (.seq (.live [2, 4, 7, 8, 9] (.region 3 [
 ⟨(opAssign (some 9) (.const (Value.int IntKind.i64 0)) 3 "ref.go:141" #[]).op, none⟩
 ] (by kernel_rfl)))
 (.block 0 (.loop [2, 4, 7, 8, 9] f65_l0)))
 f65_r0))))
noncomputable def f65 : Fun Try.prog where
 id := 65
 fn := Try.f65
 hf := Try.func65
 hname := by kernel_rfl
 body := f65_b
 hbody := by kernel_rfl
 res := [rTmp 6]
 hres := by kernel_rfl
 n := 61
 hn := by kernel_rfl
theorem kaft_run (F : Nat) (X : Rh) (p s m : Int) :
 (f65.run F [.ptr 0 0, .agg [.int .i64 p, .int .i64 s], .int .i64 m] ⟨[rhA.ob 0 X 0, rhA.ob 0 X 1], []⟩ : Ans) =
 onSome (rhA.G 0 [rhA.ob 0 X 0, rhA.ob 0 X 1]) none fun (o : Rh) =>
 loopRun (f65_l0.run F) [2, 4, 7, 8, 9]
 (Cont.block 0 (Cont.then (f65_r0.run F (f65.leaveK Fun.done)) (f65.leaveK Fun.done))) F
 (Env.mk 61
 [(2, .int .i64 m), (4, AV.eptr [.int .i64 p, .int .i64 s]),
 (7, AV.ns false 2 (ridsV o.rids)), (8, AV.sl 2 true []),
 (9, .int .i64 0)])
 (St.mk [rhA.ob 0 X 0, rhA.ob 0 X 1] []) := by kernel_rfl
theorem kaft_r0 (F m j : Nat) (z : Bool) (l : List (List AV)) (p s q : Int) (a b : Ob) (K : Cont) :
 (loopRun (f65_l0.run F) [2, 4, 7, 8, 9] K m.succ (Env.mk 61 [(2, .int .i64 q), (4, .eptr [.int .i64 p, .int .i64 s]), (7, .ns z 2 l), (8, .sl 2 true []), (9, .int .i64 (j : Int))]) ⟨[a, b], []⟩ : Ans) =
 branch (.bool (decide ((↑j : Int) < (↑l.length : Int))))
 (branch (.bool (decide ((0 : Int) < q)))
 (branch (.bool (inR l (↑j : Int)))
 (branch (.bool ((LD.one (LT.int IntKind.i64)).is (List.drop 0 (V.rowAt l (↑j : Int)))))
 (branch (.bool (decide (hdI (List.drop 0 (V.rowAt l (↑j : Int))) > p)))
 (branch (.bool (inR l (↑j : Int)))
 (branch (.bool ((LD.agg [LT.int IntKind.i64, LT.int IntKind.i64]).is (V.rowAt l (↑j : Int))))
 (branch (.bool (true && apOk 1 16))
 (loopRun (f65_l0.run F) [2, 4, 7, 8, 9] K m
 (Env.mk 61
 [(2, .int .i64 q),
 (4, AV.eptr [.int .i64 p, .int .i64 s]),
 (7, AV.ns z 2 l), (8, AV.vs 2 0 2 1),
 (9, .int .i64 (IntKind.i64.wrap ((↑j : Int) + 1)))])
 (St.mk
 [a, b,
 Ob.vec 0
 (catC (catC [] 0 []) (mulN 0 2)
 [[.int .i64 (hdI (V.rowAt l (↑j : Int))),
 .int .i64 (hdI (V.rowAt l (↑j : Int)).tail)]])]
 []))
 none)
 none)
 none)
 (branch (.bool (inR l (↑j : Int)))
 (branch (.bool ((LD.one (LT.int IntKind.i64)).is (List.drop 0 (V.rowAt l (↑j : Int)))))
 (branch (.bool (hdI (List.drop 0 (V.rowAt l (↑j : Int))) == p))
 (branch (.bool (inR l (↑j : Int)))
 (branch (.bool ((LD.one (LT.int IntKind.i64)).is (List.drop 1 (V.rowAt l (↑j : Int)))))
 (branch (.bool (decide (hdI (List.drop 1 (V.rowAt l (↑j : Int))) > s)))
 (branch (.bool (inR l (↑j : Int)))
 (branch (.bool ((LD.agg [LT.int IntKind.i64, LT.int IntKind.i64]).is (V.rowAt l (↑j : Int))))
 (branch (.bool (true && apOk 1 16))
 (loopRun (f65_l0.run F) [2, 4, 7, 8, 9] K m
 (Env.mk 61
 [(2, .int .i64 q),
 (4, AV.eptr [.int .i64 p, .int .i64 s]),
 (7, AV.ns z 2 l),
 (8, AV.vs 2 0 2 1),
 (9, .int .i64 (IntKind.i64.wrap ((↑j : Int) + 1)))])
 (St.mk
 [a, b,
 Ob.vec 0
 (catC (catC [] 0 []) (mulN 0 2)
 [[.int .i64 (hdI (V.rowAt l (↑j : Int))),
 .int .i64 (hdI (V.rowAt l (↑j : Int)).tail)]])]
 []))
 none)
 none)
 none)
 (loopRun (f65_l0.run F) [2, 4, 7, 8, 9] K m
 (Env.mk 61
 [(2, .int .i64 q),
 (4, AV.eptr [.int .i64 p, .int .i64 s]),
 (7, AV.ns z 2 l), (8, AV.sl 2 true []),
 (9, .int .i64 (IntKind.i64.wrap ((↑j : Int) + 1)))])
 (St.mk [a, b] [])))
 none)
 none)
 (loopRun (f65_l0.run F) [2, 4, 7, 8, 9] K m
 (Env.mk 61
 [(2, .int .i64 q),
 (4, AV.eptr [.int .i64 p, .int .i64 s]),
 (7, AV.ns z 2 l), (8, AV.sl 2 true []),
 (9, .int .i64 (IntKind.i64.wrap ((↑j : Int) + 1)))])
 (St.mk [a, b] [])))
 none)
 none))
 none)
 none)
 (K (AX.exit 0) (Env.mk 61 [(8, AV.sl 2 true [])]) (St.mk [a, b] [])))
 (K (AX.exit 0) (Env.mk 61 [(8, AV.sl 2 true [])]) (St.mk [a, b] [])) := by kernel_rfl
theorem kaft_r1 (F m j u n : Nat) (z : Bool) (l : List (List AV)) (es : List AV) (p s q : Int) (a b : Ob) (K : Cont) :
 (loopRun (f65_l0.run F) [2, 4, 7, 8, 9] K m.succ (Env.mk 61 [(2, .int .i64 q), (4, .eptr [.int .i64 p, .int .i64 s]), (7, .ns z 2 l), (8, .vs 2 u 2 n), (9, .int .i64 (j : Int))]) ⟨[a, b, .vec u es], []⟩ : Ans) =
 branch (.bool (decide ((↑j : Int) < (↑l.length : Int))))
 (branch (.bool (decide ((↑n : Int) < q)))
 (branch (.bool (inR l (↑j : Int)))
 (branch (.bool ((LD.one (LT.int IntKind.i64)).is (List.drop 0 (V.rowAt l (↑j : Int)))))
 (branch (.bool (decide (hdI (List.drop 0 (V.rowAt l (↑j : Int))) > p)))
 (branch (.bool (inR l (↑j : Int)))
 (branch (.bool ((LD.agg [LT.int IntKind.i64, LT.int IntKind.i64]).is (V.rowAt l (↑j : Int))))
 (branch (.bool (u.beq u && (inC es 0 (mulN n 2) && apOk (n + 1) 16)))
 (loopRun (f65_l0.run F) [2, 4, 7, 8, 9] K m
 (Env.mk 61
 [(2, .int .i64 q),
 (4, AV.eptr [.int .i64 p, .int .i64 s]),
 (7, AV.ns z 2 l),
 (8, AV.vs 2 (u + 1) 2 (n + 1)),
 (9, .int .i64 (IntKind.i64.wrap ((↑j : Int) + 1)))])
 (St.mk
 [a, b,
 Ob.vec (u + 1)
 (catC es (mulN n 2)
 [[.int .i64 (hdI (V.rowAt l (↑j : Int))),
 .int .i64 (hdI (V.rowAt l (↑j : Int)).tail)]])]
 []))
 none)
 none)
 none)
 (branch (.bool (inR l (↑j : Int)))
 (branch (.bool ((LD.one (LT.int IntKind.i64)).is (List.drop 0 (V.rowAt l (↑j : Int)))))
 (branch (.bool (hdI (List.drop 0 (V.rowAt l (↑j : Int))) == p))
 (branch (.bool (inR l (↑j : Int)))
 (branch (.bool ((LD.one (LT.int IntKind.i64)).is (List.drop 1 (V.rowAt l (↑j : Int)))))
 (branch (.bool (decide (hdI (List.drop 1 (V.rowAt l (↑j : Int))) > s)))
 (branch (.bool (inR l (↑j : Int)))
 (branch (.bool ((LD.agg [LT.int IntKind.i64, LT.int IntKind.i64]).is (V.rowAt l (↑j : Int))))
 (branch
 (AV.bool
 (u.beq u && (inC es 0 (mulN n 2) && apOk (n + 1) 16)))
 (loopRun (f65_l0.run F) [2, 4, 7, 8, 9] K m
 (Env.mk 61
 [(2, .int .i64 q),
 (4, AV.eptr [.int .i64 p, .int .i64 s]),
 (7, AV.ns z 2 l),
 (8, AV.vs 2 (u + 1) 2 (n + 1)),
 (9, .int .i64 (IntKind.i64.wrap ((↑j : Int) + 1)))])
 (St.mk
 [a, b,
 Ob.vec (u + 1)
 (catC es (mulN n 2)
 [[.int .i64 (hdI (V.rowAt l (↑j : Int))),
 .int .i64 (hdI (V.rowAt l (↑j : Int)).tail)]])]
 []))
 none)
 none)
 none)
 (loopRun (f65_l0.run F) [2, 4, 7, 8, 9] K m
 (Env.mk 61
 [(2, .int .i64 q),
 (4, AV.eptr [.int .i64 p, .int .i64 s]),
 (7, AV.ns z 2 l), (8, AV.vs 2 u 2 n),
 (9, .int .i64 (IntKind.i64.wrap ((↑j : Int) + 1)))])
 (St.mk [a, b, Ob.vec u es] [])))
 none)
 none)
 (loopRun (f65_l0.run F) [2, 4, 7, 8, 9] K m
 (Env.mk 61
 [(2, .int .i64 q),
 (4, AV.eptr [.int .i64 p, .int .i64 s]),
 (7, AV.ns z 2 l), (8, AV.vs 2 u 2 n),
 (9, .int .i64 (IntKind.i64.wrap ((↑j : Int) + 1)))])
 (St.mk [a, b, Ob.vec u es] [])))
 none)
 none))
 none)
 none)
 (K (AX.exit 0) (Env.mk 61 [(8, AV.vs 2 u 2 n)])
 (St.mk [a, b, Ob.vec u es] [])))
 (K (AX.exit 0) (Env.mk 61 [(8, AV.vs 2 u 2 n)])
 (St.mk [a, b, Ob.vec u es] [])) := by kernel_rfl
theorem kaft_e0 (F : Nat) (os : List Ob) :
 ((Cont.block 0 (Cont.then (f65_r0.run F (f65.leaveK Fun.done)) (f65.leaveK Fun.done))) (.exit 0) (Env.mk 61 [(8, .sl 2 true [])]) ⟨os, []⟩ : Ans) =
 some (Fin.ret (AV.sl 2 true []), St.mk os []) := by kernel_rfl
theorem kaft_e1 (F u n : Nat) (a b : Ob) (es : List AV) :
 ((Cont.block 0 (Cont.then (f65_r0.run F (f65.leaveK Fun.done)) (f65.leaveK Fun.done))) (.exit 0) (Env.mk 61 [(8, .vs 2 u 2 n)]) ⟨[a, b, .vec u es], []⟩ : Ans) =
 branch (.bool (u.beq u && inC es 0 (mulN n 2)))
 (some (Fin.ret (AV.ns false 2 (rowsC 2 n es 0)), St.mk [a, b, Ob.nov (u + 1)] []))
 none := by kernel_rfl
noncomputable def Rh.after (X : Rh) (p s m : Int) : List (Nat × Nat) := (X.rids.filter (gtR p s)).take m.toNat
theorem ridsV_row {l : List (Nat × Nat)} {j : Nat} (h : j < l.length) : inR (ridsV l) (j : Int) = true ∧ V.rowAt (ridsV l) (j : Int) = [.int .i64 ((l[j]).1 : Int), .int .i64 ((l[j]).2 : Int)] := by
 have hl := ridsV_length l
 refine ⟨inR_nat (by omega), ?_⟩
 rw [rowAt_nat (by omega)]
 simp only [ridsV, opq_eq, rP, List.getElem_map]
theorem kaft_step (F : Nat) (z : Bool) (l : List (Nat × Nat)) (p s q : Int) (a b : Ob) {j : Nat} (hj : j < l.length) (hl : l.length ≤ 100000) (acc : List (Nat × Nat)) (hacc : acc.length ≤ 100000) (hq : (acc.length : Int) < q) (m : Nat) (K : Cont) :
  loopRun (f65_l0.run F) [2, 4, 7, 8, 9] K (m + 1) (Env.mk 61 [(2, .int .i64 q), (4, .eptr [.int .i64 p, .int .i64 s]), (7, .ns z 2 (ridsV l)), (8, vB acc), (9, .int .i64 (j : Int))]) ⟨[a, b] ++ oB2 acc, []⟩
   = loopRun (f65_l0.run F) [2, 4, 7, 8, 9] K m (Env.mk 61 [(2, .int .i64 q), (4, .eptr [.int .i64 p, .int .i64 s]), (7, .ns z 2 (ridsV l)), (8, vB (acc ++ if gtR p s l[j] = true then [l[j]] else [])), (9, .int .i64 ((j + 1 : Nat) : Int))]) ⟨[a, b] ++ oB2 (acc ++ if gtR p s l[j] = true then [l[j]] else []), []⟩ := by
 have hrl := ridsV_length l
 obtain ⟨r1, r2⟩ := ridsV_row hj
 have i1 : (LD.one (LT.int IntKind.i64)).is (List.drop 0 (V.rowAt (ridsV l) (j : Int))) = true := by rw [r2]; rfl
 have i2 : (LD.one (LT.int IntKind.i64)).is (List.drop 1 (V.rowAt (ridsV l) (j : Int))) = true := by rw [r2]; rfl
 have i3 : (LD.agg [LT.int IntKind.i64, LT.int IntKind.i64]).is (V.rowAt (ridsV l) (j : Int)) = true := by rw [r2]; rfl
 have h0 : hdI (List.drop 0 (V.rowAt (ridsV l) (j : Int))) = ((l[j]).1 : Int) := by rw [r2]; rfl
 have h1 : hdI (List.drop 1 (V.rowAt (ridsV l) (j : Int))) = ((l[j]).2 : Int) := by rw [r2]; rfl
 have h2 : hdI (V.rowAt (ridsV l) (j : Int)) = ((l[j]).1 : Int) := by rw [r2]; rfl
 have h3 : hdI (V.rowAt (ridsV l) (j : Int)).tail = ((l[j]).2 : Int) := by rw [r2]; rfl
 have hg := gtR_iff p s l[j]
 have w : IntKind.i64.wrap ((j : Int) + 1) = ((j + 1 : Nat) : Int) := wrap_succ (by omega)
 cases acc with
 | nil =>
  have ap : (true && apOk 1 16) = true := by rw [show apOk 1 16 = true by rw [apOk_iff]; omega]; rfl
  have e : catC (catC [] 0 []) (mulN 0 2) [[AV.int IntKind.i64 ((l[j]).1 : Int), AV.int IntKind.i64 ((l[j]).2 : Int)]] = rC [l[j]] := by
   rw [catC_nil]; exact catC_rC [] l[j]
  show loopRun (f65_l0.run F) [2, 4, 7, 8, 9] K m.succ (Env.mk 61 [(2, .int .i64 q), (4, .eptr [.int .i64 p, .int .i64 s]), (7, .ns z 2 (ridsV l)), (8, .sl 2 true []), (9, .int .i64 (j : Int))]) ⟨[a, b], []⟩ = _
  rw [kaft_r0, branch_of (decide_eq_true (by omega)), branch_of (show decide ((0 : Int) < q) = true from decide_eq_true hq), branch_of r1, branch_of i1, h0]
  by_cases c1 : ((l[j]).1 : Int) > p
  ·rw [branch_of (decide_eq_true c1), branch_of r1, branch_of i3, branch_of ap, h2, h3, e, w, if_pos (hg.mpr (.inl (by omega)))]; rfl
  ·rw [branch_not (decide_eq_false c1), branch_of r1, branch_of i1]
   by_cases c2 : ((l[j]).1 : Int) = p
   ·rw [branch_of (by rw [c2]; exact beq_self_eq_true _), branch_of r1, branch_of i2, h1]
    by_cases c3 : ((l[j]).2 : Int) > s
    ·rw [branch_of (decide_eq_true c3), branch_of r1, branch_of i3, branch_of ap, h2, h3, e, w, if_pos (hg.mpr (.inr (by omega)))]; rfl
    ·rw [branch_not (decide_eq_false c3), w, if_neg (fun h => by have := hg.mp h; omega)]; rfl
   ·rw [branch_not (by rw [beq_eq_false_iff_ne]; exact c2), w, if_neg (fun h => by have := hg.mp h; omega)]; rfl
 | cons x t =>
  simp only [List.length_cons] at hacc hq
  have hin : inC (rC (x :: t)) 0 (mulN (t.length + 1) 2) = true := inC_rC (x :: t)
  have ap : (t.length.beq t.length && (inC (rC (x :: t)) 0 (mulN (t.length + 1) 2) && apOk (t.length + 1 + 1) 16)) = true := by rw [Nat.beq_refl, hin, show apOk (t.length + 1 + 1) 16 = true by rw [apOk_iff]; omega]; rfl
  have e : catC (rC (x :: t)) (mulN (t.length + 1) 2) [[AV.int IntKind.i64 ((l[j]).1 : Int), AV.int IntKind.i64 ((l[j]).2 : Int)]] = rC (x :: t ++ [l[j]]) := catC_rC (x :: t) l[j]
  have e2 : t.length + 1 = (t ++ [l[j]]).length := by simp
  show loopRun (f65_l0.run F) [2, 4, 7, 8, 9] K m.succ (Env.mk 61 [(2, .int .i64 q), (4, .eptr [.int .i64 p, .int .i64 s]), (7, .ns z 2 (ridsV l)), (8, .vs 2 t.length 2 (t.length + 1)), (9, .int .i64 (j : Int))]) ⟨[a, b, .vec t.length (rC (x :: t))], []⟩ = _
  rw [kaft_r1, branch_of (decide_eq_true (by omega)), branch_of (decide_eq_true (by omega)), branch_of r1, branch_of i1, h0]
  by_cases c1 : ((l[j]).1 : Int) > p
  ·rw [branch_of (decide_eq_true c1), branch_of r1, branch_of i3, branch_of ap, h2, h3, e, w, if_pos (hg.mpr (.inl (by omega))), e2]; rfl
  ·rw [branch_not (decide_eq_false c1), branch_of r1, branch_of i1]
   by_cases c2 : ((l[j]).1 : Int) = p
   ·rw [branch_of (by rw [c2]; exact beq_self_eq_true _), branch_of r1, branch_of i2, h1]
    by_cases c3 : ((l[j]).2 : Int) > s
    ·rw [branch_of (decide_eq_true c3), branch_of r1, branch_of i3, branch_of ap, h2, h3, e, w, if_pos (hg.mpr (.inr (by omega))), e2]; rfl
    ·rw [branch_not (decide_eq_false c3), w, if_neg (fun h => by have := hg.mp h; omega), List.append_nil]; rfl
   ·rw [branch_not (by rw [beq_eq_false_iff_ne]; exact c2), w, if_neg (fun h => by have := hg.mp h; omega), List.append_nil]; rfl
theorem kaft_loop (F : Nat) (z : Bool) (l : List (Nat × Nat)) (p s q : Int) (a b : Ob) (hl : l.length ≤ 76500) : ∀ (d j m : Nat) (acc : List (Nat × Nat)), j + d = l.length → d < m → acc.length ≤ j → ∀ K,
  loopRun (f65_l0.run F) [2, 4, 7, 8, 9] K m (Env.mk 61 [(2, .int .i64 q), (4, .eptr [.int .i64 p, .int .i64 s]), (7, .ns z 2 (ridsV l)), (8, vB acc), (9, .int .i64 (j : Int))]) ⟨[a, b] ++ oB2 acc, []⟩
   = K (.exit 0) (Env.mk 61 [(8, vB (acc ++ ((l.drop j).filter (gtR p s)).take (q.toNat - acc.length)))]) ⟨[a, b] ++ oB2 (acc ++ ((l.drop j).filter (gtR p s)).take (q.toNat - acc.length)), []⟩
 | d, j, 0, acc, _, h, _, K => by omega
 | 0, j, m + 1, acc, hj, _, _, K => by
  have hrl := ridsV_length l
  rw [List.drop_eq_nil_of_le (by omega), List.filter_nil, List.take_nil, List.append_nil]
  cases acc with
  | nil =>
   show loopRun (f65_l0.run F) [2, 4, 7, 8, 9] K m.succ (Env.mk 61 [(2, .int .i64 q), (4, .eptr [.int .i64 p, .int .i64 s]), (7, .ns z 2 (ridsV l)), (8, .sl 2 true []), (9, .int .i64 (j : Int))]) ⟨[a, b], []⟩ = _
   rw [kaft_r0, branch_not (decide_eq_false (by omega))]; rfl
  | cons x t =>
   show loopRun (f65_l0.run F) [2, 4, 7, 8, 9] K m.succ (Env.mk 61 [(2, .int .i64 q), (4, .eptr [.int .i64 p, .int .i64 s]), (7, .ns z 2 (ridsV l)), (8, .vs 2 t.length 2 (t.length + 1)), (9, .int .i64 (j : Int))]) ⟨[a, b, .vec t.length (rC (x :: t))], []⟩ = _
   rw [kaft_r1, branch_not (decide_eq_false (by omega))]; rfl
 | d + 1, j, m + 1, acc, hj, hm, hacc, K => by
  have hrl := ridsV_length l
  have hlt : j < l.length := by omega
  by_cases hq : (acc.length : Int) < q
  ·rw [kaft_step F z l p s q a b hlt (by omega) acc (by omega) hq m K, kaft_loop F z l p s q a b hl d (j + 1) m _ (by omega) (by omega) (by rw [List.length_append]; split <;> simp <;> omega) K]
   have e : acc ++ (if gtR p s l[j] = true then [l[j]] else []) ++ ((l.drop (j + 1)).filter (gtR p s)).take (q.toNat - (acc ++ (if gtR p s l[j] = true then [l[j]] else [])).length) = acc ++ ((l.drop j).filter (gtR p s)).take (q.toNat - acc.length) := by
    rw [List.drop_eq_getElem_cons hlt]
    cases hg : gtR p s l[j] with
    | true =>
     rw [if_pos rfl, List.filter_cons_of_pos hg, show q.toNat - acc.length = (q.toNat - (acc ++ [l[j]]).length) + 1 by simp; omega, List.take_succ_cons, List.append_assoc]; rfl
    | false =>
     rw [if_neg (by simp), List.append_nil, List.filter_cons_of_neg (by simp [hg])]
   rw [e]
  ·have e0 : q.toNat - acc.length = 0 := by omega
   rw [e0, List.take_zero, List.append_nil]
   cases acc with
   | nil =>
    show loopRun (f65_l0.run F) [2, 4, 7, 8, 9] K m.succ (Env.mk 61 [(2, .int .i64 q), (4, .eptr [.int .i64 p, .int .i64 s]), (7, .ns z 2 (ridsV l)), (8, .sl 2 true []), (9, .int .i64 (j : Int))]) ⟨[a, b], []⟩ = _
    rw [kaft_r0, branch_of (decide_eq_true (by omega)), branch_not (show decide ((0 : Int) < q) = false from decide_eq_false hq)]; rfl
   | cons x t =>
    simp only [List.length_cons] at hq
    show loopRun (f65_l0.run F) [2, 4, 7, 8, 9] K m.succ (Env.mk 61 [(2, .int .i64 q), (4, .eptr [.int .i64 p, .int .i64 s]), (7, .ns z 2 (ridsV l)), (8, .vs 2 t.length 2 (t.length + 1)), (9, .int .i64 (j : Int))]) ⟨[a, b, .vec t.length (rC (x :: t))], []⟩ = _
    rw [kaft_r1, branch_of (decide_eq_true (by omega)), branch_not (decide_eq_false (by omega))]; rfl
theorem ridS_len {X : Rh} (h : X.Ok) : X.rids.length ≤ 75300 := by
 have key : ∀ (l : List Sl) (i : Nat), (∀ s ∈ l, s.length ≤ 251) → (ridS l i).length ≤ 251 * l.length := by
  intro l
  induction l with
  | nil => intro i _; exact Nat.le_refl _
  | cons s t ih =>
   intro i hs
   have h1 := ih (i + 1) fun x hx => hs x (by simp [hx])
   have h2 := Nat.le_trans (slotsI_len s 0) (hs s (by simp))
   simp only [ridS, List.length_append, List.length_map, List.length_cons]
   omega
 have h1 := key X.sl_ 0 fun s hs => by
  obtain ⟨i, hi, rfl⟩ := List.getElem_of_mem hs
  rw [Rh.sl_at]; exact (Rh.at_sl h i).2.2.2
 have h2 := Rh.sl_len h
 have := h.n
 have := h.m
 rw [Rh.rids]
 omega
theorem kaft_at {X : Rh} (h : X.Ok) (p s q : Int) : ∃ F, f65.run F [.ptr 0 0, .agg [.int .i64 p, .int .i64 s], .int .i64 q] ⟨X.obs, []⟩ = some (.ret (fB (X.after p s q)), ⟨X.obs ++ xB (X.after p s q), []⟩) := by
 obtain ⟨F, hF⟩ : ∃ F : Nat, F = opq 100000 := ⟨_, rfl⟩
 have hF : F = 100000 := by rw [hF, opq_eq]
 have hl := ridS_len h
 refine ⟨F, ?_⟩
 have hO : X.obs = [rhA.ob 0 X 0, rhA.ob 0 X 1] := (rh_obl h).symm
 have := kaft_loop F false X.rids p s q (rhA.ob 0 X 0) (rhA.ob 0 X 1) (by omega) X.rids.length 0 F [] (by omega) (by omega) (Nat.le_refl _) (Cont.block 0 (Cont.then (f65_r0.run F (f65.leaveK Fun.done)) (f65.leaveK Fun.done)))
 rw [List.drop_zero, List.nil_append, List.length_nil, Nat.sub_zero] at this
 rw [hO, kaft_run, rh_Gob h, onSome_some]
 refine this.trans ?_
 show Cont.block 0 _ (.exit 0) (Env.mk 61 [(8, vB (X.after p s q))]) ⟨[rhA.ob 0 X 0, rhA.ob 0 X 1] ++ oB2 (X.after p s q), []⟩ = _
 generalize X.after p s q = L
 cases L with
 | nil => exact kaft_e0 F _
 | cons x t =>
  have hin : inC (rC (x :: t)) 0 (mulN (t.length + 1) 2) = true := inC_rC (x :: t)
  have hrw : rowsC 2 (t.length + 1) (rC (x :: t)) 0 = rP (x :: t) := rowsC_rC (x :: t)
  refine (kaft_e1 F t.length (t.length + 1) _ _ (rC (x :: t))).trans ?_
  rw [branch_of (by rw [Nat.beq_refl, hin]; rfl), hrw]; rfl
noncomputable def q65 : OrcQ Try.prog := f65.byQ
 (fun args st k => match args with
  | [x, r, m] => rhA.on x st fun j X => onRid r fun p s => onInt m fun kd m => ifT (decide (kd = .i64)) (k (.ns false 2 (ridsV (X.after p s m))))
  | _ => none)
 fun args st k fin h => by
  split at h
  ·rename_i x r m
   obtain ⟨j, X, rfl, hd, h1⟩ := ADT.on_spec h
   obtain ⟨p, s, rfl, h2⟩ := onRid_spec h1
   obtain ⟨kd, m, h3, rfl⟩ := onInt_spec h2
   obtain ⟨h4, h5⟩ := ifT_spec h3
   rw [decide_eq_true_eq] at h4
   subst h4
   refine ⟨_, h5, ?_⟩
   obtain ⟨F, hF⟩ := kaft_at hd.ok p s m
   have hn : Near 2 (frz (fB (X.after p s m))) ∧ (∀ τ, ren τ (frz (fB (X.after p s m))) = frz (fB (X.after p s m))) ∧ Wk (frz (fB (X.after p s m))) (.ns false 2 (ridsV (X.after p s m))) := by
    rw [ridsV, opq_eq]
    cases X.after p s m with
    | nil => exact ⟨trivial, fun _ => rfl, .sl⟩
    | cons p t => exact ⟨rP_scoped (p :: t), fun _ => rfl, .refl _⟩
   obtain ⟨n1, n2, n3⟩ := hn
   have := ADT.placed (A := rhA) (f := f65) (x := X) (y := X) (args0 := [.ptr 0 0, .agg [.int .i64 p, .int .i64 s], .int .i64 m]) (r := fB (X.after p s m)) (xs := xB (X.after p s m)) hF hd.ok ⟨by show 0 < 2; omega, ⟨trivial, trivial, trivial⟩, trivial, trivial⟩ n1 hd
   rw [hd.same, n2] at this
   exact CallsTo.wkR this n3
  ·cases h
theorem q65_nat : q65.NatQ := by
 intro args st k
 show (match args with | [x, r, m] => _ | _ => _) = thenA (match args with | [x, r, m] => _ | _ => _) k
 split
 ·exact ADT.on_nat fun j X => onRid_nat fun p s => onInt_nat fun _ _ => ifT_nat rfl
 ·rfl
theorem onRid_th {x : AV} {s s' : Int → Int → Ans} {k : Fin → St → Ans} (h : ∀ p q, s p q = thS (s' p q) k) : onRid x s = thS (onRid x s') k := by
 unfold onRid
 split
 ·split
  ·split
   ·exact h _ _
   ·rfl
  ·rfl
 ·rfl
theorem s13_nat : s13.NatS := by
 intro args st k
 show (match args with | [x, r] => _ | _ => _) = thS (match args with | [x, r] => _ | _ => _) k
 split
 ·exact ADT.on_th fun i X => onRid_th fun p s => rfl
 ·rfl
theorem s21_nat : s21.NatS := by
 intro args st k
 show (match args with | [x, r, y] => _ | _ => _) = thS (match args with | [x, r, y] => _ | _ => _) k
 split
 ·exact ADT.on_th fun i X => onRid_th fun p s => onNs_th fun z l => ifT_th rfl
 ·rfl
theorem s22_nat : s22.NatS := by
 intro args st k
 show (match args with | [x, r, y] => _ | _ => _) = thS (match args with | [x, r, y] => _ | _ => _) k
 split
 ·exact ADT.on_th fun i X => onRid_th fun p s => onNs_th fun z l => ifT_th rfl
 ·rfl
theorem s61_nat : s61.NatS := by
 intro args st k
 show (match args with | [x, r, y] => _ | _ => _) = thS (match args with | [x, r, y] => _ | _ => _) k
 split
 ·exact ADT.on_th fun i X => onRid_th fun p s => onNs_th fun z l => ifT_th rfl
 ·rfl
theorem s62_nat : s62.NatS := by
 intro args st k
 show (match args with | [x, r] => _ | _ => _) = thS (match args with | [x, r] => _ | _ => _) k
 split
 ·exact ADT.on_th fun i X => onRid_th fun p s => rfl
 ·rfl
theorem s63_nat : s63.NatS := by
 intro args st k
 show (match args with | [x, r, y] => _ | _ => _) = thS (match args with | [x, r, y] => _ | _ => _) k
 split
 ·exact ADT.on_th fun i X => onRid_th fun p s => onNs_th fun z l => ifT_th rfl
 ·rfl
theorem fl49_1 : fieldB Try.prog 49 1 1 1 false = true := by kernel_rfl
noncomputable def f28_b : Sim Try.prog :=
 (.seq (.live [0, 1, 5] (.region 0 [
 ⟨(opBoxF (some 5) 49 (.tmp 2) 0 "law.go:47" #[]).op, none⟩,
 ⟨(opAssign (some 6) (.const (Value.bool false)) 4 "law.go:47" #[]).op, none⟩
 ] (by kernel_rfl)))
 (.seq (.live [0, 1, 5, 7] (.region 1 [
 ⟨(opFieldAddr (some 17) 49 (.tmp 5) 3 4 1 false fl49_3 (by decide) 0 "law.go:48" #[]).op, none⟩,
 ⟨(opLoadT (.one .any) (some 18) 34 (.tmp 17) (.slice 5) Try.underlying34 1 sz34 (by kernel_rfl) 34 "law.go:48" #[eD 0]).op, none⟩,
 ⟨(opCallP p51 (some 19) [(.tmp 18)] #[34] 34 "law.go:48" #[eD 1]).op, none⟩,
 ⟨(opAssign (some 7) (.tmp 19) 34 "law.go:48" #[eD 2, eC 2, eP 0, eP 1, eP 2]).op, none⟩
 ] (by kernel_rfl)))
 (.seq (.live [0, 1, 5, 7, 8] (.region 2 [
 ⟨(opAssign (some 8) (.const (Value.bool true)) 4 "law.go:49" #[]).op, none⟩
 ] (by kernel_rfl)))
 (.seq (.seq (.live [0, 1, 5, 7, 8, 21] (.region 3 [
 ⟨(opFieldAddr (some 20) 49 (.tmp 5) 0 0 1 false fl49_0 (by decide) 0 "law.go:50" #[]).op, none⟩,
 ⟨(opLoadT (.one (.int .i64)) (some 21) 3 (.tmp 20) (.int .i64) Try.underlying3 1 sz3 (by kernel_rfl) 3 "law.go:50" #[eD 0]).op, none⟩
 ] (by kernel_rfl)))
 (.block 0 (.seq (.live [0, 1, 5, 7, 8, 21, 22] (.region 4 [
 ⟨(opBin (some 23) .eql 3 (.tmp 21) (.const (Value.int IntKind.i64 0)) 3 4 "law.go:51" #[]).op, none⟩,
 ⟨(opAssign (some 22) (.tmp 23) 4 "law.go:51" #[eD 0]).op, none⟩
 ] (by kernel_rfl)))
 (.cond (.tmp 22)
 (.seq (.live [1, 5, 7, 9, 10] (.items 5 [
 .one ((opMove (some 25) (.tmp 0) 26 "law.go:52" #[]).op),
 .one ((opMove (some 26) (.tmp 7) 34 "law.go:52" #[]).op),
 .one (opCall (s12).orc (some 27) [(.tmp 25), (.tmp 26)] #[26, 34] 32 "law.go:52" #[eD 0, eD 1]),
 .one ((opMove (some 24) (.tmp 27) 32 "law.go:52" #[eD 2]).op),
 .one ((opExtract (some 28) (.tmp 24) 0 30 "law.go:52" #[eD 3]).op),
 .one ((opExtract (some 29) (.tmp 24) 1 31 "law.go:52" #[eD 3, eX 7]).op),
 .two (op2Box 9 30 (.agg #[(.int .i64 0), (.int .i64 0)]) ze30 (.tmp 28) (by rfl) 2 sz30 (by kernel_rfl) 130 (by rfl) 0 0 "law.go:52" "law.go:52" #[] #[eD 6, eD 4, eC 2, eP 0, eP 1, eP 2, eP 3, eP 4, eT 5, eP 6]),
 .one ((opAssign (some 10) (.tmp 29) 31 "law.go:52" #[eD 5, eC 7, eP 0, eP 1, eP 2, eP 3, eP 4, eP 5, eP 6, eP 7]).op)
 ]))
 (.seq (.live [5, 7, 9, 10, 11, 12] (.items 6 [
 .one ((opMove (some 31) (.tmp 1) 56 "law.go:53" #[]).op),
 .one ((opFieldAddr (some 32) 49 (.tmp 5) 3 4 1 false fl49_3 (by decide) 0 "law.go:53" #[]).op),
 .one ((opLoadT (.one .any) (some 33) 34 (.tmp 32) (.slice 5) Try.underlying34 1 sz34 (by kernel_rfl) 34 "law.go:53" #[eD 1]).op),
 .one (opCall (s26).orc (some 34) [(.tmp 31), (.tmp 33)] #[56, 34] 32 "law.go:53" #[eD 0, eD 2]),
 .one ((opMove (some 30) (.tmp 34) 32 "law.go:53" #[eD 3]).op),
 .one ((opExtract (some 35) (.tmp 30) 0 30 "law.go:53" #[eD 4]).op),
 .one ((opExtract (some 36) (.tmp 30) 1 31 "law.go:53" #[eD 4, eX 8]).op),
 .two (op2Box 11 30 (.agg #[(.int .i64 0), (.int .i64 0)]) ze30 (.tmp 35) (by rfl) 2 sz30 (by kernel_rfl) 130 (by rfl) 0 0 "law.go:53" "law.go:53" #[] #[eD 7, eD 5, eC 3, eP 0, eP 1, eP 2, eP 3, eP 4, eP 5, eT 6, eP 7]),
 .one ((opAssign (some 12) (.tmp 36) 31 "law.go:53" #[eD 6, eC 8, eP 0, eP 1, eP 2, eP 3, eP 4, eP 5, eP 6, eP 7, eP 8]).op)
 ]))
 (.live [5, 7, 8] (.region 7 [
 ⟨(opLoadT (.agg [(.int .i64), (.int .i64)]) (some 37) 30 (.tmp 9) d30 ud30 2 sz30 (by kernel_rfl) 30 "law.go:54" #[]).op, none⟩,
 ⟨(opLoadT (.agg [(.int .i64), (.int .i64)]) (some 38) 30 (.tmp 11) d30 ud30 2 sz30 (by kernel_rfl) 30 "law.go:54" #[]).op, none⟩,
 ⟨(opEqS (some 39) 30 [(0, 0), (1, 0)] eq30 (.tmp 37) (.tmp 38) 30 4 "law.go:54" #[eD 0, eD 1]).op, none⟩,
 ⟨(opMove (some 40) (.tmp 39) 4 "law.go:54" #[eD 2]).op, none⟩,
 ⟨(opMove (some 41) (.tmp 10) 31 "law.go:54" #[eG 3]).op, (some (3, 40, true))⟩,
 ⟨(opMove (some 42) (.tmp 12) 31 "law.go:54" #[eG 3]).op, (some (3, 40, true))⟩,
 ⟨(opBin (some 43) .eql 31 (.tmp 41) (.tmp 42) 31 4 "law.go:54" #[eD 4, eD 5, eG 3]).op, (some (3, 40, true))⟩,
 ⟨(opPick (some 44) (.tmp 40) (.tmp 43) (.const (Value.bool false)) 4 "law.go:54" #[eD 3, eD 6]).op, none⟩,
 ⟨(opAssign (some 8) (.tmp 44) 4 "law.go:54" #[eD 7, eC 3, eP 0, eP 1, eP 2, eP 3, eP 4, eP 5, eP 6, eP 7]).op, none⟩
 ] (by kernel_rfl)))))
 (.seq (.live [0, 1, 5, 7, 8, 21, 45] (.region 8 [
 ⟨(opBin (some 46) .eql 3 (.tmp 21) (.const (Value.int IntKind.i64 1)) 3 4 "law.go:55" #[]).op, none⟩,
 ⟨(opAssign (some 45) (.tmp 46) 4 "law.go:55" #[eD 0]).op, none⟩
 ] (by kernel_rfl)))
 (.cond (.tmp 45)
 (.live [5, 7, 8] (.draw 9 [
 ⟨.p (opMove (some 47) (.tmp 0) 26 "law.go:56" #[]), none⟩,
 ⟨.pn (opFieldAddr (some 48) 49 (.tmp 5) 2 2 2 true fl49_2 (by decide) 0 "law.go:56" #[]) opFieldAddr_nat, none⟩,
 ⟨.qn (opLoadT (.agg [(.int .i64), (.int .i64)]) (some 49) 30 (.tmp 48) d30 ud30 2 sz30 (by kernel_rfl) 30 "law.go:56" #[eD 1]) opLoadT_nat, none⟩,
 ⟨.p (opMove (some 50) (.tmp 7) 34 "law.go:56" #[]), none⟩,
 ⟨.mn (opCallM (s21) (some 51) [(.tmp 47), (.tmp 49), (.tmp 50)] #[26, 30, 34] 31 "law.go:56" #[eD 0, eD 2, eD 3]) (opCallM_nat s21_nat), none⟩,
 ⟨.p (opMove (some 52) (.tmp 1) 56 "law.go:56" #[]), none⟩,
 ⟨.pn (opFieldAddr (some 53) 49 (.tmp 5) 2 2 2 true fl49_2 (by decide) 0 "law.go:56" #[]) opFieldAddr_nat, none⟩,
 ⟨.pn (opLoadTF (.agg [(.int .i64), (.int .i64)]) (some 54) 30 (.tmp 53) d30 ud30 2 sz30 (by kernel_rfl) 30 "law.go:56" #[eD 6]) opLoadTF_nat, none⟩,
 ⟨.pn (opFieldAddr (some 55) 49 (.tmp 5) 3 4 1 false fl49_3 (by decide) 0 "law.go:56" #[]) opFieldAddr_nat, none⟩,
 ⟨.pn (opLoadTF (.one .any) (some 56) 34 (.tmp 55) (.slice 5) Try.underlying34 1 sz34 (by kernel_rfl) 34 "law.go:56" #[eD 8]) opLoadTF_nat, none⟩,
 ⟨.mn (opCallM (s61) (some 57) [(.tmp 52), (.tmp 54), (.tmp 56)] #[56, 30, 34] 31 "law.go:56" #[eD 5, eD 7, eD 9, eC 4]) (opCallM_nat s61_nat), none⟩,
 ⟨.pn (opBin (some 58) .eql 31 (.tmp 51) (.tmp 57) 31 4 "law.go:56" #[eD 4, eD 10]) opBin_nat, none⟩,
 ⟨.p (opAssign (some 8) (.tmp 58) 4 "law.go:56" #[eD 11, eC 10, eP 0, eP 1, eP 2, eP 3, eP 4, eP 5, eP 6, eP 7, eP 8, eP 9, eP 10, eP 11]), none⟩
 ] mixed (by kernel_rfl)))
 (.seq (.live [0, 1, 5, 7, 8, 21, 59] (.region 10 [
 ⟨(opBin (some 60) .eql 3 (.tmp 21) (.const (Value.int IntKind.i64 2)) 3 4 "law.go:57" #[]).op, none⟩,
 ⟨(opAssign (some 59) (.tmp 60) 4 "law.go:57" #[eD 0]).op, none⟩
 ] (by kernel_rfl)))
 (.cond (.tmp 59)
 (.live [5, 7, 8] (.draw 11 [
 ⟨.p (opMove (some 61) (.tmp 0) 26 "law.go:58" #[]), none⟩,
 ⟨.pn (opFieldAddr (some 62) 49 (.tmp 5) 2 2 2 true fl49_2 (by decide) 0 "law.go:58" #[]) opFieldAddr_nat, none⟩,
 ⟨.qn (opLoadT (.agg [(.int .i64), (.int .i64)]) (some 63) 30 (.tmp 62) d30 ud30 2 sz30 (by kernel_rfl) 30 "law.go:58" #[eD 1]) opLoadT_nat, none⟩,
 ⟨.mn (opCallM (s13) (some 64) [(.tmp 61), (.tmp 63)] #[26, 30] 31 "law.go:58" #[eD 0, eD 2]) (opCallM_nat s13_nat), none⟩,
 ⟨.p (opMove (some 65) (.tmp 1) 56 "law.go:58" #[]), none⟩,
 ⟨.pn (opFieldAddr (some 66) 49 (.tmp 5) 2 2 2 true fl49_2 (by decide) 0 "law.go:58" #[]) opFieldAddr_nat, none⟩,
 ⟨.pn (opLoadTF (.agg [(.int .i64), (.int .i64)]) (some 67) 30 (.tmp 66) d30 ud30 2 sz30 (by kernel_rfl) 30 "law.go:58" #[eD 5]) opLoadTF_nat, none⟩,
 ⟨.mn (opCallM (s62) (some 68) [(.tmp 65), (.tmp 67)] #[56, 30] 31 "law.go:58" #[eD 4, eD 6, eC 3]) (opCallM_nat s62_nat), none⟩,
 ⟨.pn (opBin (some 69) .eql 31 (.tmp 64) (.tmp 68) 31 4 "law.go:58" #[eD 3, eD 7]) opBin_nat, none⟩,
 ⟨.p (opAssign (some 8) (.tmp 69) 4 "law.go:58" #[eD 8, eC 7, eP 0, eP 1, eP 2, eP 3, eP 4, eP 5, eP 6, eP 7, eP 8]), none⟩
 ] mixed (by kernel_rfl)))
 (.seq (.live [0, 1, 5, 7, 8, 21, 70] (.region 12 [
 ⟨(opBin (some 71) .eql 3 (.tmp 21) (.const (Value.int IntKind.i64 3)) 3 4 "law.go:59" #[]).op, none⟩,
 ⟨(opAssign (some 70) (.tmp 71) 4 "law.go:59" #[eD 0]).op, none⟩
 ] (by kernel_rfl)))
 (.cond (.tmp 70)
 (.live [5, 7, 8] (.draw 13 [
 ⟨.p (opMove (some 72) (.tmp 0) 26 "law.go:60" #[]), none⟩,
 ⟨.pn (opFieldAddr (some 73) 49 (.tmp 5) 2 2 2 true fl49_2 (by decide) 0 "law.go:60" #[]) opFieldAddr_nat, none⟩,
 ⟨.qn (opLoadT (.agg [(.int .i64), (.int .i64)]) (some 74) 30 (.tmp 73) d30 ud30 2 sz30 (by kernel_rfl) 30 "law.go:60" #[eD 1]) opLoadT_nat, none⟩,
 ⟨.p (opMove (some 75) (.tmp 7) 34 "law.go:60" #[]), none⟩,
 ⟨.mn (opCallM (s22) (some 76) [(.tmp 72), (.tmp 74), (.tmp 75)] #[26, 30, 34] 31 "law.go:60" #[eD 0, eD 2, eD 3]) (opCallM_nat s22_nat), none⟩,
 ⟨.p (opMove (some 77) (.tmp 1) 56 "law.go:60" #[]), none⟩,
 ⟨.pn (opFieldAddr (some 78) 49 (.tmp 5) 2 2 2 true fl49_2 (by decide) 0 "law.go:60" #[]) opFieldAddr_nat, none⟩,
 ⟨.pn (opLoadTF (.agg [(.int .i64), (.int .i64)]) (some 79) 30 (.tmp 78) d30 ud30 2 sz30 (by kernel_rfl) 30 "law.go:60" #[eD 6]) opLoadTF_nat, none⟩,
 ⟨.pn (opFieldAddr (some 80) 49 (.tmp 5) 3 4 1 false fl49_3 (by decide) 0 "law.go:60" #[]) opFieldAddr_nat, none⟩,
 ⟨.pn (opLoadTF (.one .any) (some 81) 34 (.tmp 80) (.slice 5) Try.underlying34 1 sz34 (by kernel_rfl) 34 "law.go:60" #[eD 8]) opLoadTF_nat, none⟩,
 ⟨.mn (opCallM (s63) (some 82) [(.tmp 77), (.tmp 79), (.tmp 81)] #[56, 30, 34] 31 "law.go:60" #[eD 5, eD 7, eD 9, eC 4]) (opCallM_nat s63_nat), none⟩,
 ⟨.pn (opBin (some 83) .eql 31 (.tmp 76) (.tmp 82) 31 4 "law.go:60" #[eD 4, eD 10]) opBin_nat, none⟩,
 ⟨.p (opAssign (some 8) (.tmp 83) 4 "law.go:60" #[eD 11, eC 10, eP 0, eP 1, eP 2, eP 3, eP 4, eP 5, eP 6, eP 7, eP 8, eP 9, eP 10, eP 11]), none⟩
 ] mixed (by kernel_rfl)))
 (.seq (.live [0, 1, 5, 7, 8, 21, 84] (.region 14 [
 ⟨(opBin (some 85) .eql 3 (.tmp 21) (.const (Value.int IntKind.i64 4)) 3 4 "law.go:61" #[]).op, none⟩,
 ⟨(opAssign (some 84) (.tmp 85) 4 "law.go:61" #[eD 0]).op, none⟩
 ] (by kernel_rfl)))
 (.cond (.tmp 84)
 (.seq (.live [1, 5, 7, 13, 14] (.region 15 [
 ⟨(opMove (some 87) (.tmp 0) 26 "law.go:62" #[]).op, none⟩,
 ⟨(opFieldAddr (some 88) 49 (.tmp 5) 2 2 2 true fl49_2 (by decide) 0 "law.go:62" #[]).op, none⟩,
 ⟨(opLoadT (.agg [(.int .i64), (.int .i64)]) (some 89) 30 (.tmp 88) d30 ud30 2 sz30 (by kernel_rfl) 30 "law.go:62" #[eD 1]).op, none⟩,
 ⟨(opCallQ q14 (some 90) [(.tmp 87), (.tmp 89)] #[26, 30] 37 "law.go:62" #[eD 0, eD 2]).op, none⟩,
 ⟨(opMove (some 86) (.tmp 90) 37 "law.go:62" #[eD 3]).op, none⟩,
 ⟨(opExtract (some 91) (.tmp 86) 0 34 "law.go:62" #[eD 4]).op, none⟩,
 ⟨(opExtract (some 92) (.tmp 86) 1 4 "law.go:62" #[eD 4, eX 7]).op, none⟩,
 ⟨(opAssign (some 13) (.tmp 91) 34 "law.go:62" #[eD 5, eC 3, eP 0, eP 1, eP 2, eP 3, eP 4, eP 5, eT 6]).op, none⟩,
 ⟨(opAssign (some 14) (.tmp 92) 4 "law.go:62" #[eD 6, eC 7, eP 0, eP 1, eP 2, eP 3, eP 4, eP 5, eP 6, eP 7]).op, none⟩
 ] (by kernel_rfl)))
 (.seq (.live [5, 7, 13, 14, 15, 16] (.region 16 [
 ⟨(opMove (some 94) (.tmp 1) 56 "law.go:63" #[]).op, none⟩,
 ⟨(opFieldAddr (some 95) 49 (.tmp 5) 2 2 2 true fl49_2 (by decide) 0 "law.go:63" #[]).op, none⟩,
 ⟨(opLoadT (.agg [(.int .i64), (.int .i64)]) (some 96) 30 (.tmp 95) d30 ud30 2 sz30 (by kernel_rfl) 30 "law.go:63" #[eD 1]).op, none⟩,
 ⟨(opCallQ q64 (some 97) [(.tmp 94), (.tmp 96)] #[56, 30] 37 "law.go:63" #[eD 0, eD 2]).op, none⟩,
 ⟨(opMove (some 93) (.tmp 97) 37 "law.go:63" #[eD 3]).op, none⟩,
 ⟨(opExtract (some 98) (.tmp 93) 0 34 "law.go:63" #[eD 4]).op, none⟩,
 ⟨(opExtract (some 99) (.tmp 93) 1 4 "law.go:63" #[eD 4, eX 7]).op, none⟩,
 ⟨(opAssign (some 15) (.tmp 98) 34 "law.go:63" #[eD 5, eC 3, eP 0, eP 1, eP 2, eP 3, eP 4, eP 5, eT 6]).op, none⟩,
 ⟨(opAssign (some 16) (.tmp 99) 4 "law.go:63" #[eD 6, eC 7, eP 0, eP 1, eP 2, eP 3, eP 4, eP 5, eP 6, eP 7]).op, none⟩
 ] (by kernel_rfl)))
 (.live [5, 7, 8] (.region 17 [
 ⟨(opMove (some 100) (.tmp 13) 34 "law.go:64" #[]).op, none⟩,
 ⟨(opMove (some 101) (.tmp 15) 34 "law.go:64" #[]).op, none⟩,
 ⟨(opCallP p15 (some 102) [(.tmp 100), (.tmp 101)] #[34, 34] 4 "law.go:64" #[eD 0, eD 1]).op, none⟩,
 ⟨(opMove (some 103) (.tmp 102) 4 "law.go:64" #[eD 2, eC 2]).op, none⟩,
 ⟨(opMove (some 104) (.tmp 14) 4 "law.go:64" #[eG 3]).op, (some (3, 103, true))⟩,
 ⟨(opMove (some 105) (.tmp 16) 4 "law.go:64" #[eG 3]).op, (some (3, 103, true))⟩,
 ⟨(opEq (some 106) 4 .bool Try.underlying4 (.tmp 104) (.tmp 105) (.inr rfl) 4 4 "law.go:64" #[eD 4, eD 5, eG 3]).op, (some (3, 103, true))⟩,
 ⟨(opPick (some 107) (.tmp 103) (.tmp 106) (.const (Value.bool false)) 4 "law.go:64" #[eD 3, eD 6]).op, none⟩,
 ⟨(opAssign (some 8) (.tmp 107) 4 "law.go:64" #[eD 7, eC 3, eP 0, eP 1, eP 2, eP 3, eP 4, eP 5, eP 6, eP 7]).op, none⟩
 ] (by kernel_rfl)))))
 (.seq (.live [0, 1, 5, 7, 8, 108] (.region 18 [
 ⟨(opBin (some 109) .eql 3 (.tmp 21) (.const (Value.int IntKind.i64 5)) 3 4 "law.go:65" #[]).op, none⟩,
 ⟨(opAssign (some 108) (.tmp 109) 4 "law.go:65" #[eD 0]).op, none⟩
 ] (by kernel_rfl)))
 (.cond (.tmp 108)
 (.live [5, 7, 8] (.draw 19 [
 ⟨.p (opMove (some 110) (.tmp 0) 26 "law.go:66" #[]), none⟩,
 ⟨.pn (opFieldAddr (some 111) 49 (.tmp 5) 2 2 2 true fl49_2 (by decide) 0 "law.go:66" #[]) opFieldAddr_nat, none⟩,
 ⟨.qn (opLoadT (.agg [(.int .i64), (.int .i64)]) (some 112) 30 (.tmp 111) d30 ud30 2 sz30 (by kernel_rfl) 30 "law.go:66" #[eD 1]) opLoadT_nat, none⟩,
 ⟨.pn (opFieldAddr (some 113) 49 (.tmp 5) 1 1 1 false fl49_1 (by decide) 0 "law.go:66" #[]) opFieldAddr_nat, none⟩,
 ⟨.qn (opLoadT (.one (.int .i64)) (some 114) 3 (.tmp 113) (.int .i64) Try.underlying3 1 sz3 (by kernel_rfl) 3 "law.go:66" #[eD 3]) opLoadT_nat, none⟩,
 ⟨.qn (opCallQ q31 (some 115) [(.tmp 110), (.tmp 112), (.tmp 114)] #[26, 30, 3] 40 "law.go:66" #[eD 0, eD 2, eD 4]) (opCallQ_nat q31_nat), none⟩,
 ⟨.p (opMove (some 116) (.tmp 1) 56 "law.go:66" #[]), none⟩,
 ⟨.pn (opFieldAddr (some 117) 49 (.tmp 5) 2 2 2 true fl49_2 (by decide) 0 "law.go:66" #[]) opFieldAddr_nat, none⟩,
 ⟨.qn (opLoadT (.agg [(.int .i64), (.int .i64)]) (some 118) 30 (.tmp 117) d30 ud30 2 sz30 (by kernel_rfl) 30 "law.go:66" #[eD 7]) opLoadT_nat, none⟩,
 ⟨.pn (opFieldAddr (some 119) 49 (.tmp 5) 1 1 1 false fl49_1 (by decide) 0 "law.go:66" #[]) opFieldAddr_nat, none⟩,
 ⟨.qn (opLoadT (.one (.int .i64)) (some 120) 3 (.tmp 119) (.int .i64) Try.underlying3 1 sz3 (by kernel_rfl) 3 "law.go:66" #[eD 9]) opLoadT_nat, none⟩,
 ⟨.qn (opCallQ q65 (some 121) [(.tmp 116), (.tmp 118), (.tmp 120)] #[56, 30, 3] 40 "law.go:66" #[eD 6, eD 8, eD 10, eC 5]) (opCallQ_nat q65_nat), none⟩,
 ⟨.pn (opCallP p29 (some 122) [(.tmp 115), (.tmp 121)] #[40, 40] 4 "law.go:66" #[eD 5, eD 11, eC 11]) (opCallP_nat p29_nat), none⟩,
 ⟨.p (opAssign (some 8) (.tmp 122) 4 "law.go:66" #[eD 12, eC 12, eP 0, eP 1, eP 2, eP 3, eP 4, eP 5, eP 6, eP 7, eP 8, eP 9, eP 10, eP 11, eP 12]), none⟩
 ] mixed (by kernel_rfl)))
 .skip))))))))))))))
 (.seq (.live [6] (.region 20 [
 ⟨(opMove (some 123) (.tmp 8) 4 "law.go:68" #[]).op, none⟩,
 ⟨(opMove (some 124) (.tmp 123) 4 "law.go:68" #[eD 0]).op, none⟩,
 ⟨(opMove (some 125) (.tmp 7) 34 "law.go:68" #[eG 1]).op, (some (1, 124, true))⟩,
 ⟨(opFieldAddr (some 126) 49 (.tmp 5) 3 4 1 false fl49_3 (by decide) 0 "law.go:68" #[eG 1]).op, (some (1, 124, true))⟩,
 ⟨(opLoadT (.one .any) (some 127) 34 (.tmp 126) (.slice 5) Try.underlying34 1 sz34 (by kernel_rfl) 34 "law.go:68" #[eD 3, eG 1]).op, (some (1, 124, true))⟩,
 ⟨(opCallP p15 (some 128) [(.tmp 125), (.tmp 127)] #[34, 34] 4 "law.go:68" #[eD 2, eD 4, eC 1, eG 1]).op, (some (1, 124, true))⟩,
 ⟨(opPick (some 129) (.tmp 124) (.tmp 128) (.const (Value.bool false)) 4 "law.go:68" #[eD 1, eD 5]).op, none⟩,
 ⟨(opAssign (some 6) (.tmp 129) 4 "law.go:68" #[eD 6, eC 5, eP 0, eP 1, eP 2, eP 3, eP 4, eP 5, eP 6]).op, none⟩
 ] (by kernel_rfl)))
 (.live [6] .ret))))))
noncomputable def f28 : Fun Try.prog where
 id := 28
 fn := Try.f28
 hf := Try.func28
 hname := by kernel_rfl
 body := f28_b
 hbody := by kernel_rfl
 res := [rTmp 6]
 hres := by kernel_rfl
 n := 130
 hn := by kernel_rfl
theorem told_run (F : Nat) (w c p s : Int) (y : Bool) (b : List (List AV)) (X : Hp) (R : Rh) :
 (f28.run F [.ptr 0 0, .ptr 3 0, .agg [.int .i64 w, .int .i64 c, .int .i64 p, .int .i64 s, .ns y 1 b]] ⟨[hpA.ob 0 X 0, hpA.ob 0 X 1, hpA.ob 0 X 2, rhA.ob 3 R 0, rhA.ob 3 R 1], []⟩ : Ans) =
 branch (.bool (byOk b && apOk b.length 1))
 (branch (.bool (w == 0))
 (onSome (hpA.G 0 [hpA.ob 0 X 0, hpA.ob 0 X 1, hpA.ob 0 X 2])
 none fun (o : Hp) =>
 branch (.bool (byOk b))
 (onSome (rhA.G 3 [rhA.ob 3 R 0, rhA.ob 3 R 1]) none fun (o_1 : Rh) =>
 branch (.bool (byOk b))
 (branch (.bool (o.addR (nR b) == o_1.addR (nR b) && (o.addS (nR b) == o_1.addS (nR b) && true)))
 (branch (.bool (o.addE (nR b) == o_1.addE (nR b)))
 (branch (.bool (byOk b && byOk b))
 (some
 (Fin.ret (.bool (nR b == nR b)),
 St.mk
 [hpA.ob 0 (o.addO (nR b)) 0, hpA.ob 0 (o.addO (nR b)) 1,
 hpA.ob 0 (o.addO (nR b)) 2, rhA.ob 3 (opq (o_1.add (nR b))) 0,
 rhA.ob 3 (opq (o_1.add (nR b))) 1]
 []))
 none)
 (some
 (Fin.ret (.bool false),
 St.mk
 [hpA.ob 0 (o.addO (nR b)) 0, hpA.ob 0 (o.addO (nR b)) 1,
 hpA.ob 0 (o.addO (nR b)) 2, rhA.ob 3 (opq (o_1.add (nR b))) 0,
 rhA.ob 3 (opq (o_1.add (nR b))) 1]
 [])))
 (some
 (Fin.ret (.bool false),
 St.mk
 [hpA.ob 0 (o.addO (nR b)) 0, hpA.ob 0 (o.addO (nR b)) 1,
 hpA.ob 0 (o.addO (nR b)) 2, rhA.ob 3 (opq (o_1.add (nR b))) 0,
 rhA.ob 3 (opq (o_1.add (nR b))) 1]
 [])))
 none)
 none)
 (branch (.bool (w == 1))
 (onSome
 (hpA.G 0 [hpA.ob 0 X 0, hpA.ob 0 X 1, hpA.ob 0 X 2])
 none fun (o : Hp) =>
 branch (.bool (byOk b && apOk b.length 1))
 (onSome (rhA.G 3 [rhA.ob 3 R 0, rhA.ob 3 R 1]) none fun (o_1 : Rh) =>
 branch (.bool (byOk b && cdec (b.length ≤ 1000000)))
 (branch (.bool (o.putE p s (nR b) == o_1.putE p s (nR b)))
 (branch (.bool (byOk b && byOk b))
 (some
 (Fin.ret (.bool (nR b == nR b)),
 St.mk
 [hpA.ob 0 (o.putO p s (nR b)) 0, hpA.ob 0 (o.putO p s (nR b)) 1,
 hpA.ob 0 (o.putO p s (nR b)) 2,
 rhA.ob 3 (opq (o_1.putH p s (nR b))) 0,
 rhA.ob 3 (opq (o_1.putH p s (nR b))) 1]
 []))
 none)
 (some
 (Fin.ret (.bool false),
 St.mk
 [hpA.ob 0 (o.putO p s (nR b)) 0, hpA.ob 0 (o.putO p s (nR b)) 1,
 hpA.ob 0 (o.putO p s (nR b)) 2,
 rhA.ob 3 (opq (o_1.putH p s (nR b))) 0,
 rhA.ob 3 (opq (o_1.putH p s (nR b))) 1]
 [])))
 none)
 none)
 (branch (.bool (w == 2))
 (onSome
 (hpA.G 0 [hpA.ob 0 X 0, hpA.ob 0 X 1, hpA.ob 0 X 2])
 none fun (o : Hp) =>
 onSome (rhA.G 3 [rhA.ob 3 R 0, rhA.ob 3 R 1]) none fun (o_1 : Rh) =>
 branch (.bool (o.cutE p s == o_1.cutE p s))
 (branch (.bool (byOk b && byOk b))
 (some
 (Fin.ret (.bool (nR b == nR b)),
 St.mk
 [hpA.ob 0 (o.cutO p s) 0, hpA.ob 0 (o.cutO p s) 1,
 hpA.ob 0 (o.cutO p s) 2, rhA.ob 3 (opq (o_1.cutH p s)) 0,
 rhA.ob 3 (opq (o_1.cutH p s)) 1]
 []))
 none)
 (some
 (Fin.ret (.bool false),
 St.mk
 [hpA.ob 0 (o.cutO p s) 0, hpA.ob 0 (o.cutO p s) 1,
 hpA.ob 0 (o.cutO p s) 2, rhA.ob 3 (opq (o_1.cutH p s)) 0,
 rhA.ob 3 (opq (o_1.cutH p s)) 1]
 [])))
 (branch (.bool (w == 3))
 (onSome
 (hpA.G 0 [hpA.ob 0 X 0, hpA.ob 0 X 1, hpA.ob 0 X 2])
 none fun (o : Hp) =>
 branch (.bool (byOk b && apOk b.length 1))
 (onSome (rhA.G 3 [rhA.ob 3 R 0, rhA.ob 3 R 1]) none
 fun (o_1 : Rh) =>
 branch (.bool (byOk b && cdec (b.length ≤ 1000000)))
 (branch (.bool (o.resE p s (nR b) == o_1.resE p s (nR b)))
 (branch (.bool (byOk b && byOk b))
 (some
 (Fin.ret (.bool (nR b == nR b)),
 St.mk
 [hpA.ob 0 (o.resO p s (nR b)) 0,
 hpA.ob 0 (o.resO p s (nR b)) 1,
 hpA.ob 0 (o.resO p s (nR b)) 2,
 rhA.ob 3 (opq (o_1.resH p s (nR b))) 0,
 rhA.ob 3 (opq (o_1.resH p s (nR b))) 1]
 []))
 none)
 (some
 (Fin.ret (.bool false),
 St.mk
 [hpA.ob 0 (o.resO p s (nR b)) 0,
 hpA.ob 0 (o.resO p s (nR b)) 1,
 hpA.ob 0 (o.resO p s (nR b)) 2,
 rhA.ob 3 (opq (o_1.resH p s (nR b))) 0,
 rhA.ob 3 (opq (o_1.resH p s (nR b))) 1]
 [])))
 none)
 none)
 (branch (.bool (w == 4))
 (onSome
 (hpA.G 0
 [hpA.ob 0 X 0, hpA.ob 0 X 1, hpA.ob 0 X 2])
 none fun (o : Hp) =>
 onSome (rhA.G 3 [rhA.ob 3 R 0, rhA.ob 3 R 1]) none
 fun (o_1 : Rh) =>
 branch (.bool (byOk (oR (o.get p s)) && byOk (oR (o_1.get p s))))
 (branch (.bool (nR (oR (o.get p s)) == nR (oR (o_1.get p s))))
 (branch (.bool (oB (o.get p s) == oB (o_1.get p s)))
 (branch (.bool (byOk b && byOk b))
 (some
 (Fin.ret (.bool (nR b == nR b)),
 St.mk
 [hpA.ob 0 X 0, hpA.ob 0 X 1, hpA.ob 0 X 2,
 rhA.ob 3 R 0, rhA.ob 3 R 1]
 []))
 none)
 (some
 (Fin.ret (.bool false),
 St.mk
 [hpA.ob 0 X 0, hpA.ob 0 X 1, hpA.ob 0 X 2,
 rhA.ob 3 R 0, rhA.ob 3 R 1]
 [])))
 (some
 (Fin.ret (.bool false),
 St.mk
 [hpA.ob 0 X 0, hpA.ob 0 X 1, hpA.ob 0 X 2,
 rhA.ob 3 R 0, rhA.ob 3 R 1]
 [])))
 none)
 (branch (.bool (w == 5))
 (onSome
 (hpA.G 0
 [hpA.ob 0 X 0, hpA.ob 0 X 1, hpA.ob 0 X 2])
 none fun (o : Hp) =>
 onSome (rhA.G 3 [rhA.ob 3 R 0, rhA.ob 3 R 1]) none
 fun (o_1 : Rh) =>
 branch (.bool (okPs (ridsV (o.after p s c)) && okPs (ridsV (o_1.after p s c))))
 (branch (.bool (psR (ridsV (o.after p s c)) == psR (ridsV (o_1.after p s c))))
 (branch (.bool (byOk b && byOk b))
 (some
 (Fin.ret (.bool (nR b == nR b)),
 St.mk
 [hpA.ob 0 X 0, hpA.ob 0 X 1, hpA.ob 0 X 2,
 rhA.ob 3 R 0, rhA.ob 3 R 1]
 []))
 none)
 (some
 (Fin.ret (.bool false),
 St.mk
 [hpA.ob 0 X 0, hpA.ob 0 X 1, hpA.ob 0 X 2,
 rhA.ob 3 R 0, rhA.ob 3 R 1]
 [])))
 none)
 (branch (.bool (byOk b && byOk b))
 (some
 (Fin.ret (.bool (nR b == nR b)),
 St.mk
 [hpA.ob 0 X 0, hpA.ob 0 X 1, hpA.ob 0 X 2,
 rhA.ob 3 R 0, rhA.ob 3 R 1]
 []))
 none)))))))
 none := by kernel_rfl
theorem rh_Gob3 {X : Rh} (h : X.Ok) : rhA.G 3 [rhA.ob 3 X 0, rhA.ob 3 X 1] = some X := rhA.G_obl h 3
structure RelH (X : Hp) (R : Rh) : Prop where
 f : X.Fine
 ok : R.Ok
 ti : R.Tight
 at_ : ∀ i, R.at_ i = ofS (X.at_ i)
theorem RelH.get {X : Hp} {R : Rh} (h : RelH X R) (p s : Int) : R.get p s = X.get p s := by
 rw [Hp.get_eq, Rh.get, h.at_]
theorem RelH.set {X : Hp} {R : Rh} (h : RelH X R) {k : Nat} {q : List Nat} (hq : PgB q) (hk : k < 256) : RelH (X.set k q) (R.set k (ofS q)) := by
 have hn := h.f.n
 obtain ⟨s1, s2, s3, s4⟩ := Hp.set_spec h.f.ok hq (show k < 300 by omega)
 obtain ⟨t1, t2, t3, t4⟩ := Rh.set_spec h.ok hq.sl (show k < 300 by omega)
 refine ⟨⟨s1, s2, by omega⟩, t1, t2, fun i => ?_⟩
 rw [t3, s3]
 split
 ·rfl
 ·exact h.at_ i
theorem RelH.n {X : Hp} {R : Rh} (h : RelH X R) : R.n = X.n := by
 have hl := Hp.pg_len h.f.ok
 have a : ¬ X.n < R.n := by
  intro hlt
  obtain ⟨m, hm⟩ : ∃ m, R.n = m + 1 := ⟨R.n - 1, by omega⟩
  have := h.ti m hm
  rw [h.at_, Hp.at_ge (by omega), ofS_zero] at this
  exact this rfl
 have b : ¬ R.n < X.n := by
  intro hlt
  obtain ⟨m, hm⟩ : ∃ m, X.n = m + 1 := ⟨X.n - 1, by omega⟩
  have h1 := h.f.ti m hm
  have h2 := h.at_ m
  rw [Rh.at_ge (by omega)] at h2
  exact h1 (by rw [slN, ← h2]; rfl)
 omega
theorem RelH.sl {X : Hp} {R : Rh} (h : RelH X R) : R.sl_ = X.pg_.map ofS := by
 have hl := Hp.pg_len h.f.ok
 have hr := Rh.sl_len h.ok
 have hn := h.n
 apply List.ext_getElem (by rw [List.length_map]; omega)
 intro i h1 h2
 rw [Rh.sl_at, h.at_, List.getElem_map, Hp.at_lt]
theorem RelH.by_ {X : Hp} {R : Rh} (h : RelH X R) : R.by_ = X.pg_ := by
 rw [Rh.by_, h.sl, List.map_map]
 have hp := Hp.pg_ok h.f.ok
 refine (List.map_congr_left fun p hm => ?_).trans (List.map_id _)
 exact (hp p hm).1.slots.2.2.2.2
theorem ridS_map : ∀ (l : List (List Nat)) (i : Nat), ridS (l.map ofS) i = ridP l i
 | [], _ => rfl
 | b :: t, i => by rw [List.map_cons, ridS, ridP, ridS_map t (i + 1)]
theorem RelH.rids {X : Hp} {R : Rh} (h : RelH X R) : R.rids = X.rids := by rw [Rh.rids, h.sl, ridS_map, Hp.rids]
theorem RelH.after {X : Hp} {R : Rh} (h : RelH X R) (p s m : Int) : R.after p s m = X.after p s m := by rw [Rh.after, h.rids, Hp.after]
theorem RelH.put_eq {X : Hp} {R : Rh} (h : RelH X R) (k : Nat) (s : Int) (b : List Nat) : putS (R.at_ k) s b = putP (X.at_ k) s b := by
 rw [h.at_, putP, if_pos (Hp.at_ok h.f.ok k).1.2.2]
theorem RelH.k {X : Hp} {R : Rh} (h : RelH X R) {b : List Nat} (hb : b.length ≤ 200) : (X.k b < 256 ∧ R.k b = X.k b) ∨ (256 ≤ X.k b ∧ R.k b = 256) := by
 have hl := Hp.pg_len h.f.ok
 have hk := Hp.k_le h.f.ok b
 have hroom : ∀ i, roomI (R.at_ i) = roomP (X.at_ i) := fun i => by rw [h.at_, (Hp.at_ok h.f.ok i).roomP]
 obtain ⟨a1, a2, a3, a4⟩ := R.kF_spec b.length 256 0
 have lo : ∀ i, i < X.k b → roomI (R.at_ i) < (b.length : Int) := fun i hi => by
  rw [hroom, Hp.at_lt (show i < X.pg_.length by omega)]
  exact firstK_lt _ hi
 have hi : (b.length : Int) ≤ roomI (R.at_ (X.k b)) := by
  rw [hroom]
  by_cases hlt : X.k b < X.pg_.length
  ·rw [Hp.at_lt hlt]; exact firstK_at hlt
  ·rw [Hp.at_ge (by omega), roomP_zero]; omega
 have hR : R.k b = R.kF b.length 256 0 := rfl
 rw [← hR] at a2 a3 a4
 by_cases hc : X.k b < 256
 ·refine .inl ⟨hc, ?_⟩
  have h1 : ¬ X.k b < R.k b := fun h' => by have := a3 (X.k b) (Nat.zero_le _) h'; omega
  have h2 : ¬ R.k b < X.k b := fun h' => by have := lo (R.k b) h'; have := a4 (by omega); omega
  omega
 ·refine .inr ⟨by omega, ?_⟩
  have h2 : ¬ R.k b < 256 := fun h' => by have := lo (R.k b) (by omega); have := a4 (by omega); omega
  omega
theorem RelH.add {X : Hp} {R : Rh} (h : RelH X R) {b : List Nat} (hb : ∀ x ∈ b, x < 256) : X.addE b = R.addE b ∧ X.addR b = R.addR b ∧ X.addS b = R.addS b ∧ RelH (X.add b) (R.add b) := by
 by_cases hl : b.length ≤ 200
 ·rcases h.k hl with ⟨k1, k2⟩ | ⟨k1, k2⟩
  ·rcases Hp.add_fine h.f hb with ⟨e0, _⟩ | ⟨_, _, e2, e3, e4, e5, q, e6, e7, e8, e9⟩
   ·omega
   ·have eB : R.addB b = true := by rw [Rh.addB, decide_eq_true hl, k2, Nat.blt_eq.mpr k1]; rfl
    have eq : putS (R.at_ (X.k b)) (freeK (R.at_ (X.k b)) : Nat) b = some q := by
     rw [h.put_eq, h.at_]
     rw [addP, if_pos (Hp.at_ok h.f.ok _).1.2.2] at e6
     exact e6
    refine ⟨?_, ?_, ?_, ?_⟩
    ·rw [e2, Rh.addE, opq_eq, decide_eq_true hl, k2, Nat.blt_eq.mpr k1]; rfl
    ·rw [e3, Rh.addR, opq_eq, eB, k2]; rfl
    ·rw [e4, Rh.addS, opq_eq, eB, k2, h.at_]; rfl
    ·rw [e9, Rh.add, eB, k2, eq]
     exact h.set e7 k1
  ·have hb2 : Nat.blt (X.k b) 256 = false := by rw [Bool.eq_false_iff, ne_eq, Nat.blt_eq]; omega
   have hr2 : Nat.blt (R.k b) 256 = false := by rw [k2]; rfl
   have eX : X.addB b = false := by rw [Hp.addB, hb2, Bool.and_false]
   have eR : R.addB b = false := by rw [Rh.addB, hr2, Bool.and_false]
   refine ⟨?_, ?_, ?_, ?_⟩
   ·rw [Hp.addE, Rh.addE, opq_eq, opq_eq, hb2, hr2]
   ·rw [Hp.addR, Rh.addR, opq_eq, opq_eq, eX, eR]; rfl
   ·rw [Hp.addS, Rh.addS, opq_eq, opq_eq, eX, eR]; rfl
   ·rw [Hp.add, Rh.add, eX, eR]; exact h
 ·have hd : decide (b.length ≤ 200) = false := decide_eq_false hl
  have eX : X.addB b = false := by rw [Hp.addB, hd, Bool.false_and]
  have eR : R.addB b = false := by rw [Rh.addB, hd, Bool.false_and]
  refine ⟨?_, ?_, ?_, ?_⟩
  ·rw [Hp.addE, Rh.addE, opq_eq, opq_eq, hd]; rfl
  ·rw [Hp.addR, Rh.addR, opq_eq, opq_eq, eX, eR]; rfl
  ·rw [Hp.addS, Rh.addS, opq_eq, opq_eq, eX, eR]; rfl
  ·rw [Hp.add, Rh.add, eX, eR]; exact h
theorem RelH.put {X : Hp} {R : Rh} (h : RelH X R) (p s : Int) {b : List Nat} (hb : ∀ x ∈ b, x < 256) (hbl : b.length < 4611686018427387904) : X.putE p s b = R.putE p s b ∧ RelH (X.putH p s b) (R.putH p s b) := by
 refine ⟨by rw [Hp.putE, Rh.putE, h.get, h.put_eq], ?_⟩
 rw [Hp.putH, Rh.putH, h.get, h.put_eq]
 cases hg : X.get p s with
 | none => exact h
 | some c =>
  cases hq : putP (X.at_ p.toNat) s b with
  | none => exact h
  | some q =>
   obtain ⟨g1, g2, _⟩ := Hp.get_some hg
   rw [Hp.pg_len h.f.ok] at g2
   have := h.f.n
   exact h.set ((Hp.at_ok h.f.ok _).put hb hbl hq).1 (by omega)
theorem RelH.cut {X : Hp} {R : Rh} (h : RelH X R) (p s : Int) : X.cutE p s = R.cutE p s ∧ RelH (X.cutH p s) (R.cutH p s) := by
 refine ⟨by rw [Hp.cutE, Rh.cutE, h.get], ?_⟩
 rw [Hp.cutH, Rh.cutH, h.get, h.at_]
 cases hg : X.get p s with
 | none => exact h
 | some c =>
  obtain ⟨g1, g2, _⟩ := Hp.get_some hg
  rw [Hp.pg_len h.f.ok] at g2
  have := h.f.n
  obtain ⟨q, hq, hp, _⟩ := Hp.get_cut h.f.ok hg
  rw [show (some c).isSome = true from rfl, cond_true, cond_true, hq, show cutS (ofS (X.at_ p.toNat)) s = some q from hq]
  exact h.set hp (by omega)
theorem RelH.res {X : Hp} {R : Rh} (h : RelH X R) (p s : Int) {b : List Nat} (hb : ∀ x ∈ b, x < 256) (hbl : b.length < 4611686018427387904) : X.resE p s b = R.resE p s b ∧ RelH (X.resH p s b) (R.resH p s b) := by
 refine ⟨by rw [Hp.resE, Rh.resE, h.get, h.put_eq], ?_⟩
 rw [Hp.resH, Rh.resH, h.get, h.put_eq]
 cases hg : X.get p s with
 | some c => exact h
 | none =>
  cases hr : Hp.resB p s with
  | false => exact h
  | true =>
   cases hq : putP (X.at_ p.toNat) s b with
   | none => exact h
   | some q =>
    rw [Hp.resB, decide_eq_true_eq] at hr
    exact h.set ((Hp.at_ok h.f.ok _).put hb hbl hq).1 (by omega)
noncomputable def twoH (X : Hp) (R : Rh) : St := ⟨[hpA.ob 0 X 0, hpA.ob 0 X 1, hpA.ob 0 X 2, rhA.ob 3 R 0, rhA.ob 3 R 1], []⟩
theorem byOk_getH {X : Hp} (h : X.Fine) (p s : Int) : byOk (oR (X.get p s)) = true := by
 cases hg : X.get p s with
 | none => rw [oR_none]; exact byOk_bR (l := []) (by simp) (by simp)
 | some b =>
  obtain ⟨_, _, _, g4⟩ := Hp.get_some hg
  obtain ⟨_, _, _, _, n3, n4⟩ := getP_slot (Hp.at_ok h.ok _) g4
  rw [oR_some]; exact byOk_bR n3 (by omega)
theorem told_true (F : Nat) {X : Hp} {R : Rh} (h : RelH X R) (w c p s : Int) (y : Bool) {b : List (List AV)} (hb : byOk b = true) (hbl : b.length ≤ 20000) :
  ∃ X' R', RelH X' R' ∧ f28.run F [.ptr 0 0, .ptr 3 0, .agg [.int .i64 w, .int .i64 c, .int .i64 p, .int .i64 s, .ns y 1 b]] (twoH X R) = some (.ret (.bool true), twoH X' R') := by
 obtain ⟨b1, b2⟩ := byOk_iff.mp hb
 have hbb : ∀ x ∈ nR b, x < 256 := fun x hx => okR_lt b1 hx
 have hbn : (nR b).length < 4611686018427387904 := by rw [nR_length]; omega
 have hap : (byOk b && apOk b.length 1) = true := by rw [hb, show apOk b.length 1 = true by rw [apOk_iff]; omega]; rfl
 have hcd : (byOk b && cdec (b.length ≤ 1000000)) = true := by rw [hb, show cdec (b.length ≤ 1000000) = true from cdec_iff.mpr (by omega)]; rfl
 have hb2 : (byOk b && byOk b) = true := by rw [hb]; rfl
 rw [twoH, told_run, branch_of hap, hp_Gob h.f.ok, rh_Gob3 h.ok]
 cases w0 : (w == (0 : Int)) with
 | true =>
  obtain ⟨e1, e2, e3, e4⟩ := h.add hbb
  refine ⟨_, _, e4, ?_⟩
  rw [branch_true, onSome_some, branch_of hb, onSome_some, branch_of hb, e1, e2, e3, branch_of (by rw [beq_self_eq_true, beq_self_eq_true]; rfl), branch_of (beq_self_eq_true _), branch_of hb2, beq_self_eq_true, Hp.addO, opq_eq, opq_eq]; rfl
 | false =>
 rw [branch_false]
 cases w1 : (w == (1 : Int)) with
 | true =>
  obtain ⟨e1, e4⟩ := h.put p s hbb hbn
  refine ⟨_, _, e4, ?_⟩
  rw [branch_true, onSome_some, branch_of hap, onSome_some, branch_of hcd, e1, branch_of (beq_self_eq_true _), branch_of hb2, beq_self_eq_true, Hp.putO, opq_eq, opq_eq]; rfl
 | false =>
 rw [branch_false]
 cases w2 : (w == (2 : Int)) with
 | true =>
  obtain ⟨e1, e4⟩ := h.cut p s
  refine ⟨_, _, e4, ?_⟩
  rw [branch_true, onSome_some, onSome_some, e1, branch_of (beq_self_eq_true _), branch_of hb2, beq_self_eq_true, Hp.cutO, opq_eq, opq_eq]; rfl
 | false =>
 rw [branch_false]
 cases w3 : (w == (3 : Int)) with
 | true =>
  obtain ⟨e1, e4⟩ := h.res p s hbb hbn
  refine ⟨_, _, e4, ?_⟩
  rw [branch_true, onSome_some, branch_of hap, onSome_some, branch_of hcd, e1, branch_of (beq_self_eq_true _), branch_of hb2, beq_self_eq_true, Hp.resO, opq_eq, opq_eq]; rfl
 | false =>
 rw [branch_false]
 cases w4 : (w == (4 : Int)) with
 | true =>
  refine ⟨_, _, h, ?_⟩
  rw [branch_true, onSome_some, onSome_some, h.get, branch_of (by rw [byOk_getH h.f]; rfl), branch_of (beq_self_eq_true _), branch_of (beq_self_eq_true _), branch_of hb2, beq_self_eq_true]; rfl
 | false =>
 rw [branch_false]
 cases w5 : (w == (5 : Int)) with
 | true =>
  have hl : (X.after p s c).length ≤ 76500 := by
   have h1 := Hp.rids_len h.f.ok
   have h2 := List.length_filter_le (gtR p s) X.rids
   rw [Hp.after, List.length_take]
   omega
  refine ⟨_, _, h, ?_⟩
  have ok : okPs (ridsV (X.after p s c)) = true := by rw [ridsV, opq_eq]; exact okPs_rP _ (by omega)
  rw [branch_true, onSome_some, onSome_some, h.after, branch_of (by rw [ok]; rfl), branch_of (beq_self_eq_true _), branch_of hb2, beq_self_eq_true]; rfl
 | false =>
  refine ⟨_, _, h, ?_⟩
  rw [branch_false, branch_of hb2, beq_self_eq_true]; rfl
noncomputable def Fun.rB (f : Fun Try.prog) (F : Nat) (args : List AV) (st : St) : Option (Bool × St) :=
 opq (match f.run F args st with
  | some (.ret (.bool b), st') => some (b, st')
  | _ => none)
theorem Fun.rB_of {f : Fun Try.prog} {F : Nat} {args : List AV} {st : St} {b : Bool} {st' : St} (h : f.run F args st = some (.ret (.bool b), st')) : Fun.rB f F args st = some (b, st') := by
 rw [Fun.rB, opq_eq, h]
noncomputable def s28 : OrcS Try.prog := f28.by'
 (fun args st k => onSome (Fun.rB f28 0 args st) none fun o => k (.ret (.bool o.1)) o.2)
 fun args st k fin h => by
  cases hr : Fun.rB f28 0 args st with
  | none => rw [hr] at h; cases h
  | some o =>
   rw [hr] at h
   obtain ⟨b, st'⟩ := o
   rw [Fun.rB, opq_eq] at hr
   split at hr
   ·rename_i b2 st2 he
    simp only [Option.some.injEq, Prod.mk.injEq] at hr
    obtain ⟨rfl, rfl⟩ := hr
    exact ⟨_, _, h, f28.sound he⟩
   ·cases hr
theorem ze61 : (Try.prog.info? 61).bind (·.zero) = some (.agg #[(.slice none 0 0)]) := by kernel_rfl
noncomputable abbrev d49 : TypeDesc := (Try.prog.underlying 49).getD .bool
theorem ud49 : Try.prog.underlying 49 = some d49 := by kernel_rfl
noncomputable def f7_l0 : Sim Try.prog :=
 (.seq (.seq (.live [0, 3, 4, 5, 16] (.region 8 [
 ⟨(opMove (some 13) (.tmp 5) 3 "law.go:81" #[]).op, none⟩,
 ⟨(opMove (some 14) (.tmp 0) 47 "law.go:81" #[]).op, none⟩,
 ⟨(opLen (some 15) (.tmp 14) 47 (.slice 49) Try.underlying47 3 "law.go:81" #[eD 1]).op, none⟩,
 ⟨(opBin (some 16) .lss 3 (.tmp 13) (.tmp 15) 3 4 "law.go:81" #[eD 0, eD 2]).op, none⟩
 ] (by kernel_rfl)))
 (.cond (.tmp 16)
 .skip
 (.live [3, 4] (.exit 0))))
 (.seq (.block 1 (.seq (.seq (.live [0, 3, 4, 5, 34] (.region 10 [
 ⟨(opMove (some 19) (.tmp 0) 47 "law.go:82" #[]).op, none⟩,
 ⟨(opMove (some 20) (.tmp 5) 3 "law.go:82" #[]).op, none⟩,
 ⟨(opIndexAddrT (some 21) 47 (.tmp 19) (.tmp 20) 49 5 Try.underlying47 sz49 0 "law.go:82" #[eD 0, eD 1]).op, none⟩,
 ⟨(opFieldAddr (some 22) 49 (.tmp 21) 2 2 2 true fl49_2 (by decide) 0 "law.go:82" #[eD 2]).op, none⟩,
 ⟨(opFieldAddr (some 23) 30 (.tmp 22) 0 0 1 false fl30_0 (by decide) 0 "law.go:82" #[eD 3]).op, none⟩,
 ⟨(opLoadT (.one (.int .i64)) (some 24) 3 (.tmp 23) (.int .i64) Try.underlying3 1 sz3 (by kernel_rfl) 3 "law.go:82" #[eD 4]).op, none⟩,
 ⟨(opBin (some 25) .gtr 3 (.tmp 24) (.const (Value.int IntKind.i64 20)) 3 4 "law.go:82" #[eD 5]).op, none⟩,
 ⟨(opMove (some 26) (.tmp 25) 4 "law.go:82" #[eD 6]).op, none⟩,
 ⟨(opMove (some 27) (.tmp 0) 47 "law.go:82" #[eG 7]).op, (some (7, 26, true))⟩,
 ⟨(opMove (some 28) (.tmp 5) 3 "law.go:82" #[eG 7]).op, (some (7, 26, true))⟩,
 ⟨(opIndexAddrT (some 29) 47 (.tmp 27) (.tmp 28) 49 5 Try.underlying47 sz49 0 "law.go:82" #[eD 8, eD 9, eG 7]).op, (some (7, 26, true))⟩,
 ⟨(opFieldAddr (some 30) 49 (.tmp 29) 2 2 2 true fl49_2 (by decide) 0 "law.go:82" #[eD 10, eG 7]).op, (some (7, 26, true))⟩,
 ⟨(opFieldAddr (some 31) 30 (.tmp 30) 0 0 1 false fl30_0 (by decide) 0 "law.go:82" #[eD 11, eG 7]).op, (some (7, 26, true))⟩,
 ⟨(opLoadT (.one (.int .i64)) (some 32) 3 (.tmp 31) (.int .i64) Try.underlying3 1 sz3 (by kernel_rfl) 3 "law.go:82" #[eD 12, eG 7]).op, (some (7, 26, true))⟩,
 ⟨(opBin (some 33) .lss 3 (.tmp 32) (.const (Value.int IntKind.i64 256)) 3 4 "law.go:82" #[eD 13, eG 7]).op, (some (7, 26, true))⟩,
 ⟨(opPick (some 34) (.tmp 26) (.tmp 33) (.const (Value.bool false)) 4 "law.go:82" #[eD 7, eD 14]).op, none⟩
 ] (by kernel_rfl)))
 (.cond (.tmp 34)
 (.seq (.live [2] (.region 11 [
 ⟨(opAssign (some 2) (.const (Value.bool true)) 4 "law.go:83" #[]).op, none⟩
 ] (by kernel_rfl)))
 (.live [2] .ret))
 .skip))
 (.seq (.live [0, 3, 4, 5, 42] (.region 12 [
 ⟨(opMove (some 35) (.tmp 3) 26 "law.go:85" #[]).op, none⟩,
 ⟨(opMove (some 36) (.tmp 4) 56 "law.go:85" #[]).op, none⟩,
 ⟨(opMove (some 37) (.tmp 0) 47 "law.go:85" #[]).op, none⟩,
 ⟨(opMove (some 38) (.tmp 5) 3 "law.go:85" #[]).op, none⟩,
 ⟨(opIndexAddrT (some 39) 47 (.tmp 37) (.tmp 38) 49 5 Try.underlying47 sz49 0 "law.go:85" #[eD 2, eD 3]).op, none⟩,
 ⟨(opLoadT (.agg [(.int .i64), (.int .i64), (.int .i64), (.int .i64), (.ns 1)]) (some 40) 49 (.tmp 39) d49 ud49 5 sz49 (by kernel_rfl) 49 "law.go:85" #[eD 4]).op, none⟩,
 ⟨opCall (s28).orc (some 41) [(.tmp 35), (.tmp 36), (.tmp 40)] #[26, 56, 49] 4 "law.go:85" #[eD 0, eD 1, eD 5], none⟩,
 ⟨(opNot (some 42) 4 (.tmp 41) 4 "law.go:85" #[eD 6]).op, none⟩
 ] (by kernel_rfl)))
 (.cond (.tmp 42)
 (.seq (.live [2] (.region 13 [
 ⟨(opAssign (some 2) (.const (Value.bool false)) 4 "law.go:86" #[]).op, none⟩
 ] (by kernel_rfl)))
 (.live [2] .ret))
 .skip))))
 (.live [0, 3, 4, 5] (.region 9 [
 ⟨(opMove (some 17) (.tmp 5) 3 "law.go:81" #[]).op, none⟩,
 ⟨(opBin (some 18) .add 3 (.tmp 17) (.const (Value.int IntKind.i64 1)) 3 3 "law.go:81" #[eD 0]).op, none⟩,
 ⟨(opAssign (some 5) (.tmp 18) 3 "law.go:81" #[eD 1, eP 0, eP 1]).op, none⟩
 ] (by kernel_rfl)))))
noncomputable def f7_r0 : Sim Try.prog :=
 (.seq (.live [2] (.region 14 [
 ⟨(opMove (some 43) (.tmp 3) 26 "law.go:89" #[]).op, none⟩,
 ⟨(opCallQ q17 (some 44) [(.tmp 43)] #[26] 22 "law.go:89" #[eD 0]).op, none⟩,
 ⟨(opMove (some 45) (.tmp 4) 56 "law.go:89" #[]).op, none⟩,
 ⟨(opCallQ q27 (some 46) [(.tmp 45)] #[56] 22 "law.go:89" #[eD 2, eC 1]).op, none⟩,
 ⟨(opCallP p18 (some 47) [(.tmp 44), (.tmp 46)] #[22, 22] 4 "law.go:89" #[eD 1, eD 3, eC 3]).op, none⟩,
 ⟨(opMove (some 48) (.tmp 47) 4 "law.go:89" #[eD 4, eC 4]).op, none⟩,
 ⟨(opMove (some 49) (.tmp 3) 26 "law.go:89" #[eG 5]).op, (some (5, 48, true))⟩,
 ⟨(opCallQ q16 (some 50) [(.tmp 49)] #[26] 40 "law.go:89" #[eD 6, eC 5, eG 5]).op, (some (5, 48, true))⟩,
 ⟨(opMove (some 51) (.tmp 4) 56 "law.go:89" #[eG 5]).op, (some (5, 48, true))⟩,
 ⟨(opCallQ q30 (some 52) [(.tmp 51)] #[56] 40 "law.go:89" #[eD 8, eC 7, eG 5]).op, (some (5, 48, true))⟩,
 ⟨(opCallP p29 (some 53) [(.tmp 50), (.tmp 52)] #[40, 40] 4 "law.go:89" #[eD 7, eD 9, eC 9, eG 5]).op, (some (5, 48, true))⟩,
 ⟨(opPick (some 54) (.tmp 48) (.tmp 53) (.const (Value.bool false)) 4 "law.go:89" #[eD 5, eD 10]).op, none⟩,
 ⟨(opAssign (some 2) (.tmp 54) 4 "law.go:89" #[eD 11, eC 10, eP 0, eP 1, eP 2, eP 3, eP 4, eP 5, eP 6, eP 7, eP 8, eP 9, eP 10, eP 11]).op, none⟩
 ] (by kernel_rfl)))
 (.live [2] .ret))
noncomputable def f7_b : Sim Try.prog :=
 (.seq (.live [0] (.region 0 [
 ⟨(opAssign (some 2) (.const (Value.bool false)) 4 "law.go:72" #[]).op, none⟩
 ] (by kernel_rfl)))
 (.seq (.seq (.live [0, 7] (.region 1 [
 ⟨(opCallP p9 (some 6) [] #[] 4 "law.go:73" #[]).op, none⟩,
 ⟨(opNot (some 7) 4 (.tmp 6) 4 "law.go:73" #[eD 0]).op, none⟩
 ] (by kernel_rfl)))
 (.cond (.tmp 7)
 (.seq (.live [2] (.region 2 [
 ⟨(opAssign (some 2) (.const (Value.bool false)) 4 "law.go:74" #[]).op, none⟩
 ] (by kernel_rfl)))
 (.live [2] .ret))
 .skip))
 (.seq (.seq (.live [0, 9] (.region 3 [
 ⟨(opMove (some 8) (.tmp 0) 47 "law.go:76" #[]).op, none⟩,
 ⟨(opCallP p20 (some 9) [(.tmp 8)] #[47] 4 "law.go:76" #[eD 0]).op, none⟩
 ] (by kernel_rfl)))
 (.cond (.tmp 9)
 (.seq (.live [2] (.region 4 [
 ⟨(opAssign (some 2) (.const (Value.bool true)) 4 "law.go:77" #[]).op, none⟩
 ] (by kernel_rfl)))
 (.live [2] .ret))
 .skip))
 (.seq (.live [0, 3] (.region 5 [
 ⟨opCall (s11).orc (some 10) [] #[] 26 "law.go:79" #[], none⟩,
 ⟨(opAssign (some 3) (.tmp 10) 26 "law.go:79" #[eD 0, eC 0, eP 0]).op, none⟩
 ] (by kernel_rfl)))
 (.seq (.live [0, 3, 4] (.region 6 [
 ⟨(opBuild (some 11) 61 #[(.slice none 0 0)] [] ze61 (by kernel_rfl) 61 "law.go:80" #[]).op, none⟩,
 ⟨(MSim.ph (opBox (some 12) 61 (.tmp 11) 56 "law.go:80" #[eD 0]) 1).op, none⟩,
 ⟨(opAssign (some 4) (.tmp 12) 56 "law.go:80" #[eD 1, eP 0, eP 1]).op, none⟩
 ] (by kernel_rfl)))
 (.seq (.seq (.live [0, 3, 4, 5] (.region 7 [
 ⟨(opAssign (some 5) (.const (Value.int IntKind.i64 0)) 3 "law.go:81" #[]).op, none⟩
 ] (by kernel_rfl)))
 (.block 0 (.loop [0, 3, 4, 5] f7_l0)))
 f7_r0))))))
noncomputable def f7 : Fun Try.prog where
 id := 7
 fn := Try.f7
 hf := Try.func7
 hname := by kernel_rfl
 body := f7_b
 hbody := by kernel_rfl
 res := [rTmp 2]
 hres := by kernel_rfl
 n := 55
 hn := by kernel_rfl
theorem calls_run (F : Nat) (z : Bool) (l : List (List AV)) :
 (f7.run F [.ns z 5 l] ⟨[], []⟩ : Ans) =
 branch (.bool (okCs l))
 (branch (.bool (greatV l)) (some (Fin.ret (.bool true), St.mk [] []))
 (loopRun (f7_l0.run F) [0, 3, 4, 5]
 (Cont.block 0 (Cont.then (f7_r0.run F (f7.leaveK Fun.done)) (f7.leaveK Fun.done))) F
 (Env.mk 55
 [(0, AV.ns z 5 l), (3, AV.ptr 0 0),
 (4, AV.ptr 3 0), (5, .int .i64 0)])
 (St.mk
 [hpA.ob 0 hp0 0, hpA.ob 0 hp0 1, hpA.ob 0 hp0 2,
 Ob.cells [AV.nilsl], Ob.nov 0]
 [])))
 none := by kernel_rfl
theorem calls_out (F : Nat) (X : Hp) (R : Rh) :
 ((Cont.block 0 (Cont.then (f7_r0.run F (f7.leaveK Fun.done)) (f7.leaveK Fun.done))) (.exit 0) (Env.mk 55 [(3, .ptr 0 0), (4, .ptr 3 0)]) ⟨[hpA.ob 0 X 0, hpA.ob 0 X 1, hpA.ob 0 X 2, rhA.ob 3 R 0, rhA.ob 3 R 1], []⟩ : Ans) =
 onSome (hpA.G 0 [hpA.ob 0 X 0, hpA.ob 0 X 1, hpA.ob 0 X 2]) none
 fun (o : Hp) =>
 onSome (rhA.G 3 [rhA.ob 3 R 0, rhA.ob 3 R 1]) none fun (o_1 : Rh) =>
 branch (.bool (okBs (pgsV o.pg_) && okBs (pgsV o_1.by_)))
 (branch (.bool (bsR (pgsV o.pg_) == bsR (pgsV o_1.by_)))
 (onSome
 (hpA.G 0 [hpA.ob 0 X 0, hpA.ob 0 X 1, hpA.ob 0 X 2])
 none fun (o : Hp) =>
 onSome (rhA.G 3 [rhA.ob 3 R 0, rhA.ob 3 R 1]) none fun (o_2 : Rh) =>
 branch (.bool (okPs (ridsV o.rids) && okPs (ridsV o_2.rids)))
 (some
 (Fin.ret (.bool (psR (ridsV o.rids) == psR (ridsV o_2.rids))),
 St.mk
 [hpA.ob 0 X 0, hpA.ob 0 X 1, hpA.ob 0 X 2,
 rhA.ob 3 R 0, rhA.ob 3 R 1]
 []))
 none)
 (some
 (Fin.ret (.bool false),
 St.mk
 [hpA.ob 0 X 0, hpA.ob 0 X 1, hpA.ob 0 X 2,
 rhA.ob 3 R 0, rhA.ob 3 R 1]
 [])))
 none := by kernel_rfl
theorem calls_round (F m i : Nat) (z : Bool) (l : List (List AV)) (st : St) (K : Cont) :
 (loopRun (f7_l0.run F) [0, 3, 4, 5] K m.succ (Env.mk 55 [(0, .ns z 5 l), (3, .ptr 0 0), (4, .ptr 3 0), (5, .int .i64 (i : Int))]) st : Ans) =
 branch (.bool (decide ((↑i : Int) < (↑l.length : Int))))
 (branch (.bool (inR l (↑i : Int)))
 (branch
 (.bool ((LD.one (LT.int IntKind.i64)).is (List.drop 0 (List.drop 2 (V.rowAt l (↑i : Int))))))
 (branch (.bool (decide (hdI (List.drop 0 (List.drop 2 (V.rowAt l (↑i : Int)))) > 20)))
 (branch (.bool (inR l (↑i : Int)))
 (branch
 (AV.bool
 ((LD.one (LT.int IntKind.i64)).is (List.drop 0 (List.drop 2 (V.rowAt l (↑i : Int))))))
 (branch
 (.bool (decide (hdI (List.drop 0 (List.drop 2 (V.rowAt l (↑i : Int)))) < 256)))
 (K AX.ret (Env.mk 55 [(2, AV.bool true)]) st)
 (branch (.bool (inR l (↑i : Int)))
 (branch
 (AV.bool
 ((LD.agg
 [LT.int IntKind.i64, LT.int IntKind.i64, LT.int IntKind.i64, LT.int IntKind.i64,
 LT.ns 1]).is
 (V.rowAt l (↑i : Int))))
 (onSome
 (Fun.rB f28 0
 [AV.ptr 0 0, AV.ptr 3 0,
 AV.agg
 [.int .i64 (hdI (V.rowAt l (↑i : Int))),
 .int .i64 (hdI (V.rowAt l (↑i : Int)).tail),
 .int .i64 (hdI (V.rowAt l (↑i : Int)).tail.tail),
 .int .i64 (hdI (V.rowAt l (↑i : Int)).tail.tail.tail),
 AV.ns (nilA (V.rowAt l (↑i : Int)).tail.tail.tail.tail) 1
 (rwA (V.rowAt l (↑i : Int)).tail.tail.tail.tail)]]
 st)
 none fun (o : Bool × St) =>
 branch (.bool !o.fst) (K AX.ret (Env.mk 55 [(2, AV.bool false)]) o.2)
 (loopRun (f7_l0.run F) [0, 3, 4, 5] K m
 (Env.mk 55
 [(0, AV.ns z 5 l), (3, AV.ptr 0 0),
 (4, AV.ptr 3 0),
 (5, .int .i64 (IntKind.i64.wrap ((↑i : Int) + 1)))])
 o.2))
 none)
 none))
 none)
 none)
 (branch (.bool (inR l (↑i : Int)))
 (branch
 (AV.bool
 ((LD.agg
 [LT.int IntKind.i64, LT.int IntKind.i64, LT.int IntKind.i64, LT.int IntKind.i64,
 LT.ns 1]).is
 (V.rowAt l (↑i : Int))))
 (onSome
 (Fun.rB f28 0
 [AV.ptr 0 0, AV.ptr 3 0,
 AV.agg
 [.int .i64 (hdI (V.rowAt l (↑i : Int))),
 .int .i64 (hdI (V.rowAt l (↑i : Int)).tail),
 .int .i64 (hdI (V.rowAt l (↑i : Int)).tail.tail),
 .int .i64 (hdI (V.rowAt l (↑i : Int)).tail.tail.tail),
 AV.ns (nilA (V.rowAt l (↑i : Int)).tail.tail.tail.tail) 1
 (rwA (V.rowAt l (↑i : Int)).tail.tail.tail.tail)]]
 st)
 none fun (o : Bool × St) =>
 branch (.bool !o.fst) (K AX.ret (Env.mk 55 [(2, AV.bool false)]) o.2)
 (loopRun (f7_l0.run F) [0, 3, 4, 5] K m
 (Env.mk 55
 [(0, AV.ns z 5 l), (3, AV.ptr 0 0),
 (4, AV.ptr 3 0),
 (5, .int .i64 (IntKind.i64.wrap ((↑i : Int) + 1)))])
 o.2))
 none)
 none))
 none)
 none)
 (K (AX.exit 0)
 (Env.mk 55 [(3, AV.ptr 0 0), (4, AV.ptr 3 0)]) st) := by kernel_rfl
def rh0 : Rh := ⟨0, [], 0⟩
theorem rel0 : RelH hp0 rh0 where
 f := hp0_fine
 ok := ⟨fun _ => ⟨rfl, rfl⟩, Nat.le_refl _, by show 0 ≤ 300; omega, fun _ h => by cases h⟩
 ti := fun m h => by cases h
 at_ i := by rw [Rh.at_ge (Nat.zero_le _), Hp.at_ge (Nat.zero_le _), ofS_zero]
theorem two0 : twoH hp0 rh0 = ⟨[hpA.ob 0 hp0 0, hpA.ob 0 hp0 1, hpA.ob 0 hp0 2, .cells [.nilsl], .nov 0], []⟩ := by
 have e0 : rhA.ob 3 rh0 0 = .cells [.nilsl] := by rw [ADT.ob, opq_eq]; rfl
 have e1 : rhA.ob 3 rh0 1 = .nov 0 := by rw [ADT.ob, opq_eq]; rfl
 rw [twoH, e0, e1]
noncomputable abbrev callsK (F : Nat) : Cont := Cont.block 0 (Cont.then (f7_r0.run F (f7.leaveK Fun.done)) (f7.leaveK Fun.done))
theorem calls_end (F : Nat) {X : Hp} {R : Rh} (h : RelH X R) : callsK F (.exit 0) (Env.mk 55 [(3, .ptr 0 0), (4, .ptr 3 0)]) (twoH X R) = some (.ret (.bool true), twoH X R) := by
 have hl := Hp.rids_len h.f.ok
 have hp := Hp.pg_len h.f.ok
 have hn := h.f.n
 have ok : okPs (ridsV X.rids) = true := by rw [ridsV, opq_eq]; exact okPs_rP _ (by omega)
 have ob : okBs (pgsV X.pg_) = true := pgsV_ok (Hp.pg_ok h.f.ok) (by omega)
 rw [callsK, twoH, calls_out, hp_Gob h.f.ok, rh_Gob3 h.ok, onSome_some, onSome_some, h.by_, branch_of (by rw [ob]; rfl), branch_of (beq_self_eq_true _), onSome_some, onSome_some, h.rids, branch_of (by rw [ok]; rfl), beq_self_eq_true]
theorem calls_loop (F : Nat) (z : Bool) (l : List (List AV)) (hl : ∀ r ∈ l, isC r = true) (hb : ∀ r ∈ l, (cB r).length ≤ 20000) (hn : l.length ≤ 80) : ∀ (d i m : Nat) (X : Hp) (R : Rh), RelH X R → i + d = l.length → d < m →
  ∃ st, loopRun (f7_l0.run F) [0, 3, 4, 5] (callsK F) m (Env.mk 55 [(0, .ns z 5 l), (3, .ptr 0 0), (4, .ptr 3 0), (5, .int .i64 (i : Int))]) (twoH X R) = some (.ret (.bool true), st)
 | d, i, 0, X, R, _, _, h => by omega
 | 0, i, m + 1, X, R, h, hi, _ => by
  rw [show m + 1 = m.succ from rfl, calls_round, branch_not (decide_eq_false (by omega))]
  exact ⟨_, calls_end F h⟩
 | d + 1, i, m + 1, X, R, h, hi, hm => by
  have hlt : i < l.length := by omega
  obtain ⟨w, c, p, s, y, b, hr, hby⟩ := isC_spec (hl _ (List.getElem_mem hlt))
  have hbl : b.length ≤ 20000 := by have := hb _ (List.getElem_mem hlt); rw [hr] at this; exact this
  obtain ⟨X', R', h', ht⟩ := told_true 0 h w c p s y hby hbl
  obtain ⟨st, ih⟩ := calls_loop F z l hl hb hn d (i + 1) m X' R' h' (by omega) (by omega)
  have rest : ∃ st, branch (AV.bool (inR l (i : Int)))
    (branch (AV.bool ((LD.agg [LT.int IntKind.i64, LT.int IntKind.i64, LT.int IntKind.i64, LT.int IntKind.i64, LT.ns 1]).is (V.rowAt l (i : Int))))
     (onSome (Fun.rB f28 0 [AV.ptr 0 0, AV.ptr 3 0, AV.agg [AV.int IntKind.i64 (hdI (V.rowAt l (i : Int))), AV.int IntKind.i64 (hdI (V.rowAt l (i : Int)).tail), AV.int IntKind.i64 (hdI (V.rowAt l (i : Int)).tail.tail), AV.int IntKind.i64 (hdI (V.rowAt l (i : Int)).tail.tail.tail), AV.ns (nilA (V.rowAt l (i : Int)).tail.tail.tail.tail) 1 (rwA (V.rowAt l (i : Int)).tail.tail.tail.tail)]] (twoH X R))
      none fun (o : Bool × St) => branch (AV.bool !o.fst) (callsK F AX.ret (Env.mk 55 [(2, AV.bool false)]) o.2)
       (loopRun (f7_l0.run F) [0, 3, 4, 5] (callsK F) m (Env.mk 55 [(0, AV.ns z 5 l), (3, AV.ptr 0 0), (4, AV.ptr 3 0), (5, AV.int IntKind.i64 (IntKind.i64.wrap ((i : Int) + (1 : Int))))]) o.2))
     none)
    none = some (.ret (.bool true), st) := by
   rw [branch_of (inR_nat hlt), rowAt_nat hlt, hr, branch_of (show (LD.agg [LT.int IntKind.i64, LT.int IntKind.i64, LT.int IntKind.i64, LT.int IntKind.i64, LT.ns 1]).is [AV.int IntKind.i64 w, AV.int IntKind.i64 c, AV.int IntKind.i64 p, AV.int IntKind.i64 s, AV.ns y 1 b] = true from rfl)]
   rw [show Fun.rB f28 0 [AV.ptr 0 0, AV.ptr 3 0, AV.agg [AV.int IntKind.i64 (hdI [AV.int IntKind.i64 w, AV.int IntKind.i64 c, AV.int IntKind.i64 p, AV.int IntKind.i64 s, AV.ns y 1 b]), AV.int IntKind.i64 (hdI [AV.int IntKind.i64 w, AV.int IntKind.i64 c, AV.int IntKind.i64 p, AV.int IntKind.i64 s, AV.ns y 1 b].tail), AV.int IntKind.i64 (hdI [AV.int IntKind.i64 w, AV.int IntKind.i64 c, AV.int IntKind.i64 p, AV.int IntKind.i64 s, AV.ns y 1 b].tail.tail), AV.int IntKind.i64 (hdI [AV.int IntKind.i64 w, AV.int IntKind.i64 c, AV.int IntKind.i64 p, AV.int IntKind.i64 s, AV.ns y 1 b].tail.tail.tail), AV.ns (nilA [AV.int IntKind.i64 w, AV.int IntKind.i64 c, AV.int IntKind.i64 p, AV.int IntKind.i64 s, AV.ns y 1 b].tail.tail.tail.tail) 1 (rwA [AV.int IntKind.i64 w, AV.int IntKind.i64 c, AV.int IntKind.i64 p, AV.int IntKind.i64 s, AV.ns y 1 b].tail.tail.tail.tail)]] (twoH X R) = some (true, twoH X' R') from Fun.rB_of ht, onSome_some, branch_not (b := !true) rfl, wrap_succ (by omega)]
   exact ⟨st, ih⟩
  have r1 : (LD.one (LT.int IntKind.i64)).is (List.drop 0 (List.drop 2 (V.rowAt l (i : Int)))) = true := by rw [rowAt_nat hlt, hr]; rfl
  rw [show m + 1 = m.succ from rfl, calls_round, branch_of (decide_eq_true (by omega)), branch_of (inR_nat hlt), branch_of r1]
  by_cases c1 : hdI (List.drop 0 (List.drop 2 (V.rowAt l (i : Int)))) > 20
  ·rw [branch_of (decide_eq_true c1), branch_of (inR_nat hlt), branch_of r1]
   by_cases c2 : hdI (List.drop 0 (List.drop 2 (V.rowAt l (i : Int)))) < 256
   ·rw [branch_of (decide_eq_true c2)]
    exact ⟨_, rfl⟩
   ·rw [branch_not (decide_eq_false c2)]; exact rest
  ·rw [branch_not (decide_eq_false c1)]; exact rest
theorem calls_true (z : Bool) (l : List (List AV)) (hl : okCs l = true) : ∃ F st, f7.run F [.ns z 5 l] ⟨[], []⟩ = some (.ret (.bool true), st) := by
 obtain ⟨F, hF⟩ : ∃ F : Nat, 100 ≤ F := ⟨1000, by omega⟩
 refine ⟨F, ?_⟩
 obtain ⟨l1, l2⟩ := okCs_iff.mp hl
 rw [calls_run, branch_of hl]
 cases hgr : greatV l with
 | true => rw [branch_true]; exact ⟨_, rfl⟩
 | false =>
  obtain ⟨g1, g2⟩ := greatV_lt l1 hgr
  rw [branch_false]
  have := calls_loop F z l l1 g2 g1 l.length 0 F hp0 rh0 rel0 (by omega) (by omega)
  rw [two0] at this
  exact this
theorem calls_law (as0 : List AV) (s0 : Ty.Shape tyCalls as0) : ∃ F st, f7.run F [tyCalls.AV' as0] ⟨[], []⟩ = some (.ret (.bool true), st) := by
 obtain ⟨z, l, rfl, hl⟩ := calls_shape s0
 exact calls_true z l hl
end Go.Proofs.Ytljigmghdpkdlaa.V
