/- Merged out of 12 texts: what the claim's code comes to, and why. -/
import Derived.Test.YtljigmghdpkdlaaR35
/- Heap: alive, as a callee. -/
set_option linter.unusedVariables false
namespace Go.Proofs.Ytljigmghdpkdlaa.V
open Go Go.V Go.RowKit

/-- The slots of a page, a row taken away. -/
theorem Hp.cut_fine {X : Hp} (h : X.Fine) {p s : Int} {b : List Nat} (hg : X.get p s = some b) :
    X.cutE p s = 0 ∧ (∀ i, i ≠ p.toNat → (X.cutH p s).at_ i = X.at_ i) ∧ ofS ((X.cutH p s).at_ p.toNat) = withS (ofS (X.at_ p.toNat)) s.toNat none := by
  obtain ⟨c, k1, k2, k3⟩ := Hp.get_cut h.ok hg
  obtain ⟨g1, g2, g3, g4⟩ := Hp.get_some hg
  have hlt := Hp.get_lt h.ok hg
  obtain ⟨s1, s2, s3, s4⟩ := Hp.set_spec h.ok k2 (show p.toNat < 300 by omega)
  have e : X.cutH p s = X.set p.toNat c := by rw [Hp.cutH, hg, show (some b).isSome = true from rfl, cond_true, k1]; rfl
  refine ⟨by rw [Hp.cutE, hg, opq_eq]; rfl, fun i hi => ?_, ?_⟩
  · rw [e, s3, if_neg hi]
  · rw [e, s3, if_pos rfl, k3]
theorem Hp.res_fine {X : Hp} (h : X.Fine) {p s : Int} {b : List Nat} (hb : ∀ x ∈ b, x < 256) (hbl : b.length < 4611686018427387904) (hg : X.get p s = none) (hr : 0 ≤ p ∧ 0 ≤ s ∧ p < 256 ∧ s ≤ 250) {q : List Nat} (hq : putP (X.at_ p.toNat) s b = some q) :
    X.resE p s b = 0 ∧ X.resH p s b = X.set p.toNat q ∧ PgB q ∧ ofS q = withS (ofS (X.at_ p.toNat)) s.toNat (some b) := by
  have e : Hp.resB p s = true := decide_eq_true hr
  obtain ⟨k1, k2, _⟩ := (Hp.at_ok h.ok p.toNat).put hb hbl hq
  exact ⟨by rw [Hp.resE, hg, e, hq, opq_eq]; rfl, by rw [Hp.resH, hg, e, hq]; rfl, k1, k2⟩
theorem with_nilS (s : Nat) (b : List Nat) : withS ([] : Sl) s (some b) = List.replicate s none ++ [some b] := by
  have hp : padS ([] : Sl) (s + 1) = List.replicate s none ++ [none] := by rw [padS, ← List.replicate_succ']; simp
  have hs : (List.replicate s (none : Option (List Nat)) ++ [none]).set s (some b) = List.replicate s none ++ [some b] := by
    rw [List.set_append_right _ _ (by simp)]; simp
  rw [withS, hp, hs]
  exact trS_id (trm_snoc _ _)
theorem put_zero {b : List Nat} {s : Nat} (hs : s ≤ 250) (hb : s + 2 + b.length ≤ 256) (hl : b.length ≤ 200) : ∃ q, putP zeroP (s : Int) b = some q := by
  have h0 : ofB zeroP = true := zeroP_pg.1.2.2
  have hok : pgOk (List.replicate s none ++ [some b]) = true := by
    rw [pgOk_iff]
    refine ⟨?_, fun o ho => ?_⟩
    · have : sumN (List.replicate s none ++ [some b]) = b.length := by
        have hz : ∀ n, sumN (List.replicate n none ++ [some b]) = b.length := by
          intro n
          induction n with
          | zero => simp [sumN, olen]
          | succ n ih => rw [List.replicate_succ, List.cons_append, sumN_cons, ih]; simp [olen]
        exact hz s
      rw [szN, this]; simp; omega
    · rcases List.mem_append.mp ho with ho | ho
      · rw [List.eq_of_mem_replicate ho]; exact Nat.zero_le _
      · rw [List.mem_singleton.mp ho]; exact hl
  exact ⟨_, by rw [putP, if_pos h0, ofS_zero, putS, if_pos ⟨by omega, by omega⟩, Int.toNat_natCast, with_nilS, toP, if_pos hok]⟩
theorem hp_Gob {X : Hp} (h : X.Ok) : hpA.G 0 [hpA.ob 0 X 0, hpA.ob 0 X 1, hpA.ob 0 X 2] = some X := by rw [hp_obl h]; exact hp_G h
theorem alive_true (F : Nat) : ∃ st, f9.run F [] ⟨[], []⟩ = some (.ret (.bool true), st) := by
  have f0 := hp0_fine
  have z0 : ∀ i, hp0.at_ i = zeroP := fun i => Hp.at_ge (Nat.zero_le _)
  have b97 : ∀ x ∈ [97], x < 256 := by simp
  have b98 : ∀ x ∈ [98], x < 256 := by simp
  obtain ⟨f1, _⟩ := f0.add b97
  have k0 : hp0.k [97] = 0 := rfl
  rcases Hp.add_fine f0 b97 with ⟨h, _⟩ | ⟨_, _, a1, a2, a3, _, q, _, a4, a5, a6⟩
  · rw [k0] at h; simp at h
  rw [k0, z0, ofS_zero] at a3 a5
  rw [k0] at a2 a6
  obtain ⟨_, _, s3, _⟩ := Hp.set_spec f0.ok a4 (show 0 < 300 by omega)
  rw [← a6] at s3
  have e0 : ofS ((hp0.add [97]).at_ 0) = [some [97]] := by rw [s3, if_pos rfl, a5]; rfl
  have g1 : (hp0.add [97]).get 0 0 = some [97] := by
    rw [Hp.get_eq, if_pos (by omega), show (0 : Int).toNat = 0 from rfl, e0]; rfl
  have f2 := f1.cut 0 0
  obtain ⟨c1, c2, c3⟩ := Hp.cut_fine f1 g1
  simp only [show ((0 : Int).toNat) = 0 from rfl] at c2 c3
  have z2 : ∀ i, ((hp0.add [97]).cutH 0 0).at_ i = zeroP := by
    intro i
    by_cases hi : i = 0
    · subst hi
      refine (Hp.at_ok f2.ok 0).1.inj zeroP_pg.1 ?_
      rw [c3, e0, ofS_zero]; rfl
    · rw [c2 i hi, s3, if_neg hi, z0]
  have n2 : ((hp0.add [97]).cutH 0 0).n = 0 := by
    cases hn : ((hp0.add [97]).cutH 0 0).n with
    | zero => rfl
    | succ m => exact absurd (by rw [z2]; exact slN_zeroP) (f2.ti m hn)
  generalize hX2 : (hp0.add [97]).cutH 0 0 = X2 at *
  have g2 : X2.get 1 2 = none := by rw [Hp.get_eq, if_pos (by omega), z2, ofS_zero]; rfl
  obtain ⟨q3, hq3⟩ := put_zero (b := [98]) (s := 2) (by omega) (by decide) (by decide)
  obtain ⟨r1, r2, r3, r4⟩ := Hp.res_fine f2 b98 (by decide) g2 (by omega) (q := q3) (by rw [z2]; exact hq3)
  have f3 := f2.res 1 2 b98 (by decide)
  obtain ⟨_, _, t3, t4⟩ := Hp.set_spec f2.ok r3 (show (1 : Int).toNat < 300 by decide)
  rw [← r2] at t3 t4
  simp only [show ((1 : Int).toNat) = 1 from rfl, show ((2 : Int).toNat) = 2 from rfl] at t3 t4 r4
  generalize hX3 : X2.resH 1 2 [98] = X3 at *
  have e1 : ofS (X3.at_ 1) = [none, none, some [98]] := by
    rw [t3, if_pos rfl, r4, z2, ofS_zero, with_nilS]; rfl
  have e2 : X3.at_ 0 = zeroP := by rw [t3, if_neg (by decide), z2]
  have g3 : X3.get 1 2 = some [98] := by
    rw [Hp.get_eq, if_pos (by omega), show (1 : Int).toNat = 1 from rfl, e1]; rfl
  have l3 := Hp.pg_len f3.ok
  have n3 : X3.n = 2 := by
    have h1 : ¬ X3.n < 2 := by
      intro h
      rw [Hp.at_ge (by omega), ofS_zero] at e1; cases e1
    have h2 : X3.n ≤ 2 := by rw [n2] at t4; exact t4
    omega
  have pg3 : X3.pg_ = [X3.at_ 0, X3.at_ 1] := by
    apply List.ext_getElem (by rw [l3, n3]; rfl)
    intro i h1 h2
    rcases i with _ | _ | i
    · rw [← Hp.at_lt h1]; rfl
    · rw [← Hp.at_lt h1]; rfl
    · simp at h2; omega
  have rd3 : X3.rids = [(1, 2)] := by
    rw [Hp.rids, pg3, ridP, ridP, ridP, e1, e2, ofS_zero]; rfl
  rw [alive_run, hp_Gob f0.ok, onSome_some, branch_of (show byOk [[AV.int IntKind.u8 (97 : Int)]] = true from byOk_bR (l := [97]) (by simp) (by decide)), Hp.addO, opq_eq, hp_Gob f1.ok, onSome_some, a1, a2, a3, Hp.cutO, opq_eq]
  rw [show (((0 : Nat) : Int)) = 0 from rfl, show ((freeK [] : Nat) : Int) = 0 from rfl, hX2, hp_Gob f2.ok, onSome_some, branch_of (by rw [show byOk [[AV.int IntKind.u8 (98 : Int)]] = true from byOk_bR (l := [98]) (by simp) (by decide), show apOk 1 1 = true by rw [apOk_iff]; omega]; rfl), Hp.resO, opq_eq, hX3, hp_Gob f3.ok, onSome_some, c1, r1, g3, oB_some, oR_some]
  refine ⟨⟨[hpA.ob 0 X3 0, hpA.ob 0 X3 1, hpA.ob 0 X3 2, .gone, .gone], []⟩, ?_⟩
  have htx : ((txC (bR [98])).toList == [UInt8.ofNat 98]) = true := by rw [txC, opq_eq, nR_bR, ByteArray.toList_eq, textOf, foldl_push]; rfl
  refine (branch_of rfl).trans ((branch_of rfl).trans ((branch_of rfl).trans ((branch_of rfl).trans ((branch_of rfl).trans ((branch_of (okR_bR b98)).trans ((branch_of htx).trans ?_))))))
  · rw [onSome_some, branch_of (by rw [pgsV_length, l3, n3]; rfl), onSome_some, ridsV, opq_eq, rd3]; rfl
noncomputable def p9 : POrc Try.prog := f9.farN
  (fun args k => match args with
    | [] => k (.bool true)
    | _ => none)
  fun args k fin h => by
    split at h
    · obtain ⟨st, hr⟩ := alive_true 0
      exact ⟨_, _, h, .nil, trivial, trivial, 0, .bool true, st, rfl, hr⟩
    · cases h
end Go.Proofs.Ytljigmghdpkdlaa.V

/- The functions' pieces, as told by gen.py. -/
set_option linter.unusedVariables false
set_option maxRecDepth 20000
namespace Go.Proofs.Ytljigmghdpkdlaa.V
open Go Go.V Go.RowKit

/-! ### 4: interlock/interlocklaw07.HeapFirst (22, 34); results 4; slots: 0 rows, 1 b, 2 rows, 3 b, 5 h, 6 i, 7 before, 8 at, 9 e, 10 k, 11 got, 12 ok -/
/-! ### 5: interlock/interlocklaw07.HeapUndo (47, 49); results 4; slots:  -/
end Go.Proofs.Ytljigmghdpkdlaa.V

/- What the functions' runs come to; the right sides were printed by a tool, Lean checks them. -/
set_option linter.unusedVariables false
set_option maxRecDepth 100000
namespace Go.Proofs.Ytljigmghdpkdlaa.V
open Go Go.V Go.RowKit

end Go.Proofs.Ytljigmghdpkdlaa.V

/- Heap: HeapFirst is true. -/
set_option linter.unusedVariables false
namespace Go.Proofs.Ytljigmghdpkdlaa.V
open Go Go.V Go.RowKit

abbrev tyBs : Ty := .sl (.sl (.int .u8) 1) 24
theorem bs_shape {xs : List AV} (h : Ty.Shape tyBs xs) : ∃ z l, xs = [.ns z 1 l] ∧ okBs l = true := by
  obtain ⟨z, l, rfl, hz, h1, h2, h3⟩ := h
  refine ⟨z, l, rfl, okBs_iff.mpr ⟨fun r hr => ?_, ?_⟩⟩
  · obtain ⟨z', d, rfl, d1, d2, d3⟩ := bytes_shape (h3 r hr)
    show (Nat.beq 1 1 && byOk d) = true
    rw [byOk_iff.mpr ⟨d1, d3⟩]; rfl
  · have : reachBytes < 4611686018427387904 := by decide
    omega
end Go.Proofs.Ytljigmghdpkdlaa.V

/- What the functions' runs come to; the right sides were printed by a tool, Lean checks them. -/
set_option linter.unusedVariables false
set_option maxRecDepth 100000
namespace Go.Proofs.Ytljigmghdpkdlaa.V
open Go Go.V Go.RowKit

end Go.Proofs.Ytljigmghdpkdlaa.V

/- Heap: HeapUndo is true. -/
set_option linter.unusedVariables false
namespace Go.Proofs.Ytljigmghdpkdlaa.V
open Go Go.V Go.RowKit

end Go.Proofs.Ytljigmghdpkdlaa.V

/- The functions' pieces, as told by gen.py. -/
set_option linter.unusedVariables false
set_option maxRecDepth 20000
namespace Go.Proofs.Ytljigmghdpkdlaa.V
open Go Go.V Go.RowKit


/-! ### 24: interlock/heap.Load (22); results 2, 3; slots: 0 pages, 1 pages, 4 h, 5 _, 6 p -/
/-- A loop's round; at its head live: 4 h, 11 , 12 , 13  -/
noncomputable def f24_l0 : Sim Try.prog :=
 (.seq (.live [4, 11, 12, 13, 14] (.region 5 [
 ⟨(opBin (some 14) .lss 3 (.tmp 13) (.tmp 12) 3 0 "heap.go:34" #[]).op, none⟩
 ] (by kernel_rfl)))
 (.seq (.cond (.tmp 14)
 .skip
 (.live [4] (.exit 0)))
 (.seq (.block 1 (.seq (.live [4, 6, 11, 12, 13] (.region 6 [
 ⟨(opIndexAddrT (some 15) 22 (.tmp 11) (.tmp 13) 34 1 Try.underlying22 sz34 0 "heap.go:34" #[]).op, none⟩,
 ⟨(opLoadT (.one (.ns 1)) (some 16) 34 (.tmp 15) (.slice 5) Try.underlying34 1 sz34 (by kernel_rfl) 34 "heap.go:34" #[eD 0]).op, none⟩,
 ⟨(opAssign (some 6) (.tmp 16) 34 "heap.go:34" #[eD 1, eP 0, eP 1]).op, none⟩
 ] (by kernel_rfl)))
 (.seq (.seq (.live [4, 6, 11, 12, 13, 19] (.region 7 [
 ⟨(opMove (some 17) (.tmp 6) 34 "heap.go:35" #[]).op, none⟩,
 ⟨(opCallP p52 (some 18) [(.tmp 17)] #[34] 4 "heap.go:35" #[eD 0]).op, none⟩,
 ⟨(opNot (some 19) 4 (.tmp 18) 4 "heap.go:35" #[eD 1]).op, none⟩
 ] (by kernel_rfl)))
 (.cond (.tmp 19)
 (.seq (.live [2, 3] (.region 8 [
 ⟨(opAssign (some 2) (.const (Value.pointer none)) 26 "heap.go:36" #[]).op, none⟩,
 ⟨(opAssign (some 3) (.const (Value.int IntKind.i64 42)) 31 "heap.go:36" #[eC 0, eP 0]).op, none⟩
 ] (by kernel_rfl)))
 (.live [2, 3] .ret))
 .skip))
 (.live [4, 11, 12, 13] (.region 9 [
 ⟨(opMove (some 20) (.tmp 4) 26 "heap.go:38" #[]).op, none⟩,
 ⟨(opMove (some 21) (.tmp 6) 34 "heap.go:38" #[]).op, none⟩,
 ⟨(opCallP p43 (some 22) [(.tmp 21)] #[34] 34 "heap.go:38" #[eD 1]).op, none⟩,
 ⟨opCall (s53).orc (some 23) [(.tmp 20), (.tmp 22)] #[26, 34] 0 "heap.go:38" #[eD 0, eD 2, eC 2], none⟩
 ] (by kernel_rfl))))))
 (.live [4, 11, 12, 13] (.region 10 [
 ⟨(opBin (some 24) .add 3 (.tmp 13) (.const (Value.int IntKind.i64 1)) 3 3 "heap.go:34" #[]).op, none⟩,
 ⟨(opMove (some 13) (.tmp 24) 3 "heap.go:34" #[eD 0]).op, none⟩
 ] (by kernel_rfl))))))

/-- What follows a loop. -/
noncomputable def f24_r0 : Sim Try.prog :=
 (.seq (.seq (.live [4, 26] (.region 11 [
 ⟨(opMove (some 25) (.tmp 4) 26 "heap.go:40" #[]).op, none⟩,
 ⟨opCall (s54).orc (some 26) [(.tmp 25)] #[26] 4 "heap.go:40" #[eD 0], none⟩
 ] (by kernel_rfl)))
 (.cond (.tmp 26)
 (.seq (.live [2, 3] (.region 12 [
 ⟨(opAssign (some 2) (.const (Value.pointer none)) 26 "heap.go:41" #[]).op, none⟩,
 ⟨(opAssign (some 3) (.const (Value.int IntKind.i64 42)) 31 "heap.go:41" #[eC 0, eP 0]).op, none⟩
 ] (by kernel_rfl)))
 (.live [2, 3] .ret))
 .skip))
 (.seq (.live [2, 3] (.region 13 [
 ⟨(opMove (some 27) (.tmp 4) 26 "heap.go:43" #[]).op, none⟩,
 ⟨(opAssign (some 2) (.tmp 27) 26 "heap.go:43" #[eD 0, eP 0]).op, none⟩,
 ⟨(opAssign (some 3) (.const (Value.int IntKind.i64 0)) 31 "heap.go:43" #[eC 1, eP 0, eP 1]).op, none⟩
 ] (by kernel_rfl)))
 (.live [2, 3] .ret)))

noncomputable def f24_b : Sim Try.prog :=
 (.seq (.live [0] (.region 0 [
 ⟨(opAssign (some 2) (.const (Value.pointer none)) 26 "heap.go:29" #[]).op, none⟩,
 ⟨(opAssign (some 3) (.const (Value.int IntKind.i64 0)) 31 "heap.go:29" #[eC 0]).op, none⟩
 ] (by kernel_rfl)))
 (.seq (.seq (.live [0, 9] (.region 1 [
 ⟨(opMove (some 7) (.tmp 0) 22 "heap.go:30" #[]).op, none⟩,
 ⟨(opLen (some 8) (.tmp 7) 22 (.slice 34) Try.underlying22 3 "heap.go:30" #[eD 0]).op, none⟩,
 ⟨(opBin (some 9) .gtr 3 (.tmp 8) (.const (Value.int IntKind.i64 256)) 3 4 "heap.go:30" #[eD 1]).op, none⟩
 ] (by kernel_rfl)))
 (.cond (.tmp 9)
 (.seq (.live [2, 3] (.region 2 [
 ⟨(opAssign (some 2) (.const (Value.pointer none)) 26 "heap.go:31" #[]).op, none⟩,
 ⟨(opAssign (some 3) (.const (Value.int IntKind.i64 42)) 31 "heap.go:31" #[eC 0, eP 0]).op, none⟩
 ] (by kernel_rfl)))
 (.live [2, 3] .ret))
 .skip))
 (.seq (.live [0, 4] (.region 3 [
 ⟨opCall (s11).orc (some 10) [] #[] 26 "heap.go:33" #[], none⟩,
 ⟨(opAssign (some 4) (.tmp 10) 26 "heap.go:33" #[eD 0, eC 0, eP 0]).op, none⟩
 ] (by kernel_rfl)))
 (.seq (.seq (.live [4, 11, 12, 13] (.region 4 [
 ⟨(opMove (some 11) (.tmp 0) 22 "heap.go:34" #[]).op, none⟩,
 ⟨(opLen (some 12) (.tmp 11) 22 (.slice 34) Try.underlying22 3 "heap.go:34" #[eD 0]).op, none⟩,
 ⟨(opMove (some 13) (.const (Value.int IntKind.i64 0)) 3 "heap.go:34" #[]).op, none⟩
 ] (by kernel_rfl)))
 (.block 0 (.loop [4, 11, 12, 13] f24_l0)))
 f24_r0))))

noncomputable def f24 : Fun Try.prog where
 id := 24
 fn := Try.f24
 hf := Try.func24
 hname := by kernel_rfl
 body := f24_b
 hbody := by kernel_rfl
 res := [rTmp 2, rTmp 3]
 hres := by kernel_rfl
 n := 28
 hn := by kernel_rfl

end Go.Proofs.Ytljigmghdpkdlaa.V

/- What the functions' runs come to; the right sides were printed by a tool, Lean checks them. -/
set_option linter.unusedVariables false
set_option maxRecDepth 100000
namespace Go.Proofs.Ytljigmghdpkdlaa.V
open Go Go.V Go.RowKit

theorem load_run (F : Nat) (z : Bool) (l : List (List AV)) :
 (f24.run F [.ns z 1 l] ⟨[], []⟩ : Ans) =
 branch (AV.bool (decide ((↑l.length : Int) > (256 : Int))))
 (some (Fin.ret (AV.tup [AV.nilptr, AV.int IntKind.i64 (42 : Int)]), St.mk [] []))
 (loopRun (f24_l0.run F) [4, 11, 12, 13]
 (Cont.block 0 (Cont.then (f24_r0.run F (f24.leaveK Fun.done)) (f24.leaveK Fun.done))) F
 (Env.mk 28
 [(4, AV.ptr 0 0), (11, AV.ns z 1 l),
 (12, AV.int IntKind.i64 (↑l.length : Int)), (13, AV.int IntKind.i64 (0 : Int))])
 (St.mk [hpA.ob 0 hp0 0, hpA.ob 0 hp0 1, hpA.ob 0 hp0 2] [])) := by kernel_rfl

theorem load_round (F m i n : Nat) (z : Bool) (l : List (List AV)) (X : Hp) (K : Cont) :
 (loopRun (f24_l0.run F) [4, 11, 12, 13] K m.succ (Env.mk 28 [(4, .ptr 0 0), (11, .ns z 1 l), (12, .int .i64 (n : Int)), (13, .int .i64 (i : Int))]) ⟨[hpA.ob 0 X 0, hpA.ob 0 X 1, hpA.ob 0 X 2], []⟩ : Ans) =
 branch (AV.bool (decide ((↑i : Int) < (↑n : Int))))
 (branch (AV.bool (inR l (↑i : Int)))
 (branch (AV.bool ((LD.one (LT.ns 1)).is (V.rowAt l (↑i : Int))))
 (branch (AV.bool (byOk (rwA (V.rowAt l (↑i : Int)))))
 (branch (AV.bool !ofBo (nR (rwA (V.rowAt l (↑i : Int)))))
 (K AX.ret (Env.mk 28 [(2, AV.nilptr), (3, AV.int IntKind.i64 (42 : Int))])
 (St.mk [hpA.ob 0 X 0, hpA.ob 0 X 1, hpA.ob 0 X 2] []))
 (branch
 (AV.bool
 (!nilA (V.rowAt l (↑i : Int)) &&
 (byOk (rwA (V.rowAt l (↑i : Int))) && apOk (rwA (V.rowAt l (↑i : Int))).length 1)))
 (onSome
 (hpA.G 0
 [hpA.ob 0 X 0, hpA.ob 0 X 1, hpA.ob 0 X 2])
 none fun (o : Hp) =>
 branch (AV.bool (true && (pgOkB (rwA (V.rowAt l (↑i : Int))) && o.n.blt 300)))
 (loopRun (f24_l0.run F) [4, 11, 12, 13] K m
 (Env.mk 28
 [(4, AV.ptr 0 0), (11, AV.ns z 1 l),
 (12, AV.int IntKind.i64 (↑n : Int)),
 (13, AV.int IntKind.i64 (IntKind.i64.wrap ((↑i : Int) + (1 : Int))))])
 (St.mk
 [hpA.ob 0 (o.grow (nR (rwA (V.rowAt l (↑i : Int))))) 0,
 hpA.ob 0 (o.grow (nR (rwA (V.rowAt l (↑i : Int))))) 1,
 hpA.ob 0 (o.grow (nR (rwA (V.rowAt l (↑i : Int))))) 2]
 []))
 none)
 none))
 none)
 none)
 none)
 (K (AX.exit 0) (Env.mk 28 [(4, AV.ptr 0 0)])
 (St.mk [hpA.ob 0 X 0, hpA.ob 0 X 1, hpA.ob 0 X 2] [])) := by kernel_rfl

theorem load_out (F : Nat) (X : Hp) :
 ((Cont.block 0 (Cont.then (f24_r0.run F (f24.leaveK Fun.done)) (f24.leaveK Fun.done))) (.exit 0) (Env.mk 28 [(4, .ptr 0 0)]) ⟨[hpA.ob 0 X 0, hpA.ob 0 X 1, hpA.ob 0 X 2], []⟩ : Ans) =
 onSome (hpA.G 0 [hpA.ob 0 X 0, hpA.ob 0 X 1, hpA.ob 0 X 2]) none
 fun (o : Hp) =>
 branch (AV.bool (decide (o.trim.n < o.n)))
 (some
 (Fin.ret (AV.tup [AV.nilptr, AV.int IntKind.i64 (42 : Int)]),
 St.mk [hpA.ob 0 o.trim 0, hpA.ob 0 o.trim 1, hpA.ob 0 o.trim 2]
 []))
 (some
 (Fin.ret (AV.tup [AV.ptr 0 0, AV.int IntKind.i64 (0 : Int)]),
 St.mk [hpA.ob 0 o.trim 0, hpA.ob 0 o.trim 1, hpA.ob 0 o.trim 2]
 [])) := by kernel_rfl

end Go.Proofs.Ytljigmghdpkdlaa.V

/- Heap: Load, as a callee (right pages alone). -/
set_option linter.unusedVariables false
namespace Go.Proofs.Ytljigmghdpkdlaa.V
open Go Go.V Go.RowKit

def Hp.growL (X : Hp) : List (List Nat) → Hp
  | [] => X
  | p :: t => Hp.growL (X.grow p) t
theorem Hp.growL_ok : ∀ (t : List (List Nat)) {X : Hp}, X.Ok → (∀ p ∈ t, PgB p) → X.n + t.length ≤ 300 → (X.growL t).Ok ∧ (X.growL t).pg_ = X.pg_ ++ t ∧ (X.growL t).n = X.n + t.length
  | [], X, h, _, _ => ⟨h, by simp [Hp.growL], rfl⟩
  | p :: t, X, h, hp, hn => by
    rw [List.length_cons] at hn
    obtain ⟨a1, a2, a3⟩ := Hp.growL_ok t (h.grow (hp p (by simp)) (by omega)) (fun q hq => hp q (by simp [hq])) (by show X.n + 1 + t.length ≤ 300; omega)
    refine ⟨a1, ?_, ?_⟩
    · rw [Hp.growL, a2, Hp.grow_pg h, List.append_assoc]; rfl
    · rw [Hp.growL, a3, List.length_cons]; show X.n + 1 + t.length = _; omega
structure LoadOk (ps : List (List Nat)) : Prop where
  pg : ∀ p ∈ ps, PgB p
  n : ps.length ≤ 256
  ti : ∀ m, ps.length = m + 1 → slN (ps.getD m []) ≠ 0
noncomputable def loadB (l : List (List AV)) : Bool := cdec (okBs l = true ∧ (∀ r ∈ l, nilA r = false) ∧ LoadOk (bsR l))
theorem loadB_iff {l : List (List AV)} : loadB l = true ↔ okBs l = true ∧ (∀ r ∈ l, nilA r = false) ∧ LoadOk (bsR l) := cdec_iff
noncomputable def loadT (ps : List (List Nat)) : Hp := (hp0.growL ps).trim
theorem loadT_fine {ps : List (List Nat)} (h : LoadOk ps) : (loadT ps).Fine ∧ (loadT ps).pg_ = ps ∧ (loadT ps).n = (hp0.growL ps).n := by
  obtain ⟨a1, a2, a3⟩ := Hp.growL_ok ps hp0_ok h.pg (by have := h.n; show 0 + ps.length ≤ 300; omega)
  have a2 : (hp0.growL ps).pg_ = ps := a2
  have a3 : (hp0.growL ps).n = ps.length := by rw [a3]; show 0 + ps.length = _; omega
  have hle : (hp0.growL ps).trim.n ≤ (hp0.growL ps).n := trH_le _ _
  have ti : (hp0.growL ps).Tight := by
    intro m hm
    rw [a3] at hm
    have := h.ti m hm
    rw [Hp.at_, a2]
    rw [List.getD_eq_getElem?_getD, List.getElem?_eq_getElem (by omega)] at this
    rw [List.getElem?_eq_getElem (by omega)]
    exact this
  have f : (loadT ps).Fine := ⟨a1.trim, Hp.trim_tight a1, by show (hp0.growL ps).trim.n ≤ 256; have := h.n; omega⟩
  have e : (loadT ps).pg_ = (hp0.growL ps).pg_ := Hp.pages_ext f.ok a1 f.ti ti fun i => Hp.at_trim a1 i
  refine ⟨f, by rw [e, a2], ?_⟩
  have h1 := Hp.pg_len f.ok
  have h2 := Hp.pg_len a1
  rw [e] at h1
  omega
theorem load_loop (F : Nat) (z : Bool) (l : List (List AV)) (h : loadB l = true) : ∀ (d i m : Nat) (X : Hp), X.Ok → X.n ≤ i → i + d = l.length → d < m → ∀ K,
    loopRun (f24_l0.run F) [4, 11, 12, 13] K m (Env.mk 28 [(4, .ptr 0 0), (11, .ns z 1 l), (12, .int .i64 (l.length : Int)), (13, .int .i64 (i : Int))]) ⟨[hpA.ob 0 X 0, hpA.ob 0 X 1, hpA.ob 0 X 2], []⟩
      = K (.exit 0) (Env.mk 28 [(4, .ptr 0 0)]) ⟨[hpA.ob 0 (X.growL ((bsR l).drop i)) 0, hpA.ob 0 (X.growL ((bsR l).drop i)) 1, hpA.ob 0 (X.growL ((bsR l).drop i)) 2], []⟩
  | d, i, 0, X, _, _, _, h, K => by omega
  | 0, i, m + 1, X, _, _, hi, _, K => by
    rw [show m + 1 = m.succ from rfl, load_round, branch_not (decide_eq_false (by omega)), List.drop_eq_nil_of_le (by simp [bsR]; omega)]; rfl
  | d + 1, i, m + 1, X, hX, hx, hi, hm, K => by
    obtain ⟨h1, h2, h3⟩ := loadB_iff.mp h
    have hn := h3.n
    have hbl : (bsR l).length = l.length := by simp [bsR]
    have hlt : i < l.length := by omega
    obtain ⟨a1, a2, a3, a4⟩ := isB_at (okBs_iff.mp h1).1 hlt
    have e : (bsR l)[i]'(by omega) = nR (rwA l[i]) := by simp [bsR]
    have hp : PgB (nR (rwA l[i])) := by rw [← e]; exact h3.pg _ (List.getElem_mem _)
    have hr := okR_rows (byOk_iff.mp a3).1
    rw [a4] at a3 hr
    have ap : apOk (rwA l[i]).length 1 = true := by rw [apOk_iff, ← nR_length, hp.1.2.1]; omega
    rw [show m + 1 = m.succ from rfl, load_round, branch_of (decide_eq_true (by omega)), branch_of a1, branch_of a2, a4, branch_of a3, branch_not (by rw [ofBo, opq_eq, hp.1.2.2]; rfl), branch_of (by rw [h2 _ (List.getElem_mem hlt), a3, ap]; rfl), hp_Gob hX, onSome_some,
      branch_of (by rw [hr, pgOkB_bR hp, show X.n.blt 300 = true from Nat.blt_eq.mpr (by omega)]; rfl), wrap_succ (by omega), List.drop_eq_getElem_cons (show i < (bsR l).length by omega), e, Hp.growL]
    exact load_loop F z l h d (i + 1) m _ (hX.grow hp (by omega)) (by show X.n + 1 ≤ i + 1; omega) (by omega) (by omega) K
theorem load_at (z : Bool) {l : List (List AV)} (h : loadB l = true) : f24.run 1000 [.ns z 1 l] ⟨[], []⟩ = some (.ret (.tup [.ptr 0 0, .int .i64 0]), ⟨(loadT (bsR l)).obs ++ [], []⟩) := by
  obtain ⟨h1, h2, h3⟩ := loadB_iff.mp h
  have hn := h3.n
  have hbl : (bsR l).length = l.length := by simp [bsR]
  obtain ⟨f, e1, e2⟩ := loadT_fine h3
  obtain ⟨a1, _⟩ := Hp.growL_ok (bsR l) hp0_ok h3.pg (by show 0 + (bsR l).length ≤ 300; omega)
  rw [load_run, branch_not (decide_eq_false (by omega)), show (0 : Int) = ((0 : Nat) : Int) from rfl, load_loop 1000 z l h l.length 0 1000 hp0 hp0_ok (Nat.le_refl _) (by omega) (by omega), List.drop_zero, load_out, hp_Gob a1, onSome_some, branch_not (decide_eq_false (by show ¬ (loadT (bsR l)).n < _; omega)), List.append_nil, ← hp_obl f.ok]
  rfl
noncomputable def s24 : OrcS Try.prog := f24.by'
  (fun args st k => match args with
    | [x] => onNs 1 x fun _ l => ifT (loadB l) (k (.ret (.tup [.ptr st.objs.length 0, .int .i64 0])) (hpA.add st (opq (loadT (bsR l)))))
    | _ => none)
  fun args st k fin h => by
    split at h
    · rename_i x
      obtain ⟨z, l, h1, hx⟩ := onNs_spec h
      obtain ⟨h2, h3⟩ := ifT_spec h1
      refine ⟨_, _, h3, ?_⟩
      rw [opq_eq]
      obtain ⟨l1, l2, l3⟩ := loadB_iff.mp h2
      have := ADT.fresh (A := hpA) (f := f24) (x := loadT (bsR l)) (args0 := [.ns z 1 l]) (r := .tup [.ptr 0 0, .int .i64 0]) (xs := []) (load_at z h2) (loadT_fine l3).1.ok ⟨okBs_scoped (okBs_iff.mp l1).1, trivial⟩ ⟨by show 0 < 3; omega, trivial, trivial⟩ st
      exact CallsTo.wk this fun g w vs ⟨v, vr, e, r1, r2⟩ => ⟨v, vr, e, hx _ _ _ r1, r2⟩
    · cases h
theorem pgsV_load {X : Hp} (h : X.Fine) : loadB (pgsV X.pg_) = true := by
  have hl := Hp.pg_len h.ok
  have hn := h.n
  refine loadB_iff.mpr ⟨pgsV_ok (Hp.pg_ok h.ok) (by omega), fun r hr => ?_, ?_⟩
  · rw [pgsV, opq_eq, cR, pC, List.map_map, List.mem_map] at hr
    obtain ⟨b, _, rfl⟩ := hr
    rfl
  · rw [pgsV_bs]
    refine ⟨Hp.pg_ok h.ok, by omega, fun m hm => ?_⟩
    have := h.ti m (by omega)
    rw [Hp.at_lt (by omega)] at this
    rw [List.getD_eq_getElem?_getD, List.getElem?_eq_getElem (by omega)]
    exact this
end Go.Proofs.Ytljigmghdpkdlaa.V

/- The functions' pieces, as told by gen.py. -/
set_option linter.unusedVariables false
set_option maxRecDepth 20000
namespace Go.Proofs.Ytljigmghdpkdlaa.V
open Go Go.V Go.RowKit


/-! ### 8: interlock/interlocklaw07.HeapAfter (22, 3); results 4; slots: 0 rows, 1 most, 2 rows, 3 most, 5 h, 6 i, 7 all, 8 at, 9 got, 10 k, 11 l, 12 back, 13 e -/
/-- A loop's round; at its head live: 0 rows, 1 most, 5 h, 6 i -/
noncomputable def f8_l0 : Sim Try.prog :=
 (.seq (.seq (.live [0, 1, 5, 6, 32] (.region 7 [
 ⟨(opMove (some 29) (.tmp 6) 3 "law.go:201" #[]).op, none⟩,
 ⟨(opMove (some 30) (.tmp 0) 22 "law.go:201" #[]).op, none⟩,
 ⟨(opLen (some 31) (.tmp 30) 22 (.slice 34) Try.underlying22 3 "law.go:201" #[eD 1]).op, none⟩,
 ⟨(opBin (some 32) .lss 3 (.tmp 29) (.tmp 31) 3 4 "law.go:201" #[eD 0, eD 2]).op, none⟩
 ] (by kernel_rfl)))
 (.cond (.tmp 32)
 .skip
 (.live [1, 5] (.exit 0))))
 (.seq (.block 1 (.live [0, 1, 5, 6] (.region 9 [
 ⟨(opMove (some 35) (.tmp 5) 26 "law.go:202" #[]).op, none⟩,
 ⟨(opMove (some 36) (.tmp 0) 22 "law.go:202" #[]).op, none⟩,
 ⟨(opMove (some 37) (.tmp 6) 3 "law.go:202" #[]).op, none⟩,
 ⟨(opIndexAddrT (some 38) 22 (.tmp 36) (.tmp 37) 34 1 Try.underlying22 sz34 0 "law.go:202" #[eD 1, eD 2]).op, none⟩,
 ⟨(opLoadT (.one (.ns 1)) (some 39) 34 (.tmp 38) (.slice 5) Try.underlying34 1 sz34 (by kernel_rfl) 34 "law.go:202" #[eD 3]).op, none⟩,
 ⟨opCall (s12).orc (some 40) [(.tmp 35), (.tmp 39)] #[26, 34] 32 "law.go:202" #[eD 0, eD 4], none⟩
 ] (by kernel_rfl))))
 (.live [0, 1, 5, 6] (.region 8 [
 ⟨(opMove (some 33) (.tmp 6) 3 "law.go:201" #[]).op, none⟩,
 ⟨(opBin (some 34) .add 3 (.tmp 33) (.const (Value.int IntKind.i64 1)) 3 3 "law.go:201" #[eD 0]).op, none⟩,
 ⟨(opAssign (some 6) (.tmp 34) 3 "law.go:201" #[eD 1, eP 0, eP 1]).op, none⟩
 ] (by kernel_rfl)))))

/-- A loop's round; at its head live: 1 most, 5 h, 7 all, 8 at, 9 got, 10 k -/
noncomputable def f8_l1 : Sim Try.prog :=
 (.seq (.seq (.live [1, 5, 7, 8, 9, 10, 48] (.region 14 [
 ⟨(opMove (some 45) (.tmp 10) 3 "law.go:207" #[]).op, none⟩,
 ⟨(opMove (some 46) (.tmp 7) 40 "law.go:207" #[]).op, none⟩,
 ⟨(opLen (some 47) (.tmp 46) 40 (.slice 30) Try.underlying40 3 "law.go:207" #[eD 1]).op, none⟩,
 ⟨(opBin (some 48) .leq 3 (.tmp 45) (.tmp 47) 3 4 "law.go:207" #[eD 0, eD 2]).op, none⟩
 ] (by kernel_rfl)))
 (.cond (.tmp 48)
 .skip
 (.live [5, 7, 9] (.exit 2))))
 (.seq (.block 3 (.seq (.live [1, 5, 7, 8, 9, 10, 11] (.region 16 [
 ⟨(opMove (some 51) (.tmp 5) 26 "law.go:208" #[]).op, none⟩,
 ⟨(opLoadT (.agg [(.int .i64), (.int .i64)]) (some 52) 30 (.tmp 8) d30 ud30 2 sz30 (by kernel_rfl) 30 "law.go:208" #[]).op, none⟩,
 ⟨(opMove (some 53) (.tmp 1) 3 "law.go:208" #[]).op, none⟩,
 ⟨(opCallQ q31 (some 54) [(.tmp 51), (.tmp 52), (.tmp 53)] #[26, 30, 3] 40 "law.go:208" #[eD 0, eD 1, eD 2]).op, none⟩,
 ⟨(opAssign (some 11) (.tmp 54) 40 "law.go:208" #[eD 3, eC 3, eP 0, eP 1, eP 2, eP 3]).op, none⟩
 ] (by kernel_rfl)))
 (.seq (.seq (.live [1, 5, 7, 8, 9, 10, 11, 58] (.region 17 [
 ⟨(opMove (some 55) (.tmp 11) 40 "law.go:209" #[]).op, none⟩,
 ⟨(opLen (some 56) (.tmp 55) 40 (.slice 30) Try.underlying40 3 "law.go:209" #[eD 0]).op, none⟩,
 ⟨(opMove (some 57) (.tmp 1) 3 "law.go:209" #[]).op, none⟩,
 ⟨(opBin (some 58) .gtr 3 (.tmp 56) (.tmp 57) 3 4 "law.go:209" #[eD 1, eD 2]).op, none⟩
 ] (by kernel_rfl)))
 (.cond (.tmp 58)
 (.seq (.live [4] (.region 18 [
 ⟨(opAssign (some 4) (.const (Value.bool false)) 4 "law.go:210" #[]).op, none⟩
 ] (by kernel_rfl)))
 (.live [4] .ret))
 .skip))
 (.seq (.seq (.live [1, 5, 7, 8, 9, 10, 11, 61] (.region 19 [
 ⟨(opMove (some 59) (.tmp 11) 40 "law.go:212" #[]).op, none⟩,
 ⟨(opLen (some 60) (.tmp 59) 40 (.slice 30) Try.underlying40 3 "law.go:212" #[eD 0]).op, none⟩,
 ⟨(opBin (some 61) .eql 3 (.tmp 60) (.const (Value.int IntKind.i64 0)) 3 4 "law.go:212" #[eD 1]).op, none⟩
 ] (by kernel_rfl)))
 (.cond (.tmp 61)
 (.live [5, 7, 9] (.exit 2))
 .skip))
 (.seq (.live [1, 5, 7, 8, 9, 10, 11] (.region 20 [
 ⟨(opMove (some 62) (.tmp 9) 40 "law.go:215" #[]).op, none⟩,
 ⟨(opMove (some 63) (.tmp 11) 40 "law.go:215" #[]).op, none⟩,
 ⟨(opAppendV (some 64) (.tmp 62) (.tmp 63) 40 40 30 2 16 (.agg #[(.int .i64 0), (.int .i64 0)]) el40 (.slice 30) Try.underlying40 rfl 40 "law.go:215" #[eD 0, eD 1]).op, none⟩,
 ⟨(opAssign (some 9) (.tmp 64) 40 "law.go:215" #[eD 2, eC 2, eP 0, eP 1, eP 2]).op, none⟩
 ] (by kernel_rfl)))
 (.live [1, 5, 7, 8, 9, 10] (.region 21 [
 ⟨(opMove (some 65) (.tmp 11) 40 "law.go:216" #[]).op, none⟩,
 ⟨(opMove (some 66) (.tmp 11) 40 "law.go:216" #[]).op, none⟩,
 ⟨(opLen (some 67) (.tmp 66) 40 (.slice 30) Try.underlying40 3 "law.go:216" #[eD 1]).op, none⟩,
 ⟨(opBin (some 68) .sub 3 (.tmp 67) (.const (Value.int IntKind.i64 1)) 3 3 "law.go:216" #[eD 2]).op, none⟩,
 ⟨(opIndexAddrT (some 69) 40 (.tmp 65) (.tmp 68) 30 2 Try.underlying40 sz30 0 "law.go:216" #[eD 0, eD 3]).op, none⟩,
 ⟨(opLoadT (.agg [(.int .i64), (.int .i64)]) (some 70) 30 (.tmp 69) d30 ud30 2 sz30 (by kernel_rfl) 30 "law.go:216" #[eD 4]).op, none⟩,
 ⟨(opStore none 30 (.tmp 8) (.tmp 70) 2 sz30 0 "law.go:216" #[eD 5, eP 0, eP 1, eP 2, eP 3, eP 4, eP 5]).op, none⟩
 ] (by kernel_rfl))))))))
 (.live [1, 5, 7, 8, 9, 10] (.region 15 [
 ⟨(opMove (some 49) (.tmp 10) 3 "law.go:207" #[]).op, none⟩,
 ⟨(opBin (some 50) .add 3 (.tmp 49) (.const (Value.int IntKind.i64 1)) 3 3 "law.go:207" #[eD 0]).op, none⟩,
 ⟨(opAssign (some 10) (.tmp 50) 3 "law.go:207" #[eD 1, eP 0, eP 1]).op, none⟩
 ] (by kernel_rfl)))))

/-- What follows a loop. -/
noncomputable def f8_r0 : Sim Try.prog :=
 (.seq (.live [7, 9, 12, 13] (.region 22 [
 ⟨(opMove (some 72) (.tmp 5) 26 "law.go:218" #[]).op, none⟩,
 ⟨(opCallQ q17 (some 73) [(.tmp 72)] #[26] 22 "law.go:218" #[eD 0]).op, none⟩,
 ⟨opCall (s24).orc (some 74) [(.tmp 73)] #[22] 54 "law.go:218" #[eD 1, eC 1], none⟩,
 ⟨(opMove (some 71) (.tmp 74) 54 "law.go:218" #[eD 2]).op, none⟩,
 ⟨(opExtract (some 75) (.tmp 71) 0 26 "law.go:218" #[eD 3]).op, none⟩,
 ⟨(opExtract (some 76) (.tmp 71) 1 31 "law.go:218" #[eD 3, { on := 6, ground := (Ground.gcOnly Departure.lateStores) }]).op, none⟩,
 ⟨(opAssign (some 12) (.tmp 75) 26 "law.go:218" #[eD 4, eC 2, eP 0, eP 1, eP 2, eP 3, eP 4, { on := 5, ground := (Ground.textOnly Departure.lateStores) }]).op, none⟩,
 ⟨(opAssign (some 13) (.tmp 76) 31 "law.go:218" #[eD 5, eC 6, eP 0, eP 1, eP 2, eP 3, eP 4, eP 5, eP 6]).op, none⟩
 ] (by kernel_rfl)))
 (.seq (.live [4] (.region 23 [
 ⟨(opMove (some 77) (.tmp 13) 31 "law.go:219" #[]).op, none⟩,
 ⟨(opBin (some 78) .eql 31 (.tmp 77) (.const (Value.int IntKind.i64 0)) 31 4 "law.go:219" #[eD 0]).op, none⟩,
 ⟨(opMove (some 79) (.tmp 78) 4 "law.go:219" #[eD 1]).op, none⟩,
 ⟨(opMove (some 80) (.tmp 12) 26 "law.go:219" #[eG 2]).op, (some (2, 79, true))⟩,
 ⟨(opNe (some 81) 26 (.pointer 67) Try.underlying26 (.tmp 80) (.const (Value.pointer none)) (.inl rfl) 26 4 "law.go:219" #[eD 3, eG 2]).op, (some (2, 79, true))⟩,
 ⟨(opPick (some 82) (.tmp 79) (.tmp 81) (.const (Value.bool false)) 4 "law.go:219" #[eD 2, eD 4]).op, none⟩,
 ⟨(opMove (some 83) (.tmp 82) 4 "law.go:219" #[eD 5, eC 2]).op, none⟩,
 ⟨(opMoveZn (some 84) (.tmp 9) 40 "law.go:219" #[eG 6]).op, (some (6, 83, true))⟩,
 ⟨(opMove (some 85) (.tmp 7) 40 "law.go:219" #[eG 6]).op, (some (6, 83, true))⟩,
 ⟨(opCallP p29 (some 86) [(.tmp 84), (.tmp 85)] #[40, 40] 4 "law.go:219" #[eD 7, eD 8, eC 6, eG 6]).op, (some (6, 83, true))⟩,
 ⟨(opPick (some 87) (.tmp 83) (.tmp 86) (.const (Value.bool false)) 4 "law.go:219" #[eD 6, eD 9]).op, none⟩,
 ⟨(opMove (some 88) (.tmp 87) 4 "law.go:219" #[eD 10, eC 9]).op, none⟩,
 ⟨(opMove (some 89) (.tmp 12) 26 "law.go:219" #[eG 11]).op, (some (11, 88, true))⟩,
 ⟨(opCallQ q16 (some 90) [(.tmp 89)] #[26] 40 "law.go:219" #[eD 12, eC 11, eG 11]).op, (some (11, 88, true))⟩,
 ⟨(opMove (some 91) (.tmp 7) 40 "law.go:219" #[eG 11]).op, (some (11, 88, true))⟩,
 ⟨(opCallP p29 (some 92) [(.tmp 90), (.tmp 91)] #[40, 40] 4 "law.go:219" #[eD 13, eD 14, eC 13, eG 11]).op, (some (11, 88, true))⟩,
 ⟨(opPick (some 93) (.tmp 88) (.tmp 92) (.const (Value.bool false)) 4 "law.go:219" #[eD 11, eD 15]).op, none⟩,
 ⟨(opAssign (some 4) (.tmp 93) 4 "law.go:219" #[eD 16, eC 15, eP 0, eP 1, eP 2, eP 3, eP 4, eP 5, eP 6, eP 7, eP 8, eP 9, eP 10, eP 11, eP 12, eP 13, eP 14, eP 15, eP 16]).op, none⟩
 ] (by kernel_rfl)))
 (.live [4] .ret)))

/-- What follows a loop. -/
noncomputable def f8_r1 : Sim Try.prog :=
 (.seq (.live [1, 5, 7] (.region 10 [
 ⟨(opMove (some 41) (.tmp 5) 26 "law.go:204" #[]).op, none⟩,
 ⟨(opCallQ q16 (some 42) [(.tmp 41)] #[26] 40 "law.go:204" #[eD 0]).op, none⟩,
 ⟨(opAssign (some 7) (.tmp 42) 40 "law.go:204" #[eD 1, eC 1, eP 0, eP 1]).op, none⟩
 ] (by kernel_rfl)))
 (.seq (.live [1, 5, 7, 8] (.region 11 [
 ⟨(opBuild (some 43) 30 #[(.int .i64 0), (.int .i64 0)] [(1, 1, 1, (.const (Value.int IntKind.i64 (-1))))] ze30 (by kernel_rfl) 30 "law.go:205" #[]).op, none⟩,
 ⟨(opAlloc (some 8) 30 (.agg #[(.int .i64 0), (.int .i64 0)]) ze30 0 "law.go:205" #[]).op, none⟩,
 ⟨(opStore none 30 (.tmp 8) (.tmp 43) 2 sz30 0 "law.go:205" #[eD 1, eD 0, eP 0, eP 1]).op, none⟩
 ] (by kernel_rfl)))
 (.seq (.live [1, 5, 7, 8, 9] (.region 12 [
 ⟨(opBuildSlice (some 44) 40 0 [] 30 2 16 (.agg #[(.int .i64 0), (.int .i64 0)]) el40 (by kernel_rfl) (by decide) 40 "law.go:206" #[]).op, none⟩,
 ⟨(opAssign (some 9) (.tmp 44) 40 "law.go:206" #[eD 0, eP 0]).op, none⟩
 ] (by kernel_rfl)))
 (.seq (.seq (.live [1, 5, 7, 8, 9, 10] (.region 13 [
 ⟨(opAssign (some 10) (.const (Value.int IntKind.i64 0)) 3 "law.go:207" #[]).op, none⟩
 ] (by kernel_rfl)))
 (.block 2 (.loop [1, 5, 7, 8, 9, 10] f8_l1)))
 f8_r0))))

noncomputable def f8_b : Sim Try.prog :=
 (.seq (.live [0, 1] (.region 0 [
 ⟨(opAssign (some 4) (.const (Value.bool false)) 4 "law.go:193" #[]).op, none⟩
 ] (by kernel_rfl)))
 (.seq (.seq (.live [0, 1, 15] (.region 1 [
 ⟨(opCallP p9 (some 14) [] #[] 4 "law.go:194" #[]).op, none⟩,
 ⟨(opNot (some 15) 4 (.tmp 14) 4 "law.go:194" #[eD 0]).op, none⟩
 ] (by kernel_rfl)))
 (.cond (.tmp 15)
 (.seq (.live [4] (.region 2 [
 ⟨(opAssign (some 4) (.const (Value.bool false)) 4 "law.go:195" #[]).op, none⟩
 ] (by kernel_rfl)))
 (.live [4] .ret))
 .skip))
 (.seq (.seq (.live [0, 1, 27] (.region 3 [
 ⟨(opMove (some 16) (.tmp 0) 22 "law.go:197" #[]).op, none⟩,
 ⟨(opLen (some 17) (.tmp 16) 22 (.slice 34) Try.underlying22 3 "law.go:197" #[eD 0]).op, none⟩,
 ⟨(opBin (some 18) .gtr 3 (.tmp 17) (.const (Value.int IntKind.i64 60)) 3 4 "law.go:197" #[eD 1]).op, none⟩,
 ⟨(opMove (some 19) (.tmp 18) 4 "law.go:197" #[eD 2]).op, none⟩,
 ⟨(opMove (some 20) (.tmp 0) 22 "law.go:197" #[eG 3]).op, (some (3, 19, false))⟩,
 ⟨(opCallP p10 (some 21) [(.tmp 20), (.const (Value.int IntKind.i64 12000))] #[22, 3] 3 "law.go:197" #[eD 4, eC 3, eG 3]).op, (some (3, 19, false))⟩,
 ⟨(opBin (some 22) .gtr 3 (.tmp 21) (.const (Value.int IntKind.i64 12000)) 3 4 "law.go:197" #[eD 5, eG 3]).op, (some (3, 19, false))⟩,
 ⟨(opPick (some 23) (.tmp 19) (.const (Value.bool true)) (.tmp 22) 4 "law.go:197" #[eD 3, eD 6]).op, none⟩,
 ⟨(opMove (some 24) (.tmp 23) 4 "law.go:197" #[eD 7, eC 5]).op, none⟩,
 ⟨(opMove (some 25) (.tmp 1) 3 "law.go:197" #[eG 8]).op, (some (8, 24, false))⟩,
 ⟨(opBin (some 26) .lss 3 (.tmp 25) (.const (Value.int IntKind.i64 1)) 3 4 "law.go:197" #[eD 9, eG 8]).op, (some (8, 24, false))⟩,
 ⟨(opPick (some 27) (.tmp 24) (.const (Value.bool true)) (.tmp 26) 4 "law.go:197" #[eD 8, eD 10]).op, none⟩
 ] (by kernel_rfl)))
 (.cond (.tmp 27)
 (.seq (.live [4] (.region 4 [
 ⟨(opAssign (some 4) (.const (Value.bool true)) 4 "law.go:198" #[]).op, none⟩
 ] (by kernel_rfl)))
 (.live [4] .ret))
 .skip))
 (.seq (.live [0, 1, 5] (.region 5 [
 ⟨opCall (s11).orc (some 28) [] #[] 26 "law.go:200" #[], none⟩,
 ⟨(opAssign (some 5) (.tmp 28) 26 "law.go:200" #[eD 0, eC 0, eP 0]).op, none⟩
 ] (by kernel_rfl)))
 (.seq (.seq (.live [0, 1, 5, 6] (.region 6 [
 ⟨(opAssign (some 6) (.const (Value.int IntKind.i64 0)) 3 "law.go:201" #[]).op, none⟩
 ] (by kernel_rfl)))
 (.block 0 (.loop [0, 1, 5, 6] f8_l0)))
 f8_r1)))))

noncomputable def f8 : Fun Try.prog where
 id := 8
 fn := Try.f8
 hf := Try.func8
 hname := by kernel_rfl
 body := f8_b
 hbody := by kernel_rfl
 res := [rTmp 4]
 hres := by kernel_rfl
 n := 94
 hn := by kernel_rfl

end Go.Proofs.Ytljigmghdpkdlaa.V

/- What the functions' runs come to; the right sides were printed by a tool, Lean checks them. -/
set_option linter.unusedVariables false
set_option maxRecDepth 100000
namespace Go.Proofs.Ytljigmghdpkdlaa.V
open Go Go.V Go.RowKit

theorem aft_law (F : Nat) (z : Bool) (l : List (List AV)) (q : Int) :
 (f8.run F [.ns z 1 l, .int .i64 q] ⟨[], []⟩ : Ans) =
 branch (AV.bool (decide ((↑l.length : Int) > (60 : Int)))) (some (Fin.ret (AV.bool true), St.mk [] []))
 (branch (AV.bool (okBs l && true))
 (branch (AV.bool (decide (weighV l (12000 : Int) > (12000 : Int)))) (some (Fin.ret (AV.bool true), St.mk [] []))
 (branch (AV.bool (decide (q < (1 : Int)))) (some (Fin.ret (AV.bool true), St.mk [] []))
 (loopRun (f8_l0.run F) [0, 1, 5, 6]
 (Cont.block 0 (Cont.then (f8_r1.run F (f8.leaveK Fun.done)) (f8.leaveK Fun.done))) F
 (Env.mk 94
 [(0, AV.ns z 1 l), (1, AV.int IntKind.i64 q),
 (5, AV.ptr 0 0), (6, AV.int IntKind.i64 (0 : Int))])
 (St.mk [hpA.ob 0 hp0 0, hpA.ob 0 hp0 1, hpA.ob 0 hp0 2] []))))
 none) := by kernel_rfl

theorem aft_round (F m i : Nat) (z : Bool) (l : List (List AV)) (q : Int) (X : Hp) (K : Cont) :
 (loopRun (f8_l0.run F) [0, 1, 5, 6] K m.succ (Env.mk 94 [(0, .ns z 1 l), (1, .int .i64 q), (5, .ptr 0 0), (6, .int .i64 (i : Int))]) ⟨[hpA.ob 0 X 0, hpA.ob 0 X 1, hpA.ob 0 X 2], []⟩ : Ans) =
 branch (AV.bool (decide ((↑i : Int) < (↑l.length : Int))))
 (branch (AV.bool (inR l (↑i : Int)))
 (branch (AV.bool ((LD.one (LT.ns 1)).is (V.rowAt l (↑i : Int))))
 (onSome
 (hpA.G 0 [hpA.ob 0 X 0, hpA.ob 0 X 1, hpA.ob 0 X 2])
 none fun (o : Hp) =>
 branch (AV.bool (byOk (rwA (V.rowAt l (↑i : Int)))))
 (loopRun (f8_l0.run F) [0, 1, 5, 6] K m
 (Env.mk 94
 [(0, AV.ns z 1 l), (1, AV.int IntKind.i64 q),
 (5, AV.ptr 0 0),
 (6, AV.int IntKind.i64 (IntKind.i64.wrap ((↑i : Int) + (1 : Int))))])
 (St.mk
 [hpA.ob 0 (o.addO (nR (rwA (V.rowAt l (↑i : Int))))) 0,
 hpA.ob 0 (o.addO (nR (rwA (V.rowAt l (↑i : Int))))) 1,
 hpA.ob 0 (o.addO (nR (rwA (V.rowAt l (↑i : Int))))) 2]
 []))
 none)
 none)
 none)
 (K (AX.exit 0)
 (Env.mk 94 [(1, AV.int IntKind.i64 q), (5, AV.ptr 0 0)])
 (St.mk [hpA.ob 0 X 0, hpA.ob 0 X 1, hpA.ob 0 X 2] [])) := by kernel_rfl

theorem aft_out (F : Nat) (q : Int) (X : Hp) :
 ((Cont.block 0 (Cont.then (f8_r1.run F (f8.leaveK Fun.done)) (f8.leaveK Fun.done))) (.exit 0) (Env.mk 94 [(1, .int .i64 q), (5, .ptr 0 0)]) ⟨[hpA.ob 0 X 0, hpA.ob 0 X 1, hpA.ob 0 X 2], []⟩ : Ans) =
 onSome (hpA.G 0 [hpA.ob 0 X 0, hpA.ob 0 X 1, hpA.ob 0 X 2]) none
 fun (o : Hp) =>
 loopRun (f8_l1.run F) [1, 5, 7, 8, 9, 10]
 (Cont.block 2 (Cont.then (f8_r0.run F (f8.leaveK Fun.done)) (f8.leaveK Fun.done))) F
 (Env.mk 94
 [(1, AV.int IntKind.i64 q), (5, AV.ptr 0 0),
 (7, AV.ns (ridsE o.rids) 2 (ridsV o.rids)), (8, AV.ptr 3 0),
 (9, AV.sl 2 true []), (10, AV.int IntKind.i64 (0 : Int))])
 (St.mk
 [hpA.ob 0 X 0, hpA.ob 0 X 1, hpA.ob 0 X 2,
 Ob.cells [AV.int IntKind.i64 (0 : Int), AV.int IntKind.i64 (-1 : Int)]]
 []) := by kernel_rfl

theorem aft_r0 (F m i : Nat) (z : Bool) (l : List (List AV)) (q p s : Int) (X : Hp) (K : Cont) :
 (loopRun (f8_l1.run F) [1, 5, 7, 8, 9, 10] K m.succ (Env.mk 94 [(1, .int .i64 q), (5, .ptr 0 0), (7, .ns z 2 l), (8, .ptr 3 0), (9, .sl 2 true []), (10, .int .i64 (i : Int))]) ⟨[hpA.ob 0 X 0, hpA.ob 0 X 1, hpA.ob 0 X 2, .cells [.int .i64 p, .int .i64 s]], []⟩ : Ans) =
 branch (AV.bool (decide ((↑i : Int) ≤ (↑l.length : Int))))
 (onSome (hpA.G 0 [hpA.ob 0 X 0, hpA.ob 0 X 1, hpA.ob 0 X 2])
 none fun (o : Hp) =>
 branch (AV.bool (decide ((↑(ridsV (o.after p s q)).length : Int) > q)))
 (K AX.ret (Env.mk 94 [(4, AV.bool false)])
 (St.mk
 [hpA.ob 0 X 0, hpA.ob 0 X 1, hpA.ob 0 X 2,
 Ob.cells [AV.int IntKind.i64 p, AV.int IntKind.i64 s]]
 []))
 (branch (AV.bool ((↑(ridsV (o.after p s q)).length : Int) == (0 : Int)))
 (K (AX.exit 2)
 (Env.mk 94
 [(5, AV.ptr 0 0), (7, AV.ns z 2 l),
 (9, AV.sl 2 true [])])
 (St.mk
 [hpA.ob 0 X 0, hpA.ob 0 X 1, hpA.ob 0 X 2,
 Ob.cells [AV.int IntKind.i64 p, AV.int IntKind.i64 s]]
 []))
 (branch (AV.bool (true && apOk (0 + (ridsV (o.after p s q)).length) 16))
 (branch (AV.bool ((ridsV (o.after p s q)).length.beq 0))
 (branch
 (AV.bool
 (inR (ridsV (o.after p s q)) (IntKind.i64.wrap ((↑(ridsV (o.after p s q)).length : Int) - (1 : Int)))))
 (branch
 (AV.bool
 ((LD.agg [LT.int IntKind.i64, LT.int IntKind.i64]).is
 (V.rowAt (ridsV (o.after p s q))
 (IntKind.i64.wrap ((↑(ridsV (o.after p s q)).length : Int) - (1 : Int))))))
 (loopRun (f8_l1.run F) [1, 5, 7, 8, 9, 10] K m
 (Env.mk 94
 [(1, AV.int IntKind.i64 q), (5, AV.ptr 0 0),
 (7, AV.ns z 2 l), (8, AV.ptr 3 0),
 (9, AV.sl 2 true []),
 (10, AV.int IntKind.i64 (IntKind.i64.wrap ((↑i : Int) + (1 : Int))))])
 (St.mk
 [hpA.ob 0 X 0, hpA.ob 0 X 1, hpA.ob 0 X 2,
 Ob.cells
 [AV.int IntKind.i64
 (hdI
 (V.rowAt (ridsV (o.after p s q))
 (IntKind.i64.wrap ((↑(ridsV (o.after p s q)).length : Int) - (1 : Int))))),
 AV.int IntKind.i64
 (hdI
 (V.rowAt (ridsV (o.after p s q))
 (IntKind.i64.wrap ((↑(ridsV (o.after p s q)).length : Int) - (1 : Int)))).tail)]]
 []))
 none)
 none)
 (branch
 (AV.bool
 (inR (ridsV (o.after p s q)) (IntKind.i64.wrap ((↑(ridsV (o.after p s q)).length : Int) - (1 : Int)))))
 (branch
 (AV.bool
 ((LD.agg [LT.int IntKind.i64, LT.int IntKind.i64]).is
 (V.rowAt (ridsV (o.after p s q))
 (IntKind.i64.wrap ((↑(ridsV (o.after p s q)).length : Int) - (1 : Int))))))
 (loopRun (f8_l1.run F) [1, 5, 7, 8, 9, 10] K m
 (Env.mk 94
 [(1, AV.int IntKind.i64 q), (5, AV.ptr 0 0),
 (7, AV.ns z 2 l), (8, AV.ptr 3 0),
 (9, AV.vs 4 0 2 (0 + (ridsV (o.after p s q)).length)),
 (10, AV.int IntKind.i64 (IntKind.i64.wrap ((↑i : Int) + (1 : Int))))])
 (St.mk
 [hpA.ob 0 X 0, hpA.ob 0 X 1, hpA.ob 0 X 2,
 Ob.cells
 [AV.int IntKind.i64
 (hdI
 (V.rowAt (ridsV (o.after p s q))
 (IntKind.i64.wrap ((↑(ridsV (o.after p s q)).length : Int) - (1 : Int))))),
 AV.int IntKind.i64
 (hdI
 (V.rowAt (ridsV (o.after p s q))
 (IntKind.i64.wrap ((↑(ridsV (o.after p s q)).length : Int) - (1 : Int)))).tail)],
 Ob.vec 0 (catC (catC [] 0 []) (mulN 0 2) (ridsV (o.after p s q)))]
 []))
 none)
 none))
 none)))
 (K (AX.exit 2)
 (Env.mk 94
 [(5, AV.ptr 0 0), (7, AV.ns z 2 l), (9, AV.sl 2 true [])])
 (St.mk
 [hpA.ob 0 X 0, hpA.ob 0 X 1, hpA.ob 0 X 2,
 Ob.cells [AV.int IntKind.i64 p, AV.int IntKind.i64 s]]
 [])) := by kernel_rfl

theorem aft_r1 (F m i v n : Nat) (z : Bool) (l : List (List AV)) (cs : List AV) (q p s : Int) (X : Hp) (K : Cont) :
 (loopRun (f8_l1.run F) [1, 5, 7, 8, 9, 10] K m.succ (Env.mk 94 [(1, .int .i64 q), (5, .ptr 0 0), (7, .ns z 2 l), (8, .ptr 3 0), (9, .vs 4 v 2 n), (10, .int .i64 (i : Int))]) ⟨[hpA.ob 0 X 0, hpA.ob 0 X 1, hpA.ob 0 X 2, .cells [.int .i64 p, .int .i64 s], .vec v cs], []⟩ : Ans) =
 branch (AV.bool (decide ((↑i : Int) ≤ (↑l.length : Int))))
 (onSome (hpA.G 0 [hpA.ob 0 X 0, hpA.ob 0 X 1, hpA.ob 0 X 2])
 none fun (o : Hp) =>
 branch (AV.bool (decide ((↑(ridsV (o.after p s q)).length : Int) > q)))
 (K AX.ret (Env.mk 94 [(4, AV.bool false)])
 (St.mk
 [hpA.ob 0 X 0, hpA.ob 0 X 1, hpA.ob 0 X 2,
 Ob.cells [AV.int IntKind.i64 p, AV.int IntKind.i64 s], Ob.vec v cs]
 []))
 (branch (AV.bool ((↑(ridsV (o.after p s q)).length : Int) == (0 : Int)))
 (K (AX.exit 2)
 (Env.mk 94
 [(5, AV.ptr 0 0), (7, AV.ns z 2 l),
 (9, AV.vs 4 v 2 n)])
 (St.mk
 [hpA.ob 0 X 0, hpA.ob 0 X 1, hpA.ob 0 X 2,
 Ob.cells [AV.int IntKind.i64 p, AV.int IntKind.i64 s], Ob.vec v cs]
 []))
 (branch
 (AV.bool
 (v.beq v && (inC cs 0 (mulN n 2) && apOk (n + (ridsV (o.after p s q)).length) 16)))
 (branch
 (AV.bool
 (inR (ridsV (o.after p s q)) (IntKind.i64.wrap ((↑(ridsV (o.after p s q)).length : Int) - (1 : Int)))))
 (branch
 (AV.bool
 ((LD.agg [LT.int IntKind.i64, LT.int IntKind.i64]).is
 (V.rowAt (ridsV (o.after p s q))
 (IntKind.i64.wrap ((↑(ridsV (o.after p s q)).length : Int) - (1 : Int))))))
 (loopRun (f8_l1.run F) [1, 5, 7, 8, 9, 10] K m
 (Env.mk 94
 [(1, AV.int IntKind.i64 q), (5, AV.ptr 0 0),
 (7, AV.ns z 2 l), (8, AV.ptr 3 0),
 (9, AV.vs 4 (v + 1) 2 (n + (ridsV (o.after p s q)).length)),
 (10, AV.int IntKind.i64 (IntKind.i64.wrap ((↑i : Int) + (1 : Int))))])
 (St.mk
 [hpA.ob 0 X 0, hpA.ob 0 X 1, hpA.ob 0 X 2,
 Ob.cells
 [AV.int IntKind.i64
 (hdI
 (V.rowAt (ridsV (o.after p s q))
 (IntKind.i64.wrap ((↑(ridsV (o.after p s q)).length : Int) - (1 : Int))))),
 AV.int IntKind.i64
 (hdI
 (V.rowAt (ridsV (o.after p s q))
 (IntKind.i64.wrap ((↑(ridsV (o.after p s q)).length : Int) - (1 : Int)))).tail)],
 Ob.vec (v + 1) (catC cs (mulN n 2) (ridsV (o.after p s q)))]
 []))
 none)
 none)
 none)))
 (K (AX.exit 2)
 (Env.mk 94
 [(5, AV.ptr 0 0), (7, AV.ns z 2 l),
 (9, AV.vs 4 v 2 n)])
 (St.mk
 [hpA.ob 0 X 0, hpA.ob 0 X 1, hpA.ob 0 X 2,
 Ob.cells [AV.int IntKind.i64 p, AV.int IntKind.i64 s], Ob.vec v cs]
 [])) := by kernel_rfl

theorem aft_o0 (F : Nat) (z : Bool) (l : List (List AV)) (p s : Int) (X : Hp) :
 ((Cont.block 2 (Cont.then (f8_r0.run F (f8.leaveK Fun.done)) (f8.leaveK Fun.done))) (.exit 2) (Env.mk 94 [(5, .ptr 0 0), (7, .ns z 2 l), (9, .sl 2 true [])]) ⟨[hpA.ob 0 X 0, hpA.ob 0 X 1, hpA.ob 0 X 2, .cells [.int .i64 p, .int .i64 s]], []⟩ : Ans) =
 onSome (hpA.G 0 [hpA.ob 0 X 0, hpA.ob 0 X 1, hpA.ob 0 X 2]) none
 fun (o : Hp) =>
 branch (AV.bool (loadB (pgsV o.pg_)))
 (branch (AV.bool (okPs [] && okPs l))
 (branch (AV.bool ([] == psR l))
 (onSome
 (hpA.G 4
 [hpA.ob 4 (opq (loadT (bsR (pgsV o.pg_)))) 0,
 hpA.ob 4 (opq (loadT (bsR (pgsV o.pg_)))) 1,
 hpA.ob 4 (opq (loadT (bsR (pgsV o.pg_)))) 2])
 none fun (o_1 : Hp) =>
 branch (AV.bool (okPs (ridsV o_1.rids) && okPs l))
 (some
 (Fin.ret (AV.bool (psR (ridsV o_1.rids) == psR l)),
 St.mk
 [hpA.ob 0 X 0, hpA.ob 0 X 1, hpA.ob 0 X 2,
 Ob.cells [AV.int IntKind.i64 p, AV.int IntKind.i64 s],
 hpA.ob 4 (opq (loadT (bsR (pgsV o.pg_)))) 0,
 hpA.ob 4 (opq (loadT (bsR (pgsV o.pg_)))) 1,
 hpA.ob 4 (opq (loadT (bsR (pgsV o.pg_)))) 2]
 []))
 none)
 (some
 (Fin.ret (AV.bool false),
 St.mk
 [hpA.ob 0 X 0, hpA.ob 0 X 1, hpA.ob 0 X 2,
 Ob.cells [AV.int IntKind.i64 p, AV.int IntKind.i64 s],
 hpA.ob 4 (opq (loadT (bsR (pgsV o.pg_)))) 0,
 hpA.ob 4 (opq (loadT (bsR (pgsV o.pg_)))) 1,
 hpA.ob 4 (opq (loadT (bsR (pgsV o.pg_)))) 2]
 [])))
 none)
 none := by kernel_rfl

theorem aft_o1 (F v n : Nat) (z : Bool) (l : List (List AV)) (cs : List AV) (p s : Int) (X : Hp) :
 ((Cont.block 2 (Cont.then (f8_r0.run F (f8.leaveK Fun.done)) (f8.leaveK Fun.done))) (.exit 2) (Env.mk 94 [(5, .ptr 0 0), (7, .ns z 2 l), (9, .vs 4 v 2 n)]) ⟨[hpA.ob 0 X 0, hpA.ob 0 X 1, hpA.ob 0 X 2, .cells [.int .i64 p, .int .i64 s], .vec v cs], []⟩ : Ans) =
 onSome (hpA.G 0 [hpA.ob 0 X 0, hpA.ob 0 X 1, hpA.ob 0 X 2]) none
 fun (o : Hp) =>
 branch (AV.bool (loadB (pgsV o.pg_)))
 (branch (AV.bool (v.beq v && inC cs 0 (mulN n 2)))
 (branch (AV.bool (okPs (rowsC 2 n cs 0) && okPs l))
 (branch (AV.bool (psR (rowsC 2 n cs 0) == psR l))
 (onSome
 (hpA.G 5
 [hpA.ob 5 (opq (loadT (bsR (pgsV o.pg_)))) 0,
 hpA.ob 5 (opq (loadT (bsR (pgsV o.pg_)))) 1,
 hpA.ob 5 (opq (loadT (bsR (pgsV o.pg_)))) 2])
 none fun (o_1 : Hp) =>
 branch (AV.bool (okPs (ridsV o_1.rids) && okPs l))
 (some
 (Fin.ret (AV.bool (psR (ridsV o_1.rids) == psR l)),
 St.mk
 [hpA.ob 0 X 0, hpA.ob 0 X 1, hpA.ob 0 X 2,
 Ob.cells [AV.int IntKind.i64 p, AV.int IntKind.i64 s], Ob.nov (v + 1),
 hpA.ob 5 (opq (loadT (bsR (pgsV o.pg_)))) 0,
 hpA.ob 5 (opq (loadT (bsR (pgsV o.pg_)))) 1,
 hpA.ob 5 (opq (loadT (bsR (pgsV o.pg_)))) 2]
 []))
 none)
 (some
 (Fin.ret (AV.bool false),
 St.mk
 [hpA.ob 0 X 0, hpA.ob 0 X 1, hpA.ob 0 X 2,
 Ob.cells [AV.int IntKind.i64 p, AV.int IntKind.i64 s], Ob.nov (v + 1),
 hpA.ob 5 (opq (loadT (bsR (pgsV o.pg_)))) 0,
 hpA.ob 5 (opq (loadT (bsR (pgsV o.pg_)))) 1,
 hpA.ob 5 (opq (loadT (bsR (pgsV o.pg_)))) 2]
 [])))
 none)
 none)
 none := by kernel_rfl

end Go.Proofs.Ytljigmghdpkdlaa.V

/- Heap: HeapAfter is true. -/
set_option linter.unusedVariables false
namespace Go.Proofs.Ytljigmghdpkdlaa.V
open Go Go.V Go.RowKit

def ltR (a b : Nat × Nat) : Prop := a.1 < b.1 ∨ (a.1 = b.1 ∧ a.2 < b.2)
theorem slotsI_sorted : ∀ (s : Sl) (i : Nat), (slotsI s i).Pairwise (· < ·)
  | [], _ => .nil
  | none :: s, i => slotsI_sorted s (i + 1)
  | some _ :: s, i => .cons (fun n hn => by have := (mem_slots hn).1; omega) (slotsI_sorted s (i + 1))
theorem ridP_ge : ∀ (ps : List (List Nat)) (i : Nat), ∀ r ∈ ridP ps i, i ≤ r.1
  | [], _, _, h => by cases h
  | b :: t, i, r, h => by
    rw [ridP] at h
    rcases List.mem_append.mp h with h | h
    · obtain ⟨s, _, rfl⟩ := List.mem_map.mp h; exact Nat.le_refl _
    · have := ridP_ge t (i + 1) r h; omega
theorem ridP_sorted : ∀ (ps : List (List Nat)) (i : Nat), (ridP ps i).Pairwise ltR
  | [], _ => .nil
  | b :: t, i => by
    rw [ridP, List.pairwise_append]
    refine ⟨List.pairwise_map.mpr ((slotsI_sorted (ofS b) 0).imp fun h => .inr ⟨rfl, h⟩), ridP_sorted t (i + 1), fun a ha c hc => ?_⟩
    obtain ⟨s, _, rfl⟩ := List.mem_map.mp ha
    have := ridP_ge t (i + 1) c hc
    exact .inl (by show i < c.1; omega)
theorem gtR_start (r : Nat × Nat) : gtR 0 (-1) r = true := by rw [gtR_iff]; omega
theorem filter_start (l : List (Nat × Nat)) : l.filter (gtR 0 (-1)) = l := List.filter_eq_self.mpr fun r _ => gtR_start r
theorem filter_last {d rest : List (Nat × Nat)} {x : Nat × Nat} (h : (d ++ [x] ++ rest).Pairwise ltR) : (d ++ [x] ++ rest).filter (gtR (x.1 : Int) (x.2 : Int)) = rest := by
  rw [List.pairwise_append, List.pairwise_append] at h
  obtain ⟨⟨_, _, h1⟩, _, h2⟩ := h
  rw [List.filter_append, List.filter_append]
  have e1 : d.filter (gtR (x.1 : Int) (x.2 : Int)) = [] := by
    rw [List.filter_eq_nil_iff]
    intro a ha hg
    have := h1 a ha x (by simp)
    rw [gtR_iff] at hg
    rcases this with h | h <;> omega
  have e2 : [x].filter (gtR (x.1 : Int) (x.2 : Int)) = [] := by
    rw [List.filter_eq_nil_iff]
    intro a ha hg
    rw [List.mem_singleton.mp ha, gtR_iff] at hg
    omega
  have e3 : rest.filter (gtR (x.1 : Int) (x.2 : Int)) = rest := by
    rw [List.filter_eq_self]
    intro a ha
    have := h2 x (by simp) a ha
    rw [gtR_iff]
    rcases this with h | h
    · left; omega
    · right; omega
  rw [e1, e2, e3]; rfl
/-- Where a list of rows ends. -/
def endP (d : List (Nat × Nat)) : Int := match d.getLast? with
  | none => 0
  | some x => x.1
def endS (d : List (Nat × Nat)) : Int := match d.getLast? with
  | none => -1
  | some x => x.2
theorem filter_end {X : Hp} {d rest : List (Nat × Nat)} (h : d ++ rest = X.rids) : X.rids.filter (gtR (endP d) (endS d)) = rest := by
  rw [← h]
  rcases List.eq_nil_or_concat d with rfl | ⟨d', x, rfl⟩
  · exact filter_start _
  · rw [List.concat_eq_append]
    have e1 : endP (d' ++ [x]) = x.1 := by rw [endP, List.getLast?_concat]
    have e2 : endS (d' ++ [x]) = x.2 := by rw [endS, List.getLast?_concat]
    rw [e1, e2]
    refine filter_last ?_
    rw [← List.concat_eq_append, h]
    exact ridP_sorted _ _
theorem ridsV_length (l : List (Nat × Nat)) : (ridsV l).length = l.length := by rw [ridsV, opq_eq, rP_length]
theorem rP_flat : ∀ l : List (Nat × Nat), (rP l).flatten = rC l
  | [] => rfl
  | r :: l => by
    have := rP_flat l
    simp only [rP, rC, List.map_cons, List.flatten_cons, List.flatMap_cons] at this ⊢
    rw [this]
theorem rC_append (a b : List (Nat × Nat)) : rC (a ++ b) = rC a ++ rC b := by simp [rC]
theorem catC_ridsV (a b : List (Nat × Nat)) : catC (rC a) (mulN a.length 2) (ridsV b) = rC (a ++ b) := by
  rw [catC, opq_eq, mulN, opq_eq, List.take_of_length_le (by rw [rC_length]; omega), ridsV, opq_eq, rP_flat, rC_append]
theorem okPs_rP (l : List (Nat × Nat)) (h : l.length ≤ 100000) : okPs (rP l) = true := by
  rw [okPs_iff, rP_length]
  refine ⟨fun r hr => ?_, by omega⟩
  obtain ⟨x, _, rfl⟩ := List.mem_map.mp hr
  rfl
theorem last_row {c : List (Nat × Nat)} {x : Nat × Nat} (h : c.getLast? = some x) (hl : c.length ≤ 100000) :
    IntKind.i64.wrap (((ridsV c).length : Int) - 1) = ((c.length - 1 : Nat) : Int) ∧ inR (ridsV c) ((c.length - 1 : Nat) : Int) = true ∧ V.rowAt (ridsV c) ((c.length - 1 : Nat) : Int) = [.int .i64 (x.1 : Int), .int .i64 (x.2 : Int)] := by
  have hne : c ≠ [] := by intro e; rw [e] at h; cases h
  have hpos : 0 < c.length := List.length_pos_iff.mpr hne
  have hlen := ridsV_length c
  refine ⟨by rw [hlen, wrapS (by omega) (by omega)]; omega, inR_nat (by omega), ?_⟩
  rw [rowAt_nat (by omega)]
  have e : c[c.length - 1]'(by omega) = x := by
    rw [List.getLast?_eq_getElem?, List.getElem?_eq_getElem (by omega)] at h
    exact Option.some.inj h
  simp only [ridsV, opq_eq, rP, List.getElem_map, e]
noncomputable abbrev aftK (F : Nat) : Cont := Cont.block 2 (Cont.then (f8_r0.run F (f8.leaveK Fun.done)) (f8.leaveK Fun.done))
/-- The rounds, once something is joined. -/
theorem aft_loop1 (F : Nat) (z : Bool) {X : Hp} (f : X.Fine) (q : Int) (hq : 1 ≤ q) (K : Cont) : ∀ (c : Nat) (d rest : List (Nat × Nat)) (i m v : Nat), rest.length ≤ c → d ++ rest = X.rids → i ≤ d.length → c + 1 < m →
    ∃ v' p s, loopRun (f8_l1.run F) [1, 5, 7, 8, 9, 10] K m (Env.mk 94 [(1, .int .i64 q), (5, .ptr 0 0), (7, .ns z 2 (ridsV X.rids)), (8, .ptr 3 0), (9, .vs 4 v 2 d.length), (10, .int .i64 (i : Int))]) ⟨[hpA.ob 0 X 0, hpA.ob 0 X 1, hpA.ob 0 X 2, .cells [.int .i64 (endP d), .int .i64 (endS d)], .vec v (rC d)], []⟩
      = K (.exit 2) (Env.mk 94 [(5, .ptr 0 0), (7, .ns z 2 (ridsV X.rids)), (9, .vs 4 v' 2 X.rids.length)]) ⟨[hpA.ob 0 X 0, hpA.ob 0 X 1, hpA.ob 0 X 2, .cells [.int .i64 p, .int .i64 s], .vec v' (rC X.rids)], []⟩
  | c, d, rest, i, 0, v, _, _, _, h => by omega
  | c, d, rest, i, m + 1, v, hr, he, hi, hm => by
    have hlen := Hp.rids_len f.ok
    have hl : d.length + rest.length = X.rids.length := by rw [← he, List.length_append]
    have ha : X.after (endP d) (endS d) q = rest.take q.toNat := by rw [Hp.after, filter_end he]
    have hal := ridsV_length (rest.take q.toNat)
    rw [List.length_take] at hal
    rw [show m + 1 = m.succ from rfl, aft_r1, branch_of (decide_eq_true (by rw [ridsV_length]; omega)), hp_Gob f.ok, onSome_some, ha, branch_not (decide_eq_false (by rw [hal]; omega))]
    cases rest with
    | nil =>
      rw [List.append_nil] at he
      subst he
      rw [branch_of (by rw [hal]; simp)]
      exact ⟨_, _, _, rfl⟩
    | cons x rest =>
      rw [List.length_cons] at hal hr hl
      have hc : c ≠ 0 := by omega
      obtain ⟨c, rfl⟩ : ∃ c', c = c' + 1 := ⟨c - 1, by omega⟩
      obtain ⟨y, hy⟩ : ∃ y, ((x :: rest).take q.toNat).getLast? = some y := by
        cases hg : ((x :: rest).take q.toNat).getLast? with
        | some y => exact ⟨y, rfl⟩
        | none =>
          have := congrArg List.length (List.getLast?_eq_none_iff.mp hg)
          simp at this; omega
      have hlt : ((x :: rest).take q.toNat).length ≤ 100000 := by rw [List.length_take, List.length_cons]; omega
      obtain ⟨w1, w2, w3⟩ := last_row hy hlt
      have e1 : endP (d ++ (x :: rest).take q.toNat) = y.1 := by rw [endP, List.getLast?_append, hy]; rfl
      have e2 : endS (d ++ (x :: rest).take q.toNat) = y.2 := by rw [endS, List.getLast?_append, hy]; rfl
      obtain ⟨v', p, s, ih⟩ := aft_loop1 F z f q hq K c (d ++ (x :: rest).take q.toNat) ((x :: rest).drop q.toNat) (i + 1) m (v + 1) (by rw [List.length_drop, List.length_cons]; omega) (by rw [List.append_assoc, List.take_append_drop]; exact he) (by rw [List.length_append, List.length_take, List.length_cons]; omega) (by omega)
      rw [branch_not (by rw [hal]; simp; omega), branch_of (by rw [Nat.beq_refl, inC_rC, show apOk (d.length + (ridsV ((x :: rest).take q.toNat)).length) 16 = true by rw [apOk_iff, hal]; omega]; rfl), w1, branch_of w2, w3, branch_of (show (LD.agg [LT.int IntKind.i64, LT.int IntKind.i64]).is [AV.int IntKind.i64 (y.1 : Int), AV.int IntKind.i64 (y.2 : Int)] = true from rfl), wrap_succ (by omega), catC_ridsV]
      rw [e1, e2, List.length_append, ← ridsV_length ((x :: rest).take q.toNat)] at ih
      exact ⟨v', p, s, ih⟩
theorem aft_end (F : Nat) (z : Bool) {X : Hp} (f : X.Fine) (v : Nat) (p s : Int) : ∃ st, aftK F (.exit 2) (Env.mk 94 [(5, .ptr 0 0), (7, .ns z 2 (ridsV X.rids)), (9, .vs 4 v 2 X.rids.length)]) ⟨[hpA.ob 0 X 0, hpA.ob 0 X 1, hpA.ob 0 X 2, .cells [.int .i64 p, .int .i64 s], .vec v (rC X.rids)], []⟩ = some (.ret (.bool true), st) := by
  have hlen := Hp.rids_len f.ok
  obtain ⟨_, _, l3⟩ := loadB_iff.mp (pgsV_load f)
  rw [pgsV_bs] at l3
  obtain ⟨fT, eT, _⟩ := loadT_fine l3
  have hG : hpA.G 5 [hpA.ob 5 (loadT X.pg_) 0, hpA.ob 5 (loadT X.pg_) 1, hpA.ob 5 (loadT X.pg_) 2] = some (loadT X.pg_) := hpA.G_obl fT.ok 5
  have er : (loadT X.pg_).rids = X.rids := by rw [Hp.rids, eT, Hp.rids]
  have ok : okPs (rP X.rids) = true := okPs_rP _ (by omega)
  rw [aftK, aft_o1, hp_Gob f.ok, onSome_some, branch_of (pgsV_load f), branch_of (by rw [Nat.beq_refl, inC_rC]; rfl), rowsC_rC, ridsV, opq_eq, branch_of (by rw [ok]; rfl), branch_of (beq_self_eq_true _), opq_eq, pgsV_bs, hG, onSome_some, er, ridsV, opq_eq, branch_of (by rw [ok]; rfl)]
  exact ⟨_, by rw [beq_self_eq_true]⟩
theorem aft_end0 (F : Nat) (z : Bool) {X : Hp} (f : X.Fine) (h0 : X.rids = []) (p s : Int) : ∃ st, aftK F (.exit 2) (Env.mk 94 [(5, .ptr 0 0), (7, .ns z 2 (ridsV X.rids)), (9, .sl 2 true [])]) ⟨[hpA.ob 0 X 0, hpA.ob 0 X 1, hpA.ob 0 X 2, .cells [.int .i64 p, .int .i64 s]], []⟩ = some (.ret (.bool true), st) := by
  obtain ⟨_, _, l3⟩ := loadB_iff.mp (pgsV_load f)
  rw [pgsV_bs] at l3
  obtain ⟨fT, eT, _⟩ := loadT_fine l3
  have hG : hpA.G 4 [hpA.ob 4 (loadT X.pg_) 0, hpA.ob 4 (loadT X.pg_) 1, hpA.ob 4 (loadT X.pg_) 2] = some (loadT X.pg_) := hpA.G_obl fT.ok 4
  have er : (loadT X.pg_).rids = [] := by rw [Hp.rids, eT]; exact h0
  have ok : okPs [] = true := okPs_rP [] (by simp)
  have e0 : ridsV [] = [] := by rw [ridsV, opq_eq]; rfl
  rw [aftK, aft_o0, hp_Gob f.ok, onSome_some, branch_of (pgsV_load f), h0, e0, branch_of (by rw [ok]; rfl), branch_of (show (([] : List (Int × Int)) == psR []) = true from rfl), opq_eq, pgsV_bs, hG, onSome_some, er, e0, branch_of (by rw [ok]; rfl)]
  exact ⟨_, rfl⟩
theorem aft_adds (F : Nat) (z : Bool) (l : List (List AV)) (q : Int) (hl : ∀ r ∈ l, isB r = true) (hn : l.length ≤ 60) : ∀ (d i m : Nat) (X : Hp), X.Fine → X.n ≤ i → i + d = l.length → d < m →
    ∃ Y : Hp, Y.Fine ∧ ∀ K, loopRun (f8_l0.run F) [0, 1, 5, 6] K m (Env.mk 94 [(0, .ns z 1 l), (1, .int .i64 q), (5, .ptr 0 0), (6, .int .i64 (i : Int))]) ⟨[hpA.ob 0 X 0, hpA.ob 0 X 1, hpA.ob 0 X 2], []⟩
      = K (.exit 0) (Env.mk 94 [(1, .int .i64 q), (5, .ptr 0 0)]) ⟨[hpA.ob 0 Y 0, hpA.ob 0 Y 1, hpA.ob 0 Y 2], []⟩
  | d, i, 0, X, _, _, _, h => by omega
  | 0, i, m + 1, X, f, hx, hi, _ => ⟨X, f, fun K => by rw [show m + 1 = m.succ from rfl, aft_round, branch_not (decide_eq_false (by omega))]⟩
  | d + 1, i, m + 1, X, f, hx, hi, hm => by
    have hlt : i < l.length := by omega
    obtain ⟨a1, a2, a3, a4⟩ := isB_at hl hlt
    have hb : ∀ x ∈ nR (rwA (V.rowAt l (i : Int))), x < 256 := fun x hx => okR_lt (byOk_iff.mp a3).1 hx
    obtain ⟨f', hn'⟩ := f.add hb
    obtain ⟨Y, k1, k3⟩ := aft_adds F z l q hl hn d (i + 1) m _ f' (by omega) (by omega) (by omega)
    refine ⟨Y, k1, fun K => ?_⟩
    rw [show m + 1 = m.succ from rfl, aft_round, branch_of (decide_eq_true (by omega)), branch_of a1, branch_of a2, hp_Gob f.ok, onSome_some, branch_of a3, wrap_succ (by omega), Hp.addO, opq_eq]
    exact k3 K
theorem after_true (z : Bool) (l : List (List AV)) (q : Int) (hl : okBs l = true) : ∃ F st, f8.run F [.ns z 1 l, .int .i64 q] ⟨[], []⟩ = some (.ret (.bool true), st) := by
  obtain ⟨F, hF⟩ : ∃ F : Nat, F = opq 100000 := ⟨_, rfl⟩
  have hF : F = 100000 := by rw [hF, opq_eq]
  refine ⟨F, ?_⟩
  obtain ⟨l1, l2⟩ := okBs_iff.mp hl
  rw [aft_law]
  by_cases c1 : (l.length : Int) > 60
  · rw [branch_of (decide_eq_true c1)]; exact ⟨_, rfl⟩
  rw [branch_not (decide_eq_false c1), branch_of (by rw [hl]; rfl)]
  by_cases c2 : weighV l 12000 > 12000
  · rw [branch_of (decide_eq_true c2)]; exact ⟨_, rfl⟩
  rw [branch_not (decide_eq_false c2)]
  by_cases c3 : q < 1
  · rw [branch_of (decide_eq_true c3)]; exact ⟨_, rfl⟩
  rw [branch_not (decide_eq_false c3)]
  obtain ⟨X, f, hX⟩ := aft_adds F z l q l1 (by omega) l.length 0 F hp0 hp0_fine (Nat.le_refl _) (by omega) (by omega)
  have hlen := Hp.rids_len f.ok
  rw [show (0 : Int) = ((0 : Nat) : Int) from rfl, hX, aft_out, hp_Gob f.ok, onSome_some]
  have hr := ridsV_length X.rids
  have ha : X.after 0 (-1) q = X.rids.take q.toNat := by rw [Hp.after, filter_start]
  have hal := ridsV_length (X.rids.take q.toNat)
  rw [List.length_take] at hal
  obtain ⟨F', rfl⟩ : ∃ F', F = Nat.succ F' := ⟨F - 1, by omega⟩
  rw [show (0 : Int) = ((0 : Nat) : Int) from rfl, aft_r0, branch_of (decide_eq_true (by omega)), hp_Gob f.ok, onSome_some, show ((0 : Nat) : Int) = 0 from rfl, ha, branch_not (decide_eq_false (by rw [hal]; omega))]
  cases hx : X.rids with
  | nil =>
    rw [hx] at hal
    rw [branch_of (by rw [hal]; simp)]
    have := aft_end0 F'.succ (ridsE X.rids) f hx 0 (-1)
    rw [hx] at this
    exact this
  | cons x rest =>
    rw [← hx]
    have hpos : 0 < X.rids.length := by rw [hx]; simp
    obtain ⟨y, hy⟩ : ∃ y, (X.rids.take q.toNat).getLast? = some y := by
      cases hg : (X.rids.take q.toNat).getLast? with
      | some y => exact ⟨y, rfl⟩
      | none =>
        have := congrArg List.length (List.getLast?_eq_none_iff.mp hg)
        rw [List.length_take, List.length_nil] at this; omega
    obtain ⟨w1, w2, w3⟩ := last_row hy (by rw [List.length_take]; omega)
    have e1 : endP (X.rids.take q.toNat) = y.1 := by rw [endP, hy]
    have e2 : endS (X.rids.take q.toNat) = y.2 := by rw [endS, hy]
    have ec : catC (catC [] 0 []) (mulN 0 2) (ridsV (X.rids.take q.toNat)) = rC (X.rids.take q.toNat) := by
      rw [catC_nil]; exact catC_ridsV [] _
    rw [branch_not (by rw [hal, beq_eq_false_iff_ne]; omega), branch_of (by rw [show apOk (0 + (ridsV (X.rids.take q.toNat)).length) 16 = true by rw [apOk_iff, hal]; omega]; rfl), branch_not (by rw [hal, Bool.eq_false_iff]; intro h; have := Nat.eq_of_beq_eq_true h; omega), w1, branch_of w2, w3, branch_of (show (LD.agg [LT.int IntKind.i64, LT.int IntKind.i64]).is [AV.int IntKind.i64 (y.1 : Int), AV.int IntKind.i64 (y.2 : Int)] = true from rfl), show IntKind.i64.wrap ((0 : Int) + 1) = ((1 : Nat) : Int) from rfl, ec]
    obtain ⟨v', p, s, ih⟩ := aft_loop1 F'.succ (ridsE X.rids) f q (by omega) (aftK F'.succ) X.rids.length (X.rids.take q.toNat) (X.rids.drop q.toNat) 1 F' 0 (by rw [List.length_drop]; omega) (List.take_append_drop _ _) (by rw [List.length_take]; omega) (by omega)
    rw [e1, e2, ← ridsV_length (X.rids.take q.toNat), ← Nat.zero_add (ridsV (X.rids.take q.toNat)).length] at ih
    obtain ⟨st, hst⟩ := aft_end F'.succ (ridsE X.rids) f v' p s
    exact ⟨st, ih.trans hst⟩
theorem after_law (as0 as1 : List AV) (s0 : Ty.Shape tyBs as0) (s1 : Ty.Shape (.int .i64) as1) : ∃ F st, f8.run F [tyBs.AV' as0, (Ty.int .i64).AV' as1] ⟨[], []⟩ = some (.ret (.bool true), st) := by
  obtain ⟨z, l, rfl, hl⟩ := bs_shape s0
  obtain ⟨q, rfl, _⟩ := s1
  exact after_true z l q hl
end Go.Proofs.Ytljigmghdpkdlaa.V
