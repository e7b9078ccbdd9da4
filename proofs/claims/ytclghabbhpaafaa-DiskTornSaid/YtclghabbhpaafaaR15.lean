/- Merged out of 5 texts: what the claim's code comes to, and why. -/
import Derived.Test.YtclghabbhpaafaaR14
/- What the functions' runs come to; the right sides were printed by a tool, Lean checks them. -/
set_option linter.unusedVariables false
set_option maxRecDepth 100000
namespace Go.Proofs.Ytclghabbhpaafaa.V
open Go Go.V Go.RowKit

theorem alive_run (F : Nat) :
    (f9.run F [] ⟨[], []⟩ : Ans) =
    branch (AV.bool (byOk [] && true))
      (branch (AV.bool (mkOk 1 (64 : Int)))
        (branch (AV.bool (mkOk 1 (64 : Int)))
          (loopRun (f9_l0.run F) [1, 3, 4, 5]
            (Cont.block 0 (Cont.then (f9_r0.run F (f9.leaveK Fun.done)) (f9.leaveK Fun.done))) F
            (Env.mk 75
              [(1, AV.ptr 2 0),
                (3, AV.ms 4 1 0 64 64),
                (4, AV.ms 5 1 0 64 64),
                (5, AV.int IntKind.i64 (0 : Int))])
            (St.mk
              [dk0 (Dk.new (Int.toNat (4 : Int)) (nR [])), dk1 (Dk.new (Int.toNat (4 : Int)) (nR [])),
                dk2 0 (Dk.new (Int.toNat (4 : Int)) (nR [])), dk3 (Dk.new (Int.toNat (4 : Int)) (nR [])),
                Ob.cells (zerC 64 [AV.int IntKind.u8 (0 : Int)]),
                Ob.cells (zerC 64 [AV.int IntKind.u8 (0 : Int)])]
              []))
          none)
        none)
      none := by kernel_rfl

theorem alive_round (F m : Nat) (K : Cont) (a b c d : Ob) (o p : List AV) (i : Int) :
    (loopRun (f9_l0.run F) [1, 3, 4, 5] K m.succ (Env.mk 75 [(1, .ptr 2 0), (3, .ms 4 1 0 64 64), (4, .ms 5 1 0 64 64), (5, .int .i64 i)]) ⟨[a, b, c, d, .cells o, .cells p], []⟩ : Ans) =
    branch (AV.bool (decide (i < (64 : Int))))
      (if (0 : Int) ≤ i ∧ i < (64 : Int) then
        branch (AV.bool (true && inC o (0 + i.toNat * 1) 1))
          (if (0 : Int) ≤ i ∧ i < (64 : Int) then
            branch (AV.bool (true && inC p (0 + i.toNat * 1) 1))
              (loopRun (f9_l0.run F) [1, 3, 4, 5] K m
                (Env.mk 75
                  [(1, AV.ptr 2 0),
                    (3, AV.ms 4 1 0 64 64),
                    (4, AV.ms 5 1 0 64 64),
                    (5, AV.int IntKind.i64 (IntKind.i64.wrap (i + (1 : Int))))])
                (St.mk
                  [a, b, c, d, Ob.cells (setC o (0 + i.toNat * 1) [AV.int IntKind.u8 (1 : Int)]),
                    Ob.cells (setC p (0 + i.toNat * 1) [AV.int IntKind.u8 (2 : Int)])]
                  []))
              none
          else none)
          none
      else none)
      (K (AX.exit 0)
        (Env.mk 75
          [(1, AV.ptr 2 0), (3, AV.ms 4 1 0 64 64),
            (4, AV.ms 5 1 0 64 64)])
        (St.mk [a, b, c, d, Ob.cells o, Ob.cells p] [])) := by kernel_rfl

theorem alive_out (F : Nat) (a b c d : Ob) (o p : List AV) :
    ((Cont.block 0 (Cont.then (f9_r0.run F (f9.leaveK Fun.done)) (f9.leaveK Fun.done))) (.exit 0) (Env.mk 75 [(1, .ptr 2 0), (3, .ms 4 1 0 64 64), (4, .ms 5 1 0 64 64)]) ⟨[a, b, c, d, .cells o, .cells p], []⟩ : Ans) =
    branch (AV.bool (inC o 0 (mulN 64 1)))
      (onSome (dkG 0 a b c d) none fun (o_1 : Dk) =>
        branch (AV.bool (byOk (rowsC 1 64 o 0)))
          (branch (AV.bool (o_1.wrE (3 : Int) (rowsC 1 64 o 0).length != (0 : Int)))
            (some
              (Fin.ret (AV.bool false),
                St.mk
                  [dk0 (o_1.wrX (3 : Int) (nR (rowsC 1 64 o 0))),
                    dk1 (o_1.wrX (3 : Int) (nR (rowsC 1 64 o 0))),
                    dk2 0 (o_1.wrX (3 : Int) (nR (rowsC 1 64 o 0))),
                    dk3 (o_1.wrX (3 : Int) (nR (rowsC 1 64 o 0))), Ob.gone, Ob.cells p]
                  []))
            (branch (AV.bool (inC p 0 (mulN 64 1)))
              (onSome
                (dkG 0 (dk0 (o_1.wrX (3 : Int) (nR (rowsC 1 64 o 0))))
                  (dk1 (o_1.wrX (3 : Int) (nR (rowsC 1 64 o 0))))
                  (dk2 (nat_lit 0) (o_1.wrX (3 : Int) (nR (rowsC 1 64 o 0))))
                  (dk3 (o_1.wrX (3 : Int) (nR (rowsC 1 64 o 0)))))
                none fun (o : Dk) =>
                branch (AV.bool (byOk (rowsC 1 64 p 0)))
                  (branch (AV.bool (o.wrE (3 : Int) (rowsC 1 64 p 0).length != (0 : Int)))
                    (some
                      (Fin.ret (AV.bool false),
                        St.mk
                          [dk0 (o.wrX (3 : Int) (nR (rowsC 1 64 p 0))),
                            dk1 (o.wrX (3 : Int) (nR (rowsC 1 64 p 0))),
                            dk2 0 (o.wrX (3 : Int) (nR (rowsC 1 64 p 0))),
                            dk3 (o.wrX (3 : Int) (nR (rowsC 1 64 p 0))), Ob.gone, Ob.gone]
                          []))
                    (onSome
                      (dkG 0 (dk0 (o.wrX (3 : Int) (nR (rowsC 1 64 p 0))))
                        (dk1 (o.wrX (3 : Int) (nR (rowsC 1 64 p 0))))
                        (dk2 (nat_lit 0) (o.wrX (3 : Int) (nR (rowsC 1 64 p 0))))
                        (dk3 (o.wrX (3 : Int) (nR (rowsC 1 64 p 0)))))
                      none fun (o_2 : Dk) =>
                      branch (AV.bool ((↑o_2.ws.length : Int) != (2 : Int)))
                        (some
                          (Fin.ret (AV.bool false),
                            St.mk
                              [dk0 (o.wrX (3 : Int) (nR (rowsC 1 64 p 0))),
                                dk1 (o.wrX (3 : Int) (nR (rowsC 1 64 p 0))),
                                dk2 0 (o.wrX (3 : Int) (nR (rowsC 1 64 p 0))),
                                dk3 (o.wrX (3 : Int) (nR (rowsC 1 64 p 0))), Ob.gone, Ob.gone]
                              []))
                        (onSome
                          (dkG 0 (dk0 (o.wrX (3 : Int) (nR (rowsC 1 64 p 0))))
                            (dk1 (o.wrX (3 : Int) (nR (rowsC 1 64 p 0))))
                            (dk2 (nat_lit 0) (o.wrX (3 : Int) (nR (rowsC 1 64 p 0))))
                            (dk3 (o.wrX (3 : Int) (nR (rowsC 1 64 p 0)))))
                          none fun (o : Dk) =>
                          onSome
                            (dkG 0 (dk0 (o.crash (1 : Int) (2 : Int))) (dk1 (o.crash (1 : Int) (2 : Int)))
                              (dk2 (nat_lit 0) (o.crash (1 : Int) (2 : Int))) (dk3 (o.crash (1 : Int) (2 : Int))))
                            none fun (o_3 : Dk) =>
                            branch (AV.bool (o_3.rdE (3 : Int) == (0 : Int)))
                              (branch (AV.bool ((↑(bR (o_3.rdB (3 : Int))).length : Int) == (64 : Int)))
                                (branch (AV.bool (inR (bR (o_3.rdB (3 : Int))) (1 : Int)))
                                  (branch
                                    (AV.bool ((LD.one (LT.int IntKind.u8)).is (V.rowAt (bR (o_3.rdB (3 : Int))) (1 : Int))))
                                    (branch (AV.bool (hdI (V.rowAt (bR (o_3.rdB (3 : Int))) (1 : Int)) == (2 : Int)))
                                      (branch (AV.bool (inR (bR (o_3.rdB (3 : Int))) (2 : Int)))
                                        (branch
                                          (AV.bool
                                            ((LD.one (LT.int IntKind.u8)).is (V.rowAt (bR (o_3.rdB (3 : Int))) (2 : Int))))
                                          (branch (AV.bool (hdI (V.rowAt (bR (o_3.rdB (3 : Int))) (2 : Int)) == (1 : Int)))
                                            (onSome
                                              (dkG 0 (dk0 (o.crash (1 : Int) (2 : Int)))
                                                (dk1 (o.crash (1 : Int) (2 : Int)))
                                                (dk2 (nat_lit 0) (o.crash (1 : Int) (2 : Int)))
                                                (dk3 (o.crash (1 : Int) (2 : Int))))
                                              none fun (o_4 : Dk) =>
                                              some
                                                (Fin.ret (AV.bool ((↑o_4.ws.length : Int) == (0 : Int))),
                                                  St.mk
                                                    [dk0 (o.crash (1 : Int) (2 : Int)), dk1 (o.crash (1 : Int) (2 : Int)),
                                                      dk2 0 (o.crash (1 : Int) (2 : Int)),
                                                      dk3 (o.crash (1 : Int) (2 : Int)), Ob.gone, Ob.gone]
                                                    []))
                                            (some
                                              (Fin.ret (AV.bool false),
                                                St.mk
                                                  [dk0 (o.crash (1 : Int) (2 : Int)), dk1 (o.crash (1 : Int) (2 : Int)),
                                                    dk2 0 (o.crash (1 : Int) (2 : Int)),
                                                    dk3 (o.crash (1 : Int) (2 : Int)), Ob.gone, Ob.gone]
                                                  [])))
                                          none)
                                        none)
                                      (some
                                        (Fin.ret (AV.bool false),
                                          St.mk
                                            [dk0 (o.crash (1 : Int) (2 : Int)), dk1 (o.crash (1 : Int) (2 : Int)),
                                              dk2 0 (o.crash (1 : Int) (2 : Int)),
                                              dk3 (o.crash (1 : Int) (2 : Int)), Ob.gone, Ob.gone]
                                            [])))
                                    none)
                                  none)
                                (some
                                  (Fin.ret (AV.bool false),
                                    St.mk
                                      [dk0 (o.crash (1 : Int) (2 : Int)), dk1 (o.crash (1 : Int) (2 : Int)),
                                        dk2 0 (o.crash (1 : Int) (2 : Int)), dk3 (o.crash (1 : Int) (2 : Int)),
                                        Ob.gone, Ob.gone]
                                      [])))
                              (some
                                (Fin.ret (AV.bool false),
                                  St.mk
                                    [dk0 (o.crash (1 : Int) (2 : Int)), dk1 (o.crash (1 : Int) (2 : Int)),
                                      dk2 0 (o.crash (1 : Int) (2 : Int)), dk3 (o.crash (1 : Int) (2 : Int)),
                                      Ob.gone, Ob.gone]
                                    [])))))
                  none)
              none))
          none)
      none := by kernel_rfl

theorem great_run (F : Nat) (z : Bool) (l : List (List AV)) (st : St) :
    (f14.run F [.ns z 4 l] st : Ans) =
    branch (AV.bool (decide ((↑l.length : Int) > (200 : Int)))) (some (Fin.ret (AV.bool true), st))
      (loopRun (f14_l0.run F) [0, 3, 4]
        (Cont.block 0 (Cont.then (f14_r0.run F (f14.leaveK Fun.done)) (f14.leaveK Fun.done))) F
        (Env.mk 24
          [(0, AV.ns z 4 l), (3, AV.int IntKind.i64 (0 : Int)),
            (4, AV.int IntKind.i64 (0 : Int))])
        st) := by kernel_rfl

theorem great_round (F m : Nat) (K : Cont) (z : Bool) (l : List (List AV)) (n i : Int) (st : St) :
    (loopRun (f14_l0.run F) [0, 3, 4] K m.succ (Env.mk 24 [(0, .ns z 4 l), (3, .int .i64 n), (4, .int .i64 i)]) st : Ans) =
    branch (AV.bool (decide (i < (↑l.length : Int))))
      (branch (AV.bool (inR l i))
        (branch (AV.bool ((LD.one (LT.ns 1)).is (List.drop 3 (V.rowAt l i))))
          (branch
            (AV.bool
              (decide (IntKind.i64.wrap (n + (↑(rwA (List.drop 3 (V.rowAt l i))).length : Int)) > (20000 : Int))))
            (K AX.ret (Env.mk 24 [(2, AV.bool true)]) st)
            (loopRun (f14_l0.run F) [0, 3, 4] K m
              (Env.mk 24
                [(0, AV.ns z 4 l),
                  (3,
                    AV.int IntKind.i64 (IntKind.i64.wrap (n + (↑(rwA (List.drop 3 (V.rowAt l i))).length : Int)))),
                  (4, AV.int IntKind.i64 (IntKind.i64.wrap (i + (1 : Int))))])
              st))
          none)
        none)
      (K (AX.exit 0) (Env.mk 24 []) st) := by kernel_rfl

theorem great_out (F : Nat) (st : St) :
    ((Cont.block 0 (Cont.then (f14_r0.run F (f14.leaveK Fun.done)) (f14.leaveK Fun.done))) (.exit 0) (Env.mk 24 []) st : Ans) =
    some (Fin.ret (AV.bool false), st) := by kernel_rfl

theorem great_ret (F : Nat) (b : Bool) (st : St) :
    ((Cont.block 0 (Cont.then (f14_r0.run F (f14.leaveK Fun.done)) (f14.leaveK Fun.done))) .ret (Env.mk 24 [(2, .bool b)]) st : Ans) =
    some (Fin.ret (AV.bool b), st) := by kernel_rfl

end Go.Proofs.Ytclghabbhpaafaa.V

/- Disk: alive, great, as callees. -/
set_option linter.unusedVariables false
namespace Go.Proofs.Ytclghabbhpaafaa.V
open Go Go.V Go.RowKit

def fill (x i : Nat) : List Nat := List.replicate i x ++ List.replicate (64 - i) 0
theorem fill_length {x i : Nat} (h : i ≤ 64) : (fill x i).length = 64 := by simp [fill]; omega
theorem fill_set {x i : Nat} (h : i < 64) : (fill x i).set i x = fill x (i + 1) := by
  unfold fill
  rw [List.set_append_right _ _ (by simp), List.length_replicate, Nat.sub_self, show 64 - i = (64 - (i + 1)) + 1 by omega, List.replicate_succ, List.set_cons_zero, List.replicate_succ', List.append_assoc]
  rfl
noncomputable abbrev aliveK (F : Nat) : Cont := Cont.block 0 (Cont.then (f9_r0.run F (f9.leaveK Fun.done)) (f9.leaveK Fun.done))
theorem alive_loop (F : Nat) (K : Cont) (a b c d : Ob) : ∀ (k m i : Nat), i + k = 64 → k < m →
    loopRun (f9_l0.run F) [1, 3, 4, 5] K m (Env.mk 75 [(1, .ptr 2 0), (3, .ms 4 1 0 64 64), (4, .ms 5 1 0 64 64), (5, .int .i64 (i : Int))]) ⟨[a, b, c, d, .cells (bC (fill 1 i)), .cells (bC (fill 2 i))], []⟩ =
      K (.exit 0) (Env.mk 75 [(1, .ptr 2 0), (3, .ms 4 1 0 64 64), (4, .ms 5 1 0 64 64)]) ⟨[a, b, c, d, .cells (bC (fill 1 64)), .cells (bC (fill 2 64))], []⟩
  | k, 0, i, h, hm => by omega
  | 0, m + 1, i, h, hm => by
    obtain rfl : i = 64 := by omega
    rw [show m + 1 = m.succ from rfl, alive_round, branch_not (by simp)]
  | k + 1, m + 1, i, h, hm => by
    have ih := alive_loop F K a b c d k m (i + 1) (by omega) (by omega)
    have e : ∀ x, setC (bC (fill x i)) (0 + (i : Int).toNat * 1) [.int .u8 (x : Int)] = bC (fill x (i + 1)) := fun x => by
      rw [Nat.zero_add, Nat.mul_one, Int.toNat_natCast, setC_byte (by rw [fill_length (by omega)]; omega), fill_set (by omega)]
    have q : ∀ x, (true && inC (bC (fill x i)) (0 + (i : Int).toNat * 1) 1) = true := fun x => by
      rw [Nat.zero_add, Nat.mul_one, Int.toNat_natCast, inC_bC (by rw [fill_length (by omega)]; omega)]; rfl
    rw [show m + 1 = m.succ from rfl, alive_round, branch_of (by simp; omega), if_pos ⟨by omega, by omega⟩, branch_of (q 1), if_pos ⟨by omega, by omega⟩, branch_of (q 2), wrap_succ (by omega)]
    have e1 := e 1
    have e2 := e 2
    rw [show ((1 : Nat) : Int) = 1 from rfl] at e1
    rw [show ((2 : Nat) : Int) = 2 from rfl] at e2
    rw [e1, e2]
    exact ih
def x0 : Dk := Dk.new 4 []
def x1 : Dk := x0.wrX 3 (fill 1 64)
def x2 : Dk := x1.wrX 3 (fill 2 64)
def x3 : Dk := x2.crash 1 2
theorem x0_ok : x0.Ok := new_ok (by decide) (by simp)
theorem fill_lt {x : Nat} (h : x < 256) : ∀ y ∈ fill x 64, y < 256 := fun y hy => by
  simp only [fill, List.mem_append] at hy
  rcases hy with hy | hy
  · rw [List.eq_of_mem_replicate hy]; exact h
  · rw [List.eq_of_mem_replicate hy]; omega
theorem x1_ok : x1.Ok := x0_ok.wrX (fill_lt (by decide))
theorem x2_ok : x2.Ok := x1_ok.wrX (fill_lt (by decide))
theorem x3_ok : x3.Ok := x2_ok.settle _ _
theorem x2_len : x2.ws.length = 2 := by kernel_rfl
theorem x1_len : x1.ws.length = 1 := by kernel_rfl
theorem x3_rd : x3.rdB 3 = [2, 2] ++ List.replicate 62 1 := by kernel_rfl
theorem x3_rdE : x3.rdE 3 = 0 := by kernel_rfl
theorem x0_wrE : x0.wrE 3 64 = 0 := by kernel_rfl
theorem x1_wrE : x1.wrE 3 64 = 0 := by kernel_rfl
theorem gD {X : Dk} (h : X.Ok) (hw : X.ws.length < 999999) : dkG (nat_lit 0) (dk0 X) (dk1 X) (dk2 (nat_lit 0) X) (dk3 X) = some X := dkG_of (isD_of h hw 0)
theorem gD' {X : Dk} (h : X.Ok) (hw : X.ws.length < 999999) (i : Nat) : dkG i (dk0 X) (dk1 X) (dk2 i X) (dk3 X) = some X := dkG_of (isD_of h hw i)
theorem alive_true : ∃ st, f9.run 1000 [] ⟨[], []⟩ = some (.ret (.bool true), st) := by
  have e0 : Dk.new (Int.toNat 4) (nR []) = x0 := rfl
  have ez : zerC 64 [.int .u8 0] = bC (fill 1 0) := by rw [zerC_byte]; rfl
  have ez2 : zerC 64 [.int .u8 0] = bC (fill 2 0) := by rw [zerC_byte]; rfl
  have mk : mkOk 1 64 = true := by rw [mkOk_iff]; decide
  have w0 : x0.ws.length < 999999 := by decide
  have w1 : x1.ws.length < 999999 := by rw [x1_len]; decide
  have w2 : x2.ws.length < 999999 := by rw [x2_len]; decide
  have w3 : x3.ws.length < 999999 := by show 0 < 999999; decide
  have hin : ∀ x, inC (bC (fill x 64)) 0 (mulN 64 1) = true := fun x => by rw [mulN_one]; exact inC_bC (by rw [fill_length (by omega)]; omega)
  have hr : ∀ x, rowsC 1 64 (bC (fill x 64)) 0 = bR (fill x 64) := fun x => by rw [rowsC_bC (by rw [fill_length (by omega)]; omega), List.drop_zero, List.take_of_length_le (by rw [fill_length (by omega)]; omega)]
  have hb : ∀ x, x < 256 → byOk (bR (fill x 64)) = true := fun x hx => byOk_bR (fill_lt hx) (by rw [fill_length (by omega)]; omega)
  have hl : ∀ x, (bR (fill x 64)).length = 64 := fun x => by rw [bR_length, fill_length (by omega)]
  refine ⟨⟨[dk0 x3, dk1 x3, dk2 0 x3, dk3 x3, .gone, .gone], []⟩, ?_⟩
  rw [alive_run, branch_of (show (byOk [] && true) = true by rw [show byOk [] = true by rw [byOk_iff]; exact ⟨rfl, by decide⟩]; rfl), branch_of mk, branch_of mk, e0]
  have hz : ∀ {a b : Ob}, a = .cells (bC (fill 1 0)) → b = .cells (bC (fill 2 0)) → [dk0 x0, dk1 x0, dk2 0 x0, dk3 x0, a, b] = [dk0 x0, dk1 x0, dk2 0 x0, dk3 x0, .cells (bC (fill 1 0)), .cells (bC (fill 2 0))] := by rintro a b rfl rfl; rfl
  rw [hz (show Ob.cells (zerC 64 [.int .u8 0]) = _ by rw [ez]) (show Ob.cells (zerC 64 [.int .u8 0]) = _ by rw [ez2])]
  rw [show (0 : Int) = ((0 : Nat) : Int) from rfl, alive_loop 1000 _ _ _ _ _ 64 1000 0 (by decide) (by decide), alive_out, branch_of (hin 1), gD' x0_ok w0, onSome_some, hr 1, hr 2, branch_of (hb 1 (by decide)), hl 1, nR_bR, x0_wrE, branch_not (by rfl), branch_of (hin 2),
    show x0.wrX 3 (fill 1 64) = x1 from rfl, gD x1_ok w1, onSome_some, branch_of (hb 2 (by decide)), hl 2, nR_bR, x1_wrE, branch_not (by rfl), show x1.wrX 3 (fill 2 64) = x2 from rfl, gD x2_ok w2, onSome_some, x2_len, branch_not (by rfl), onSome_some, show x2.crash 1 2 = x3 from rfl, gD x3_ok w3, onSome_some, x3_rdE, branch_of (by rfl), x3_rd]
  rfl
noncomputable def p9 : POrc Try.prog := f9.farN
  (fun args k => match args with
    | [] => k (.bool true)
    | _ => none)
  fun args k fin h => by
    split at h
    · obtain ⟨st', h1⟩ := alive_true
      exact ⟨_, _, h, .nil, trivial, trivial, 1000, .bool true, st', rfl, h1⟩
    · cases h
theorem p9_nat : p9.Nat := by
  intro args k
  show (match args with | [] => _ | _ => _) = thenA (match args with | [] => _ | _ => _) k
  split <;> rfl
end Go.Proofs.Ytclghabbhpaafaa.V

/- The functions' pieces, as told by gen.py. -/
set_option linter.unusedVariables false
set_option maxRecDepth 20000
namespace Go.Proofs.Ytclghabbhpaafaa.V
open Go Go.V Go.RowKit


/-! ### 3: interlock/interlocklaw02.DiskTorn (22, 22, 3); results 6; slots: 0 old, 1 data, 2 torn, 3 old, 4 data, 5 torn, 7 d, 8 e, 9 b, 10 i, 11 want -/
/-- A loop's round; at its head live: 0 old, 1 data, 2 torn, 9 b, 10 i -/
noncomputable def f3_l0 : Sim Try.prog :=
  (.seq (.seq (.live [0, 1, 2, 9, 10, 55] (.region 13 [
    ⟨(opMove (some 54) (.tmp 10) 3 "law.go:208" #[]).op, none⟩,
    ⟨(opBin (some 55) .lss 3 (.tmp 54) (.const (Value.int IntKind.i64 64)) 3 4 "law.go:208" #[{ on := 0, ground := Ground.data }]).op, none⟩
  ] (by kernel_rfl)))
  (.cond (.tmp 55)
    .skip
    (.live [] (.exit 0))))
  (.seq (.block 1 (.seq (.live [0, 1, 2, 9, 10, 11] (.region 15 [
      ⟨(opMove (some 58) (.tmp 0) 22 "law.go:209" #[]).op, none⟩,
      ⟨(opMove (some 59) (.tmp 10) 3 "law.go:209" #[]).op, none⟩,
      ⟨(opIndexAddrT (some 60) 22 (.tmp 58) (.tmp 59) 5 1 Try.underlying22 sz5 0 "law.go:209" #[{ on := 0, ground := Ground.data }, { on := 1, ground := Ground.data }]).op, none⟩,
      ⟨(opLoadT (.one (.int .u8)) (some 61) 5 (.tmp 60) (.int .u8) Try.underlying5 1 sz5 (by kernel_rfl) 5 "law.go:209" #[{ on := 2, ground := Ground.data }]).op, none⟩,
      ⟨(opAssign (some 11) (.tmp 61) 5 "law.go:209" #[{ on := 3, ground := Ground.data }, { on := 0, ground := Ground.phase }, { on := 1, ground := Ground.phase }, { on := 2, ground := Ground.phase }, { on := 3, ground := Ground.phase }]).op, none⟩
    ] (by kernel_rfl)))
    (.seq (.seq (.live [0, 1, 2, 9, 10, 11, 64] (.region 16 [
      ⟨(opMove (some 62) (.tmp 10) 3 "law.go:210" #[]).op, none⟩,
      ⟨(opMove (some 63) (.tmp 2) 3 "law.go:210" #[]).op, none⟩,
      ⟨(opBin (some 64) .lss 3 (.tmp 62) (.tmp 63) 3 4 "law.go:210" #[{ on := 0, ground := Ground.data }, { on := 1, ground := Ground.data }]).op, none⟩
    ] (by kernel_rfl)))
    (.cond (.tmp 64)
      (.live [0, 1, 2, 9, 10, 11] (.region 17 [
        ⟨(opMove (some 65) (.tmp 1) 22 "law.go:211" #[]).op, none⟩,
        ⟨(opMove (some 66) (.tmp 10) 3 "law.go:211" #[]).op, none⟩,
        ⟨(opIndexAddrT (some 67) 22 (.tmp 65) (.tmp 66) 5 1 Try.underlying22 sz5 0 "law.go:211" #[{ on := 0, ground := Ground.data }, { on := 1, ground := Ground.data }]).op, none⟩,
        ⟨(opLoadT (.one (.int .u8)) (some 68) 5 (.tmp 67) (.int .u8) Try.underlying5 1 sz5 (by kernel_rfl) 5 "law.go:211" #[{ on := 2, ground := Ground.data }]).op, none⟩,
        ⟨(opAssign (some 11) (.tmp 68) 5 "law.go:211" #[{ on := 3, ground := Ground.data }, { on := 0, ground := Ground.phase }, { on := 1, ground := Ground.phase }, { on := 2, ground := Ground.phase }, { on := 3, ground := Ground.phase }]).op, none⟩
      ] (by kernel_rfl)))
      .skip))
    (.seq (.live [0, 1, 2, 9, 10, 74] (.region 18 [
      ⟨(opMove (some 69) (.tmp 9) 22 "law.go:213" #[]).op, none⟩,
      ⟨(opMove (some 70) (.tmp 10) 3 "law.go:213" #[]).op, none⟩,
      ⟨(opIndexAddrT (some 71) 22 (.tmp 69) (.tmp 70) 5 1 Try.underlying22 sz5 0 "law.go:213" #[{ on := 0, ground := Ground.data }, { on := 1, ground := Ground.data }]).op, none⟩,
      ⟨(opLoadT (.one (.int .u8)) (some 72) 5 (.tmp 71) (.int .u8) Try.underlying5 1 sz5 (by kernel_rfl) 5 "law.go:213" #[{ on := 2, ground := Ground.data }]).op, none⟩,
      ⟨(opMove (some 73) (.tmp 11) 5 "law.go:213" #[]).op, none⟩,
      ⟨(opBin (some 74) .neq 5 (.tmp 72) (.tmp 73) 5 4 "law.go:213" #[{ on := 3, ground := Ground.data }, { on := 4, ground := Ground.data }]).op, none⟩
    ] (by kernel_rfl)))
    (.cond (.tmp 74)
      (.seq (.live [6] (.region 19 [
        ⟨(opAssign (some 6) (.const (Value.bool false)) 4 "law.go:214" #[]).op, none⟩
      ] (by kernel_rfl)))
      (.live [6] .ret))
      .skip)))))
  (.live [0, 1, 2, 9, 10] (.region 14 [
    ⟨(opMove (some 56) (.tmp 10) 3 "law.go:208" #[]).op, none⟩,
    ⟨(opBin (some 57) .add 3 (.tmp 56) (.const (Value.int IntKind.i64 1)) 3 3 "law.go:208" #[{ on := 0, ground := Ground.data }]).op, none⟩,
    ⟨(opAssign (some 10) (.tmp 57) 3 "law.go:208" #[{ on := 1, ground := Ground.data }, { on := 0, ground := Ground.phase }, { on := 1, ground := Ground.phase }]).op, none⟩
  ] (by kernel_rfl)))))

/-- What follows a loop. -/
noncomputable def f3_r0 : Sim Try.prog :=
  (.seq (.live [6] (.region 20 [
    ⟨(opAssign (some 6) (.const (Value.bool true)) 4 "law.go:217" #[]).op, none⟩
  ] (by kernel_rfl)))
  (.live [6] .ret))

noncomputable def f3_b : Sim Try.prog :=
  (.seq (.live [0, 1, 2] (.region 0 [
    ⟨(opAssign (some 6) (.const (Value.bool false)) 4 "law.go:192" #[]).op, none⟩
  ] (by kernel_rfl)))
  (.seq (.seq (.live [0, 1, 2, 13] (.region 1 [
    ⟨(opCallP p9 (some 12) [] #[] 4 "law.go:193" #[]).op, none⟩,
    ⟨(opNot (some 13) 4 (.tmp 12) 4 "law.go:193" #[{ on := 0, ground := Ground.data }]).op, none⟩
  ] (by kernel_rfl)))
  (.cond (.tmp 13)
    (.seq (.live [6] (.region 2 [
      ⟨(opAssign (some 6) (.const (Value.bool false)) 4 "law.go:194" #[]).op, none⟩
    ] (by kernel_rfl)))
    (.live [6] .ret))
    .skip))
  (.seq (.seq (.live [0, 1, 2, 21] (.region 3 [
    ⟨(opMove (some 14) (.tmp 0) 22 "law.go:196" #[]).op, none⟩,
    ⟨(opLen (some 15) (.tmp 14) 22 (.slice 5) Try.underlying22 3 "law.go:196" #[{ on := 0, ground := Ground.data }]).op, none⟩,
    ⟨(opBin (some 16) .neq 3 (.tmp 15) (.const (Value.int IntKind.i64 64)) 3 4 "law.go:196" #[{ on := 1, ground := Ground.data }]).op, none⟩,
    ⟨(opMove (some 17) (.tmp 16) 4 "law.go:196" #[{ on := 2, ground := Ground.data }]).op, none⟩,
    ⟨(opMove (some 18) (.tmp 1) 22 "law.go:196" #[{ on := 3, ground := Ground.guard }]).op, (some (3, 17, false))⟩,
    ⟨(opLen (some 19) (.tmp 18) 22 (.slice 5) Try.underlying22 3 "law.go:196" #[{ on := 4, ground := Ground.data }, { on := 3, ground := Ground.guard }]).op, (some (3, 17, false))⟩,
    ⟨(opBin (some 20) .neq 3 (.tmp 19) (.const (Value.int IntKind.i64 64)) 3 4 "law.go:196" #[{ on := 5, ground := Ground.data }, { on := 3, ground := Ground.guard }]).op, (some (3, 17, false))⟩,
    ⟨(opPick (some 21) (.tmp 17) (.const (Value.bool true)) (.tmp 20) 4 "law.go:196" #[{ on := 3, ground := Ground.data }, { on := 6, ground := Ground.data }]).op, none⟩
  ] (by kernel_rfl)))
  (.cond (.tmp 21)
    (.seq (.live [6] (.region 4 [
      ⟨(opAssign (some 6) (.const (Value.bool true)) 4 "law.go:197" #[]).op, none⟩
    ] (by kernel_rfl)))
    (.live [6] .ret))
    .skip))
  (.seq (.live [0, 1, 2, 7, 8] (.region 5 [
    ⟨(opMove (some 23) (.tmp 0) 22 "law.go:199" #[]).op, none⟩,
    ⟨opCall (s10).orc (some 24) [(.tmp 23), (.const (Value.int IntKind.i64 2))] #[22, 3] 26 "law.go:199" #[{ on := 0, ground := Ground.data }], none⟩,
    ⟨(opMove (some 22) (.tmp 24) 26 "law.go:199" #[{ on := 1, ground := Ground.data }]).op, none⟩,
    ⟨(opExtract (some 25) (.tmp 22) 0 24 "law.go:199" #[{ on := 2, ground := Ground.data }]).op, none⟩,
    ⟨(opExtract (some 26) (.tmp 22) 1 25 "law.go:199" #[{ on := 2, ground := Ground.data }, { on := 5, ground := (Ground.gcOnly Departure.lateStores) }]).op, none⟩,
    ⟨(opAssign (some 7) (.tmp 25) 24 "law.go:199" #[{ on := 3, ground := Ground.data }, { on := 1, ground := Ground.chain }, { on := 0, ground := Ground.phase }, { on := 1, ground := Ground.phase }, { on := 2, ground := Ground.phase }, { on := 3, ground := Ground.phase }, { on := 4, ground := (Ground.textOnly Departure.lateStores) }]).op, none⟩,
    ⟨(opAssign (some 8) (.tmp 26) 25 "law.go:199" #[{ on := 4, ground := Ground.data }, { on := 5, ground := Ground.chain }, { on := 0, ground := Ground.phase }, { on := 1, ground := Ground.phase }, { on := 2, ground := Ground.phase }, { on := 3, ground := Ground.phase }, { on := 4, ground := Ground.phase }, { on := 5, ground := Ground.phase }]).op, none⟩
  ] (by kernel_rfl)))
  (.seq (.seq (.live [0, 1, 2, 7, 38] (.region 6 [
    ⟨(opMove (some 27) (.tmp 8) 25 "law.go:200" #[]).op, none⟩,
    ⟨(opBin (some 28) .neq 25 (.tmp 27) (.const (Value.int IntKind.i64 0)) 25 4 "law.go:200" #[{ on := 0, ground := Ground.data }]).op, none⟩,
    ⟨(opMove (some 29) (.tmp 28) 4 "law.go:200" #[{ on := 1, ground := Ground.data }]).op, none⟩,
    ⟨(opMove (some 30) (.tmp 7) 24 "law.go:200" #[{ on := 2, ground := Ground.guard }]).op, (some (2, 29, false))⟩,
    ⟨(opEq (some 31) 24 (.pointer 58) Try.underlying24 (.tmp 30) (.const (Value.pointer none)) (.inl rfl) 24 4 "law.go:200" #[{ on := 3, ground := Ground.data }, { on := 2, ground := Ground.guard }]).op, (some (2, 29, false))⟩,
    ⟨(opPick (some 32) (.tmp 29) (.const (Value.bool true)) (.tmp 31) 4 "law.go:200" #[{ on := 2, ground := Ground.data }, { on := 4, ground := Ground.data }]).op, none⟩,
    ⟨(opMove (some 33) (.tmp 32) 4 "law.go:200" #[{ on := 5, ground := Ground.data }, { on := 2, ground := Ground.chain }]).op, none⟩,
    ⟨(opMove (some 34) (.tmp 7) 24 "law.go:200" #[{ on := 6, ground := Ground.guard }]).op, (some (6, 33, false))⟩,
    ⟨(opMove (some 35) (.tmp 1) 22 "law.go:200" #[{ on := 6, ground := Ground.guard }]).op, (some (6, 33, false))⟩,
    ⟨opCall (s11).orc (some 36) [(.tmp 34), (.const (Value.int IntKind.i64 0)), (.tmp 35)] #[24, 3, 22] 25 "law.go:200" #[{ on := 7, ground := Ground.data }, { on := 8, ground := Ground.data }, { on := 6, ground := Ground.chain }, { on := 6, ground := Ground.guard }], (some (6, 33, false))⟩,
    ⟨(opBin (some 37) .neq 25 (.tmp 36) (.const (Value.int IntKind.i64 0)) 25 4 "law.go:200" #[{ on := 9, ground := Ground.data }, { on := 6, ground := Ground.guard }]).op, (some (6, 33, false))⟩,
    ⟨(opPick (some 38) (.tmp 33) (.const (Value.bool true)) (.tmp 37) 4 "law.go:200" #[{ on := 6, ground := Ground.data }, { on := 10, ground := Ground.data }]).op, none⟩
  ] (by kernel_rfl)))
  (.cond (.tmp 38)
    (.seq (.live [6] (.region 7 [
      ⟨(opAssign (some 6) (.const (Value.bool false)) 4 "law.go:201" #[]).op, none⟩
    ] (by kernel_rfl)))
    (.live [6] .ret))
    .skip))
  (.seq (.live [0, 1, 2, 7] (.region 8 [
    ⟨(opMove (some 39) (.tmp 7) 24 "law.go:203" #[]).op, none⟩,
    ⟨(opMove (some 40) (.tmp 2) 3 "law.go:203" #[]).op, none⟩,
    ⟨opCall (s12).orc (some 41) [(.tmp 39), (.const (Value.int IntKind.i64 0)), (.tmp 40)] #[24, 3, 3] 0 "law.go:203" #[{ on := 0, ground := Ground.data }, { on := 1, ground := Ground.data }], none⟩
  ] (by kernel_rfl)))
  (.seq (.live [0, 1, 2, 8, 9] (.region 9 [
    ⟨(opMove (some 43) (.tmp 7) 24 "law.go:204" #[]).op, none⟩,
    ⟨opCall (s13).orc (some 44) [(.tmp 43), (.const (Value.int IntKind.i64 0))] #[24, 3] 30 "law.go:204" #[{ on := 0, ground := Ground.data }], none⟩,
    ⟨(opMove (some 42) (.tmp 44) 30 "law.go:204" #[{ on := 1, ground := Ground.data }]).op, none⟩,
    ⟨(opExtract (some 45) (.tmp 42) 0 22 "law.go:204" #[{ on := 2, ground := Ground.data }]).op, none⟩,
    ⟨(opExtract (some 46) (.tmp 42) 1 25 "law.go:204" #[{ on := 2, ground := Ground.data }, { on := 5, ground := (Ground.gcOnly Departure.lateStores) }]).op, none⟩,
    ⟨(opAssign (some 9) (.tmp 45) 22 "law.go:204" #[{ on := 3, ground := Ground.data }, { on := 1, ground := Ground.chain }, { on := 0, ground := Ground.phase }, { on := 1, ground := Ground.phase }, { on := 2, ground := Ground.phase }, { on := 3, ground := Ground.phase }, { on := 4, ground := (Ground.textOnly Departure.lateStores) }]).op, none⟩,
    ⟨(opAssign (some 8) (.tmp 46) 25 "law.go:204" #[{ on := 4, ground := Ground.data }, { on := 5, ground := Ground.chain }, { on := 0, ground := Ground.phase }, { on := 1, ground := Ground.phase }, { on := 2, ground := Ground.phase }, { on := 3, ground := Ground.phase }, { on := 4, ground := Ground.phase }, { on := 5, ground := Ground.phase }]).op, none⟩
  ] (by kernel_rfl)))
  (.seq (.seq (.live [0, 1, 2, 9, 53] (.region 10 [
    ⟨(opMove (some 47) (.tmp 8) 25 "law.go:205" #[]).op, none⟩,
    ⟨(opBin (some 48) .neq 25 (.tmp 47) (.const (Value.int IntKind.i64 0)) 25 4 "law.go:205" #[{ on := 0, ground := Ground.data }]).op, none⟩,
    ⟨(opMove (some 49) (.tmp 48) 4 "law.go:205" #[{ on := 1, ground := Ground.data }]).op, none⟩,
    ⟨(opMove (some 50) (.tmp 9) 22 "law.go:205" #[{ on := 2, ground := Ground.guard }]).op, (some (2, 49, false))⟩,
    ⟨(opLen (some 51) (.tmp 50) 22 (.slice 5) Try.underlying22 3 "law.go:205" #[{ on := 3, ground := Ground.data }, { on := 2, ground := Ground.guard }]).op, (some (2, 49, false))⟩,
    ⟨(opBin (some 52) .neq 3 (.tmp 51) (.const (Value.int IntKind.i64 64)) 3 4 "law.go:205" #[{ on := 4, ground := Ground.data }, { on := 2, ground := Ground.guard }]).op, (some (2, 49, false))⟩,
    ⟨(opPick (some 53) (.tmp 49) (.const (Value.bool true)) (.tmp 52) 4 "law.go:205" #[{ on := 2, ground := Ground.data }, { on := 5, ground := Ground.data }]).op, none⟩
  ] (by kernel_rfl)))
  (.cond (.tmp 53)
    (.seq (.live [6] (.region 11 [
      ⟨(opAssign (some 6) (.const (Value.bool false)) 4 "law.go:206" #[]).op, none⟩
    ] (by kernel_rfl)))
    (.live [6] .ret))
    .skip))
  (.seq (.seq (.live [0, 1, 2, 9, 10] (.region 12 [
    ⟨(opAssign (some 10) (.const (Value.int IntKind.i64 0)) 3 "law.go:208" #[]).op, none⟩
  ] (by kernel_rfl)))
  (.block 0 (.loop [0, 1, 2, 9, 10] f3_l0)))
  f3_r0)))))))))

noncomputable def f3 : Fun Try.prog where
  id := 3
  fn := Try.f3
  hf := Try.func3
  hname := by kernel_rfl
  body := f3_b
  hbody := by kernel_rfl
  res := [rTmp 6]
  hres := by kernel_rfl
  n := 75
  hn := by kernel_rfl

end Go.Proofs.Ytclghabbhpaafaa.V

/- What the functions' runs come to; the right sides were printed by a tool, Lean checks them. -/
set_option linter.unusedVariables false
set_option maxRecDepth 100000
namespace Go.Proofs.Ytclghabbhpaafaa.V
open Go Go.V Go.RowKit

theorem torn_run (F : Nat) (z y : Bool) (l d : List (List AV)) (t : Int) :
    (f3.run F [.ns z 1 l, .ns y 1 d, .int .i64 t] ⟨[], []⟩ : Ans) =
    branch (AV.bool ((↑l.length : Int) != (64 : Int))) (some (Fin.ret (AV.bool true), St.mk [] []))
      (branch (AV.bool ((↑d.length : Int) != (64 : Int))) (some (Fin.ret (AV.bool true), St.mk [] []))
        (branch (AV.bool (byOk l && true))
          (onSome
            (dkG 0 (dk0 (Dk.new (Int.toNat (2 : Int)) (nR l))) (dk1 (Dk.new (Int.toNat (2 : Int)) (nR l)))
              (dk2 (St.mk [] []).objs.length (Dk.new (Int.toNat (2 : Int)) (nR l)))
              (dk3 (Dk.new (Int.toNat (2 : Int)) (nR l))))
            none fun (o : Dk) =>
            branch (AV.bool (byOk d))
              (branch (AV.bool (o.wrE (0 : Int) d.length != (0 : Int)))
                (some
                  (Fin.ret (AV.bool false),
                    St.mk
                      [dk0 (o.wrX (0 : Int) (nR d)), dk1 (o.wrX (0 : Int) (nR d)), dk2 0 (o.wrX (0 : Int) (nR d)),
                        dk3 (o.wrX (0 : Int) (nR d))]
                      []))
                (onSome
                  (dkG 0 (dk0 (o.wrX (0 : Int) (nR d))) (dk1 (o.wrX (0 : Int) (nR d)))
                    (dk2 (nat_lit 0) (o.wrX (0 : Int) (nR d))) (dk3 (o.wrX (0 : Int) (nR d))))
                  none fun (o : Dk) =>
                  onSome
                    (dkG 0 (dk0 (o.crash (0 : Int) t)) (dk1 (o.crash (0 : Int) t))
                      (dk2 (nat_lit 0) (o.crash (0 : Int) t)) (dk3 (o.crash (0 : Int) t)))
                    none fun (o_1 : Dk) =>
                    branch (AV.bool (o_1.rdE (0 : Int) != (0 : Int)))
                      (some
                        (Fin.ret (AV.bool false),
                          St.mk
                            [dk0 (o.crash (0 : Int) t), dk1 (o.crash (0 : Int) t), dk2 0 (o.crash (0 : Int) t),
                              dk3 (o.crash (0 : Int) t)]
                            []))
                      (branch (AV.bool ((↑(bR (o_1.rdB (0 : Int))).length : Int) != (64 : Int)))
                        (some
                          (Fin.ret (AV.bool false),
                            St.mk
                              [dk0 (o.crash (0 : Int) t), dk1 (o.crash (0 : Int) t), dk2 0 (o.crash (0 : Int) t),
                                dk3 (o.crash (0 : Int) t)]
                              []))
                        (loopRun (f3_l0.run F) [0, 1, 2, 9, 10]
                          (Cont.block 0 (Cont.then (f3_r0.run F (f3.leaveK Fun.done)) (f3.leaveK Fun.done))) F
                          (Env.mk 75
                            [(0, AV.ns z 1 l), (1, AV.ns y 1 d),
                              (2, AV.int IntKind.i64 t),
                              (9, AV.ns (!o_1.inD (0 : Int)) 1 (bR (o_1.rdB (0 : Int)))),
                              (10, AV.int IntKind.i64 (0 : Int))])
                          (St.mk
                            [dk0 (o.crash (0 : Int) t), dk1 (o.crash (0 : Int) t), dk2 0 (o.crash (0 : Int) t),
                              dk3 (o.crash (0 : Int) t)]
                            [])))))
              none)
          none)) := by kernel_rfl

theorem torn_round (F m : Nat) (K : Cont) (z y w : Bool) (l d b : List (List AV)) (t i : Int) (st : St) :
    (loopRun (f3_l0.run F) [0, 1, 2, 9, 10] K m.succ (Env.mk 75 [(0, .ns z 1 l), (1, .ns y 1 d), (2, .int .i64 t), (9, .ns w 1 b), (10, .int .i64 i)]) st : Ans) =
    branch (AV.bool (decide (i < (64 : Int))))
      (branch (AV.bool (inR l i))
        (branch (AV.bool ((LD.one (LT.int IntKind.u8)).is (V.rowAt l i)))
          (branch (AV.bool (decide (i < t)))
            (branch (AV.bool (inR d i))
              (branch (AV.bool ((LD.one (LT.int IntKind.u8)).is (V.rowAt d i)))
                (branch (AV.bool (inR b i))
                  (branch (AV.bool ((LD.one (LT.int IntKind.u8)).is (V.rowAt b i)))
                    (branch (AV.bool (hdI (V.rowAt b i) != hdI (V.rowAt d i)))
                      (K AX.ret (Env.mk 75 [(6, AV.bool false)]) st)
                      (loopRun (f3_l0.run F) [0, 1, 2, 9, 10] K m
                        (Env.mk 75
                          [(0, AV.ns z 1 l), (1, AV.ns y 1 d),
                            (2, AV.int IntKind.i64 t), (9, AV.ns w 1 b),
                            (10, AV.int IntKind.i64 (IntKind.i64.wrap (i + (1 : Int))))])
                        st))
                    none)
                  none)
                none)
              none)
            (branch (AV.bool (inR b i))
              (branch (AV.bool ((LD.one (LT.int IntKind.u8)).is (V.rowAt b i)))
                (branch (AV.bool (hdI (V.rowAt b i) != hdI (V.rowAt l i)))
                  (K AX.ret (Env.mk 75 [(6, AV.bool false)]) st)
                  (loopRun (f3_l0.run F) [0, 1, 2, 9, 10] K m
                    (Env.mk 75
                      [(0, AV.ns z 1 l), (1, AV.ns y 1 d),
                        (2, AV.int IntKind.i64 t), (9, AV.ns w 1 b),
                        (10, AV.int IntKind.i64 (IntKind.i64.wrap (i + (1 : Int))))])
                    st))
                none)
              none))
          none)
        none)
      (K (AX.exit 0) (Env.mk 75 []) st) := by kernel_rfl

theorem torn_out (F : Nat) (st : St) :
    ((Cont.block 0 (Cont.then (f3_r0.run F (f3.leaveK Fun.done)) (f3.leaveK Fun.done))) (.exit 0) (Env.mk 75 []) st : Ans) =
    some (Fin.ret (AV.bool true), st) := by kernel_rfl

end Go.Proofs.Ytclghabbhpaafaa.V

/- Disk: DiskTorn. -/
set_option linter.unusedVariables false
namespace Go.Proofs.Ytclghabbhpaafaa.V
open Go Go.V Go.RowKit

/-- One write's bytes ahead of the old ones. -/
def tornB (old data : List Nat) (t : Nat) : List Nat := data.take t ++ old.drop t
theorem tornB_at {old data : List Nat} {t i : Nat} (h1 : old.length = 64) (h2 : data.length = 64) (ht : t ≤ 64) (hi : i < 64) : (tornB old data t)[i]? = if i < t then data[i]? else old[i]? := by
  rw [tornB, List.getElem?_append, List.length_take]
  by_cases h : i < t
  · rw [if_pos (by omega), if_pos h, List.getElem?_take, if_pos h]
  · rw [if_neg (by omega), if_neg h, List.getElem?_drop]
    congr 1; omega
theorem torn_loop (F : Nat) (z y w : Bool) (old data : List Nat) (t : Int) (h1 : old.length = 64) (h2 : data.length = 64) (o1 : ∀ x ∈ old, x < 256) (o2 : ∀ x ∈ data, x < 256) (st : St) : ∀ (k m i : Nat), i + k = 64 → k < m →
    loopRun (f3_l0.run F) [0, 1, 2, 9, 10] (Cont.block 0 (Cont.then (f3_r0.run F (f3.leaveK Fun.done)) (f3.leaveK Fun.done))) m (Env.mk 75 [(0, .ns z 1 (bR old)), (1, .ns y 1 (bR data)), (2, .int .i64 t), (9, .ns w 1 (bR (tornB old data (clip t 64).toNat))), (10, .int .i64 (i : Int))]) st = some (.ret (.bool true), st)
  | k, 0, i, h, hm => by omega
  | 0, m + 1, i, h, hm => by
    obtain rfl : i = 64 := by omega
    rw [show m + 1 = m.succ from rfl, torn_round, branch_not (by simp), torn_out]
  | k + 1, m + 1, i, h, hm => by
    have ih := torn_loop F z y w old data t h1 h2 o1 o2 st k m (i + 1) (by omega) (by omega)
    have hc := clip_ok t 64 (by decide)
    have hce := clip_eq t 64 (by decide)
    have ht : (clip t 64).toNat ≤ 64 := by omega
    have hl : (tornB old data (clip t 64).toNat).length = 64 := by rw [tornB, List.length_append, List.length_take, List.length_drop]; omega
    have hb : ∀ x ∈ tornB old data (clip t 64).toNat, x < 256 := fun x hx => by
      rcases List.mem_append.mp hx with hx | hx
      · exact o2 x (List.mem_of_mem_take hx)
      · exact o1 x (List.mem_of_mem_drop hx)
    have at_ : ∀ {b : List Nat} (hb : b.length = 64) (ho : ∀ x ∈ b, x < 256), inR (bR b) (i : Int) = true ∧ (LD.one (.int .u8)).is (V.rowAt (bR b) (i : Int)) = true ∧ hdI (V.rowAt (bR b) (i : Int)) = ((b[i]'(by omega) : Nat) : Int) := fun {b} hb ho => by
      have hi : i < (bR b).length := by rw [bR_length]; omega
      obtain ⟨q1, q2⟩ := okR_at (okR_bR ho) hi
      refine ⟨inR_nat hi, q1, q2.trans ?_⟩
      congr 1
      simp only [nR_bR]
    obtain ⟨a1, a2, a3⟩ := at_ h1 o1
    obtain ⟨b1, b2, b3⟩ := at_ h2 o2
    obtain ⟨c1, c2, c3⟩ := at_ hl hb
    have e := tornB_at (i := i) h1 h2 ht (by omega)
    rw [List.getElem?_eq_getElem (by omega), List.getElem?_eq_getElem (by omega), List.getElem?_eq_getElem (by omega)] at e
    rw [show m + 1 = m.succ from rfl, torn_round, branch_of (by simp; omega), branch_of a1, branch_of a2, wrap_succ (by omega)]
    by_cases hit : (i : Int) < t
    · have hit' : i < (clip t 64).toNat := by
        rw [hce]; split
        · omega
        · split <;> omega
      rw [if_pos hit'] at e
      rw [branch_of (by simpa using hit), branch_of b1, branch_of b2, branch_of c1, branch_of c2, c3, b3, Option.some.inj e, branch_not (by simp)]
      exact ih
    · have hit' : ¬ i < (clip t 64).toNat := by
        rw [hce]; split
        · omega
        · split <;> omega
      rw [if_neg hit'] at e
      rw [branch_not (by simpa using hit), branch_of c1, branch_of c2, c3, a3, Option.some.inj e, branch_not (by simp)]
      exact ih
theorem torn_true (z y : Bool) (l d : List (List AV)) (t : Int) (hl : byOk l = true) (hd : byOk d = true) : ∃ F st, f3.run F [.ns z 1 l, .ns y 1 d, .int .i64 t] ⟨[], []⟩ = some (.ret (.bool true), st) := by
  have hol := byOk_iff.mp hl
  have hod := byOk_iff.mp hd
  have ol : ∀ x ∈ nR l, x < 256 := fun x hx => okR_lt hol.1 hx
  have od : ∀ x ∈ nR d, x < 256 := fun x hx => okR_lt hod.1 hx
  refine ⟨1000, ?_⟩
  by_cases h1 : l.length = 64
  · by_cases h2 : d.length = 64
    · have g1 : (nR l).length = 64 := by rw [nR_length, h1]
      have g2 : (nR d).length = 64 := by rw [nR_length, h2]
      let X1 := Dk.new 2 (nR l)
      have k1 : X1.Ok := new_ok (by decide) ol
      have e2 : X1.wrX 0 (nR d) = X1.put 0 (nR d) := by rw [Dk.wrX, if_pos ⟨by decide, by show (0 : Int) < ((2 : Nat) : Int); decide, g2⟩]; rfl
      have k2 : (X1.put 0 (nR d)).Ok := k1.put (by show 0 < 2; decide) g2 od
      have k3 : ((X1.put 0 (nR d)).crash 0 t).Ok := k2.settle _ _
      have hE : X1.wrE 0 d.length = 0 := by rw [Dk.wrE, if_pos ⟨by decide, by show (0 : Int) < ((2 : Nat) : Int); decide⟩, if_pos h2]
      have hin : ((X1.put 0 (nR d)).crash 0 t).inD 0 = true := by
        rw [Dk.inD, decide_eq_true_eq]; exact ⟨by decide, by show (0 : Int) < ((2 : Nat) : Int); decide⟩
      have hc := clip_ok t 64 (by decide)
      have hls : ((X1.put 0 (nR d)).crash 0 t).ls = putN (nR l ++ List.replicate 64 0) 0 ((nR d).take (clip t 64).toNat) := by
        have e0 : imgAt 2 (nR l) 2 = nR l ++ List.replicate 64 0 := by rw [imgAt, List.take_of_length_le (by omega), g1]
        show tornL (appW (imgAt 2 (nR l) 2) (([] ++ [(0, nR d)]).take (clip 0 1).toNat)) (([] ++ [(0, nR d)])[(clip 0 1).toNat]?) (clip t 64).toNat = _
        rw [e0]; rfl
      have hrd : ((X1.put 0 (nR d)).crash 0 t).rdB 0 = tornB (nR l) (nR d) (clip t 64).toNat := by
        rw [Dk.rdB, hin]
        show (none : Option (List Nat)).getD ((((X1.put 0 (nR d)).crash 0 t).ls.drop (0 * 64)).take 64) = _
        rw [hls, Option.getD_none, Nat.zero_mul, List.drop_zero, putN, tornB, List.take_zero, List.nil_append, Nat.zero_add, List.length_take, g2]
        rw [List.take_append, List.take_of_length_le (by rw [List.length_take]; omega), List.length_take, g2]
        congr 1
        rw [List.drop_append, List.take_append, List.length_drop, g1]
        rw [show min (clip t 64).toNat 64 = (clip t 64).toNat by omega, List.take_of_length_le (by rw [List.length_drop]; omega)]
        simp
      have hrE : ((X1.put 0 (nR d)).crash 0 t).rdE 0 = 0 := by rw [Dk.rdE, hin]; rfl
      have hbl : (bR (tornB (nR l) (nR d) (clip t 64).toNat)).length = 64 := by rw [bR_length, tornB, List.length_append, List.length_take, List.length_drop]; omega
      refine ⟨⟨[dk0 ((X1.put 0 (nR d)).crash 0 t), dk1 ((X1.put 0 (nR d)).crash 0 t), dk2 0 ((X1.put 0 (nR d)).crash 0 t), dk3 ((X1.put 0 (nR d)).crash 0 t)], []⟩, ?_⟩
      rw [torn_run, branch_not (by simp [h1]), branch_not (by simp [h2]), branch_of (by rw [hl]; rfl)]
      rw [show dkG 0 (dk0 (Dk.new (Int.toNat 2) (nR l))) (dk1 (Dk.new (Int.toNat 2) (nR l))) (dk2 (St.mk [] []).objs.length (Dk.new (Int.toNat 2) (nR l))) (dk3 (Dk.new (Int.toNat 2) (nR l))) = some X1 from gD' k1 (by show 0 < 999999; decide) 0,
        onSome_some, branch_of hd, hE, branch_not (by rfl), e2, gD k2 (by show 1 < 999999; decide), onSome_some, gD k3 (by show 0 < 999999; decide), onSome_some, hrE, branch_not (by rfl), hrd, hbl, branch_not (by rfl)]
      have := torn_loop 1000 z y (!((X1.put 0 (nR d)).crash 0 t).inD 0) (nR l) (nR d) t g1 g2 ol od ⟨[dk0 ((X1.put 0 (nR d)).crash 0 t), dk1 ((X1.put 0 (nR d)).crash 0 t), dk2 0 ((X1.put 0 (nR d)).crash 0 t), dk3 ((X1.put 0 (nR d)).crash 0 t)], []⟩ 64 1000 0 (by decide) (by decide)
      rw [← okR_rows hol.1, ← okR_rows hod.1] at this
      exact this
    · exact ⟨_, by rw [torn_run, branch_not (by simp [h1]), branch_of (by simp; omega)]⟩
  · exact ⟨_, by rw [torn_run, branch_of (by simp; omega)]⟩
theorem torn_law (as0 as1 as2 : List AV) (s0 : Ty.Shape (.sl (.int .u8) 1) as0) (s1 : Ty.Shape (.sl (.int .u8) 1) as1) (s2 : Ty.Shape (.int .i64) as2) : ∃ F st, f3.run F [(Ty.sl (.int .u8) 1).AV' as0, (Ty.sl (.int .u8) 1).AV' as1, (Ty.int .i64).AV' as2] ⟨[], []⟩ = some (.ret (.bool true), st) := by
  obtain ⟨z, l, rfl, l1, _, l3⟩ := bytes_shape s0
  obtain ⟨y, d, rfl, d1, _, d3⟩ := bytes_shape s1
  obtain ⟨t, rfl, _⟩ := s2
  exact torn_true z y l d t (byOk_iff.mpr ⟨l1, l3⟩) (byOk_iff.mpr ⟨d1, d3⟩)
end Go.Proofs.Ytclghabbhpaafaa.V
