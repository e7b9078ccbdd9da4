/- Merged out of 17 texts: what the claim's code comes to, and why. -/
import Derived.Test.YtclghabbhpaafaaR64
/- What the functions' runs come to; the right sides were printed by a tool, Lean checks them. -/
set_option linter.unusedVariables false
set_option maxRecDepth 100000
namespace Go.Proofs.Ytclghabbhpaafaa.V
open Go Go.V Go.RowKit

theorem alive_run (F : Nat) :
    (f9.run F [] ⟨[], []⟩ : Ans) =
    branch (AV.bool (byOk [] && true))
      (branch (AV.bool (mkOk 1 (64 : Int)))
        (branch (AV.bool (mkOk 1 (64 : Int)))
          (loopRun (f9_l0.run F) [1, 3, 4, 5]
            (Cont.block 0 (Cont.then (f9_r0.run F (f9.leaveK Fun.done)) (f9.leaveK Fun.done))) F
            (Env.mk 75
              [(1, AV.ptr 2 0),
                (3, AV.ms 4 1 0 64 64),
                (4, AV.ms 5 1 0 64 64),
                (5, AV.int IntKind.i64 (0 : Int))])
            (St.mk
              [dk0 (Dk.new (Int.toNat (4 : Int)) (nR [])), dk1 (Dk.new (Int.toNat (4 : Int)) (nR [])),
                dk2 0 (Dk.new (Int.toNat (4 : Int)) (nR [])), dk3 (Dk.new (Int.toNat (4 : Int)) (nR [])),
                Ob.cells (zerC 64 [AV.int IntKind.u8 (0 : Int)]),
                Ob.cells (zerC 64 [AV.int IntKind.u8 (0 : Int)])]
              []))
          none)
        none)
      none := by kernel_rfl

theorem alive_round (F m : Nat) (K : Cont) (a b c d : Ob) (o p : List AV) (i : Int) :
    (loopRun (f9_l0.run F) [1, 3, 4, 5] K m.succ (Env.mk 75 [(1, .ptr 2 0), (3, .ms 4 1 0 64 64), (4, .ms 5 1 0 64 64), (5, .int .i64 i)]) ⟨[a, b, c, d, .cells o, .cells p], []⟩ : Ans) =
    branch (AV.bool (decide (i < (64 : Int))))
      (if (0 : Int) ≤ i ∧ i < (64 : Int) then
        branch (AV.bool (true && inC o (0 + i.toNat * 1) 1))
          (if (0 : Int) ≤ i ∧ i < (64 : Int) then
            branch (AV.bool (true && inC p (0 + i.toNat * 1) 1))
              (loopRun (f9_l0.run F) [1, 3, 4, 5] K m
                (Env.mk 75
                  [(1, AV.ptr 2 0),
                    (3, AV.ms 4 1 0 64 64),
                    (4, AV.ms 5 1 0 64 64),
                    (5, AV.int IntKind.i64 (IntKind.i64.wrap (i + (1 : Int))))])
                (St.mk
                  [a, b, c, d, Ob.cells (setC o (0 + i.toNat * 1) [AV.int IntKind.u8 (1 : Int)]),
                    Ob.cells (setC p (0 + i.toNat * 1) [AV.int IntKind.u8 (2 : Int)])]
                  []))
              none
          else none)
          none
      else none)
      (K (AX.exit 0)
        (Env.mk 75
          [(1, AV.ptr 2 0), (3, AV.ms 4 1 0 64 64),
            (4, AV.ms 5 1 0 64 64)])
        (St.mk [a, b, c, d, Ob.cells o, Ob.cells p] [])) := by kernel_rfl

theorem alive_out (F : Nat) (a b c d : Ob) (o p : List AV) :
    ((Cont.block 0 (Cont.then (f9_r0.run F (f9.leaveK Fun.done)) (f9.leaveK Fun.done))) (.exit 0) (Env.mk 75 [(1, .ptr 2 0), (3, .ms 4 1 0 64 64), (4, .ms 5 1 0 64 64)]) ⟨[a, b, c, d, .cells o, .cells p], []⟩ : Ans) =
    branch (AV.bool (inC o 0 (mulN 64 1)))
      (onSome (dkG 0 a b c d) none fun (o_1 : Dk) =>
        branch (AV.bool (byOk (rowsC 1 64 o 0)))
          (branch (AV.bool (o_1.wrE (3 : Int) (rowsC 1 64 o 0).length != (0 : Int)))
            (some
              (Fin.ret (AV.bool false),
                St.mk
                  [dk0 (o_1.wrX (3 : Int) (nR (rowsC 1 64 o 0))),
                    dk1 (o_1.wrX (3 : Int) (nR (rowsC 1 64 o 0))),
                    dk2 0 (o_1.wrX (3 : Int) (nR (rowsC 1 64 o 0))),
                    dk3 (o_1.wrX (3 : Int) (nR (rowsC 1 64 o 0))), Ob.gone, Ob.cells p]
                  []))
            (branch (AV.bool (inC p 0 (mulN 64 1)))
              (onSome
                (dkG 0 (dk0 (o_1.wrX (3 : Int) (nR (rowsC 1 64 o 0))))
                  (dk1 (o_1.wrX (3 : Int) (nR (rowsC 1 64 o 0))))
                  (dk2 (nat_lit 0) (o_1.wrX (3 : Int) (nR (rowsC 1 64 o 0))))
                  (dk3 (o_1.wrX (3 : Int) (nR (rowsC 1 64 o 0)))))
                none fun (o : Dk) =>
                branch (AV.bool (byOk (rowsC 1 64 p 0)))
                  (branch (AV.bool (o.wrE (3 : Int) (rowsC 1 64 p 0).length != (0 : Int)))
                    (some
                      (Fin.ret (AV.bool false),
                        St.mk
                          [dk0 (o.wrX (3 : Int) (nR (rowsC 1 64 p 0))),
                            dk1 (o.wrX (3 : Int) (nR (rowsC 1 64 p 0))),
                            dk2 0 (o.wrX (3 : Int) (nR (rowsC 1 64 p 0))),
                            dk3 (o.wrX (3 : Int) (nR (rowsC 1 64 p 0))), Ob.gone, Ob.gone]
                          []))
                    (onSome
                      (dkG 0 (dk0 (o.wrX (3 : Int) (nR (rowsC 1 64 p 0))))
                        (dk1 (o.wrX (3 : Int) (nR (rowsC 1 64 p 0))))
                        (dk2 (nat_lit 0) (o.wrX (3 : Int) (nR (rowsC 1 64 p 0))))
                        (dk3 (o.wrX (3 : Int) (nR (rowsC 1 64 p 0)))))
                      none fun (o_2 : Dk) =>
                      branch (AV.bool ((↑o_2.ws.length : Int) != (2 : Int)))
                        (some
                          (Fin.ret (AV.bool false),
                            St.mk
                              [dk0 (o.wrX (3 : Int) (nR (rowsC 1 64 p 0))),
                                dk1 (o.wrX (3 : Int) (nR (rowsC 1 64 p 0))),
                                dk2 0 (o.wrX (3 : Int) (nR (rowsC 1 64 p 0))),
                                dk3 (o.wrX (3 : Int) (nR (rowsC 1 64 p 0))), Ob.gone, Ob.gone]
                              []))
                        (onSome
                          (dkG 0 (dk0 (o.wrX (3 : Int) (nR (rowsC 1 64 p 0))))
                            (dk1 (o.wrX (3 : Int) (nR (rowsC 1 64 p 0))))
                            (dk2 (nat_lit 0) (o.wrX (3 : Int) (nR (rowsC 1 64 p 0))))
                            (dk3 (o.wrX (3 : Int) (nR (rowsC 1 64 p 0)))))
                          none fun (o : Dk) =>
                          onSome
                            (dkG 0 (dk0 (o.crash (1 : Int) (2 : Int))) (dk1 (o.crash (1 : Int) (2 : Int)))
                              (dk2 (nat_lit 0) (o.crash (1 : Int) (2 : Int))) (dk3 (o.crash (1 : Int) (2 : Int))))
                            none fun (o_3 : Dk) =>
                            branch (AV.bool (o_3.rdE (3 : Int) == (0 : Int)))
                              (branch (AV.bool ((↑(bR (o_3.rdB (3 : Int))).length : Int) == (64 : Int)))
                                (branch (AV.bool (inR (bR (o_3.rdB (3 : Int))) (1 : Int)))
                                  (branch
                                    (AV.bool ((LD.one (LT.int IntKind.u8)).is (V.rowAt (bR (o_3.rdB (3 : Int))) (1 : Int))))
                                    (branch (AV.bool (hdI (V.rowAt (bR (o_3.rdB (3 : Int))) (1 : Int)) == (2 : Int)))
                                      (branch (AV.bool (inR (bR (o_3.rdB (3 : Int))) (2 : Int)))
                                        (branch
                                          (AV.bool
                                            ((LD.one (LT.int IntKind.u8)).is (V.rowAt (bR (o_3.rdB (3 : Int))) (2 : Int))))
                                          (branch (AV.bool (hdI (V.rowAt (bR (o_3.rdB (3 : Int))) (2 : Int)) == (1 : Int)))
                                            (onSome
                                              (dkG 0 (dk0 (o.crash (1 : Int) (2 : Int)))
                                                (dk1 (o.crash (1 : Int) (2 : Int)))
                                                (dk2 (nat_lit 0) (o.crash (1 : Int) (2 : Int)))
                                                (dk3 (o.crash (1 : Int) (2 : Int))))
                                              none fun (o_4 : Dk) =>
                                              some
                                                (Fin.ret (AV.bool ((↑o_4.ws.length : Int) == (0 : Int))),
                                                  St.mk
                                                    [dk0 (o.crash (1 : Int) (2 : Int)), dk1 (o.crash (1 : Int) (2 : Int)),
                                                      dk2 0 (o.crash (1 : Int) (2 : Int)),
                                                      dk3 (o.crash (1 : Int) (2 : Int)), Ob.gone, Ob.gone]
                                                    []))
                                            (some
                                              (Fin.ret (AV.bool false),
                                                St.mk
                                                  [dk0 (o.crash (1 : Int) (2 : Int)), dk1 (o.crash (1 : Int) (2 : Int)),
                                                    dk2 0 (o.crash (1 : Int) (2 : Int)),
                                                    dk3 (o.crash (1 : Int) (2 : Int)), Ob.gone, Ob.gone]
                                                  [])))
                                          none)
                                        none)
                                      (some
                                        (Fin.ret (AV.bool false),
                                          St.mk
                                            [dk0 (o.crash (1 : Int) (2 : Int)), dk1 (o.crash (1 : Int) (2 : Int)),
                                              dk2 0 (o.crash (1 : Int) (2 : Int)),
                                              dk3 (o.crash (1 : Int) (2 : Int)), Ob.gone, Ob.gone]
                                            [])))
                                    none)
                                  none)
                                (some
                                  (Fin.ret (AV.bool false),
                                    St.mk
                                      [dk0 (o.crash (1 : Int) (2 : Int)), dk1 (o.crash (1 : Int) (2 : Int)),
                                        dk2 0 (o.crash (1 : Int) (2 : Int)), dk3 (o.crash (1 : Int) (2 : Int)),
                                        Ob.gone, Ob.gone]
                                      [])))
                              (some
                                (Fin.ret (AV.bool false),
                                  St.mk
                                    [dk0 (o.crash (1 : Int) (2 : Int)), dk1 (o.crash (1 : Int) (2 : Int)),
                                      dk2 0 (o.crash (1 : Int) (2 : Int)), dk3 (o.crash (1 : Int) (2 : Int)),
                                      Ob.gone, Ob.gone]
                                    [])))))
                  none)
              none))
          none)
      none := by kernel_rfl

theorem great_run (F : Nat) (z : Bool) (l : List (List AV)) (st : St) :
    (f14.run F [.ns z 4 l] st : Ans) =
    branch (AV.bool (decide ((↑l.length : Int) > (200 : Int)))) (some (Fin.ret (AV.bool true), st))
      (loopRun (f14_l0.run F) [0, 3, 4]
        (Cont.block 0 (Cont.then (f14_r0.run F (f14.leaveK Fun.done)) (f14.leaveK Fun.done))) F
        (Env.mk 24
          [(0, AV.ns z 4 l), (3, AV.int IntKind.i64 (0 : Int)),
            (4, AV.int IntKind.i64 (0 : Int))])
        st) := by kernel_rfl

theorem great_round (F m : Nat) (K : Cont) (z : Bool) (l : List (List AV)) (n i : Int) (st : St) :
    (loopRun (f14_l0.run F) [0, 3, 4] K m.succ (Env.mk 24 [(0, .ns z 4 l), (3, .int .i64 n), (4, .int .i64 i)]) st : Ans) =
    branch (AV.bool (decide (i < (↑l.length : Int))))
      (branch (AV.bool (inR l i))
        (branch (AV.bool ((LD.one (LT.ns 1)).is (List.drop 3 (V.rowAt l i))))
          (branch
            (AV.bool
              (decide (IntKind.i64.wrap (n + (↑(rwA (List.drop 3 (V.rowAt l i))).length : Int)) > (20000 : Int))))
            (K AX.ret (Env.mk 24 [(2, AV.bool true)]) st)
            (loopRun (f14_l0.run F) [0, 3, 4] K m
              (Env.mk 24
                [(0, AV.ns z 4 l),
                  (3,
                    AV.int IntKind.i64 (IntKind.i64.wrap (n + (↑(rwA (List.drop 3 (V.rowAt l i))).length : Int)))),
                  (4, AV.int IntKind.i64 (IntKind.i64.wrap (i + (1 : Int))))])
              st))
          none)
        none)
      (K (AX.exit 0) (Env.mk 24 []) st) := by kernel_rfl

theorem great_out (F : Nat) (st : St) :
    ((Cont.block 0 (Cont.then (f14_r0.run F (f14.leaveK Fun.done)) (f14.leaveK Fun.done))) (.exit 0) (Env.mk 24 []) st : Ans) =
    some (Fin.ret (AV.bool false), st) := by kernel_rfl

theorem great_ret (F : Nat) (b : Bool) (st : St) :
    ((Cont.block 0 (Cont.then (f14_r0.run F (f14.leaveK Fun.done)) (f14.leaveK Fun.done))) .ret (Env.mk 24 [(2, .bool b)]) st : Ans) =
    some (Fin.ret (AV.bool b), st) := by kernel_rfl

end Go.Proofs.Ytclghabbhpaafaa.V

/- Disk: alive, great, as callees. -/
set_option linter.unusedVariables false
namespace Go.Proofs.Ytclghabbhpaafaa.V
open Go Go.V Go.RowKit

def fill (x i : Nat) : List Nat := List.replicate i x ++ List.replicate (64 - i) 0
theorem fill_length {x i : Nat} (h : i ≤ 64) : (fill x i).length = 64 := by simp [fill]; omega
theorem fill_set {x i : Nat} (h : i < 64) : (fill x i).set i x = fill x (i + 1) := by
  unfold fill
  rw [List.set_append_right _ _ (by simp), List.length_replicate, Nat.sub_self, show 64 - i = (64 - (i + 1)) + 1 by omega, List.replicate_succ, List.set_cons_zero, List.replicate_succ', List.append_assoc]
  rfl
noncomputable abbrev aliveK (F : Nat) : Cont := Cont.block 0 (Cont.then (f9_r0.run F (f9.leaveK Fun.done)) (f9.leaveK Fun.done))
theorem alive_loop (F : Nat) (K : Cont) (a b c d : Ob) : ∀ (k m i : Nat), i + k = 64 → k < m →
    loopRun (f9_l0.run F) [1, 3, 4, 5] K m (Env.mk 75 [(1, .ptr 2 0), (3, .ms 4 1 0 64 64), (4, .ms 5 1 0 64 64), (5, .int .i64 (i : Int))]) ⟨[a, b, c, d, .cells (bC (fill 1 i)), .cells (bC (fill 2 i))], []⟩ =
      K (.exit 0) (Env.mk 75 [(1, .ptr 2 0), (3, .ms 4 1 0 64 64), (4, .ms 5 1 0 64 64)]) ⟨[a, b, c, d, .cells (bC (fill 1 64)), .cells (bC (fill 2 64))], []⟩
  | k, 0, i, h, hm => by omega
  | 0, m + 1, i, h, hm => by
    obtain rfl : i = 64 := by omega
    rw [show m + 1 = m.succ from rfl, alive_round, branch_not (by simp)]
  | k + 1, m + 1, i, h, hm => by
    have ih := alive_loop F K a b c d k m (i + 1) (by omega) (by omega)
    have e : ∀ x, setC (bC (fill x i)) (0 + (i : Int).toNat * 1) [.int .u8 (x : Int)] = bC (fill x (i + 1)) := fun x => by
      rw [Nat.zero_add, Nat.mul_one, Int.toNat_natCast, setC_byte (by rw [fill_length (by omega)]; omega), fill_set (by omega)]
    have q : ∀ x, (true && inC (bC (fill x i)) (0 + (i : Int).toNat * 1) 1) = true := fun x => by
      rw [Nat.zero_add, Nat.mul_one, Int.toNat_natCast, inC_bC (by rw [fill_length (by omega)]; omega)]; rfl
    rw [show m + 1 = m.succ from rfl, alive_round, branch_of (by simp; omega), if_pos ⟨by omega, by omega⟩, branch_of (q 1), if_pos ⟨by omega, by omega⟩, branch_of (q 2), wrap_succ (by omega)]
    have e1 := e 1
    have e2 := e 2
    rw [show ((1 : Nat) : Int) = 1 from rfl] at e1
    rw [show ((2 : Nat) : Int) = 2 from rfl] at e2
    rw [e1, e2]
    exact ih
def x0 : Dk := Dk.new 4 []
def x1 : Dk := x0.wrX 3 (fill 1 64)
def x2 : Dk := x1.wrX 3 (fill 2 64)
def x3 : Dk := x2.crash 1 2
theorem x0_ok : x0.Ok := new_ok (by decide) (by simp)
theorem fill_lt {x : Nat} (h : x < 256) : ∀ y ∈ fill x 64, y < 256 := fun y hy => by
  simp only [fill, List.mem_append] at hy
  rcases hy with hy | hy
  · rw [List.eq_of_mem_replicate hy]; exact h
  · rw [List.eq_of_mem_replicate hy]; omega
theorem x1_ok : x1.Ok := x0_ok.wrX (fill_lt (by decide))
theorem x2_ok : x2.Ok := x1_ok.wrX (fill_lt (by decide))
theorem x3_ok : x3.Ok := x2_ok.settle _ _
theorem x2_len : x2.ws.length = 2 := by kernel_rfl
theorem x1_len : x1.ws.length = 1 := by kernel_rfl
theorem x3_rd : x3.rdB 3 = [2, 2] ++ List.replicate 62 1 := by kernel_rfl
theorem x3_rdE : x3.rdE 3 = 0 := by kernel_rfl
theorem x0_wrE : x0.wrE 3 64 = 0 := by kernel_rfl
theorem x1_wrE : x1.wrE 3 64 = 0 := by kernel_rfl
theorem gD {X : Dk} (h : X.Ok) (hw : X.ws.length < 999999) : dkG (nat_lit 0) (dk0 X) (dk1 X) (dk2 (nat_lit 0) X) (dk3 X) = some X := dkG_of (isD_of h hw 0)
theorem gD' {X : Dk} (h : X.Ok) (hw : X.ws.length < 999999) (i : Nat) : dkG i (dk0 X) (dk1 X) (dk2 i X) (dk3 X) = some X := dkG_of (isD_of h hw i)
theorem alive_true : ∃ st, f9.run 1000 [] ⟨[], []⟩ = some (.ret (.bool true), st) := by
  have e0 : Dk.new (Int.toNat 4) (nR []) = x0 := rfl
  have ez : zerC 64 [.int .u8 0] = bC (fill 1 0) := by rw [zerC_byte]; rfl
  have ez2 : zerC 64 [.int .u8 0] = bC (fill 2 0) := by rw [zerC_byte]; rfl
  have mk : mkOk 1 64 = true := by rw [mkOk_iff]; decide
  have w0 : x0.ws.length < 999999 := by decide
  have w1 : x1.ws.length < 999999 := by rw [x1_len]; decide
  have w2 : x2.ws.length < 999999 := by rw [x2_len]; decide
  have w3 : x3.ws.length < 999999 := by show 0 < 999999; decide
  have hin : ∀ x, inC (bC (fill x 64)) 0 (mulN 64 1) = true := fun x => by rw [mulN_one]; exact inC_bC (by rw [fill_length (by omega)]; omega)
  have hr : ∀ x, rowsC 1 64 (bC (fill x 64)) 0 = bR (fill x 64) := fun x => by rw [rowsC_bC (by rw [fill_length (by omega)]; omega), List.drop_zero, List.take_of_length_le (by rw [fill_length (by omega)]; omega)]
  have hb : ∀ x, x < 256 → byOk (bR (fill x 64)) = true := fun x hx => byOk_bR (fill_lt hx) (by rw [fill_length (by omega)]; omega)
  have hl : ∀ x, (bR (fill x 64)).length = 64 := fun x => by rw [bR_length, fill_length (by omega)]
  refine ⟨⟨[dk0 x3, dk1 x3, dk2 0 x3, dk3 x3, .gone, .gone], []⟩, ?_⟩
  rw [alive_run, branch_of (show (byOk [] && true) = true by rw [show byOk [] = true by rw [byOk_iff]; exact ⟨rfl, by decide⟩]; rfl), branch_of mk, branch_of mk, e0]
  have hz : ∀ {a b : Ob}, a = .cells (bC (fill 1 0)) → b = .cells (bC (fill 2 0)) → [dk0 x0, dk1 x0, dk2 0 x0, dk3 x0, a, b] = [dk0 x0, dk1 x0, dk2 0 x0, dk3 x0, .cells (bC (fill 1 0)), .cells (bC (fill 2 0))] := by rintro a b rfl rfl; rfl
  rw [hz (show Ob.cells (zerC 64 [.int .u8 0]) = _ by rw [ez]) (show Ob.cells (zerC 64 [.int .u8 0]) = _ by rw [ez2])]
  rw [show (0 : Int) = ((0 : Nat) : Int) from rfl, alive_loop 1000 _ _ _ _ _ 64 1000 0 (by decide) (by decide), alive_out, branch_of (hin 1), gD' x0_ok w0, onSome_some, hr 1, hr 2, branch_of (hb 1 (by decide)), hl 1, nR_bR, x0_wrE, branch_not (by rfl), branch_of (hin 2),
    show x0.wrX 3 (fill 1 64) = x1 from rfl, gD x1_ok w1, onSome_some, branch_of (hb 2 (by decide)), hl 2, nR_bR, x1_wrE, branch_not (by rfl), show x1.wrX 3 (fill 2 64) = x2 from rfl, gD x2_ok w2, onSome_some, x2_len, branch_not (by rfl), onSome_some, show x2.crash 1 2 = x3 from rfl, gD x3_ok w3, onSome_some, x3_rdE, branch_of (by rfl), x3_rd]
  rfl
noncomputable def p9 : POrc Try.prog := f9.farN
  (fun args k => match args with
    | [] => k (.bool true)
    | _ => none)
  fun args k fin h => by
    split at h
    · obtain ⟨st', h1⟩ := alive_true
      exact ⟨_, _, h, .nil, trivial, trivial, 1000, .bool true, st', rfl, h1⟩
    · cases h
theorem p9_nat : p9.Nat := by
  intro args k
  show (match args with | [] => _ | _ => _) = thenA (match args with | [] => _ | _ => _) k
  split <;> rfl
end Go.Proofs.Ytclghabbhpaafaa.V

/- The functions' pieces, as told by gen.py. -/
set_option linter.unusedVariables false
set_option maxRecDepth 20000
namespace Go.Proofs.Ytclghabbhpaafaa.V
open Go Go.V Go.RowKit


/-! ### 3: interlock/interlocklaw02.DiskTorn (22, 22, 3); results 6; slots: 0 old, 1 data, 2 torn, 3 old, 4 data, 5 torn, 7 d, 8 e, 9 b, 10 i, 11 want -/
/-- A loop's round; at its head live: 0 old, 1 data, 2 torn, 9 b, 10 i -/
noncomputable def f3_l0 : Sim Try.prog :=
  (.seq (.seq (.live [0, 1, 2, 9, 10, 55] (.region 13 [
    ⟨(opMove (some 54) (.tmp 10) 3 "law.go:208" #[]).op, none⟩,
    ⟨(opBin (some 55) .lss 3 (.tmp 54) (.const (Value.int IntKind.i64 64)) 3 4 "law.go:208" #[{ on := 0, ground := Ground.data }]).op, none⟩
  ] (by kernel_rfl)))
  (.cond (.tmp 55)
    .skip
    (.live [] (.exit 0))))
  (.seq (.block 1 (.seq (.live [0, 1, 2, 9, 10, 11] (.region 15 [
      ⟨(opMove (some 58) (.tmp 0) 22 "law.go:209" #[]).op, none⟩,
      ⟨(opMove (some 59) (.tmp 10) 3 "law.go:209" #[]).op, none⟩,
      ⟨(opIndexAddrT (some 60) 22 (.tmp 58) (.tmp 59) 5 1 Try.underlying22 sz5 0 "law.go:209" #[{ on := 0, ground := Ground.data }, { on := 1, ground := Ground.data }]).op, none⟩,
      ⟨(opLoadT (.one (.int .u8)) (some 61) 5 (.tmp 60) (.int .u8) Try.underlying5 1 sz5 (by kernel_rfl) 5 "law.go:209" #[{ on := 2, ground := Ground.data }]).op, none⟩,
      ⟨(opAssign (some 11) (.tmp 61) 5 "law.go:209" #[{ on := 3, ground := Ground.data }, { on := 0, ground := Ground.phase }, { on := 1, ground := Ground.phase }, { on := 2, ground := Ground.phase }, { on := 3, ground := Ground.phase }]).op, none⟩
    ] (by kernel_rfl)))
    (.seq (.seq (.live [0, 1, 2, 9, 10, 11, 64] (.region 16 [
      ⟨(opMove (some 62) (.tmp 10) 3 "law.go:210" #[]).op, none⟩,
      ⟨(opMove (some 63) (.tmp 2) 3 "law.go:210" #[]).op, none⟩,
      ⟨(opBin (some 64) .lss 3 (.tmp 62) (.tmp 63) 3 4 "law.go:210" #[{ on := 0, ground := Ground.data }, { on := 1, ground := Ground.data }]).op, none⟩
    ] (by kernel_rfl)))
    (.cond (.tmp 64)
      (.live [0, 1, 2, 9, 10, 11] (.region 17 [
        ⟨(opMove (some 65) (.tmp 1) 22 "law.go:211" #[]).op, none⟩,
        ⟨(opMove (some 66) (.tmp 10) 3 "law.go:211" #[]).op, none⟩,
        ⟨(opIndexAddrT (some 67) 22 (.tmp 65) (.tmp 66) 5 1 Try.underlying22 sz5 0 "law.go:211" #[{ on := 0, ground := Ground.data }, { on := 1, ground := Ground.data }]).op, none⟩,
        ⟨(opLoadT (.one (.int .u8)) (some 68) 5 (.tmp 67) (.int .u8) Try.underlying5 1 sz5 (by kernel_rfl) 5 "law.go:211" #[{ on := 2, ground := Ground.data }]).op, none⟩,
        ⟨(opAssign (some 11) (.tmp 68) 5 "law.go:211" #[{ on := 3, ground := Ground.data }, { on := 0, ground := Ground.phase }, { on := 1, ground := Ground.phase }, { on := 2, ground := Ground.phase }, { on := 3, ground := Ground.phase }]).op, none⟩
      ] (by kernel_rfl)))
      .skip))
    (.seq (.live [0, 1, 2, 9, 10, 74] (.region 18 [
      ⟨(opMove (some 69) (.tmp 9) 22 "law.go:213" #[]).op, none⟩,
      ⟨(opMove (some 70) (.tmp 10) 3 "law.go:213" #[]).op, none⟩,
      ⟨(opIndexAddrT (some 71) 22 (.tmp 69) (.tmp 70) 5 1 Try.underlying22 sz5 0 "law.go:213" #[{ on := 0, ground := Ground.data }, { on := 1, ground := Ground.data }]).op, none⟩,
      ⟨(opLoadT (.one (.int .u8)) (some 72) 5 (.tmp 71) (.int .u8) Try.underlying5 1 sz5 (by kernel_rfl) 5 "law.go:213" #[{ on := 2, ground := Ground.data }]).op, none⟩,
      ⟨(opMove (some 73) (.tmp 11) 5 "law.go:213" #[]).op, none⟩,
      ⟨(opBin (some 74) .neq 5 (.tmp 72) (.tmp 73) 5 4 "law.go:213" #[{ on := 3, ground := Ground.data }, { on := 4, ground := Ground.data }]).op, none⟩
    ] (by kernel_rfl)))
    (.cond (.tmp 74)
      (.seq (.live [6] (.region 19 [
        ⟨(opAssign (some 6) (.const (Value.bool false)) 4 "law.go:214" #[]).op, none⟩
      ] (by kernel_rfl)))
      (.live [6] .ret))
      .skip)))))
  (.live [0, 1, 2, 9, 10] (.region 14 [
    ⟨(opMove (some 56) (.tmp 10) 3 "law.go:208" #[]).op, none⟩,
    ⟨(opBin (some 57) .add 3 (.tmp 56) (.const (Value.int IntKind.i64 1)) 3 3 "law.go:208" #[{ on := 0, ground := Ground.data }]).op, none⟩,
    ⟨(opAssign (some 10) (.tmp 57) 3 "law.go:208" #[{ on := 1, ground := Ground.data }, { on := 0, ground := Ground.phase }, { on := 1, ground := Ground.phase }]).op, none⟩
  ] (by kernel_rfl)))))

/-- What follows a loop. -/
noncomputable def f3_r0 : Sim Try.prog :=
  (.seq (.live [6] (.region 20 [
    ⟨(opAssign (some 6) (.const (Value.bool true)) 4 "law.go:217" #[]).op, none⟩
  ] (by kernel_rfl)))
  (.live [6] .ret))

noncomputable def f3_b : Sim Try.prog :=
  (.seq (.live [0, 1, 2] (.region 0 [
    ⟨(opAssign (some 6) (.const (Value.bool false)) 4 "law.go:192" #[]).op, none⟩
  ] (by kernel_rfl)))
  (.seq (.seq (.live [0, 1, 2, 13] (.region 1 [
    ⟨(opCallP p9 (some 12) [] #[] 4 "law.go:193" #[]).op, none⟩,
    ⟨(opNot (some 13) 4 (.tmp 12) 4 "law.go:193" #[{ on := 0, ground := Ground.data }]).op, none⟩
  ] (by kernel_rfl)))
  (.cond (.tmp 13)
    (.seq (.live [6] (.region 2 [
      ⟨(opAssign (some 6) (.const (Value.bool false)) 4 "law.go:194" #[]).op, none⟩
    ] (by kernel_rfl)))
    (.live [6] .ret))
    .skip))
  (.seq (.seq (.live [0, 1, 2, 21] (.region 3 [
    ⟨(opMove (some 14) (.tmp 0) 22 "law.go:196" #[]).op, none⟩,
    ⟨(opLen (some 15) (.tmp 14) 22 (.slice 5) Try.underlying22 3 "law.go:196" #[{ on := 0, ground := Ground.data }]).op, none⟩,
    ⟨(opBin (some 16) .neq 3 (.tmp 15) (.const (Value.int IntKind.i64 64)) 3 4 "law.go:196" #[{ on := 1, ground := Ground.data }]).op, none⟩,
    ⟨(opMove (some 17) (.tmp 16) 4 "law.go:196" #[{ on := 2, ground := Ground.data }]).op, none⟩,
    ⟨(opMove (some 18) (.tmp 1) 22 "law.go:196" #[{ on := 3, ground := Ground.guard }]).op, (some (3, 17, false))⟩,
    ⟨(opLen (some 19) (.tmp 18) 22 (.slice 5) Try.underlying22 3 "law.go:196" #[{ on := 4, ground := Ground.data }, { on := 3, ground := Ground.guard }]).op, (some (3, 17, false))⟩,
    ⟨(opBin (some 20) .neq 3 (.tmp 19) (.const (Value.int IntKind.i64 64)) 3 4 "law.go:196" #[{ on := 5, ground := Ground.data }, { on := 3, ground := Ground.guard }]).op, (some (3, 17, false))⟩,
    ⟨(opPick (some 21) (.tmp 17) (.const (Value.bool true)) (.tmp 20) 4 "law.go:196" #[{ on := 3, ground := Ground.data }, { on := 6, ground := Ground.data }]).op, none⟩
  ] (by kernel_rfl)))
  (.cond (.tmp 21)
    (.seq (.live [6] (.region 4 [
      ⟨(opAssign (some 6) (.const (Value.bool true)) 4 "law.go:197" #[]).op, none⟩
    ] (by kernel_rfl)))
    (.live [6] .ret))
    .skip))
  (.seq (.live [0, 1, 2, 7, 8] (.region 5 [
    ⟨(opMove (some 23) (.tmp 0) 22 "law.go:199" #[]).op, none⟩,
    ⟨opCall (s10).orc (some 24) [(.tmp 23), (.const (Value.int IntKind.i64 2))] #[22, 3] 26 "law.go:199" #[{ on := 0, ground := Ground.data }], none⟩,
    ⟨(opMove (some 22) (.tmp 24) 26 "law.go:199" #[{ on := 1, ground := Ground.data }]).op, none⟩,
    ⟨(opExtract (some 25) (.tmp 22) 0 24 "law.go:199" #[{ on := 2, ground := Ground.data }]).op, none⟩,
    ⟨(opExtract (some 26) (.tmp 22) 1 25 "law.go:199" #[{ on := 2, ground := Ground.data }, { on := 5, ground := (Ground.gcOnly Departure.lateStores) }]).op, none⟩,
    ⟨(opAssign (some 7) (.tmp 25) 24 "law.go:199" #[{ on := 3, ground := Ground.data }, { on := 1, ground := Ground.chain }, { on := 0, ground := Ground.phase }, { on := 1, ground := Ground.phase }, { on := 2, ground := Ground.phase }, { on := 3, ground := Ground.phase }, { on := 4, ground := (Ground.textOnly Departure.lateStores) }]).op, none⟩,
    ⟨(opAssign (some 8) (.tmp 26) 25 "law.go:199" #[{ on := 4, ground := Ground.data }, { on := 5, ground := Ground.chain }, { on := 0, ground := Ground.phase }, { on := 1, ground := Ground.phase }, { on := 2, ground := Ground.phase }, { on := 3, ground := Ground.phase }, { on := 4, ground := Ground.phase }, { on := 5, ground := Ground.phase }]).op, none⟩
  ] (by kernel_rfl)))
  (.seq (.seq (.live [0, 1, 2, 7, 38] (.region 6 [
    ⟨(opMove (some 27) (.tmp 8) 25 "law.go:200" #[]).op, none⟩,
    ⟨(opBin (some 28) .neq 25 (.tmp 27) (.const (Value.int IntKind.i64 0)) 25 4 "law.go:200" #[{ on := 0, ground := Ground.data }]).op, none⟩,
    ⟨(opMove (some 29) (.tmp 28) 4 "law.go:200" #[{ on := 1, ground := Ground.data }]).op, none⟩,
    ⟨(opMove (some 30) (.tmp 7) 24 "law.go:200" #[{ on := 2, ground := Ground.guard }]).op, (some (2, 29, false))⟩,
    ⟨(opEq (some 31) 24 (.pointer 58) Try.underlying24 (.tmp 30) (.const (Value.pointer none)) (.inl rfl) 24 4 "law.go:200" #[{ on := 3, ground := Ground.data }, { on := 2, ground := Ground.guard }]).op, (some (2, 29, false))⟩,
    ⟨(opPick (some 32) (.tmp 29) (.const (Value.bool true)) (.tmp 31) 4 "law.go:200" #[{ on := 2, ground := Ground.data }, { on := 4, ground := Ground.data }]).op, none⟩,
    ⟨(opMove (some 33) (.tmp 32) 4 "law.go:200" #[{ on := 5, ground := Ground.data }, { on := 2, ground := Ground.chain }]).op, none⟩,
    ⟨(opMove (some 34) (.tmp 7) 24 "law.go:200" #[{ on := 6, ground := Ground.guard }]).op, (some (6, 33, false))⟩,
    ⟨(opMove (some 35) (.tmp 1) 22 "law.go:200" #[{ on := 6, ground := Ground.guard }]).op, (some (6, 33, false))⟩,
    ⟨opCall (s11).orc (some 36) [(.tmp 34), (.const (Value.int IntKind.i64 0)), (.tmp 35)] #[24, 3, 22] 25 "law.go:200" #[{ on := 7, ground := Ground.data }, { on := 8, ground := Ground.data }, { on := 6, ground := Ground.chain }, { on := 6, ground := Ground.guard }], (some (6, 33, false))⟩,
    ⟨(opBin (some 37) .neq 25 (.tmp 36) (.const (Value.int IntKind.i64 0)) 25 4 "law.go:200" #[{ on := 9, ground := Ground.data }, { on := 6, ground := Ground.guard }]).op, (some (6, 33, false))⟩,
    ⟨(opPick (some 38) (.tmp 33) (.const (Value.bool true)) (.tmp 37) 4 "law.go:200" #[{ on := 6, ground := Ground.data }, { on := 10, ground := Ground.data }]).op, none⟩
  ] (by kernel_rfl)))
  (.cond (.tmp 38)
    (.seq (.live [6] (.region 7 [
      ⟨(opAssign (some 6) (.const (Value.bool false)) 4 "law.go:201" #[]).op, none⟩
    ] (by kernel_rfl)))
    (.live [6] .ret))
    .skip))
  (.seq (.live [0, 1, 2, 7] (.region 8 [
    ⟨(opMove (some 39) (.tmp 7) 24 "law.go:203" #[]).op, none⟩,
    ⟨(opMove (some 40) (.tmp 2) 3 "law.go:203" #[]).op, none⟩,
    ⟨opCall (s12).orc (some 41) [(.tmp 39), (.const (Value.int IntKind.i64 0)), (.tmp 40)] #[24, 3, 3] 0 "law.go:203" #[{ on := 0, ground := Ground.data }, { on := 1, ground := Ground.data }], none⟩
  ] (by kernel_rfl)))
  (.seq (.live [0, 1, 2, 8, 9] (.region 9 [
    ⟨(opMove (some 43) (.tmp 7) 24 "law.go:204" #[]).op, none⟩,
    ⟨opCall (s13).orc (some 44) [(.tmp 43), (.const (Value.int IntKind.i64 0))] #[24, 3] 30 "law.go:204" #[{ on := 0, ground := Ground.data }], none⟩,
    ⟨(opMove (some 42) (.tmp 44) 30 "law.go:204" #[{ on := 1, ground := Ground.data }]).op, none⟩,
    ⟨(opExtract (some 45) (.tmp 42) 0 22 "law.go:204" #[{ on := 2, ground := Ground.data }]).op, none⟩,
    ⟨(opExtract (some 46) (.tmp 42) 1 25 "law.go:204" #[{ on := 2, ground := Ground.data }, { on := 5, ground := (Ground.gcOnly Departure.lateStores) }]).op, none⟩,
    ⟨(opAssign (some 9) (.tmp 45) 22 "law.go:204" #[{ on := 3, ground := Ground.data }, { on := 1, ground := Ground.chain }, { on := 0, ground := Ground.phase }, { on := 1, ground := Ground.phase }, { on := 2, ground := Ground.phase }, { on := 3, ground := Ground.phase }, { on := 4, ground := (Ground.textOnly Departure.lateStores) }]).op, none⟩,
    ⟨(opAssign (some 8) (.tmp 46) 25 "law.go:204" #[{ on := 4, ground := Ground.data }, { on := 5, ground := Ground.chain }, { on := 0, ground := Ground.phase }, { on := 1, ground := Ground.phase }, { on := 2, ground := Ground.phase }, { on := 3, ground := Ground.phase }, { on := 4, ground := Ground.phase }, { on := 5, ground := Ground.phase }]).op, none⟩
  ] (by kernel_rfl)))
  (.seq (.seq (.live [0, 1, 2, 9, 53] (.region 10 [
    ⟨(opMove (some 47) (.tmp 8) 25 "law.go:205" #[]).op, none⟩,
    ⟨(opBin (some 48) .neq 25 (.tmp 47) (.const (Value.int IntKind.i64 0)) 25 4 "law.go:205" #[{ on := 0, ground := Ground.data }]).op, none⟩,
    ⟨(opMove (some 49) (.tmp 48) 4 "law.go:205" #[{ on := 1, ground := Ground.data }]).op, none⟩,
    ⟨(opMove (some 50) (.tmp 9) 22 "law.go:205" #[{ on := 2, ground := Ground.guard }]).op, (some (2, 49, false))⟩,
    ⟨(opLen (some 51) (.tmp 50) 22 (.slice 5) Try.underlying22 3 "law.go:205" #[{ on := 3, ground := Ground.data }, { on := 2, ground := Ground.guard }]).op, (some (2, 49, false))⟩,
    ⟨(opBin (some 52) .neq 3 (.tmp 51) (.const (Value.int IntKind.i64 64)) 3 4 "law.go:205" #[{ on := 4, ground := Ground.data }, { on := 2, ground := Ground.guard }]).op, (some (2, 49, false))⟩,
    ⟨(opPick (some 53) (.tmp 49) (.const (Value.bool true)) (.tmp 52) 4 "law.go:205" #[{ on := 2, ground := Ground.data }, { on := 5, ground := Ground.data }]).op, none⟩
  ] (by kernel_rfl)))
  (.cond (.tmp 53)
    (.seq (.live [6] (.region 11 [
      ⟨(opAssign (some 6) (.const (Value.bool false)) 4 "law.go:206" #[]).op, none⟩
    ] (by kernel_rfl)))
    (.live [6] .ret))
    .skip))
  (.seq (.seq (.live [0, 1, 2, 9, 10] (.region 12 [
    ⟨(opAssign (some 10) (.const (Value.int IntKind.i64 0)) 3 "law.go:208" #[]).op, none⟩
  ] (by kernel_rfl)))
  (.block 0 (.loop [0, 1, 2, 9, 10] f3_l0)))
  f3_r0)))))))))

noncomputable def f3 : Fun Try.prog where
  id := 3
  fn := Try.f3
  hf := Try.func3
  hname := by kernel_rfl
  body := f3_b
  hbody := by kernel_rfl
  res := [rTmp 6]
  hres := by kernel_rfl
  n := 75
  hn := by kernel_rfl

end Go.Proofs.Ytclghabbhpaafaa.V

/- What the functions' runs come to; the right sides were printed by a tool, Lean checks them. -/
set_option linter.unusedVariables false
set_option maxRecDepth 100000
namespace Go.Proofs.Ytclghabbhpaafaa.V
open Go Go.V Go.RowKit

theorem torn_run (F : Nat) (z y : Bool) (l d : List (List AV)) (t : Int) :
    (f3.run F [.ns z 1 l, .ns y 1 d, .int .i64 t] ⟨[], []⟩ : Ans) =
    branch (AV.bool ((↑l.length : Int) != (64 : Int))) (some (Fin.ret (AV.bool true), St.mk [] []))
      (branch (AV.bool ((↑d.length : Int) != (64 : Int))) (some (Fin.ret (AV.bool true), St.mk [] []))
        (branch (AV.bool (byOk l && true))
          (onSome
            (dkG 0 (dk0 (Dk.new (Int.toNat (2 : Int)) (nR l))) (dk1 (Dk.new (Int.toNat (2 : Int)) (nR l)))
              (dk2 (St.mk [] []).objs.length (Dk.new (Int.toNat (2 : Int)) (nR l)))
              (dk3 (Dk.new (Int.toNat (2 : Int)) (nR l))))
            none fun (o : Dk) =>
            branch (AV.bool (byOk d))
              (branch (AV.bool (o.wrE (0 : Int) d.length != (0 : Int)))
                (some
                  (Fin.ret (AV.bool false),
                    St.mk
                      [dk0 (o.wrX (0 : Int) (nR d)), dk1 (o.wrX (0 : Int) (nR d)), dk2 0 (o.wrX (0 : Int) (nR d)),
                        dk3 (o.wrX (0 : Int) (nR d))]
                      []))
                (onSome
                  (dkG 0 (dk0 (o.wrX (0 : Int) (nR d))) (dk1 (o.wrX (0 : Int) (nR d)))
                    (dk2 (nat_lit 0) (o.wrX (0 : Int) (nR d))) (dk3 (o.wrX (0 : Int) (nR d))))
                  none fun (o : Dk) =>
                  onSome
                    (dkG 0 (dk0 (o.crash (0 : Int) t)) (dk1 (o.crash (0 : Int) t))
                      (dk2 (nat_lit 0) (o.crash (0 : Int) t)) (dk3 (o.crash (0 : Int) t)))
                    none fun (o_1 : Dk) =>
                    branch (AV.bool (o_1.rdE (0 : Int) != (0 : Int)))
                      (some
                        (Fin.ret (AV.bool false),
                          St.mk
                            [dk0 (o.crash (0 : Int) t), dk1 (o.crash (0 : Int) t), dk2 0 (o.crash (0 : Int) t),
                              dk3 (o.crash (0 : Int) t)]
                            []))
                      (branch (AV.bool ((↑(bR (o_1.rdB (0 : Int))).length : Int) != (64 : Int)))
                        (some
                          (Fin.ret (AV.bool false),
                            St.mk
                              [dk0 (o.crash (0 : Int) t), dk1 (o.crash (0 : Int) t), dk2 0 (o.crash (0 : Int) t),
                                dk3 (o.crash (0 : Int) t)]
                              []))
                        (loopRun (f3_l0.run F) [0, 1, 2, 9, 10]
                          (Cont.block 0 (Cont.then (f3_r0.run F (f3.leaveK Fun.done)) (f3.leaveK Fun.done))) F
                          (Env.mk 75
                            [(0, AV.ns z 1 l), (1, AV.ns y 1 d),
                              (2, AV.int IntKind.i64 t),
                              (9, AV.ns (!o_1.inD (0 : Int)) 1 (bR (o_1.rdB (0 : Int)))),
                              (10, AV.int IntKind.i64 (0 : Int))])
                          (St.mk
                            [dk0 (o.crash (0 : Int) t), dk1 (o.crash (0 : Int) t), dk2 0 (o.crash (0 : Int) t),
                              dk3 (o.crash (0 : Int) t)]
                            [])))))
              none)
          none)) := by kernel_rfl

theorem torn_round (F m : Nat) (K : Cont) (z y w : Bool) (l d b : List (List AV)) (t i : Int) (st : St) :
    (loopRun (f3_l0.run F) [0, 1, 2, 9, 10] K m.succ (Env.mk 75 [(0, .ns z 1 l), (1, .ns y 1 d), (2, .int .i64 t), (9, .ns w 1 b), (10, .int .i64 i)]) st : Ans) =
    branch (AV.bool (decide (i < (64 : Int))))
      (branch (AV.bool (inR l i))
        (branch (AV.bool ((LD.one (LT.int IntKind.u8)).is (V.rowAt l i)))
          (branch (AV.bool (decide (i < t)))
            (branch (AV.bool (inR d i))
              (branch (AV.bool ((LD.one (LT.int IntKind.u8)).is (V.rowAt d i)))
                (branch (AV.bool (inR b i))
                  (branch (AV.bool ((LD.one (LT.int IntKind.u8)).is (V.rowAt b i)))
                    (branch (AV.bool (hdI (V.rowAt b i) != hdI (V.rowAt d i)))
                      (K AX.ret (Env.mk 75 [(6, AV.bool false)]) st)
                      (loopRun (f3_l0.run F) [0, 1, 2, 9, 10] K m
                        (Env.mk 75
                          [(0, AV.ns z 1 l), (1, AV.ns y 1 d),
                            (2, AV.int IntKind.i64 t), (9, AV.ns w 1 b),
                            (10, AV.int IntKind.i64 (IntKind.i64.wrap (i + (1 : Int))))])
                        st))
                    none)
                  none)
                none)
              none)
            (branch (AV.bool (inR b i))
              (branch (AV.bool ((LD.one (LT.int IntKind.u8)).is (V.rowAt b i)))
                (branch (AV.bool (hdI (V.rowAt b i) != hdI (V.rowAt l i)))
                  (K AX.ret (Env.mk 75 [(6, AV.bool false)]) st)
                  (loopRun (f3_l0.run F) [0, 1, 2, 9, 10] K m
                    (Env.mk 75
                      [(0, AV.ns z 1 l), (1, AV.ns y 1 d),
                        (2, AV.int IntKind.i64 t), (9, AV.ns w 1 b),
                        (10, AV.int IntKind.i64 (IntKind.i64.wrap (i + (1 : Int))))])
                    st))
                none)
              none))
          none)
        none)
      (K (AX.exit 0) (Env.mk 75 []) st) := by kernel_rfl

theorem torn_out (F : Nat) (st : St) :
    ((Cont.block 0 (Cont.then (f3_r0.run F (f3.leaveK Fun.done)) (f3.leaveK Fun.done))) (.exit 0) (Env.mk 75 []) st : Ans) =
    some (Fin.ret (AV.bool true), st) := by kernel_rfl

end Go.Proofs.Ytclghabbhpaafaa.V

/- Disk: DiskTorn. -/
set_option linter.unusedVariables false
namespace Go.Proofs.Ytclghabbhpaafaa.V
open Go Go.V Go.RowKit

/-- One write's bytes ahead of the old ones. -/
def tornB (old data : List Nat) (t : Nat) : List Nat := data.take t ++ old.drop t
theorem tornB_at {old data : List Nat} {t i : Nat} (h1 : old.length = 64) (h2 : data.length = 64) (ht : t ≤ 64) (hi : i < 64) : (tornB old data t)[i]? = if i < t then data[i]? else old[i]? := by
  rw [tornB, List.getElem?_append, List.length_take]
  by_cases h : i < t
  · rw [if_pos (by omega), if_pos h, List.getElem?_take, if_pos h]
  · rw [if_neg (by omega), if_neg h, List.getElem?_drop]
    congr 1; omega
theorem torn_loop (F : Nat) (z y w : Bool) (old data : List Nat) (t : Int) (h1 : old.length = 64) (h2 : data.length = 64) (o1 : ∀ x ∈ old, x < 256) (o2 : ∀ x ∈ data, x < 256) (st : St) : ∀ (k m i : Nat), i + k = 64 → k < m →
    loopRun (f3_l0.run F) [0, 1, 2, 9, 10] (Cont.block 0 (Cont.then (f3_r0.run F (f3.leaveK Fun.done)) (f3.leaveK Fun.done))) m (Env.mk 75 [(0, .ns z 1 (bR old)), (1, .ns y 1 (bR data)), (2, .int .i64 t), (9, .ns w 1 (bR (tornB old data (clip t 64).toNat))), (10, .int .i64 (i : Int))]) st = some (.ret (.bool true), st)
  | k, 0, i, h, hm => by omega
  | 0, m + 1, i, h, hm => by
    obtain rfl : i = 64 := by omega
    rw [show m + 1 = m.succ from rfl, torn_round, branch_not (by simp), torn_out]
  | k + 1, m + 1, i, h, hm => by
    have ih := torn_loop F z y w old data t h1 h2 o1 o2 st k m (i + 1) (by omega) (by omega)
    have hc := clip_ok t 64 (by decide)
    have hce := clip_eq t 64 (by decide)
    have ht : (clip t 64).toNat ≤ 64 := by omega
    have hl : (tornB old data (clip t 64).toNat).length = 64 := by rw [tornB, List.length_append, List.length_take, List.length_drop]; omega
    have hb : ∀ x ∈ tornB old data (clip t 64).toNat, x < 256 := fun x hx => by
      rcases List.mem_append.mp hx with hx | hx
      · exact o2 x (List.mem_of_mem_take hx)
      · exact o1 x (List.mem_of_mem_drop hx)
    have at_ : ∀ {b : List Nat} (hb : b.length = 64) (ho : ∀ x ∈ b, x < 256), inR (bR b) (i : Int) = true ∧ (LD.one (.int .u8)).is (V.rowAt (bR b) (i : Int)) = true ∧ hdI (V.rowAt (bR b) (i : Int)) = ((b[i]'(by omega) : Nat) : Int) := fun {b} hb ho => by
      have hi : i < (bR b).length := by rw [bR_length]; omega
      obtain ⟨q1, q2⟩ := okR_at (okR_bR ho) hi
      refine ⟨inR_nat hi, q1, q2.trans ?_⟩
      congr 1
      simp only [nR_bR]
    obtain ⟨a1, a2, a3⟩ := at_ h1 o1
    obtain ⟨b1, b2, b3⟩ := at_ h2 o2
    obtain ⟨c1, c2, c3⟩ := at_ hl hb
    have e := tornB_at (i := i) h1 h2 ht (by omega)
    rw [List.getElem?_eq_getElem (by omega), List.getElem?_eq_getElem (by omega), List.getElem?_eq_getElem (by omega)] at e
    rw [show m + 1 = m.succ from rfl, torn_round, branch_of (by simp; omega), branch_of a1, branch_of a2, wrap_succ (by omega)]
    by_cases hit : (i : Int) < t
    · have hit' : i < (clip t 64).toNat := by
        rw [hce]; split
        · omega
        · split <;> omega
      rw [if_pos hit'] at e
      rw [branch_of (by simpa using hit), branch_of b1, branch_of b2, branch_of c1, branch_of c2, c3, b3, Option.some.inj e, branch_not (by simp)]
      exact ih
    · have hit' : ¬ i < (clip t 64).toNat := by
        rw [hce]; split
        · omega
        · split <;> omega
      rw [if_neg hit'] at e
      rw [branch_not (by simpa using hit), branch_of c1, branch_of c2, c3, a3, Option.some.inj e, branch_not (by simp)]
      exact ih
theorem torn_true (z y : Bool) (l d : List (List AV)) (t : Int) (hl : byOk l = true) (hd : byOk d = true) : ∃ F st, f3.run F [.ns z 1 l, .ns y 1 d, .int .i64 t] ⟨[], []⟩ = some (.ret (.bool true), st) := by
  have hol := byOk_iff.mp hl
  have hod := byOk_iff.mp hd
  have ol : ∀ x ∈ nR l, x < 256 := fun x hx => okR_lt hol.1 hx
  have od : ∀ x ∈ nR d, x < 256 := fun x hx => okR_lt hod.1 hx
  refine ⟨1000, ?_⟩
  by_cases h1 : l.length = 64
  · by_cases h2 : d.length = 64
    · have g1 : (nR l).length = 64 := by rw [nR_length, h1]
      have g2 : (nR d).length = 64 := by rw [nR_length, h2]
      let X1 := Dk.new 2 (nR l)
      have k1 : X1.Ok := new_ok (by decide) ol
      have e2 : X1.wrX 0 (nR d) = X1.put 0 (nR d) := by rw [Dk.wrX, if_pos ⟨by decide, by show (0 : Int) < ((2 : Nat) : Int); decide, g2⟩]; rfl
      have k2 : (X1.put 0 (nR d)).Ok := k1.put (by show 0 < 2; decide) g2 od
      have k3 : ((X1.put 0 (nR d)).crash 0 t).Ok := k2.settle _ _
      have hE : X1.wrE 0 d.length = 0 := by rw [Dk.wrE, if_pos ⟨by decide, by show (0 : Int) < ((2 : Nat) : Int); decide⟩, if_pos h2]
      have hin : ((X1.put 0 (nR d)).crash 0 t).inD 0 = true := by
        rw [Dk.inD, decide_eq_true_eq]; exact ⟨by decide, by show (0 : Int) < ((2 : Nat) : Int); decide⟩
      have hc := clip_ok t 64 (by decide)
      have hls : ((X1.put 0 (nR d)).crash 0 t).ls = putN (nR l ++ List.replicate 64 0) 0 ((nR d).take (clip t 64).toNat) := by
        have e0 : imgAt 2 (nR l) 2 = nR l ++ List.replicate 64 0 := by rw [imgAt, List.take_of_length_le (by omega), g1]
        show tornL (appW (imgAt 2 (nR l) 2) (([] ++ [(0, nR d)]).take (clip 0 1).toNat)) (([] ++ [(0, nR d)])[(clip 0 1).toNat]?) (clip t 64).toNat = _
        rw [e0]; rfl
      have hrd : ((X1.put 0 (nR d)).crash 0 t).rdB 0 = tornB (nR l) (nR d) (clip t 64).toNat := by
        rw [Dk.rdB, hin]
        show (none : Option (List Nat)).getD ((((X1.put 0 (nR d)).crash 0 t).ls.drop (0 * 64)).take 64) = _
        rw [hls, Option.getD_none, Nat.zero_mul, List.drop_zero, putN, tornB, List.take_zero, List.nil_append, Nat.zero_add, List.length_take, g2]
        rw [List.take_append, List.take_of_length_le (by rw [List.length_take]; omega), List.length_take, g2]
        congr 1
        rw [List.drop_append, List.take_append, List.length_drop, g1]
        rw [show min (clip t 64).toNat 64 = (clip t 64).toNat by omega, List.take_of_length_le (by rw [List.length_drop]; omega)]
        simp
      have hrE : ((X1.put 0 (nR d)).crash 0 t).rdE 0 = 0 := by rw [Dk.rdE, hin]; rfl
      have hbl : (bR (tornB (nR l) (nR d) (clip t 64).toNat)).length = 64 := by rw [bR_length, tornB, List.length_append, List.length_take, List.length_drop]; omega
      refine ⟨⟨[dk0 ((X1.put 0 (nR d)).crash 0 t), dk1 ((X1.put 0 (nR d)).crash 0 t), dk2 0 ((X1.put 0 (nR d)).crash 0 t), dk3 ((X1.put 0 (nR d)).crash 0 t)], []⟩, ?_⟩
      rw [torn_run, branch_not (by simp [h1]), branch_not (by simp [h2]), branch_of (by rw [hl]; rfl)]
      rw [show dkG 0 (dk0 (Dk.new (Int.toNat 2) (nR l))) (dk1 (Dk.new (Int.toNat 2) (nR l))) (dk2 (St.mk [] []).objs.length (Dk.new (Int.toNat 2) (nR l))) (dk3 (Dk.new (Int.toNat 2) (nR l))) = some X1 from gD' k1 (by show 0 < 999999; decide) 0,
        onSome_some, branch_of hd, hE, branch_not (by rfl), e2, gD k2 (by show 1 < 999999; decide), onSome_some, gD k3 (by show 0 < 999999; decide), onSome_some, hrE, branch_not (by rfl), hrd, hbl, branch_not (by rfl)]
      have := torn_loop 1000 z y (!((X1.put 0 (nR d)).crash 0 t).inD 0) (nR l) (nR d) t g1 g2 ol od ⟨[dk0 ((X1.put 0 (nR d)).crash 0 t), dk1 ((X1.put 0 (nR d)).crash 0 t), dk2 0 ((X1.put 0 (nR d)).crash 0 t), dk3 ((X1.put 0 (nR d)).crash 0 t)], []⟩ 64 1000 0 (by decide) (by decide)
      rw [← okR_rows hol.1, ← okR_rows hod.1] at this
      exact this
    · exact ⟨_, by rw [torn_run, branch_not (by simp [h1]), branch_of (by simp; omega)]⟩
  · exact ⟨_, by rw [torn_run, branch_of (by simp; omega)]⟩
theorem torn_law (as0 as1 as2 : List AV) (s0 : Ty.Shape (.sl (.int .u8) 1) as0) (s1 : Ty.Shape (.sl (.int .u8) 1) as1) (s2 : Ty.Shape (.int .i64) as2) : ∃ F st, f3.run F [(Ty.sl (.int .u8) 1).AV' as0, (Ty.sl (.int .u8) 1).AV' as1, (Ty.int .i64).AV' as2] ⟨[], []⟩ = some (.ret (.bool true), st) := by
  obtain ⟨z, l, rfl, l1, _, l3⟩ := bytes_shape s0
  obtain ⟨y, d, rfl, d1, _, d3⟩ := bytes_shape s1
  obtain ⟨t, rfl, _⟩ := s2
  exact torn_true z y l d t (byOk_iff.mpr ⟨l1, l3⟩) (byOk_iff.mpr ⟨d1, d3⟩)
end Go.Proofs.Ytclghabbhpaafaa.V

/- Disk: calls, great; callees in regions whose order is open. -/
set_option linter.unusedVariables false
namespace Go.Proofs.Ytclghabbhpaafaa.V
open Go Go.V Go.RowKit

/-- A call. -/
noncomputable def okCall (r : List AV) : Bool :=
  match r with
  | [.int .i64 _, .int .i64 _, .int .i64 _, .ns _ 1 d] => okR d && fit d.length
  | _ => false
noncomputable def okCl (l : List (List AV)) : Bool := l.all okCall && fit l.length
theorem okCall_spec {r : List AV} (h : okCall r = true) : ∃ w s t z d, r = [.int .i64 w, .int .i64 s, .int .i64 t, .ns z 1 d] ∧ byOk d = true := by
  unfold okCall at h
  split at h
  · exact ⟨_, _, _, _, _, rfl, h⟩
  · cases h
theorem okCl_iff {l : List (List AV)} : okCl l = true ↔ (∀ r ∈ l, okCall r = true) ∧ l.length < 4611686018427387904 := by
  rw [okCl, Bool.and_eq_true, List.all_eq_true, fit_iff]
theorem okCl_scoped {n m : Nat} : ∀ {l : List (List AV)}, (∀ r ∈ l, okCall r = true) → ScopedR n m l
  | [], _ => trivial
  | r :: l, h => by
    obtain ⟨w, s, t, z, d, rfl, hd⟩ := okCall_spec (h r (by simp))
    exact ⟨⟨trivial, trivial, trivial, okR_scoped (byOk_iff.mp hd).1, trivial⟩, okCl_scoped fun x hx => h x (by simp [hx])⟩
def dlen (r : List AV) : Nat := (rwA (r.drop 3)).length
/-- Too great? -/
def bigSum : List (List AV) → Nat → Bool
  | [], _ => false
  | r :: l, n => decide (n + dlen r > 20000) || bigSum l (n + dlen r)
noncomputable def greatB (l : List (List AV)) : Bool := opq (decide ((l.length : Int) > 200) || bigSum l 0)
theorem dlen_lt {r : List AV} (h : okCall r = true) : dlen r < 4611686018427387904 ∧ (LD.one (LT.ns 1)).is (r.drop 3) = true := by
  obtain ⟨w, s, t, z, d, rfl, hd⟩ := okCall_spec h
  exact ⟨(byOk_iff.mp hd).2, rfl⟩
theorem great_loop (F : Nat) (z : Bool) (l : List (List AV)) (h : ∀ r ∈ l, okCall r = true) (h200 : l.length ≤ 200) (st : St) : ∀ (k m i n : Nat), i + k = l.length → k < m → n ≤ 20000 →
    loopRun (f14_l0.run F) [0, 3, 4] (Cont.block 0 (Cont.then (f14_r0.run F (f14.leaveK Fun.done)) (f14.leaveK Fun.done))) m (Env.mk 24 [(0, .ns z 4 l), (3, .int .i64 (n : Int)), (4, .int .i64 (i : Int))]) st = some (.ret (.bool (bigSum (l.drop i) n)), st)
  | k, 0, i, n, hi, hm, hn => by omega
  | 0, m + 1, i, n, hi, hm, hn => by
    rw [show m + 1 = m.succ from rfl, great_round, branch_not (by simp; omega), great_out, List.drop_eq_nil_of_le (by omega)]
    rfl
  | k + 1, m + 1, i, n, hi, hm, hn => by
    have h1 : i < l.length := by omega
    obtain ⟨d1, d2⟩ := dlen_lt (h l[i] (List.getElem_mem h1))
    have hw : IntKind.i64.wrap ((n : Int) + ((dlen l[i] : Nat) : Int)) = ((n + dlen l[i] : Nat) : Int) := by
      rw [show (n : Int) + ((dlen l[i] : Nat) : Int) = ((n + dlen l[i] : Nat) : Int) by omega, wrap_nat (by omega)]
    rw [List.drop_eq_getElem_cons h1, show m + 1 = m.succ from rfl, great_round, branch_of (by simp; omega), branch_of (inR_nat h1), rowAt_nat h1, branch_of d2]
    rw [show (((rwA (List.drop 3 l[i])).length : Nat) : Int) = ((dlen l[i] : Nat) : Int) from rfl, hw, wrap_succ (by omega)]
    by_cases hb : n + dlen l[i] > 20000
    · rw [branch_of (by simp; omega), great_ret]
      simp [bigSum, hb]
    · rw [branch_not (by simp; omega), great_loop F z l h h200 st k m (i + 1) (n + dlen l[i]) (by omega) (by omega) (by omega)]
      simp [bigSum, hb]
theorem great_all (z : Bool) (l : List (List AV)) (h : okCl l = true) (st : St) : f14.run (l.length + 1) [.ns z 4 l] st = some (.ret (.bool (greatB l)), st) := by
  rw [okCl_iff] at h
  rw [great_run, greatB, opq_eq]
  by_cases h1 : (l.length : Int) > 200
  · rw [branch_of (by simpa using h1)]; simp [h1]
  · rw [branch_not (by simpa using h1)]
    have := great_loop (l.length + 1) z l h.1 (by omega) st l.length (l.length + 1) 0 0 (by omega) (by omega) (by omega)
    rw [List.drop_zero] at this
    refine Eq.trans this ?_
    simp [h1]
noncomputable def p14 : POrc Try.prog := f14.farN
  (fun args k => match args with
    | [x] => onNs 4 x fun _ l => ifT (okCl l) (k (.bool (greatB l)))
    | _ => none)
  fun args k fin h => by
    split at h
    · rename_i x
      obtain ⟨z, l, h, hx⟩ := onNs_spec h
      obtain ⟨h1, h⟩ := ifT_spec h
      exact ⟨_, _, h, .cons hx .nil, ⟨okCl_scoped (okCl_iff.mp h1).1, trivial⟩, trivial, l.length + 1, .bool (greatB l), ⟨[], []⟩, rfl, great_all z l h1 _⟩
    · cases h
theorem p14_nat : p14.Nat := by
  intro args k
  show (match args with | [x] => _ | _ => _) = thenA (match args with | [x] => _ | _ => _) k
  split
  · exact onNs_nat fun _ _ => ifT_nat rfl
  · rfl
def thS (a : Ans) (k : Fin → St → Ans) : Ans :=
  match a with
  | some (r, st') => k r st'
  | none => none
theorem onD_th {x : AV} {st : St} {s s' : Nat → Dk → Ans} {k : Fin → St → Ans} (h : ∀ i X, s i X = thS (s' i X) k) : onD x st s = thS (onD x st s') k := by
  unfold onD
  split
  · split
    · split
      · split
        · split
          · split
            · split
              · unfold onSome
                split
                · rfl
                · exact h _ _
              · rfl
            · rfl
          · rfl
        · rfl
      · rfl
    · rfl
  · rfl
theorem onInt_th {x : AV} {s s' : IntKind → Int → Ans} {k : Fin → St → Ans} (h : ∀ i n, s i n = thS (s' i n) k) : onInt x s = thS (onInt x s') k := by
  unfold onInt
  split
  · exact h _ _
  · rfl
theorem onNs_th {sz : Nat} {x : AV} {s s' : Bool → List (List AV) → Ans} {k : Fin → St → Ans} (h : ∀ z l, s z l = thS (s' z l) k) : onNs sz x s = thS (onNs sz x s') k := by
  unfold onNs
  split
  · exact h _ _
  all_goals first
    | rfl
    | (split
       · exact h _ _
       · rfl)
theorem ifT_th {b : Bool} {s s' : Ans} {k : Fin → St → Ans} (h : s = thS s' k) : ifT b s = thS (ifT b s') k := by
  cases b
  · rfl
  · exact h
theorem s11_nat : s11.NatS := by
  intro args st k
  show s11.sem args st k = thS (s11.sem args st (fun r st' => some (r, st'))) k
  simp only [s11, Fun.by']
  split
  · exact onD_th fun i X => onInt_th fun kd n => ifT_th (onNs_th fun z l => ifT_th rfl)
  · rfl
end Go.Proofs.Ytclghabbhpaafaa.V

/- Disk: bytes compared, objects too. -/
set_option linter.unusedVariables false
namespace Go.Proofs.Ytclghabbhpaafaa.V
open Go Go.V Go.RowKit

noncomputable def q17 : OrcQ Try.prog := f17.farR
  (fun args st k => match args with
    | [x, y] => onNsQ 1 x st fun _ l => onNsQ 1 y st fun _ r => ifT (byOk l && byOk r) (k (.bool (nR l == nR r)))
    | _ => none)
  fun args st k fin h => by
    split at h
    · rename_i x y
      obtain ⟨z, l, g1, hx⟩ := onNsQ_spec h
      obtain ⟨z', r, g2, hy⟩ := onNsQ_spec g1
      obtain ⟨h1, g3⟩ := ifT_spec g2
      simp only [Bool.and_eq_true] at h1
      exact ⟨[.ns z 1 l, .ns z' 1 r], .bool _, g3, .cons (hx (okR_scoped (byOk_iff.mp h1.1).1)) (.cons (hy (okR_scoped (byOk_iff.mp h1.2).1)) .nil), _, .bool _, ⟨[], []⟩, same_all z z' l r h1.1 h1.2 _, trivial, trivial, fun _ _ _ h => h⟩
    · cases h
theorem q17_nat : q17.NatQ := by
  intro args st k
  show (match args with | [x, y] => _ | _ => _) = thenA (match args with | [x, y] => _ | _ => _) k
  split
  · exact onNsQ_nat fun _ _ => onNsQ_nat fun _ _ => ifT_nat rfl
  · rfl
end Go.Proofs.Ytclghabbhpaafaa.V

/- The functions' pieces, as told by gen.py. -/
set_option linter.unusedVariables false
set_option maxRecDepth 20000
namespace Go.Proofs.Ytclghabbhpaafaa.V
open Go Go.V Go.RowKit

theorem fl38_0 : fieldB Try.prog 38 0 0 1 false = true := by kernel_rfl
theorem fl38_1 : fieldB Try.prog 38 1 1 1 false = true := by kernel_rfl

/-! ### 6: interlock/interlocklaw02.DiskLasts (33, 3, 3); results 6; slots: 0 calls, 1 keep, 2 torn, 3 calls, 4 keep, 5 torn, 7 d, 8 e, 9 i, 10 want, 11 k, 12 b, 13 e -/
/-- A loop's round; at its head live: 0 calls, 1 keep, 2 torn, 7 d, 9 i -/
noncomputable def f6_l0 : Sim Try.prog :=
  (.seq (.seq (.live [0, 1, 2, 7, 9, 31] (.region 9 [
    ⟨(opMove (some 28) (.tmp 9) 3 "law.go:139" #[]).op, none⟩,
    ⟨(opMove (some 29) (.tmp 0) 33 "law.go:139" #[]).op, none⟩,
    ⟨(opLen (some 30) (.tmp 29) 33 (.slice 38) Try.underlying33 3 "law.go:139" #[{ on := 1, ground := Ground.data }]).op, none⟩,
    ⟨(opBin (some 31) .lss 3 (.tmp 28) (.tmp 30) 3 4 "law.go:139" #[{ on := 0, ground := Ground.data }, { on := 2, ground := Ground.data }]).op, none⟩
  ] (by kernel_rfl)))
  (.cond (.tmp 31)
    .skip
    (.live [1, 2, 7] (.exit 0))))
  (.seq (.block 1 (.seq (.live [0, 1, 2, 7, 9, 39] (.region 11 [
      ⟨(opMove (some 34) (.tmp 0) 33 "law.go:140" #[]).op, none⟩,
      ⟨(opMove (some 35) (.tmp 9) 3 "law.go:140" #[]).op, none⟩,
      ⟨(opIndexAddrT (some 36) 33 (.tmp 34) (.tmp 35) 38 4 Try.underlying33 sz38 0 "law.go:140" #[{ on := 0, ground := Ground.data }, { on := 1, ground := Ground.data }]).op, none⟩,
      ⟨(opFieldAddr (some 37) 38 (.tmp 36) 0 0 1 false fl38_0 (by decide) 0 "law.go:140" #[{ on := 2, ground := Ground.data }]).op, none⟩,
      ⟨(opLoadT (.one (.int .i64)) (some 38) 3 (.tmp 37) (.int .i64) Try.underlying3 1 sz3 (by kernel_rfl) 3 "law.go:140" #[{ on := 3, ground := Ground.data }]).op, none⟩,
      ⟨(opBin (some 39) .eql 3 (.tmp 38) (.const (Value.int IntKind.i64 1)) 3 4 "law.go:140" #[{ on := 4, ground := Ground.data }]).op, none⟩
    ] (by kernel_rfl)))
    (.cond (.tmp 39)
      (.live [0, 1, 2, 7, 9] (.draw 12 [
        ⟨.p (opMove (some 40) (.tmp 7) 24 "law.go:141" #[]), none⟩,
        ⟨.p (opMove (some 41) (.tmp 0) 33 "law.go:141" #[]), none⟩,
        ⟨.p (opMove (some 42) (.tmp 9) 3 "law.go:141" #[]), none⟩,
        ⟨.pn (opIndexAddrT (some 43) 33 (.tmp 41) (.tmp 42) 38 4 Try.underlying33 sz38 0 "law.go:141" #[{ on := 1, ground := Ground.data }, { on := 2, ground := Ground.data }]) opIndexAddrT_nat, none⟩,
        ⟨.pn (opFieldAddr (some 44) 38 (.tmp 43) 1 1 1 false fl38_1 (by decide) 0 "law.go:141" #[{ on := 3, ground := Ground.data }]) opFieldAddr_nat, none⟩,
        ⟨.qn (opLoadT (.one (.int .i64)) (some 45) 3 (.tmp 44) (.int .i64) Try.underlying3 1 sz3 (by kernel_rfl) 3 "law.go:141" #[{ on := 4, ground := Ground.data }]) opLoadT_nat, none⟩,
        ⟨.p (opMove (some 46) (.tmp 0) 33 "law.go:141" #[]), none⟩,
        ⟨.p (opMove (some 47) (.tmp 9) 3 "law.go:141" #[]), none⟩,
        ⟨.pn (opIndexAddrT (some 48) 33 (.tmp 46) (.tmp 47) 38 4 Try.underlying33 sz38 0 "law.go:141" #[{ on := 6, ground := Ground.data }, { on := 7, ground := Ground.data }]) opIndexAddrT_nat, none⟩,
        ⟨.pn (opFieldAddr (some 49) 38 (.tmp 48) 3 3 1 false fl38_3 (by decide) 0 "law.go:141" #[{ on := 8, ground := Ground.data }]) opFieldAddr_nat, none⟩,
        ⟨.qn (opLoadT (.one (.ns 1)) (some 50) 22 (.tmp 49) (.slice 5) Try.underlying22 1 sz22 (by kernel_rfl) 22 "law.go:141" #[{ on := 9, ground := Ground.data }]) opLoadT_nat, none⟩,
        ⟨.mn (opCallM (s11) (some 51) [(.tmp 40), (.tmp 45), (.tmp 50)] #[24, 3, 22] 25 "law.go:141" #[{ on := 0, ground := Ground.data }, { on := 5, ground := Ground.data }, { on := 10, ground := Ground.data }]) (opCallM_nat s11_nat), none⟩
      ] mixed (by kernel_rfl)))
      .skip)))
  (.live [0, 1, 2, 7, 9] (.region 10 [
    ⟨(opMove (some 32) (.tmp 9) 3 "law.go:139" #[]).op, none⟩,
    ⟨(opBin (some 33) .add 3 (.tmp 32) (.const (Value.int IntKind.i64 1)) 3 3 "law.go:139" #[{ on := 0, ground := Ground.data }]).op, none⟩,
    ⟨(opAssign (some 9) (.tmp 33) 3 "law.go:139" #[{ on := 1, ground := Ground.data }, { on := 0, ground := Ground.phase }, { on := 1, ground := Ground.phase }]).op, none⟩
  ] (by kernel_rfl)))))

/-- A loop's round; at its head live: 1 keep, 2 torn, 7 d, 10 want, 11 k -/
noncomputable def f6_l1 : Sim Try.prog :=
  (.seq (.seq (.live [1, 2, 7, 10, 11, 54] (.region 15 [
    ⟨(opMove (some 53) (.tmp 11) 3 "law.go:145" #[]).op, none⟩,
    ⟨(opBin (some 54) .lss 3 (.tmp 53) (.const (Value.int IntKind.i64 6)) 3 4 "law.go:145" #[{ on := 0, ground := Ground.data }]).op, none⟩
  ] (by kernel_rfl)))
  (.cond (.tmp 54)
    .skip
    (.live [1, 2, 7, 10] (.exit 2))))
  (.seq (.block 3 (.seq (.live [1, 2, 7, 10, 11, 12, 13] (.region 17 [
      ⟨(opMove (some 58) (.tmp 7) 24 "law.go:146" #[]).op, none⟩,
      ⟨(opMove (some 59) (.tmp 11) 3 "law.go:146" #[]).op, none⟩,
      ⟨opCall (s13).orc (some 60) [(.tmp 58), (.tmp 59)] #[24, 3] 30 "law.go:146" #[{ on := 0, ground := Ground.data }, { on := 1, ground := Ground.data }], none⟩,
      ⟨(opMove (some 57) (.tmp 60) 30 "law.go:146" #[{ on := 2, ground := Ground.data }]).op, none⟩,
      ⟨(opExtract (some 61) (.tmp 57) 0 22 "law.go:146" #[{ on := 3, ground := Ground.data }]).op, none⟩,
      ⟨(opExtract (some 62) (.tmp 57) 1 25 "law.go:146" #[{ on := 3, ground := Ground.data }, { on := 6, ground := (Ground.gcOnly Departure.lateStores) }]).op, none⟩,
      ⟨(opAssign (some 12) (.tmp 61) 22 "law.go:146" #[{ on := 4, ground := Ground.data }, { on := 2, ground := Ground.chain }, { on := 0, ground := Ground.phase }, { on := 1, ground := Ground.phase }, { on := 2, ground := Ground.phase }, { on := 3, ground := Ground.phase }, { on := 4, ground := Ground.phase }, { on := 5, ground := (Ground.textOnly Departure.lateStores) }]).op, none⟩,
      ⟨(opAssign (some 13) (.tmp 62) 25 "law.go:146" #[{ on := 5, ground := Ground.data }, { on := 6, ground := Ground.chain }, { on := 0, ground := Ground.phase }, { on := 1, ground := Ground.phase }, { on := 2, ground := Ground.phase }, { on := 3, ground := Ground.phase }, { on := 4, ground := Ground.phase }, { on := 5, ground := Ground.phase }, { on := 6, ground := Ground.phase }]).op, none⟩
    ] (by kernel_rfl)))
    (.seq (.seq (.live [1, 2, 7, 10, 11, 12, 64] (.region 18 [
      ⟨(opMove (some 63) (.tmp 13) 25 "law.go:147" #[]).op, none⟩,
      ⟨(opBin (some 64) .neq 25 (.tmp 63) (.const (Value.int IntKind.i64 0)) 25 4 "law.go:147" #[{ on := 0, ground := Ground.data }]).op, none⟩
    ] (by kernel_rfl)))
    (.cond (.tmp 64)
      (.seq (.live [6] (.region 19 [
        ⟨(opAssign (some 6) (.const (Value.bool false)) 4 "law.go:148" #[]).op, none⟩
      ] (by kernel_rfl)))
      (.live [6] .ret))
      .skip))
    (.live [1, 2, 7, 10, 11] (.region 20 [
      ⟨(opMove (some 65) (.tmp 10) 22 "law.go:150" #[]).op, none⟩,
      ⟨(opMove (some 66) (.tmp 12) 22 "law.go:150" #[]).op, none⟩,
      ⟨(opAppendV (some 67) (.tmp 65) (.tmp 66) 22 22 5 1 1 (.int .u8 0) el22 (.slice 5) Try.underlying22 rfl 22 "law.go:150" #[{ on := 0, ground := Ground.data }, { on := 1, ground := Ground.data }]).op, none⟩,
      ⟨(opAssign (some 10) (.tmp 67) 22 "law.go:150" #[{ on := 2, ground := Ground.data }, { on := 2, ground := Ground.chain }, { on := 0, ground := Ground.phase }, { on := 1, ground := Ground.phase }, { on := 2, ground := Ground.phase }]).op, none⟩
    ] (by kernel_rfl))))))
  (.live [1, 2, 7, 10, 11] (.region 16 [
    ⟨(opMove (some 55) (.tmp 11) 3 "law.go:145" #[]).op, none⟩,
    ⟨(opBin (some 56) .add 3 (.tmp 55) (.const (Value.int IntKind.i64 1)) 3 3 "law.go:145" #[{ on := 0, ground := Ground.data }]).op, none⟩,
    ⟨(opAssign (some 11) (.tmp 56) 3 "law.go:145" #[{ on := 1, ground := Ground.data }, { on := 0, ground := Ground.phase }, { on := 1, ground := Ground.phase }]).op, none⟩
  ] (by kernel_rfl)))))

/-- What follows a loop. -/
noncomputable def f6_r0 : Sim Try.prog :=
  (.seq (.live [1, 2, 7, 10] (.region 21 [
    ⟨(opMove (some 68) (.tmp 7) 24 "law.go:152" #[]).op, none⟩,
    ⟨opCall (s16).orc (some 69) [(.tmp 68)] #[24] 0 "law.go:152" #[{ on := 0, ground := Ground.data }], none⟩
  ] (by kernel_rfl)))
  (.seq (.live [1, 2, 7, 10] (.region 22 [
    ⟨(opMove (some 70) (.tmp 7) 24 "law.go:153" #[]).op, none⟩,
    ⟨(opMove (some 71) (.tmp 1) 3 "law.go:153" #[]).op, none⟩,
    ⟨(opMove (some 72) (.tmp 2) 3 "law.go:153" #[]).op, none⟩,
    ⟨opCall (s12).orc (some 73) [(.tmp 70), (.tmp 71), (.tmp 72)] #[24, 3, 3] 0 "law.go:153" #[{ on := 0, ground := Ground.data }, { on := 1, ground := Ground.data }, { on := 2, ground := Ground.data }], none⟩
  ] (by kernel_rfl)))
  (.seq (.seq (.live [1, 2, 7, 10, 78] (.region 23 [
    ⟨(opMove (some 74) (.tmp 7) 24 "law.go:154" #[]).op, none⟩,
    ⟨opCall (s21).orc (some 75) [(.tmp 74)] #[24] 22 "law.go:154" #[{ on := 0, ground := Ground.data }], none⟩,
    ⟨(opMove (some 76) (.tmp 10) 22 "law.go:154" #[]).op, none⟩,
    ⟨(opCallQ q17 (some 77) [(.tmp 75), (.tmp 76)] #[22, 22] 4 "law.go:154" #[{ on := 1, ground := Ground.data }, { on := 2, ground := Ground.data }, { on := 1, ground := Ground.chain }]).op, none⟩,
    ⟨(opNot (some 78) 4 (.tmp 77) 4 "law.go:154" #[{ on := 3, ground := Ground.data }]).op, none⟩
  ] (by kernel_rfl)))
  (.cond (.tmp 78)
    (.seq (.live [6] (.region 24 [
      ⟨(opAssign (some 6) (.const (Value.bool false)) 4 "law.go:155" #[]).op, none⟩
    ] (by kernel_rfl)))
    (.live [6] .ret))
    .skip))
  (.seq (.live [7, 10] (.region 25 [
    ⟨(opMove (some 79) (.tmp 7) 24 "law.go:157" #[]).op, none⟩,
    ⟨(opMove (some 80) (.tmp 2) 3 "law.go:157" #[]).op, none⟩,
    ⟨(opMove (some 81) (.tmp 1) 3 "law.go:157" #[]).op, none⟩,
    ⟨opCall (s12).orc (some 82) [(.tmp 79), (.tmp 80), (.tmp 81)] #[24, 3, 3] 0 "law.go:157" #[{ on := 0, ground := Ground.data }, { on := 1, ground := Ground.data }, { on := 2, ground := Ground.data }], none⟩
  ] (by kernel_rfl)))
  (.seq (.live [6] (.region 26 [
    ⟨(opMove (some 83) (.tmp 7) 24 "law.go:158" #[]).op, none⟩,
    ⟨opCall (s21).orc (some 84) [(.tmp 83)] #[24] 22 "law.go:158" #[{ on := 0, ground := Ground.data }], none⟩,
    ⟨(opMove (some 85) (.tmp 10) 22 "law.go:158" #[]).op, none⟩,
    ⟨(opCallQ q17 (some 86) [(.tmp 84), (.tmp 85)] #[22, 22] 4 "law.go:158" #[{ on := 1, ground := Ground.data }, { on := 2, ground := Ground.data }, { on := 1, ground := Ground.chain }]).op, none⟩,
    ⟨(opMove (some 87) (.tmp 86) 4 "law.go:158" #[{ on := 3, ground := Ground.data }, { on := 3, ground := Ground.chain }]).op, none⟩,
    ⟨(opMove (some 88) (.tmp 7) 24 "law.go:158" #[{ on := 4, ground := Ground.guard }]).op, (some (4, 87, true))⟩,
    ⟨opCall (s22).orc (some 89) [(.tmp 88)] #[24] 3 "law.go:158" #[{ on := 5, ground := Ground.data }, { on := 4, ground := Ground.chain }, { on := 4, ground := Ground.guard }], (some (4, 87, true))⟩,
    ⟨(opBin (some 90) .eql 3 (.tmp 89) (.const (Value.int IntKind.i64 0)) 3 4 "law.go:158" #[{ on := 6, ground := Ground.data }, { on := 4, ground := Ground.guard }]).op, (some (4, 87, true))⟩,
    ⟨(opPick (some 91) (.tmp 87) (.tmp 90) (.const (Value.bool false)) 4 "law.go:158" #[{ on := 4, ground := Ground.data }, { on := 7, ground := Ground.data }]).op, none⟩,
    ⟨(opAssign (some 6) (.tmp 91) 4 "law.go:158" #[{ on := 8, ground := Ground.data }, { on := 6, ground := Ground.chain }, { on := 0, ground := Ground.phase }, { on := 1, ground := Ground.phase }, { on := 2, ground := Ground.phase }, { on := 3, ground := Ground.phase }, { on := 4, ground := Ground.phase }, { on := 5, ground := Ground.phase }, { on := 6, ground := Ground.phase }, { on := 7, ground := Ground.phase }, { on := 8, ground := Ground.phase }]).op, none⟩
  ] (by kernel_rfl)))
  (.live [6] .ret))))))

/-- What follows a loop. -/
noncomputable def f6_r1 : Sim Try.prog :=
  (.seq (.live [1, 2, 7, 10] (.region 13 [
    ⟨(opBuildSlice (some 52) 22 0 [] 5 1 1 (.int .u8 0) el22 (by kernel_rfl) (by decide) 22 "law.go:144" #[]).op, none⟩,
    ⟨(opAssign (some 10) (.tmp 52) 22 "law.go:144" #[{ on := 0, ground := Ground.data }, { on := 0, ground := Ground.phase }]).op, none⟩
  ] (by kernel_rfl)))
  (.seq (.seq (.live [1, 2, 7, 10, 11] (.region 14 [
    ⟨(opAssign (some 11) (.const (Value.int IntKind.i64 0)) 3 "law.go:145" #[]).op, none⟩
  ] (by kernel_rfl)))
  (.block 2 (.loop [1, 2, 7, 10, 11] f6_l1)))
  f6_r0))

noncomputable def f6_b : Sim Try.prog :=
  (.seq (.live [0, 1, 2] (.region 0 [
    ⟨(opAssign (some 6) (.const (Value.bool false)) 4 "law.go:128" #[]).op, none⟩
  ] (by kernel_rfl)))
  (.seq (.seq (.live [0, 1, 2, 15] (.region 1 [
    ⟨(opCallP p9 (some 14) [] #[] 4 "law.go:129" #[]).op, none⟩,
    ⟨(opNot (some 15) 4 (.tmp 14) 4 "law.go:129" #[{ on := 0, ground := Ground.data }]).op, none⟩
  ] (by kernel_rfl)))
  (.cond (.tmp 15)
    (.seq (.live [6] (.region 2 [
      ⟨(opAssign (some 6) (.const (Value.bool false)) 4 "law.go:130" #[]).op, none⟩
    ] (by kernel_rfl)))
    (.live [6] .ret))
    .skip))
  (.seq (.seq (.live [0, 1, 2, 17] (.region 3 [
    ⟨(opMove (some 16) (.tmp 0) 33 "law.go:132" #[]).op, none⟩,
    ⟨(opCallP p14 (some 17) [(.tmp 16)] #[33] 4 "law.go:132" #[{ on := 0, ground := Ground.data }]).op, none⟩
  ] (by kernel_rfl)))
  (.cond (.tmp 17)
    (.seq (.live [6] (.region 4 [
      ⟨(opAssign (some 6) (.const (Value.bool true)) 4 "law.go:133" #[]).op, none⟩
    ] (by kernel_rfl)))
    (.live [6] .ret))
    .skip))
  (.seq (.live [0, 1, 2, 7, 8] (.region 5 [
    ⟨opCall (f15.orc 0) (some 19) [(.const (Value.int IntKind.i64 6))] #[3] 26 "law.go:135" #[], none⟩,
    ⟨(opMove (some 18) (.tmp 19) 26 "law.go:135" #[{ on := 0, ground := Ground.data }]).op, none⟩,
    ⟨(opExtract (some 20) (.tmp 18) 0 24 "law.go:135" #[{ on := 1, ground := Ground.data }]).op, none⟩,
    ⟨(opExtract (some 21) (.tmp 18) 1 25 "law.go:135" #[{ on := 1, ground := Ground.data }, { on := 4, ground := (Ground.gcOnly Departure.lateStores) }]).op, none⟩,
    ⟨(opAssign (some 7) (.tmp 20) 24 "law.go:135" #[{ on := 2, ground := Ground.data }, { on := 0, ground := Ground.chain }, { on := 0, ground := Ground.phase }, { on := 1, ground := Ground.phase }, { on := 2, ground := Ground.phase }, { on := 3, ground := (Ground.textOnly Departure.lateStores) }]).op, none⟩,
    ⟨(opAssign (some 8) (.tmp 21) 25 "law.go:135" #[{ on := 3, ground := Ground.data }, { on := 4, ground := Ground.chain }, { on := 0, ground := Ground.phase }, { on := 1, ground := Ground.phase }, { on := 2, ground := Ground.phase }, { on := 3, ground := Ground.phase }, { on := 4, ground := Ground.phase }]).op, none⟩
  ] (by kernel_rfl)))
  (.seq (.seq (.live [0, 1, 2, 7, 27] (.region 6 [
    ⟨(opMove (some 22) (.tmp 8) 25 "law.go:136" #[]).op, none⟩,
    ⟨(opBin (some 23) .neq 25 (.tmp 22) (.const (Value.int IntKind.i64 0)) 25 4 "law.go:136" #[{ on := 0, ground := Ground.data }]).op, none⟩,
    ⟨(opMove (some 24) (.tmp 23) 4 "law.go:136" #[{ on := 1, ground := Ground.data }]).op, none⟩,
    ⟨(opMove (some 25) (.tmp 7) 24 "law.go:136" #[{ on := 2, ground := Ground.guard }]).op, (some (2, 24, false))⟩,
    ⟨(opEq (some 26) 24 (.pointer 58) Try.underlying24 (.tmp 25) (.const (Value.pointer none)) (.inl rfl) 24 4 "law.go:136" #[{ on := 3, ground := Ground.data }, { on := 2, ground := Ground.guard }]).op, (some (2, 24, false))⟩,
    ⟨(opPick (some 27) (.tmp 24) (.const (Value.bool true)) (.tmp 26) 4 "law.go:136" #[{ on := 2, ground := Ground.data }, { on := 4, ground := Ground.data }]).op, none⟩
  ] (by kernel_rfl)))
  (.cond (.tmp 27)
    (.seq (.live [6] (.region 7 [
      ⟨(opAssign (some 6) (.const (Value.bool false)) 4 "law.go:137" #[]).op, none⟩
    ] (by kernel_rfl)))
    (.live [6] .ret))
    .skip))
  (.seq (.seq (.live [0, 1, 2, 7, 9] (.region 8 [
    ⟨(opAssign (some 9) (.const (Value.int IntKind.i64 0)) 3 "law.go:139" #[]).op, none⟩
  ] (by kernel_rfl)))
  (.block 0 (.loop [0, 1, 2, 7, 9] f6_l0)))
  f6_r1))))))

noncomputable def f6 : Fun Try.prog where
  id := 6
  fn := Try.f6
  hf := Try.func6
  hname := by kernel_rfl
  body := f6_b
  hbody := by kernel_rfl
  res := [rTmp 6]
  hres := by kernel_rfl
  n := 92
  hn := by kernel_rfl

end Go.Proofs.Ytclghabbhpaafaa.V

/- What the functions' runs come to; the right sides were printed by a tool, Lean checks them. -/
set_option linter.unusedVariables false
set_option maxRecDepth 100000
namespace Go.Proofs.Ytclghabbhpaafaa.V
open Go Go.V Go.RowKit

theorem lasts_run (F : Nat) (z : Bool) (l : List (List AV)) (kp tn : Int) :
    (f6.run F [.ns z 4 l, .int .i64 kp, .int .i64 tn] ⟨[], []⟩ : Ans) =
    branch (AV.bool (okCl l))
      (branch (AV.bool (greatB l)) (some (Fin.ret (AV.bool true), St.mk [] []))
        (branch (AV.bool (byOk [] && true))
          (loopRun (f6_l0.run F) [0, 1, 2, 7, 9]
            (Cont.block 0 (Cont.then (f6_r1.run F (f6.leaveK Fun.done)) (f6.leaveK Fun.done))) F
            (Env.mk 92
              [(0, AV.ns z 4 l), (1, AV.int IntKind.i64 kp), (2, AV.int IntKind.i64 tn),
                (7, AV.ptr 2 0), (9, AV.int IntKind.i64 (0 : Int))])
            (St.mk
              [dk0 (Dk.new (Int.toNat (6 : Int)) (nR [])), dk1 (Dk.new (Int.toNat (6 : Int)) (nR [])),
                dk2 0 (Dk.new (Int.toNat (6 : Int)) (nR [])), dk3 (Dk.new (Int.toNat (6 : Int)) (nR []))]
              []))
          none))
      none := by kernel_rfl

theorem lasts_round (F m : Nat) (K : Cont) (z : Bool) (l : List (List AV)) (kp tn i : Int) (a b c d : Ob) :
    (loopRun (f6_l0.run F) [0, 1, 2, 7, 9] K m.succ (Env.mk 92 [(0, .ns z 4 l), (1, .int .i64 kp), (2, .int .i64 tn), (7, .ptr 2 0), (9, .int .i64 i)]) ⟨[a, b, c, d], []⟩ : Ans) =
    branch (AV.bool (decide (i < (↑l.length : Int))))
      (branch (AV.bool (inR l i))
        (branch (AV.bool ((LD.one (LT.int IntKind.i64)).is (List.drop 0 (V.rowAt l i))))
          (branch (AV.bool (hdI (List.drop 0 (V.rowAt l i)) == (1 : Int)))
            (branch (AV.bool (inR l i))
              (branch (AV.bool ((LD.one (LT.int IntKind.i64)).is (List.drop 1 (V.rowAt l i))))
                (branch (AV.bool (inR l i))
                  (branch (AV.bool ((LD.one (LT.ns 1)).is (List.drop 3 (V.rowAt l i))))
                    (onSome (dkG 0 a b c d) none fun (o : Dk) =>
                      branch (AV.bool (byOk (rwA (List.drop 3 (V.rowAt l i)))))
                        (loopRun (f6_l0.run F) [0, 1, 2, 7, 9] K m
                          (Env.mk 92
                            [(0, AV.ns z 4 l), (1, AV.int IntKind.i64 kp),
                              (2, AV.int IntKind.i64 tn), (7, AV.ptr 2 0),
                              (9, AV.int IntKind.i64 (IntKind.i64.wrap (i + (1 : Int))))])
                          (St.mk
                            [dk0
                                (o.wrX (hdI (List.drop 1 (V.rowAt l i)))
                                  (nR (rwA (List.drop 3 (V.rowAt l i))))),
                              dk1
                                (o.wrX (hdI (List.drop 1 (V.rowAt l i)))
                                  (nR (rwA (List.drop 3 (V.rowAt l i))))),
                              dk2 0
                                (o.wrX (hdI (List.drop 1 (V.rowAt l i)))
                                  (nR (rwA (List.drop 3 (V.rowAt l i))))),
                              dk3
                                (o.wrX (hdI (List.drop 1 (V.rowAt l i)))
                                  (nR (rwA (List.drop 3 (V.rowAt l i)))))]
                            []))
                        none)
                    none)
                  none)
                none)
              none)
            (loopRun (f6_l0.run F) [0, 1, 2, 7, 9] K m
              (Env.mk 92
                [(0, AV.ns z 4 l), (1, AV.int IntKind.i64 kp), (2, AV.int IntKind.i64 tn),
                  (7, AV.ptr 2 0),
                  (9, AV.int IntKind.i64 (IntKind.i64.wrap (i + (1 : Int))))])
              (St.mk [a, b, c, d] [])))
          none)
        none)
      (K (AX.exit 0)
        (Env.mk 92
          [(1, AV.int IntKind.i64 kp), (2, AV.int IntKind.i64 tn), (7, AV.ptr 2 0)])
        (St.mk [a, b, c, d] [])) := by kernel_rfl

theorem lasts_out (F : Nat) (kp tn : Int) (a b c d : Ob) :
    ((Cont.block 0 (Cont.then (f6_r1.run F (f6.leaveK Fun.done)) (f6.leaveK Fun.done))) (.exit 0) (Env.mk 92 [(1, .int .i64 kp), (2, .int .i64 tn), (7, .ptr 2 0)]) ⟨[a, b, c, d], []⟩ : Ans) =
    loopRun (f6_l1.run F) [1, 2, 7, 10, 11]
      (Cont.block 2 (Cont.then (f6_r0.run F (f6.leaveK Fun.done)) (f6.leaveK Fun.done))) F
      (Env.mk 92
        [(1, AV.int IntKind.i64 kp), (2, AV.int IntKind.i64 tn), (7, AV.ptr 2 0),
          (10, AV.sl 1 true []), (11, AV.int IntKind.i64 (0 : Int))])
      (St.mk [a, b, c, d] []) := by kernel_rfl

theorem lasts_round2 (F m v n : Nat) (K : Cont) (kp tn i : Int) (a b c d : Ob) (cs : List AV) :
    (loopRun (f6_l1.run F) [1, 2, 7, 10, 11] K m.succ (Env.mk 92 [(1, .int .i64 kp), (2, .int .i64 tn), (7, .ptr 2 0), (10, .vs 4 v 1 n), (11, .int .i64 i)]) ⟨[a, b, c, d, .vec v cs], []⟩ : Ans) =
    branch (AV.bool (decide (i < (6 : Int))))
      (onSome (dkG 0 a b c d) none fun (o : Dk) =>
        branch (AV.bool (o.rdE i != (0 : Int)))
          (K AX.ret (Env.mk 92 [(6, AV.bool false)]) (St.mk [a, b, c, d, Ob.vec v cs] []))
          (branch (AV.bool (v.beq v && (inC cs 0 (mulN n 1) && apOk (n + (bR (o.rdB i)).length) 1)))
            (loopRun (f6_l1.run F) [1, 2, 7, 10, 11] K m
              (Env.mk 92
                [(1, AV.int IntKind.i64 kp), (2, AV.int IntKind.i64 tn),
                  (7, AV.ptr 2 0),
                  (10, AV.vs 4 (v + 1) 1 (n + (bR (o.rdB i)).length)),
                  (11, AV.int IntKind.i64 (IntKind.i64.wrap (i + (1 : Int))))])
              (St.mk [a, b, c, d, Ob.vec (v + 1) (catC cs (mulN n 1) (bR (o.rdB i)))] []))
            none))
      (K (AX.exit 2)
        (Env.mk 92
          [(1, AV.int IntKind.i64 kp), (2, AV.int IntKind.i64 tn), (7, AV.ptr 2 0),
            (10, AV.vs 4 v 1 n)])
        (St.mk [a, b, c, d, Ob.vec v cs] [])) := by kernel_rfl

theorem lasts_round0 (F m : Nat) (K : Cont) (kp tn i : Int) (a b c d : Ob) :
    (loopRun (f6_l1.run F) [1, 2, 7, 10, 11] K m.succ (Env.mk 92 [(1, .int .i64 kp), (2, .int .i64 tn), (7, .ptr 2 0), (10, .sl 1 true []), (11, .int .i64 i)]) ⟨[a, b, c, d], []⟩ : Ans) =
    branch (AV.bool (decide (i < (6 : Int))))
      (onSome (dkG 0 a b c d) none fun (o : Dk) =>
        branch (AV.bool (o.rdE i != (0 : Int)))
          (K AX.ret (Env.mk 92 [(6, AV.bool false)]) (St.mk [a, b, c, d] []))
          (branch (AV.bool (true && apOk (0 + (bR (o.rdB i)).length) 1))
            (branch (AV.bool ((bR (o.rdB i)).length.beq 0))
              (loopRun (f6_l1.run F) [1, 2, 7, 10, 11] K m
                (Env.mk 92
                  [(1, AV.int IntKind.i64 kp), (2, AV.int IntKind.i64 tn),
                    (7, AV.ptr 2 0), (10, AV.sl 1 true []),
                    (11, AV.int IntKind.i64 (IntKind.i64.wrap (i + (1 : Int))))])
                (St.mk [a, b, c, d] []))
              (loopRun (f6_l1.run F) [1, 2, 7, 10, 11] K m
                (Env.mk 92
                  [(1, AV.int IntKind.i64 kp), (2, AV.int IntKind.i64 tn),
                    (7, AV.ptr 2 0),
                    (10, AV.vs 4 0 1 (0 + (bR (o.rdB i)).length)),
                    (11, AV.int IntKind.i64 (IntKind.i64.wrap (i + (1 : Int))))])
                (St.mk
                  [a, b, c, d, Ob.vec 0 (catC (catC [] 0 []) (mulN 0 1) (bR (o.rdB i)))]
                  [])))
            none))
      (K (AX.exit 2)
        (Env.mk 92
          [(1, AV.int IntKind.i64 kp), (2, AV.int IntKind.i64 tn), (7, AV.ptr 2 0),
            (10, AV.sl 1 true [])])
        (St.mk [a, b, c, d] [])) := by kernel_rfl

theorem lasts_out2 (F v n : Nat) (kp tn : Int) (a b c d : Ob) (cs : List AV) :
    ((Cont.block 2 (Cont.then (f6_r0.run F (f6.leaveK Fun.done)) (f6.leaveK Fun.done))) (.exit 2) (Env.mk 92 [(1, .int .i64 kp), (2, .int .i64 tn), (7, .ptr 2 0), (10, .vs 4 v 1 n)]) ⟨[a, b, c, d, .vec v cs], []⟩ : Ans) =
    onSome (dkG 0 a b c d) none fun (o : Dk) =>
      onSome (dkG 0 (dk0 o.flush) (dk1 o.flush) (dk2 (nat_lit 0) o.flush) (dk3 o.flush)) none fun (o : Dk) =>
        onSome
          (dkG 0 (dk0 (o.crash kp tn)) (dk1 (o.crash kp tn)) (dk2 (nat_lit 0) (o.crash kp tn))
            (dk3 (o.crash kp tn)))
          none fun (o_1 : Dk) =>
          branch (AV.bool (v.beq v && inC cs 0 (mulN n 1)))
            (branch (AV.bool (byOk (bR o_1.ls) && byOk (rowsC 1 n cs 0)))
              (branch (AV.bool !nR (bR o_1.ls) == nR (rowsC 1 n cs 0))
                (some
                  (Fin.ret (AV.bool false),
                    St.mk
                      [dk0 (o.crash kp tn), dk1 (o.crash kp tn), dk2 0 (o.crash kp tn), dk3 (o.crash kp tn),
                        Ob.vec v cs]
                      []))
                (onSome
                  (dkG 0 (dk0 (o.crash kp tn)) (dk1 (o.crash kp tn)) (dk2 (nat_lit 0) (o.crash kp tn))
                    (dk3 (o.crash kp tn)))
                  none fun (o : Dk) =>
                  onSome
                    (dkG 0 (dk0 (o.crash tn kp)) (dk1 (o.crash tn kp)) (dk2 (nat_lit 0) (o.crash tn kp))
                      (dk3 (o.crash tn kp)))
                    none fun (o_2 : Dk) =>
                    branch (AV.bool (v.beq v && inC cs 0 (mulN n 1)))
                      (branch (AV.bool (byOk (bR o_2.ls) && byOk (rowsC 1 n cs 0)))
                        (branch (AV.bool (nR (bR o_2.ls) == nR (rowsC 1 n cs 0)))
                          (onSome
                            (dkG 0 (dk0 (o.crash tn kp)) (dk1 (o.crash tn kp)) (dk2 (nat_lit 0) (o.crash tn kp))
                              (dk3 (o.crash tn kp)))
                            none fun (o_3 : Dk) =>
                            some
                              (Fin.ret (AV.bool ((↑o_3.ws.length : Int) == (0 : Int))),
                                St.mk
                                  [dk0 (o.crash tn kp), dk1 (o.crash tn kp), dk2 0 (o.crash tn kp),
                                    dk3 (o.crash tn kp), Ob.vec v cs]
                                  []))
                          (some
                            (Fin.ret (AV.bool false),
                              St.mk
                                [dk0 (o.crash tn kp), dk1 (o.crash tn kp), dk2 0 (o.crash tn kp),
                                  dk3 (o.crash tn kp), Ob.vec v cs]
                                [])))
                        none)
                      none))
              none)
            none := by kernel_rfl

end Go.Proofs.Ytclghabbhpaafaa.V

/- Disk: DiskLasts. -/
set_option linter.unusedVariables false
namespace Go.Proofs.Ytclghabbhpaafaa.V
open Go Go.V Go.RowKit

/-! ### Sectors of bytes -/
def sec (l : List Nat) (k : Nat) : List Nat := (l.drop (k * 64)).take 64
theorem putN_get {l r : List Nat} {o i : Nat} (h : o + r.length ≤ l.length) : (putN l o r)[i]? = if i < o then l[i]? else if i < o + r.length then r[i - o]? else l[i]? := by
  rw [putN, List.append_assoc, List.getElem?_append, List.length_take, List.getElem?_append, List.getElem?_drop, List.getElem?_take]
  by_cases h1 : i < o
  · rw [if_pos (by omega), if_pos h1, if_pos h1]
  · rw [if_neg (by omega), if_neg h1]
    by_cases h2 : i < o + r.length
    · rw [if_pos (by omega), if_pos h2]; congr 1; omega
    · rw [if_neg (by omega), if_neg h2]; congr 1; omega
theorem sec_get {l : List Nat} {k i : Nat} : (sec l k)[i]? = if i < 64 then l[k * 64 + i]? else none := by
  rw [sec, List.getElem?_take]
  split
  · rw [List.getElem?_drop]
  · rfl
theorem sec_put {l b : List Nat} {n a k : Nat} (hl : l.length = n * 64) (hb : b.length = 64) (ha : a < n) : sec (putN l (a * 64) b) k = if a = k then b else sec l k := by
  apply List.ext_getElem?
  intro i
  rw [sec_get, putN_get (by omega), hb]
  by_cases h : a = k
  · subst h
    rw [if_pos rfl]
    by_cases hi : i < 64
    · rw [if_pos hi, if_neg (by omega), if_pos (by omega)]; congr 1; omega
    · rw [if_neg hi, List.getElem?_eq_none (by omega)]
  · rw [if_neg h, sec_get]
    by_cases hi : i < 64
    · rw [if_pos hi, if_pos hi]
      by_cases h1 : k * 64 + i < a * 64
      · rw [if_pos h1]
      · rw [if_neg h1, if_neg (by omega)]
    · rw [if_neg hi, if_neg hi]
theorem lastW_cons (w : Nat × List Nat) (ws : List (Nat × List Nat)) (k : Nat) : lastW (w :: ws) k = match lastW ws k with | some b => some b | none => if w.1 = k then some w.2 else none := by
  unfold lastW
  rw [List.reverse_cons, List.find?_append]
  cases h : ws.reverse.find? (fun w => w.1 == k) with
  | some x => simp
  | none =>
    by_cases e : w.1 = k
    · simp [e]
    · simp [e]
theorem sec_app {n k : Nat} : ∀ {ws : List (Nat × List Nat)} {l : List Nat}, l.length = n * 64 → (∀ w ∈ ws, w.1 < n ∧ w.2.length = 64) → sec (appW l ws) k = (lastW ws k).getD (sec l k)
  | [], l, _, _ => rfl
  | w :: ws, l, hl, h => by
    have hw := h w List.mem_cons_self
    have ih := sec_app (n := n) (k := k) (ws := ws) (l := putN l (w.1 * 64) w.2) (by rw [putN_length (by omega), hl]) fun x hx => h x (List.mem_cons_of_mem _ hx)
    rw [show appW l (w :: ws) = appW (putN l (w.1 * 64) w.2) ws from rfl, ih, sec_put hl hw.2 hw.1, lastW_cons]
    cases lastW ws k with
    | some b => rfl
    | none =>
      by_cases e : w.1 = k
      · simp [e]
      · simp [e]
/-- The sectors, one behind the other. -/
theorem sec_all (l : List Nat) (i : Nat) : l.take (i * 64) ++ sec l i = l.take ((i + 1) * 64) := by rw [sec, Nat.add_mul, Nat.one_mul, List.take_add]
theorem Dk.Ok.ws' {X : Dk} (h : X.Ok) : ∀ w ∈ X.ws, w.1 < X.n ∧ w.2.length = 64 := fun w hw => ⟨(h.ws w hw).1, (h.ws w hw).2.1⟩
theorem flush_ls (X : Dk) : X.flush.ls = appW X.ls X.ws := by
  show tornL (appW X.ls (X.ws.take X.ws.length)) X.ws[X.ws.length]? 0 = _
  rw [List.getElem?_eq_none (Nat.le_refl _), List.take_of_length_le (Nat.le_refl _)]; rfl
theorem sector_flush {X : Dk} (h : X.Ok) (k : Nat) : X.sector k = sec X.flush.ls k := by
  rw [flush_ls, sec_app h.len h.ws']; rfl
theorem crash_nil {X : Dk} (h : X.ws = []) (k t : Int) : (X.crash k t).ls = X.ls := by
  show tornL (appW X.ls (X.ws.take (clip k X.ws.length).toNat)) X.ws[(clip k X.ws.length).toNat]? (clip t 64).toNat = _
  rw [h]; simp [tornL, appW]
theorem crash_ws (X : Dk) (k t : Int) : (X.crash k t).ws = [] := rfl
theorem flush_ws (X : Dk) : X.flush.ws = [] := rfl
end Go.Proofs.Ytclghabbhpaafaa.V

/- Disk: DiskLasts. -/
set_option linter.unusedVariables false
namespace Go.Proofs.Ytclghabbhpaafaa.V
open Go Go.V Go.RowKit

def Calls' (l : List (List AV)) : Prop := ∀ r ∈ l, ∃ w s t z d, r = [.int .i64 w, .int .i64 s, .int .i64 t, .ns z 1 d] ∧ okR d = true ∧ d.length < 4611686018427387904
theorem Calls'.ok {l : List (List AV)} (h : Calls' l) (hl : l.length < 4611686018427387904) : okCl l = true := by
  rw [okCl_iff]
  refine ⟨fun r hr => ?_, hl⟩
  obtain ⟨w, s, t, z, d, rfl, h1, h2⟩ := h r hr
  show (okR d && fit d.length) = true
  rw [h1, fit_iff.mpr h2]; rfl
theorem great_len {l : List (List AV)} (hg : greatB l = false) : l.length ≤ 200 := by
  rw [greatB, opq_eq, Bool.or_eq_false_iff] at hg
  have := hg.1
  simp at this; omega
theorem call_at {l : List (List AV)} (h : Calls' l) {i : Nat} (hi : i < l.length) : (LD.one (.int .i64)).is (List.drop 0 (V.rowAt l (i : Int))) = true ∧ (LD.one (.int .i64)).is (List.drop 1 (V.rowAt l (i : Int))) = true ∧ (LD.one (.ns 1)).is (List.drop 3 (V.rowAt l (i : Int))) = true ∧ byOk (rwA (List.drop 3 (V.rowAt l (i : Int)))) = true := by
  rw [rowAt_nat hi]
  obtain ⟨w, s, t, z, d, hr, h1, h2⟩ := h l[i] (List.getElem_mem hi)
  rw [hr]
  exact ⟨rfl, rfl, rfl, by show byOk d = true; rw [byOk_iff]; exact ⟨h1, h2⟩⟩
noncomputable abbrev lastK (F : Nat) : Cont := Cont.block 0 (Cont.then (f6_r1.run F (f6.leaveK Fun.done)) (f6.leaveK Fun.done))
noncomputable abbrev lastK2 (F : Nat) : Cont := Cont.block 2 (Cont.then (f6_r0.run F (f6.leaveK Fun.done)) (f6.leaveK Fun.done))
theorem last_loop (F : Nat) (z : Bool) (l : List (List AV)) (kp tn : Int) (hc : Calls' l) (h200 : l.length ≤ 200) : ∀ (k m i : Nat) (X : Dk), i + k = l.length → k < m → X.Ok → X.n = 6 → X.ws.length ≤ i → ∃ Y : Dk, Y.Ok ∧ Y.n = 6 ∧ Y.ws.length ≤ 200 ∧
    loopRun (f6_l0.run F) [0, 1, 2, 7, 9] (lastK F) m (Env.mk 92 [(0, .ns z 4 l), (1, .int .i64 kp), (2, .int .i64 tn), (7, .ptr 2 0), (9, .int .i64 (i : Int))]) ⟨[dk0 X, dk1 X, dk2 0 X, dk3 X], []⟩ = lastK F (.exit 0) (Env.mk 92 [(1, .int .i64 kp), (2, .int .i64 tn), (7, .ptr 2 0)]) ⟨[dk0 Y, dk1 Y, dk2 0 Y, dk3 Y], []⟩
  | k, 0, i, X, hi, hm, hX, hn, hw => by omega
  | 0, m + 1, i, X, hi, hm, hX, hn, hw => ⟨X, hX, hn, by omega, by rw [show m + 1 = m.succ from rfl, lasts_round, branch_not (by simp; omega)]⟩
  | k + 1, m + 1, i, X, hi, hm, hX, hn, hw => by
    have h1 : i < l.length := by omega
    obtain ⟨c0, c1, c3, c4⟩ := call_at hc h1
    have ih := last_loop F z l kp tn hc h200 k m (i + 1)
    rw [show m + 1 = m.succ from rfl, lasts_round, branch_of (by simp; omega), branch_of (inR_nat h1), branch_of c0, wrap_succ (by omega)]
    by_cases hq : hdI (List.drop 0 (V.rowAt l (i : Int))) = 1
    · rw [branch_of (by simpa using hq), branch_of (inR_nat h1), branch_of c1, branch_of (inR_nat h1), branch_of c3, gD' hX (by omega), onSome_some, branch_of c4]
      have hl := wr_len (X := X) (k := hdI (List.drop 1 (V.rowAt l (i : Int)))) (b := nR (rwA (List.drop 3 (V.rowAt l (i : Int)))))
      refine ih _ (by omega) (by omega) (hX.wrX fun x hx => okR_lt (byOk_iff.mp c4).1 hx) ?_ (by omega)
      unfold Dk.wrX; split
      · exact hn
      · exact hn
    · rw [branch_not (by simpa using hq)]
      exact ih X (by omega) (by omega) hX hn (by omega)
theorem rd_in {X : Dk} (h : X.Ok) {i : Nat} (hi : i < X.n) : X.rdE (i : Int) = 0 ∧ X.rdB (i : Int) = sec X.flush.ls i ∧ (X.rdB (i : Int)).length = 64 := by
  have e : X.inD (i : Int) = true := by rw [Dk.inD, decide_eq_true_eq]; omega
  rw [Dk.rdE, Dk.rdB, e]
  have h1 := (h.sector_len hi).1
  exact ⟨rfl, sector_flush h i, h1⟩
theorem last_loop2 (F : Nat) (kp tn : Int) (X : Dk) (h : X.Ok) (hn : X.n = 6) (hw : X.ws.length ≤ 200) : ∀ (k m i v : Nat), i + k = 6 → k < m → ∃ v',
    loopRun (f6_l1.run F) [1, 2, 7, 10, 11] (lastK2 F) m (Env.mk 92 [(1, .int .i64 kp), (2, .int .i64 tn), (7, .ptr 2 0), (10, .vs 4 v 1 (i * 64)), (11, .int .i64 (i : Int))]) ⟨[dk0 X, dk1 X, dk2 0 X, dk3 X, .vec v (bC (X.flush.ls.take (i * 64)))], []⟩ =
      lastK2 F (.exit 2) (Env.mk 92 [(1, .int .i64 kp), (2, .int .i64 tn), (7, .ptr 2 0), (10, .vs 4 v' 1 (6 * 64))]) ⟨[dk0 X, dk1 X, dk2 0 X, dk3 X, .vec v' (bC (X.flush.ls.take (6 * 64)))], []⟩
  | k, 0, i, v, hi, hm => by omega
  | 0, m + 1, i, v, hi, hm => by
    obtain rfl : i = 6 := by omega
    exact ⟨v, by rw [show m + 1 = m.succ from rfl, lasts_round2, branch_not (by simp)]⟩
  | k + 1, m + 1, i, v, hi, hm => by
    obtain ⟨r1, r2, r3⟩ := rd_in h (i := i) (by omega)
    have hfl : X.flush.ls.length = 6 * 64 := by rw [← hn]; exact (h.settle X.ws.length 0).len
    obtain ⟨v', ih⟩ := last_loop2 F kp tn X h hn hw k m (i + 1) (v + 1) (by omega) (by omega)
    refine ⟨v', ?_⟩
    have e3 : catC (bC (X.flush.ls.take (i * 64))) (i * 64) (bR (X.rdB (i : Int))) = bC (X.flush.ls.take ((i + 1) * 64)) := by
      rw [catC, opq_eq, bR_flat, bC_take, List.take_take, Nat.min_self, ← bC_append, r2, sec_all]
    rw [show m + 1 = m.succ from rfl, lasts_round2, branch_of (by simp; omega), gD' h (by omega), onSome_some, r1, branch_not (by rfl), mulN_one, bR_length, r3, branch_of (show (v.beq v && (inC (bC (X.flush.ls.take (i * 64))) 0 (i * 64) && apOk (i * 64 + 64) 1)) = true by rw [Nat.beq_refl, show inC (bC (X.flush.ls.take (i * 64))) 0 (i * 64) = true from inC_bC (by rw [List.length_take, hfl]; omega), show apOk (i * 64 + 64) 1 = true by rw [apOk_iff]; omega]; rfl), e3, wrap_succ (by omega), show i * 64 + 64 = (i + 1) * 64 by omega]
    exact ih
theorem lasts_true (z : Bool) (l : List (List AV)) (kp tn : Int) (hc : Calls' l) (hl : l.length < 4611686018427387904) : ∃ F st, f6.run F [.ns z 4 l, .int .i64 kp, .int .i64 tn] ⟨[], []⟩ = some (.ret (.bool true), st) := by
  refine ⟨1000, ?_⟩
  rw [lasts_run, branch_of (hc.ok hl)]
  cases hg : greatB l with
  | true => exact ⟨_, rfl⟩
  | false =>
    have h200 := great_len hg
    have k0 : (Dk.new 6 []).Ok := new_ok (by decide) (by simp)
    obtain ⟨X, hX, hn, hw, e1⟩ := last_loop 1000 z l kp tn hc h200 l.length 1000 0 (Dk.new 6 []) (by omega) (by omega) k0 rfl (by show 0 ≤ 0; omega)
    obtain ⟨r1, r2, r3⟩ := rd_in hX (i := 0) (by omega)
    have hfo := hX.settle X.ws.length 0
    have hfl : X.flush.ls.length = 6 * 64 := by rw [← hn]; exact hfo.len
    obtain ⟨v, e2⟩ := last_loop2 1000 kp tn X hX hn hw 5 999 1 0 (by omega) (by omega)
    have hf : X.flush.Ok := hfo
    have hc1 : (X.flush.crash kp tn).Ok := hf.settle _ _
    have hc2 : ((X.flush.crash kp tn).crash tn kp).Ok := hc1.settle _ _
    have l1 : (X.flush.crash kp tn).ls = X.flush.ls := crash_nil (flush_ws X) _ _
    have l2 : ((X.flush.crash kp tn).crash tn kp).ls = X.flush.ls := by rw [crash_nil (crash_ws _ _ _), l1]
    have e0 : X.flush.ls.take (6 * 64) = X.flush.ls := List.take_of_length_le (by omega)
    have hin : (v.beq v && inC (bC X.flush.ls) 0 (mulN (6 * 64) 1)) = true := by rw [mulN_one, Nat.beq_refl, show inC (bC X.flush.ls) 0 (6 * 64) = true from inC_bC (by omega)]; rfl
    have hrow : rowsC 1 (6 * 64) (bC X.flush.ls) 0 = bR X.flush.ls := by rw [rowsC_bC (by omega), List.drop_zero, e0]
    have hby : (byOk (bR X.flush.ls) && byOk (bR X.flush.ls)) = true := by rw [byOk_bR hf.byte (by omega)]; rfl
    have z1 : (0 : Nat) < 999999 := by decide
    have ec : catC (catC [] 0 []) (mulN 0 1) (bR (X.rdB ((0 : Nat) : Int))) = bC (X.flush.ls.take (1 * 64)) := by
      rw [catC_nil, mulN_one, show ([] : List (List AV)).flatten = [] from rfl, catC_nil, bR_flat, r2, sec, Nat.zero_mul, List.drop_zero, Nat.one_mul]
    refine ⟨⟨[dk0 ((X.flush.crash kp tn).crash tn kp), dk1 ((X.flush.crash kp tn).crash tn kp), dk2 0 ((X.flush.crash kp tn).crash tn kp), dk3 ((X.flush.crash kp tn).crash tn kp), .vec v (bC X.flush.ls)], []⟩, ?_⟩
    rw [branch_false, branch_of (show (byOk [] && true) = true by rw [show byOk [] = true by rw [byOk_iff]; exact ⟨rfl, by decide⟩]; rfl)]
    refine Eq.trans e1 ?_
    rw [lastK, lasts_out, show loopRun (f6_l1.run 1000) [1, 2, 7, 10, 11] (Cont.block 2 (Cont.then (f6_r0.run 1000 (f6.leaveK Fun.done)) (f6.leaveK Fun.done))) 1000 = loopRun (f6_l1.run 1000) [1, 2, 7, 10, 11] (Cont.block 2 (Cont.then (f6_r0.run 1000 (f6.leaveK Fun.done)) (f6.leaveK Fun.done))) (Nat.succ 999) from rfl, lasts_round0, branch_of (by rfl), gD' hX (by omega), onSome_some, show (0 : Int) = ((0 : Nat) : Int) from rfl, r1, branch_not (by rfl), bR_length, r3, branch_of (show (true && apOk (0 + 64) 1) = true by rw [show apOk (0 + 64) 1 = true by rw [apOk_iff]; decide]; rfl), branch_not (by rfl), wrap_succ (by decide), ec]
    refine Eq.trans e2 ?_
    rw [lastK2, lasts_out2, gD' hX (by omega), onSome_some, gD hf (by rw [flush_ws]; exact z1), onSome_some, gD hc1 (by rw [crash_ws]; exact z1), onSome_some, e0, branch_of hin, l1, hrow, branch_of hby, nR_bR, branch_not (by simp), onSome_some, gD hc2 (by rw [crash_ws]; exact z1), onSome_some, branch_of hin, l2, branch_of hby, nR_bR, branch_of (by simp), onSome_some, crash_ws]
    rfl
abbrev tyCalls : Ty := .sl (.st [.int .i64, .int .i64, .int .i64, .sl (.int .u8) 1]) 48
theorem calls_shape {xs : List AV} (h : Ty.Shape tyCalls xs) : ∃ z l, xs = [.ns z 4 l] ∧ Calls' l ∧ l.length < 4611686018427387904 := by
  obtain ⟨z, l, rfl, hz, h1, h2, h3⟩ := h
  refine ⟨z, l, rfl, fun r hr => ?_, ?_⟩
  · obtain ⟨a, b, rfl, ⟨w, rfl, _⟩, a2, b2, rfl, ⟨s, rfl, hs⟩, a3, b3, rfl, ⟨t, rfl, _⟩, a4, b4, rfl, hd, rfl⟩ := h3 r hr
    obtain ⟨z', d, rfl, d1, d2, d3⟩ := bytes_shape hd
    exact ⟨w, s, t, z', d, rfl, d1, d3⟩
  · have : reachBytes < 4611686018427387904 := by decide
    omega
theorem lasts_law (as0 as1 as2 : List AV) (s0 : Ty.Shape tyCalls as0) (s1 : Ty.Shape (.int .i64) as1) (s2 : Ty.Shape (.int .i64) as2) : ∃ F st, f6.run F [tyCalls.AV' as0, (Ty.int .i64).AV' as1, (Ty.int .i64).AV' as2] ⟨[], []⟩ = some (.ret (.bool true), st) := by
  obtain ⟨z, l, rfl, h1, h2⟩ := calls_shape s0
  obtain ⟨k, rfl, _⟩ := s1
  obtain ⟨t, rfl, _⟩ := s2
  exact lasts_true z l k t h1 h2
end Go.Proofs.Ytclghabbhpaafaa.V

/- The functions' pieces, as told by gen.py. -/
set_option linter.unusedVariables false
set_option maxRecDepth 20000
namespace Go.Proofs.Ytclghabbhpaafaa.V
open Go Go.V Go.RowKit

noncomputable abbrev d38 : TypeDesc := (Try.prog.underlying 38).getD .bool
theorem ud38 : Try.prog.underlying 38 = some d38 := by kernel_rfl
theorem ze38 : (Try.prog.info? 38).bind (·.zero) = some (.agg #[(.int .i64 0), (.int .i64 0), (.int .i64 0), (.slice none 0 0)]) := by kernel_rfl
theorem ze22 : (Try.prog.info? 22).bind (·.zero) = some (.slice none 0 0) := by kernel_rfl

/-! ### 4: interlock/interlocklaw02.DiskReads (33); results 2; slots: 0 calls, 1 calls, 3 d, 4 e, 5 has, 6 i, 7 c, 8 k, 9 b, 10 e, 11 want, 12 ok -/
/-- A loop's round; at its head live: 0 calls, 3 d, 5 has, 6 i -/
noncomputable def f4_l0 : Sim Try.prog :=
  (.seq (.seq (.live [0, 3, 5, 6, 31] (.region 10 [
    ⟨(opMove (some 28) (.tmp 6) 3 "law.go:233" #[]).op, none⟩,
    ⟨(opMove (some 29) (.tmp 0) 33 "law.go:233" #[]).op, none⟩,
    ⟨(opLen (some 30) (.tmp 29) 33 (.slice 38) Try.underlying33 3 "law.go:233" #[{ on := 1, ground := Ground.data }]).op, none⟩,
    ⟨(opBin (some 31) .lss 3 (.tmp 28) (.tmp 30) 3 4 "law.go:233" #[{ on := 0, ground := Ground.data }, { on := 2, ground := Ground.data }]).op, none⟩
  ] (by kernel_rfl)))
  (.cond (.tmp 31)
    .skip
    (.live [3, 5] (.exit 0))))
  (.seq (.block 1 (.seq (.live [0, 3, 5, 6, 7] (.items 12 [
      .one ((opMove (some 34) (.tmp 0) 33 "law.go:234" #[]).op),
      .one ((opMove (some 35) (.tmp 6) 3 "law.go:234" #[]).op),
      .one ((opIndexAddrT (some 36) 33 (.tmp 34) (.tmp 35) 38 4 Try.underlying33 sz38 0 "law.go:234" #[{ on := 0, ground := Ground.data }, { on := 1, ground := Ground.data }]).op),
      .one ((opLoadT (.agg [(.int .i64), (.int .i64), (.int .i64), (.ns 1)]) (some 37) 38 (.tmp 36) d38 ud38 4 sz38 (by kernel_rfl) 38 "law.go:234" #[{ on := 2, ground := Ground.data }]).op),
      .two (op2Box 7 38 (.agg #[(.int .i64 0), (.int .i64 0), (.int .i64 0), (.slice none 0 0)]) ze38 (.tmp 37) (by rfl) 4 sz38 (by kernel_rfl) 87 (by rfl) 0 0 "law.go:234" "law.go:234" #[] #[{ on := 4, ground := Ground.data }, { on := 3, ground := Ground.data }, { on := 0, ground := Ground.phase }, { on := 1, ground := Ground.phase }, { on := 2, ground := Ground.phase }, { on := 3, ground := Ground.phase }, { on := 4, ground := Ground.phase }])
    ]))
    (.seq (.seq (.live [0, 3, 5, 6, 7, 49] (.region 13 [
      ⟨(opFieldAddr (some 38) 38 (.tmp 7) 0 0 1 false fl38_0 (by decide) 0 "law.go:235" #[]).op, none⟩,
      ⟨(opLoadT (.one (.int .i64)) (some 39) 3 (.tmp 38) (.int .i64) Try.underlying3 1 sz3 (by kernel_rfl) 3 "law.go:235" #[{ on := 0, ground := Ground.data }]).op, none⟩,
      ⟨(opBin (some 40) .eql 3 (.tmp 39) (.const (Value.int IntKind.i64 1)) 3 4 "law.go:235" #[{ on := 1, ground := Ground.data }]).op, none⟩,
      ⟨(opMove (some 41) (.tmp 40) 4 "law.go:235" #[{ on := 2, ground := Ground.data }]).op, none⟩,
      ⟨(opMove (some 42) (.tmp 3) 24 "law.go:235" #[{ on := 3, ground := Ground.guard }]).op, (some (3, 41, true))⟩,
      ⟨(opFieldAddr (some 43) 38 (.tmp 7) 1 1 1 false fl38_1 (by decide) 0 "law.go:235" #[{ on := 3, ground := Ground.guard }]).op, (some (3, 41, true))⟩,
      ⟨(opLoadT (.one (.int .i64)) (some 44) 3 (.tmp 43) (.int .i64) Try.underlying3 1 sz3 (by kernel_rfl) 3 "law.go:235" #[{ on := 5, ground := Ground.data }, { on := 3, ground := Ground.guard }]).op, (some (3, 41, true))⟩,
      ⟨(opFieldAddr (some 45) 38 (.tmp 7) 3 3 1 false fl38_3 (by decide) 0 "law.go:235" #[{ on := 3, ground := Ground.guard }]).op, (some (3, 41, true))⟩,
      ⟨(opLoadT (.one .any) (some 46) 22 (.tmp 45) (.slice 5) Try.underlying22 1 sz22 (by kernel_rfl) 22 "law.go:235" #[{ on := 7, ground := Ground.data }, { on := 3, ground := Ground.guard }]).op, (some (3, 41, true))⟩,
      ⟨opCall (s11).orc (some 47) [(.tmp 42), (.tmp 44), (.tmp 46)] #[24, 3, 22] 25 "law.go:235" #[{ on := 4, ground := Ground.data }, { on := 6, ground := Ground.data }, { on := 8, ground := Ground.data }, { on := 3, ground := Ground.chain }, { on := 3, ground := Ground.guard }], (some (3, 41, true))⟩,
      ⟨(opBin (some 48) .eql 25 (.tmp 47) (.const (Value.int IntKind.i64 0)) 25 4 "law.go:235" #[{ on := 9, ground := Ground.data }, { on := 3, ground := Ground.guard }]).op, (some (3, 41, true))⟩,
      ⟨(opPick (some 49) (.tmp 41) (.tmp 48) (.const (Value.bool false)) 4 "law.go:235" #[{ on := 3, ground := Ground.data }, { on := 10, ground := Ground.data }]).op, none⟩
    ] (by kernel_rfl)))
    (.cond (.tmp 49)
      (.live [0, 3, 5, 6, 7] (.region 14 [
        ⟨(opMove (some 50) (.tmp 5) 36 "law.go:236" #[]).op, none⟩,
        ⟨(opFieldAddr (some 51) 38 (.tmp 7) 1 1 1 false fl38_1 (by decide) 0 "law.go:236" #[]).op, none⟩,
        ⟨(opLoadT (.one (.int .i64)) (some 52) 3 (.tmp 51) (.int .i64) Try.underlying3 1 sz3 (by kernel_rfl) 3 "law.go:236" #[{ on := 1, ground := Ground.data }]).op, none⟩,
        ⟨(opFieldAddr (some 53) 38 (.tmp 7) 3 3 1 false fl38_3 (by decide) 0 "law.go:236" #[]).op, none⟩,
        ⟨(opLoadT (.one .any) (some 54) 22 (.tmp 53) (.slice 5) Try.underlying22 1 sz22 (by kernel_rfl) 22 "law.go:236" #[{ on := 3, ground := Ground.data }]).op, none⟩,
        ⟨(opMapUpdate (.int .i64) none 36 (.tmp 50) (.tmp 52) (.tmp 54) 3 22 (.int .i64) Try.underlying36 Try.underlying3 (by decide) 0 "law.go:236" #[{ on := 0, ground := Ground.data }, { on := 2, ground := Ground.data }, { on := 4, ground := Ground.data }, { on := 0, ground := Ground.phase }, { on := 1, ground := Ground.phase }, { on := 2, ground := Ground.phase }, { on := 3, ground := Ground.phase }, { on := 4, ground := Ground.phase }]).op, none⟩
      ] (by kernel_rfl)))
      .skip))
    (.seq (.live [0, 3, 5, 6, 57] (.region 15 [
      ⟨(opFieldAddr (some 55) 38 (.tmp 7) 0 0 1 false fl38_0 (by decide) 0 "law.go:238" #[]).op, none⟩,
      ⟨(opLoadT (.one (.int .i64)) (some 56) 3 (.tmp 55) (.int .i64) Try.underlying3 1 sz3 (by kernel_rfl) 3 "law.go:238" #[{ on := 0, ground := Ground.data }]).op, none⟩,
      ⟨(opBin (some 57) .eql 3 (.tmp 56) (.const (Value.int IntKind.i64 2)) 3 4 "law.go:238" #[{ on := 1, ground := Ground.data }]).op, none⟩
    ] (by kernel_rfl)))
    (.cond (.tmp 57)
      (.live [0, 3, 5, 6] (.region 16 [
        ⟨(opMove (some 58) (.tmp 3) 24 "law.go:239" #[]).op, none⟩,
        ⟨opCall (s16).orc (some 59) [(.tmp 58)] #[24] 0 "law.go:239" #[{ on := 0, ground := Ground.data }], none⟩
      ] (by kernel_rfl)))
      .skip)))))
  (.live [0, 3, 5, 6] (.region 11 [
    ⟨(opMove (some 32) (.tmp 6) 3 "law.go:233" #[]).op, none⟩,
    ⟨(opBin (some 33) .add 3 (.tmp 32) (.const (Value.int IntKind.i64 1)) 3 3 "law.go:233" #[{ on := 0, ground := Ground.data }]).op, none⟩,
    ⟨(opAssign (some 6) (.tmp 33) 3 "law.go:233" #[{ on := 1, ground := Ground.data }, { on := 0, ground := Ground.phase }, { on := 1, ground := Ground.phase }]).op, none⟩
  ] (by kernel_rfl)))))

/-- A loop's round; at its head live: 3 d, 5 has, 8 k -/
noncomputable def f4_l1 : Sim Try.prog :=
  (.seq (.seq (.live [3, 5, 8, 61] (.region 18 [
    ⟨(opMove (some 60) (.tmp 8) 3 "law.go:242" #[]).op, none⟩,
    ⟨(opBin (some 61) .lss 3 (.tmp 60) (.const (Value.int IntKind.i64 6)) 3 4 "law.go:242" #[{ on := 0, ground := Ground.data }]).op, none⟩
  ] (by kernel_rfl)))
  (.cond (.tmp 61)
    .skip
    (.live [] (.exit 2))))
  (.seq (.block 3 (.seq (.live [3, 5, 8, 9, 10] (.region 20 [
      ⟨(opMove (some 65) (.tmp 3) 24 "law.go:243" #[]).op, none⟩,
      ⟨(opMove (some 66) (.tmp 8) 3 "law.go:243" #[]).op, none⟩,
      ⟨opCall (s13).orc (some 67) [(.tmp 65), (.tmp 66)] #[24, 3] 30 "law.go:243" #[{ on := 0, ground := Ground.data }, { on := 1, ground := Ground.data }], none⟩,
      ⟨(opMove (some 64) (.tmp 67) 30 "law.go:243" #[{ on := 2, ground := Ground.data }]).op, none⟩,
      ⟨(opExtract (some 68) (.tmp 64) 0 22 "law.go:243" #[{ on := 3, ground := Ground.data }]).op, none⟩,
      ⟨(opExtract (some 69) (.tmp 64) 1 25 "law.go:243" #[{ on := 3, ground := Ground.data }, { on := 6, ground := (Ground.gcOnly Departure.lateStores) }]).op, none⟩,
      ⟨(opAssign (some 9) (.tmp 68) 22 "law.go:243" #[{ on := 4, ground := Ground.data }, { on := 2, ground := Ground.chain }, { on := 0, ground := Ground.phase }, { on := 1, ground := Ground.phase }, { on := 2, ground := Ground.phase }, { on := 3, ground := Ground.phase }, { on := 4, ground := Ground.phase }, { on := 5, ground := (Ground.textOnly Departure.lateStores) }]).op, none⟩,
      ⟨(opAssign (some 10) (.tmp 69) 25 "law.go:243" #[{ on := 5, ground := Ground.data }, { on := 6, ground := Ground.chain }, { on := 0, ground := Ground.phase }, { on := 1, ground := Ground.phase }, { on := 2, ground := Ground.phase }, { on := 3, ground := Ground.phase }, { on := 4, ground := Ground.phase }, { on := 5, ground := Ground.phase }, { on := 6, ground := Ground.phase }]).op, none⟩
    ] (by kernel_rfl)))
    (.seq (.live [3, 5, 8, 9, 10, 11, 12] (.region 21 [
      ⟨(opMove (some 71) (.tmp 5) 36 "law.go:244" #[]).op, none⟩,
      ⟨(opMove (some 72) (.tmp 8) 3 "law.go:244" #[]).op, none⟩,
      ⟨(opLookup (.int .i64) (.sl 1) (some 73) 36 (.tmp 71) (.tmp 72) true 3 22 (.int .i64) Try.underlying36 Try.underlying3 (by decide) (.slice none 0 0) ze22 39 "law.go:244" #[{ on := 0, ground := Ground.data }, { on := 1, ground := Ground.data }]).op, none⟩,
      ⟨(opMove (some 70) (.tmp 73) 39 "law.go:244" #[{ on := 2, ground := Ground.data }]).op, none⟩,
      ⟨(opExtract (some 74) (.tmp 70) 0 22 "law.go:244" #[{ on := 3, ground := Ground.data }]).op, none⟩,
      ⟨(opExtract (some 75) (.tmp 70) 1 4 "law.go:244" #[{ on := 3, ground := Ground.data }, { on := 6, ground := (Ground.gcOnly Departure.lateStores) }]).op, none⟩,
      ⟨(opAssign (some 11) (.tmp 74) 22 "law.go:244" #[{ on := 4, ground := Ground.data }, { on := 0, ground := Ground.phase }, { on := 1, ground := Ground.phase }, { on := 2, ground := Ground.phase }, { on := 3, ground := Ground.phase }, { on := 4, ground := Ground.phase }, { on := 5, ground := (Ground.textOnly Departure.lateStores) }]).op, none⟩,
      ⟨(opAssign (some 12) (.tmp 75) 4 "law.go:244" #[{ on := 5, ground := Ground.data }, { on := 6, ground := Ground.chain }, { on := 0, ground := Ground.phase }, { on := 1, ground := Ground.phase }, { on := 2, ground := Ground.phase }, { on := 3, ground := Ground.phase }, { on := 4, ground := Ground.phase }, { on := 5, ground := Ground.phase }, { on := 6, ground := Ground.phase }]).op, none⟩
    ] (by kernel_rfl)))
    (.seq (.seq (.live [3, 5, 8, 9, 10, 11, 77] (.region 22 [
      ⟨(opMove (some 76) (.tmp 12) 4 "law.go:245" #[]).op, none⟩,
      ⟨(opNot (some 77) 4 (.tmp 76) 4 "law.go:245" #[{ on := 0, ground := Ground.data }]).op, none⟩
    ] (by kernel_rfl)))
    (.cond (.tmp 77)
      (.live [3, 5, 8, 9, 10, 11] (.region 23 [
        ⟨(opMakeF (some 78) 22 (.const (Value.int IntKind.i64 64)) 5 1 1 (.int .u8 0) el22 [AV.int .u8 0] (by kernel_rfl) (by kernel_rfl) (by kernel_rfl) 22 "law.go:246" #[]).op, none⟩,
        ⟨(opAssign (some 11) (.tmp 78) 22 "law.go:246" #[{ on := 0, ground := Ground.data }, { on := 0, ground := Ground.phase }]).op, none⟩
      ] (by kernel_rfl)))
      .skip))
    (.seq (.live [3, 5, 8, 86] (.region 24 [
      ⟨(opMove (some 79) (.tmp 10) 25 "law.go:248" #[]).op, none⟩,
      ⟨(opBin (some 80) .neq 25 (.tmp 79) (.const (Value.int IntKind.i64 0)) 25 4 "law.go:248" #[{ on := 0, ground := Ground.data }]).op, none⟩,
      ⟨(opMove (some 81) (.tmp 80) 4 "law.go:248" #[{ on := 1, ground := Ground.data }]).op, none⟩,
      ⟨(opMove (some 82) (.tmp 9) 22 "law.go:248" #[{ on := 2, ground := Ground.guard }]).op, (some (2, 81, false))⟩,
      ⟨(opMove (some 83) (.tmp 11) 22 "law.go:248" #[{ on := 2, ground := Ground.guard }]).op, (some (2, 81, false))⟩,
      ⟨(opCallQ q17 (some 84) [(.tmp 82), (.tmp 83)] #[22, 22] 4 "law.go:248" #[{ on := 3, ground := Ground.data }, { on := 4, ground := Ground.data }, { on := 2, ground := Ground.chain }, { on := 2, ground := Ground.guard }]).op, (some (2, 81, false))⟩,
      ⟨(opNot (some 85) 4 (.tmp 84) 4 "law.go:248" #[{ on := 5, ground := Ground.data }, { on := 2, ground := Ground.guard }]).op, (some (2, 81, false))⟩,
      ⟨(opPick (some 86) (.tmp 81) (.const (Value.bool true)) (.tmp 85) 4 "law.go:248" #[{ on := 2, ground := Ground.data }, { on := 6, ground := Ground.data }]).op, none⟩
    ] (by kernel_rfl)))
    (.cond (.tmp 86)
      (.seq (.live [2] (.region 25 [
        ⟨(opAssign (some 2) (.const (Value.bool false)) 4 "law.go:249" #[]).op, none⟩
      ] (by kernel_rfl)))
      (.live [2] .ret))
      .skip))))))
  (.live [3, 5, 8] (.region 19 [
    ⟨(opMove (some 62) (.tmp 8) 3 "law.go:242" #[]).op, none⟩,
    ⟨(opBin (some 63) .add 3 (.tmp 62) (.const (Value.int IntKind.i64 1)) 3 3 "law.go:242" #[{ on := 0, ground := Ground.data }]).op, none⟩,
    ⟨(opAssign (some 8) (.tmp 63) 3 "law.go:242" #[{ on := 1, ground := Ground.data }, { on := 0, ground := Ground.phase }, { on := 1, ground := Ground.phase }]).op, none⟩
  ] (by kernel_rfl)))))

/-- What follows a loop. -/
noncomputable def f4_r0 : Sim Try.prog :=
  (.seq (.live [2] (.region 26 [
    ⟨(opAssign (some 2) (.const (Value.bool true)) 4 "law.go:252" #[]).op, none⟩
  ] (by kernel_rfl)))
  (.live [2] .ret))

/-- What follows a loop. -/
noncomputable def f4_r1 : Sim Try.prog :=
  (.seq (.seq (.live [3, 5, 8] (.region 17 [
    ⟨(opAssign (some 8) (.const (Value.int IntKind.i64 0)) 3 "law.go:242" #[]).op, none⟩
  ] (by kernel_rfl)))
  (.block 2 (.loop [3, 5, 8] f4_l1)))
  f4_r0)

noncomputable def f4_b : Sim Try.prog :=
  (.seq (.live [0] (.region 0 [
    ⟨(opAssign (some 2) (.const (Value.bool false)) 4 "law.go:221" #[]).op, none⟩
  ] (by kernel_rfl)))
  (.seq (.seq (.live [0, 14] (.region 1 [
    ⟨(opCallP p9 (some 13) [] #[] 4 "law.go:222" #[]).op, none⟩,
    ⟨(opNot (some 14) 4 (.tmp 13) 4 "law.go:222" #[{ on := 0, ground := Ground.data }]).op, none⟩
  ] (by kernel_rfl)))
  (.cond (.tmp 14)
    (.seq (.live [2] (.region 2 [
      ⟨(opAssign (some 2) (.const (Value.bool false)) 4 "law.go:223" #[]).op, none⟩
    ] (by kernel_rfl)))
    (.live [2] .ret))
    .skip))
  (.seq (.seq (.live [0, 16] (.region 3 [
    ⟨(opMove (some 15) (.tmp 0) 33 "law.go:225" #[]).op, none⟩,
    ⟨(opCallP p14 (some 16) [(.tmp 15)] #[33] 4 "law.go:225" #[{ on := 0, ground := Ground.data }]).op, none⟩
  ] (by kernel_rfl)))
  (.cond (.tmp 16)
    (.seq (.live [2] (.region 4 [
      ⟨(opAssign (some 2) (.const (Value.bool true)) 4 "law.go:226" #[]).op, none⟩
    ] (by kernel_rfl)))
    (.live [2] .ret))
    .skip))
  (.seq (.live [0, 3, 4] (.region 5 [
    ⟨opCall (f15.orc 0) (some 18) [(.const (Value.int IntKind.i64 6))] #[3] 26 "law.go:228" #[], none⟩,
    ⟨(opMove (some 17) (.tmp 18) 26 "law.go:228" #[{ on := 0, ground := Ground.data }]).op, none⟩,
    ⟨(opExtract (some 19) (.tmp 17) 0 24 "law.go:228" #[{ on := 1, ground := Ground.data }]).op, none⟩,
    ⟨(opExtract (some 20) (.tmp 17) 1 25 "law.go:228" #[{ on := 1, ground := Ground.data }, { on := 4, ground := (Ground.gcOnly Departure.lateStores) }]).op, none⟩,
    ⟨(opAssign (some 3) (.tmp 19) 24 "law.go:228" #[{ on := 2, ground := Ground.data }, { on := 0, ground := Ground.chain }, { on := 0, ground := Ground.phase }, { on := 1, ground := Ground.phase }, { on := 2, ground := Ground.phase }, { on := 3, ground := (Ground.textOnly Departure.lateStores) }]).op, none⟩,
    ⟨(opAssign (some 4) (.tmp 20) 25 "law.go:228" #[{ on := 3, ground := Ground.data }, { on := 4, ground := Ground.chain }, { on := 0, ground := Ground.phase }, { on := 1, ground := Ground.phase }, { on := 2, ground := Ground.phase }, { on := 3, ground := Ground.phase }, { on := 4, ground := Ground.phase }]).op, none⟩
  ] (by kernel_rfl)))
  (.seq (.seq (.live [0, 3, 26] (.region 6 [
    ⟨(opMove (some 21) (.tmp 4) 25 "law.go:229" #[]).op, none⟩,
    ⟨(opBin (some 22) .neq 25 (.tmp 21) (.const (Value.int IntKind.i64 0)) 25 4 "law.go:229" #[{ on := 0, ground := Ground.data }]).op, none⟩,
    ⟨(opMove (some 23) (.tmp 22) 4 "law.go:229" #[{ on := 1, ground := Ground.data }]).op, none⟩,
    ⟨(opMove (some 24) (.tmp 3) 24 "law.go:229" #[{ on := 2, ground := Ground.guard }]).op, (some (2, 23, false))⟩,
    ⟨(opEq (some 25) 24 (.pointer 58) Try.underlying24 (.tmp 24) (.const (Value.pointer none)) (.inl rfl) 24 4 "law.go:229" #[{ on := 3, ground := Ground.data }, { on := 2, ground := Ground.guard }]).op, (some (2, 23, false))⟩,
    ⟨(opPick (some 26) (.tmp 23) (.const (Value.bool true)) (.tmp 25) 4 "law.go:229" #[{ on := 2, ground := Ground.data }, { on := 4, ground := Ground.data }]).op, none⟩
  ] (by kernel_rfl)))
  (.cond (.tmp 26)
    (.seq (.live [2] (.region 7 [
      ⟨(opAssign (some 2) (.const (Value.bool false)) 4 "law.go:230" #[]).op, none⟩
    ] (by kernel_rfl)))
    (.live [2] .ret))
    .skip))
  (.seq (.live [0, 3, 5] (.region 8 [
    ⟨(opMakeMap (some 27) 36 36 "law.go:232" #[]).op, none⟩,
    ⟨(opAssign (some 5) (.tmp 27) 36 "law.go:232" #[{ on := 0, ground := Ground.data }, { on := 0, ground := Ground.phase }]).op, none⟩
  ] (by kernel_rfl)))
  (.seq (.seq (.live [0, 3, 5, 6] (.region 9 [
    ⟨(opAssign (some 6) (.const (Value.int IntKind.i64 0)) 3 "law.go:233" #[]).op, none⟩
  ] (by kernel_rfl)))
  (.block 0 (.loop [0, 3, 5, 6] f4_l0)))
  f4_r1)))))))

noncomputable def f4 : Fun Try.prog where
  id := 4
  fn := Try.f4
  hf := Try.func4
  hname := by kernel_rfl
  body := f4_b
  hbody := by kernel_rfl
  res := [rTmp 2]
  hres := by kernel_rfl
  n := 87
  hn := by kernel_rfl

/-! ### 7: interlock/interlocklaw02.DiskPrefix (33, 3); results 4; slots: 0 calls, 1 keep, 2 calls, 3 keep, 5 a, 6 e, 7 b, 8 f, 9 n, 10 i -/
/-- A loop's round; at its head live: 0 calls, 1 keep, 5 a, 7 b, 9 n, 10 i -/
noncomputable def f7_l0 : Sim Try.prog :=
  (.seq (.seq (.live [0, 1, 5, 7, 9, 10, 44] (.region 11 [
    ⟨(opMove (some 41) (.tmp 10) 3 "law.go:175" #[]).op, none⟩,
    ⟨(opMove (some 42) (.tmp 0) 33 "law.go:175" #[]).op, none⟩,
    ⟨(opLen (some 43) (.tmp 42) 33 (.slice 38) Try.underlying33 3 "law.go:175" #[{ on := 1, ground := Ground.data }]).op, none⟩,
    ⟨(opBin (some 44) .lss 3 (.tmp 41) (.tmp 43) 3 4 "law.go:175" #[{ on := 0, ground := Ground.data }, { on := 2, ground := Ground.data }]).op, none⟩
  ] (by kernel_rfl)))
  (.cond (.tmp 44)
    .skip
    (.live [1, 5, 7] (.exit 0))))
  (.seq (.block 1 (.seq (.seq (.live [0, 1, 5, 7, 9, 10, 52] (.region 13 [
      ⟨(opMove (some 47) (.tmp 0) 33 "law.go:176" #[]).op, none⟩,
      ⟨(opMove (some 48) (.tmp 10) 3 "law.go:176" #[]).op, none⟩,
      ⟨(opIndexAddrT (some 49) 33 (.tmp 47) (.tmp 48) 38 4 Try.underlying33 sz38 0 "law.go:176" #[{ on := 0, ground := Ground.data }, { on := 1, ground := Ground.data }]).op, none⟩,
      ⟨(opFieldAddr (some 50) 38 (.tmp 49) 0 0 1 false fl38_0 (by decide) 0 "law.go:176" #[{ on := 2, ground := Ground.data }]).op, none⟩,
      ⟨(opLoadT (.one (.int .i64)) (some 51) 3 (.tmp 50) (.int .i64) Try.underlying3 1 sz3 (by kernel_rfl) 3 "law.go:176" #[{ on := 3, ground := Ground.data }]).op, none⟩,
      ⟨(opBin (some 52) .neq 3 (.tmp 51) (.const (Value.int IntKind.i64 1)) 3 4 "law.go:176" #[{ on := 4, ground := Ground.data }]).op, none⟩
    ] (by kernel_rfl)))
    (.cond (.tmp 52)
      (.live [0, 1, 5, 7, 9, 10] (.exit 1))
      .skip))
    (.seq (.live [0, 1, 5, 7, 9, 10, 65] (.draw 14 [
      ⟨.p (opMove (some 53) (.tmp 5) 24 "law.go:179" #[]), none⟩,
      ⟨.p (opMove (some 54) (.tmp 0) 33 "law.go:179" #[]), none⟩,
      ⟨.p (opMove (some 55) (.tmp 10) 3 "law.go:179" #[]), none⟩,
      ⟨.pn (opIndexAddrT (some 56) 33 (.tmp 54) (.tmp 55) 38 4 Try.underlying33 sz38 0 "law.go:179" #[{ on := 1, ground := Ground.data }, { on := 2, ground := Ground.data }]) opIndexAddrT_nat, none⟩,
      ⟨.pn (opFieldAddr (some 57) 38 (.tmp 56) 1 1 1 false fl38_1 (by decide) 0 "law.go:179" #[{ on := 3, ground := Ground.data }]) opFieldAddr_nat, none⟩,
      ⟨.qn (opLoadT (.one (.int .i64)) (some 58) 3 (.tmp 57) (.int .i64) Try.underlying3 1 sz3 (by kernel_rfl) 3 "law.go:179" #[{ on := 4, ground := Ground.data }]) opLoadT_nat, none⟩,
      ⟨.p (opMove (some 59) (.tmp 0) 33 "law.go:179" #[]), none⟩,
      ⟨.p (opMove (some 60) (.tmp 10) 3 "law.go:179" #[]), none⟩,
      ⟨.pn (opIndexAddrT (some 61) 33 (.tmp 59) (.tmp 60) 38 4 Try.underlying33 sz38 0 "law.go:179" #[{ on := 6, ground := Ground.data }, { on := 7, ground := Ground.data }]) opIndexAddrT_nat, none⟩,
      ⟨.pn (opFieldAddr (some 62) 38 (.tmp 61) 3 3 1 false fl38_3 (by decide) 0 "law.go:179" #[{ on := 8, ground := Ground.data }]) opFieldAddr_nat, none⟩,
      ⟨.qn (opLoadT (.one (.ns 1)) (some 63) 22 (.tmp 62) (.slice 5) Try.underlying22 1 sz22 (by kernel_rfl) 22 "law.go:179" #[{ on := 9, ground := Ground.data }]) opLoadT_nat, none⟩,
      ⟨.mn (opCallM (s11) (some 64) [(.tmp 53), (.tmp 58), (.tmp 63)] #[24, 3, 22] 25 "law.go:179" #[{ on := 0, ground := Ground.data }, { on := 5, ground := Ground.data }, { on := 10, ground := Ground.data }]) (opCallM_nat s11_nat), none⟩,
      ⟨.pn (opBin (some 65) .eql 25 (.tmp 64) (.const (Value.int IntKind.i64 0)) 25 4 "law.go:179" #[{ on := 11, ground := Ground.data }]) opBin_nat, none⟩
    ] mixed (by kernel_rfl)))
    (.cond (.tmp 65)
      (.seq (.seq (.live [0, 1, 5, 7, 9, 10, 68] (.region 15 [
        ⟨(opMove (some 66) (.tmp 9) 3 "law.go:180" #[]).op, none⟩,
        ⟨(opMove (some 67) (.tmp 1) 3 "law.go:180" #[]).op, none⟩,
        ⟨(opBin (some 68) .lss 3 (.tmp 66) (.tmp 67) 3 4 "law.go:180" #[{ on := 0, ground := Ground.data }, { on := 1, ground := Ground.data }]).op, none⟩
      ] (by kernel_rfl)))
      (.cond (.tmp 68)
        (.live [0, 1, 5, 7, 9, 10] (.draw 16 [
          ⟨.p (opMove (some 69) (.tmp 7) 24 "law.go:181" #[]), none⟩,
          ⟨.p (opMove (some 70) (.tmp 0) 33 "law.go:181" #[]), none⟩,
          ⟨.p (opMove (some 71) (.tmp 10) 3 "law.go:181" #[]), none⟩,
          ⟨.pn (opIndexAddrT (some 72) 33 (.tmp 70) (.tmp 71) 38 4 Try.underlying33 sz38 0 "law.go:181" #[{ on := 1, ground := Ground.data }, { on := 2, ground := Ground.data }]) opIndexAddrT_nat, none⟩,
          ⟨.pn (opFieldAddr (some 73) 38 (.tmp 72) 1 1 1 false fl38_1 (by decide) 0 "law.go:181" #[{ on := 3, ground := Ground.data }]) opFieldAddr_nat, none⟩,
          ⟨.qn (opLoadT (.one (.int .i64)) (some 74) 3 (.tmp 73) (.int .i64) Try.underlying3 1 sz3 (by kernel_rfl) 3 "law.go:181" #[{ on := 4, ground := Ground.data }]) opLoadT_nat, none⟩,
          ⟨.p (opMove (some 75) (.tmp 0) 33 "law.go:181" #[]), none⟩,
          ⟨.p (opMove (some 76) (.tmp 10) 3 "law.go:181" #[]), none⟩,
          ⟨.pn (opIndexAddrT (some 77) 33 (.tmp 75) (.tmp 76) 38 4 Try.underlying33 sz38 0 "law.go:181" #[{ on := 6, ground := Ground.data }, { on := 7, ground := Ground.data }]) opIndexAddrT_nat, none⟩,
          ⟨.pn (opFieldAddr (some 78) 38 (.tmp 77) 3 3 1 false fl38_3 (by decide) 0 "law.go:181" #[{ on := 8, ground := Ground.data }]) opFieldAddr_nat, none⟩,
          ⟨.qn (opLoadT (.one (.ns 1)) (some 79) 22 (.tmp 78) (.slice 5) Try.underlying22 1 sz22 (by kernel_rfl) 22 "law.go:181" #[{ on := 9, ground := Ground.data }]) opLoadT_nat, none⟩,
          ⟨.mn (opCallM (s11) (some 80) [(.tmp 69), (.tmp 74), (.tmp 79)] #[24, 3, 22] 25 "law.go:181" #[{ on := 0, ground := Ground.data }, { on := 5, ground := Ground.data }, { on := 10, ground := Ground.data }]) (opCallM_nat s11_nat), none⟩
        ] mixed (by kernel_rfl)))
        .skip))
      (.live [0, 1, 5, 7, 9, 10] (.region 17 [
        ⟨(opMove (some 81) (.tmp 9) 3 "law.go:183" #[]).op, none⟩,
        ⟨(opBin (some 82) .add 3 (.tmp 81) (.const (Value.int IntKind.i64 1)) 3 3 "law.go:183" #[{ on := 0, ground := Ground.data }]).op, none⟩,
        ⟨(opAssign (some 9) (.tmp 82) 3 "law.go:183" #[{ on := 1, ground := Ground.data }, { on := 0, ground := Ground.phase }, { on := 1, ground := Ground.phase }]).op, none⟩
      ] (by kernel_rfl))))
      .skip))))
  (.live [0, 1, 5, 7, 9, 10] (.region 12 [
    ⟨(opMove (some 45) (.tmp 10) 3 "law.go:175" #[]).op, none⟩,
    ⟨(opBin (some 46) .add 3 (.tmp 45) (.const (Value.int IntKind.i64 1)) 3 3 "law.go:175" #[{ on := 0, ground := Ground.data }]).op, none⟩,
    ⟨(opAssign (some 10) (.tmp 46) 3 "law.go:175" #[{ on := 1, ground := Ground.data }, { on := 0, ground := Ground.phase }, { on := 1, ground := Ground.phase }]).op, none⟩
  ] (by kernel_rfl)))))

/-- What follows a loop. -/
noncomputable def f7_r0 : Sim Try.prog :=
  (.seq (.live [5, 7] (.region 18 [
    ⟨(opMove (some 83) (.tmp 5) 24 "law.go:186" #[]).op, none⟩,
    ⟨(opMove (some 84) (.tmp 1) 3 "law.go:186" #[]).op, none⟩,
    ⟨opCall (s12).orc (some 85) [(.tmp 83), (.tmp 84), (.const (Value.int IntKind.i64 0))] #[24, 3, 3] 0 "law.go:186" #[{ on := 0, ground := Ground.data }, { on := 1, ground := Ground.data }], none⟩
  ] (by kernel_rfl)))
  (.seq (.live [5, 7] (.region 19 [
    ⟨(opMove (some 86) (.tmp 7) 24 "law.go:187" #[]).op, none⟩,
    ⟨opCall (s16).orc (some 87) [(.tmp 86)] #[24] 0 "law.go:187" #[{ on := 0, ground := Ground.data }], none⟩
  ] (by kernel_rfl)))
  (.seq (.live [4] (.region 20 [
    ⟨(opMove (some 88) (.tmp 5) 24 "law.go:188" #[]).op, none⟩,
    ⟨opCall (s21).orc (some 89) [(.tmp 88)] #[24] 22 "law.go:188" #[{ on := 0, ground := Ground.data }], none⟩,
    ⟨(opMove (some 90) (.tmp 7) 24 "law.go:188" #[]).op, none⟩,
    ⟨opCall (s21).orc (some 91) [(.tmp 90)] #[24] 22 "law.go:188" #[{ on := 2, ground := Ground.data }, { on := 1, ground := Ground.chain }], none⟩,
    ⟨(opCallQ q17 (some 92) [(.tmp 89), (.tmp 91)] #[22, 22] 4 "law.go:188" #[{ on := 1, ground := Ground.data }, { on := 3, ground := Ground.data }, { on := 3, ground := Ground.chain }]).op, none⟩,
    ⟨(opAssign (some 4) (.tmp 92) 4 "law.go:188" #[{ on := 4, ground := Ground.data }, { on := 4, ground := Ground.chain }, { on := 0, ground := Ground.phase }, { on := 1, ground := Ground.phase }, { on := 2, ground := Ground.phase }, { on := 3, ground := Ground.phase }, { on := 4, ground := Ground.phase }]).op, none⟩
  ] (by kernel_rfl)))
  (.live [4] .ret))))

noncomputable def f7_b : Sim Try.prog :=
  (.seq (.live [0, 1] (.region 0 [
    ⟨(opAssign (some 4) (.const (Value.bool false)) 4 "law.go:162" #[]).op, none⟩
  ] (by kernel_rfl)))
  (.seq (.seq (.live [0, 1, 12] (.region 1 [
    ⟨(opCallP p9 (some 11) [] #[] 4 "law.go:163" #[]).op, none⟩,
    ⟨(opNot (some 12) 4 (.tmp 11) 4 "law.go:163" #[{ on := 0, ground := Ground.data }]).op, none⟩
  ] (by kernel_rfl)))
  (.cond (.tmp 12)
    (.seq (.live [4] (.region 2 [
      ⟨(opAssign (some 4) (.const (Value.bool false)) 4 "law.go:164" #[]).op, none⟩
    ] (by kernel_rfl)))
    (.live [4] .ret))
    .skip))
  (.seq (.seq (.live [0, 1, 18] (.region 3 [
    ⟨(opMove (some 13) (.tmp 0) 33 "law.go:166" #[]).op, none⟩,
    ⟨(opCallP p14 (some 14) [(.tmp 13)] #[33] 4 "law.go:166" #[{ on := 0, ground := Ground.data }]).op, none⟩,
    ⟨(opMove (some 15) (.tmp 14) 4 "law.go:166" #[{ on := 1, ground := Ground.data }, { on := 1, ground := Ground.chain }]).op, none⟩,
    ⟨(opMove (some 16) (.tmp 1) 3 "law.go:166" #[{ on := 2, ground := Ground.guard }]).op, (some (2, 15, false))⟩,
    ⟨(opBin (some 17) .lss 3 (.tmp 16) (.const (Value.int IntKind.i64 0)) 3 4 "law.go:166" #[{ on := 3, ground := Ground.data }, { on := 2, ground := Ground.guard }]).op, (some (2, 15, false))⟩,
    ⟨(opPick (some 18) (.tmp 15) (.const (Value.bool true)) (.tmp 17) 4 "law.go:166" #[{ on := 2, ground := Ground.data }, { on := 4, ground := Ground.data }]).op, none⟩
  ] (by kernel_rfl)))
  (.cond (.tmp 18)
    (.seq (.live [4] (.region 4 [
      ⟨(opAssign (some 4) (.const (Value.bool true)) 4 "law.go:167" #[]).op, none⟩
    ] (by kernel_rfl)))
    (.live [4] .ret))
    .skip))
  (.seq (.live [0, 1, 5, 6] (.region 5 [
    ⟨opCall (f15.orc 0) (some 20) [(.const (Value.int IntKind.i64 6))] #[3] 26 "law.go:169" #[], none⟩,
    ⟨(opMove (some 19) (.tmp 20) 26 "law.go:169" #[{ on := 0, ground := Ground.data }]).op, none⟩,
    ⟨(opExtract (some 21) (.tmp 19) 0 24 "law.go:169" #[{ on := 1, ground := Ground.data }]).op, none⟩,
    ⟨(opExtract (some 22) (.tmp 19) 1 25 "law.go:169" #[{ on := 1, ground := Ground.data }, { on := 4, ground := (Ground.gcOnly Departure.lateStores) }]).op, none⟩,
    ⟨(opAssign (some 5) (.tmp 21) 24 "law.go:169" #[{ on := 2, ground := Ground.data }, { on := 0, ground := Ground.chain }, { on := 0, ground := Ground.phase }, { on := 1, ground := Ground.phase }, { on := 2, ground := Ground.phase }, { on := 3, ground := (Ground.textOnly Departure.lateStores) }]).op, none⟩,
    ⟨(opAssign (some 6) (.tmp 22) 25 "law.go:169" #[{ on := 3, ground := Ground.data }, { on := 4, ground := Ground.chain }, { on := 0, ground := Ground.phase }, { on := 1, ground := Ground.phase }, { on := 2, ground := Ground.phase }, { on := 3, ground := Ground.phase }, { on := 4, ground := Ground.phase }]).op, none⟩
  ] (by kernel_rfl)))
  (.seq (.live [0, 1, 5, 6, 7, 8] (.region 6 [
    ⟨opCall (f15.orc 0) (some 24) [(.const (Value.int IntKind.i64 6))] #[3] 26 "law.go:170" #[], none⟩,
    ⟨(opMove (some 23) (.tmp 24) 26 "law.go:170" #[{ on := 0, ground := Ground.data }]).op, none⟩,
    ⟨(opExtract (some 25) (.tmp 23) 0 24 "law.go:170" #[{ on := 1, ground := Ground.data }]).op, none⟩,
    ⟨(opExtract (some 26) (.tmp 23) 1 25 "law.go:170" #[{ on := 1, ground := Ground.data }, { on := 4, ground := (Ground.gcOnly Departure.lateStores) }]).op, none⟩,
    ⟨(opAssign (some 7) (.tmp 25) 24 "law.go:170" #[{ on := 2, ground := Ground.data }, { on := 0, ground := Ground.chain }, { on := 0, ground := Ground.phase }, { on := 1, ground := Ground.phase }, { on := 2, ground := Ground.phase }, { on := 3, ground := (Ground.textOnly Departure.lateStores) }]).op, none⟩,
    ⟨(opAssign (some 8) (.tmp 26) 25 "law.go:170" #[{ on := 3, ground := Ground.data }, { on := 4, ground := Ground.chain }, { on := 0, ground := Ground.phase }, { on := 1, ground := Ground.phase }, { on := 2, ground := Ground.phase }, { on := 3, ground := Ground.phase }, { on := 4, ground := Ground.phase }]).op, none⟩
  ] (by kernel_rfl)))
  (.seq (.seq (.live [0, 1, 5, 7, 40] (.region 7 [
    ⟨(opMove (some 27) (.tmp 6) 25 "law.go:171" #[]).op, none⟩,
    ⟨(opBin (some 28) .neq 25 (.tmp 27) (.const (Value.int IntKind.i64 0)) 25 4 "law.go:171" #[{ on := 0, ground := Ground.data }]).op, none⟩,
    ⟨(opMove (some 29) (.tmp 28) 4 "law.go:171" #[{ on := 1, ground := Ground.data }]).op, none⟩,
    ⟨(opMove (some 30) (.tmp 8) 25 "law.go:171" #[{ on := 2, ground := Ground.guard }]).op, (some (2, 29, false))⟩,
    ⟨(opBin (some 31) .neq 25 (.tmp 30) (.const (Value.int IntKind.i64 0)) 25 4 "law.go:171" #[{ on := 3, ground := Ground.data }, { on := 2, ground := Ground.guard }]).op, (some (2, 29, false))⟩,
    ⟨(opPick (some 32) (.tmp 29) (.const (Value.bool true)) (.tmp 31) 4 "law.go:171" #[{ on := 2, ground := Ground.data }, { on := 4, ground := Ground.data }]).op, none⟩,
    ⟨(opMove (some 33) (.tmp 32) 4 "law.go:171" #[{ on := 5, ground := Ground.data }, { on := 2, ground := Ground.chain }]).op, none⟩,
    ⟨(opMove (some 34) (.tmp 5) 24 "law.go:171" #[{ on := 6, ground := Ground.guard }]).op, (some (6, 33, false))⟩,
    ⟨(opEq (some 35) 24 (.pointer 58) Try.underlying24 (.tmp 34) (.const (Value.pointer none)) (.inl rfl) 24 4 "law.go:171" #[{ on := 7, ground := Ground.data }, { on := 6, ground := Ground.guard }]).op, (some (6, 33, false))⟩,
    ⟨(opPick (some 36) (.tmp 33) (.const (Value.bool true)) (.tmp 35) 4 "law.go:171" #[{ on := 6, ground := Ground.data }, { on := 8, ground := Ground.data }]).op, none⟩,
    ⟨(opMove (some 37) (.tmp 36) 4 "law.go:171" #[{ on := 9, ground := Ground.data }, { on := 6, ground := Ground.chain }]).op, none⟩,
    ⟨(opMove (some 38) (.tmp 7) 24 "law.go:171" #[{ on := 10, ground := Ground.guard }]).op, (some (10, 37, false))⟩,
    ⟨(opEq (some 39) 24 (.pointer 58) Try.underlying24 (.tmp 38) (.const (Value.pointer none)) (.inl rfl) 24 4 "law.go:171" #[{ on := 11, ground := Ground.data }, { on := 10, ground := Ground.guard }]).op, (some (10, 37, false))⟩,
    ⟨(opPick (some 40) (.tmp 37) (.const (Value.bool true)) (.tmp 39) 4 "law.go:171" #[{ on := 10, ground := Ground.data }, { on := 12, ground := Ground.data }]).op, none⟩
  ] (by kernel_rfl)))
  (.cond (.tmp 40)
    (.seq (.live [4] (.region 8 [
      ⟨(opAssign (some 4) (.const (Value.bool false)) 4 "law.go:172" #[]).op, none⟩
    ] (by kernel_rfl)))
    (.live [4] .ret))
    .skip))
  (.seq (.live [0, 1, 5, 7, 9] (.region 9 [
    ⟨(opAssign (some 9) (.const (Value.int IntKind.i64 0)) 3 "law.go:174" #[]).op, none⟩
  ] (by kernel_rfl)))
  (.seq (.seq (.live [0, 1, 5, 7, 9, 10] (.region 10 [
    ⟨(opAssign (some 10) (.const (Value.int IntKind.i64 0)) 3 "law.go:175" #[]).op, none⟩
  ] (by kernel_rfl)))
  (.block 0 (.loop [0, 1, 5, 7, 9, 10] f7_l0)))
  f7_r0))))))))

noncomputable def f7 : Fun Try.prog where
  id := 7
  fn := Try.f7
  hf := Try.func7
  hname := by kernel_rfl
  body := f7_b
  hbody := by kernel_rfl
  res := [rTmp 4]
  hres := by kernel_rfl
  n := 93
  hn := by kernel_rfl

end Go.Proofs.Ytclghabbhpaafaa.V

/- What the functions' runs come to; the right sides were printed by a tool, Lean checks them. -/
set_option linter.unusedVariables false
set_option maxRecDepth 100000
namespace Go.Proofs.Ytclghabbhpaafaa.V
open Go Go.V Go.RowKit

theorem reads_run (F : Nat) (z : Bool) (l : List (List AV)) :
    (f4.run F [.ns z 4 l] ⟨[], []⟩ : Ans) =
    branch (AV.bool (okCl l))
      (branch (AV.bool (greatB l)) (some (Fin.ret (AV.bool true), St.mk [] []))
        (branch (AV.bool (byOk [] && true))
          (loopRun (f4_l0.run F) [0, 3, 5, 6]
            (Cont.block 0 (Cont.then (f4_r1.run F (f4.leaveK Fun.done)) (f4.leaveK Fun.done))) F
            (Env.mk 87
              [(0, AV.ns z 4 l), (3, AV.ptr 2 0), (5, AV.mp 4),
                (6, AV.int IntKind.i64 (0 : Int))])
            (St.mk
              [dk0 (Dk.new (Int.toNat (6 : Int)) (nR [])), dk1 (Dk.new (Int.toNat (6 : Int)) (nR [])),
                dk2 0 (Dk.new (Int.toNat (6 : Int)) (nR [])), dk3 (Dk.new (Int.toNat (6 : Int)) (nR [])), Ob.map []]
              []))
          none))
      none := by kernel_rfl

theorem reads_round (F m : Nat) (K : Cont) (z : Bool) (l : List (List AV)) (i : Int) (a b c d : Ob) (es : List (AV × AV)) :
    (loopRun (f4_l0.run F) [0, 3, 5, 6] K m.succ (Env.mk 87 [(0, .ns z 4 l), (3, .ptr 2 0), (5, .mp 4), (6, .int .i64 i)]) ⟨[a, b, c, d, .map es], []⟩ : Ans) =
    branch (AV.bool (decide (i < (↑l.length : Int))))
      (branch (AV.bool (inR l i))
        (branch
          (AV.bool
            ((LD.agg [LT.int IntKind.i64, LT.int IntKind.i64, LT.int IntKind.i64, LT.ns 1]).is (V.rowAt l i)))
          (branch (AV.bool (hdI (V.rowAt l i) == (1 : Int)))
            (onSome (dkG 0 a b c d) none fun (o : Dk) =>
              branch (AV.bool (byOk (rwA (V.rowAt l i).tail.tail.tail)))
                (branch (AV.bool (o.wrE (hdI (V.rowAt l i).tail) (rwA (V.rowAt l i).tail.tail.tail).length == (0 : Int)))
                  (branch (AV.bool (true && keysOk (LT.int IntKind.i64) es))
                    (branch (AV.bool (hdI (V.rowAt l i) == (2 : Int)))
                      (onSome
                        (dkG 0
                          (dk0
                            (o.wrX
                              (hdI
                                (List.drop 1
                                  (valLTs [LT.int IntKind.i64, LT.int IntKind.i64, LT.int IntKind.i64, LT.ns 1]
                                    (V.rowAt l i))))
                              (nR (rwA (V.rowAt l i).tail.tail.tail))))
                          (dk1
                            (o.wrX
                              (hdI
                                (List.drop 1
                                  (valLTs [LT.int IntKind.i64, LT.int IntKind.i64, LT.int IntKind.i64, LT.ns 1]
                                    (V.rowAt l i))))
                              (nR (rwA (V.rowAt l i).tail.tail.tail))))
                          (dk2 (nat_lit 0)
                            (o.wrX
                              (hdI
                                (List.drop 1
                                  (valLTs [LT.int IntKind.i64, LT.int IntKind.i64, LT.int IntKind.i64, LT.ns 1]
                                    (V.rowAt l i))))
                              (nR (rwA (V.rowAt l i).tail.tail.tail))))
                          (dk3
                            (o.wrX
                              (hdI
                                (List.drop 1
                                  (valLTs [LT.int IntKind.i64, LT.int IntKind.i64, LT.int IntKind.i64, LT.ns 1]
                                    (V.rowAt l i))))
                              (nR (rwA (V.rowAt l i).tail.tail.tail)))))
                        none fun (o : Dk) =>
                        loopRun (f4_l0.run F) [0, 3, 5, 6] K m
                          (Env.mk 87
                            [(0, AV.ns z 4 l), (3, AV.ptr 2 0),
                              (5, AV.mp 4),
                              (6, AV.int IntKind.i64 (IntKind.i64.wrap (i + (1 : Int))))])
                          (St.mk
                            [dk0 o.flush, dk1 o.flush, dk2 0 o.flush, dk3 o.flush,
                              Ob.map
                                (putK es (AV.int IntKind.i64 (hdI (V.rowAt l i).tail))
                                  (AV.ns (nilA (V.rowAt l i).tail.tail.tail) 1 (rwA (V.rowAt l i).tail.tail.tail)))]
                            []))
                      (loopRun (f4_l0.run F) [0, 3, 5, 6] K m
                        (Env.mk 87
                          [(0, AV.ns z 4 l), (3, AV.ptr 2 0),
                            (5, AV.mp 4),
                            (6, AV.int IntKind.i64 (IntKind.i64.wrap (i + (1 : Int))))])
                        (St.mk
                          [dk0
                              (o.wrX
                                (hdI
                                  (List.drop 1
                                    (valLTs [LT.int IntKind.i64, LT.int IntKind.i64, LT.int IntKind.i64, LT.ns 1]
                                      (V.rowAt l i))))
                                (nR (rwA (V.rowAt l i).tail.tail.tail))),
                            dk1
                              (o.wrX
                                (hdI
                                  (List.drop 1
                                    (valLTs [LT.int IntKind.i64, LT.int IntKind.i64, LT.int IntKind.i64, LT.ns 1]
                                      (V.rowAt l i))))
                                (nR (rwA (V.rowAt l i).tail.tail.tail))),
                            dk2 0
                              (o.wrX
                                (hdI
                                  (List.drop 1
                                    (valLTs [LT.int IntKind.i64, LT.int IntKind.i64, LT.int IntKind.i64, LT.ns 1]
                                      (V.rowAt l i))))
                                (nR (rwA (V.rowAt l i).tail.tail.tail))),
                            dk3
                              (o.wrX
                                (hdI
                                  (List.drop 1
                                    (valLTs [LT.int IntKind.i64, LT.int IntKind.i64, LT.int IntKind.i64, LT.ns 1]
                                      (V.rowAt l i))))
                                (nR (rwA (V.rowAt l i).tail.tail.tail))),
                            Ob.map
                              (putK es (AV.int IntKind.i64 (hdI (V.rowAt l i).tail))
                                (AV.ns (nilA (V.rowAt l i).tail.tail.tail) 1 (rwA (V.rowAt l i).tail.tail.tail)))]
                          [])))
                    none)
                  (branch (AV.bool (hdI (V.rowAt l i) == (2 : Int)))
                    (onSome
                      (dkG 0
                        (dk0
                          (o.wrX
                            (hdI
                              (List.drop 1
                                (valLTs [LT.int IntKind.i64, LT.int IntKind.i64, LT.int IntKind.i64, LT.ns 1]
                                  (V.rowAt l i))))
                            (nR (rwA (V.rowAt l i).tail.tail.tail))))
                        (dk1
                          (o.wrX
                            (hdI
                              (List.drop 1
                                (valLTs [LT.int IntKind.i64, LT.int IntKind.i64, LT.int IntKind.i64, LT.ns 1]
                                  (V.rowAt l i))))
                            (nR (rwA (V.rowAt l i).tail.tail.tail))))
                        (dk2 (nat_lit 0)
                          (o.wrX
                            (hdI
                              (List.drop 1
                                (valLTs [LT.int IntKind.i64, LT.int IntKind.i64, LT.int IntKind.i64, LT.ns 1]
                                  (V.rowAt l i))))
                            (nR (rwA (V.rowAt l i).tail.tail.tail))))
                        (dk3
                          (o.wrX
                            (hdI
                              (List.drop 1
                                (valLTs [LT.int IntKind.i64, LT.int IntKind.i64, LT.int IntKind.i64, LT.ns 1]
                                  (V.rowAt l i))))
                            (nR (rwA (V.rowAt l i).tail.tail.tail)))))
                      none fun (o : Dk) =>
                      loopRun (f4_l0.run F) [0, 3, 5, 6] K m
                        (Env.mk 87
                          [(0, AV.ns z 4 l), (3, AV.ptr 2 0),
                            (5, AV.mp 4),
                            (6, AV.int IntKind.i64 (IntKind.i64.wrap (i + (1 : Int))))])
                        (St.mk [dk0 o.flush, dk1 o.flush, dk2 0 o.flush, dk3 o.flush, Ob.map es] []))
                    (loopRun (f4_l0.run F) [0, 3, 5, 6] K m
                      (Env.mk 87
                        [(0, AV.ns z 4 l), (3, AV.ptr 2 0),
                          (5, AV.mp 4), (6, AV.int IntKind.i64 (IntKind.i64.wrap (i + (1 : Int))))])
                      (St.mk
                        [dk0
                            (o.wrX
                              (hdI
                                (List.drop 1
                                  (valLTs [LT.int IntKind.i64, LT.int IntKind.i64, LT.int IntKind.i64, LT.ns 1]
                                    (V.rowAt l i))))
                              (nR (rwA (V.rowAt l i).tail.tail.tail))),
                          dk1
                            (o.wrX
                              (hdI
                                (List.drop 1
                                  (valLTs [LT.int IntKind.i64, LT.int IntKind.i64, LT.int IntKind.i64, LT.ns 1]
                                    (V.rowAt l i))))
                              (nR (rwA (V.rowAt l i).tail.tail.tail))),
                          dk2 0
                            (o.wrX
                              (hdI
                                (List.drop 1
                                  (valLTs [LT.int IntKind.i64, LT.int IntKind.i64, LT.int IntKind.i64, LT.ns 1]
                                    (V.rowAt l i))))
                              (nR (rwA (V.rowAt l i).tail.tail.tail))),
                          dk3
                            (o.wrX
                              (hdI
                                (List.drop 1
                                  (valLTs [LT.int IntKind.i64, LT.int IntKind.i64, LT.int IntKind.i64, LT.ns 1]
                                    (V.rowAt l i))))
                              (nR (rwA (V.rowAt l i).tail.tail.tail))),
                          Ob.map es]
                        []))))
                none)
            (branch (AV.bool (hdI (V.rowAt l i) == (2 : Int)))
              (onSome (dkG 0 a b c d) none fun (o : Dk) =>
                loopRun (f4_l0.run F) [0, 3, 5, 6] K m
                  (Env.mk 87
                    [(0, AV.ns z 4 l), (3, AV.ptr 2 0),
                      (5, AV.mp 4), (6, AV.int IntKind.i64 (IntKind.i64.wrap (i + (1 : Int))))])
                  (St.mk [dk0 o.flush, dk1 o.flush, dk2 0 o.flush, dk3 o.flush, Ob.map es] []))
              (loopRun (f4_l0.run F) [0, 3, 5, 6] K m
                (Env.mk 87
                  [(0, AV.ns z 4 l), (3, AV.ptr 2 0), (5, AV.mp 4),
                    (6, AV.int IntKind.i64 (IntKind.i64.wrap (i + (1 : Int))))])
                (St.mk [a, b, c, d, Ob.map es] []))))
          none)
        none)
      (K (AX.exit 0) (Env.mk 87 [(3, AV.ptr 2 0), (5, AV.mp 4)])
        (St.mk [a, b, c, d, Ob.map es] [])) := by kernel_rfl

theorem reads_out (F : Nat) (a b c d : Ob) (es : List (AV × AV)) :
    ((Cont.block 0 (Cont.then (f4_r1.run F (f4.leaveK Fun.done)) (f4.leaveK Fun.done))) (.exit 0) (Env.mk 87 [(3, .ptr 2 0), (5, .mp 4)]) ⟨[a, b, c, d, .map es], []⟩ : Ans) =
    loopRun (f4_l1.run F) [3, 5, 8]
      (Cont.block 2 (Cont.then (f4_r0.run F (f4.leaveK Fun.done)) (f4.leaveK Fun.done))) F
      (Env.mk 87
        [(3, AV.ptr 2 0), (5, AV.mp 4), (8, AV.int IntKind.i64 (0 : Int))])
      (St.mk [a, b, c, d, Ob.map es] []) := by kernel_rfl

theorem reads_round2 (F m : Nat) (K : Cont) (i : Int) (a b c d : Ob) (es : List (AV × AV)) :
    (loopRun (f4_l1.run F) [3, 5, 8] K m.succ (Env.mk 87 [(3, .ptr 2 0), (5, .mp 4), (8, .int .i64 i)]) ⟨[a, b, c, d, .map es], []⟩ : Ans) =
    branch (AV.bool (decide (i < (6 : Int))))
      (onSome (dkG 0 a b c d) none fun (o : Dk) =>
        branch (AV.bool (true && keysOk (LT.int IntKind.i64) es))
          (branch (AV.bool (hasK es (AV.int IntKind.i64 i)))
            (branch (AV.bool ((LK.sl 1).is (valK es (AV.int IntKind.i64 i))))
              (branch (AV.bool (o.rdE i != (0 : Int)))
                (K AX.ret (Env.mk 87 [(2, AV.bool false)]) (St.mk [a, b, c, d, Ob.map es] []))
                (branch (AV.bool (byOk (bR (o.rdB i)) && byOk (rwA [valK es (AV.int IntKind.i64 i)])))
                  (branch (AV.bool !nR (bR (o.rdB i)) == nR (rwA [valK es (AV.int IntKind.i64 i)]))
                    (K AX.ret (Env.mk 87 [(2, AV.bool false)]) (St.mk [a, b, c, d, Ob.map es] []))
                    (loopRun (f4_l1.run F) [3, 5, 8] K m
                      (Env.mk 87
                        [(3, AV.ptr 2 0), (5, AV.mp 4),
                          (8, AV.int IntKind.i64 (IntKind.i64.wrap (i + (1 : Int))))])
                      (St.mk [a, b, c, d, Ob.map es] [])))
                  none))
              none)
            (branch (AV.bool (o.rdE i != (0 : Int)))
              (K AX.ret (Env.mk 87 [(2, AV.bool false)]) (St.mk [a, b, c, d, Ob.map es] []))
              (branch
                (AV.bool
                  (byOk (bR (o.rdB i)) &&
                    byOk
                      [[AV.int IntKind.u8 (0 : Int)], [AV.int IntKind.u8 (0 : Int)], [AV.int IntKind.u8 (0 : Int)],
                        [AV.int IntKind.u8 (0 : Int)], [AV.int IntKind.u8 (0 : Int)], [AV.int IntKind.u8 (0 : Int)],
                        [AV.int IntKind.u8 (0 : Int)], [AV.int IntKind.u8 (0 : Int)], [AV.int IntKind.u8 (0 : Int)],
                        [AV.int IntKind.u8 (0 : Int)], [AV.int IntKind.u8 (0 : Int)], [AV.int IntKind.u8 (0 : Int)],
                        [AV.int IntKind.u8 (0 : Int)], [AV.int IntKind.u8 (0 : Int)], [AV.int IntKind.u8 (0 : Int)],
                        [AV.int IntKind.u8 (0 : Int)], [AV.int IntKind.u8 (0 : Int)], [AV.int IntKind.u8 (0 : Int)],
                        [AV.int IntKind.u8 (0 : Int)], [AV.int IntKind.u8 (0 : Int)], [AV.int IntKind.u8 (0 : Int)],
                        [AV.int IntKind.u8 (0 : Int)], [AV.int IntKind.u8 (0 : Int)], [AV.int IntKind.u8 (0 : Int)],
                        [AV.int IntKind.u8 (0 : Int)], [AV.int IntKind.u8 (0 : Int)], [AV.int IntKind.u8 (0 : Int)],
                        [AV.int IntKind.u8 (0 : Int)], [AV.int IntKind.u8 (0 : Int)], [AV.int IntKind.u8 (0 : Int)],
                        [AV.int IntKind.u8 (0 : Int)], [AV.int IntKind.u8 (0 : Int)], [AV.int IntKind.u8 (0 : Int)],
                        [AV.int IntKind.u8 (0 : Int)], [AV.int IntKind.u8 (0 : Int)], [AV.int IntKind.u8 (0 : Int)],
                        [AV.int IntKind.u8 (0 : Int)], [AV.int IntKind.u8 (0 : Int)], [AV.int IntKind.u8 (0 : Int)],
                        [AV.int IntKind.u8 (0 : Int)], [AV.int IntKind.u8 (0 : Int)], [AV.int IntKind.u8 (0 : Int)],
                        [AV.int IntKind.u8 (0 : Int)], [AV.int IntKind.u8 (0 : Int)], [AV.int IntKind.u8 (0 : Int)],
                        [AV.int IntKind.u8 (0 : Int)], [AV.int IntKind.u8 (0 : Int)], [AV.int IntKind.u8 (0 : Int)],
                        [AV.int IntKind.u8 (0 : Int)], [AV.int IntKind.u8 (0 : Int)], [AV.int IntKind.u8 (0 : Int)],
                        [AV.int IntKind.u8 (0 : Int)], [AV.int IntKind.u8 (0 : Int)], [AV.int IntKind.u8 (0 : Int)],
                        [AV.int IntKind.u8 (0 : Int)], [AV.int IntKind.u8 (0 : Int)], [AV.int IntKind.u8 (0 : Int)],
                        [AV.int IntKind.u8 (0 : Int)], [AV.int IntKind.u8 (0 : Int)], [AV.int IntKind.u8 (0 : Int)],
                        [AV.int IntKind.u8 (0 : Int)], [AV.int IntKind.u8 (0 : Int)], [AV.int IntKind.u8 (0 : Int)],
                        [AV.int IntKind.u8 (0 : Int)]]))
                (branch
                  (AV.bool
                    !nR (bR (o.rdB i)) ==
                        [0, 0, 0, 0, 0, 0, 0, 0, 0,
                          0, 0, 0, 0, 0, 0, 0, 0, 0,
                          0, 0, 0, 0, 0, 0, 0, 0, 0,
                          0, 0, 0, 0, 0, 0, 0, 0, 0,
                          0, 0, 0, 0, 0, 0, 0, 0, 0,
                          0, 0, 0, 0, 0, 0, 0, 0, 0,
                          0, 0, 0, 0, 0, 0, 0, 0, 0,
                          0])
                  (K AX.ret (Env.mk 87 [(2, AV.bool false)]) (St.mk [a, b, c, d, Ob.map es] []))
                  (loopRun (f4_l1.run F) [3, 5, 8] K m
                    (Env.mk 87
                      [(3, AV.ptr 2 0), (5, AV.mp 4),
                        (8, AV.int IntKind.i64 (IntKind.i64.wrap (i + (1 : Int))))])
                    (St.mk [a, b, c, d, Ob.map es] [])))
                none)))
          none)
      (K (AX.exit 2) (Env.mk 87 []) (St.mk [a, b, c, d, Ob.map es] [])) := by kernel_rfl

theorem reads_out2 (F : Nat) (st : St) :
    ((Cont.block 2 (Cont.then (f4_r0.run F (f4.leaveK Fun.done)) (f4.leaveK Fun.done))) (.exit 2) (Env.mk 87 []) st : Ans) =
    some (Fin.ret (AV.bool true), st) := by kernel_rfl

theorem prefix_run (F : Nat) (z : Bool) (l : List (List AV)) (kp : Int) :
    (f7.run F [.ns z 4 l, .int .i64 kp] ⟨[], []⟩ : Ans) =
    branch (AV.bool (okCl l))
      (branch (AV.bool (greatB l)) (some (Fin.ret (AV.bool true), St.mk [] []))
        (branch (AV.bool (decide (kp < (0 : Int)))) (some (Fin.ret (AV.bool true), St.mk [] []))
          (branch (AV.bool (byOk [] && true))
            (branch (AV.bool (byOk [] && true))
              (loopRun (f7_l0.run F) [0, 1, 5, 7, 9, 10]
                (Cont.block 0 (Cont.then (f7_r0.run F (f7.leaveK Fun.done)) (f7.leaveK Fun.done))) F
                (Env.mk 93
                  [(0, AV.ns z 4 l), (1, AV.int IntKind.i64 kp),
                    (5, AV.ptr 2 0), (7, AV.ptr 6 0),
                    (9, AV.int IntKind.i64 (0 : Int)), (10, AV.int IntKind.i64 (0 : Int))])
                (St.mk
                  [dk0 (Dk.new (Int.toNat (6 : Int)) (nR [])), dk1 (Dk.new (Int.toNat (6 : Int)) (nR [])),
                    dk2 0 (Dk.new (Int.toNat (6 : Int)) (nR [])), dk3 (Dk.new (Int.toNat (6 : Int)) (nR [])),
                    dk0 (Dk.new (Int.toNat (6 : Int)) (nR [])), dk1 (Dk.new (Int.toNat (6 : Int)) (nR [])),
                    dk2 4 (Dk.new (Int.toNat (6 : Int)) (nR [])), dk3 (Dk.new (Int.toNat (6 : Int)) (nR []))]
                  []))
              none)
            none)))
      none := by kernel_rfl

theorem prefix_round (F m : Nat) (K : Cont) (z : Bool) (l : List (List AV)) (kp n i : Int) (a b c d e f g h : Ob) :
    (loopRun (f7_l0.run F) [0, 1, 5, 7, 9, 10] K m.succ (Env.mk 93 [(0, .ns z 4 l), (1, .int .i64 kp), (5, .ptr 2 0), (7, .ptr 6 0), (9, .int .i64 n), (10, .int .i64 i)]) ⟨[a, b, c, d, e, f, g, h], []⟩ : Ans) =
    branch (AV.bool (decide (i < (↑l.length : Int))))
      (branch (AV.bool (inR l i))
        (branch (AV.bool ((LD.one (LT.int IntKind.i64)).is (List.drop 0 (V.rowAt l i))))
          (branch (AV.bool (hdI (List.drop 0 (V.rowAt l i)) != (1 : Int)))
            (loopRun (f7_l0.run F) [0, 1, 5, 7, 9, 10] K m
              (Env.mk 93
                [(0, AV.ns z 4 l), (1, AV.int IntKind.i64 kp),
                  (5, AV.ptr 2 0), (7, AV.ptr 6 0),
                  (9, AV.int IntKind.i64 n), (10, AV.int IntKind.i64 (IntKind.i64.wrap (i + (1 : Int))))])
              (St.mk [a, b, c, d, e, f, g, h] []))
            (branch (AV.bool (inR l i))
              (branch (AV.bool ((LD.one (LT.int IntKind.i64)).is (List.drop 1 (V.rowAt l i))))
                (branch (AV.bool (inR l i))
                  (branch (AV.bool ((LD.one (LT.ns 1)).is (List.drop 3 (V.rowAt l i))))
                    (onSome (dkG 0 a b c d) none fun (o : Dk) =>
                      branch (AV.bool (byOk (rwA (List.drop 3 (V.rowAt l i)))))
                        (branch
                          (AV.bool
                            (o.wrE (hdI (List.drop 1 (V.rowAt l i)))
                                (rwA (List.drop 3 (V.rowAt l i))).length ==
                              (0 : Int)))
                          (branch (AV.bool (decide (n < kp)))
                            (branch (AV.bool (inR l i))
                              (branch (AV.bool ((LD.one (LT.int IntKind.i64)).is (List.drop 1 (V.rowAt l i))))
                                (branch (AV.bool (inR l i))
                                  (branch (AV.bool ((LD.one (LT.ns 1)).is (List.drop 3 (V.rowAt l i))))
                                    (onSome (dkG 4 e f g h) none fun (o_1 : Dk) =>
                                      branch (AV.bool (byOk (rwA (List.drop 3 (V.rowAt l i)))))
                                        (loopRun (f7_l0.run F)
                                          [0, 1, 5, 7, 9, 10] K m
                                          (Env.mk 93
                                            [(0, AV.ns z 4 l), (1, AV.int IntKind.i64 kp),
                                              (5, AV.ptr 2 0),
                                              (7, AV.ptr 6 0),
                                              (9, AV.int IntKind.i64 (IntKind.i64.wrap (n + (1 : Int)))),
                                              (10, AV.int IntKind.i64 (IntKind.i64.wrap (i + (1 : Int))))])
                                          (St.mk
                                            [dk0
                                                (o.wrX (hdI (List.drop 1 (V.rowAt l i)))
                                                  (nR (rwA (List.drop 3 (V.rowAt l i))))),
                                              dk1
                                                (o.wrX (hdI (List.drop 1 (V.rowAt l i)))
                                                  (nR (rwA (List.drop 3 (V.rowAt l i))))),
                                              dk2 0
                                                (o.wrX (hdI (List.drop 1 (V.rowAt l i)))
                                                  (nR (rwA (List.drop 3 (V.rowAt l i))))),
                                              dk3
                                                (o.wrX (hdI (List.drop 1 (V.rowAt l i)))
                                                  (nR (rwA (List.drop 3 (V.rowAt l i))))),
                                              dk0
                                                (o_1.wrX (hdI (List.drop 1 (V.rowAt l i)))
                                                  (nR (rwA (List.drop 3 (V.rowAt l i))))),
                                              dk1
                                                (o_1.wrX (hdI (List.drop 1 (V.rowAt l i)))
                                                  (nR (rwA (List.drop 3 (V.rowAt l i))))),
                                              dk2 4
                                                (o_1.wrX (hdI (List.drop 1 (V.rowAt l i)))
                                                  (nR (rwA (List.drop 3 (V.rowAt l i))))),
                                              dk3
                                                (o_1.wrX (hdI (List.drop 1 (V.rowAt l i)))
                                                  (nR (rwA (List.drop 3 (V.rowAt l i)))))]
                                            []))
                                        none)
                                    none)
                                  none)
                                none)
                              none)
                            (loopRun (f7_l0.run F) [0, 1, 5, 7, 9, 10] K m
                              (Env.mk 93
                                [(0, AV.ns z 4 l), (1, AV.int IntKind.i64 kp),
                                  (5, AV.ptr 2 0), (7, AV.ptr 6 0),
                                  (9, AV.int IntKind.i64 (IntKind.i64.wrap (n + (1 : Int)))),
                                  (10, AV.int IntKind.i64 (IntKind.i64.wrap (i + (1 : Int))))])
                              (St.mk
                                [dk0
                                    (o.wrX (hdI (List.drop 1 (V.rowAt l i)))
                                      (nR (rwA (List.drop 3 (V.rowAt l i))))),
                                  dk1
                                    (o.wrX (hdI (List.drop 1 (V.rowAt l i)))
                                      (nR (rwA (List.drop 3 (V.rowAt l i))))),
                                  dk2 0
                                    (o.wrX (hdI (List.drop 1 (V.rowAt l i)))
                                      (nR (rwA (List.drop 3 (V.rowAt l i))))),
                                  dk3
                                    (o.wrX (hdI (List.drop 1 (V.rowAt l i)))
                                      (nR (rwA (List.drop 3 (V.rowAt l i))))),
                                  e, f, g, h]
                                [])))
                          (loopRun (f7_l0.run F) [0, 1, 5, 7, 9, 10] K m
                            (Env.mk 93
                              [(0, AV.ns z 4 l), (1, AV.int IntKind.i64 kp),
                                (5, AV.ptr 2 0), (7, AV.ptr 6 0),
                                (9, AV.int IntKind.i64 n),
                                (10, AV.int IntKind.i64 (IntKind.i64.wrap (i + (1 : Int))))])
                            (St.mk
                              [dk0
                                  (o.wrX (hdI (List.drop 1 (V.rowAt l i)))
                                    (nR (rwA (List.drop 3 (V.rowAt l i))))),
                                dk1
                                  (o.wrX (hdI (List.drop 1 (V.rowAt l i)))
                                    (nR (rwA (List.drop 3 (V.rowAt l i))))),
                                dk2 0
                                  (o.wrX (hdI (List.drop 1 (V.rowAt l i)))
                                    (nR (rwA (List.drop 3 (V.rowAt l i))))),
                                dk3
                                  (o.wrX (hdI (List.drop 1 (V.rowAt l i)))
                                    (nR (rwA (List.drop 3 (V.rowAt l i))))),
                                e, f, g, h]
                              [])))
                        none)
                    none)
                  none)
                none)
              none))
          none)
        none)
      (K (AX.exit 0)
        (Env.mk 93
          [(1, AV.int IntKind.i64 kp), (5, AV.ptr 2 0),
            (7, AV.ptr 6 0)])
        (St.mk [a, b, c, d, e, f, g, h] [])) := by kernel_rfl

theorem prefix_out (F : Nat) (kp : Int) (a b c d e f g h : Ob) :
    ((Cont.block 0 (Cont.then (f7_r0.run F (f7.leaveK Fun.done)) (f7.leaveK Fun.done))) (.exit 0) (Env.mk 93 [(1, .int .i64 kp), (5, .ptr 2 0), (7, .ptr 6 0)]) ⟨[a, b, c, d, e, f, g, h], []⟩ : Ans) =
    onSome (dkG 0 a b c d) none fun (o : Dk) =>
      onSome (dkG 4 e f g h) none fun (o_1 : Dk) =>
        onSome
          (dkG 0 (dk0 (o.crash kp (0 : Int))) (dk1 (o.crash kp (0 : Int))) (dk2 (nat_lit 0) (o.crash kp (0 : Int)))
            (dk3 (o.crash kp (0 : Int))))
          none fun (o_2 : Dk) =>
          onSome (dkG 4 (dk0 o_1.flush) (dk1 o_1.flush) (dk2 (nat_lit 4) o_1.flush) (dk3 o_1.flush)) none
            fun (o_3 : Dk) =>
            branch (AV.bool (byOk (bR o_2.ls) && byOk (bR o_3.ls)))
              (some
                (Fin.ret (AV.bool (nR (bR o_2.ls) == nR (bR o_3.ls))),
                  St.mk
                    [dk0 (o.crash kp (0 : Int)), dk1 (o.crash kp (0 : Int)), dk2 0 (o.crash kp (0 : Int)),
                      dk3 (o.crash kp (0 : Int)), dk0 o_1.flush, dk1 o_1.flush, dk2 4 o_1.flush, dk3 o_1.flush]
                    []))
              none := by kernel_rfl

end Go.Proofs.Ytclghabbhpaafaa.V

/- Disk: DiskReads. -/
set_option linter.unusedVariables false
namespace Go.Proofs.Ytclghabbhpaafaa.V
open Go Go.V Go.RowKit

theorem sector_put (X : Dk) (j k : Nat) (b : List Nat) : (X.put j b).sector k = if j = k then b else X.sector k := by
  show (lastW (X.ws ++ [(j, b)]) k).getD ((X.ls.drop (k * 64)).take 64) = _
  rw [lastW_append]
  split
  · rfl
  · rfl
theorem sector_flushed {X : Dk} (h : X.Ok) (k : Nat) : X.flush.sector k = X.sector k := by
  rw [sector_flush h]; rfl
/-- What the disk has is what the map says. -/
structure HasOk (X : Dk) (es : List (AV × AV)) : Prop where
  keys : keysOk (.int .i64) es = true
  at_ : ∀ k : Nat, k < 6 → (findK es (.int .i64 (k : Int)) = none ∧ X.sector k = List.replicate 64 0) ∨ (∃ z d, findK es (.int .i64 (k : Int)) = some (.ns z 1 d) ∧ byOk d = true ∧ X.sector k = nR d)
noncomputable abbrev readsK (F : Nat) : Cont := Cont.block 0 (Cont.then (f4_r1.run F (f4.leaveK Fun.done)) (f4.leaveK Fun.done))
noncomputable abbrev readsK2 (F : Nat) : Cont := Cont.block 2 (Cont.then (f4_r0.run F (f4.leaveK Fun.done)) (f4.leaveK Fun.done))
theorem reads_loop (F : Nat) (z : Bool) (l : List (List AV)) (hc : Calls' l) (h200 : l.length ≤ 200) : ∀ (k m i : Nat) (X : Dk) (es : List (AV × AV)), i + k = l.length → k < m → X.Ok → X.n = 6 → X.ws.length ≤ i → HasOk X es → ∃ (Y : Dk) (es' : List (AV × AV)), Y.Ok ∧ Y.n = 6 ∧ Y.ws.length ≤ 200 ∧ HasOk Y es' ∧
    loopRun (f4_l0.run F) [0, 3, 5, 6] (readsK F) m (Env.mk 87 [(0, .ns z 4 l), (3, .ptr 2 0), (5, .mp 4), (6, .int .i64 (i : Int))]) ⟨[dk0 X, dk1 X, dk2 0 X, dk3 X, .map es], []⟩ = readsK F (.exit 0) (Env.mk 87 [(3, .ptr 2 0), (5, .mp 4)]) ⟨[dk0 Y, dk1 Y, dk2 0 Y, dk3 Y, .map es'], []⟩
  | k, 0, i, X, es, hi, hm, hX, hn, hw, hh => by omega
  | 0, m + 1, i, X, es, hi, hm, hX, hn, hw, hh => ⟨X, es, hX, hn, by omega, hh, by rw [show m + 1 = m.succ from rfl, reads_round, branch_not (by simp; omega)]⟩
  | k + 1, m + 1, i, X, es, hi, hm, hX, hn, hw, hh => by
    have h1 : i < l.length := by omega
    have ih := reads_loop F z l hc h200 k m (i + 1)
    obtain ⟨w, s, t, y, d, hr, hd, hdl⟩ := hc l[i] (List.getElem_mem h1)
    have hby : byOk d = true := byOk_iff.mpr ⟨hd, hdl⟩
    rw [show m + 1 = m.succ from rfl, reads_round, rowAt_nat h1, hr, branch_of (by simp; omega), branch_of (inR_nat h1), branch_of (show (LD.agg [LT.int IntKind.i64, LT.int IntKind.i64, LT.int IntKind.i64, LT.ns 1]).is [.int .i64 w, .int .i64 s, .int .i64 t, .ns y 1 d] = true from rfl), wrap_succ (by omega)]
    simp only [List.tail_cons, List.drop_succ_cons, List.drop_zero, valLTs, valLT, hdI, rwA, nilA]
    by_cases hw1 : w = 1
    · subst hw1
      have hok := hX.wrX (k := s) (b := nR d) fun x hx => okR_lt hd hx
      have hl := wr_len (X := X) (k := s) (b := nR d)
      rw [branch_of (by rfl), gD' hX (by omega), onSome_some, branch_of hby]
      have hn' : (X.wrX s (nR d)).n = 6 := by unfold Dk.wrX; split <;> exact hn
      by_cases he : X.wrE s d.length = 0
      · have hcond : (0 ≤ s ∧ s < X.n) ∧ d.length = 64 := by
          unfold Dk.wrE at he
          split at he
          · split at he
            · exact ⟨by assumption, by assumption⟩
            · cases he
          · cases he
        obtain ⟨⟨s0, s1⟩, s2⟩ := hcond
        obtain ⟨j, rfl⟩ := Int.eq_ofNat_of_zero_le s0
        have hx : X.wrX (j : Int) (nR d) = X.put j (nR d) := by rw [Dk.wrX, if_pos ⟨s0, s1, by rw [nR_length]; exact s2⟩, Int.toNat_natCast]
        rw [branch_of (by rw [he]; rfl), branch_of (show (true && keysOk (.int .i64) es) = true by rw [hh.keys]; rfl), branch_not (by rfl)]
        refine ih _ _ (by omega) (by omega) hok hn' (by omega) ⟨keys_put _ hh.keys, fun q hq => ?_⟩
        rw [find_put _ hh.keys, hx, sector_put]
        by_cases hjq : j = q
        · subst hjq
          rw [if_pos rfl, if_pos rfl]
          exact .inr ⟨y, d, rfl, hby, rfl⟩
        · rw [if_neg (by omega), if_neg hjq]
          exact hh.at_ q hq
      · have hx : X.wrX s (nR d) = X := by
          unfold Dk.wrX
          rw [if_neg]
          intro hc
          apply he
          unfold Dk.wrE
          rw [if_pos ⟨hc.1, hc.2.1⟩, if_pos (by rw [← nR_length]; exact hc.2.2)]
        rw [branch_not (by simpa using he), branch_not (by rfl)]
        rw [hx]
        exact ih X es (by omega) (by omega) hX hn (by omega) hh
    · rw [branch_not (by simpa using hw1)]
      by_cases hw2 : w = 2
      · subst hw2
        rw [branch_of (by rfl), gD' hX (by omega), onSome_some]
        have hf : X.flush.Ok := hX.settle _ _
        refine ih X.flush es (by omega) (by omega) hf hn (by show 0 ≤ i + 1; omega) ⟨hh.keys, fun q hq => ?_⟩
        rw [sector_flushed hX]
        exact hh.at_ q hq
      · rw [branch_not (by simpa using hw2)]
        exact ih X es (by omega) (by omega) hX hn (by omega) hh
theorem rd_sector {X : Dk} (h : X.Ok) {i : Nat} (hi : i < X.n) : X.rdE (i : Int) = 0 ∧ X.rdB (i : Int) = X.sector i := by
  have e : X.inD (i : Int) = true := by rw [Dk.inD, decide_eq_true_eq]; omega
  rw [Dk.rdE, Dk.rdB, e]; exact ⟨rfl, rfl⟩
theorem reads_loop2 (F : Nat) (X : Dk) (h : X.Ok) (hn : X.n = 6) (hw : X.ws.length ≤ 200) (es : List (AV × AV)) (hh : HasOk X es) : ∀ (k m i : Nat), i + k = 6 → k < m →
    loopRun (f4_l1.run F) [3, 5, 8] (readsK2 F) m (Env.mk 87 [(3, .ptr 2 0), (5, .mp 4), (8, .int .i64 (i : Int))]) ⟨[dk0 X, dk1 X, dk2 0 X, dk3 X, .map es], []⟩ = some (.ret (.bool true), ⟨[dk0 X, dk1 X, dk2 0 X, dk3 X, .map es], []⟩)
  | k, 0, i, hi, hm => by omega
  | 0, m + 1, i, hi, hm => by
    obtain rfl : i = 6 := by omega
    rw [show m + 1 = m.succ from rfl, reads_round2, branch_not (by simp), readsK2, reads_out2]
  | k + 1, m + 1, i, hi, hm => by
    have ih := reads_loop2 F X h hn hw es hh k m (i + 1) (by omega) (by omega)
    obtain ⟨r1, r2⟩ := rd_sector h (i := i) (by omega)
    obtain ⟨s1, s2⟩ := h.sector_len (k := i) (by omega)
    have hb : byOk (bR (X.sector i)) = true := byOk_bR s2 (by omega)
    rw [show m + 1 = m.succ from rfl, reads_round2, branch_of (by simp; omega), gD' h (by omega), onSome_some, branch_of (show (true && keysOk (.int .i64) es) = true by rw [hh.keys]; rfl), r1, r2, wrap_succ (by omega)]
    rcases hh.at_ i (by omega) with ⟨a1, a2⟩ | ⟨y, d, a1, a2, a3⟩
    · have m1 : hasK es (.int .i64 (i : Int)) = false := by rw [hasK, a1]; rfl
      have zb : ∀ {c : Bool}, c = byOk (bR (List.replicate 64 0)) → c = true := by
        rintro c rfl; exact byOk_bR (fun x hx => by rw [List.eq_of_mem_replicate hx]; omega) (by simp)
      rw [branch_not m1, branch_not (by rfl), branch_of (by rw [hb, Bool.true_and]; exact zb rfl), branch_not (by rw [nR_bR, a2]; rfl)]
      exact ih
    · have m1 : hasK es (.int .i64 (i : Int)) = true := by rw [hasK, a1]; rfl
      have m2 : valK es (.int .i64 (i : Int)) = .ns y 1 d := by rw [valK, a1]; rfl
      rw [branch_of m1, m2, branch_of (show (LK.sl 1).is (.ns y 1 d) = true from rfl), branch_not (by rfl)]
      rw [show rwA [AV.ns y 1 d] = d from rfl, branch_of (by rw [hb, a2]; rfl), nR_bR, a3, branch_not (by simp)]
      exact ih
theorem reads_true (z : Bool) (l : List (List AV)) (hc : Calls' l) (hl : l.length < 4611686018427387904) : ∃ F st, f4.run F [.ns z 4 l] ⟨[], []⟩ = some (.ret (.bool true), st) := by
  refine ⟨1000, ?_⟩
  rw [reads_run, branch_of (hc.ok hl)]
  cases hg : greatB l with
  | true => exact ⟨_, rfl⟩
  | false =>
    have h200 := great_len hg
    have k0 : (Dk.new 6 []).Ok := new_ok (by decide) (by simp)
    have hh0 : HasOk (Dk.new 6 []) [] := ⟨rfl, fun k hk => .inl ⟨rfl, by
      show (((imgAt 6 [] 6).drop (k * 64)).take 64) = _
      rw [imgAt, List.take_nil, List.nil_append, List.drop_replicate, List.take_replicate]
      congr 1
      simp; omega⟩⟩
    obtain ⟨X, es, hX, hn, hw, hh, e1⟩ := reads_loop 1000 z l hc h200 l.length 1000 0 (Dk.new 6 []) [] (by omega) (by omega) k0 rfl (by show 0 ≤ 0; omega) hh0
    refine ⟨⟨[dk0 X, dk1 X, dk2 0 X, dk3 X, .map es], []⟩, ?_⟩
    rw [branch_false, branch_of (show (byOk [] && true) = true by rw [show byOk [] = true by rw [byOk_iff]; exact ⟨rfl, by decide⟩]; rfl)]
    refine Eq.trans e1 ?_
    rw [readsK, reads_out]
    exact reads_loop2 1000 X hX hn hw es hh 6 1000 0 (by decide) (by decide)
theorem reads_law (as0 : List AV) (s0 : Ty.Shape tyCalls as0) : ∃ F st, f4.run F [tyCalls.AV' as0] ⟨[], []⟩ = some (.ret (.bool true), st) := by
  obtain ⟨z, l, rfl, h1, h2⟩ := calls_shape s0
  exact reads_true z l h1 h2
end Go.Proofs.Ytclghabbhpaafaa.V

/- Disk: DiskPrefix. -/
set_option linter.unusedVariables false
namespace Go.Proofs.Ytclghabbhpaafaa.V
open Go Go.V Go.RowKit

noncomputable abbrev prefixK (F : Nat) : Cont := Cont.block 0 (Cont.then (f7_r0.run F (f7.leaveK Fun.done)) (f7.leaveK Fun.done))
structure Two (kp : Int) (A B : Dk) : Prop where
  a : A.Ok
  b : B.Ok
  an : A.n = 6
  bn : B.n = 6
  ls : B.ls = A.ls
  ws : B.ws = A.ws.take kp.toNat
theorem Two.none {kp : Int} {A B : Dk} (h : Two kp A B) (k : Int) (d : List (List AV)) (hd : A.wrE k d.length ≠ 0) : A.wrX k (nR d) = A := by
  unfold Dk.wrX
  rw [if_neg]
  intro hc
  apply hd
  unfold Dk.wrE
  rw [if_pos ⟨hc.1, hc.2.1⟩, if_pos (by rw [← nR_length]; exact hc.2.2)]
theorem wrE_zero {A : Dk} {k : Int} {d : List (List AV)} (he : A.wrE k d.length = 0) : 0 ≤ k ∧ k < A.n ∧ (nR d).length = 64 := by
  unfold Dk.wrE at he
  split at he
  · split at he
    · rename_i h1 h2; exact ⟨h1.1, h1.2, by rw [nR_length]; exact h2⟩
    · cases he
  · cases he
theorem prefix_loop (F : Nat) (z : Bool) (l : List (List AV)) (kp : Int) (hc : Calls' l) (h200 : l.length ≤ 200) (hkp : 0 ≤ kp) : ∀ (k m i : Nat) (A B : Dk), i + k = l.length → k < m → Two kp A B → A.ws.length ≤ i → ∃ A' B' : Dk, Two kp A' B' ∧ A'.ws.length ≤ 200 ∧
    loopRun (f7_l0.run F) [0, 1, 5, 7, 9, 10] (prefixK F) m (Env.mk 93 [(0, .ns z 4 l), (1, .int .i64 kp), (5, .ptr 2 0), (7, .ptr 6 0), (9, .int .i64 (A.ws.length : Int)), (10, .int .i64 (i : Int))]) ⟨[dk0 A, dk1 A, dk2 0 A, dk3 A, dk0 B, dk1 B, dk2 4 B, dk3 B], []⟩ = prefixK F (.exit 0) (Env.mk 93 [(1, .int .i64 kp), (5, .ptr 2 0), (7, .ptr 6 0)]) ⟨[dk0 A', dk1 A', dk2 0 A', dk3 A', dk0 B', dk1 B', dk2 4 B', dk3 B'], []⟩
  | k, 0, i, A, B, hi, hm, hX, hw => by omega
  | 0, m + 1, i, A, B, hi, hm, hX, hw => ⟨A, B, hX, by omega, by rw [show m + 1 = m.succ from rfl, prefix_round, branch_not (by simp; omega)]⟩
  | k + 1, m + 1, i, A, B, hi, hm, hX, hw => by
    have h1 : i < l.length := by omega
    have ih := prefix_loop F z l kp hc h200 hkp k m (i + 1)
    obtain ⟨w, s, t, y, d, hr, hd, hdl⟩ := hc l[i] (List.getElem_mem h1)
    have hby : byOk d = true := byOk_iff.mpr ⟨hd, hdl⟩
    have hin := inR_nat h1
    have hbl : B.ws.length ≤ A.ws.length := by rw [hX.ws, List.length_take]; omega
    rw [show m + 1 = m.succ from rfl, prefix_round, rowAt_nat h1, hr, branch_of (by simp; omega), branch_of hin, branch_of (by rfl), wrap_succ (by omega), wrap_succ (by omega)]
    simp only [List.drop_succ_cons, List.drop_zero, hdI, rwA]
    by_cases hw1 : w = 1
    · subst hw1
      rw [branch_not (by rfl), branch_of hin, branch_of (by rfl), branch_of hin, branch_of (by rfl), gD' hX.a (by omega), onSome_some, branch_of hby]
      by_cases he : A.wrE s d.length = 0
      · obtain ⟨s0, s1, s2⟩ := wrE_zero he
        obtain ⟨j, rfl⟩ := Int.eq_ofNat_of_zero_le s0
        have hxa : A.wrX (j : Int) (nR d) = A.put j (nR d) := by rw [Dk.wrX, if_pos ⟨s0, s1, s2⟩, Int.toNat_natCast]
        have hxb : B.wrX (j : Int) (nR d) = B.put j (nR d) := by rw [Dk.wrX, if_pos ⟨s0, by rw [hX.bn, ← hX.an]; exact s1, s2⟩, Int.toNat_natCast]
        have oka : (A.put j (nR d)).Ok := by rw [← hxa]; exact hX.a.wrX fun x hx => okR_lt hd hx
        have okb : (B.put j (nR d)).Ok := by rw [← hxb]; exact hX.b.wrX fun x hx => okR_lt hd hx
        have hlen : ((A.ws.length : Nat) : Int) + 1 = ((A.put j (nR d)).ws.length : Int) := by simp [Dk.put]
        have hlen' : ((A.ws.length + 1 : Nat) : Int) = ((A.put j (nR d)).ws.length : Int) := by simp [Dk.put]
        rw [branch_of (by rw [he]; rfl), hxa, hlen']
        by_cases hn : (A.ws.length : Int) < kp
        · rw [branch_of (by simpa using hn), branch_of hin, branch_of (by rfl), branch_of hin, branch_of (by rfl), gD' hX.b (by omega), onSome_some, branch_of hby, hxb]
          refine ih _ _ (by omega) (by omega) ⟨oka, okb, hX.an, hX.bn, hX.ls, ?_⟩ (by show (A.ws ++ [_]).length ≤ _; simp; omega)
          show B.ws ++ [(j, nR d)] = (A.ws ++ [(j, nR d)]).take kp.toNat
          rw [List.take_of_length_le (by simp; omega), hX.ws, List.take_of_length_le (by omega)]
        · rw [branch_not (by simpa using hn)]
          refine ih _ _ (by omega) (by omega) ⟨oka, hX.b, hX.an, hX.bn, hX.ls, ?_⟩ (by show (A.ws ++ [_]).length ≤ _; simp; omega)
          show B.ws = (A.ws ++ [(j, nR d)]).take kp.toNat
          rw [hX.ws, List.take_append_of_le_length (by omega)]
      · rw [branch_not (by simpa using he), hX.none s d he]
        exact ih A B (by omega) (by omega) hX (by omega)
    · rw [branch_of (by simpa using hw1)]
      exact ih A B (by omega) (by omega) hX (by omega)
theorem tornL_zero (l : List Nat) (w : Option (Nat × List Nat)) (h : ∀ x, w = some x → x.1 * 64 ≤ l.length) : tornL l w 0 = l := by
  cases w with
  | none => rfl
  | some x =>
    show putN l (x.1 * 64) (x.2.take 0) = l
    rw [List.take_zero, putN]; simp
theorem prefix_same {kp : Int} {A B : Dk} (h : Two kp A B) (hkp : 0 ≤ kp) : (A.crash kp 0).ls = B.flush.ls := by
  rw [flush_ls, h.ls, h.ws]
  show tornL (appW A.ls (A.ws.take (clip kp A.ws.length).toNat)) A.ws[(clip kp A.ws.length).toNat]? (clip 0 64).toNat = _
  have e : (clip kp A.ws.length).toNat = min kp.toNat A.ws.length := by
    rw [clip_eq kp _ (by omega)]; split
    · omega
    · split <;> omega
  have e0 : (clip 0 64).toNat = 0 := by decide
  rw [e, e0, tornL_zero]
  · congr 1
    rw [List.take_eq_take_iff]; omega
  · intro x hx
    have hm := List.mem_of_getElem? hx
    have h1 := (h.a.ws x hm).1
    have h2 := (appW_ok h.a.len h.a.byte (ws := A.ws.take (min kp.toNat A.ws.length)) fun w hw => h.a.ws w (List.mem_of_mem_take hw)).1
    omega
theorem prefix_true (z : Bool) (l : List (List AV)) (kp : Int) (hc : Calls' l) (hl : l.length < 4611686018427387904) : ∃ F st, f7.run F [.ns z 4 l, .int .i64 kp] ⟨[], []⟩ = some (.ret (.bool true), st) := by
  refine ⟨1000, ?_⟩
  rw [prefix_run, branch_of (hc.ok hl)]
  cases hg : greatB l with
  | true => exact ⟨_, rfl⟩
  | false =>
    have h200 := great_len hg
    rw [branch_false]
    by_cases hkp : kp < 0
    · rw [branch_of (by simpa using hkp)]; exact ⟨_, rfl⟩
    have k0 : (Dk.new 6 []).Ok := new_ok (by decide) (by simp)
    have z0 : (byOk [] && true) = true := by rw [show byOk [] = true by rw [byOk_iff]; exact ⟨rfl, by decide⟩]; rfl
    obtain ⟨A, B, hX, hw, e1⟩ := prefix_loop 1000 z l kp hc h200 (by omega) l.length 1000 0 (Dk.new 6 []) (Dk.new 6 []) (by omega) (by omega) ⟨k0, k0, rfl, rfl, rfl, (List.take_nil (i := kp.toNat)).symm⟩ (by show 0 ≤ 0; omega)
    have hbl : B.ws.length ≤ A.ws.length := by rw [hX.ws, List.length_take]; omega
    have ha : (A.crash kp 0).Ok := hX.a.settle _ _
    have hb : B.flush.Ok := hX.b.settle _ _
    have hs := prefix_same hX (by omega)
    have hla : (A.crash kp 0).ls.length ≤ 65536 * 64 := by rw [ha.len]; have := ha.n1; omega
    have z1 : (0 : Nat) < 999999 := by decide
    refine ⟨⟨[dk0 (A.crash kp 0), dk1 (A.crash kp 0), dk2 0 (A.crash kp 0), dk3 (A.crash kp 0), dk0 B.flush, dk1 B.flush, dk2 4 B.flush, dk3 B.flush], []⟩, ?_⟩
    rw [branch_not (by simpa using hkp), branch_of z0, branch_of z0]
    refine Eq.trans e1 ?_
    rw [prefixK, prefix_out, gD' hX.a (by omega), onSome_some, gD' hX.b (by omega), onSome_some, gD ha (by rw [crash_ws]; exact z1), onSome_some, show dkG 4 (dk0 B.flush) (dk1 B.flush) (dk2 (nat_lit 4) B.flush) (dk3 B.flush) = some B.flush from gD' hb (by rw [flush_ws]; exact z1) 4, onSome_some, ← hs, branch_of (by rw [byOk_bR ha.byte (by omega)]; rfl)]
    simp
theorem prefix_law (as0 as1 : List AV) (s0 : Ty.Shape tyCalls as0) (s1 : Ty.Shape (.int .i64) as1) : ∃ F st, f7.run F [tyCalls.AV' as0, (Ty.int .i64).AV' as1] ⟨[], []⟩ = some (.ret (.bool true), st) := by
  obtain ⟨z, l, rfl, h1, h2⟩ := calls_shape s0
  obtain ⟨k, rfl, _⟩ := s1
  exact prefix_true z l k h1 h2
end Go.Proofs.Ytclghabbhpaafaa.V

/- Data kept in objects that lie together: told by the objects, wherever these lie. -/
set_option linter.unusedVariables false
set_option linter.unusedSimpArgs false
namespace Go.V
section
variable {P : Program}

mutual
theorem ren_ren (σ ρ τ : Nat → Nat) (h : ∀ k, σ (ρ k) = τ k) : ∀ a : AV, ren σ (ren ρ a) = ren τ a
  | .bool _ => rfl
  | .int _ _ => rfl
  | .str _ => rfl
  | .nilptr => rfl
  | .nilsl => rfl
  | .nilmap => rfl
  | .nilfn => rfl
  | .nilif => rfl
  | .ptr k off => by simp only [ren, h]
  | .eptr cs => rfl
  | .sl _ _ _ => rfl
  | .lg _ _ _ => rfl
  | .ms k sz off n cap => by simp only [ren, h]
  | .mp k => by simp only [ren, h]
  | .fn f a c => by simp only [ren, renL_renL σ ρ τ h a, renL_renL σ ρ τ h c]
  | .ifc t v => by simp only [ren, ren_ren σ ρ τ h v]
  | .agg cs => by simp only [ren, renL_renL σ ρ τ h cs]
  | .tup cs => by simp only [ren, renL_renL σ ρ τ h cs]
  | .dead => rfl
  | .ns _ _ _ => rfl
  | .vs k v sz n => by simp only [ren, h]
  | .vp k v off => by simp only [ren, h]
theorem renL_renL (σ ρ τ : Nat → Nat) (h : ∀ k, σ (ρ k) = τ k) : ∀ l : List AV, renL σ (renL ρ l) = renL τ l
  | [] => rfl
  | x :: l => by simp only [renL, ren_ren σ ρ τ h x, renL_renL σ ρ τ h l]
end
mutual
theorem ren_id : ∀ a : AV, ren (fun k => k) a = a
  | .bool _ => rfl
  | .int _ _ => rfl
  | .str _ => rfl
  | .nilptr => rfl
  | .nilsl => rfl
  | .nilmap => rfl
  | .nilfn => rfl
  | .nilif => rfl
  | .ptr k off => rfl
  | .eptr cs => rfl
  | .sl _ _ _ => rfl
  | .lg _ _ _ => rfl
  | .ms k sz off n cap => rfl
  | .mp k => rfl
  | .fn f a c => by simp only [ren, renL_id a, renL_id c]
  | .ifc t v => by simp only [ren, ren_id v]
  | .agg cs => by simp only [ren, renL_id cs]
  | .tup cs => by simp only [ren, renL_id cs]
  | .dead => rfl
  | .ns _ _ _ => rfl
  | .vs k v sz n => rfl
  | .vp k v off => rfl
theorem renL_id : ∀ l : List AV, renL (fun k => k) l = l
  | [] => rfl
  | x :: l => by simp only [renL, ren_id x, renL_id l]
end
theorem renO_renO (σ ρ τ : Nat → Nat) (h : ∀ k, σ (ρ k) = τ k) (o : Ob) : renO σ (renO ρ o) = renO τ o := by
  cases o with
  | cells cs => simp only [renO, renL_renL σ ρ τ h]
  | map es => simp only [renO, List.map_map, Function.comp_def, ren_ren σ ρ τ h]
  | vec v cs => simp only [renO, renL_renL σ ρ τ h]
  | gone => rfl
  | nov v => rfl
theorem renO_id (o : Ob) : renO (fun k => k) o = o := by
  cases o with
  | cells cs => simp only [renO, renL_id]
  | map es => simp only [renO, ren_id]; simp
  | vec v cs => simp only [renO, renL_id]
  | gone => rfl
  | nov v => rfl
mutual
theorem ren_near {n : Nat} {ρ τ : Nat → Nat} (h : ∀ k, k < n → ρ k = τ k) : ∀ a : AV, Near n a → ren ρ a = ren τ a
  | .bool _, _ => rfl
  | .int _ _, _ => rfl
  | .str _, _ => rfl
  | .nilptr, _ => rfl
  | .nilsl, _ => rfl
  | .nilmap, _ => rfl
  | .nilfn, _ => rfl
  | .nilif, _ => rfl
  | .ptr k off, s => by simp only [ren, h k s]
  | .eptr cs, _ => rfl
  | .sl _ _ _, _ => rfl
  | .lg _ _ _, _ => rfl
  | .ms k sz off n cap, s => by simp only [ren, h k s]
  | .mp k, s => by simp only [ren, h k s]
  | .fn f a c, s => by simp only [ren, renL_near h a s.1, renL_near h c s.2]
  | .ifc t v, s => by simp only [ren, ren_near h v s]
  | .agg cs, s => by simp only [ren, renL_near h cs s]
  | .tup cs, s => by simp only [ren, renL_near h cs s]
  | .dead, _ => rfl
  | .ns _ _ _, _ => rfl
  | .vs k v sz n, s => by simp only [ren, h k s]
  | .vp k v off, s => by simp only [ren, h k s]
theorem renL_near {n : Nat} {ρ τ : Nat → Nat} (h : ∀ k, k < n → ρ k = τ k) : ∀ l : List AV, NearL n l → renL ρ l = renL τ l
  | [], _ => rfl
  | x :: l, s => by simp only [renL, ren_near h x s.1, renL_near h l s.2]
end
theorem renO_near {n : Nat} {ρ τ : Nat → Nat} (h : ∀ k, k < n → ρ k = τ k) (o : Ob) (s : NearO n o) : renO ρ o = renO τ o := by
  cases o with
  | cells cs => simp only [renO, renL_near h cs s]
  | map es =>
    simp only [renO]
    congr 1
    have : ∀ es : List (AV × AV), NearL n (es.map (·.1)) → NearL n (es.map (·.2)) → es.map (fun e => (ren ρ e.1, ren ρ e.2)) = es.map (fun e => (ren τ e.1, ren τ e.2)) := by
      intro es
      induction es with
      | nil => intro _ _; rfl
      | cons e es ih => intro s1 s2; simp only [List.map_cons, ren_near h _ s1.1, ren_near h _ s2.1, ih s1.2 s2.2]
    exact this es s.1 s.2
  | vec v cs => simp only [renO, renL_near h cs s]
  | gone => rfl
  | nov v => rfl

/-- Data kept in m objects; p: the object to which its pointer leads. -/
structure ADT (X : Type) where
  m : Nat
  p : Nat
  hp : p < m
  obs : X → List Ob
  Ok : X → Prop
  len : ∀ x, (obs x).length = m
  near : ∀ x, Ok x → ∀ o ∈ obs x, NearO m o
  inj : ∀ x y, Ok x → Ok y → obs x = obs y → x = y
variable {X : Type}
def sh (i j : Nat) : Nat := i + j
def invS (m i k : Nat) : Option Nat := if i ≤ k ∧ k < i + m then some (k - i) else none
theorem inv_sh (m i : Nat) : Inv (sh i) m (invS m i) := by
  refine ⟨fun j hj => ?_, fun k j h => ?_⟩
  · show (if i ≤ i + j ∧ i + j < i + m then some (i + j - i) else none) = some j
    rw [if_pos (by omega), Nat.add_sub_cancel_left]
  · simp only [invS] at h
    split at h
    · cases h; exact ⟨by omega, by show i + (k - i) = k; omega⟩
    · cases h
def ADT.at_ (A : ADT X) (i : Nat) (x : X) : List Ob := (A.obs x).map (renO (sh i))
theorem ADT.at_len (A : ADT X) (i : Nat) (x : X) : (A.at_ i x).length = A.m := by rw [ADT.at_, List.length_map, A.len]
theorem ADT.at_inj (A : ADT X) {i : Nat} {x y : X} (hx : A.Ok x) (hy : A.Ok y) (h : A.at_ i x = A.at_ i y) : x = y := by
  refine A.inj x y hx hy ?_
  have h2 := congrArg (List.map (renO fun k => k - i)) h
  rw [ADT.at_, ADT.at_, List.map_map, List.map_map] at h2
  have e : (renO (fun k => k - i)) ∘ (renO (sh i)) = id := by
    funext o
    rw [Function.comp_apply, renO_renO _ _ (fun k => k) (fun k => by show i + k - i = k; omega), renO_id]; rfl
  rw [e, List.map_id, List.map_id] at h2
  exact h2
def ADT.is (A : ADT X) (i : Nat) (l : List Ob) (x : X) : Prop := A.Ok x ∧ A.at_ i x = l
open Classical in
noncomputable def ADT.G (A : ADT X) (i : Nat) (l : List Ob) : Option X := opq (if h : ∃ x, A.is i l x then some (Classical.choose h) else none)
theorem ADT.G_spec {A : ADT X} {i : Nat} {l : List Ob} {x : X} (h : A.G i l = some x) : A.is i l x := by
  rw [ADT.G, opq_eq] at h
  split at h
  · rename_i hx; cases h; exact Classical.choose_spec hx
  · cases h
theorem ADT.G_of {A : ADT X} {i : Nat} {l : List Ob} {x : X} (h : A.is i l x) : A.G i l = some x := by
  have hx : ∃ x, A.is i l x := ⟨x, h⟩
  rw [ADT.G, opq_eq, dif_pos hx]
  have h1 := Classical.choose_spec hx
  rw [A.at_inj h1.1 h.1 (h1.2.trans h.2.symm)]
noncomputable def ADT.ob (A : ADT X) (i : Nat) (x : X) (j : Nat) : Ob := opq ((A.at_ i x).getD j .gone)
noncomputable def obl (A : ADT X) (i : Nat) (x : X) : Nat → Nat → List Ob
  | 0, _ => []
  | k + 1, j => A.ob i x j :: obl A i x k (j + 1)
theorem obl_eq (A : ADT X) (i : Nat) (x : X) : ∀ k j, j + k ≤ A.m → obl A i x k j = ((A.at_ i x).drop j).take k
  | 0, j, _ => by rw [List.take_zero]; rfl
  | k + 1, j, h => by
    have hl : j < (A.at_ i x).length := by rw [ADT.at_len]; omega
    rw [obl, obl_eq A i x k (j + 1) (by omega), List.drop_eq_getElem_cons hl, List.take_succ_cons, ADT.ob, opq_eq, List.getD_eq_getElem?_getD, List.getElem?_eq_getElem hl]
    rfl
noncomputable def ADT.obl (A : ADT X) (i : Nat) (x : X) : List Ob := V.obl A i x A.m 0
theorem ADT.obl_eq (A : ADT X) (i : Nat) (x : X) : A.obl i x = A.at_ i x := by
  rw [ADT.obl, V.obl_eq A i x A.m 0 (by omega), List.drop_zero, List.take_of_length_le (by rw [ADT.at_len]; exact Nat.le_refl _)]
/-- The objects tell it. -/
theorem ADT.G_obl (A : ADT X) {x : X} (h : A.Ok x) (i : Nat) : A.G i (A.obl i x) = some x := ADT.G_of ⟨h, (A.obl_eq i x).symm⟩
theorem ADT.obl_zero (A : ADT X) {x : X} (h : A.Ok x) : A.obl 0 x = A.obs x := by
  rw [ADT.obl_eq, ADT.at_]
  conv => rhs; rw [← List.map_id (A.obs x)]
  refine List.map_congr_left fun o ho => ?_
  rw [show sh 0 = fun k => k from funext fun k => Nat.zero_add k, renO_id]; rfl
/-- The first m of a list, if there are so many. -/
def getN : Nat → List Ob → Option (List Ob)
  | 0, _ => some []
  | _ + 1, [] => none
  | k + 1, o :: l => match getN k l with
    | some r => some (o :: r)
    | none => none
theorem getN_some : ∀ {k : Nat} {l r : List Ob}, getN k l = some r → r = l.take k ∧ k ≤ l.length
  | 0, l, r, h => by cases h; exact ⟨by rw [List.take_zero], by omega⟩
  | k + 1, [], r, h => by cases h
  | k + 1, o :: l, r, h => by
    simp only [getN] at h
    split at h
    · rename_i r' h'
      cases h
      obtain ⟨h1, h2⟩ := getN_some h'
      exact ⟨by rw [List.take_succ_cons, h1], by simp; omega⟩
    · cases h
/-- The objects from one on are others. -/
def plc : List Ob → Nat → List Ob → List Ob
  | l, 0, xs => xs ++ l.drop xs.length
  | [], _ + 1, _ => []
  | o :: l, i + 1, xs => o :: plc l i xs
theorem plc_eq : ∀ (l : List Ob) (i : Nat) (xs : List Ob), i + xs.length ≤ l.length → plc l i xs = l.take i ++ xs ++ l.drop (i + xs.length)
  | l, 0, xs, _ => by rw [plc.eq_def]; simp
  | [], i + 1, xs, h => by simp at h
  | o :: l, i + 1, xs, h => by
    rw [plc, plc_eq l i xs (by simp at h; omega), show i + 1 + xs.length = (i + xs.length) + 1 by omega]
    simp
noncomputable def ADT.pl (A : ADT X) (st : St) (i : Nat) (x : X) : St := ⟨plc st.objs i (A.obl i x), st.tk⟩
/-- Data in a state: where it is, what it is. -/
noncomputable def ADT.on (A : ADT X) (x : AV) (st : St) (k : Nat → X → Ans) : Ans :=
  match x with
  | .ptr j o => match Nat.beq o 0 && Nat.ble A.p j with
    | true => match getN A.m (st.objs.drop (j - A.p)) with
      | some l => onSome (A.G (j - A.p) l) none fun X => k (j - A.p) X
      | none => none
    | false => none
  | _ => none
/-- Data at a place. -/
structure ADT.Here (A : ADT X) (st : St) (i : Nat) (x : X) : Prop where
  ok : A.Ok x
  le : i + A.m ≤ st.objs.length
  eq : (st.objs.drop i).take A.m = A.at_ i x
theorem ADT.on_spec {A : ADT X} {x : AV} {st : St} {k : Nat → X → Ans} {fin : Fin × St} (h : A.on x st k = some fin) : ∃ i y, x = .ptr (i + A.p) 0 ∧ A.Here st i y ∧ k i y = some fin := by
  unfold ADT.on at h
  split at h
  · rename_i j o
    split at h
    · rename_i ho
      rw [Bool.and_eq_true] at ho
      obtain ⟨h1, h2⟩ := ho
      obtain rfl := Nat.eq_of_beq_eq_true h1
      have h2 := Nat.le_of_ble_eq_true h2
      split at h
      · rename_i l hl
        unfold onSome at h
        split at h
        · cases h
        · rename_i y hy
          obtain ⟨g1, g2⟩ := getN_some hl
          obtain ⟨g3, g4⟩ := ADT.G_spec hy
          have hm := A.hp
          rw [List.length_drop] at g2
          exact ⟨j - A.p, y, by rw [Nat.sub_add_cancel h2], ⟨g3, by omega, by rw [← g1, g4]⟩, h⟩
      · cases h
    · cases h
  · cases h
theorem ADT.Here.lies {A : ADT X} {st : St} {i : Nat} {x : X} (h : A.Here st i x) : Lies st (A.obs x) (sh i) A.m (invS A.m i) := by
  refine ⟨A.len x, inv_sh _ i, fun j o ho => ?_, A.near x h.ok⟩
  have hj : j < A.m := by rw [← A.len x]; exact getElem?_lt ho
  have e := congrArg (fun l => l[j]?) h.eq
  simp only [List.getElem?_take, if_pos hj, List.getElem?_drop, ADT.at_, List.getElem?_map, ho, Option.map_some] at e
  exact e
theorem ADT.pl_len {A : ADT X} {st : St} {i : Nat} {x : X} (h : i + A.m ≤ st.objs.length) : (A.pl st i x).objs.length = st.objs.length := by
  have hl : (A.obl i x).length = A.m := by rw [ADT.obl_eq, ADT.at_len]
  rw [ADT.pl, plc_eq _ _ _ (by omega)]
  simp only [List.length_append, List.length_take, List.length_drop, hl]
  omega
theorem ADT.pl_in {A : ADT X} {st : St} {i : Nat} {x : X} (h : i + A.m ≤ st.objs.length) {j : Nat} (hj : j < A.m) : (A.pl st i x).objs[i + j]? = (A.at_ i x)[j]? := by
  have hl : (A.obl i x).length = A.m := by rw [ADT.obl_eq, ADT.at_len]
  rw [ADT.pl, plc_eq _ _ _ (by omega)]
  simp only [List.append_assoc]
  rw [List.getElem?_append_right (by rw [List.length_take]; omega), List.length_take, Nat.min_eq_left (by omega), Nat.add_sub_cancel_left, List.getElem?_append_left (by omega), ADT.obl_eq]
theorem ADT.pl_out {A : ADT X} {st : St} {i : Nat} {x : X} (h : i + A.m ≤ st.objs.length) {k : Nat} (hk : ¬ (i ≤ k ∧ k < i + A.m)) : (A.pl st i x).objs[k]? = st.objs[k]? := by
  have hl : (A.obl i x).length = A.m := by rw [ADT.obl_eq, ADT.at_len]
  rw [ADT.pl, plc_eq _ _ _ (by omega)]
  simp only [List.append_assoc]
  by_cases h1 : k < i
  · rw [List.getElem?_append_left (by rw [List.length_take]; omega), List.getElem?_take, if_pos h1]
  · rw [List.getElem?_append_right (by rw [List.length_take]; omega), List.length_take, Nat.min_eq_left (by omega), List.getElem?_append_right (by omega), List.getElem?_drop]
    congr 1; omega
theorem ADT.Here.same {A : ADT X} {st : St} {i : Nat} {x : X} (h : A.Here st i x) : A.pl st i x = st := by
  have e : (A.pl st i x).objs = st.objs := by
    apply List.ext_getElem?
    intro k
    by_cases hk : i ≤ k ∧ k < i + A.m
    · obtain ⟨j, rfl⟩ := Nat.exists_eq_add_of_le hk.1
      have hj : j < A.m := by omega
      rw [ADT.pl_in h.le hj]
      have e := congrArg (fun l => l[j]?) h.eq
      simp only [List.getElem?_take, if_pos hj, List.getElem?_drop] at e
      exact e.symm
    · rw [ADT.pl_out h.le hk]
  cases st
  simp only [ADT.pl] at e ⊢
  rw [e]
theorem ADT.near_at {A : ADT X} {y : X} (hy : A.Ok y) {i j : Nat} {o : Ob} (ho : (A.obs y)[j]? = some o) {τ : Nat → Nat} (hτ : ∀ k, k < A.m → τ k = i + k) : (A.at_ i y)[j]? = some (renO τ o) := by
  rw [ADT.at_, List.getElem?_map, ho, Option.map_some, renO_near (n := A.m) (ρ := sh i) (τ := τ) (fun k hk => (hτ k hk).symm) o (A.near y hy o (List.mem_of_getElem? ho))]
/-- A method, shown at the data's objects alone. -/
theorem ADT.placed {A : ADT X} {f : Fun P} {F : Nat} {x y : X} {args0 : List AV} {r : AV} {xs : List Ob} (hrun : f.run F args0 ⟨A.obs x, []⟩ = some (.ret r, ⟨A.obs y ++ xs, []⟩)) (hy : A.Ok y) (ha : NearL A.m args0) (hr : Near A.m (frz r))
    {st : St} {i : Nat} (hd : A.Here st i x) : CallsTo P f.id (renL (sh i) args0) st (.ret (ren (sh i) (frz r)), A.pl st i y) := by
  have n4 : ∀ j, j < A.m → nx (sh i) A.m st.objs.length j = i + j := fun j hj => by rw [nx, if_pos hj]; rfl
  have e : ren (nx (sh i) A.m st.objs.length) (frz r) = ren (sh i) (frz r) := ren_near (fun k hk => n4 k hk) _ hr
  rw [← e]
  refine V.placed (f.sound hrun) (Nat.le_refl _) (by simp [A.len]) ha hr (fun j o hj ho => ?_) hd.lies rfl (by rw [ADT.pl_len hd.le]; omega) (fun j o hj ho => ?_) (fun k hk hi => ?_)
  · rw [List.getElem?_append_left (by rw [A.len]; exact hj)] at ho
    exact A.near y hy o (List.mem_of_getElem? ho)
  · rw [List.getElem?_append_left (by rw [A.len]; exact hj)] at ho
    rw [n4 j hj, ADT.pl_in hd.le hj]
    exact ADT.near_at hy ho n4
  · refine ADT.pl_out hd.le fun e => ?_
    simp only [invS] at hi
    rw [if_pos e] at hi; cases hi
noncomputable def ADT.add (A : ADT X) (st : St) (x : X) : St := ⟨st.objs ++ A.obl st.objs.length x, st.tk⟩
/-- What makes data, shown at no objects. -/
theorem ADT.fresh {A : ADT X} {f : Fun P} {F : Nat} {x : X} {args0 : List AV} {r : AV} {xs : List Ob} (hrun : f.run F args0 ⟨[], []⟩ = some (.ret r, ⟨A.obs x ++ xs, []⟩)) (hx : A.Ok x) (ha : NearL 0 args0) (hr : Near A.m (frz r)) (st : St) :
    CallsTo P f.id args0 st (.ret (ren (sh st.objs.length) (frz r)), A.add st x) := by
  have n4 : ∀ j, nx (fun _ => 0) 0 st.objs.length j = st.objs.length + j := fun j => by rw [nx, if_neg (by omega)]; omega
  have e : ren (nx (fun _ => 0) 0 st.objs.length) (frz r) = ren (sh st.objs.length) (frz r) := ren_near (n := A.m) (fun k hk => n4 k) _ hr
  have e2 : renL (fun _ => 0) args0 = args0 := by
    have := renL_near (n := 0) (ρ := fun _ => 0) (τ := fun k => k) (fun k hk => by omega) args0 ha
    rw [this, renL_id]
  have hl : (A.obl st.objs.length x).length = A.m := by rw [ADT.obl_eq, ADT.at_len]
  rw [← e]
  have := V.placed (ρ := fun _ => 0) (f.sound hrun) (Nat.zero_le A.m) (by simp [A.len]) ha hr (fun j o hj ho => by
    rw [List.getElem?_append_left (by rw [A.len]; exact hj)] at ho
    exact A.near x hx o (List.mem_of_getElem? ho)) (inv := fun _ => none) (st := st) (st' := A.add st x) ⟨rfl, ⟨fun i hi => (by omega), fun k i h => (by cases h)⟩, fun i o h => (by simp at h), fun o h => (by simp at h)⟩ rfl (by simp [ADT.add, hl]) (fun j o hj ho => ?_) (fun k hk hi => ?_)
  · rw [e2] at this; exact this
  · rw [List.getElem?_append_left (by rw [A.len]; exact hj)] at ho
    rw [n4 j, ADT.add]
    simp only
    rw [List.getElem?_append_right (by omega), Nat.add_sub_cancel_left, ADT.obl_eq]
    exact ADT.near_at hx ho fun k _ => n4 k
  · rw [ADT.add]
    simp only
    rw [List.getElem?_append_left hk]
theorem CallsTo.wk {id : FuncId} {args args' : List AV} {st : St} {fin : Fin × St} (h : CallsTo P id args' st fin) (hw : ∀ g w vs, RelAll g w args vs → RelAll g w args' vs) : CallsTo P id args st fin := fun g w vals hv hs => h g w vals (hw g w _ hv) hs
theorem CallsTo.wkR {id : FuncId} {args : List AV} {st st' : St} {r r' : AV} (h : CallsTo P id args st (.ret r, st')) (hw : ∀ g w v, Rel g w r v → Rel g w r' v) : CallsTo P id args st (.ret r', st') := by
  intro g w vals hv hs
  refine (h g w vals hv hs).mono fun e w' ⟨g', k1, k2, k3⟩ => ?_
  obtain ⟨v, rfl, hv'⟩ := k1
  exact ⟨g', ⟨v, rfl, hw _ _ _ hv'⟩, k2, k3⟩

/-! ### An operation that freezes the slice it is handed -/
def updE (ev : Operand → AV) (i : Nat) (r : AV) : Operand → AV
  | .tmp j => match Nat.beq j i with
    | true => r
    | false => ev (.tmp j)
  | o => ev o
noncomputable def MSim.fz (y : MSim P) (i : Nat) : MSim P where
  oper := y.oper
  plain := y.plain
  xs := .tmp i :: y.xs
  f ev st k := afree (ev (.tmp i)) st fun r st' => y.f (updE ev i r) st' k
  congr ev ev' st k h := by
    rw [h (.tmp i) (by simp)]
    congr 1
    funext r st'
    refine y.congr _ _ _ _ fun o ho => ?_
    have := h o (by simp [ho])
    unfold updE
    split
    · split
      · rfl
      · exact this
    · exact this
  sound ev st k fin h g w a he hs := by
    obtain ⟨r, st', g', k1, k2, k3, k4⟩ := afree_rel hs (he (.tmp i) (by simp)) h
    obtain ⟨r2, st2, q1, q2⟩ := y.sound (updE ev i r) st' k fin k1 g' w a (fun o ho => by
      unfold updE
      split
      · rename_i j
        split
        · rename_i hj
          obtain rfl := Nat.eq_of_beq_eq_true hj
          exact k2
        · exact Rel.mono k4 _ _ (he _ (by simp [ho]))
      · exact Rel.mono k4 _ _ (he _ (by simp [ho]))) k3
    exact ⟨r2, st2, q1, fun next Q hn => q2 next Q fun v g2 w2 a1 a2 a3 => hn v g2 w2 a1 a2 (k4.trans a3)⟩
theorem MSim.fz_nat {y : MSim P} {i : Nat} (h : y.NatM) : (y.fz i).NatM := fun ev st k => by
  show afree _ st (fun r st' => y.f (updE ev i r) st' k) = thenM (afree _ st (fun r st' => y.f (updE ev i r) st' retM)) k
  rw [afree_nat, afree_nat (k := fun r st' => y.f (updE ev i r) st' retM)]
  cases afree (ev (.tmp i)) st retM with
  | none => rfl
  | some fin =>
    obtain ⟨fn, s⟩ := fin
    cases fn with
    | ret r => exact h (updE ev i r) s k
    | _ => rfl

/-! ### What goes on does not sway a callee's answer -/
def thS (a : Ans) (k : Fin → St → Ans) : Ans :=
  match a with
  | some (r, st') => k r st'
  | none => none
theorem onInt_th {x : AV} {s s' : IntKind → Int → Ans} {k : Fin → St → Ans} (h : ∀ i n, s i n = thS (s' i n) k) : onInt x s = thS (onInt x s') k := by
  unfold onInt
  split
  · exact h _ _
  · rfl
theorem onNs_th {sz : Nat} {x : AV} {s s' : Bool → List (List AV) → Ans} {k : Fin → St → Ans} (h : ∀ z l, s z l = thS (s' z l) k) : onNs sz x s = thS (onNs sz x s') k := by
  unfold onNs
  split
  · exact h _ _
  all_goals first
    | rfl
    | (split
       · exact h _ _
       · rfl)
theorem ifT_th {b : Bool} {s s' : Ans} {k : Fin → St → Ans} (h : s = thS s' k) : ifT b s = thS (ifT b s') k := by
  cases b
  · rfl
  · exact h
theorem ADT.on_th {A : ADT X} {x : AV} {st : St} {s s' : Nat → X → Ans} {k : Fin → St → Ans} (h : ∀ i y, s i y = thS (s' i y) k) : A.on x st s = thS (A.on x st s') k := by
  unfold ADT.on
  split
  · split
    · split
      · unfold onSome
        split
        · rfl
        · exact h _ _
      · rfl
    · rfl
  · rfl
theorem ADT.on_nat {A : ADT X} {x : AV} {st : St} {s s' : Nat → X → Ans} {K : AV → Ans} (h : ∀ i y, s i y = thenA (s' i y) K) : A.on x st s = thenA (A.on x st s') K := by
  unfold ADT.on
  split
  · split
    · split
      · unfold onSome
        split
        · rfl
        · exact h _ _
      · rfl
    · rfl
  · rfl
/-- A callee that only reads objects. -/
def Fun.byQ (f : Fun P) (sem : List AV → St → (AV → Ans) → Ans)
    (hs : ∀ args st k fin, sem args st k = some fin → ∃ r, k r = some fin ∧ CallsTo P f.id args st (.ret r, st)) : OrcQ P where
  id := f.id
  fn := f.fn
  hf := f.hf
  hname := f.hname
  hb := by rw [f.hbody]; rfl
  F := sem
  sound k args st fin h := hs args st k fin h
/-- So many rounds as one likes, for a callee within. -/
noncomputable def fuel : Nat := opq 1000000
theorem fuel_eq : fuel = 1000000 := opq_eq _

/-! ### Two data -/
mutual
theorem near_ren {n m : Nat} {ρ : Nat → Nat} (h : ∀ k, k < n → ρ k < m) : ∀ a : AV, Near n a → Near m (ren ρ a)
  | .bool _, _ => trivial
  | .int _ _, _ => trivial
  | .str _, _ => trivial
  | .nilptr, _ => trivial
  | .nilsl, _ => trivial
  | .nilmap, _ => trivial
  | .nilfn, _ => trivial
  | .nilif, _ => trivial
  | .ptr k off, s => h k s
  | .eptr cs, s => s
  | .sl _ _ _, s => s
  | .lg _ _ _, s => s.elim
  | .ms k sz off n cap, s => h k s
  | .mp k, s => h k s
  | .fn f a c, s => ⟨nearL_ren h a s.1, nearL_ren h c s.2⟩
  | .ifc t v, s => near_ren h v s
  | .agg cs, s => nearL_ren h cs s
  | .tup cs, s => nearL_ren h cs s
  | .dead, _ => trivial
  | .ns _ _ _, s => s
  | .vs k v sz n, s => h k s
  | .vp k v off, s => h k s
theorem nearL_ren {n m : Nat} {ρ : Nat → Nat} (h : ∀ k, k < n → ρ k < m) : ∀ l : List AV, NearL n l → NearL m (renL ρ l)
  | [], _ => trivial
  | x :: l, s => ⟨near_ren h x s.1, nearL_ren h l s.2⟩
end
theorem nearO_ren {n m : Nat} {ρ : Nat → Nat} (h : ∀ k, k < n → ρ k < m) (o : Ob) (s : NearO n o) : NearO m (renO ρ o) := by
  cases o with
  | cells cs => exact nearL_ren h cs s
  | map es =>
    refine ⟨?_, ?_⟩
    · rw [renO_map1]; exact nearL_ren h _ s.1
    · rw [renO_map2]; exact nearL_ren h _ s.2
  | vec v cs => exact nearL_ren h cs s
  | gone => trivial
  | nov v => trivial
theorem nearO_mono {n m : Nat} (h : n ≤ m) (o : Ob) (s : NearO n o) : NearO m o := by
  have := nearO_ren (ρ := fun k => k) (m := m) (fun k hk => Nat.lt_of_lt_of_le hk h) o s
  rwa [renO_id] at this
variable {Y : Type}
def sh2 (m i j k : Nat) : Nat := if k < m then i + k else j + (k - m)
def inv2 (m n i j k : Nat) : Option Nat := if i ≤ k ∧ k < i + m then some (k - i) else if j ≤ k ∧ k < j + n then some (m + (k - j)) else none
theorem inv_sh2 {m n i j : Nat} (hd : i + m ≤ j ∨ j + n ≤ i) : Inv (sh2 m i j) (m + n) (inv2 m n i j) := by
  refine ⟨fun k hk => ?_, fun k t h => ?_⟩
  · unfold sh2 inv2
    by_cases h1 : k < m
    · rw [if_pos h1, if_pos (by omega)]; congr 1; omega
    · rw [if_neg h1, if_neg (by omega), if_pos (by omega)]; congr 1; omega
  · unfold inv2 at h
    unfold sh2
    split at h
    · cases h; exact ⟨by omega, by rw [if_pos (by omega)]; omega⟩
    · split at h
      · cases h; exact ⟨by omega, by rw [if_neg (by omega)]; omega⟩
      · cases h
/-- A callee of two data, shown at their objects alone. -/
theorem ADT.placed2 {A : ADT X} {B : ADT Y} {f : Fun P} {F : Nat} {x x' : X} {y y' : Y} {args0 : List AV} {r : AV} {xs : List Ob} (hrun : f.run F args0 ⟨A.obs x ++ B.at_ A.m y, []⟩ = some (.ret r, ⟨A.obs x' ++ (B.at_ A.m y' ++ xs), []⟩)) (hx' : A.Ok x') (hy' : B.Ok y') (ha : NearL (A.m + B.m) args0) (hr : Near (A.m + B.m) (frz r))
    {st : St} {i j : Nat} (hx : A.Here st i x) (hy : B.Here st j y) (hd : i + A.m ≤ j ∨ j + B.m ≤ i) : CallsTo P f.id (renL (sh2 A.m i j) args0) st (.ret (ren (sh2 A.m i j) (frz r)), B.pl (A.pl st i x') j y') := by
  have hA := A.hp
  have hB := B.hp
  have s1 : ∀ k, k < A.m → sh2 A.m i j k = i + k := fun k hk => by rw [sh2, if_pos hk]
  have s2 : ∀ k, sh2 A.m i j (A.m + k) = j + k := fun k => by rw [sh2, if_neg (by omega), Nat.add_sub_cancel_left]
  have n4 : ∀ k, k < A.m + B.m → nx (sh2 A.m i j) (A.m + B.m) st.objs.length k = sh2 A.m i j k := fun k hk => by rw [nx, if_pos hk]
  have e : ren (nx (sh2 A.m i j) (A.m + B.m) st.objs.length) (frz r) = ren (sh2 A.m i j) (frz r) := ren_near (fun k hk => n4 k hk) _ hr
  have nearA : ∀ (z : X), A.Ok z → ∀ o ∈ A.obs z, NearO (A.m + B.m) o := fun z hz o ho => nearO_mono (by omega) o (A.near z hz o ho)
  have nearB : ∀ (z : Y), B.Ok z → ∀ o ∈ B.at_ A.m z, NearO (A.m + B.m) o := fun z hz o ho => by
    obtain ⟨o', ho', rfl⟩ := List.mem_map.mp ho
    exact nearO_ren (n := B.m) (fun k hk => by show A.m + k < _; omega) o' (B.near z hz o' ho')
  have renA : ∀ (z : X), A.Ok z → ∀ (k : Nat) (o : Ob), (A.obs z)[k]? = some o → (A.at_ i z)[k]? = some (renO (sh2 A.m i j) o) := fun z hz k o ho => ADT.near_at hz ho fun k hk => s1 k hk
  have renB : ∀ (z : Y), B.Ok z → ∀ (k : Nat) (o : Ob), (B.at_ A.m z)[k]? = some o → (B.at_ j z)[k]? = some (renO (sh2 A.m i j) o) := fun z hz k o ho => by
    rw [ADT.at_, List.getElem?_map] at ho
    cases h1 : (B.obs z)[k]? with
    | none => rw [h1] at ho; cases ho
    | some o' =>
      rw [h1, Option.map_some] at ho
      cases ho
      rw [renO_renO (sh2 A.m i j) (sh A.m) (fun t => j + t) (fun t => s2 t)]
      exact ADT.near_at hz h1 fun k hk => rfl
  rw [← e]
  have lenA : ∀ z : X, (A.obs z).length = A.m := A.len
  have lenB : ∀ z : Y, (B.at_ A.m z).length = B.m := B.at_len A.m
  have hlA := ADT.pl_len (A := A) (st := st) (i := i) (x := x') hx.le
  have hle2 : j + B.m ≤ (A.pl st i x').objs.length := by rw [hlA]; exact hy.le
  refine V.placed (f.sound hrun) (Nat.le_refl _) (by simp [lenA, lenB]) ha hr (fun k o hk ho => ?_) ⟨by simp [lenA, lenB], inv_sh2 hd, fun k o ho => ?_, fun o ho => ?_⟩ rfl (by rw [ADT.pl_len hle2, hlA]; omega) (fun k o hk ho => ?_) (fun k hk hi => ?_)
  · by_cases h1 : k < A.m
    · rw [List.getElem?_append_left (by rw [lenA]; exact h1)] at ho
      exact nearA x' hx' o (List.mem_of_getElem? ho)
    · rw [List.getElem?_append_right (by rw [lenA]; omega), lenA, List.getElem?_append_left (by rw [lenB]; omega)] at ho
      exact nearB y' hy' o (List.mem_of_getElem? ho)
  · by_cases h1 : k < A.m
    · rw [List.getElem?_append_left (by rw [lenA]; exact h1)] at ho
      rw [s1 k h1, ← renA x hx.ok k o ho]
      have e := congrArg (fun l => l[k]?) hx.eq
      simp only [List.getElem?_take, if_pos h1, List.getElem?_drop] at e
      exact e
    · rw [List.getElem?_append_right (by rw [lenA]; omega), lenA] at ho
      have hk2 : k - A.m < B.m := by rw [← lenB y]; exact getElem?_lt ho
      obtain ⟨t, rfl⟩ : ∃ t, k = A.m + t := ⟨k - A.m, by omega⟩
      rw [Nat.add_sub_cancel_left] at ho hk2
      rw [s2 t, ← renB y hy.ok t o ho]
      have e := congrArg (fun l => l[t]?) hy.eq
      simp only [List.getElem?_take, if_pos hk2, List.getElem?_drop] at e
      exact e
  · rcases List.mem_append.mp ho with ho | ho
    · exact nearA x hx.ok o ho
    · exact nearB y hy.ok o ho
  · have e2 : nx (sh2 A.m i j) (A.m + B.m) st.objs.length k = sh2 A.m i j k := n4 k hk
    have e3 : ∀ o, NearO (A.m + B.m) o → renO (nx (sh2 A.m i j) (A.m + B.m) st.objs.length) o = renO (sh2 A.m i j) o := fun o h => renO_near (fun k hk => n4 k hk) o h
    rw [e2]
    by_cases h1 : k < A.m
    · rw [List.getElem?_append_left (by rw [lenA]; exact h1)] at ho
      rw [e3 o (nearA x' hx' o (List.mem_of_getElem? ho)), s1 k h1, ADT.pl_out hle2 (by omega), ADT.pl_in hx.le h1]
      exact renA x' hx' k o ho
    · rw [List.getElem?_append_right (by rw [lenA]; omega), lenA, List.getElem?_append_left (by rw [lenB]; omega)] at ho
      obtain ⟨t, rfl⟩ : ∃ t, k = A.m + t := ⟨k - A.m, by omega⟩
      rw [Nat.add_sub_cancel_left] at ho
      rw [e3 o (nearB y' hy' o (List.mem_of_getElem? ho)), s2 t, ADT.pl_in hle2 (by omega)]
      exact renB y' hy' t o ho
  · have h1 : ¬ (i ≤ k ∧ k < i + A.m) := fun e => by
      simp only [inv2] at hi
      rw [if_pos e] at hi; cases hi
    have h2 : ¬ (j ≤ k ∧ k < j + B.m) := fun e => by
      simp only [inv2] at hi
      rw [if_neg h1, if_pos e] at hi; cases hi
    rw [ADT.pl_out hle2 h2, ADT.pl_out hx.le h1]
end
end Go.V

/- The functions' pieces, as told by gen.py. -/
set_option linter.unusedVariables false
set_option maxRecDepth 20000
namespace Go.Proofs.Ytclghabbhpaafaa.V
open Go Go.V Go.RowKit


/-! ### 18: interlock/interlockref00.CopyBytes (22); results 2; slots: 0 b, 1 b, 3 out -/
noncomputable def g18_b : Sim Try.prog :=
  (.seq (.live [0] (.region 0 [
    ⟨(opAssign (some 2) (.const (Value.slice none 0 0)) 22 "ref.go:7" #[]).op, none⟩
  ] (by kernel_rfl)))
  (.seq (.live [0, 3] (.region 1 [
    ⟨(opBuildSlice (some 4) 22 0 [] 5 1 1 (.int .u8 0) el22 (by kernel_rfl) (by decide) 22 "ref.go:8" #[]).op, none⟩,
    ⟨(opAssign (some 3) (.tmp 4) 22 "ref.go:8" #[{ on := 0, ground := Ground.data }, { on := 0, ground := Ground.phase }]).op, none⟩
  ] (by kernel_rfl)))
  (.seq (.live [3] (.region 2 [
    ⟨(opMove (some 5) (.tmp 3) 22 "ref.go:9" #[]).op, none⟩,
    ⟨(opMove (some 6) (.tmp 0) 22 "ref.go:9" #[]).op, none⟩,
    ⟨(opAppendV (some 7) (.tmp 5) (.tmp 6) 22 22 5 1 1 (.int .u8 0) el22 (.slice 5) Try.underlying22 rfl 22 "ref.go:9" #[{ on := 0, ground := Ground.data }, { on := 1, ground := Ground.data }]).op, none⟩,
    ⟨(opAssign (some 3) (.tmp 7) 22 "ref.go:9" #[{ on := 2, ground := Ground.data }, { on := 2, ground := Ground.chain }, { on := 0, ground := Ground.phase }, { on := 1, ground := Ground.phase }, { on := 2, ground := Ground.phase }]).op, none⟩
  ] (by kernel_rfl)))
  (.seq (.live [2] (.region 3 [
    ⟨(opMove (some 8) (.tmp 3) 22 "ref.go:10" #[]).op, none⟩,
    ⟨(opAssign (some 2) (.tmp 8) 22 "ref.go:10" #[{ on := 0, ground := Ground.data }, { on := 0, ground := Ground.phase }]).op, none⟩
  ] (by kernel_rfl)))
  (.live [2] .ret)))))

noncomputable def g18 : Fun Try.prog where
  id := 18
  fn := Try.f18
  hf := Try.func18
  hname := by kernel_rfl
  body := g18_b
  hbody := by kernel_rfl
  res := [rTmp 2]
  hres := by kernel_rfl
  n := 9
  hn := by kernel_rfl

end Go.Proofs.Ytclghabbhpaafaa.V
