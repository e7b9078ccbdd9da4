/- Merged out of 5 texts: what the claim's code comes to, and why. -/
import Derived.Test.YtcfedmheblbdnaaDoorR25
/- What the functions' runs come to; the right sides were printed by a tool, Lean checks them. -/
set_option linter.unusedVariables false
set_option maxRecDepth 100000
namespace Go.Proofs.YtcfedmheblbdnaaDoor.V
open Go Go.V Go.RowKit

theorem rows_run (F : Nat) (z y : Bool) (l r : List (List AV)) (st : St) :
    (f16.run F [.ns z 3 l, .ns y 3 r] st : Ans) =
    branch (AV.bool (ok2 ((z, l), y, r))) (some (Fin.ret (AV.int IntKind.i64 (ordV l r)), st)) none := by kernel_rfl

end Go.Proofs.YtcfedmheblbdnaaDoor.V

/- Values: OrderRows, as a callee. -/
set_option linter.unusedVariables false
namespace Go.Proofs.YtcfedmheblbdnaaDoor.V
open Go Go.V Go.RowKit

noncomputable def p16 : POrc Tryd.prog := f16.pureIf dec2r (fun a => [nsA a.1, nsA a.2]) dec2r_enc ok2 (fun a => .int .i64 (ordV a.1.2 a.2.2)) (fun a _ => ⟨rfl, fun _ _ => trivial⟩) fun a h => ⟨0, fun st => by
  obtain ⟨⟨z, l⟩, ⟨y, r⟩⟩ := a
  exact (rows_run 0 z y l r st).trans (branch_of h)⟩
theorem p16_nat : p16.Nat := pureIf_nat
end Go.Proofs.YtcfedmheblbdnaaDoor.V

/- The functions' pieces, as told by gen.py. -/
set_option linter.unusedVariables false
set_option maxRecDepth 20000
namespace Go.Proofs.YtcfedmheblbdnaaDoor.V
open Go Go.V Go.RowKit


/-! ### 6: interlock/interlocklaw04.ValueOrder (37, 37, 37); results 6; slots: 0 a, 1 b, 2 c, 3 a, 4 b, 5 c, 7 x, 8 y, 9 z -/
noncomputable def f6_b : Sim Tryd.prog :=
  (.seq (.live [0, 1, 2] (.region 0 [
    ⟨(opAssign (some 6) (.const (Value.bool false)) 4 "law.go:104" #[]).op, none⟩
  ] (by kernel_rfl)))
  (.seq (.seq (.live [0, 1, 2, 11] (.region 1 [
    ⟨(opCallP p9 (some 10) [] #[] 4 "law.go:105" #[]).op, none⟩,
    ⟨(opNot (some 11) 4 (.tmp 10) 4 "law.go:105" #[{ on := 0, ground := Ground.data }]).op, none⟩
  ] (by kernel_rfl)))
  (.cond (.tmp 11)
    (.seq (.live [6] (.region 2 [
      ⟨(opAssign (some 6) (.const (Value.bool false)) 4 "law.go:106" #[]).op, none⟩
    ] (by kernel_rfl)))
    (.live [6] .ret))
    .skip))
  (.seq (.seq (.live [0, 1, 2, 21] (.region 3 [
    ⟨(opMove (some 12) (.tmp 0) 37 "law.go:108" #[]).op, none⟩,
    ⟨(opCallP p15 (some 13) [(.tmp 12)] #[37] 4 "law.go:108" #[{ on := 0, ground := Ground.data }]).op, none⟩,
    ⟨(opMove (some 14) (.tmp 13) 4 "law.go:108" #[{ on := 1, ground := Ground.data }, { on := 1, ground := Ground.chain }]).op, none⟩,
    ⟨(opMove (some 15) (.tmp 1) 37 "law.go:108" #[{ on := 2, ground := Ground.guard }]).op, (some (2, 14, false))⟩,
    ⟨(opCallP p15 (some 16) [(.tmp 15)] #[37] 4 "law.go:108" #[{ on := 3, ground := Ground.data }, { on := 2, ground := Ground.chain }, { on := 2, ground := Ground.guard }]).op, (some (2, 14, false))⟩,
    ⟨(opPick (some 17) (.tmp 14) (.const (Value.bool true)) (.tmp 16) 4 "law.go:108" #[{ on := 2, ground := Ground.data }, { on := 4, ground := Ground.data }]).op, none⟩,
    ⟨(opMove (some 18) (.tmp 17) 4 "law.go:108" #[{ on := 5, ground := Ground.data }, { on := 4, ground := Ground.chain }]).op, none⟩,
    ⟨(opMove (some 19) (.tmp 2) 37 "law.go:108" #[{ on := 6, ground := Ground.guard }]).op, (some (6, 18, false))⟩,
    ⟨(opCallP p15 (some 20) [(.tmp 19)] #[37] 4 "law.go:108" #[{ on := 7, ground := Ground.data }, { on := 6, ground := Ground.chain }, { on := 6, ground := Ground.guard }]).op, (some (6, 18, false))⟩,
    ⟨(opPick (some 21) (.tmp 18) (.const (Value.bool true)) (.tmp 20) 4 "law.go:108" #[{ on := 6, ground := Ground.data }, { on := 8, ground := Ground.data }]).op, none⟩
  ] (by kernel_rfl)))
  (.cond (.tmp 21)
    (.seq (.live [6] (.region 4 [
      ⟨(opAssign (some 6) (.const (Value.bool true)) 4 "law.go:109" #[]).op, none⟩
    ] (by kernel_rfl)))
    (.live [6] .ret))
    .skip))
  (.seq (.live [0, 1, 2, 7] (.region 5 [
    ⟨(opMove (some 22) (.tmp 0) 37 "law.go:111" #[]).op, none⟩,
    ⟨(opMove (some 23) (.tmp 1) 37 "law.go:111" #[]).op, none⟩,
    ⟨(opCallP p16 (some 24) [(.tmp 22), (.tmp 23)] #[37, 37] 3 "law.go:111" #[{ on := 0, ground := Ground.data }, { on := 1, ground := Ground.data }]).op, none⟩,
    ⟨(opAssign (some 7) (.tmp 24) 3 "law.go:111" #[{ on := 2, ground := Ground.data }, { on := 2, ground := Ground.chain }, { on := 0, ground := Ground.phase }, { on := 1, ground := Ground.phase }, { on := 2, ground := Ground.phase }]).op, none⟩
  ] (by kernel_rfl)))
  (.seq (.live [0, 1, 2, 7, 8] (.region 6 [
    ⟨(opMove (some 25) (.tmp 1) 37 "law.go:112" #[]).op, none⟩,
    ⟨(opMove (some 26) (.tmp 2) 37 "law.go:112" #[]).op, none⟩,
    ⟨(opCallP p16 (some 27) [(.tmp 25), (.tmp 26)] #[37, 37] 3 "law.go:112" #[{ on := 0, ground := Ground.data }, { on := 1, ground := Ground.data }]).op, none⟩,
    ⟨(opAssign (some 8) (.tmp 27) 3 "law.go:112" #[{ on := 2, ground := Ground.data }, { on := 2, ground := Ground.chain }, { on := 0, ground := Ground.phase }, { on := 1, ground := Ground.phase }, { on := 2, ground := Ground.phase }]).op, none⟩
  ] (by kernel_rfl)))
  (.seq (.live [0, 1, 7, 8, 9] (.region 7 [
    ⟨(opMove (some 28) (.tmp 0) 37 "law.go:113" #[]).op, none⟩,
    ⟨(opMove (some 29) (.tmp 2) 37 "law.go:113" #[]).op, none⟩,
    ⟨(opCallP p16 (some 30) [(.tmp 28), (.tmp 29)] #[37, 37] 3 "law.go:113" #[{ on := 0, ground := Ground.data }, { on := 1, ground := Ground.data }]).op, none⟩,
    ⟨(opAssign (some 9) (.tmp 30) 3 "law.go:113" #[{ on := 2, ground := Ground.data }, { on := 2, ground := Ground.chain }, { on := 0, ground := Ground.phase }, { on := 1, ground := Ground.phase }, { on := 2, ground := Ground.phase }]).op, none⟩
  ] (by kernel_rfl)))
  (.seq (.seq (.live [7, 8, 9, 44] (.region 8 [
    ⟨(opMove (some 31) (.tmp 7) 3 "law.go:114" #[]).op, none⟩,
    ⟨(opMove (some 32) (.tmp 1) 37 "law.go:114" #[]).op, none⟩,
    ⟨(opMove (some 33) (.tmp 0) 37 "law.go:114" #[]).op, none⟩,
    ⟨(opCallP p16 (some 34) [(.tmp 32), (.tmp 33)] #[37, 37] 3 "law.go:114" #[{ on := 1, ground := Ground.data }, { on := 2, ground := Ground.data }]).op, none⟩,
    ⟨(opNeg (some 35) 3 (.tmp 34) 3 "law.go:114" #[{ on := 3, ground := Ground.data }]).op, none⟩,
    ⟨(opBin (some 36) .neq 3 (.tmp 31) (.tmp 35) 3 4 "law.go:114" #[{ on := 0, ground := Ground.data }, { on := 4, ground := Ground.data }]).op, none⟩,
    ⟨(opMove (some 37) (.tmp 36) 4 "law.go:114" #[{ on := 5, ground := Ground.data }, { on := 3, ground := Ground.chain }]).op, none⟩,
    ⟨(opMove (some 38) (.tmp 7) 3 "law.go:114" #[{ on := 6, ground := Ground.guard }]).op, (some (6, 37, false))⟩,
    ⟨(opBin (some 39) .eql 3 (.tmp 38) (.const (Value.int IntKind.i64 0)) 3 4 "law.go:114" #[{ on := 7, ground := Ground.data }, { on := 6, ground := Ground.guard }]).op, (some (6, 37, false))⟩,
    ⟨(opMove (some 40) (.tmp 0) 37 "law.go:114" #[{ on := 6, ground := Ground.guard }]).op, (some (6, 37, false))⟩,
    ⟨(opMove (some 41) (.tmp 1) 37 "law.go:114" #[{ on := 6, ground := Ground.guard }]).op, (some (6, 37, false))⟩,
    ⟨(opCallP p17 (some 42) [(.tmp 40), (.tmp 41)] #[37, 37] 4 "law.go:114" #[{ on := 9, ground := Ground.data }, { on := 10, ground := Ground.data }, { on := 6, ground := Ground.chain }, { on := 6, ground := Ground.guard }]).op, (some (6, 37, false))⟩,
    ⟨(opNe (some 43) 4 .bool Tryd.underlying4 (.tmp 39) (.tmp 42) (.inr rfl) 4 4 "law.go:114" #[{ on := 8, ground := Ground.data }, { on := 11, ground := Ground.data }, { on := 6, ground := Ground.guard }]).op, (some (6, 37, false))⟩,
    ⟨(opPick (some 44) (.tmp 37) (.const (Value.bool true)) (.tmp 43) 4 "law.go:114" #[{ on := 6, ground := Ground.data }, { on := 12, ground := Ground.data }]).op, none⟩
  ] (by kernel_rfl)))
  (.cond (.tmp 44)
    (.seq (.live [6] (.region 9 [
      ⟨(opAssign (some 6) (.const (Value.bool false)) 4 "law.go:115" #[]).op, none⟩
    ] (by kernel_rfl)))
    (.live [6] .ret))
    .skip))
  (.seq (.live [6] (.region 10 [
    ⟨(opMove (some 45) (.tmp 7) 3 "law.go:117" #[]).op, none⟩,
    ⟨(opBin (some 46) .leq 3 (.tmp 45) (.const (Value.int IntKind.i64 0)) 3 4 "law.go:117" #[{ on := 0, ground := Ground.data }]).op, none⟩,
    ⟨(opMove (some 47) (.tmp 46) 4 "law.go:117" #[{ on := 1, ground := Ground.data }]).op, none⟩,
    ⟨(opMove (some 48) (.tmp 8) 3 "law.go:117" #[{ on := 2, ground := Ground.guard }]).op, (some (2, 47, true))⟩,
    ⟨(opBin (some 49) .leq 3 (.tmp 48) (.const (Value.int IntKind.i64 0)) 3 4 "law.go:117" #[{ on := 3, ground := Ground.data }, { on := 2, ground := Ground.guard }]).op, (some (2, 47, true))⟩,
    ⟨(opPick (some 50) (.tmp 47) (.tmp 49) (.const (Value.bool false)) 4 "law.go:117" #[{ on := 2, ground := Ground.data }, { on := 4, ground := Ground.data }]).op, none⟩,
    ⟨(opMove (some 51) (.tmp 50) 4 "law.go:117" #[{ on := 5, ground := Ground.data }, { on := 2, ground := Ground.chain }]).op, none⟩,
    ⟨(opMove (some 52) (.tmp 9) 3 "law.go:117" #[{ on := 6, ground := Ground.guard }]).op, (some (6, 51, true))⟩,
    ⟨(opBin (some 53) .gtr 3 (.tmp 52) (.const (Value.int IntKind.i64 0)) 3 4 "law.go:117" #[{ on := 7, ground := Ground.data }, { on := 6, ground := Ground.guard }]).op, (some (6, 51, true))⟩,
    ⟨(opPick (some 54) (.tmp 51) (.tmp 53) (.const (Value.bool false)) 4 "law.go:117" #[{ on := 6, ground := Ground.data }, { on := 8, ground := Ground.data }]).op, none⟩,
    ⟨(opNot (some 55) 4 (.tmp 54) 4 "law.go:117" #[{ on := 9, ground := Ground.data }]).op, none⟩,
    ⟨(opMove (some 56) (.tmp 55) 4 "law.go:117" #[{ on := 10, ground := Ground.data }, { on := 6, ground := Ground.chain }]).op, none⟩,
    ⟨(opMove (some 57) (.tmp 7) 3 "law.go:117" #[{ on := 11, ground := Ground.guard }]).op, (some (11, 56, true))⟩,
    ⟨(opBin (some 58) .lss 3 (.tmp 57) (.const (Value.int IntKind.i64 0)) 3 4 "law.go:117" #[{ on := 12, ground := Ground.data }, { on := 11, ground := Ground.guard }]).op, (some (11, 56, true))⟩,
    ⟨(opMove (some 59) (.tmp 58) 4 "law.go:117" #[{ on := 13, ground := Ground.data }, { on := 11, ground := Ground.chain }, { on := 11, ground := Ground.guard }]).op, (some (11, 56, true))⟩,
    ⟨(opMove (some 60) (.tmp 8) 3 "law.go:117" #[{ on := 14, ground := Ground.guard }]).op, (some (14, 59, true))⟩,
    ⟨(opBin (some 61) .leq 3 (.tmp 60) (.const (Value.int IntKind.i64 0)) 3 4 "law.go:117" #[{ on := 15, ground := Ground.data }, { on := 14, ground := Ground.guard }]).op, (some (14, 59, true))⟩,
    ⟨(opPick (some 62) (.tmp 59) (.tmp 61) (.const (Value.bool false)) 4 "law.go:117" #[{ on := 14, ground := Ground.data }, { on := 16, ground := Ground.data }, { on := 11, ground := Ground.guard }]).op, (some (11, 56, true))⟩,
    ⟨(opMove (some 63) (.tmp 62) 4 "law.go:117" #[{ on := 17, ground := Ground.data }, { on := 14, ground := Ground.chain }, { on := 11, ground := Ground.guard }]).op, (some (11, 56, true))⟩,
    ⟨(opMove (some 64) (.tmp 9) 3 "law.go:117" #[{ on := 18, ground := Ground.guard }]).op, (some (18, 63, true))⟩,
    ⟨(opBin (some 65) .geq 3 (.tmp 64) (.const (Value.int IntKind.i64 0)) 3 4 "law.go:117" #[{ on := 19, ground := Ground.data }, { on := 18, ground := Ground.guard }]).op, (some (18, 63, true))⟩,
    ⟨(opPick (some 66) (.tmp 63) (.tmp 65) (.const (Value.bool false)) 4 "law.go:117" #[{ on := 18, ground := Ground.data }, { on := 20, ground := Ground.data }, { on := 11, ground := Ground.guard }]).op, (some (11, 56, true))⟩,
    ⟨(opNot (some 67) 4 (.tmp 66) 4 "law.go:117" #[{ on := 21, ground := Ground.data }, { on := 11, ground := Ground.guard }]).op, (some (11, 56, true))⟩,
    ⟨(opPick (some 68) (.tmp 56) (.tmp 67) (.const (Value.bool false)) 4 "law.go:117" #[{ on := 11, ground := Ground.data }, { on := 22, ground := Ground.data }]).op, none⟩,
    ⟨(opMove (some 69) (.tmp 68) 4 "law.go:117" #[{ on := 23, ground := Ground.data }, { on := 18, ground := Ground.chain }]).op, none⟩,
    ⟨(opMove (some 70) (.tmp 7) 3 "law.go:117" #[{ on := 24, ground := Ground.guard }]).op, (some (24, 69, true))⟩,
    ⟨(opBin (some 71) .geq 3 (.tmp 70) (.const (Value.int IntKind.i64 0)) 3 4 "law.go:117" #[{ on := 25, ground := Ground.data }, { on := 24, ground := Ground.guard }]).op, (some (24, 69, true))⟩,
    ⟨(opMove (some 72) (.tmp 71) 4 "law.go:117" #[{ on := 26, ground := Ground.data }, { on := 24, ground := Ground.chain }, { on := 24, ground := Ground.guard }]).op, (some (24, 69, true))⟩,
    ⟨(opMove (some 73) (.tmp 8) 3 "law.go:117" #[{ on := 27, ground := Ground.guard }]).op, (some (27, 72, true))⟩,
    ⟨(opBin (some 74) .geq 3 (.tmp 73) (.const (Value.int IntKind.i64 0)) 3 4 "law.go:117" #[{ on := 28, ground := Ground.data }, { on := 27, ground := Ground.guard }]).op, (some (27, 72, true))⟩,
    ⟨(opPick (some 75) (.tmp 72) (.tmp 74) (.const (Value.bool false)) 4 "law.go:117" #[{ on := 27, ground := Ground.data }, { on := 29, ground := Ground.data }, { on := 24, ground := Ground.guard }]).op, (some (24, 69, true))⟩,
    ⟨(opMove (some 76) (.tmp 75) 4 "law.go:117" #[{ on := 30, ground := Ground.data }, { on := 27, ground := Ground.chain }, { on := 24, ground := Ground.guard }]).op, (some (24, 69, true))⟩,
    ⟨(opMove (some 77) (.tmp 9) 3 "law.go:117" #[{ on := 31, ground := Ground.guard }]).op, (some (31, 76, true))⟩,
    ⟨(opBin (some 78) .lss 3 (.tmp 77) (.const (Value.int IntKind.i64 0)) 3 4 "law.go:117" #[{ on := 32, ground := Ground.data }, { on := 31, ground := Ground.guard }]).op, (some (31, 76, true))⟩,
    ⟨(opPick (some 79) (.tmp 76) (.tmp 78) (.const (Value.bool false)) 4 "law.go:117" #[{ on := 31, ground := Ground.data }, { on := 33, ground := Ground.data }, { on := 24, ground := Ground.guard }]).op, (some (24, 69, true))⟩,
    ⟨(opNot (some 80) 4 (.tmp 79) 4 "law.go:117" #[{ on := 34, ground := Ground.data }, { on := 24, ground := Ground.guard }]).op, (some (24, 69, true))⟩,
    ⟨(opPick (some 81) (.tmp 69) (.tmp 80) (.const (Value.bool false)) 4 "law.go:117" #[{ on := 24, ground := Ground.data }, { on := 35, ground := Ground.data }]).op, none⟩,
    ⟨(opAssign (some 6) (.tmp 81) 4 "law.go:117" #[{ on := 36, ground := Ground.data }, { on := 31, ground := Ground.chain }, { on := 0, ground := Ground.phase }, { on := 1, ground := Ground.phase }, { on := 2, ground := Ground.phase }, { on := 3, ground := Ground.phase }, { on := 4, ground := Ground.phase }, { on := 5, ground := Ground.phase }, { on := 6, ground := Ground.phase }, { on := 7, ground := Ground.phase }, { on := 8, ground := Ground.phase }, { on := 9, ground := Ground.phase }, { on := 10, ground := Ground.phase }, { on := 11, ground := Ground.phase }, { on := 12, ground := Ground.phase }, { on := 13, ground := Ground.phase }, { on := 14, ground := Ground.phase }, { on := 15, ground := Ground.phase }, { on := 16, ground := Ground.phase }, { on := 17, ground := Ground.phase }, { on := 18, ground := Ground.phase }, { on := 19, ground := Ground.phase }, { on := 20, ground := Ground.phase }, { on := 21, ground := Ground.phase }, { on := 22, ground := Ground.phase }, { on := 23, ground := Ground.phase }, { on := 24, ground := Ground.phase }, { on := 25, ground := Ground.phase }, { on := 26, ground := Ground.phase }, { on := 27, ground := Ground.phase }, { on := 28, ground := Ground.phase }, { on := 29, ground := Ground.phase }, { on := 30, ground := Ground.phase }, { on := 31, ground := Ground.phase }, { on := 32, ground := Ground.phase }, { on := 33, ground := Ground.phase }, { on := 34, ground := Ground.phase }, { on := 35, ground := Ground.phase }, { on := 36, ground := Ground.phase }]).op, none⟩
  ] (by kernel_rfl)))
  (.live [6] .ret)))))))))

noncomputable def f6 : Fun Tryd.prog where
  id := 6
  fn := Tryd.f6
  hf := Tryd.func6
  hname := by kernel_rfl
  body := f6_b
  hbody := by kernel_rfl
  res := [rTmp 6]
  hres := by kernel_rfl
  n := 82
  hn := by kernel_rfl

end Go.Proofs.YtcfedmheblbdnaaDoor.V

/- What the functions' runs come to; the right sides were printed by a tool, Lean checks them. -/
set_option linter.unusedVariables false
set_option maxRecDepth 100000
namespace Go.Proofs.YtcfedmheblbdnaaDoor.V
open Go Go.V Go.RowKit

theorem orderlaw_run (F : Nat) (x y z : Bool) (a b c : List (List AV)) :
    (f6.run F [.ns x 3 a, .ns y 3 b, .ns z 3 c] ⟨[], []⟩ : Ans) =
    branch (AV.bool (okV a))
      (branch (AV.bool (longV a)) (some (Fin.ret (AV.bool true), St.mk [] []))
        (branch (AV.bool (okV b))
          (branch (AV.bool (longV b)) (some (Fin.ret (AV.bool true), St.mk [] []))
            (branch (AV.bool (okV c))
              (branch (AV.bool (longV c)) (some (Fin.ret (AV.bool true), St.mk [] []))
                (branch (AV.bool (ok2 ((x, a), y, b)))
                  (branch (AV.bool (ok2 ((y, b), z, c)))
                    (branch (AV.bool (ok2 ((x, a), z, c)))
                      (branch (AV.bool (ok2 ((y, b), x, a)))
                        (branch (AV.bool (ordV a b != IntKind.i64.wrap ((0 : Int) - ordV b a)))
                          (some (Fin.ret (AV.bool false), St.mk [] []))
                          (branch (AV.bool (ok2 ((x, a), y, b)))
                            (branch (AV.bool !(ordV a b == (0 : Int)) == sameV a b)
                              (some (Fin.ret (AV.bool false), St.mk [] []))
                              (branch (AV.bool (decide (ordV a b ≤ (0 : Int))))
                                (branch (AV.bool (decide (ordV b c ≤ (0 : Int))))
                                  (branch (AV.bool !decide (ordV a c > (0 : Int)))
                                    (branch (AV.bool (decide (ordV a b < (0 : Int))))
                                      (branch (AV.bool (decide (ordV b c ≤ (0 : Int))))
                                        (branch (AV.bool !decide (ordV a c ≥ (0 : Int)))
                                          (branch (AV.bool (decide (ordV a b ≥ (0 : Int))))
                                            (branch (AV.bool (decide (ordV b c ≥ (0 : Int))))
                                              (some (Fin.ret (AV.bool !decide (ordV a c < (0 : Int))), St.mk [] []))
                                              (some (Fin.ret (AV.bool true), St.mk [] [])))
                                            (some (Fin.ret (AV.bool true), St.mk [] [])))
                                          (some (Fin.ret (AV.bool false), St.mk [] [])))
                                        (branch (AV.bool (decide (ordV a b ≥ (0 : Int))))
                                          (branch (AV.bool (decide (ordV b c ≥ (0 : Int))))
                                            (some (Fin.ret (AV.bool !decide (ordV a c < (0 : Int))), St.mk [] []))
                                            (some (Fin.ret (AV.bool true), St.mk [] [])))
                                          (some (Fin.ret (AV.bool true), St.mk [] []))))
                                      (branch (AV.bool (decide (ordV a b ≥ (0 : Int))))
                                        (branch (AV.bool (decide (ordV b c ≥ (0 : Int))))
                                          (some (Fin.ret (AV.bool !decide (ordV a c < (0 : Int))), St.mk [] []))
                                          (some (Fin.ret (AV.bool true), St.mk [] [])))
                                        (some (Fin.ret (AV.bool true), St.mk [] []))))
                                    (some (Fin.ret (AV.bool false), St.mk [] [])))
                                  (branch (AV.bool (decide (ordV a b < (0 : Int))))
                                    (branch (AV.bool (decide (ordV b c ≤ (0 : Int))))
                                      (branch (AV.bool !decide (ordV a c ≥ (0 : Int)))
                                        (branch (AV.bool (decide (ordV a b ≥ (0 : Int))))
                                          (branch (AV.bool (decide (ordV b c ≥ (0 : Int))))
                                            (some (Fin.ret (AV.bool !decide (ordV a c < (0 : Int))), St.mk [] []))
                                            (some (Fin.ret (AV.bool true), St.mk [] [])))
                                          (some (Fin.ret (AV.bool true), St.mk [] [])))
                                        (some (Fin.ret (AV.bool false), St.mk [] [])))
                                      (branch (AV.bool (decide (ordV a b ≥ (0 : Int))))
                                        (branch (AV.bool (decide (ordV b c ≥ (0 : Int))))
                                          (some (Fin.ret (AV.bool !decide (ordV a c < (0 : Int))), St.mk [] []))
                                          (some (Fin.ret (AV.bool true), St.mk [] [])))
                                        (some (Fin.ret (AV.bool true), St.mk [] []))))
                                    (branch (AV.bool (decide (ordV a b ≥ (0 : Int))))
                                      (branch (AV.bool (decide (ordV b c ≥ (0 : Int))))
                                        (some (Fin.ret (AV.bool !decide (ordV a c < (0 : Int))), St.mk [] []))
                                        (some (Fin.ret (AV.bool true), St.mk [] [])))
                                      (some (Fin.ret (AV.bool true), St.mk [] [])))))
                                (branch (AV.bool (decide (ordV a b < (0 : Int))))
                                  (branch (AV.bool (decide (ordV b c ≤ (0 : Int))))
                                    (branch (AV.bool !decide (ordV a c ≥ (0 : Int)))
                                      (branch (AV.bool (decide (ordV a b ≥ (0 : Int))))
                                        (branch (AV.bool (decide (ordV b c ≥ (0 : Int))))
                                          (some (Fin.ret (AV.bool !decide (ordV a c < (0 : Int))), St.mk [] []))
                                          (some (Fin.ret (AV.bool true), St.mk [] [])))
                                        (some (Fin.ret (AV.bool true), St.mk [] [])))
                                      (some (Fin.ret (AV.bool false), St.mk [] [])))
                                    (branch (AV.bool (decide (ordV a b ≥ (0 : Int))))
                                      (branch (AV.bool (decide (ordV b c ≥ (0 : Int))))
                                        (some (Fin.ret (AV.bool !decide (ordV a c < (0 : Int))), St.mk [] []))
                                        (some (Fin.ret (AV.bool true), St.mk [] [])))
                                      (some (Fin.ret (AV.bool true), St.mk [] []))))
                                  (branch (AV.bool (decide (ordV a b ≥ (0 : Int))))
                                    (branch (AV.bool (decide (ordV b c ≥ (0 : Int))))
                                      (some (Fin.ret (AV.bool !decide (ordV a c < (0 : Int))), St.mk [] []))
                                      (some (Fin.ret (AV.bool true), St.mk [] [])))
                                    (some (Fin.ret (AV.bool true), St.mk [] []))))))
                            none))
                        none)
                      none)
                    none)
                  none))
              none))
          none))
      none := by kernel_rfl

end Go.Proofs.YtcfedmheblbdnaaDoor.V

/- Values: ValueOrder is true. -/
set_option linter.unusedVariables false
namespace Go.Proofs.YtcfedmheblbdnaaDoor.V
open Go Go.V Go.RowKit

theorem lexL_one {α : Type} {c : α → α → Int} (h : ∀ a b, -1 ≤ c a b ∧ c a b ≤ 1) : ∀ l r, -1 ≤ lexL c l r ∧ lexL c l r ≤ 1
  | [], [] => by simp [lexL]
  | [], _ :: _ => by simp [lexL]
  | _ :: _, [] => by simp [lexL]
  | a :: l, b :: r => by
    have h1 := h a b
    have h2 := lexL_one h l r
    rw [lexL]
    cases c a b != 0 with
    | true => exact h1
    | false => exact h2
theorem cmpI_one (a b : Int) : -1 ≤ cmpI a b ∧ cmpI a b ≤ 1 := by
  unfold cmpI
  cases decide (a < b) with
  | true => simp
  | false => cases decide (b < a) <;> simp
theorem cmpS_one (a b : ByteArray) : -1 ≤ cmpS a b ∧ cmpS a b ≤ 1 := by
  unfold cmpS
  cases Op.bytesLess a.toList b.toList with
  | true => simp
  | false => cases a.toList == b.toList <;> simp
theorem cmpV_one (a b : Va) : -1 ≤ cmpV a b ∧ cmpV a b ≤ 1 := by
  unfold cmpV orI
  have h1 := cmpI_one a.k b.k
  have h2 := cmpI_one a.n b.n
  have h3 := cmpS_one a.s b.s
  cases cmpI a.k b.k != 0 with
  | true => exact h1
  | false =>
    cases cmpI a.n b.n != 0 with
    | true => exact h2
    | false => exact h3
theorem order_true (x y z : Bool) (a b c : List (List AV)) (ha : okV a = true) (hb : okV b = true) (hc : okV c = true) : ∃ st, f6.run 0 [.ns x 3 a, .ns y 3 b, .ns z 3 c] ⟨[], []⟩ = some (.ret (.bool true), st) := by
  rw [orderlaw_run, branch_of ha]
  cases hla : longV a with
  | true => exact ⟨_, rfl⟩
  | false =>
  rw [branch_false, branch_of hb]
  cases hlb : longV b with
  | true => exact ⟨_, rfl⟩
  | false =>
  rw [branch_false, branch_of hc]
  cases hlc : longV c with
  | true => exact ⟨_, rfl⟩
  | false =>
  have len : ∀ l, longV l = false → l.length ≤ 1000 := fun l h => by
    simp only [longV, Bool.or_eq_false_iff, decide_eq_false_iff_not] at h
    omega
  have la := len a hla
  have lb := len b hlb
  have k1 : ok2 ((x, a), y, b) = true := ok2_iff.mpr ⟨ha, hb, la⟩
  have k2 : ok2 ((y, b), z, c) = true := ok2_iff.mpr ⟨hb, hc, lb⟩
  have k3 : ok2 ((x, a), z, c) = true := ok2_iff.mpr ⟨ha, hc, la⟩
  have k4 : ok2 ((y, b), x, a) = true := ok2_iff.mpr ⟨hb, ha, lb⟩
  have L := lin_lex lin_va
  have n1 : ordV a b = -ordV b a := L.neg _ _
  have o1 : -1 ≤ ordV b a ∧ ordV b a ≤ 1 := lexL_one cmpV_one _ _
  have w1 : IntKind.i64.wrap (0 - ordV b a) = ordV a b := by rw [wrapS (by omega) (by omega)]; omega
  have s1 : (ordV a b == 0) = sameV a b := by
    rw [Bool.eq_iff_iff, beq_iff_eq, sameV, cdec_iff]
    constructor
    · exact L.eq _ _
    · intro e; unfold ordV; rw [e]; exact L.self _
  obtain ⟨t1, t2, t3⟩ := L.law (rowsV a) (rowsV b) (rowsV c)
  change ¬ (ordV a b ≤ 0 ∧ ordV b c ≤ 0 ∧ 0 < ordV a c) at t1
  change ¬ (ordV a b < 0 ∧ ordV b c ≤ 0 ∧ 0 ≤ ordV a c) at t2
  change ¬ (0 ≤ ordV a b ∧ 0 ≤ ordV b c ∧ ordV a c < 0) at t3
  rw [branch_false, branch_of k1, branch_of k2, branch_of k3, branch_of k4, w1, branch_not (by simp), branch_of k1, s1, branch_not (by cases sameV a b <;> rfl)]
  generalize ordV a b = X at *
  generalize ordV b c = Y at *
  generalize ordV a c = Z at *
  clear n1 o1 w1 s1 k1 k2 k3 k4 L la lb len
  by_cases x1 : X < 0
  · by_cases y1 : Y ≤ 0
    · rw [branch_of (decide_eq_true (by omega)), branch_of (decide_eq_true y1), branch_of (by simp; omega), branch_of (decide_eq_true x1), branch_of (decide_eq_true y1), branch_of (by simp; omega), branch_not (decide_eq_false (by omega))]
      exact ⟨_, rfl⟩
    · rw [branch_of (decide_eq_true (by omega)), branch_not (decide_eq_false y1), branch_of (decide_eq_true x1), branch_not (decide_eq_false y1), branch_not (decide_eq_false (by omega))]
      exact ⟨_, rfl⟩
  · by_cases x0 : X ≤ 0
    · by_cases y1 : Y ≤ 0
      · rw [branch_of (decide_eq_true (by omega)), branch_of (decide_eq_true y1), branch_of (by simp; omega), branch_not (decide_eq_false x1), branch_of (decide_eq_true (by omega))]
        by_cases y2 : Y ≥ 0
        · rw [branch_of (decide_eq_true y2), decide_eq_false (show ¬ Z < 0 by omega)]; exact ⟨_, rfl⟩
        · rw [branch_not (decide_eq_false y2)]; exact ⟨_, rfl⟩
      · rw [branch_of (decide_eq_true (by omega)), branch_not (decide_eq_false y1), branch_not (decide_eq_false x1), branch_of (decide_eq_true (by omega)), branch_of (decide_eq_true (by omega)), decide_eq_false (show ¬ Z < 0 by omega)]
        exact ⟨_, rfl⟩
    · rw [branch_not (decide_eq_false x0), branch_not (decide_eq_false x1), branch_of (decide_eq_true (by omega))]
      by_cases y2 : Y ≥ 0
      · rw [branch_of (decide_eq_true y2), decide_eq_false (show ¬ Z < 0 by omega)]; exact ⟨_, rfl⟩
      · rw [branch_not (decide_eq_false y2)]; exact ⟨_, rfl⟩
theorem va_row {r : List AV} (h : Ty.Shape tyVa r) : isRow tVa r = true := by
  obtain ⟨v, rfl, _⟩ := va_shape h
  rfl
theorem row_shape {b : Nat} {xs : List AV} (h : Ty.Shape (.sl tyVa b) xs) : ∃ z l, xs = [.ns z 3 l] ∧ okV l = true ∧ (z = true → l = []) ∧ ∀ r ∈ l, Ty.Shape tyVa r := by
  obtain ⟨z, l, h1, h2, h3, h4, h5⟩ := h
  exact ⟨z, l, h1, List.all_eq_true.mpr fun r hr => va_row (h5 r hr), h2, h5⟩
theorem order_law (as0 as1 as2 : List AV) (s0 : Ty.Shape (.sl tyVa 32) as0) (s1 : Ty.Shape (.sl tyVa 32) as1) (s2 : Ty.Shape (.sl tyVa 32) as2) : ∃ F st, f6.run F [(Ty.sl tyVa 32).AV' as0, (Ty.sl tyVa 32).AV' as1, (Ty.sl tyVa 32).AV' as2] ⟨[], []⟩ = some (.ret (.bool true), st) := by
  obtain ⟨x, a, rfl, ha, _⟩ := row_shape s0
  obtain ⟨y, b, rfl, hb, _⟩ := row_shape s1
  obtain ⟨z, c, rfl, hc, _⟩ := row_shape s2
  exact ⟨0, order_true x y z a b c ha hb hc⟩
end Go.Proofs.YtcfedmheblbdnaaDoor.V
