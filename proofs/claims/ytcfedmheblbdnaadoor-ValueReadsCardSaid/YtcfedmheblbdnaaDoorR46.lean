/- Merged out of 27 texts: what the claim's code comes to, and why. -/
import Derived.Test.YtcfedmheblbdnaaDoorRows
import Derived.WalkKit
import Derived.ProofKit
import Derived.OpenShut
import Derived.LaidMore
import Derived.LaidLaws
import Derived.Test.YtcfedmheblbdnaaDoorR45
/- The functions' pieces, as told by gen.py. -/
set_option linter.unusedVariables false
set_option maxRecDepth 20000
namespace Go.Proofs.YtcfedmheblbdnaaDoor.V
open Go Go.V Go.RowKit

theorem if73 : ifcB Tryd.prog 73 = true := by kernel_rfl
theorem cp99 : (Tryd.prog.info? 99).map (·.comparable) = some true := by kernel_rfl

/-! ### 79: internal/strconv.ParseInt (9, 3, 3); results 6, 7; slots: 0 s, 1 base, 2 bitSize, 3 s, 4 base, 5 bitSize, 6 i, 7 err, 8 neg, 9 un, 10 cutoff, 11 n -/
noncomputable def f79_b : Sim Tryd.prog :=
 (.seq (.live [0, 1, 2] (.region 0 [
 ⟨(opAssign (some 6) (.const (Value.int IntKind.i64 0)) 2 "atoi.go:172" #[]).op, none⟩,
 ⟨(opAssign (some 7) (.const Value.nilIface) 73 "atoi.go:172" #[eC 0]).op, none⟩
 ] (by kernel_rfl)))
 (.seq (.seq (.live [0, 1, 2, 13] (.region 1 [
 ⟨(opMove (some 12) (.tmp 0) 9 "atoi.go:175" #[]).op, none⟩,
 ⟨(opBinS (some 13) .eql 9 (.tmp 12) (.const (Value.string { data := #[] })) 9 4 "atoi.go:175" #[eD 0]).op, none⟩
 ] (by kernel_rfl)))
 (.cond (.tmp 13)
 (.seq (.live [6, 7] (.region 2 [
 ⟨(opMakeIface (some 14) 99 (.const (Value.int IntKind.i64 2)) (.int .i64) Tryd.underlying99 (by kernel_rfl) 73 "atoi.go:176" #[{ on := 1, ground := (Ground.gcOnly Departure.lateStores) }]).op, none⟩,
 ⟨(opAssign (some 6) (.const (Value.int IntKind.i64 0)) 2 "atoi.go:176" #[{ on := 0, ground := (Ground.textOnly Departure.lateStores) }]).op, none⟩,
 ⟨(opAssign (some 7) (.tmp 14) 73 "atoi.go:176" #[eD 0, eC 1, eP 0, eP 1]).op, none⟩
 ] (by kernel_rfl)))
 (.live [6, 7] .ret))
 .skip))
 (.seq (.live [0, 1, 2, 8] (.region 3 [
 ⟨(opAssign (some 8) (.const (Value.bool false)) 4 "atoi.go:180" #[]).op, none⟩
 ] (by kernel_rfl)))
 (.seq (.seq (.live [0, 1, 2, 8, 16] (.region 4 [
 ⟨(opMove (some 15) (.tmp 0) 9 "atoi.go:181" #[]).op, none⟩,
 ⟨(opIndexStrW (some 16) 9 (.tmp 15) (.const (Value.int IntKind.i64 0)) Tryd.underlying9 5 "atoi.go:181" #[eD 0]).op, none⟩
 ] (by kernel_rfl)))
 (.block 0 (.seq (.live [0, 1, 2, 8, 16, 17] (.region 5 [
 ⟨(opBin (some 18) .eql 5 (.tmp 16) (.const (Value.int IntKind.u8 43)) 5 4 "atoi.go:182" #[]).op, none⟩,
 ⟨(opAssign (some 17) (.tmp 18) 4 "atoi.go:182" #[eD 0]).op, none⟩
 ] (by kernel_rfl)))
 (.cond (.tmp 17)
 (.live [0, 1, 2, 8] (.region 6 [
 ⟨(opMove (some 19) (.tmp 0) 9 "atoi.go:183" #[]).op, none⟩,
 ⟨(opSliceStrW (some 20) 9 (.tmp 19) (some (.const (Value.int IntKind.i64 1))) none Tryd.underlying9 9 "atoi.go:183" #[eD 0]).op, none⟩,
 ⟨(opAssign (some 0) (.tmp 20) 9 "atoi.go:183" #[eD 1, eP 0, eP 1]).op, none⟩
 ] (by kernel_rfl)))
 (.seq (.live [0, 1, 2, 8, 21] (.region 7 [
 ⟨(opBin (some 22) .eql 5 (.tmp 16) (.const (Value.int IntKind.u8 45)) 5 4 "atoi.go:184" #[]).op, none⟩,
 ⟨(opAssign (some 21) (.tmp 22) 4 "atoi.go:184" #[eD 0]).op, none⟩
 ] (by kernel_rfl)))
 (.cond (.tmp 21)
 (.seq (.live [0, 1, 2] (.region 8 [
 ⟨(opMove (some 23) (.tmp 0) 9 "atoi.go:185" #[]).op, none⟩,
 ⟨(opSliceStrW (some 24) 9 (.tmp 23) (some (.const (Value.int IntKind.i64 1))) none Tryd.underlying9 9 "atoi.go:185" #[eD 0]).op, none⟩,
 ⟨(opAssign (some 0) (.tmp 24) 9 "atoi.go:185" #[eD 1, eP 0, eP 1]).op, none⟩
 ] (by kernel_rfl)))
 (.live [0, 1, 2, 8] (.region 9 [
 ⟨(opAssign (some 8) (.const (Value.bool true)) 4 "atoi.go:186" #[]).op, none⟩
 ] (by kernel_rfl))))
 .skip))))))
 (.seq (.live [0, 1, 2, 8] (.region 10 [
 ⟨(opAssign (some 9) (.const (Value.int IntKind.u64 0)) 84 "atoi.go:190" #[]).op, none⟩
 ] (by kernel_rfl)))
 (.seq (.live [2, 7, 8, 9] (.region 11 [
 ⟨(opMove (some 26) (.tmp 0) 9 "atoi.go:191" #[]).op, none⟩,
 ⟨(opMove (some 27) (.tmp 1) 3 "atoi.go:191" #[]).op, none⟩,
 ⟨(opMove (some 28) (.tmp 2) 3 "atoi.go:191" #[]).op, none⟩,
 ⟨(opCallP p90 (some 29) [(.tmp 26), (.tmp 27), (.tmp 28)] #[9, 3, 3] 111 "atoi.go:191" #[eD 0, eD 1, eD 2]).op, none⟩,
 ⟨(opMove (some 25) (.tmp 29) 111 "atoi.go:191" #[eD 3]).op, none⟩,
 ⟨(opExtract (some 30) (.tmp 25) 0 84 "atoi.go:191" #[eD 4]).op, none⟩,
 ⟨(opExtract (some 31) (.tmp 25) 1 73 "atoi.go:191" #[eD 4, { on := 7, ground := (Ground.gcOnly Departure.lateStores) }]).op, none⟩,
 ⟨(opAssign (some 9) (.tmp 30) 84 "atoi.go:191" #[eD 5, eC 3, eP 0, eP 1, eP 2, eP 3, eP 4, eP 5, { on := 6, ground := (Ground.textOnly Departure.lateStores) }]).op, none⟩,
 ⟨(opAssign (some 7) (.tmp 31) 73 "atoi.go:191" #[eD 6, eC 7, eP 0, eP 1, eP 2, eP 3, eP 4, eP 5, eP 6, eP 7]).op, none⟩
 ] (by kernel_rfl)))
 (.seq (.seq (.live [2, 7, 8, 9, 38] (.region 12 [
 ⟨(opMove (some 32) (.tmp 7) 73 "atoi.go:192" #[]).op, none⟩,
 ⟨(opNe (some 33) 73 d73 ud73 (.tmp 32) (.const Value.nilIface) (.inl rfl) 73 4 "atoi.go:192" #[eD 0]).op, none⟩,
 ⟨(opMove (some 34) (.tmp 33) 4 "atoi.go:192" #[eD 1]).op, none⟩,
 ⟨(opMove (some 35) (.tmp 7) 73 "atoi.go:192" #[eG 2]).op, (some (2, 34, true))⟩,
 ⟨(opMakeIface (some 36) 99 (.const (Value.int IntKind.i64 1)) (.int .i64) Tryd.underlying99 (by kernel_rfl) 73 "atoi.go:192" #[eG 2]).op, (some (2, 34, true))⟩,
 ⟨(opNeI (some 37) 73 99 .i64 if73 Tryd.underlying99 cp99 (.tmp 35) (.tmp 36) 73 4 "atoi.go:192" #[eD 3, eD 4, eG 2]).op, (some (2, 34, true))⟩,
 ⟨(opPick (some 38) (.tmp 34) (.tmp 37) (.const (Value.bool false)) 4 "atoi.go:192" #[eD 2, eD 5]).op, none⟩
 ] (by kernel_rfl)))
 (.cond (.tmp 38)
 (.seq (.live [6, 7] (.region 13 [
 ⟨(opMove (some 39) (.tmp 7) 73 "atoi.go:193" #[{ on := 1, ground := (Ground.gcOnly Departure.lateStores) }]).op, none⟩,
 ⟨(opAssign (some 6) (.const (Value.int IntKind.i64 0)) 2 "atoi.go:193" #[{ on := 0, ground := (Ground.textOnly Departure.lateStores) }]).op, none⟩,
 ⟨(opAssign (some 7) (.tmp 39) 73 "atoi.go:193" #[eD 0, eC 1, eP 0, eP 1]).op, none⟩
 ] (by kernel_rfl)))
 (.live [6, 7] .ret))
 .skip))
 (.seq (.seq (.live [2, 8, 9, 41] (.region 14 [
 ⟨(opMove (some 40) (.tmp 2) 3 "atoi.go:196" #[]).op, none⟩,
 ⟨(opBin (some 41) .eql 3 (.tmp 40) (.const (Value.int IntKind.i64 0)) 3 4 "atoi.go:196" #[eD 0]).op, none⟩
 ] (by kernel_rfl)))
 (.cond (.tmp 41)
 (.live [2, 8, 9] (.region 15 [
 ⟨(opAssign (some 2) (.const (Value.int IntKind.i64 64)) 3 "atoi.go:197" #[]).op, none⟩
 ] (by kernel_rfl)))
 .skip))
 (.seq (.live [8, 9, 10] (.region 16 [
 ⟨(opMove (some 42) (.tmp 2) 3 "atoi.go:200" #[]).op, none⟩,
 ⟨(opBin (some 43) .sub 3 (.tmp 42) (.const (Value.int IntKind.i64 1)) 3 3 "atoi.go:200" #[eD 0]).op, none⟩,
 ⟨(opConvInt (some 44) 3 80 (.tmp 43) (.int .i64) Tryd.underlying3 .u64 Tryd.underlying80 80 "atoi.go:200" #[eD 1]).op, none⟩,
 ⟨(opBin (some 45) .shl 84 (.const (Value.int IntKind.u64 1)) (.tmp 44) 80 84 "atoi.go:200" #[eD 2]).op, none⟩,
 ⟨(opAssign (some 10) (.tmp 45) 84 "atoi.go:200" #[eD 3, eP 0, eP 1, eP 2, eP 3]).op, none⟩
 ] (by kernel_rfl)))
 (.seq (.seq (.live [8, 9, 10, 52] (.region 17 [
 ⟨(opMove (some 46) (.tmp 8) 4 "atoi.go:201" #[]).op, none⟩,
 ⟨(opNot (some 47) 4 (.tmp 46) 4 "atoi.go:201" #[eD 0]).op, none⟩,
 ⟨(opMove (some 48) (.tmp 47) 4 "atoi.go:201" #[eD 1]).op, none⟩,
 ⟨(opMove (some 49) (.tmp 9) 84 "atoi.go:201" #[eG 2]).op, (some (2, 48, true))⟩,
 ⟨(opMove (some 50) (.tmp 10) 84 "atoi.go:201" #[eG 2]).op, (some (2, 48, true))⟩,
 ⟨(opBin (some 51) .geq 84 (.tmp 49) (.tmp 50) 84 4 "atoi.go:201" #[eD 3, eD 4, eG 2]).op, (some (2, 48, true))⟩,
 ⟨(opPick (some 52) (.tmp 48) (.tmp 51) (.const (Value.bool false)) 4 "atoi.go:201" #[eD 2, eD 5]).op, none⟩
 ] (by kernel_rfl)))
 (.cond (.tmp 52)
 (.seq (.live [6, 7] (.region 18 [
 ⟨(opMove (some 53) (.tmp 10) 84 "atoi.go:202" #[]).op, none⟩,
 ⟨(opBin (some 54) .sub 84 (.tmp 53) (.const (Value.int IntKind.u64 1)) 84 84 "atoi.go:202" #[eD 0]).op, none⟩,
 ⟨(opConvInt (some 55) 84 2 (.tmp 54) (.int .u64) Tryd.underlying84 .i64 Tryd.underlying2 2 "atoi.go:202" #[eD 1]).op, none⟩,
 ⟨(opMakeIface (some 56) 99 (.const (Value.int IntKind.i64 1)) (.int .i64) Tryd.underlying99 (by kernel_rfl) 73 "atoi.go:202" #[{ on := 4, ground := (Ground.gcOnly Departure.lateStores) }]).op, none⟩,
 ⟨(opAssign (some 6) (.tmp 55) 2 "atoi.go:202" #[eD 2, eP 0, eP 1, eP 2, { on := 3, ground := (Ground.textOnly Departure.lateStores) }]).op, none⟩,
 ⟨(opAssign (some 7) (.tmp 56) 73 "atoi.go:202" #[eD 3, eC 4, eP 0, eP 1, eP 2, eP 3, eP 4]).op, none⟩
 ] (by kernel_rfl)))
 (.live [6, 7] .ret))
 .skip))
 (.seq (.seq (.live [8, 9, 10, 62] (.region 19 [
 ⟨(opMove (some 57) (.tmp 8) 4 "atoi.go:204" #[]).op, none⟩,
 ⟨(opMove (some 58) (.tmp 57) 4 "atoi.go:204" #[eD 0]).op, none⟩,
 ⟨(opMove (some 59) (.tmp 9) 84 "atoi.go:204" #[eG 1]).op, (some (1, 58, true))⟩,
 ⟨(opMove (some 60) (.tmp 10) 84 "atoi.go:204" #[eG 1]).op, (some (1, 58, true))⟩,
 ⟨(opBin (some 61) .gtr 84 (.tmp 59) (.tmp 60) 84 4 "atoi.go:204" #[eD 2, eD 3, eG 1]).op, (some (1, 58, true))⟩,
 ⟨(opPick (some 62) (.tmp 58) (.tmp 61) (.const (Value.bool false)) 4 "atoi.go:204" #[eD 1, eD 4]).op, none⟩
 ] (by kernel_rfl)))
 (.cond (.tmp 62)
 (.seq (.live [6, 7] (.region 20 [
 ⟨(opMove (some 63) (.tmp 10) 84 "atoi.go:205" #[]).op, none⟩,
 ⟨(opConvInt (some 64) 84 2 (.tmp 63) (.int .u64) Tryd.underlying84 .i64 Tryd.underlying2 2 "atoi.go:205" #[eD 0]).op, none⟩,
 ⟨(opNeg (some 65) 2 (.tmp 64) 2 "atoi.go:205" #[eD 1]).op, none⟩,
 ⟨(opMakeIface (some 66) 99 (.const (Value.int IntKind.i64 1)) (.int .i64) Tryd.underlying99 (by kernel_rfl) 73 "atoi.go:205" #[{ on := 4, ground := (Ground.gcOnly Departure.lateStores) }]).op, none⟩,
 ⟨(opAssign (some 6) (.tmp 65) 2 "atoi.go:205" #[eD 2, eP 0, eP 1, eP 2, { on := 3, ground := (Ground.textOnly Departure.lateStores) }]).op, none⟩,
 ⟨(opAssign (some 7) (.tmp 66) 73 "atoi.go:205" #[eD 3, eC 4, eP 0, eP 1, eP 2, eP 3, eP 4]).op, none⟩
 ] (by kernel_rfl)))
 (.live [6, 7] .ret))
 .skip))
 (.seq (.live [8, 11] (.region 21 [
 ⟨(opMove (some 67) (.tmp 9) 84 "atoi.go:207" #[]).op, none⟩,
 ⟨(opConvInt (some 68) 84 2 (.tmp 67) (.int .u64) Tryd.underlying84 .i64 Tryd.underlying2 2 "atoi.go:207" #[eD 0]).op, none⟩,
 ⟨(opAssign (some 11) (.tmp 68) 2 "atoi.go:207" #[eD 1, eP 0, eP 1]).op, none⟩
 ] (by kernel_rfl)))
 (.seq (.seq (.live [11, 69] (.region 22 [
 ⟨(opMove (some 69) (.tmp 8) 4 "atoi.go:208" #[]).op, none⟩
 ] (by kernel_rfl)))
 (.cond (.tmp 69)
 (.live [11] (.region 23 [
 ⟨(opMove (some 70) (.tmp 11) 2 "atoi.go:209" #[]).op, none⟩,
 ⟨(opNeg (some 71) 2 (.tmp 70) 2 "atoi.go:209" #[eD 0]).op, none⟩,
 ⟨(opAssign (some 11) (.tmp 71) 2 "atoi.go:209" #[eD 1, eP 0, eP 1]).op, none⟩
 ] (by kernel_rfl)))
 .skip))
 (.seq (.live [6, 7] (.region 24 [
 ⟨(opMove (some 72) (.tmp 11) 2 "atoi.go:211" #[]).op, none⟩,
 ⟨(opAssign (some 6) (.tmp 72) 2 "atoi.go:211" #[eD 0, eP 0]).op, none⟩,
 ⟨(opAssign (some 7) (.const Value.nilIface) 73 "atoi.go:211" #[eC 1, eP 0, eP 1]).op, none⟩
 ] (by kernel_rfl)))
 (.live [6, 7] .ret)))))))))))))))

noncomputable def f79 : Fun Tryd.prog where
 id := 79
 fn := Tryd.f79
 hf := Tryd.func79
 hname := by kernel_rfl
 body := f79_b
 hbody := by kernel_rfl
 res := [rTmp 6, rTmp 7]
 hres := by kernel_rfl
 n := 73
 hn := by kernel_rfl

end Go.Proofs.YtcfedmheblbdnaaDoor.V

/- What the functions' runs come to; the right sides were printed by a tool, Lean checks them. -/
set_option linter.unusedVariables false
set_option maxRecDepth 100000
namespace Go.Proofs.YtcfedmheblbdnaaDoor.V
open Go Go.V Go.RowKit

theorem pi_run (F : Nat) (s : ByteArray) (st : St) :
 (f79.run F [.str s, .int .i64 10, .int .i64 0] st : Ans) =
 branch (AV.bool (s.toList == []))
 (some (Fin.ret (AV.tup [AV.int IntKind.i64 (0 : Int), AV.ifc 99 (AV.int IntKind.i64 (2 : Int))]), st))
 (branch (AV.bool (inT s (0 : Int)))
 (branch (AV.bool (atT s (0 : Int) == (43 : Int)))
 (branch (AV.bool (inSl s (1 : Int) (↑s.size : Int)))
 (branch (AV.bool (cdec ((subT s (1 : Int) (↑s.size : Int)).size ≤ 100000)))
 (branch (AV.bool (puE (subT s (1 : Int) (↑s.size : Int)) 0))
 (branch (AV.bool (decide (puV (subT s (1 : Int) (↑s.size : Int)) ≥ (9223372036854775808 : Int))))
 (some
 (Fin.ret
 (AV.tup
 [AV.int IntKind.i64 (9223372036854775807 : Int),
 AV.ifc 99 (AV.int IntKind.i64 (1 : Int))]),
 st))
 (some
 (Fin.ret
 (AV.tup [AV.int IntKind.i64 (IntKind.i64.wrap (puV (subT s (1 : Int) (↑s.size : Int)))), AV.nilif]),
 st)))
 (branch (AV.bool (puE (subT s (1 : Int) (↑s.size : Int)) 1))
 (branch (AV.bool (decide (puV (subT s (1 : Int) (↑s.size : Int)) ≥ (9223372036854775808 : Int))))
 (some
 (Fin.ret
 (AV.tup
 [AV.int IntKind.i64 (9223372036854775807 : Int),
 AV.ifc 99 (AV.int IntKind.i64 (1 : Int))]),
 st))
 (some
 (Fin.ret
 (AV.tup
 [AV.int IntKind.i64 (IntKind.i64.wrap (puV (subT s (1 : Int) (↑s.size : Int)))), AV.nilif]),
 st)))
 (branch (AV.bool (puE (subT s (1 : Int) (↑s.size : Int)) 2))
 (some
 (Fin.ret (AV.tup [AV.int IntKind.i64 (0 : Int), AV.ifc 99 (AV.int IntKind.i64 (2 : Int))]),
 st))
 none)))
 none)
 none)
 (branch (AV.bool (atT s (0 : Int) == (45 : Int)))
 (branch (AV.bool (inSl s (1 : Int) (↑s.size : Int)))
 (branch (AV.bool (cdec ((subT s (1 : Int) (↑s.size : Int)).size ≤ 100000)))
 (branch (AV.bool (puE (subT s (1 : Int) (↑s.size : Int)) 0))
 (branch (AV.bool (decide (puV (subT s (1 : Int) (↑s.size : Int)) > (9223372036854775808 : Int))))
 (some
 (Fin.ret
 (AV.tup
 [AV.int IntKind.i64 (-9223372036854775808 : Int),
 AV.ifc 99 (AV.int IntKind.i64 (1 : Int))]),
 st))
 (some
 (Fin.ret
 (AV.tup
 [AV.int IntKind.i64
 (IntKind.i64.wrap ((0 : Int) - IntKind.i64.wrap (puV (subT s (1 : Int) (↑s.size : Int))))),
 AV.nilif]),
 st)))
 (branch (AV.bool (puE (subT s (1 : Int) (↑s.size : Int)) 1))
 (branch (AV.bool (decide (puV (subT s (1 : Int) (↑s.size : Int)) > (9223372036854775808 : Int))))
 (some
 (Fin.ret
 (AV.tup
 [AV.int IntKind.i64 (-9223372036854775808 : Int),
 AV.ifc 99 (AV.int IntKind.i64 (1 : Int))]),
 st))
 (some
 (Fin.ret
 (AV.tup
 [AV.int IntKind.i64
 (IntKind.i64.wrap
 ((0 : Int) - IntKind.i64.wrap (puV (subT s (1 : Int) (↑s.size : Int))))),
 AV.nilif]),
 st)))
 (branch (AV.bool (puE (subT s (1 : Int) (↑s.size : Int)) 2))
 (some
 (Fin.ret (AV.tup [AV.int IntKind.i64 (0 : Int), AV.ifc 99 (AV.int IntKind.i64 (2 : Int))]),
 st))
 none)))
 none)
 none)
 (branch (AV.bool (cdec (s.size ≤ 100000)))
 (branch (AV.bool (puE s 0))
 (branch (AV.bool (decide (puV s ≥ (9223372036854775808 : Int))))
 (some
 (Fin.ret
 (AV.tup
 [AV.int IntKind.i64 (9223372036854775807 : Int),
 AV.ifc 99 (AV.int IntKind.i64 (1 : Int))]),
 st))
 (some (Fin.ret (AV.tup [AV.int IntKind.i64 (IntKind.i64.wrap (puV s)), AV.nilif]), st)))
 (branch (AV.bool (puE s 1))
 (branch (AV.bool (decide (puV s ≥ (9223372036854775808 : Int))))
 (some
 (Fin.ret
 (AV.tup
 [AV.int IntKind.i64 (9223372036854775807 : Int),
 AV.ifc 99 (AV.int IntKind.i64 (1 : Int))]),
 st))
 (some (Fin.ret (AV.tup [AV.int IntKind.i64 (IntKind.i64.wrap (puV s)), AV.nilif]), st)))
 (branch (AV.bool (puE s 2))
 (some
 (Fin.ret (AV.tup [AV.int IntKind.i64 (0 : Int), AV.ifc 99 (AV.int IntKind.i64 (2 : Int))]),
 st))
 none)))
 none)))
 none) := by kernel_rfl

end Go.Proofs.YtcfedmheblbdnaaDoor.V

/- Values: ParseInt to the base ten, as a callee. -/
set_option linter.unusedVariables false
namespace Go.Proofs.YtcfedmheblbdnaaDoor.V
open Go Go.V Go.RowKit

def puL (t : List Nat) : Nat × Nat := if t = [] then (0, 2) else puF t 0
theorem puR_eq (s : ByteArray) : puR s = puL (strL s) := opq_eq _
theorem puF_le : ∀ (t : List Nat) (n : Nat), n < 18446744073709551616 → (puF t n).1 < 18446744073709551616 ∧ ((puF t n).2 = 0 ∨ (puF t n) = (18446744073709551615, 1) ∨ (puF t n) = (0, 2))
  | [], n, h => ⟨h, .inl rfl⟩
  | c :: r, n, h => by
    rw [puF]
    split
    · split
      · exact ⟨by decide, .inr (.inl rfl)⟩
      · exact puF_le r _ (by omega)
    · exact ⟨by decide, .inr (.inr rfl)⟩
theorem puL_le (t : List Nat) : (puL t).1 < 18446744073709551616 ∧ ((puL t).2 = 0 ∨ (puL t) = (18446744073709551615, 1) ∨ (puL t) = (0, 2)) := by
  unfold puL
  split
  · exact ⟨by decide, .inr (.inr rfl)⟩
  · exact puF_le t 0 (by decide)
/-- A number with a sign before it or none. -/
def posF (x : Nat × Nat) : Int × Nat := if x.2 = 2 then (0, 2) else if 9223372036854775808 ≤ x.1 then (9223372036854775807, 1) else ((x.1 : Int), 0)
def negF (x : Nat × Nat) : Int × Nat := if x.2 = 2 then (0, 2) else if 9223372036854775808 < x.1 then (-9223372036854775808, 1) else (-(x.1 : Int), 0)
def piF : List Nat → Int × Nat
  | [] => (0, 2)
  | c :: r => if c = 43 then posF (puL r) else if c = 45 then negF (puL r) else posF (puL (c :: r))
def piA (x : Int × Nat) : AV := .tup [.int .i64 x.1, errA x.2]
theorem pos_tree (u : ByteArray) (st : St) :
    (branch (AV.bool (puE u 0))
      (branch (AV.bool (decide (puV u ≥ (9223372036854775808 : Int)))) (some (Fin.ret (AV.tup [AV.int IntKind.i64 (9223372036854775807 : Int), AV.ifc 99 (AV.int IntKind.i64 (1 : Int))]), st)) (some (Fin.ret (AV.tup [AV.int IntKind.i64 (IntKind.i64.wrap (puV u)), AV.nilif]), st)))
      (branch (AV.bool (puE u 1))
        (branch (AV.bool (decide (puV u ≥ (9223372036854775808 : Int)))) (some (Fin.ret (AV.tup [AV.int IntKind.i64 (9223372036854775807 : Int), AV.ifc 99 (AV.int IntKind.i64 (1 : Int))]), st)) (some (Fin.ret (AV.tup [AV.int IntKind.i64 (IntKind.i64.wrap (puV u)), AV.nilif]), st)))
        (branch (AV.bool (puE u 2)) (some (Fin.ret (AV.tup [AV.int IntKind.i64 (0 : Int), AV.ifc 99 (AV.int IntKind.i64 (2 : Int))]), st)) none)) : Ans)
      = some (.ret (piA (posF (puL (strL u)))), st) := by
  obtain ⟨h1, h2⟩ := puL_le (strL u)
  have hv : puV u = ((puL (strL u)).1 : Int) := by rw [puV, opq_eq, puR_eq]
  have he : ∀ e, puE u e = cdec ((puL (strL u)).2 = e) := fun e => by rw [puE, puR_eq]
  rw [hv, he, he, he]
  generalize puL (strL u) = x at *
  obtain ⟨n, e⟩ := x
  simp only at h1 h2 ⊢
  rcases h2 with rfl | h2 | h2
  · rw [branch_of (cdec_iff.mpr rfl), posF, if_neg (show ¬ (0 : Nat) = 2 by decide)]
    by_cases hn : 9223372036854775808 ≤ n
    · rw [branch_of (decide_eq_true (by omega)), if_pos hn]; rfl
    · rw [branch_not (decide_eq_false (by omega)), if_neg hn, wrapS (by omega) (by omega)]; rfl
  · cases h2
    rw [branch_not (by rw [Bool.eq_false_iff, ne_eq, cdec_iff]; decide), branch_of (cdec_iff.mpr rfl), branch_of (by decide)]; rfl
  · cases h2
    rw [branch_not (by rw [Bool.eq_false_iff, ne_eq, cdec_iff]; decide), branch_not (by rw [Bool.eq_false_iff, ne_eq, cdec_iff]; decide), branch_of (cdec_iff.mpr rfl)]; rfl
theorem neg_tree (u : ByteArray) (st : St) :
    (branch (AV.bool (puE u 0))
      (branch (AV.bool (decide (puV u > (9223372036854775808 : Int)))) (some (Fin.ret (AV.tup [AV.int IntKind.i64 (-9223372036854775808 : Int), AV.ifc 99 (AV.int IntKind.i64 (1 : Int))]), st)) (some (Fin.ret (AV.tup [AV.int IntKind.i64 (IntKind.i64.wrap ((0 : Int) - IntKind.i64.wrap (puV u))), AV.nilif]), st)))
      (branch (AV.bool (puE u 1))
        (branch (AV.bool (decide (puV u > (9223372036854775808 : Int)))) (some (Fin.ret (AV.tup [AV.int IntKind.i64 (-9223372036854775808 : Int), AV.ifc 99 (AV.int IntKind.i64 (1 : Int))]), st)) (some (Fin.ret (AV.tup [AV.int IntKind.i64 (IntKind.i64.wrap ((0 : Int) - IntKind.i64.wrap (puV u))), AV.nilif]), st)))
        (branch (AV.bool (puE u 2)) (some (Fin.ret (AV.tup [AV.int IntKind.i64 (0 : Int), AV.ifc 99 (AV.int IntKind.i64 (2 : Int))]), st)) none)) : Ans)
      = some (.ret (piA (negF (puL (strL u)))), st) := by
  obtain ⟨h1, h2⟩ := puL_le (strL u)
  have hv : puV u = ((puL (strL u)).1 : Int) := by rw [puV, opq_eq, puR_eq]
  have he : ∀ e, puE u e = cdec ((puL (strL u)).2 = e) := fun e => by rw [puE, puR_eq]
  rw [hv, he, he, he]
  generalize puL (strL u) = x at *
  obtain ⟨n, e⟩ := x
  simp only at h1 h2 ⊢
  rcases h2 with rfl | h2 | h2
  · rw [branch_of (cdec_iff.mpr rfl), negF, if_neg (show ¬ (0 : Nat) = 2 by decide)]
    by_cases hn : 9223372036854775808 < n
    · rw [branch_of (decide_eq_true (by omega)), if_pos hn]; rfl
    · rw [branch_not (decide_eq_false (by omega)), if_neg hn]
      by_cases hm : n = 9223372036854775808
      · subst hm; rfl
      · rw [wrapS (n := ((n : Nat) : Int)) (by omega) (by omega), wrapS (by omega) (by omega), Int.zero_sub]; rfl
  · cases h2
    rw [branch_not (by rw [Bool.eq_false_iff, ne_eq, cdec_iff]; decide), branch_of (cdec_iff.mpr rfl), branch_of (by decide)]; rfl
  · cases h2
    rw [branch_not (by rw [Bool.eq_false_iff, ne_eq, cdec_iff]; decide), branch_not (by rw [Bool.eq_false_iff, ne_eq, cdec_iff]; decide), branch_of (cdec_iff.mpr rfl)]; rfl
theorem empty_iff (s : ByteArray) : (s.toList == []) = decide (strL s = []) := by
  rw [ByteArray.toList_eq, Bool.eq_iff_iff, beq_iff_eq, decide_eq_true_eq]; simp [strL]
theorem tail_text {s : ByteArray} {c : Nat} {r : List Nat} (h : strL s = c :: r) : inT s (0 : Int) = true ∧ atT s (0 : Int) = (c : Nat) ∧ inSl s (1 : Int) (s.size : Int) = true ∧ strL (subT s (1 : Int) (s.size : Int)) = r := by
  have hsz := strL_size s
  rw [h, List.length_cons] at hsz
  refine ⟨inT_iff.mpr ⟨by omega, by rw [h]; simp⟩, by rw [atT, opq_eq, h]; rfl, inSl_iff.mpr ⟨by omega, by omega, by rw [h, List.length_cons]; omega⟩, ?_⟩
  rw [subT_list, h, Int.toNat_natCast, hsz]
  show ((c :: r).take (r.length + 1)).drop 1 = r
  simp
theorem pi_eq (s : ByteArray) (hs : s.size ≤ 100000) (st : St) : f79.run 0 [.str s, .int .i64 10, .int .i64 0] st = some (.ret (piA (piF (strL s))), st) := by
  rw [pi_run, empty_iff]
  cases hl : strL s with
  | nil => rfl
  | cons c r =>
    obtain ⟨h1, h2, h3, h4⟩ := tail_text hl
    have hsz := strL_size s
    rw [hl, List.length_cons] at hsz
    have hsub : (subT s (1 : Int) (s.size : Int)).size ≤ 100000 := by rw [strL_size, h4]; omega
    rw [branch_not (decide_eq_false (by simp)), branch_of h1, h2, piF]
    by_cases c1 : c = 43
    · rw [branch_of (show (((c : Nat) : Int) == 43) = true by rw [beq_iff_eq]; omega), branch_of h3, branch_of (cdec_iff.mpr hsub), pos_tree, h4, if_pos c1]
    · rw [branch_not (show (((c : Nat) : Int) == 43) = false by rw [beq_eq_false_iff_ne]; omega), if_neg c1]
      by_cases c2 : c = 45
      · rw [branch_of (show (((c : Nat) : Int) == 45) = true by rw [beq_iff_eq]; omega), branch_of h3, branch_of (cdec_iff.mpr hsub), neg_tree, h4, if_pos c2]
      · rw [branch_not (show (((c : Nat) : Int) == 45) = false by rw [beq_eq_false_iff_ne]; omega), branch_of (cdec_iff.mpr hs), pos_tree, hl, if_neg c2]
/-- A callee that answers a number and whether something was wrong: the three kinds told apart. -/
noncomputable def kOf (O : POrc Tryd.prog) (dec : List AV → Option ByteArray) (r : ByteArray → Int × Nat)
    (h : ∀ args s, dec args = some s → cdec (s.size ≤ 100000) = true → ∀ k, O.F args k = k (piA (r s))) : POrc Tryd.prog := byF O
  (fun args k => match dec args with
    | some s => match cdec (s.size ≤ 100000) with
      | true => branch (.bool (cdec ((r s).2 = 0))) (k (.tup [.int .i64 (opq (r s).1), .nilif])) (branch (.bool (cdec ((r s).2 = 1))) (k (.tup [.int .i64 (opq (r s).1), .ifc 99 (.int .i64 1)])) (branch (.bool (cdec ((r s).2 = 2))) (k (.tup [.int .i64 (opq (r s).1), .ifc 99 (.int .i64 2)])) none))
      | false => none
    | none => none)
  fun k args fin h' => by
    split at h'
    · rename_i s hs
      split at h'
      · rename_i hc
        rw [h args s hs hc]
        rw [opq_eq] at h'
        cases h0 : cdec ((r s).2 = 0) with
        | true =>
          rw [h0, branch_true] at h'
          rw [piA, cdec_iff.mp h0]; exact h'
        | false =>
          rw [h0, branch_false] at h'
          cases h1 : cdec ((r s).2 = 1) with
          | true =>
            rw [h1, branch_true] at h'
            rw [piA, cdec_iff.mp h1]; exact h'
          | false =>
            rw [h1, branch_false] at h'
            cases h2 : cdec ((r s).2 = 2) with
            | true =>
              rw [h2, branch_true] at h'
              rw [piA, cdec_iff.mp h2]; exact h'
            | false => rw [h2, branch_false] at h'; cases h'
      · cases h'
    · cases h'
theorem piA_frz (x : Int × Nat) : frz (piA x) = piA x := by
  show AV.tup [_, frz.frz1 (errA _)] = _
  rw [errA_frz]; rfl
noncomputable def p79r : POrc Tryd.prog := f79.pureIf decP (fun s => [.str s, .int .i64 10, .int .i64 0]) decP_enc (fun s => cdec (s.size ≤ 100000)) (fun s => piA (piF (strL s))) (fun s _ => ⟨piA_frz _, fun _ _ => ⟨trivial, errA_scoped _ _ _, trivial⟩⟩) fun s h => ⟨0, fun st => pi_eq s (cdec_iff.mp h) st⟩
noncomputable def p79 : POrc Tryd.prog := kOf p79r decP (fun s => piF (strL s)) fun args s hd hp k => by simp only [p79r, Fun.pureIf, hd, hp]
end Go.Proofs.YtcfedmheblbdnaaDoor.V

/- The functions' pieces, as told by gen.py. -/
set_option linter.unusedVariables false
set_option maxRecDepth 20000
namespace Go.Proofs.YtcfedmheblbdnaaDoor.V
open Go Go.V Go.RowKit


/-! ### 70: internal/strconv.Atoi (9); results 2, 3; slots: 0 s, 1 s, 4 sLen, 5 s0, 6 n, 7 _, 8 ch, 9 i64, 10 err -/
/-- A loop's round; at its head live: 5 s0, 6 n, 47 , 48 , 49  -/
noncomputable def f70_l0 : Sim Tryd.prog :=
 (.seq (.live [5, 6, 47, 48, 49, 50] (.region 10 [
 ⟨(opBin (some 50) .lss 3 (.tmp 49) (.tmp 48) 3 0 "atoi.go:231" #[]).op, none⟩
 ] (by kernel_rfl)))
 (.seq (.cond (.tmp 50)
 .skip
 (.live [5, 6] (.exit 0)))
 (.seq (.block 1 (.seq (.live [5, 6, 8, 47, 48, 49] (.region 11 [
 ⟨(opIndexAddrT (some 51) 46 (.tmp 47) (.tmp 49) 5 1 Tryd.underlying46 sz5 0 "atoi.go:231" #[]).op, none⟩,
 ⟨(opLoadT (.one (.int .u8)) (some 52) 5 (.tmp 51) (.int .u8) Tryd.underlying5 1 sz5 (by kernel_rfl) 5 "atoi.go:231" #[eD 0]).op, none⟩,
 ⟨(opAssign (some 8) (.tmp 52) 5 "atoi.go:231" #[eD 1, eP 0, eP 1]).op, none⟩
 ] (by kernel_rfl)))
 (.seq (.live [5, 6, 8, 47, 48, 49] (.region 12 [
 ⟨(opMove (some 53) (.tmp 8) 5 "atoi.go:232" #[]).op, none⟩,
 ⟨(opBin (some 54) .sub 5 (.tmp 53) (.const (Value.int IntKind.u8 48)) 5 5 "atoi.go:232" #[eD 0]).op, none⟩,
 ⟨(opAssign (some 8) (.tmp 54) 5 "atoi.go:232" #[eD 1, eP 0, eP 1]).op, none⟩
 ] (by kernel_rfl)))
 (.seq (.seq (.live [5, 6, 8, 47, 48, 49, 56] (.region 13 [
 ⟨(opMove (some 55) (.tmp 8) 5 "atoi.go:233" #[]).op, none⟩,
 ⟨(opBin (some 56) .gtr 5 (.tmp 55) (.const (Value.int IntKind.u8 9)) 5 4 "atoi.go:233" #[eD 0]).op, none⟩
 ] (by kernel_rfl)))
 (.cond (.tmp 56)
 (.seq (.live [2, 3] (.region 14 [
 ⟨(opMakeIface (some 57) 99 (.const (Value.int IntKind.i64 2)) (.int .i64) Tryd.underlying99 (by kernel_rfl) 73 "atoi.go:234" #[{ on := 1, ground := (Ground.gcOnly Departure.lateStores) }]).op, none⟩,
 ⟨(opAssign (some 2) (.const (Value.int IntKind.i64 0)) 3 "atoi.go:234" #[{ on := 0, ground := (Ground.textOnly Departure.lateStores) }]).op, none⟩,
 ⟨(opAssign (some 3) (.tmp 57) 73 "atoi.go:234" #[eD 0, eC 1, eP 0, eP 1]).op, none⟩
 ] (by kernel_rfl)))
 (.live [2, 3] .ret))
 .skip))
 (.live [5, 6, 47, 48, 49] (.region 15 [
 ⟨(opMove (some 58) (.tmp 6) 3 "atoi.go:236" #[]).op, none⟩,
 ⟨(opBin (some 59) .mul 3 (.tmp 58) (.const (Value.int IntKind.i64 10)) 3 3 "atoi.go:236" #[eD 0]).op, none⟩,
 ⟨(opMove (some 60) (.tmp 8) 5 "atoi.go:236" #[]).op, none⟩,
 ⟨(opConvInt (some 61) 5 3 (.tmp 60) (.int .u8) Tryd.underlying5 .i64 Tryd.underlying3 3 "atoi.go:236" #[eD 2]).op, none⟩,
 ⟨(opBin (some 62) .add 3 (.tmp 59) (.tmp 61) 3 3 "atoi.go:236" #[eD 1, eD 3]).op, none⟩,
 ⟨(opAssign (some 6) (.tmp 62) 3 "atoi.go:236" #[eD 4, eP 0, eP 1, eP 2, eP 3, eP 4]).op, none⟩
 ] (by kernel_rfl)))))))
 (.live [5, 6, 47, 48, 49] (.region 16 [
 ⟨(opBin (some 63) .add 3 (.tmp 49) (.const (Value.int IntKind.i64 1)) 3 3 "atoi.go:231" #[]).op, none⟩,
 ⟨(opMove (some 49) (.tmp 63) 3 "atoi.go:231" #[eD 0]).op, none⟩
 ] (by kernel_rfl))))))

/-- What follows a loop. -/
noncomputable def f70_r0 : Sim Tryd.prog :=
 (.seq (.seq (.live [6, 66] (.region 17 [
 ⟨(opMove (some 64) (.tmp 5) 9 "atoi.go:238" #[]).op, none⟩,
 ⟨(opIndexStrW (some 65) 9 (.tmp 64) (.const (Value.int IntKind.i64 0)) Tryd.underlying9 5 "atoi.go:238" #[eD 0]).op, none⟩,
 ⟨(opBin (some 66) .eql 5 (.tmp 65) (.const (Value.int IntKind.u8 45)) 5 4 "atoi.go:238" #[eD 1]).op, none⟩
 ] (by kernel_rfl)))
 (.cond (.tmp 66)
 (.live [6] (.region 18 [
 ⟨(opMove (some 67) (.tmp 6) 3 "atoi.go:239" #[]).op, none⟩,
 ⟨(opNeg (some 68) 3 (.tmp 67) 3 "atoi.go:239" #[eD 0]).op, none⟩,
 ⟨(opAssign (some 6) (.tmp 68) 3 "atoi.go:239" #[eD 1, eP 0, eP 1]).op, none⟩
 ] (by kernel_rfl)))
 .skip))
 (.seq (.live [2, 3] (.region 19 [
 ⟨(opMove (some 69) (.tmp 6) 3 "atoi.go:241" #[]).op, none⟩,
 ⟨(opAssign (some 2) (.tmp 69) 3 "atoi.go:241" #[eD 0, eP 0]).op, none⟩,
 ⟨(opAssign (some 3) (.const Value.nilIface) 73 "atoi.go:241" #[eC 1, eP 0, eP 1]).op, none⟩
 ] (by kernel_rfl)))
 (.live [2, 3] .ret)))

/-- What follows a loop. -/
noncomputable def f70_r1 : Sim Tryd.prog :=
 (.seq (.live [9, 10] (.region 20 [
 ⟨(opMove (some 71) (.tmp 0) 9 "atoi.go:245" #[]).op, none⟩,
 ⟨(opCallP p79 (some 72) [(.tmp 71), (.const (Value.int IntKind.i64 10)), (.const (Value.int IntKind.i64 0))] #[9, 3, 3] 100 "atoi.go:245" #[eD 0]).op, none⟩,
 ⟨(opMove (some 70) (.tmp 72) 100 "atoi.go:245" #[eD 1]).op, none⟩,
 ⟨(opExtract (some 73) (.tmp 70) 0 2 "atoi.go:245" #[eD 2]).op, none⟩,
 ⟨(opExtract (some 74) (.tmp 70) 1 73 "atoi.go:245" #[eD 2, { on := 5, ground := (Ground.gcOnly Departure.lateStores) }]).op, none⟩,
 ⟨(opAssign (some 9) (.tmp 73) 2 "atoi.go:245" #[eD 3, eC 1, eP 0, eP 1, eP 2, eP 3, { on := 4, ground := (Ground.textOnly Departure.lateStores) }]).op, none⟩,
 ⟨(opAssign (some 10) (.tmp 74) 73 "atoi.go:245" #[eD 4, eC 5, eP 0, eP 1, eP 2, eP 3, eP 4, eP 5]).op, none⟩
 ] (by kernel_rfl)))
 (.seq (.live [2, 3] (.region 21 [
 ⟨(opMove (some 75) (.tmp 9) 2 "atoi.go:246" #[]).op, none⟩,
 ⟨(opMove (some 76) (.tmp 10) 73 "atoi.go:246" #[{ on := 2, ground := (Ground.gcOnly Departure.lateStores) }]).op, none⟩,
 ⟨(opAssign (some 2) (.tmp 75) 3 "atoi.go:246" #[eD 0, eP 0, { on := 1, ground := (Ground.textOnly Departure.lateStores) }]).op, none⟩,
 ⟨(opAssign (some 3) (.tmp 76) 73 "atoi.go:246" #[eD 1, eC 2, eP 0, eP 1, eP 2]).op, none⟩
 ] (by kernel_rfl)))
 (.live [2, 3] .ret)))

noncomputable def f70_b : Sim Tryd.prog :=
 (.seq (.live [0] (.region 0 [
 ⟨(opAssign (some 2) (.const (Value.int IntKind.i64 0)) 3 "atoi.go:215" #[]).op, none⟩,
 ⟨(opAssign (some 3) (.const Value.nilIface) 73 "atoi.go:215" #[eC 0]).op, none⟩
 ] (by kernel_rfl)))
 (.seq (.live [0, 4] (.region 1 [
 ⟨(opMove (some 11) (.tmp 0) 9 "atoi.go:218" #[]).op, none⟩,
 ⟨(opLen (some 12) (.tmp 11) 9 .string Tryd.underlying9 3 "atoi.go:218" #[eD 0]).op, none⟩,
 ⟨(opAssign (some 4) (.tmp 12) 3 "atoi.go:218" #[eD 1, eP 0, eP 1]).op, none⟩
 ] (by kernel_rfl)))
 (.seq (.seq (.live [0, 30] (.region 2 [
 ⟨(opMove (some 13) (.const (Value.bool false)) 4 "atoi.go:219" #[]).op, none⟩,
 ⟨(opMove (some 14) (.tmp 4) 3 "atoi.go:219" #[eG 0]).op, (some (0, 13, true))⟩,
 ⟨(opBin (some 15) .lss 3 (.const (Value.int IntKind.i64 0)) (.tmp 14) 3 4 "atoi.go:219" #[eD 1, eG 0]).op, (some (0, 13, true))⟩,
 ⟨(opMove (some 16) (.tmp 15) 4 "atoi.go:219" #[eD 2, eC 0, eG 0]).op, (some (0, 13, true))⟩,
 ⟨(opMove (some 17) (.tmp 4) 3 "atoi.go:219" #[eG 3]).op, (some (3, 16, true))⟩,
 ⟨(opBin (some 18) .lss 3 (.tmp 17) (.const (Value.int IntKind.i64 10)) 3 4 "atoi.go:219" #[eD 4, eG 3]).op, (some (3, 16, true))⟩,
 ⟨(opPick (some 19) (.tmp 16) (.tmp 18) (.const (Value.bool false)) 4 "atoi.go:219" #[eD 3, eD 5, eG 0]).op, (some (0, 13, true))⟩,
 ⟨(opPick (some 20) (.tmp 13) (.tmp 19) (.const (Value.bool false)) 4 "atoi.go:219" #[eD 0, eD 6]).op, none⟩,
 ⟨(opMove (some 21) (.tmp 20) 4 "atoi.go:219" #[eD 7, eC 3]).op, none⟩,
 ⟨(opMove (some 22) (.const (Value.bool true)) 4 "atoi.go:219" #[eC 8, eG 8]).op, (some (8, 21, false))⟩,
 ⟨(opMove (some 23) (.tmp 4) 3 "atoi.go:219" #[eG 9]).op, (some (9, 22, true))⟩,
 ⟨(opBin (some 24) .lss 3 (.const (Value.int IntKind.i64 0)) (.tmp 23) 3 4 "atoi.go:219" #[eD 10, eG 9]).op, (some (9, 22, true))⟩,
 ⟨(opMove (some 25) (.tmp 24) 4 "atoi.go:219" #[eD 11, eC 9, eG 9]).op, (some (9, 22, true))⟩,
 ⟨(opMove (some 26) (.tmp 4) 3 "atoi.go:219" #[eG 12]).op, (some (12, 25, true))⟩,
 ⟨(opBin (some 27) .lss 3 (.tmp 26) (.const (Value.int IntKind.i64 19)) 3 4 "atoi.go:219" #[eD 13, eG 12]).op, (some (12, 25, true))⟩,
 ⟨(opPick (some 28) (.tmp 25) (.tmp 27) (.const (Value.bool false)) 4 "atoi.go:219" #[eD 12, eD 14, eG 9]).op, (some (9, 22, true))⟩,
 ⟨(opPick (some 29) (.tmp 22) (.tmp 28) (.const (Value.bool false)) 4 "atoi.go:219" #[eD 9, eD 15, eG 8]).op, (some (8, 21, false))⟩,
 ⟨(opPick (some 30) (.tmp 21) (.const (Value.bool true)) (.tmp 29) 4 "atoi.go:219" #[eD 8, eD 16]).op, none⟩
 ] (by kernel_rfl)))
 (.cond (.tmp 30)
 (.seq (.live [0, 5] (.region 3 [
 ⟨(opMove (some 31) (.tmp 0) 9 "atoi.go:222" #[]).op, none⟩,
 ⟨(opAssign (some 5) (.tmp 31) 9 "atoi.go:222" #[eD 0, eP 0]).op, none⟩
 ] (by kernel_rfl)))
 (.seq (.seq (.live [0, 5, 39] (.region 4 [
 ⟨(opMove (some 32) (.tmp 0) 9 "atoi.go:223" #[]).op, none⟩,
 ⟨(opIndexStrW (some 33) 9 (.tmp 32) (.const (Value.int IntKind.i64 0)) Tryd.underlying9 5 "atoi.go:223" #[eD 0]).op, none⟩,
 ⟨(opBin (some 34) .eql 5 (.tmp 33) (.const (Value.int IntKind.u8 45)) 5 4 "atoi.go:223" #[eD 1]).op, none⟩,
 ⟨(opMove (some 35) (.tmp 34) 4 "atoi.go:223" #[eD 2]).op, none⟩,
 ⟨(opMove (some 36) (.tmp 0) 9 "atoi.go:223" #[eG 3]).op, (some (3, 35, false))⟩,
 ⟨(opIndexStrW (some 37) 9 (.tmp 36) (.const (Value.int IntKind.i64 0)) Tryd.underlying9 5 "atoi.go:223" #[eD 4, eG 3]).op, (some (3, 35, false))⟩,
 ⟨(opBin (some 38) .eql 5 (.tmp 37) (.const (Value.int IntKind.u8 43)) 5 4 "atoi.go:223" #[eD 5, eG 3]).op, (some (3, 35, false))⟩,
 ⟨(opPick (some 39) (.tmp 35) (.const (Value.bool true)) (.tmp 38) 4 "atoi.go:223" #[eD 3, eD 6]).op, none⟩
 ] (by kernel_rfl)))
 (.cond (.tmp 39)
 (.seq (.live [0, 5] (.region 5 [
 ⟨(opMove (some 40) (.tmp 0) 9 "atoi.go:224" #[]).op, none⟩,
 ⟨(opSliceStrW (some 41) 9 (.tmp 40) (some (.const (Value.int IntKind.i64 1))) none Tryd.underlying9 9 "atoi.go:224" #[eD 0]).op, none⟩,
 ⟨(opAssign (some 0) (.tmp 41) 9 "atoi.go:224" #[eD 1, eP 0, eP 1]).op, none⟩
 ] (by kernel_rfl)))
 (.seq (.live [0, 5, 44] (.region 6 [
 ⟨(opMove (some 42) (.tmp 0) 9 "atoi.go:225" #[]).op, none⟩,
 ⟨(opLen (some 43) (.tmp 42) 9 .string Tryd.underlying9 3 "atoi.go:225" #[eD 0]).op, none⟩,
 ⟨(opBin (some 44) .lss 3 (.tmp 43) (.const (Value.int IntKind.i64 1)) 3 4 "atoi.go:225" #[eD 1]).op, none⟩
 ] (by kernel_rfl)))
 (.cond (.tmp 44)
 (.seq (.live [2, 3] (.region 7 [
 ⟨(opMakeIface (some 45) 99 (.const (Value.int IntKind.i64 2)) (.int .i64) Tryd.underlying99 (by kernel_rfl) 73 "atoi.go:226" #[{ on := 1, ground := (Ground.gcOnly Departure.lateStores) }]).op, none⟩,
 ⟨(opAssign (some 2) (.const (Value.int IntKind.i64 0)) 3 "atoi.go:226" #[{ on := 0, ground := (Ground.textOnly Departure.lateStores) }]).op, none⟩,
 ⟨(opAssign (some 3) (.tmp 45) 73 "atoi.go:226" #[eD 0, eC 1, eP 0, eP 1]).op, none⟩
 ] (by kernel_rfl)))
 (.live [2, 3] .ret))
 .skip)))
 .skip))
 (.seq (.live [0, 5, 6] (.region 8 [
 ⟨(opAssign (some 6) (.const (Value.int IntKind.i64 0)) 3 "atoi.go:230" #[]).op, none⟩
 ] (by kernel_rfl)))
 (.seq (.seq (.live [5, 6, 47, 48, 49] (.region 9 [
 ⟨(opMove (some 46) (.tmp 0) 9 "atoi.go:231" #[]).op, none⟩,
 ⟨(opStrBytes (some 47) 9 46 (.tmp 46) 5 Tryd.underlying9 Tryd.underlying46 Tryd.underlying5 46 "atoi.go:231" #[eD 0]).op, none⟩,
 ⟨(opLen (some 48) (.tmp 47) 46 (.slice 5) Tryd.underlying46 3 "atoi.go:231" #[eD 1]).op, none⟩,
 ⟨(opMove (some 49) (.const (Value.int IntKind.i64 0)) 3 "atoi.go:231" #[]).op, none⟩
 ] (by kernel_rfl)))
 (.block 0 (.loop [5, 6, 47, 48, 49] f70_l0)))
 f70_r0))))
 .skip))
 f70_r1)))

noncomputable def f70 : Fun Tryd.prog where
 id := 70
 fn := Tryd.f70
 hf := Tryd.func70
 hname := by kernel_rfl
 body := f70_b
 hbody := by kernel_rfl
 res := [rTmp 2, rTmp 3]
 hres := by kernel_rfl
 n := 77
 hn := by kernel_rfl

end Go.Proofs.YtcfedmheblbdnaaDoor.V

/- What the functions' runs come to; the right sides were printed by a tool, Lean checks them. -/
set_option linter.unusedVariables false
set_option maxRecDepth 100000
namespace Go.Proofs.YtcfedmheblbdnaaDoor.V
open Go Go.V Go.RowKit

theorem at_run (F : Nat) (s : ByteArray) (st : St) :
 (f70.run F [.str s] st : Ans) =
 branch (AV.bool (decide ((0 : Int) < (↑s.size : Int))))
 (branch (AV.bool (decide ((↑s.size : Int) < (19 : Int))))
 (branch (AV.bool (inT s (0 : Int)))
 (branch (AV.bool (atT s (0 : Int) == (45 : Int)))
 (branch (AV.bool (inSl s (1 : Int) (↑s.size : Int)))
 (branch (AV.bool (decide ((↑(subT s (1 : Int) (↑s.size : Int)).size : Int) < (1 : Int))))
 (some
 (Fin.ret (AV.tup [AV.int IntKind.i64 (0 : Int), AV.ifc 99 (AV.int IntKind.i64 (2 : Int))]), st))
 (loopRun (f70_l0.run F) [5, 6, 47, 48, 49]
 (Cont.block 0
 (Cont.then (f70_r0.run F (Cont.then (f70_r1.run F (f70.leaveK Fun.done)) (f70.leaveK Fun.done)))
 (Cont.then (f70_r1.run F (f70.leaveK Fun.done)) (f70.leaveK Fun.done))))
 F
 (Env.mk 77
 [(5, AV.str s), (6, AV.int IntKind.i64 (0 : Int)),
 (47, AV.sl 1 false (rowsOfStr (subT s (1 : Int) (↑s.size : Int)))),
 (48, AV.int IntKind.i64 (↑(rowsOfStr (subT s (1 : Int) (↑s.size : Int))).length : Int)),
 (49, AV.int IntKind.i64 (0 : Int))])
 st))
 none)
 (branch (AV.bool (inT s (0 : Int)))
 (branch (AV.bool (atT s (0 : Int) == (43 : Int)))
 (branch (AV.bool (inSl s (1 : Int) (↑s.size : Int)))
 (branch (AV.bool (decide ((↑(subT s (1 : Int) (↑s.size : Int)).size : Int) < (1 : Int))))
 (some
 (Fin.ret (AV.tup [AV.int IntKind.i64 (0 : Int), AV.ifc 99 (AV.int IntKind.i64 (2 : Int))]),
 st))
 (loopRun (f70_l0.run F) [5, 6, 47, 48, 49]
 (Cont.block 0
 (Cont.then (f70_r0.run F (Cont.then (f70_r1.run F (f70.leaveK Fun.done)) (f70.leaveK Fun.done)))
 (Cont.then (f70_r1.run F (f70.leaveK Fun.done)) (f70.leaveK Fun.done))))
 F
 (Env.mk 77
 [(5, AV.str s), (6, AV.int IntKind.i64 (0 : Int)),
 (47, AV.sl 1 false (rowsOfStr (subT s (1 : Int) (↑s.size : Int)))),
 (48, AV.int IntKind.i64 (↑(rowsOfStr (subT s (1 : Int) (↑s.size : Int))).length : Int)),
 (49, AV.int IntKind.i64 (0 : Int))])
 st))
 none)
 (loopRun (f70_l0.run F) [5, 6, 47, 48, 49]
 (Cont.block 0
 (Cont.then (f70_r0.run F (Cont.then (f70_r1.run F (f70.leaveK Fun.done)) (f70.leaveK Fun.done)))
 (Cont.then (f70_r1.run F (f70.leaveK Fun.done)) (f70.leaveK Fun.done))))
 F
 (Env.mk 77
 [(5, AV.str s), (6, AV.int IntKind.i64 (0 : Int)),
 (47, AV.sl 1 false (rowsOfStr s)),
 (48, AV.int IntKind.i64 (↑(rowsOfStr s).length : Int)),
 (49, AV.int IntKind.i64 (0 : Int))])
 st))
 none))
 none)
 (branch (AV.bool (cdec (s.size ≤ 100000)))
 (branch (AV.bool (cdec ((piF (strL s)).snd = 0)))
 (some (Fin.ret (AV.tup [AV.int IntKind.i64 (opq (piF (strL s)).fst), AV.nilif]), st))
 (branch (AV.bool (cdec ((piF (strL s)).snd = 1)))
 (some
 (Fin.ret
 (AV.tup
 [AV.int IntKind.i64 (opq (piF (strL s)).fst), AV.ifc 99 (AV.int IntKind.i64 (1 : Int))]),
 st))
 (branch (AV.bool (cdec ((piF (strL s)).snd = 2)))
 (some
 (Fin.ret
 (AV.tup
 [AV.int IntKind.i64 (opq (piF (strL s)).fst), AV.ifc 99 (AV.int IntKind.i64 (2 : Int))]),
 st))
 none)))
 none))
 (branch (AV.bool (cdec (s.size ≤ 100000)))
 (branch (AV.bool (cdec ((piF (strL s)).snd = 0)))
 (some (Fin.ret (AV.tup [AV.int IntKind.i64 (opq (piF (strL s)).fst), AV.nilif]), st))
 (branch (AV.bool (cdec ((piF (strL s)).snd = 1)))
 (some
 (Fin.ret
 (AV.tup [AV.int IntKind.i64 (opq (piF (strL s)).fst), AV.ifc 99 (AV.int IntKind.i64 (1 : Int))]),
 st))
 (branch (AV.bool (cdec ((piF (strL s)).snd = 2)))
 (some
 (Fin.ret
 (AV.tup
 [AV.int IntKind.i64 (opq (piF (strL s)).fst), AV.ifc 99 (AV.int IntKind.i64 (2 : Int))]),
 st))
 none)))
 none) := by kernel_rfl

theorem at_round (F m : Nat) (K : Cont) (s : AV) (n i : Int) (l : List (List AV)) (st : St) :
 (loopRun (f70_l0.run F) [5, 6, 47, 48, 49] K m.succ (Env.mk 77 [(5, s), (6, .int .i64 n), (47, .sl 1 false l), (48, .int .i64 (l.length : Int)), (49, .int .i64 i)]) st : Ans) =
 branch (AV.bool (decide (i < (↑l.length : Int))))
 (branch (AV.bool (inR l i))
 (branch (AV.bool ((LD.one (LT.int IntKind.u8)).is (V.rowAt l i)))
 (branch (AV.bool (decide (IntKind.u8.wrap (hdI (V.rowAt l i) - (48 : Int)) > (9 : Int))))
 (K AX.ret
 (Env.mk 77
 [(2, AV.int IntKind.i64 (0 : Int)), (3, AV.ifc 99 (AV.int IntKind.i64 (2 : Int)))])
 st)
 (loopRun (f70_l0.run F) [5, 6, 47, 48, 49] K m
 (Env.mk 77
 [(5, s),
 (6,
 AV.int IntKind.i64
 (IntKind.i64.wrap
 (IntKind.i64.wrap (n * (10 : Int)) +
 IntKind.i64.wrap (IntKind.u8.wrap (hdI (V.rowAt l i) - (48 : Int)))))),
 (47, AV.sl 1 false l), (48, AV.int IntKind.i64 (↑l.length : Int)),
 (49, AV.int IntKind.i64 (IntKind.i64.wrap (i + (1 : Int))))])
 st))
 none)
 none)
 (K (AX.exit 0) (Env.mk 77 [(5, s), (6, AV.int IntKind.i64 n)]) st) := by kernel_rfl

theorem at_out (F : Nat) (s : ByteArray) (n : Int) (st : St) :
 ((Cont.block 0 (Cont.then (f70_r0.run F (Cont.then (f70_r1.run F (f70.leaveK Fun.done)) (f70.leaveK Fun.done))) (Cont.then (f70_r1.run F (f70.leaveK Fun.done)) (f70.leaveK Fun.done)))) (.exit 0) (Env.mk 77 [(5, .str s), (6, .int .i64 n)]) st : Ans) =
 branch (AV.bool (inT s (0 : Int)))
 (branch (AV.bool (atT s (0 : Int) == (45 : Int)))
 (some (Fin.ret (AV.tup [AV.int IntKind.i64 (IntKind.i64.wrap ((0 : Int) - n)), AV.nilif]), st))
 (some (Fin.ret (AV.tup [AV.int IntKind.i64 n, AV.nilif]), st)))
 none := by kernel_rfl

theorem at_ret (F : Nat) (u e : AV) (st : St) :
 ((Cont.block 0 (Cont.then (f70_r0.run F (Cont.then (f70_r1.run F (f70.leaveK Fun.done)) (f70.leaveK Fun.done))) (Cont.then (f70_r1.run F (f70.leaveK Fun.done)) (f70.leaveK Fun.done)))) .ret (Env.mk 77 [(2, u), (3, e)]) st : Ans) =
 some (Fin.ret (AV.tup [u, e]), st) := by kernel_rfl

end Go.Proofs.YtcfedmheblbdnaaDoor.V

/- Values: the inner Atoi, as a callee. -/
set_option linter.unusedVariables false
namespace Go.Proofs.YtcfedmheblbdnaaDoor.V
open Go Go.V Go.RowKit

theorem puF_small : ∀ (t : List Nat) (n : Nat), (n + 1) * 10 ^ t.length ≤ 10 ^ 18 → ((puF t n).2 = 0 ∧ (puF t n).1 < 10 ^ 18) ∨ puF t n = (0, 2)
  | [], n, h => by left; rw [puF]; simp at h; exact ⟨rfl, by show n < 10 ^ 18; omega⟩
  | c :: r, n, h => by
    rw [puF]
    by_cases hd : 48 ≤ c ∧ c ≤ 57
    · have h2 : (n * 10 + (c - 48) + 1) * 10 ^ r.length ≤ 10 ^ 18 := by
        rw [List.length_cons, Nat.pow_succ] at h
        refine Nat.le_trans (Nat.mul_le_mul_right _ (show n * 10 + (c - 48) + 1 ≤ (n + 1) * 10 by omega)) ?_
        rw [Nat.mul_assoc, Nat.mul_comm 10]; exact h
      have h3 : n * 10 + (c - 48) + 1 ≤ 10 ^ 18 := Nat.le_trans (Nat.le_mul_of_pos_right _ (Nat.pow_pos (by omega))) h2
      rw [if_pos hd, if_neg (by omega)]
      exact puF_small r _ h2
    · rw [if_neg hd]; right; rfl
noncomputable def atK (F : Nat) : Cont := Cont.block 0 (Cont.then (f70_r0.run F (Cont.then (f70_r1.run F (f70.leaveK Fun.done)) (f70.leaveK Fun.done))) (Cont.then (f70_r1.run F (f70.leaveK Fun.done)) (f70.leaveK Fun.done)))
theorem at_all (F : Nat) (s : AV) (L : List Nat) (hb : ∀ b ∈ L, b < 256) (hl : L.length ≤ 18) (st : St) : ∀ (k i m n : Nat), i + k = L.length → k < m → (n + 1) * 10 ^ k ≤ 10 ^ 18 →
    loopRun (f70_l0.run F) [5, 6, 47, 48, 49] (atK F) m (Env.mk 77 [(5, s), (6, .int .i64 (n : Int)), (47, .sl 1 false (bR L)), (48, .int .i64 ((bR L).length : Int)), (49, .int .i64 (i : Int))]) st
      = if (puF (L.drop i) n).2 = 0 then atK F (.exit 0) (Env.mk 77 [(5, s), (6, .int .i64 ((puF (L.drop i) n).1 : Int))]) st else some (.ret (piA (0, 2)), st)
  | k, i, 0, n, _, h, _ => by omega
  | 0, i, m + 1, n, h, _, hn => by
    have hl2 := bR_length L
    rw [show m + 1 = m.succ from rfl, at_round, branch_not (decide_eq_false (by omega)), List.drop_eq_nil_of_le (by omega)]
    rfl
  | k + 1, i, m + 1, n, h, hm, hn => by
    have hl2 := bR_length L
    have hi : i < (bR L).length := by omega
    have hiL : i < L.length := by omega
    have hrow : (bR L)[i] = [.int .u8 ((L[i] : Nat) : Int)] := by simp [bR]
    have h256 := hb _ (List.getElem_mem hiL)
    have hw : IntKind.i64.wrap ((i : Int) + 1) = ((i + 1 : Nat) : Int) := by rw [wrapS (by omega) (by omega)]; omega
    rw [show m + 1 = m.succ from rfl, at_round, branch_of (decide_eq_true (by omega)), branch_of (inR_nat hi), rowAt_nat hi, hrow, branch_of (show (LD.one (LT.int IntKind.u8)).is [AV.int IntKind.u8 ((L[i] : Nat) : Int)] = true from rfl), hw, List.drop_eq_getElem_cons hiL, puF]
    rw [show hdI [AV.int IntKind.u8 ((L[i] : Nat) : Int)] = ((L[i] : Nat) : Int) from rfl]
    have ih := fun n' hn' => at_all F s L hb hl st k (i + 1) m n' (by omega) (by omega) hn'
    generalize L[i] = c at *
    by_cases hd : 48 ≤ c ∧ c ≤ 57
    · have h2 : (n * 10 + (c - 48) + 1) * 10 ^ k ≤ 10 ^ 18 := by
        rw [Nat.pow_succ] at hn
        refine Nat.le_trans (Nat.mul_le_mul_right _ (show n * 10 + (c - 48) + 1 ≤ (n + 1) * 10 by omega)) ?_
        rw [Nat.mul_assoc, Nat.mul_comm 10]; exact hn
      have h3 : n * 10 + (c - 48) + 1 ≤ 10 ^ 18 := Nat.le_trans (Nat.le_mul_of_pos_right _ (Nat.pow_pos (by omega))) h2
      have e1 : IntKind.u8.wrap ((c : Int) - 48) = ((c - 48 : Nat) : Int) := by rw [show (c : Int) - 48 = ((c - 48 : Nat) : Int) by omega]; exact w8 (by omega)
      rw [if_pos hd, if_neg (show ¬ (1844674407370955162 ≤ n ∨ 18446744073709551616 ≤ n * 10 + (c - 48)) by omega), e1, branch_not (decide_eq_false (by omega)), wrapS (n := (n : Int) * 10) (by omega) (by omega), wrapS (n := ((c - 48 : Nat) : Int)) (by omega) (by omega), wrapS (by omega) (by omega),
        show (n : Int) * 10 + ((c - 48 : Nat) : Int) = ((n * 10 + (c - 48) : Nat) : Int) by omega]
      exact ih _ h2
    · have e1 : IntKind.u8.wrap ((c : Int) - 48) > 9 := by
        by_cases h48 : 48 ≤ c
        · rw [show (c : Int) - 48 = ((c - 48 : Nat) : Int) by omega, w8 (by omega)]; omega
        · unfold IntKind.wrap
          simp only [IntKind.signed, IntKind.bits]
          simp
          omega
      rw [if_neg hd, branch_of (decide_eq_true e1), atK, at_ret]
      rfl
theorem piF_le (L : List Nat) : (piF L).2 = 0 ∨ (piF L).2 = 1 ∨ (piF L).2 = 2 := by
  have hp : ∀ x, (posF x).2 = 0 ∨ (posF x).2 = 1 ∨ (posF x).2 = 2 := fun x => by
    unfold posF
    split
    · exact .inr (.inr rfl)
    · split
      · exact .inr (.inl rfl)
      · exact .inl rfl
  have hn : ∀ x, (negF x).2 = 0 ∨ (negF x).2 = 1 ∨ (negF x).2 = 2 := fun x => by
    unfold negF
    split
    · exact .inr (.inr rfl)
    · split
      · exact .inr (.inl rfl)
      · exact .inl rfl
  cases L with
  | nil => simp [piF]
  | cons c r =>
    rw [piF]
    split
    · exact hp _
    · split
      · exact hn _
      · exact hp _
theorem three (x : Int × Nat) (h : x.2 = 0 ∨ x.2 = 1 ∨ x.2 = 2) (st : St) :
    (branch (AV.bool (cdec (x.snd = 0))) (some (Fin.ret (AV.tup [AV.int IntKind.i64 (opq x.fst), AV.nilif]), st))
      (branch (AV.bool (cdec (x.snd = 1))) (some (Fin.ret (AV.tup [AV.int IntKind.i64 (opq x.fst), AV.ifc 99 (AV.int IntKind.i64 (1 : Int))]), st))
        (branch (AV.bool (cdec (x.snd = 2))) (some (Fin.ret (AV.tup [AV.int IntKind.i64 (opq x.fst), AV.ifc 99 (AV.int IntKind.i64 (2 : Int))]), st)) none)) : Ans) = some (.ret (piA x), st) := by
  obtain ⟨n, e⟩ := x
  simp only at h ⊢
  rw [opq_eq]
  rcases h with rfl | rfl | rfl
  · rw [branch_of (cdec_iff.mpr rfl)]; rfl
  · rw [branch_not (by rw [Bool.eq_false_iff, ne_eq, cdec_iff]; decide), branch_of (cdec_iff.mpr rfl)]; rfl
  · rw [branch_not (by rw [Bool.eq_false_iff, ne_eq, cdec_iff]; decide), branch_not (by rw [Bool.eq_false_iff, ne_eq, cdec_iff]; decide), branch_of (cdec_iff.mpr rfl)]; rfl
theorem atoi_eq (s : ByteArray) (hs : s.size ≤ 100000) (st : St) : f70.run 20 [.str s] st = some (.ret (piA (piF (strL s))), st) := by
  have hsz := strL_size s
  rw [at_run]
  by_cases h0 : (0 : Int) < (s.size : Int)
  · rw [branch_of (decide_eq_true h0)]
    by_cases h19 : (s.size : Int) < 19
    · rw [branch_of (decide_eq_true h19)]
      cases hl : strL s with
      | nil => exact absurd (show s.size = 0 by rw [hsz, hl]; rfl) (by omega)
      | cons c r =>
        obtain ⟨h1, h2, h3, h4⟩ := tail_text hl
        have hsl : (subT s (1 : Int) (s.size : Int)).size = r.length := by rw [strL_size, h4]
        rw [hl, List.length_cons] at hsz
        have hbr : ∀ b ∈ r, b < 256 := fun b hb => strL_lt s b (by rw [hl]; exact List.mem_cons_of_mem _ hb)
        have rows : rowsOfStr (subT s (1 : Int) (s.size : Int)) = bR r := by rw [← h4]; exact strL_rows _
        have loop : ∀ L : List Nat, (∀ b ∈ L, b < 256) → L ≠ [] → L.length ≤ 18 → loopRun (f70_l0.run 20) [5, 6, 47, 48, 49] (atK 20) 20 (Env.mk 77 [(5, .str s), (6, .int .i64 (0 : Int)), (47, .sl 1 false (bR L)), (48, .int .i64 ((bR L).length : Int)), (49, .int .i64 (0 : Int))]) st
            = some (.ret (piA (if c = 45 then negF (puL L) else posF (puL L))), st) := by
          intro L hb hne hlen
          have hp : (0 + 1) * 10 ^ L.length ≤ 10 ^ 18 := by rw [Nat.zero_add, Nat.one_mul]; exact Nat.pow_le_pow_right (by omega) hlen
          have := at_all 20 (.str s) L hb hlen st L.length 0 20 0 (by omega) (by omega) hp
          rw [List.drop_zero] at this
          refine this.trans ?_
          rw [puL, if_neg hne]
          rcases puF_small L 0 hp with ⟨e1, e2⟩ | e1
          · rw [if_pos e1, atK, at_out, branch_of h1, h2]
            generalize puF L 0 = x at *
            obtain ⟨v, e⟩ := x
            simp only at e1 e2
            subst e1
            by_cases c45 : c = 45
            · rw [branch_of (show (((c : Nat) : Int) == 45) = true by rw [beq_iff_eq]; omega), if_pos c45, negF, if_neg (show ¬ (0 : Nat) = 2 by decide), if_neg (show ¬ 9223372036854775808 < v by omega)]
              simp only
              rw [wrapS (by omega) (by omega), Int.zero_sub]; rfl
            · rw [branch_not (show (((c : Nat) : Int) == 45) = false by rw [beq_eq_false_iff_ne]; omega), if_neg c45, posF, if_neg (show ¬ (0 : Nat) = 2 by decide), if_neg (show ¬ 9223372036854775808 ≤ v by omega)]; rfl
          · rw [e1, if_neg (by decide)]
            by_cases c45 : c = 45
            · rw [if_pos c45]; rfl
            · rw [if_neg c45]; rfl
        rw [branch_of h1, h2, piF]
        by_cases c45 : c = 45
        · rw [branch_of (show (((c : Nat) : Int) == 45) = true by rw [beq_iff_eq]; omega), branch_of h3, hsl, if_neg (by omega), if_pos c45]
          by_cases hr : r = []
          · subst hr; rw [branch_of (by rfl)]; rfl
          · have : r.length ≠ 0 := fun e => hr (List.eq_nil_of_length_eq_zero e)
            rw [branch_not (decide_eq_false (by omega)), rows]
            refine (loop r hbr hr (by omega)).trans ?_
            rw [if_pos c45]
        · rw [branch_not (show (((c : Nat) : Int) == 45) = false by rw [beq_eq_false_iff_ne]; omega), branch_of h1]
          by_cases c43 : c = 43
          · rw [branch_of (show (((c : Nat) : Int) == 43) = true by rw [beq_iff_eq]; omega), branch_of h3, hsl, if_pos c43]
            by_cases hr : r = []
            · subst hr; rw [branch_of (by rfl)]; rfl
            · have : r.length ≠ 0 := fun e => hr (List.eq_nil_of_length_eq_zero e)
              rw [branch_not (decide_eq_false (by omega)), rows]
              refine (loop r hbr hr (by omega)).trans ?_
              rw [if_neg c45]
          · have rows0 : rowsOfStr s = bR (c :: r) := by rw [← hl]; exact strL_rows _
            rw [branch_not (show (((c : Nat) : Int) == 43) = false by rw [beq_eq_false_iff_ne]; omega), rows0, if_neg c43, if_neg c45]
            refine (loop (c :: r) (fun b hb => strL_lt s b (by rw [hl]; exact hb)) (by simp) (by simp; omega)).trans ?_
            rw [if_neg c45]
    · rw [branch_not (decide_eq_false h19), branch_of (cdec_iff.mpr hs)]
      exact three _ (piF_le _) st
  · rw [branch_not (decide_eq_false h0), branch_of (cdec_iff.mpr hs)]
    exact three _ (piF_le _) st
noncomputable def p70r : POrc Tryd.prog := f70.pureIf dec1s (fun s => [.str s]) dec1s_enc (fun s => cdec (s.size ≤ 100000)) (fun s => piA (piF (strL s))) (fun s _ => ⟨piA_frz _, fun _ _ => ⟨trivial, errA_scoped _ _ _, trivial⟩⟩) fun s h => ⟨20, fun st => atoi_eq s (cdec_iff.mp h) st⟩
noncomputable def p70 : POrc Tryd.prog := kOf p70r dec1s (fun s => piF (strL s)) fun args s hd hp k => by simp only [p70r, Fun.pureIf, hd, hp]
end Go.Proofs.YtcfedmheblbdnaaDoor.V

/- Values: what is shown is read again: numbers and quoted texts (plain law). -/
set_option linter.unusedVariables false
namespace Go.Proofs.YtcfedmheblbdnaaDoor.V
open Go Go.V Go.RowKit

def digsR (U : Nat) : Nat → List Nat
  | 0 => []
  | r + 1 => (48 + U / 10 ^ r % 10) :: digsR U r
theorem digs_R (U : Nat) : ∀ n, digs U n = digsR U n
  | 0 => rfl
  | n + 1 => by
    rw [digsR, ← digs_R U n, digs, List.range_succ_eq_map, List.map_cons, List.map_map, digs]
    rw [show n + 1 - 1 - 0 = n by omega]
    refine congrArg (List.cons _) (List.map_congr_left fun j hj => ?_)
    simp only [Function.comp, Nat.succ_eq_add_one]
    rw [show n + 1 - 1 - (j + 1) = n - 1 - j by omega]
theorem puF_R {U : Nat} (hU : U ≤ 9223372036854775808) : ∀ r, puF (digsR U r) (U / 10 ^ r) = (U, 0)
  | 0 => by rw [digsR, puF, Nat.pow_zero, Nat.div_one]
  | r + 1 => by
    have h1 : U / 10 ^ (r + 1) ≤ 9223372036854775808 / 10 := by
      rw [Nat.pow_succ, ← Nat.div_div_eq_div_mul]
      exact Nat.div_le_div_right (Nat.le_trans (Nat.div_le_self _ _) hU)
    have h2 : U / 10 ^ (r + 1) * 10 + U / 10 ^ r % 10 = U / 10 ^ r := by
      rw [Nat.pow_succ, ← Nat.div_div_eq_div_mul]; omega
    have h3 : U / 10 ^ r ≤ 9223372036854775808 := Nat.le_trans (Nat.div_le_self _ _) hU
    rw [digsR, puF, if_pos (by omega), show 48 + U / 10 ^ r % 10 - 48 = U / 10 ^ r % 10 by omega, h2, if_neg (by omega)]
    exact puF_R hU r
theorem dec_puL {U : Nat} (hU : U ≤ 9223372036854775808) : puL (dec U) = (U, 0) ∧ ∃ c r, dec U = c :: r ∧ 48 ≤ c ∧ c ≤ 57 := by
  unfold dec
  by_cases hz : U = 0
  · subst hz
    exact ⟨rfl, 48, [], rfl, by omega, by omega⟩
  · obtain ⟨k1, k2, k3, k4⟩ := ndN_spec hz (by omega)
    rw [if_neg hz]
    obtain ⟨n, hn⟩ : ∃ n, ndN U = n + 1 := ⟨ndN U - 1, by omega⟩
    have h := puF_R hU (ndN U)
    rw [Nat.div_eq_of_lt k4] at h
    have hd : digs U (ndN U) = (48 + U / 10 ^ n % 10) :: digsR U n := by rw [digs_R, hn, digsR]
    refine ⟨?_, _, _, hd, by omega, by omega⟩
    rw [puL, if_neg (by rw [hd]; simp), digs_R]; exact h
theorem piF_num {i : Int} (h1 : -9223372036854775808 ≤ i) (h2 : i ≤ 9223372036854775807) : piF (numL i) = (i, 0) := by
  unfold numL
  by_cases hn : i < 0
  · obtain ⟨h, _⟩ := dec_puL (U := (-i).toNat) (by omega)
    rw [if_pos hn, piF, if_neg (by decide), if_pos rfl, h, negF, if_neg (show ¬ (0 : Nat) = 2 by decide), if_neg (show ¬ 9223372036854775808 < (-i).toNat by omega)]
    simp only [Prod.mk.injEq, and_true]; omega
  · obtain ⟨h, c, r, e, hc1, hc2⟩ := dec_puL (U := i.toNat) (by omega)
    rw [if_neg hn, e, piF, if_neg (by omega), if_neg (by omega), ← e, h, posF, if_neg (show ¬ (0 : Nat) = 2 by decide), if_neg (show ¬ 9223372036854775808 ≤ i.toNat by omega)]
    simp only [Prod.mk.injEq, and_true]; omega
theorem digH_hex {u : Nat} (h : u < 16) : digH (hexD u) = (u : Int) := by
  have : (List.range 16).all (fun u => decide (digH (hexD u) = (u : Int))) = true := by decide
  exact of_decide_eq_true (List.all_eq_true.mp this u (List.mem_range.mpr h))
theorem unqF_enc : ∀ (l : List Nat) (n : Nat), (∀ b ∈ l, b < 256) → l.length < n → unqF n (l.flatMap encQ) = some l
  | [], n + 1, _, _ => rfl
  | x :: l, n + 1, hb, hn => by
    have hx := hb x (List.mem_cons_self ..)
    have ih := unqF_enc l n (fun b h => hb b (List.mem_cons_of_mem _ h)) (by simpa using hn)
    rw [List.flatMap_cons]
    cases he : escB x with
    | true =>
      rw [encQ, he, cond_true]
      rw [List.cons_append, List.cons_append, List.cons_append, List.nil_append, unqF]
      simp only [show Nat.beq 92 92 = true from rfl, cond_true]
      rw [digH_hex (by omega), digH_hex (by omega), show (negI ((x / 16 : Nat) : Int) || negI ((x % 16 : Nat) : Int)) = false by
        rw [negI, negI, decide_eq_false (by omega), decide_eq_false (by omega)]; rfl, cond_false, ih, Option.map_some, show (((x / 16 : Nat) : Int) * 16 + ((x % 16 : Nat) : Int)).toNat = x by omega]
    | false =>
      have h92 : Nat.beq x 92 = false := by
        unfold escB at he
        simp only [Bool.or_eq_false_iff] at he
        exact he.2.2.2
      rw [encQ, he, cond_false, List.cons_append, List.nil_append]
      show (match Nat.beq x 92 with | true => _ | false => Option.map (fun r => x :: r) (unqF n (l.flatMap encQ))) = some (x :: l)
      rw [h92, ih]; rfl
theorem enc_len : ∀ l : List Nat, l.length ≤ (l.flatMap encQ).length
  | [] => by simp
  | x :: l => by
    have := enc_len l
    have h : 1 ≤ (encQ x).length := by unfold encQ; cases escB x <;> simp
    rw [List.flatMap_cons, List.length_append, List.length_cons]; omega
theorem unqL_enc {l : List Nat} (hb : ∀ b ∈ l, b < 256) : unqL (l.flatMap encQ) = some l :=
  unqF_enc l _ hb (Nat.lt_succ_of_le (enc_len l))
end Go.Proofs.YtcfedmheblbdnaaDoor.V

/- Values: the reference's place and number, as callees. -/
set_option linter.unusedVariables false
namespace Go.Proofs.YtcfedmheblbdnaaDoor.V
open Go Go.V Go.RowKit

theorem pl_eq (c : Nat) : f30.run 20 [.int .u8 (c : Int)] ⟨[], []⟩ = some (.ret (.int .i64 (digH c)), ⟨[], []⟩) := by
  rw [pl_run]
  by_cases h48 : c = 48
  · subst h48; rfl
  rw [branch_not (show ((48 : Int) == (c : Int)) = false by rw [beq_eq_false_iff_ne]; omega)]
  by_cases h49 : c = 49
  · subst h49; rfl
  rw [branch_not (show ((49 : Int) == (c : Int)) = false by rw [beq_eq_false_iff_ne]; omega)]
  by_cases h50 : c = 50
  · subst h50; rfl
  rw [branch_not (show ((50 : Int) == (c : Int)) = false by rw [beq_eq_false_iff_ne]; omega)]
  by_cases h51 : c = 51
  · subst h51; rfl
  rw [branch_not (show ((51 : Int) == (c : Int)) = false by rw [beq_eq_false_iff_ne]; omega)]
  by_cases h52 : c = 52
  · subst h52; rfl
  rw [branch_not (show ((52 : Int) == (c : Int)) = false by rw [beq_eq_false_iff_ne]; omega)]
  by_cases h53 : c = 53
  · subst h53; rfl
  rw [branch_not (show ((53 : Int) == (c : Int)) = false by rw [beq_eq_false_iff_ne]; omega)]
  by_cases h54 : c = 54
  · subst h54; rfl
  rw [branch_not (show ((54 : Int) == (c : Int)) = false by rw [beq_eq_false_iff_ne]; omega)]
  by_cases h55 : c = 55
  · subst h55; rfl
  rw [branch_not (show ((55 : Int) == (c : Int)) = false by rw [beq_eq_false_iff_ne]; omega)]
  by_cases h56 : c = 56
  · subst h56; rfl
  rw [branch_not (show ((56 : Int) == (c : Int)) = false by rw [beq_eq_false_iff_ne]; omega)]
  by_cases h57 : c = 57
  · subst h57; rfl
  rw [branch_not (show ((57 : Int) == (c : Int)) = false by rw [beq_eq_false_iff_ne]; omega)]
  by_cases h97 : c = 97
  · subst h97; rfl
  rw [branch_not (show ((97 : Int) == (c : Int)) = false by rw [beq_eq_false_iff_ne]; omega)]
  by_cases h98 : c = 98
  · subst h98; rfl
  rw [branch_not (show ((98 : Int) == (c : Int)) = false by rw [beq_eq_false_iff_ne]; omega)]
  by_cases h99 : c = 99
  · subst h99; rfl
  rw [branch_not (show ((99 : Int) == (c : Int)) = false by rw [beq_eq_false_iff_ne]; omega)]
  by_cases h100 : c = 100
  · subst h100; rfl
  rw [branch_not (show ((100 : Int) == (c : Int)) = false by rw [beq_eq_false_iff_ne]; omega)]
  by_cases h101 : c = 101
  · subst h101; rfl
  rw [branch_not (show ((101 : Int) == (c : Int)) = false by rw [beq_eq_false_iff_ne]; omega)]
  by_cases h102 : c = 102
  · subst h102; rfl
  rw [branch_not (show ((102 : Int) == (c : Int)) = false by rw [beq_eq_false_iff_ne]; omega)]
  have e1 : (Nat.ble 48 c && Nat.ble c 57) = false := by
    rw [Bool.eq_false_iff]; intro h; rw [Bool.and_eq_true, Nat.ble_eq, Nat.ble_eq] at h; omega
  have e2 : (Nat.ble 97 c && Nat.ble c 102) = false := by
    rw [Bool.eq_false_iff]; intro h; rw [Bool.and_eq_true, Nat.ble_eq, Nat.ble_eq] at h; omega
  rw [digH, e1, e2]; rfl
def dec1b : List AV → Option Int
  | [x] => match x with
    | .int k i => match k with
      | .u8 => some i
      | _ => none
    | _ => none
  | _ => none
theorem dec1b_enc : ∀ l a, dec1b l = some a → l = [.int .u8 a] := by
  intro l a h
  unfold dec1b at h
  split at h
  · split at h
    · split at h
      · cases h; rfl
      · cases h
    · cases h
  · cases h
noncomputable def p30 : POrc Tryd.prog := f30.flatIf dec1b (fun i => [.int .u8 i]) dec1b_enc (fun i => cdec (0 ≤ i)) (fun i => .int .i64 (digH i.toNat)) (fun _ => ⟨trivial, trivial⟩) (fun _ => trivial) fun i h => by
  obtain ⟨n, rfl⟩ := Int.eq_ofNat_of_zero_le (cdec_iff.mp h)
  exact ⟨20, _, pl_eq n⟩
theorem p30_nat : p30.Nat := flatIf_nat

/-- Digits told from below nought, going round. -/
def nuF : List Nat → Int → Int
  | [], n => n
  | c :: r, n => if 48 ≤ c ∧ c ≤ 57 then nuF r (IntKind.i64.wrap (IntKind.i64.wrap (n * 10) - ((c - 48 : Nat) : Int))) else nuF r n
def nuL (L : List Nat) : Int := if L.head? = some 45 then nuF L 0 else IntKind.i64.wrap (0 - nuF L 0)
theorem nu_all (F : Nat) (K : Cont) (s : ByteArray) (hs : s.size ≤ 100000) : ∀ (k i m : Nat) (n : Int), i + k = (strL s).length → k < m →
    loopRun (f31_l0.run F) [0, 3, 4] K m (Env.mk 35 [(0, .str s), (3, .int .i64 n), (4, .int .i64 (i : Int))]) ⟨[], []⟩ = K (.exit 0) (Env.mk 35 [(0, .str s), (3, .int .i64 (nuF ((strL s).drop i) n))]) ⟨[], []⟩
  | k, i, 0, n, _, h => by omega
  | 0, i, m + 1, n, h, _ => by
    have hsz := strL_size s
    rw [show m + 1 = m.succ from rfl, nu_round, branch_not (decide_eq_false (by omega)), List.drop_eq_nil_of_le (by omega)]
    rfl
  | k + 1, i, m + 1, n, h, hm => by
    have hsz := strL_size s
    have hiL : i < (strL s).length := by omega
    have hin : inT s (i : Int) = true := inT_iff.mpr ⟨by omega, by simpa using hiL⟩
    have hat : atT s (i : Int) = (((strL s)[i] : Nat) : Int) := by rw [atT, opq_eq]; simp [List.getElem?_eq_getElem hiL]
    have h256 := strL_lt s _ (List.getElem_mem hiL)
    have hw : IntKind.i64.wrap ((i : Int) + 1) = ((i + 1 : Nat) : Int) := by rw [wrapS (by omega) (by omega)]; omega
    have ih := fun n' => nu_all F K s hs k (i + 1) m n' (by omega) (by omega)
    rw [show m + 1 = m.succ from rfl, nu_round, branch_of (decide_eq_true (by omega)), branch_of hin, hat, hw, List.drop_eq_getElem_cons hiL, nuF]
    generalize (strL s)[i] = c at *
    by_cases h1 : 48 ≤ c
    · rw [branch_of (decide_eq_true (by omega)), branch_of hin]
      by_cases h2 : c ≤ 57
      · have e1 : IntKind.u8.wrap ((c : Int) - 48) = ((c - 48 : Nat) : Int) := by rw [show (c : Int) - 48 = ((c - 48 : Nat) : Int) by omega]; exact w8 (by omega)
        rw [branch_of (decide_eq_true (by omega)), branch_of hin, if_pos ⟨h1, h2⟩, e1, wrapS (n := ((c - 48 : Nat) : Int)) (by omega) (by omega)]
        exact ih _
      · rw [branch_not (decide_eq_false (by omega)), if_neg (by omega)]
        exact ih _
    · rw [branch_not (decide_eq_false (by omega)), if_neg (by omega)]
      exact ih _
noncomputable def okNu (s : ByteArray) : Bool := cdec (1 ≤ s.size ∧ s.size ≤ 1000)
theorem nu_eq (s : ByteArray) (h : okNu s = true) : f31.run 1001 [.str s] ⟨[], []⟩ = some (.ret (.int .i64 (nuL (strL s))), ⟨[], []⟩) := by
  obtain ⟨h1, h2⟩ := cdec_iff.mp h
  have hsz := strL_size s
  rw [nu_run, show (0 : Int) = ((0 : Nat) : Int) from rfl]
  refine (nu_all 1001 _ s (by omega) (strL s).length 0 1001 _ (by omega) (by omega)).trans ?_
  rw [List.drop_zero, nu_end]
  cases hl : strL s with
  | nil => rw [hl, List.length_nil] at hsz; omega
  | cons c r =>
    obtain ⟨e1, e2, _, _⟩ := tail_text hl
    rw [branch_of e1, e2, nuL]
    by_cases hc : c = 45
    · rw [branch_of (show (((c : Nat) : Int) == 45) = true by rw [beq_iff_eq]; omega), if_pos (by rw [hc]; rfl)]; rfl
    · rw [branch_not (show (((c : Nat) : Int) == 45) = false by rw [beq_eq_false_iff_ne]; omega), if_neg (by intro e; exact hc (Option.some.inj e))]; rfl
noncomputable def p31 : POrc Tryd.prog := f31.flatIf dec1s (fun s => [.str s]) dec1s_enc okNu (fun s => .int .i64 (opq (nuL (strL s)))) (fun _ => ⟨trivial, trivial⟩) (fun _ => trivial) fun s h => by
  rw [opq_eq]
  exact ⟨1001, _, nu_eq s h⟩
theorem nuF_R {U : Nat} (hU : U ≤ 9223372036854775808) : ∀ r, nuF (digsR U r) (-((U / 10 ^ r : Nat) : Int)) = -(U : Int)
  | 0 => by rw [digsR, nuF, Nat.pow_zero, Nat.div_one]
  | r + 1 => by
    have h1 : U / 10 ^ (r + 1) ≤ 9223372036854775808 / 10 := by
      rw [Nat.pow_succ, ← Nat.div_div_eq_div_mul]
      exact Nat.div_le_div_right (Nat.le_trans (Nat.div_le_self _ _) hU)
    have h2 : U / 10 ^ (r + 1) * 10 + U / 10 ^ r % 10 = U / 10 ^ r := by
      rw [Nat.pow_succ, ← Nat.div_div_eq_div_mul]; omega
    have h3 : U / 10 ^ r ≤ 9223372036854775808 := Nat.le_trans (Nat.div_le_self _ _) hU
    rw [digsR, nuF, if_pos (by omega), show 48 + U / 10 ^ r % 10 - 48 = U / 10 ^ r % 10 by omega, wrapS (n := -((U / 10 ^ (r + 1) : Nat) : Int) * 10) (by omega) (by omega), wrapS (by omega) (by omega),
      show -((U / 10 ^ (r + 1) : Nat) : Int) * 10 - ((U / 10 ^ r % 10 : Nat) : Int) = -((U / 10 ^ r : Nat) : Int) by omega]
    exact nuF_R hU r
theorem dec_nuF {U : Nat} (hU : U ≤ 9223372036854775808) : nuF (dec U) 0 = -(U : Int) := by
  unfold dec
  by_cases hz : U = 0
  · subst hz; rfl
  · obtain ⟨k1, k2, k3, k4⟩ := ndN_spec hz (by omega)
    rw [if_neg hz, digs_R]
    have h := nuF_R hU (ndN U)
    rw [Nat.div_eq_of_lt k4] at h
    exact h
theorem nuL_num {i : Int} (h1 : -9223372036854775808 ≤ i) (h2 : i ≤ 9223372036854775807) : nuL (numL i) = i := by
  unfold numL
  by_cases hn : i < 0
  · rw [if_pos hn, nuL, if_pos (show (45 :: dec (-i).toNat).head? = some 45 from rfl), nuF, if_neg (by decide), dec_nuF (by omega)]; omega
  · obtain ⟨_, c, r, e, hc1, hc2⟩ := dec_puL (U := i.toNat) (by omega)
    rw [if_neg hn, nuL, if_neg (by rw [e]; intro h; have := Option.some.inj h; omega), dec_nuF (by omega), wrapS (by omega) (by omega)]; omega
end Go.Proofs.YtcfedmheblbdnaaDoor.V

/- The functions' pieces, as told by gen.py. -/
set_option linter.unusedVariables false
set_option maxRecDepth 20000
namespace Go.Proofs.YtcfedmheblbdnaaDoor.V
open Go Go.V Go.RowKit

theorem sz73 : (Tryd.prog.info? 73).map (·.size) = some 1 := by kernel_rfl
theorem ze114 : (Tryd.prog.info? 114).bind (·.zero) = some (.agg #[(.string ⟨#[]⟩), (.string ⟨#[]⟩), .nilIface]) := by kernel_rfl

/-! ### 80: strconv.syntaxError (9, 9); results 4; slots: 0 fn, 1 str, 2 fn, 3 str -/
noncomputable def f80_b : Sim Tryd.prog :=
 (.seq (.live [0, 1] (.region 0 [
 ⟨(opAssign (some 4) (.const (Value.pointer none)) 102 "number.go:272" #[]).op, none⟩
 ] (by kernel_rfl)))
 (.seq (.live [4] (.draw 1 [
 ⟨.p (opMove (some 5) (.tmp 0) 9 "number.go:273" #[]), none⟩,
 ⟨.p (opMove (some 6) (.tmp 1) 9 "number.go:273" #[]), none⟩,
 ⟨.pn (opCallP p91 (some 7) [(.tmp 6)] #[9] 9 "number.go:273" #[eD 1]) (opCallP_nat p91_nat), none⟩,
 ⟨.qn (QSim.glob (opLoadT (.one .any) (some 8) 73 (.global 0) d73 ud73 1 sz73 (by kernel_rfl) 73 "number.go:273" #[])) (QSim.glob_nat opLoadT_nat), none⟩,
 ⟨.p (opBuild (some 9) 114 #[(.string ⟨#[]⟩), (.string ⟨#[]⟩), .nilIface] [(0, 0, 1, (.tmp 5)), (1, 1, 1, (.tmp 7)), (2, 2, 1, (.tmp 8))] ze114 (by kernel_rfl) 114 "number.go:273" #[eD 0, eD 2, eD 3]), none⟩,
 ⟨.p (opBoxF (some 10) 114 (.tmp 9) 102 "number.go:273" #[eD 4]), none⟩,
 ⟨.p (opAssign (some 4) (.tmp 10) 102 "number.go:273" #[eD 5, eC 2, eP 0, eP 1, eP 2, eP 3, eP 4, eP 5]), none⟩
 ] mixed (by kernel_rfl)))
 (.live [4] .ret)))

noncomputable def f80 : Fun Tryd.prog where
 id := 80
 fn := Tryd.f80
 hf := Tryd.func80
 hname := by kernel_rfl
 body := f80_b
 hbody := by kernel_rfl
 res := [rTmp 4]
 hres := by kernel_rfl
 n := 11
 hn := by kernel_rfl

/-! ### 81: strconv.rangeError (9, 9); results 4; slots: 0 fn, 1 str, 2 fn, 3 str -/
noncomputable def f81_b : Sim Tryd.prog :=
 (.seq (.live [0, 1] (.region 0 [
 ⟨(opAssign (some 4) (.const (Value.pointer none)) 102 "number.go:276" #[]).op, none⟩
 ] (by kernel_rfl)))
 (.seq (.live [4] (.draw 1 [
 ⟨.p (opMove (some 5) (.tmp 0) 9 "number.go:277" #[]), none⟩,
 ⟨.p (opMove (some 6) (.tmp 1) 9 "number.go:277" #[]), none⟩,
 ⟨.pn (opCallP p91 (some 7) [(.tmp 6)] #[9] 9 "number.go:277" #[eD 1]) (opCallP_nat p91_nat), none⟩,
 ⟨.qn (QSim.glob (opLoadT (.one .any) (some 8) 73 (.global 1) d73 ud73 1 sz73 (by kernel_rfl) 73 "number.go:277" #[])) (QSim.glob_nat opLoadT_nat), none⟩,
 ⟨.p (opBuild (some 9) 114 #[(.string ⟨#[]⟩), (.string ⟨#[]⟩), .nilIface] [(0, 0, 1, (.tmp 5)), (1, 1, 1, (.tmp 7)), (2, 2, 1, (.tmp 8))] ze114 (by kernel_rfl) 114 "number.go:277" #[eD 0, eD 2, eD 3]), none⟩,
 ⟨.p (opBoxF (some 10) 114 (.tmp 9) 102 "number.go:277" #[eD 4]), none⟩,
 ⟨.p (opAssign (some 4) (.tmp 10) 102 "number.go:277" #[eD 5, eC 2, eP 0, eP 1, eP 2, eP 3, eP 4, eP 5]), none⟩
 ] mixed (by kernel_rfl)))
 (.live [4] .ret)))

noncomputable def f81 : Fun Tryd.prog where
 id := 81
 fn := Tryd.f81
 hf := Tryd.func81
 hname := by kernel_rfl
 body := f81_b
 hbody := by kernel_rfl
 res := [rTmp 4]
 hres := by kernel_rfl
 n := 11
 hn := by kernel_rfl

/-! ### 71: strconv.toError (9, 9, 3, 3, 73); results 10; slots: 0 fn, 1 s, 2 base, 3 bitSize, 4 err, 5 fn, 6 s, 7 base, 8 bitSize, 9 err -/
noncomputable def f71_b : Sim Tryd.prog :=
 (.seq (.live [0, 1, 2, 3, 4] (.region 0 [
 ⟨(opAssign (some 10) (.const Value.nilIface) 73 "number.go:231" #[]).op, none⟩
 ] (by kernel_rfl)))
 (.seq (.seq (.live [0, 1, 2, 3, 4, 11] (.region 1 [
 ⟨(opMove (some 11) (.tmp 4) 73 "number.go:232" #[]).op, none⟩
 ] (by kernel_rfl)))
 (.block 0 (.seq (.live [0, 1, 2, 3, 4, 11, 12] (.region 2 [
 ⟨(opMakeIface (some 13) 99 (.const (Value.int IntKind.i64 2)) (.int .i64) Tryd.underlying99 (by kernel_rfl) 73 "number.go:233" #[]).op, none⟩,
 ⟨(opEqI (some 14) 73 99 .i64 if73 Tryd.underlying99 cp99 (.tmp 11) (.tmp 13) 73 4 "number.go:233" #[eD 0]).op, none⟩,
 ⟨(opAssign (some 12) (.tmp 14) 4 "number.go:233" #[eD 1]).op, none⟩
 ] (by kernel_rfl)))
 (.cond (.tmp 12)
 (.seq (.live [10] (.region 3 [
 ⟨(opMove (some 15) (.tmp 0) 9 "number.go:234" #[]).op, none⟩,
 ⟨(opMove (some 16) (.tmp 1) 9 "number.go:234" #[]).op, none⟩,
 ⟨opCall (f80.orc 0) (some 17) [(.tmp 15), (.tmp 16)] #[9, 9] 102 "number.go:234" #[eD 0, eD 1], none⟩,
 ⟨(opMakeIface (some 18) 102 (.tmp 17) (.pointer 114) Tryd.underlying102 (by kernel_rfl) 73 "number.go:234" #[eD 2]).op, none⟩,
 ⟨(opAssign (some 10) (.tmp 18) 73 "number.go:234" #[eD 3, eC 2, eP 0, eP 1, eP 2, eP 3]).op, none⟩
 ] (by kernel_rfl)))
 (.live [10] .ret))
 (.seq (.live [0, 1, 2, 3, 4, 11, 19] (.region 4 [
 ⟨(opMakeIface (some 20) 99 (.const (Value.int IntKind.i64 1)) (.int .i64) Tryd.underlying99 (by kernel_rfl) 73 "number.go:235" #[]).op, none⟩,
 ⟨(opEqI (some 21) 73 99 .i64 if73 Tryd.underlying99 cp99 (.tmp 11) (.tmp 20) 73 4 "number.go:235" #[eD 0]).op, none⟩,
 ⟨(opAssign (some 19) (.tmp 21) 4 "number.go:235" #[eD 1]).op, none⟩
 ] (by kernel_rfl)))
 (.cond (.tmp 19)
 (.seq (.live [10] (.region 5 [
 ⟨(opMove (some 22) (.tmp 0) 9 "number.go:236" #[]).op, none⟩,
 ⟨(opMove (some 23) (.tmp 1) 9 "number.go:236" #[]).op, none⟩,
 ⟨opCall (f81.orc 0) (some 24) [(.tmp 22), (.tmp 23)] #[9, 9] 102 "number.go:236" #[eD 0, eD 1], none⟩,
 ⟨(opMakeIface (some 25) 102 (.tmp 24) (.pointer 114) Tryd.underlying102 (by kernel_rfl) 73 "number.go:236" #[eD 2]).op, none⟩,
 ⟨(opAssign (some 10) (.tmp 25) 73 "number.go:236" #[eD 3, eC 2, eP 0, eP 1, eP 2, eP 3]).op, none⟩
 ] (by kernel_rfl)))
 (.live [10] .ret))
 (.seq (.live [0, 1, 2, 3, 4, 11, 26] (.region 6 [
 ⟨(opMakeIface (some 27) 99 (.const (Value.int IntKind.i64 3)) (.int .i64) Tryd.underlying99 (by kernel_rfl) 73 "number.go:237" #[]).op, none⟩,
 ⟨(opEqI (some 28) 73 99 .i64 if73 Tryd.underlying99 cp99 (.tmp 11) (.tmp 27) 73 4 "number.go:237" #[eD 0]).op, none⟩,
 ⟨(opAssign (some 26) (.tmp 28) 4 "number.go:237" #[eD 1]).op, none⟩
 ] (by kernel_rfl)))
 (.cond (.tmp 26)
 (.seq (.live [10] (.region 7 [
 ⟨(opMove (some 29) (.tmp 0) 9 "number.go:238" #[]).op, none⟩,
 ⟨(opMove (some 30) (.tmp 1) 9 "number.go:238" #[]).op, none⟩,
 ⟨(opMove (some 31) (.tmp 2) 3 "number.go:238" #[]).op, none⟩,
 ⟨opCall (Orc.dead 82 Tryd.f82 Tryd.func82 (by kernel_rfl) (by kernel_rfl)) (some 32) [(.tmp 29), (.tmp 30), (.tmp 31)] #[9, 9, 3] 102 "number.go:238" #[eD 0, eD 1, eD 2], none⟩,
 ⟨(opMakeIface (some 33) 102 (.tmp 32) (.pointer 114) Tryd.underlying102 (by kernel_rfl) 73 "number.go:238" #[eD 3]).op, none⟩,
 ⟨(opAssign (some 10) (.tmp 33) 73 "number.go:238" #[eD 4, eC 3, eP 0, eP 1, eP 2, eP 3, eP 4]).op, none⟩
 ] (by kernel_rfl)))
 (.live [10] .ret))
 (.seq (.live [0, 1, 3, 4, 34] (.region 8 [
 ⟨(opMakeIface (some 35) 99 (.const (Value.int IntKind.i64 4)) (.int .i64) Tryd.underlying99 (by kernel_rfl) 73 "number.go:239" #[]).op, none⟩,
 ⟨(opEqI (some 36) 73 99 .i64 if73 Tryd.underlying99 cp99 (.tmp 11) (.tmp 35) 73 4 "number.go:239" #[eD 0]).op, none⟩,
 ⟨(opAssign (some 34) (.tmp 36) 4 "number.go:239" #[eD 1]).op, none⟩
 ] (by kernel_rfl)))
 (.cond (.tmp 34)
 (.seq (.live [10] (.region 9 [
 ⟨(opMove (some 37) (.tmp 0) 9 "number.go:240" #[]).op, none⟩,
 ⟨(opMove (some 38) (.tmp 1) 9 "number.go:240" #[]).op, none⟩,
 ⟨(opMove (some 39) (.tmp 3) 3 "number.go:240" #[]).op, none⟩,
 ⟨opCall (Orc.dead 83 Tryd.f83 Tryd.func83 (by kernel_rfl) (by kernel_rfl)) (some 40) [(.tmp 37), (.tmp 38), (.tmp 39)] #[9, 9, 3] 102 "number.go:240" #[eD 0, eD 1, eD 2], none⟩,
 ⟨(opMakeIface (some 41) 102 (.tmp 40) (.pointer 114) Tryd.underlying102 (by kernel_rfl) 73 "number.go:240" #[eD 3]).op, none⟩,
 ⟨(opAssign (some 10) (.tmp 41) 73 "number.go:240" #[eD 4, eC 3, eP 0, eP 1, eP 2, eP 3, eP 4]).op, none⟩
 ] (by kernel_rfl)))
 (.live [10] .ret))
 .skip))))))))))
 (.seq (.live [10] (.region 10 [
 ⟨(opMove (some 42) (.tmp 4) 73 "number.go:242" #[]).op, none⟩,
 ⟨(opAssign (some 10) (.tmp 42) 73 "number.go:242" #[eD 0, eP 0]).op, none⟩
 ] (by kernel_rfl)))
 (.live [10] .ret))))

noncomputable def f71 : Fun Tryd.prog where
 id := 71
 fn := Tryd.f71
 hf := Tryd.func71
 hname := by kernel_rfl
 body := f71_b
 hbody := by kernel_rfl
 res := [rTmp 10]
 hres := by kernel_rfl
 n := 43
 hn := by kernel_rfl

/-! ### 53: strconv.Atoi (9); results 2, 3; slots: 0 s, 1 s, 4 x, 5 err -/
noncomputable def f53_b : Sim Tryd.prog :=
 (.seq (.live [0] (.region 0 [
 ⟨(opAssign (some 2) (.const (Value.int IntKind.i64 0)) 3 "number.go:146" #[]).op, none⟩,
 ⟨(opAssign (some 3) (.const Value.nilIface) 73 "number.go:146" #[eC 0]).op, none⟩
 ] (by kernel_rfl)))
 (.seq (.live [0, 4, 5] (.region 1 [
 ⟨(opMove (some 7) (.tmp 0) 9 "number.go:147" #[]).op, none⟩,
 ⟨(opCallP p70 (some 8) [(.tmp 7)] #[9] 74 "number.go:147" #[eD 0]).op, none⟩,
 ⟨(opMove (some 6) (.tmp 8) 74 "number.go:147" #[eD 1]).op, none⟩,
 ⟨(opExtract (some 9) (.tmp 6) 0 3 "number.go:147" #[eD 2]).op, none⟩,
 ⟨(opExtract (some 10) (.tmp 6) 1 73 "number.go:147" #[eD 2, { on := 5, ground := (Ground.gcOnly Departure.lateStores) }]).op, none⟩,
 ⟨(opAssign (some 4) (.tmp 9) 3 "number.go:147" #[eD 3, eC 1, eP 0, eP 1, eP 2, eP 3, { on := 4, ground := (Ground.textOnly Departure.lateStores) }]).op, none⟩,
 ⟨(opAssign (some 5) (.tmp 10) 73 "number.go:147" #[eD 4, eC 5, eP 0, eP 1, eP 2, eP 3, eP 4, eP 5]).op, none⟩
 ] (by kernel_rfl)))
 (.seq (.seq (.live [0, 4, 5, 12] (.region 2 [
 ⟨(opMove (some 11) (.tmp 5) 73 "number.go:148" #[]).op, none⟩,
 ⟨(opNe (some 12) 73 d73 ud73 (.tmp 11) (.const Value.nilIface) (.inl rfl) 73 4 "number.go:148" #[eD 0]).op, none⟩
 ] (by kernel_rfl)))
 (.cond (.tmp 12)
 (.seq (.live [2, 3] (.region 3 [
 ⟨(opMove (some 13) (.tmp 4) 3 "number.go:149" #[]).op, none⟩,
 ⟨(opMove (some 14) (.tmp 0) 9 "number.go:149" #[]).op, none⟩,
 ⟨(opMove (some 15) (.tmp 5) 73 "number.go:149" #[]).op, none⟩,
 ⟨opCall (f71.orc 0) (some 16) [(.const (Value.string { data := #[65, 116, 111, 105] })), (.tmp 14), (.const (Value.int IntKind.i64 0)), (.const (Value.int IntKind.i64 0)), (.tmp 15)] #[9, 9, 3, 3, 73] 73 "number.go:149" #[eD 1, eD 2], none⟩,
 ⟨(opAssign (some 2) (.tmp 13) 3 "number.go:149" #[eD 0, eC 3, eP 0, { on := 1, ground := (Ground.textOnly Departure.lateStores) }, { on := 2, ground := (Ground.textOnly Departure.lateStores) }, { on := 3, ground := (Ground.textOnly Departure.lateStoresUnsure) }]).op, none⟩,
 ⟨(opAssign (some 3) (.tmp 16) 73 "number.go:149" #[eD 3, eC 4, eP 0, eP 1, eP 2, eP 3, eP 4]).op, none⟩
 ] (by kernel_rfl)))
 (.live [2, 3] .ret))
 .skip))
 (.seq (.live [2, 3] (.region 4 [
 ⟨(opMove (some 17) (.tmp 4) 3 "number.go:151" #[]).op, none⟩,
 ⟨(opAssign (some 2) (.tmp 17) 3 "number.go:151" #[eD 0, eP 0]).op, none⟩,
 ⟨(opAssign (some 3) (.const Value.nilIface) 73 "number.go:151" #[eC 1, eP 0, eP 1]).op, none⟩
 ] (by kernel_rfl)))
 (.live [2, 3] .ret)))))

noncomputable def f53 : Fun Tryd.prog where
 id := 53
 fn := Tryd.f53
 hf := Tryd.func53
 hname := by kernel_rfl
 body := f53_b
 hbody := by kernel_rfl
 res := [rTmp 2, rTmp 3]
 hres := by kernel_rfl
 n := 18
 hn := by kernel_rfl

end Go.Proofs.YtcfedmheblbdnaaDoor.V

/- What the functions' runs come to; the right sides were printed by a tool, Lean checks them. -/
set_option linter.unusedVariables false
set_option maxRecDepth 100000
namespace Go.Proofs.YtcfedmheblbdnaaDoor.V
open Go Go.V Go.RowKit

theorem sa_run (F : Nat) (s : ByteArray) :
 (f53.run F [.str s] ⟨[], []⟩ : Ans) =
 branch (AV.bool (cdec (s.size ≤ 100000)))
 (branch (AV.bool (cdec ((piF (strL s)).snd = 0)))
 (some (Fin.ret (AV.tup [AV.int IntKind.i64 (opq (piF (strL s)).fst), AV.nilif]), St.mk [] []))
 (branch (AV.bool (cdec ((piF (strL s)).snd = 1)))
 (branch (AV.bool (cdec (s.size ≤ 100000)))
 (some
 (Fin.ret
 (AV.tup
 [AV.int IntKind.i64 (opq (piF (strL s)).fst),
 AV.ifc 102
 (AV.eptr
 [AV.str (ByteArray.mk #[(65 : UInt8), (116 : UInt8), (111 : UInt8), (105 : UInt8)]), AV.str s,
 AV.ifc 122 AV.dead])]),
 St.mk [] []))
 none)
 (branch (AV.bool (cdec ((piF (strL s)).snd = 2)))
 (branch (AV.bool (cdec (s.size ≤ 100000)))
 (some
 (Fin.ret
 (AV.tup
 [AV.int IntKind.i64 (opq (piF (strL s)).fst),
 AV.ifc 102
 (AV.eptr
 [AV.str (ByteArray.mk #[(65 : UInt8), (116 : UInt8), (111 : UInt8), (105 : UInt8)]), AV.str s,
 AV.ifc 122 AV.dead])]),
 St.mk [] []))
 none)
 none)))
 none := by kernel_rfl

end Go.Proofs.YtcfedmheblbdnaaDoor.V

/- Values: strconv.Atoi, as a callee: its error is read as one, no more. -/
set_option linter.unusedVariables false
namespace Go.Proofs.YtcfedmheblbdnaaDoor.V
open Go Go.V Go.RowKit

def saE (e : Nat) : AV := if e = 0 then .nilif else .ifc 102 .dead
def saA (x : Int × Nat) : AV := .tup [.int .i64 x.1, saE x.2]
theorem sa_can (s : ByteArray) (h : cdec (s.size ≤ 100000) = true) : ScopedL 0 0 [AV.str s] ∧ ∃ r F r' st', frz r' = r ∧ Scoped 0 0 r ∧ f53.run F [.str s] ⟨[], []⟩ = some (.ret r', st') ∧ ∀ g w v, Rel g w r v → Rel g w (saA (piF (strL s))) v := by
  refine ⟨⟨trivial, trivial⟩, ?_⟩
  have hr := sa_run 0 s
  rw [h, br_t, opq_eq] at hr
  have h3 := piF_le (strL s)
  generalize piF (strL s) = x at *
  obtain ⟨n, e⟩ := x
  simp only at h3 hr ⊢
  rcases h3 with rfl | rfl | rfl
  · rw [branch_of (cdec_iff.mpr rfl)] at hr
    refine ⟨AV.tup [AV.int IntKind.i64 n, AV.nilif], 0, _, _, ?_, ⟨trivial, trivial, trivial⟩, hr, fun g w v hv => hv⟩
    rfl
  · rw [branch_not (by rw [Bool.eq_false_iff, ne_eq, cdec_iff]; decide), branch_of (cdec_iff.mpr rfl), br_t] at hr
    refine ⟨AV.tup [AV.int IntKind.i64 n, AV.ifc 102 (AV.eptr [AV.str { data := #[65, 116, 111, 105] }, AV.str s, AV.ifc 122 AV.dead])], 0, _, _, rfl, ?_, hr, fun g w v hv => ?_⟩
    · exact ⟨trivial, ⟨trivial, trivial, trivial, trivial⟩, trivial⟩
    · obtain ⟨vs, e0, a, vr, e1, ha, b, vr2, e2, ⟨u, hu, _⟩, e3⟩ := hv
      exact ⟨vs, e0, a, vr, e1, ha, b, vr2, e2, ⟨u, hu, trivial⟩, e3⟩
  · rw [branch_not (by rw [Bool.eq_false_iff, ne_eq, cdec_iff]; decide), branch_not (by rw [Bool.eq_false_iff, ne_eq, cdec_iff]; decide), branch_of (cdec_iff.mpr rfl), br_t] at hr
    refine ⟨AV.tup [AV.int IntKind.i64 n, AV.ifc 102 (AV.eptr [AV.str { data := #[65, 116, 111, 105] }, AV.str s, AV.ifc 122 AV.dead])], 0, _, _, rfl, ?_, hr, fun g w v hv => ?_⟩
    · exact ⟨trivial, ⟨trivial, trivial, trivial, trivial⟩, trivial⟩
    · obtain ⟨vs, e0, a, vr, e1, ha, b, vr2, e2, ⟨u, hu, _⟩, e3⟩ := hv
      exact ⟨vs, e0, a, vr, e1, ha, b, vr2, e2, ⟨u, hu, trivial⟩, e3⟩
noncomputable def p53r : POrc Tryd.prog := f53.seenAs dec1s (fun s => [.str s]) dec1s_enc (fun s => cdec (s.size ≤ 100000)) (fun s => saA (piF (strL s))) sa_can
/-- Told apart: a number, or an error. -/
noncomputable def p53 : POrc Tryd.prog := byF p53r
  (fun args k => match dec1s args with
    | some s => match cdec (s.size ≤ 100000) with
      | true => branch (.bool (cdec ((piF (strL s)).2 = 0))) (k (.tup [.int .i64 (opq (piF (strL s)).1), .nilif])) (k (.tup [.int .i64 (opq (piF (strL s)).1), .ifc 102 .dead]))
      | false => none
    | none => none)
  fun k args fin h' => by
    split at h'
    · rename_i s hs
      split at h'
      · rename_i hc
        rw [show p53r.F args k = k (saA (piF (strL s))) by simp only [p53r, Fun.seenAs, hs, hc]]
        rw [opq_eq] at h'
        cases h0 : cdec ((piF (strL s)).2 = 0) with
        | true =>
          rw [h0, branch_true] at h'
          rw [saA, saE, if_pos (cdec_iff.mp h0)]; exact h'
        | false =>
          rw [h0, branch_false] at h'
          rw [saA, saE, if_neg (by rw [Bool.eq_false_iff, ne_eq, cdec_iff] at h0; exact h0)]; exact h'
      · cases h'
    · cases h'
end Go.Proofs.YtcfedmheblbdnaaDoor.V

/- The functions' pieces, as told by gen.py. -/
set_option linter.unusedVariables false
set_option maxRecDepth 20000
namespace Go.Proofs.YtcfedmheblbdnaaDoor.V
open Go Go.V Go.RowKit


/-! ### 76: internal/stringslite.HasPrefix (9, 9); results 4; slots: 0 s, 1 prefix, 2 s, 3 prefix -/
noncomputable def g76_b : Sim Tryd.prog :=
 (.seq (.live [0, 1] (.region 0 [
 ⟨(opAssign (some 4) (.const (Value.bool false)) 4 "strings.go:16" #[]).op, none⟩
 ] (by kernel_rfl)))
 (.seq (.live [4] (.region 1 [
 ⟨(opMove (some 5) (.tmp 0) 9 "strings.go:17" #[]).op, none⟩,
 ⟨(opLen (some 6) (.tmp 5) 9 .string Tryd.underlying9 3 "strings.go:17" #[eD 0]).op, none⟩,
 ⟨(opMove (some 7) (.tmp 1) 9 "strings.go:17" #[]).op, none⟩,
 ⟨(opLen (some 8) (.tmp 7) 9 .string Tryd.underlying9 3 "strings.go:17" #[eD 2]).op, none⟩,
 ⟨(opBin (some 9) .geq 3 (.tmp 6) (.tmp 8) 3 4 "strings.go:17" #[eD 1, eD 3]).op, none⟩,
 ⟨(opMove (some 10) (.tmp 9) 4 "strings.go:17" #[eD 4]).op, none⟩,
 ⟨(opMove (some 11) (.tmp 0) 9 "strings.go:17" #[eG 5]).op, (some (5, 10, true))⟩,
 ⟨(opMove (some 12) (.tmp 1) 9 "strings.go:17" #[eG 5]).op, (some (5, 10, true))⟩,
 ⟨(opLen (some 13) (.tmp 12) 9 .string Tryd.underlying9 3 "strings.go:17" #[eD 7, eG 5]).op, (some (5, 10, true))⟩,
 ⟨(opSliceStrW (some 14) 9 (.tmp 11) none (some (.tmp 13)) Tryd.underlying9 9 "strings.go:17" #[eD 6, eD 8, eG 5]).op, (some (5, 10, true))⟩,
 ⟨(opMove (some 15) (.tmp 1) 9 "strings.go:17" #[eG 5]).op, (some (5, 10, true))⟩,
 ⟨(opBinS (some 16) .eql 9 (.tmp 14) (.tmp 15) 9 4 "strings.go:17" #[eD 9, eD 10, eG 5]).op, (some (5, 10, true))⟩,
 ⟨(opPick (some 17) (.tmp 10) (.tmp 16) (.const (Value.bool false)) 4 "strings.go:17" #[eD 5, eD 11]).op, none⟩,
 ⟨(opAssign (some 4) (.tmp 17) 4 "strings.go:17" #[eD 12, eC 5, eP 0, eP 1, eP 2, eP 3, eP 4, eP 5, eP 6, eP 7, eP 8, eP 9, eP 10, eP 11, eP 12]).op, none⟩
 ] (by kernel_rfl)))
 (.live [4] .ret)))

noncomputable def g76 : Fun Tryd.prog where
 id := 76
 fn := Tryd.f76
 hf := Tryd.func76
 hname := by kernel_rfl
 body := g76_b
 hbody := by kernel_rfl
 res := [rTmp 4]
 hres := by kernel_rfl
 n := 18
 hn := by kernel_rfl

/-! ### 67: internal/stringslite.CutPrefix (9, 9); results 4, 5; slots: 0 s, 1 prefix, 2 s, 3 prefix, 4 after, 5 found -/
noncomputable def g67_b : Sim Tryd.prog :=
 (.seq (.live [0, 1] (.region 0 [
 ⟨(opAssign (some 4) (.const (Value.string { data := #[] })) 9 "strings.go:87" #[]).op, none⟩,
 ⟨(opAssign (some 5) (.const (Value.bool false)) 4 "strings.go:87" #[eC 0]).op, none⟩
 ] (by kernel_rfl)))
 (.seq (.seq (.live [0, 1, 9] (.region 1 [
 ⟨(opMove (some 6) (.tmp 0) 9 "strings.go:88" #[]).op, none⟩,
 ⟨(opMove (some 7) (.tmp 1) 9 "strings.go:88" #[]).op, none⟩,
 ⟨opCall (g76.orc 0) (some 8) [(.tmp 6), (.tmp 7)] #[9, 9] 4 "strings.go:88" #[eD 0, eD 1], none⟩,
 ⟨(opNot (some 9) 4 (.tmp 8) 4 "strings.go:88" #[eD 2]).op, none⟩
 ] (by kernel_rfl)))
 (.cond (.tmp 9)
 (.seq (.live [4, 5] (.region 2 [
 ⟨(opMove (some 10) (.tmp 0) 9 "strings.go:89" #[]).op, none⟩,
 ⟨(opAssign (some 4) (.tmp 10) 9 "strings.go:89" #[eD 0, eP 0]).op, none⟩,
 ⟨(opAssign (some 5) (.const (Value.bool false)) 4 "strings.go:89" #[eC 1, eP 0, eP 1]).op, none⟩
 ] (by kernel_rfl)))
 (.live [4, 5] .ret))
 .skip))
 (.seq (.live [4, 5] (.region 3 [
 ⟨(opMove (some 11) (.tmp 0) 9 "strings.go:91" #[]).op, none⟩,
 ⟨(opMove (some 12) (.tmp 1) 9 "strings.go:91" #[]).op, none⟩,
 ⟨(opLen (some 13) (.tmp 12) 9 .string Tryd.underlying9 3 "strings.go:91" #[eD 1]).op, none⟩,
 ⟨(opSliceStrW (some 14) 9 (.tmp 11) (some (.tmp 13)) none Tryd.underlying9 9 "strings.go:91" #[eD 0, eD 2]).op, none⟩,
 ⟨(opAssign (some 4) (.tmp 14) 9 "strings.go:91" #[eD 3, eP 0, eP 1, eP 2, eP 3]).op, none⟩,
 ⟨(opAssign (some 5) (.const (Value.bool true)) 4 "strings.go:91" #[eC 4, eP 0, eP 1, eP 2, eP 3, eP 4]).op, none⟩
 ] (by kernel_rfl)))
 (.live [4, 5] .ret))))

noncomputable def g67 : Fun Tryd.prog where
 id := 67
 fn := Tryd.f67
 hf := Tryd.func67
 hname := by kernel_rfl
 body := g67_b
 hbody := by kernel_rfl
 res := [rTmp 4, rTmp 5]
 hres := by kernel_rfl
 n := 15
 hn := by kernel_rfl

/-! ### 50: strings.CutPrefix (9, 9); results 4, 5; slots: 0 s, 1 prefix, 2 s, 3 prefix, 4 after, 5 found -/
noncomputable def g50_b : Sim Tryd.prog :=
 (.seq (.live [0, 1] (.region 0 [
 ⟨(opAssign (some 4) (.const (Value.string { data := #[] })) 9 "strings.go:1279" #[]).op, none⟩,
 ⟨(opAssign (some 5) (.const (Value.bool false)) 4 "strings.go:1279" #[eC 0]).op, none⟩
 ] (by kernel_rfl)))
 (.seq (.live [4, 5] (.region 1 [
 ⟨(opMove (some 6) (.tmp 0) 9 "strings.go:1280" #[]).op, none⟩,
 ⟨(opMove (some 7) (.tmp 1) 9 "strings.go:1280" #[]).op, none⟩,
 ⟨opCall (g67.orc 0) (some 8) [(.tmp 6), (.tmp 7)] #[9, 9] 69 "strings.go:1280" #[eD 0, eD 1], none⟩,
 ⟨(opExtract (some 9) (.tmp 8) 0 9 "strings.go:1280" #[eD 2]).op, none⟩,
 ⟨(opExtract (some 10) (.tmp 8) 1 4 "strings.go:1280" #[eD 2]).op, none⟩,
 ⟨(opAssign (some 4) (.tmp 9) 9 "strings.go:1280" #[eD 3, eC 2, eP 0, eP 1, eP 2, eP 3, eP 4]).op, none⟩,
 ⟨(opAssign (some 5) (.tmp 10) 4 "strings.go:1280" #[eD 4, eC 5, eP 0, eP 1, eP 2, eP 3, eP 4, eP 5]).op, none⟩
 ] (by kernel_rfl)))
 (.live [4, 5] .ret)))

noncomputable def g50 : Fun Tryd.prog where
 id := 50
 fn := Tryd.f50
 hf := Tryd.func50
 hname := by kernel_rfl
 body := g50_b
 hbody := by kernel_rfl
 res := [rTmp 4, rTmp 5]
 hres := by kernel_rfl
 n := 11
 hn := by kernel_rfl

/-! ### 77: internal/stringslite.HasSuffix (9, 9); results 4; slots: 0 s, 1 suffix, 2 s, 3 suffix -/
noncomputable def g77_b : Sim Tryd.prog :=
 (.seq (.live [0, 1] (.region 0 [
 ⟨(opAssign (some 4) (.const (Value.bool false)) 4 "strings.go:20" #[]).op, none⟩
 ] (by kernel_rfl)))
 (.seq (.live [4] (.region 1 [
 ⟨(opMove (some 5) (.tmp 0) 9 "strings.go:21" #[]).op, none⟩,
 ⟨(opLen (some 6) (.tmp 5) 9 .string Tryd.underlying9 3 "strings.go:21" #[eD 0]).op, none⟩,
 ⟨(opMove (some 7) (.tmp 1) 9 "strings.go:21" #[]).op, none⟩,
 ⟨(opLen (some 8) (.tmp 7) 9 .string Tryd.underlying9 3 "strings.go:21" #[eD 2]).op, none⟩,
 ⟨(opBin (some 9) .geq 3 (.tmp 6) (.tmp 8) 3 4 "strings.go:21" #[eD 1, eD 3]).op, none⟩,
 ⟨(opMove (some 10) (.tmp 9) 4 "strings.go:21" #[eD 4]).op, none⟩,
 ⟨(opMove (some 11) (.tmp 0) 9 "strings.go:21" #[eG 5]).op, (some (5, 10, true))⟩,
 ⟨(opMove (some 12) (.tmp 0) 9 "strings.go:21" #[eG 5]).op, (some (5, 10, true))⟩,
 ⟨(opLen (some 13) (.tmp 12) 9 .string Tryd.underlying9 3 "strings.go:21" #[eD 7, eG 5]).op, (some (5, 10, true))⟩,
 ⟨(opMove (some 14) (.tmp 1) 9 "strings.go:21" #[eG 5]).op, (some (5, 10, true))⟩,
 ⟨(opLen (some 15) (.tmp 14) 9 .string Tryd.underlying9 3 "strings.go:21" #[eD 9, eG 5]).op, (some (5, 10, true))⟩,
 ⟨(opBin (some 16) .sub 3 (.tmp 13) (.tmp 15) 3 3 "strings.go:21" #[eD 8, eD 10, eG 5]).op, (some (5, 10, true))⟩,
 ⟨(opSliceStrW (some 17) 9 (.tmp 11) (some (.tmp 16)) none Tryd.underlying9 9 "strings.go:21" #[eD 6, eD 11, eG 5]).op, (some (5, 10, true))⟩,
 ⟨(opMove (some 18) (.tmp 1) 9 "strings.go:21" #[eG 5]).op, (some (5, 10, true))⟩,
 ⟨(opBinS (some 19) .eql 9 (.tmp 17) (.tmp 18) 9 4 "strings.go:21" #[eD 12, eD 13, eG 5]).op, (some (5, 10, true))⟩,
 ⟨(opPick (some 20) (.tmp 10) (.tmp 19) (.const (Value.bool false)) 4 "strings.go:21" #[eD 5, eD 14]).op, none⟩,
 ⟨(opAssign (some 4) (.tmp 20) 4 "strings.go:21" #[eD 15, eC 5, eP 0, eP 1, eP 2, eP 3, eP 4, eP 5, eP 6, eP 7, eP 8, eP 9, eP 10, eP 11, eP 12, eP 13, eP 14, eP 15]).op, none⟩
 ] (by kernel_rfl)))
 (.live [4] .ret)))

noncomputable def g77 : Fun Tryd.prog where
 id := 77
 fn := Tryd.f77
 hf := Tryd.func77
 hname := by kernel_rfl
 body := g77_b
 hbody := by kernel_rfl
 res := [rTmp 4]
 hres := by kernel_rfl
 n := 21
 hn := by kernel_rfl

/-! ### 68: internal/stringslite.CutSuffix (9, 9); results 4, 5; slots: 0 s, 1 suffix, 2 s, 3 suffix, 4 before, 5 found -/
noncomputable def g68_b : Sim Tryd.prog :=
 (.seq (.live [0, 1] (.region 0 [
 ⟨(opAssign (some 4) (.const (Value.string { data := #[] })) 9 "strings.go:94" #[]).op, none⟩,
 ⟨(opAssign (some 5) (.const (Value.bool false)) 4 "strings.go:94" #[eC 0]).op, none⟩
 ] (by kernel_rfl)))
 (.seq (.seq (.live [0, 1, 9] (.region 1 [
 ⟨(opMove (some 6) (.tmp 0) 9 "strings.go:95" #[]).op, none⟩,
 ⟨(opMove (some 7) (.tmp 1) 9 "strings.go:95" #[]).op, none⟩,
 ⟨opCall (g77.orc 0) (some 8) [(.tmp 6), (.tmp 7)] #[9, 9] 4 "strings.go:95" #[eD 0, eD 1], none⟩,
 ⟨(opNot (some 9) 4 (.tmp 8) 4 "strings.go:95" #[eD 2]).op, none⟩
 ] (by kernel_rfl)))
 (.cond (.tmp 9)
 (.seq (.live [4, 5] (.region 2 [
 ⟨(opMove (some 10) (.tmp 0) 9 "strings.go:96" #[]).op, none⟩,
 ⟨(opAssign (some 4) (.tmp 10) 9 "strings.go:96" #[eD 0, eP 0]).op, none⟩,
 ⟨(opAssign (some 5) (.const (Value.bool false)) 4 "strings.go:96" #[eC 1, eP 0, eP 1]).op, none⟩
 ] (by kernel_rfl)))
 (.live [4, 5] .ret))
 .skip))
 (.seq (.live [4, 5] (.region 3 [
 ⟨(opMove (some 11) (.tmp 0) 9 "strings.go:98" #[]).op, none⟩,
 ⟨(opMove (some 12) (.tmp 0) 9 "strings.go:98" #[]).op, none⟩,
 ⟨(opLen (some 13) (.tmp 12) 9 .string Tryd.underlying9 3 "strings.go:98" #[eD 1]).op, none⟩,
 ⟨(opMove (some 14) (.tmp 1) 9 "strings.go:98" #[]).op, none⟩,
 ⟨(opLen (some 15) (.tmp 14) 9 .string Tryd.underlying9 3 "strings.go:98" #[eD 3]).op, none⟩,
 ⟨(opBin (some 16) .sub 3 (.tmp 13) (.tmp 15) 3 3 "strings.go:98" #[eD 2, eD 4]).op, none⟩,
 ⟨(opSliceStrW (some 17) 9 (.tmp 11) none (some (.tmp 16)) Tryd.underlying9 9 "strings.go:98" #[eD 0, eD 5]).op, none⟩,
 ⟨(opAssign (some 4) (.tmp 17) 9 "strings.go:98" #[eD 6, eP 0, eP 1, eP 2, eP 3, eP 4, eP 5, eP 6]).op, none⟩,
 ⟨(opAssign (some 5) (.const (Value.bool true)) 4 "strings.go:98" #[eC 7, eP 0, eP 1, eP 2, eP 3, eP 4, eP 5, eP 6, eP 7]).op, none⟩
 ] (by kernel_rfl)))
 (.live [4, 5] .ret))))

noncomputable def g68 : Fun Tryd.prog where
 id := 68
 fn := Tryd.f68
 hf := Tryd.func68
 hname := by kernel_rfl
 body := g68_b
 hbody := by kernel_rfl
 res := [rTmp 4, rTmp 5]
 hres := by kernel_rfl
 n := 18
 hn := by kernel_rfl

/-! ### 51: strings.CutSuffix (9, 9); results 4, 5; slots: 0 s, 1 suffix, 2 s, 3 suffix, 4 before, 5 found -/
noncomputable def g51_b : Sim Tryd.prog :=
 (.seq (.live [0, 1] (.region 0 [
 ⟨(opAssign (some 4) (.const (Value.string { data := #[] })) 9 "strings.go:1287" #[]).op, none⟩,
 ⟨(opAssign (some 5) (.const (Value.bool false)) 4 "strings.go:1287" #[eC 0]).op, none⟩
 ] (by kernel_rfl)))
 (.seq (.live [4, 5] (.region 1 [
 ⟨(opMove (some 6) (.tmp 0) 9 "strings.go:1288" #[]).op, none⟩,
 ⟨(opMove (some 7) (.tmp 1) 9 "strings.go:1288" #[]).op, none⟩,
 ⟨opCall (g68.orc 0) (some 8) [(.tmp 6), (.tmp 7)] #[9, 9] 69 "strings.go:1288" #[eD 0, eD 1], none⟩,
 ⟨(opExtract (some 9) (.tmp 8) 0 9 "strings.go:1288" #[eD 2]).op, none⟩,
 ⟨(opExtract (some 10) (.tmp 8) 1 4 "strings.go:1288" #[eD 2]).op, none⟩,
 ⟨(opAssign (some 4) (.tmp 9) 9 "strings.go:1288" #[eD 3, eC 2, eP 0, eP 1, eP 2, eP 3, eP 4]).op, none⟩,
 ⟨(opAssign (some 5) (.tmp 10) 4 "strings.go:1288" #[eD 4, eC 5, eP 0, eP 1, eP 2, eP 3, eP 4, eP 5]).op, none⟩
 ] (by kernel_rfl)))
 (.live [4, 5] .ret)))

noncomputable def g51 : Fun Tryd.prog where
 id := 51
 fn := Tryd.f51
 hf := Tryd.func51
 hname := by kernel_rfl
 body := g51_b
 hbody := by kernel_rfl
 res := [rTmp 4, rTmp 5]
 hres := by kernel_rfl
 n := 11
 hn := by kernel_rfl

/-! ### 29: interlock/value.parse (9); results 2, 3; slots: 0 s, 1 s, 4 inner, 5 ok, 6 inner, 7 ok, 8 text, 9 n, 10 e -/
noncomputable def g29_b : Sim Tryd.prog :=
 (.seq (.live [0, 2] (.region 0 [
 ⟨(opAlloc (some 2) 24 (.agg #[(.int .i64 0), (.int .i64 0), (.string ⟨#[]⟩)]) ze24 0 "value.go:174" #[]).op, none⟩,
 ⟨(opAssign (some 3) (.const (Value.bool false)) 4 "value.go:174" #[]).op, none⟩
 ] (by kernel_rfl)))
 (.seq (.seq (.live [0, 2, 4, 5] (.region 1 [
 ⟨(opMove (some 12) (.tmp 0) 9 "value.go:175" #[]).op, none⟩,
 ⟨opCall (g50.orc 0) (some 13) [(.tmp 12), (.const (Value.string { data := #[34] }))] #[9, 9] 69 "value.go:175" #[eD 0], none⟩,
 ⟨(opMove (some 11) (.tmp 13) 69 "value.go:175" #[eD 1]).op, none⟩,
 ⟨(opExtract (some 14) (.tmp 11) 0 9 "value.go:175" #[eD 2]).op, none⟩,
 ⟨(opExtract (some 15) (.tmp 11) 1 4 "value.go:175" #[eD 2, { on := 5, ground := (Ground.gcOnly Departure.lateStores) }]).op, none⟩,
 ⟨(opAssign (some 4) (.tmp 14) 9 "value.go:175" #[eD 3, eC 1, eP 0, eP 1, eP 2, eP 3, { on := 4, ground := (Ground.textOnly Departure.lateStores) }]).op, none⟩,
 ⟨(opAssign (some 5) (.tmp 15) 4 "value.go:175" #[eD 4, eC 5, eP 0, eP 1, eP 2, eP 3, eP 4, eP 5]).op, none⟩
 ] (by kernel_rfl)))
 (.seq (.live [0, 2, 4, 16] (.region 2 [
 ⟨(opMove (some 16) (.tmp 5) 4 "value.go:175" #[]).op, none⟩
 ] (by kernel_rfl)))
 (.cond (.tmp 16)
 (.seq (.live [2, 6, 7] (.region 3 [
 ⟨(opMove (some 18) (.tmp 4) 9 "value.go:176" #[]).op, none⟩,
 ⟨opCall (g51.orc 0) (some 19) [(.tmp 18), (.const (Value.string { data := #[34] }))] #[9, 9] 69 "value.go:176" #[eD 0], none⟩,
 ⟨(opMove (some 17) (.tmp 19) 69 "value.go:176" #[eD 1]).op, none⟩,
 ⟨(opExtract (some 20) (.tmp 17) 0 9 "value.go:176" #[eD 2]).op, none⟩,
 ⟨(opExtract (some 21) (.tmp 17) 1 4 "value.go:176" #[eD 2, { on := 5, ground := (Ground.gcOnly Departure.lateStores) }]).op, none⟩,
 ⟨(opAssign (some 6) (.tmp 20) 9 "value.go:176" #[eD 3, eC 1, eP 0, eP 1, eP 2, eP 3, { on := 4, ground := (Ground.textOnly Departure.lateStores) }]).op, none⟩,
 ⟨(opAssign (some 7) (.tmp 21) 4 "value.go:176" #[eD 4, eC 5, eP 0, eP 1, eP 2, eP 3, eP 4, eP 5]).op, none⟩
 ] (by kernel_rfl)))
 (.seq (.seq (.live [2, 6, 23] (.region 4 [
 ⟨(opMove (some 22) (.tmp 7) 4 "value.go:177" #[]).op, none⟩,
 ⟨(opNot (some 23) 4 (.tmp 22) 4 "value.go:177" #[eD 0]).op, none⟩
 ] (by kernel_rfl)))
 (.cond (.tmp 23)
 (.seq (.live [2, 3] (.region 5 [
 ⟨(opBuild (some 24) 24 #[(.int .i64 0), (.int .i64 0), (.string ⟨#[]⟩)] [] ze24 (by kernel_rfl) 24 "value.go:178" #[]).op, none⟩,
 ⟨(opStore none 24 (.tmp 2) (.tmp 24) 3 sz24 0 "value.go:178" #[eD 0, eP 0]).op, none⟩,
 ⟨(opAssign (some 3) (.const (Value.bool false)) 4 "value.go:178" #[eC 1, eP 0, eP 1]).op, none⟩
 ] (by kernel_rfl)))
 (.live [2, 3] .ret))
 .skip))
 (.seq (.live [2, 7, 8] (.region 6 [
 ⟨(opMove (some 26) (.tmp 6) 9 "value.go:180" #[]).op, none⟩,
 ⟨(opCallP p52 (some 27) [(.tmp 26)] #[9] 69 "value.go:180" #[eD 0]).op, none⟩,
 ⟨(opMove (some 25) (.tmp 27) 69 "value.go:180" #[eD 1]).op, none⟩,
 ⟨(opExtract (some 28) (.tmp 25) 0 9 "value.go:180" #[eD 2]).op, none⟩,
 ⟨(opExtract (some 29) (.tmp 25) 1 4 "value.go:180" #[eD 2, { on := 5, ground := (Ground.gcOnly Departure.lateStores) }]).op, none⟩,
 ⟨(opAssign (some 8) (.tmp 28) 9 "value.go:180" #[eD 3, eC 1, eP 0, eP 1, eP 2, eP 3, { on := 4, ground := (Ground.textOnly Departure.lateStores) }]).op, none⟩,
 ⟨(opAssign (some 7) (.tmp 29) 4 "value.go:180" #[eD 4, eC 5, eP 0, eP 1, eP 2, eP 3, eP 4, eP 5]).op, none⟩
 ] (by kernel_rfl)))
 (.seq (.live [2, 3] (.region 7 [
 ⟨(opMove (some 30) (.tmp 8) 9 "value.go:181" #[]).op, none⟩,
 ⟨(opBuild (some 31) 24 #[(.int .i64 0), (.int .i64 0), (.string ⟨#[]⟩)] [(0, 0, 1, (.const (Value.int IntKind.i64 3))), (2, 2, 1, (.tmp 30))] ze24 (by kernel_rfl) 24 "value.go:181" #[eD 0]).op, none⟩,
 ⟨(opMove (some 32) (.tmp 7) 4 "value.go:181" #[{ on := 3, ground := (Ground.gcOnly Departure.lateStores) }]).op, none⟩,
 ⟨(opStore none 24 (.tmp 2) (.tmp 31) 3 sz24 0 "value.go:181" #[eD 1, eP 0, eP 1, { on := 2, ground := (Ground.textOnly Departure.lateStores) }]).op, none⟩,
 ⟨(opAssign (some 3) (.tmp 32) 4 "value.go:181" #[eD 2, eC 3, eP 0, eP 1, eP 2, eP 3]).op, none⟩
 ] (by kernel_rfl)))
 (.live [2, 3] .ret)))))
 .skip)))
 (.seq (.seq (.live [0, 2, 33] (.region 8 [
 ⟨(opMove (some 33) (.tmp 0) 9 "value.go:183" #[]).op, none⟩
 ] (by kernel_rfl)))
 (.block 0 (.seq (.live [0, 2, 33, 34] (.region 9 [
 ⟨(opBinS (some 35) .eql 9 (.tmp 33) (.const (Value.string { data := #[110, 117, 108, 108] })) 9 4 "value.go:184" #[]).op, none⟩,
 ⟨(opAssign (some 34) (.tmp 35) 4 "value.go:184" #[eD 0]).op, none⟩
 ] (by kernel_rfl)))
 (.cond (.tmp 34)
 (.seq (.live [2, 3] (.region 10 [
 ⟨(opBuild (some 36) 24 #[(.int .i64 0), (.int .i64 0), (.string ⟨#[]⟩)] [] ze24 (by kernel_rfl) 24 "value.go:185" #[]).op, none⟩,
 ⟨(opStore none 24 (.tmp 2) (.tmp 36) 3 sz24 0 "value.go:185" #[eD 0, eP 0]).op, none⟩,
 ⟨(opAssign (some 3) (.const (Value.bool true)) 4 "value.go:185" #[eC 1, eP 0, eP 1]).op, none⟩
 ] (by kernel_rfl)))
 (.live [2, 3] .ret))
 (.seq (.live [0, 2, 33, 37] (.region 11 [
 ⟨(opBinS (some 38) .eql 9 (.tmp 33) (.const (Value.string { data := #[102, 97, 108, 115, 101] })) 9 4 "value.go:186" #[]).op, none⟩,
 ⟨(opAssign (some 37) (.tmp 38) 4 "value.go:186" #[eD 0]).op, none⟩
 ] (by kernel_rfl)))
 (.cond (.tmp 37)
 (.seq (.live [2, 3] (.region 12 [
 ⟨(opBuild (some 39) 24 #[(.int .i64 0), (.int .i64 0), (.string ⟨#[]⟩)] [(0, 0, 1, (.const (Value.int IntKind.i64 2)))] ze24 (by kernel_rfl) 24 "value.go:187" #[]).op, none⟩,
 ⟨(opStore none 24 (.tmp 2) (.tmp 39) 3 sz24 0 "value.go:187" #[eD 0, eP 0]).op, none⟩,
 ⟨(opAssign (some 3) (.const (Value.bool true)) 4 "value.go:187" #[eC 1, eP 0, eP 1]).op, none⟩
 ] (by kernel_rfl)))
 (.live [2, 3] .ret))
 (.seq (.live [0, 2, 40] (.region 13 [
 ⟨(opBinS (some 41) .eql 9 (.tmp 33) (.const (Value.string { data := #[116, 114, 117, 101] })) 9 4 "value.go:188" #[]).op, none⟩,
 ⟨(opAssign (some 40) (.tmp 41) 4 "value.go:188" #[eD 0]).op, none⟩
 ] (by kernel_rfl)))
 (.cond (.tmp 40)
 (.seq (.live [2, 3] (.region 14 [
 ⟨(opBuild (some 42) 24 #[(.int .i64 0), (.int .i64 0), (.string ⟨#[]⟩)] [(0, 0, 1, (.const (Value.int IntKind.i64 2))), (1, 1, 1, (.const (Value.int IntKind.i64 1)))] ze24 (by kernel_rfl) 24 "value.go:189" #[]).op, none⟩,
 ⟨(opStore none 24 (.tmp 2) (.tmp 42) 3 sz24 0 "value.go:189" #[eD 0, eP 0]).op, none⟩,
 ⟨(opAssign (some 3) (.const (Value.bool true)) 4 "value.go:189" #[eC 1, eP 0, eP 1]).op, none⟩
 ] (by kernel_rfl)))
 (.live [2, 3] .ret))
 .skip))))))))
 (.seq (.live [2, 9, 10] (.region 15 [
 ⟨(opMove (some 44) (.tmp 0) 9 "value.go:191" #[]).op, none⟩,
 ⟨(opCallP p53 (some 45) [(.tmp 44)] #[9] 74 "value.go:191" #[eD 0]).op, none⟩,
 ⟨(opMove (some 43) (.tmp 45) 74 "value.go:191" #[eD 1]).op, none⟩,
 ⟨(opExtract (some 46) (.tmp 43) 0 3 "value.go:191" #[eD 2]).op, none⟩,
 ⟨(opExtract (some 47) (.tmp 43) 1 73 "value.go:191" #[eD 2, { on := 5, ground := (Ground.gcOnly Departure.lateStores) }]).op, none⟩,
 ⟨(opAssign (some 9) (.tmp 46) 3 "value.go:191" #[eD 3, eC 1, eP 0, eP 1, eP 2, eP 3, { on := 4, ground := (Ground.textOnly Departure.lateStores) }]).op, none⟩,
 ⟨(opAssign (some 10) (.tmp 47) 73 "value.go:191" #[eD 4, eC 5, eP 0, eP 1, eP 2, eP 3, eP 4, eP 5]).op, none⟩
 ] (by kernel_rfl)))
 (.seq (.seq (.live [2, 9, 49] (.region 16 [
 ⟨(opMove (some 48) (.tmp 10) 73 "value.go:192" #[]).op, none⟩,
 ⟨(opNe (some 49) 73 d73 ud73 (.tmp 48) (.const Value.nilIface) (.inl rfl) 73 4 "value.go:192" #[eD 0]).op, none⟩
 ] (by kernel_rfl)))
 (.cond (.tmp 49)
 (.seq (.live [2, 3] (.region 17 [
 ⟨(opBuild (some 50) 24 #[(.int .i64 0), (.int .i64 0), (.string ⟨#[]⟩)] [] ze24 (by kernel_rfl) 24 "value.go:193" #[]).op, none⟩,
 ⟨(opStore none 24 (.tmp 2) (.tmp 50) 3 sz24 0 "value.go:193" #[eD 0, eP 0]).op, none⟩,
 ⟨(opAssign (some 3) (.const (Value.bool false)) 4 "value.go:193" #[eC 1, eP 0, eP 1]).op, none⟩
 ] (by kernel_rfl)))
 (.live [2, 3] .ret))
 .skip))
 (.seq (.live [2, 3] (.region 18 [
 ⟨(opMove (some 51) (.tmp 9) 3 "value.go:195" #[]).op, none⟩,
 ⟨(opBuild (some 52) 24 #[(.int .i64 0), (.int .i64 0), (.string ⟨#[]⟩)] [(0, 0, 1, (.const (Value.int IntKind.i64 1))), (1, 1, 1, (.tmp 51))] ze24 (by kernel_rfl) 24 "value.go:195" #[eD 0]).op, none⟩,
 ⟨(opStore none 24 (.tmp 2) (.tmp 52) 3 sz24 0 "value.go:195" #[eD 1, eP 0, eP 1]).op, none⟩,
 ⟨(opAssign (some 3) (.const (Value.bool true)) 4 "value.go:195" #[eC 2, eP 0, eP 1, eP 2]).op, none⟩
 ] (by kernel_rfl)))
 (.live [2, 3] .ret)))))))

noncomputable def g29 : Fun Tryd.prog where
 id := 29
 fn := Tryd.f29
 hf := Tryd.func29
 hname := by kernel_rfl
 body := g29_b
 hbody := by kernel_rfl
 res := [rCell 2 24 d24 ud24 3 sz24, rTmp 3]
 hres := by kernel_rfl
 n := 53
 hn := by kernel_rfl

end Go.Proofs.YtcfedmheblbdnaaDoor.V

/- What the functions' runs come to; the right sides were printed by a tool, Lean checks them. -/
set_option linter.unusedVariables false
set_option maxRecDepth 100000
namespace Go.Proofs.YtcfedmheblbdnaaDoor.V
open Go Go.V Go.RowKit

theorem pr_run (F : Nat) (s : ByteArray) :
 (g29.run F [.str s] ⟨[], []⟩ : Ans) =
 branch (AV.bool (decide ((↑s.size : Int) ≥ (1 : Int))))
 (branch (AV.bool (inSl s (0 : Int) (1 : Int)))
 (branch (AV.bool !(subT s (0 : Int) (1 : Int)).toList == [UInt8.ofNat 34])
 (branch
 (AV.bool
 (s.toList ==
 [UInt8.ofNat 110, UInt8.ofNat 117, UInt8.ofNat 108, UInt8.ofNat 108]))
 (some
 (Fin.ret
 (AV.tup
 [AV.agg [AV.int IntKind.i64 (0 : Int), AV.int IntKind.i64 (0 : Int), AV.str (ByteArray.mk #[])],
 AV.bool true]),
 St.mk [Ob.cells [AV.int IntKind.i64 (0 : Int), AV.int IntKind.i64 (0 : Int), AV.str (ByteArray.mk #[])]]
 []))
 (branch
 (AV.bool
 (s.toList ==
 [UInt8.ofNat 102, UInt8.ofNat 97, UInt8.ofNat 108, UInt8.ofNat 115,
 UInt8.ofNat 101]))
 (some
 (Fin.ret
 (AV.tup
 [AV.agg [AV.int IntKind.i64 (2 : Int), AV.int IntKind.i64 (0 : Int), AV.str (ByteArray.mk #[])],
 AV.bool true]),
 St.mk [Ob.cells [AV.int IntKind.i64 (2 : Int), AV.int IntKind.i64 (0 : Int), AV.str (ByteArray.mk #[])]]
 []))
 (branch
 (AV.bool
 (s.toList ==
 [UInt8.ofNat 116, UInt8.ofNat 114, UInt8.ofNat 117, UInt8.ofNat 101]))
 (some
 (Fin.ret
 (AV.tup
 [AV.agg [AV.int IntKind.i64 (2 : Int), AV.int IntKind.i64 (1 : Int), AV.str (ByteArray.mk #[])],
 AV.bool true]),
 St.mk [Ob.cells [AV.int IntKind.i64 (2 : Int), AV.int IntKind.i64 (1 : Int), AV.str (ByteArray.mk #[])]]
 []))
 (branch (AV.bool (cdec (s.size ≤ 100000)))
 (branch (AV.bool (cdec ((piF (strL s)).snd = 0)))
 (some
 (Fin.ret
 (AV.tup
 [AV.agg
 [AV.int IntKind.i64 (1 : Int), AV.int IntKind.i64 (opq (piF (strL s)).fst),
 AV.str (ByteArray.mk #[])],
 AV.bool true]),
 St.mk
 [Ob.cells
 [AV.int IntKind.i64 (1 : Int), AV.int IntKind.i64 (opq (piF (strL s)).fst),
 AV.str (ByteArray.mk #[])]]
 []))
 (some
 (Fin.ret
 (AV.tup
 [AV.agg [AV.int IntKind.i64 (0 : Int), AV.int IntKind.i64 (0 : Int), AV.str (ByteArray.mk #[])],
 AV.bool false]),
 St.mk
 [Ob.cells [AV.int IntKind.i64 (0 : Int), AV.int IntKind.i64 (0 : Int), AV.str (ByteArray.mk #[])]]
 [])))
 none))))
 (branch (AV.bool (inSl s (1 : Int) (↑s.size : Int)))
 (branch (AV.bool (decide ((↑(subT s (1 : Int) (↑s.size : Int)).size : Int) ≥ (1 : Int))))
 (branch
 (AV.bool
 (inSl (subT s (1 : Int) (↑s.size : Int))
 (IntKind.i64.wrap ((↑(subT s (1 : Int) (↑s.size : Int)).size : Int) - (1 : Int)))
 (↑(subT s (1 : Int) (↑s.size : Int)).size : Int)))
 (branch
 (AV.bool
 !(subT (subT s (1 : Int) (↑s.size : Int))
 (IntKind.i64.wrap ((↑(subT s (1 : Int) (↑s.size : Int)).size : Int) - (1 : Int)))
 (↑(subT s (1 : Int) (↑s.size : Int)).size : Int)).toList ==
 [UInt8.ofNat 34])
 (some
 (Fin.ret
 (AV.tup
 [AV.agg [AV.int IntKind.i64 (0 : Int), AV.int IntKind.i64 (0 : Int), AV.str (ByteArray.mk #[])],
 AV.bool false]),
 St.mk
 [Ob.cells [AV.int IntKind.i64 (0 : Int), AV.int IntKind.i64 (0 : Int), AV.str (ByteArray.mk #[])]]
 []))
 (branch
 (AV.bool
 (inSl (subT s (1 : Int) (↑s.size : Int)) (0 : Int)
 (IntKind.i64.wrap ((↑(subT s (1 : Int) (↑s.size : Int)).size : Int) - (1 : Int)))))
 (branch
 (AV.bool
 (cdec
 ((strL
 (subT (subT s (1 : Int) (↑s.size : Int)) (0 : Int)
 (IntKind.i64.wrap
 ((↑(subT s (1 : Int) (↑s.size : Int)).size : Int) - (1 : Int))))).length ≤
 100000000)))
 (some
 (Fin.ret
 (AV.tup
 [AV.agg
 [AV.int IntKind.i64 (3 : Int), AV.int IntKind.i64 (0 : Int),
 AV.str
 (unqS
 (subT (subT s (1 : Int) (↑s.size : Int)) (0 : Int)
 (IntKind.i64.wrap
 ((↑(subT s (1 : Int) (↑s.size : Int)).size : Int) - (1 : Int)))))],
 AV.bool
 (unqL
 (strL
 (subT (subT s (1 : Int) (↑s.size : Int)) (0 : Int)
 (IntKind.i64.wrap
 ((↑(subT s (1 : Int) (↑s.size : Int)).size : Int) - (1 : Int)))))).isSome]),
 St.mk
 [Ob.cells
 [AV.int IntKind.i64 (3 : Int), AV.int IntKind.i64 (0 : Int),
 AV.str
 (unqS
 (subT (subT s (1 : Int) (↑s.size : Int)) (0 : Int)
 (IntKind.i64.wrap
 ((↑(subT s (1 : Int) (↑s.size : Int)).size : Int) - (1 : Int)))))]]
 []))
 none)
 none))
 none)
 (some
 (Fin.ret
 (AV.tup
 [AV.agg [AV.int IntKind.i64 (0 : Int), AV.int IntKind.i64 (0 : Int), AV.str (ByteArray.mk #[])],
 AV.bool false]),
 St.mk [Ob.cells [AV.int IntKind.i64 (0 : Int), AV.int IntKind.i64 (0 : Int), AV.str (ByteArray.mk #[])]]
 [])))
 none))
 none)
 (branch
 (AV.bool
 (s.toList ==
 [UInt8.ofNat 110, UInt8.ofNat 117, UInt8.ofNat 108, UInt8.ofNat 108]))
 (some
 (Fin.ret
 (AV.tup
 [AV.agg [AV.int IntKind.i64 (0 : Int), AV.int IntKind.i64 (0 : Int), AV.str (ByteArray.mk #[])],
 AV.bool true]),
 St.mk [Ob.cells [AV.int IntKind.i64 (0 : Int), AV.int IntKind.i64 (0 : Int), AV.str (ByteArray.mk #[])]] []))
 (branch
 (AV.bool
 (s.toList ==
 [UInt8.ofNat 102, UInt8.ofNat 97, UInt8.ofNat 108, UInt8.ofNat 115,
 UInt8.ofNat 101]))
 (some
 (Fin.ret
 (AV.tup
 [AV.agg [AV.int IntKind.i64 (2 : Int), AV.int IntKind.i64 (0 : Int), AV.str (ByteArray.mk #[])],
 AV.bool true]),
 St.mk [Ob.cells [AV.int IntKind.i64 (2 : Int), AV.int IntKind.i64 (0 : Int), AV.str (ByteArray.mk #[])]] []))
 (branch
 (AV.bool
 (s.toList ==
 [UInt8.ofNat 116, UInt8.ofNat 114, UInt8.ofNat 117, UInt8.ofNat 101]))
 (some
 (Fin.ret
 (AV.tup
 [AV.agg [AV.int IntKind.i64 (2 : Int), AV.int IntKind.i64 (1 : Int), AV.str (ByteArray.mk #[])],
 AV.bool true]),
 St.mk [Ob.cells [AV.int IntKind.i64 (2 : Int), AV.int IntKind.i64 (1 : Int), AV.str (ByteArray.mk #[])]]
 []))
 (branch (AV.bool (cdec (s.size ≤ 100000)))
 (branch (AV.bool (cdec ((piF (strL s)).snd = 0)))
 (some
 (Fin.ret
 (AV.tup
 [AV.agg
 [AV.int IntKind.i64 (1 : Int), AV.int IntKind.i64 (opq (piF (strL s)).fst),
 AV.str (ByteArray.mk #[])],
 AV.bool true]),
 St.mk
 [Ob.cells
 [AV.int IntKind.i64 (1 : Int), AV.int IntKind.i64 (opq (piF (strL s)).fst),
 AV.str (ByteArray.mk #[])]]
 []))
 (some
 (Fin.ret
 (AV.tup
 [AV.agg [AV.int IntKind.i64 (0 : Int), AV.int IntKind.i64 (0 : Int), AV.str (ByteArray.mk #[])],
 AV.bool false]),
 St.mk [Ob.cells [AV.int IntKind.i64 (0 : Int), AV.int IntKind.i64 (0 : Int), AV.str (ByteArray.mk #[])]]
 [])))
 none)))) := by kernel_rfl

end Go.Proofs.YtcfedmheblbdnaaDoor.V

/- Values: parse, as a callee. -/
set_option linter.unusedVariables false
namespace Go.Proofs.YtcfedmheblbdnaaDoor.V
open Go Go.V Go.RowKit

def lNull : List Nat := [110, 117, 108, 108]
def lFalse : List Nat := [102, 97, 108, 115, 101]
def lTrue : List Nat := [116, 114, 117, 101]
def vaZ : Va := ⟨0, 0, ByteArray.mk #[]⟩
def unqB (l : List Nat) : ByteArray := match unqL l with
  | some r => strB r
  | none => ByteArray.mk #[]
def restP (l : List Nat) : Va × Bool := if l = lNull then (vaZ, true) else if l = lFalse then (⟨2, 0, ByteArray.mk #[]⟩, true) else if l = lTrue then (⟨2, 1, ByteArray.mk #[]⟩, true) else if (piF l).2 = 0 then (⟨1, (piF l).1, ByteArray.mk #[]⟩, true) else (vaZ, false)
def parL : List Nat → Va × Bool
  | [] => restP []
  | c :: r => if c = 34 then if r.drop (r.length - 1) = [34] then (⟨3, 0, unqB (r.take (r.length - 1))⟩, (unqL (r.take (r.length - 1))).isSome) else (vaZ, false) else restP (c :: r)
def vaA (x : Va × Bool) : AV := .tup [x.1.av, .bool x.2]
theorem toL_eq (s : ByteArray) {l : List Nat} (hl : ∀ b ∈ l, b < 256) : (s.toList == l.map fun n => UInt8.ofNat n) = decide (strL s = l) := by
  rw [ByteArray.toList_eq, Bool.eq_iff_iff, beq_iff_eq, decide_eq_true_eq]
  constructor
  · intro h
    rw [strL, h, List.map_map]
    conv => rhs; rw [← List.map_id l]
    refine List.map_congr_left fun b hb => ?_
    have := hl b hb
    simp only [Function.comp, id]
    rw [UInt8.toNat_ofNat']; exact Nat.mod_eq_of_lt this
  · intro h
    rw [← h, strL, List.map_map]
    conv => lhs; rw [← List.map_id s.data.toList]
    refine List.map_congr_left fun b hb => ?_
    simp
theorem rest_eq (s : ByteArray) (hs : s.size ≤ 100000) : ∃ st', (
    branch (AV.bool (s.toList == [UInt8.ofNat 110, UInt8.ofNat 117, UInt8.ofNat 108, UInt8.ofNat 108]))
      (some (Fin.ret (AV.tup [AV.agg [AV.int IntKind.i64 (0 : Int), AV.int IntKind.i64 (0 : Int), AV.str (ByteArray.mk #[])], AV.bool true]), St.mk [Ob.cells [AV.int IntKind.i64 (0 : Int), AV.int IntKind.i64 (0 : Int), AV.str (ByteArray.mk #[])]] []))
      (branch (AV.bool (s.toList == [UInt8.ofNat 102, UInt8.ofNat 97, UInt8.ofNat 108, UInt8.ofNat 115, UInt8.ofNat 101]))
        (some (Fin.ret (AV.tup [AV.agg [AV.int IntKind.i64 (2 : Int), AV.int IntKind.i64 (0 : Int), AV.str (ByteArray.mk #[])], AV.bool true]), St.mk [Ob.cells [AV.int IntKind.i64 (2 : Int), AV.int IntKind.i64 (0 : Int), AV.str (ByteArray.mk #[])]] []))
        (branch (AV.bool (s.toList == [UInt8.ofNat 116, UInt8.ofNat 114, UInt8.ofNat 117, UInt8.ofNat 101]))
          (some (Fin.ret (AV.tup [AV.agg [AV.int IntKind.i64 (2 : Int), AV.int IntKind.i64 (1 : Int), AV.str (ByteArray.mk #[])], AV.bool true]), St.mk [Ob.cells [AV.int IntKind.i64 (2 : Int), AV.int IntKind.i64 (1 : Int), AV.str (ByteArray.mk #[])]] []))
          (branch (AV.bool (cdec (s.size ≤ 100000)))
            (branch (AV.bool (cdec ((piF (strL s)).snd = 0)))
              (some (Fin.ret (AV.tup [AV.agg [AV.int IntKind.i64 (1 : Int), AV.int IntKind.i64 (opq (piF (strL s)).fst), AV.str (ByteArray.mk #[])], AV.bool true]), St.mk [Ob.cells [AV.int IntKind.i64 (1 : Int), AV.int IntKind.i64 (opq (piF (strL s)).fst), AV.str (ByteArray.mk #[])]] []))
              (some (Fin.ret (AV.tup [AV.agg [AV.int IntKind.i64 (0 : Int), AV.int IntKind.i64 (0 : Int), AV.str (ByteArray.mk #[])], AV.bool false]), St.mk [Ob.cells [AV.int IntKind.i64 (0 : Int), AV.int IntKind.i64 (0 : Int), AV.str (ByteArray.mk #[])]] [])))
            none))) : Ans) = some (.ret (vaA (restP (strL s))), st') := by
  rw [show (s.toList == [UInt8.ofNat 110, UInt8.ofNat 117, UInt8.ofNat 108, UInt8.ofNat 108]) = decide (strL s = lNull) from toL_eq s (l := lNull) (by decide),
    show (s.toList == [UInt8.ofNat 102, UInt8.ofNat 97, UInt8.ofNat 108, UInt8.ofNat 115, UInt8.ofNat 101]) = decide (strL s = lFalse) from toL_eq s (l := lFalse) (by decide),
    show (s.toList == [UInt8.ofNat 116, UInt8.ofNat 114, UInt8.ofNat 117, UInt8.ofNat 101]) = decide (strL s = lTrue) from toL_eq s (l := lTrue) (by decide), opq_eq]
  unfold restP
  by_cases h1 : strL s = lNull
  · rw [branch_of (decide_eq_true h1), if_pos h1]; exact ⟨_, rfl⟩
  · rw [branch_not (decide_eq_false h1), if_neg h1]
    by_cases h2 : strL s = lFalse
    · rw [branch_of (decide_eq_true h2), if_pos h2]; exact ⟨_, rfl⟩
    · rw [branch_not (decide_eq_false h2), if_neg h2]
      by_cases h3 : strL s = lTrue
      · rw [branch_of (decide_eq_true h3), if_pos h3]; exact ⟨_, rfl⟩
      · rw [branch_not (decide_eq_false h3), if_neg h3, branch_of (cdec_iff.mpr hs)]
        by_cases h4 : (piF (strL s)).2 = 0
        · rw [branch_of (cdec_iff.mpr h4), if_pos h4]; exact ⟨_, rfl⟩
        · rw [branch_not (by rw [Bool.eq_false_iff, ne_eq, cdec_iff]; exact h4), if_neg h4]; exact ⟨_, rfl⟩
theorem par_eq (s : ByteArray) (hs : s.size ≤ 100000) : ∃ st', g29.run 0 [.str s] ⟨[], []⟩ = some (.ret (vaA (parL (strL s))), st') := by
  have hsz := strL_size s
  rw [pr_run]
  cases hl : strL s with
  | nil =>
    rw [hl] at hsz
    rw [branch_not (decide_eq_false (by simp at hsz; rw [hsz]; decide))]
    have := rest_eq s hs
    rw [hl] at this
    exact this
  | cons c r =>
    obtain ⟨h1, h2, h3, h4⟩ := tail_text hl
    rw [hl, List.length_cons] at hsz
    have e01 : strL (subT s (0 : Int) (1 : Int)) = [c] := by
      rw [subT_list, hl]; rfl
    rw [branch_of (decide_eq_true (by omega)), branch_of (inSl_iff.mpr ⟨by omega, by omega, by rw [hl, List.length_cons]; omega⟩),
      show ((subT s (0 : Int) (1 : Int)).toList == [UInt8.ofNat 34]) = decide (strL (subT s (0 : Int) (1 : Int)) = [34]) from toL_eq _ (l := [34]) (by decide), e01, parL]
    by_cases hc : c = 34
    · rw [branch_not (by rw [decide_eq_true (by rw [hc])]; rfl), branch_of h3, if_pos hc]
      generalize ht : subT s (1 : Int) (s.size : Int) = t at *
      have htz := strL_size t
      rw [h4] at htz
      cases r with
      | nil =>
        rw [branch_not (decide_eq_false (by rw [htz]; decide))]
        exact ⟨_, rfl⟩
      | cons d r' =>
        generalize hr : d :: r' = r at *
        have hr1 : 1 ≤ r.length := by rw [← hr]; simp
        have e1 : IntKind.i64.wrap ((t.size : Int) - 1) = ((r.length - 1 : Nat) : Int) := by rw [wrapS (by omega) (by omega)]; omega
        have e2 : strL (subT t ((r.length - 1 : Nat) : Int) (t.size : Int)) = r.drop (r.length - 1) := by rw [sub_end, h4]
        have e3 : strL (subT t (0 : Int) ((r.length - 1 : Nat) : Int)) = r.take (r.length - 1) := by rw [subT_list, h4]; simp
        rw [branch_of (decide_eq_true (by omega)), e1, branch_of (in_end (by rw [h4]; omega)),
          show ((subT t ((r.length - 1 : Nat) : Int) (t.size : Int)).toList == [UInt8.ofNat 34]) = decide (strL (subT t ((r.length - 1 : Nat) : Int) (t.size : Int)) = [34]) from toL_eq _ (l := [34]) (by decide), e2]
        by_cases hq : r.drop (r.length - 1) = [34]
        · rw [branch_not (by rw [decide_eq_true hq]; rfl), if_pos hq, branch_of (inSl_iff.mpr ⟨by omega, by omega, by rw [h4]; omega⟩), branch_of (cdec_iff.mpr (by rw [e3, List.length_take]; omega)), e3,
            show unqS (subT t (0 : Int) ((r.length - 1 : Nat) : Int)) = unqB (r.take (r.length - 1)) by unfold unqS unqB; rw [e3]; rfl]
          exact ⟨_, rfl⟩
        · rw [branch_of (by rw [decide_eq_false hq]; rfl), if_neg hq]
          exact ⟨_, rfl⟩
    · rw [branch_of (by rw [decide_eq_false (by intro e; exact hc (List.cons.inj e).1)]; rfl), if_neg hc]
      have := rest_eq s hs
      rw [hl] at this
      exact this
theorem va_scoped (x : Va × Bool) : Scoped 0 0 (vaA x) := ⟨⟨trivial, trivial, trivial, trivial⟩, trivial, trivial⟩
theorem va_frz (x : Va × Bool) : frz (vaA x) = vaA x := rfl
noncomputable def p29 : POrc Tryd.prog := g29.seenAs dec1s (fun s => [.str s]) dec1s_enc (fun s => cdec (s.size ≤ 100000)) (fun s => vaA (parL (strL s))) fun s h => by
  obtain ⟨st', h⟩ := par_eq s (cdec_iff.mp h)
  exact ⟨⟨trivial, trivial⟩, _, 0, _, st', va_frz _, va_scoped _, h, fun g w v hv => hv⟩
end Go.Proofs.YtcfedmheblbdnaaDoor.V

/- The functions' pieces, as told by gen.py. -/
set_option linter.unusedVariables false
set_option maxRecDepth 20000
namespace Go.Proofs.YtcfedmheblbdnaaDoor.V
open Go Go.V Go.RowKit


/-! ### 10: interlock/value.Read (9); results 2, 3; slots: 0 s, 1 s, 4 v, 5 ok -/
noncomputable def g10_b : Sim Tryd.prog :=
 (.seq (.live [0, 2] (.region 0 [
 ⟨(opAlloc (some 2) 24 (.agg #[(.int .i64 0), (.int .i64 0), (.string ⟨#[]⟩)]) ze24 0 "value.go:199" #[]).op, none⟩,
 ⟨(opAssign (some 3) (.const (Value.bool false)) 4 "value.go:199" #[]).op, none⟩
 ] (by kernel_rfl)))
 (.seq (.live [0, 2, 4, 5] (.region 1 [
 ⟨(opMove (some 7) (.tmp 0) 9 "value.go:200" #[]).op, none⟩,
 ⟨(opCallP p29 (some 8) [(.tmp 7)] #[9] 25 "value.go:200" #[eD 0]).op, none⟩,
 ⟨(opMove (some 6) (.tmp 8) 25 "value.go:200" #[eD 1]).op, none⟩,
 ⟨(opExtract (some 9) (.tmp 6) 0 24 "value.go:200" #[eD 2]).op, none⟩,
 ⟨(opExtract (some 10) (.tmp 6) 1 4 "value.go:200" #[eD 2, { on := 6, ground := (Ground.gcOnly Departure.lateStores) }]).op, none⟩,
 ⟨(opAlloc (some 4) 24 (.agg #[(.int .i64 0), (.int .i64 0), (.string ⟨#[]⟩)]) ze24 0 "value.go:200" #[]).op, none⟩,
 ⟨(opStore none 24 (.tmp 4) (.tmp 9) 3 sz24 0 "value.go:200" #[eD 5, eD 3, eC 1, eP 0, eP 1, eP 2, eP 3, { on := 4, ground := (Ground.textOnly Departure.lateStores) }, eP 5]).op, none⟩,
 ⟨(opAssign (some 5) (.tmp 10) 4 "value.go:200" #[eD 4, eC 6, eP 0, eP 1, eP 2, eP 3, eP 4, eP 5, eP 6]).op, none⟩
 ] (by kernel_rfl)))
 (.seq (.seq (.live [2, 4, 23] (.region 2 [
 ⟨(opMove (some 11) (.tmp 5) 4 "value.go:201" #[]).op, none⟩,
 ⟨(opNot (some 12) 4 (.tmp 11) 4 "value.go:201" #[eD 0]).op, none⟩,
 ⟨(opMove (some 13) (.tmp 12) 4 "value.go:201" #[eD 1]).op, none⟩,
 ⟨(opLoadT (.agg [(.int .i64), (.int .i64), .str]) (some 14) 24 (.tmp 4) d24 ud24 3 sz24 (by kernel_rfl) 24 "value.go:201" #[eG 2]).op, (some (2, 13, false))⟩,
 ⟨(opCallP p13 (some 15) [(.tmp 14)] #[24] 4 "value.go:201" #[eD 3, eC 2, eG 2]).op, (some (2, 13, false))⟩,
 ⟨(opNot (some 16) 4 (.tmp 15) 4 "value.go:201" #[eD 4, eG 2]).op, (some (2, 13, false))⟩,
 ⟨(opPick (some 17) (.tmp 13) (.const (Value.bool true)) (.tmp 16) 4 "value.go:201" #[eD 2, eD 5]).op, none⟩,
 ⟨(opMove (some 18) (.tmp 17) 4 "value.go:201" #[eD 6, eC 4]).op, none⟩,
 ⟨(opLoadT (.agg [(.int .i64), (.int .i64), .str]) (some 19) 24 (.tmp 4) d24 ud24 3 sz24 (by kernel_rfl) 24 "value.go:201" #[eG 7]).op, (some (7, 18, false))⟩,
 ⟨(opCallP p12 (some 20) [(.tmp 19)] #[24] 9 "value.go:201" #[eD 8, eC 7, eG 7]).op, (some (7, 18, false))⟩,
 ⟨(opMove (some 21) (.tmp 0) 9 "value.go:201" #[eG 7]).op, (some (7, 18, false))⟩,
 ⟨(opBinS (some 22) .neq 9 (.tmp 20) (.tmp 21) 9 4 "value.go:201" #[eD 9, eD 10, eG 7]).op, (some (7, 18, false))⟩,
 ⟨(opPick (some 23) (.tmp 18) (.const (Value.bool true)) (.tmp 22) 4 "value.go:201" #[eD 7, eD 11]).op, none⟩
 ] (by kernel_rfl)))
 (.cond (.tmp 23)
 (.seq (.live [2, 3] (.region 3 [
 ⟨(opBuild (some 24) 24 #[(.int .i64 0), (.int .i64 0), (.string ⟨#[]⟩)] [] ze24 (by kernel_rfl) 24 "value.go:202" #[]).op, none⟩,
 ⟨(opStore none 24 (.tmp 2) (.tmp 24) 3 sz24 0 "value.go:202" #[eD 0, eP 0]).op, none⟩,
 ⟨(opAssign (some 3) (.const (Value.bool false)) 4 "value.go:202" #[eC 1, eP 0, eP 1]).op, none⟩
 ] (by kernel_rfl)))
 (.live [2, 3] .ret))
 .skip))
 (.seq (.live [2, 3] (.region 4 [
 ⟨(opLoadT (.agg [(.int .i64), (.int .i64), .str]) (some 25) 24 (.tmp 4) d24 ud24 3 sz24 (by kernel_rfl) 24 "value.go:204" #[]).op, none⟩,
 ⟨(opStore none 24 (.tmp 2) (.tmp 25) 3 sz24 0 "value.go:204" #[eD 0, eP 0]).op, none⟩,
 ⟨(opAssign (some 3) (.const (Value.bool true)) 4 "value.go:204" #[eC 1, eP 0, eP 1]).op, none⟩
 ] (by kernel_rfl)))
 (.live [2, 3] .ret)))))

noncomputable def g10 : Fun Tryd.prog where
 id := 10
 fn := Tryd.f10
 hf := Tryd.func10
 hname := by kernel_rfl
 body := g10_b
 hbody := by kernel_rfl
 res := [rCell 2 24 d24 ud24 3 sz24, rTmp 3]
 hres := by kernel_rfl
 n := 26
 hn := by kernel_rfl

end Go.Proofs.YtcfedmheblbdnaaDoor.V

/- What the functions' runs come to; the right sides were printed by a tool, Lean checks them. -/
set_option linter.unusedVariables false
set_option maxRecDepth 100000
namespace Go.Proofs.YtcfedmheblbdnaaDoor.V
open Go Go.V Go.RowKit

theorem rd_run (F : Nat) (s : ByteArray) :
 (g10.run F [.str s] ⟨[], []⟩ : Ans) =
 branch (AV.bool (cdec (s.size ≤ 100000)))
 (branch (AV.bool !(parL (strL s)).snd)
 (some
 (Fin.ret
 (AV.tup
 [AV.agg [AV.int IntKind.i64 (0 : Int), AV.int IntKind.i64 (0 : Int), AV.str (ByteArray.mk #[])],
 AV.bool false]),
 St.mk
 [Ob.cells [AV.int IntKind.i64 (0 : Int), AV.int IntKind.i64 (0 : Int), AV.str (ByteArray.mk #[])],
 Ob.cells
 [AV.int IntKind.i64 (parL (strL s)).fst.k, AV.int IntKind.i64 (parL (strL s)).fst.n,
 AV.str (parL (strL s)).fst.s]]
 []))
 (branch
 (AV.bool
 !rightV
 (Va.mk
 (hdI
 (List.drop 0
 (setAt
 (List.map ofLitS
 #[Value.int IntKind.i64 (0 : Int), Value.int IntKind.i64 (0 : Int),
 Value.string (ByteArray.mk #[])].toList)
 0 (parL (strL s)).fst.cells)))
 (hdI
 (List.drop 0
 (setAt
 (List.map ofLitS
 #[Value.int IntKind.i64 (0 : Int), Value.int IntKind.i64 (0 : Int),
 Value.string (ByteArray.mk #[])].toList)
 0 (parL (strL s)).fst.cells)).tail)
 (hdS
 (List.drop 0
 (setAt
 (List.map ofLitS
 #[Value.int IntKind.i64 (0 : Int), Value.int IntKind.i64 (0 : Int),
 Value.string (ByteArray.mk #[])].toList)
 0 (parL (strL s)).fst.cells)).tail.tail)))
 (some
 (Fin.ret
 (AV.tup
 [AV.agg [AV.int IntKind.i64 (0 : Int), AV.int IntKind.i64 (0 : Int), AV.str (ByteArray.mk #[])],
 AV.bool false]),
 St.mk
 [Ob.cells [AV.int IntKind.i64 (0 : Int), AV.int IntKind.i64 (0 : Int), AV.str (ByteArray.mk #[])],
 Ob.cells
 [AV.int IntKind.i64 (parL (strL s)).fst.k, AV.int IntKind.i64 (parL (strL s)).fst.n,
 AV.str (parL (strL s)).fst.s]]
 []))
 (branch
 (AV.bool
 (okSh
 (Va.mk
 (hdI
 (List.drop 0
 (setAt
 (List.map ofLitS
 #[Value.int IntKind.i64 (0 : Int), Value.int IntKind.i64 (0 : Int),
 Value.string (ByteArray.mk #[])].toList)
 0 (parL (strL s)).fst.cells)))
 (hdI
 (List.drop 0
 (setAt
 (List.map ofLitS
 #[Value.int IntKind.i64 (0 : Int), Value.int IntKind.i64 (0 : Int),
 Value.string (ByteArray.mk #[])].toList)
 0 (parL (strL s)).fst.cells)).tail)
 (hdS
 (List.drop 0
 (setAt
 (List.map ofLitS
 #[Value.int IntKind.i64 (0 : Int), Value.int IntKind.i64 (0 : Int),
 Value.string (ByteArray.mk #[])].toList)
 0 (parL (strL s)).fst.cells)).tail.tail))))
 (branch
 (AV.bool
 !(showV
 (Va.mk
 (hdI
 (List.drop 0
 (setAt
 (List.map ofLitS
 #[Value.int IntKind.i64 (0 : Int), Value.int IntKind.i64 (0 : Int),
 Value.string (ByteArray.mk #[])].toList)
 0 (parL (strL s)).fst.cells)))
 (hdI
 (List.drop 0
 (setAt
 (List.map ofLitS
 #[Value.int IntKind.i64 (0 : Int), Value.int IntKind.i64 (0 : Int),
 Value.string (ByteArray.mk #[])].toList)
 0 (parL (strL s)).fst.cells)).tail)
 (hdS
 (List.drop 0
 (setAt
 (List.map ofLitS
 #[Value.int IntKind.i64 (0 : Int), Value.int IntKind.i64 (0 : Int),
 Value.string (ByteArray.mk #[])].toList)
 0 (parL (strL s)).fst.cells)).tail.tail))).toList ==
 s.toList)
 (some
 (Fin.ret
 (AV.tup
 [AV.agg [AV.int IntKind.i64 (0 : Int), AV.int IntKind.i64 (0 : Int), AV.str (ByteArray.mk #[])],
 AV.bool false]),
 St.mk
 [Ob.cells [AV.int IntKind.i64 (0 : Int), AV.int IntKind.i64 (0 : Int), AV.str (ByteArray.mk #[])],
 Ob.cells
 [AV.int IntKind.i64 (parL (strL s)).fst.k, AV.int IntKind.i64 (parL (strL s)).fst.n,
 AV.str (parL (strL s)).fst.s]]
 []))
 (some
 (Fin.ret
 (AV.tup
 [AV.agg
 [AV.int IntKind.i64 (parL (strL s)).fst.k, AV.int IntKind.i64 (parL (strL s)).fst.n,
 AV.str (parL (strL s)).fst.s],
 AV.bool true]),
 St.mk
 [Ob.cells
 [AV.int IntKind.i64 (parL (strL s)).fst.k, AV.int IntKind.i64 (parL (strL s)).fst.n,
 AV.str (parL (strL s)).fst.s],
 Ob.cells
 [AV.int IntKind.i64 (parL (strL s)).fst.k, AV.int IntKind.i64 (parL (strL s)).fst.n,
 AV.str (parL (strL s)).fst.s]]
 [])))
 none)))
 none := by kernel_rfl

end Go.Proofs.YtcfedmheblbdnaaDoor.V

/- Values: Read, as a callee. -/
set_option linter.unusedVariables false
namespace Go.Proofs.YtcfedmheblbdnaaDoor.V
open Go Go.V Go.RowKit

noncomputable def readL (s : ByteArray) : Va × Bool := if (parL (strL s)).2 = true ∧ rightV (parL (strL s)).1 = true ∧ showV (parL (strL s)).1 = s then ((parL (strL s)).1, true) else (vaZ, false)
theorem piF_rng (L : List Nat) : -9223372036854775808 ≤ (piF L).1 ∧ (piF L).1 ≤ 9223372036854775807 := by
  have hp : ∀ x, -9223372036854775808 ≤ (posF x).1 ∧ (posF x).1 ≤ 9223372036854775807 := fun x => by
    unfold posF
    split
    · exact ⟨by decide, by decide⟩
    · split
      · exact ⟨by decide, by decide⟩
      · refine ⟨?_, ?_⟩ <;> simp only <;> omega
  have hn : ∀ x, -9223372036854775808 ≤ (negF x).1 ∧ (negF x).1 ≤ 9223372036854775807 := fun x => by
    unfold negF
    split
    · exact ⟨by decide, by decide⟩
    · split
      · exact ⟨by decide, by decide⟩
      · refine ⟨?_, ?_⟩ <;> simp only <;> omega
  cases L with
  | nil => exact ⟨by decide, by decide⟩
  | cons c r =>
    rw [piF]
    split
    · exact hp _
    · split
      · exact hn _
      · exact hp _
theorem restP_rng (L : List Nat) : -9223372036854775808 ≤ (restP L).1.n ∧ (restP L).1.n ≤ 9223372036854775807 := by
  unfold restP
  split
  · exact ⟨by decide, by decide⟩
  · split
    · exact ⟨by decide, by decide⟩
    · split
      · exact ⟨by decide, by decide⟩
      · split
        · exact piF_rng L
        · exact ⟨by decide, by decide⟩
theorem parL_rng (L : List Nat) : -9223372036854775808 ≤ (parL L).1.n ∧ (parL L).1.n ≤ 9223372036854775807 := by
  cases L with
  | nil => exact restP_rng []
  | cons c r =>
    rw [parL]
    split
    · split
      · exact ⟨show (-9223372036854775808 : Int) ≤ 0 by decide, show (0 : Int) ≤ 9223372036854775807 by decide⟩
      · exact ⟨show (-9223372036854775808 : Int) ≤ 0 by decide, show (0 : Int) ≤ 9223372036854775807 by decide⟩
    · exact restP_rng _
theorem size_nil {s : ByteArray} (h : (s.toList == []) = true) : s.size = 0 := by
  rw [empty_iff, decide_eq_true_eq] at h
  rw [strL_size, h]; rfl
theorem right_size {v : Va} (h : rightV v = true) : v.s.size ≤ 16 := by
  unfold rightV at h
  cases h0 : v.k == 0 with
  | true =>
    rw [h0, cond_true, Bool.and_eq_true] at h
    rw [size_nil h.2]; omega
  | false =>
    rw [h0, cond_false] at h
    cases h1 : v.k == 1 with
    | true => rw [h1, cond_true] at h; rw [size_nil h]; omega
    | false =>
      rw [h1, cond_false] at h
      cases h2 : v.k == 2 with
      | true => rw [h2, cond_true, Bool.and_eq_true] at h; rw [size_nil h.1]; omega
      | false =>
        rw [h2, cond_false] at h
        cases h3 : v.k == 3 with
        | true =>
          rw [h3, cond_true, Bool.and_eq_true, decide_eq_true_eq] at h; omega
        | false => rw [h3] at h; simp at h
theorem okSh_right {v : Va} (h : rightV v = true) (h1 : -9223372036854775808 ≤ v.n) (h2 : v.n ≤ 9223372036854775807) : okSh v = true :=
  cdec_iff.mpr ⟨h1, h2, Nat.le_trans (right_size h) (by omega)⟩
theorem gets_of {b : Bool} {y n : Ans} {r : AV} (h : b = true) (k : ∃ st', y = some (.ret r, st')) : ∃ st', branch (.bool b) y n = some (.ret r, st') := by subst h; exact k
theorem gets_not {b : Bool} {y n : Ans} {r : AV} (h : b = false) (k : ∃ st', n = some (.ret r, st')) : ∃ st', branch (.bool b) y n = some (.ret r, st') := by subst h; exact k
theorem str_ne {a b : ByteArray} (h : a ≠ b) : (a.toList == b.toList) = false := by
  rw [beq_eq_false_iff_ne]
  intro e
  refine h (strL_inj ?_)
  rw [strL, strL, ← ByteArray.toList_eq, ← ByteArray.toList_eq, e]
theorem read_eq (s : ByteArray) (hs : s.size ≤ 100000) : ∃ st', g10.run 0 [.str s] ⟨[], []⟩ = some (.ret (vaA (readL s)), st') := by
  have hr := parL_rng (strL s)
  rw [rd_run, branch_of (cdec_iff.mpr hs), readL]
  generalize parL (strL s) = x at *
  obtain ⟨v, ok⟩ := x
  simp only at hr ⊢
  cases ok with
  | false => rw [if_neg (by simp)]; exact ⟨_, rfl⟩
  | true =>
    cases h2 : rightV v with
    | false =>
      rw [if_neg (by simp)]
      exact gets_not rfl (gets_of (show (!rightV v) = true by rw [h2]; rfl) ⟨_, rfl⟩)
    | true =>
      by_cases h3 : showV v = s
      · rw [if_pos ⟨rfl, rfl, h3⟩]
        exact gets_not rfl (gets_not (show (!rightV v) = false by rw [h2]; rfl) (gets_of (show okSh v = true from okSh_right h2 hr.1 hr.2) (gets_not (show (!((showV v).toList == s.toList)) = false by rw [h3]; simp) ⟨_, rfl⟩)))
      · rw [if_neg (by intro h; exact h3 h.2.2)]
        exact gets_not rfl (gets_not (show (!rightV v) = false by rw [h2]; rfl) (gets_of (show okSh v = true from okSh_right h2 hr.1 hr.2) (gets_of (show (!((showV v).toList == s.toList)) = true by rw [str_ne h3]; rfl) ⟨_, rfl⟩)))
noncomputable def p10 : POrc Tryd.prog := g10.seenAs dec1s (fun s => [.str s]) dec1s_enc (fun s => cdec (s.size ≤ 100000)) (fun s => vaA (readL s)) fun s h => by
  obtain ⟨st', h⟩ := read_eq s (cdec_iff.mp h)
  exact ⟨⟨trivial, trivial⟩, _, 0, _, st', va_frz _, va_scoped _, h, fun g w v hv => hv⟩
end Go.Proofs.YtcfedmheblbdnaaDoor.V

/- The functions' pieces, as told by gen.py. -/
set_option linter.unusedVariables false
set_option maxRecDepth 20000
namespace Go.Proofs.YtcfedmheblbdnaaDoor.V
open Go Go.V Go.RowKit


/-! ### 11: interlock/interlockref04.Read (9); results 2, 3; slots:  -/
/-- A loop's round; at its head live: 0 , 2 , 4 , 5 , 6  -/
noncomputable def f11_l0 : Sim Tryd.prog :=
 (.seq (.seq (.live [0, 2, 4, 5, 6, 33] (.region 7 [
 ⟨(opMove (some 29) (.tmp 6) 3 "ref.go:197" #[]).op, none⟩,
 ⟨(opMove (some 30) (.tmp 0) 9 "ref.go:197" #[]).op, none⟩,
 ⟨(opLen (some 31) (.tmp 30) 9 .string Tryd.underlying9 3 "ref.go:197" #[eD 1]).op, none⟩,
 ⟨(opBin (some 32) .sub 3 (.tmp 31) (.const (Value.int IntKind.i64 1)) 3 3 "ref.go:197" #[eD 2]).op, none⟩,
 ⟨(opBin (some 33) .lss 3 (.tmp 29) (.tmp 32) 3 4 "ref.go:197" #[eD 0, eD 3]).op, none⟩
 ] (by kernel_rfl)))
 (.cond (.tmp 33)
 .skip
 (.live [0, 2, 4, 5] (.exit 0))))
 (.seq (.block 1 (.seq (.seq (.live [0, 2, 4, 5, 6, 39] (.region 9 [
 ⟨(opMove (some 36) (.tmp 0) 9 "ref.go:198" #[]).op, none⟩,
 ⟨(opMove (some 37) (.tmp 6) 3 "ref.go:198" #[]).op, none⟩,
 ⟨(opIndexStrW (some 38) 9 (.tmp 36) (.tmp 37) Tryd.underlying9 5 "ref.go:198" #[eD 0, eD 1]).op, none⟩,
 ⟨(opBin (some 39) .neq 5 (.tmp 38) (.const (Value.int IntKind.u8 92)) 5 4 "ref.go:198" #[eD 2]).op, none⟩
 ] (by kernel_rfl)))
 (.cond (.tmp 39)
 (.seq (.live [0, 2, 4, 5, 6] (.region 10 [
 ⟨(opMove (some 40) (.tmp 5) 46 "ref.go:199" #[]).op, none⟩,
 ⟨(opMove (some 41) (.tmp 0) 9 "ref.go:199" #[]).op, none⟩,
 ⟨(opMove (some 42) (.tmp 6) 3 "ref.go:199" #[]).op, none⟩,
 ⟨(opIndexStrW (some 43) 9 (.tmp 41) (.tmp 42) Tryd.underlying9 5 "ref.go:199" #[eD 1, eD 2]).op, none⟩,
 ⟨(opBuildSlice (some 44) 46 1 [(0, (.tmp 43))] 5 1 1 (.int .u8 0) el46 (by kernel_rfl) (by decide) 46 "ref.go:199" #[eD 3]).op, none⟩,
 ⟨(opAppend (some 45) (.tmp 40) (.tmp 44) 46 46 5 1 1 (.int .u8 0) el46 (.slice 5) Tryd.underlying46 rfl 46 "ref.go:199" #[eD 0, eD 4]).op, none⟩,
 ⟨(opAssign (some 5) (.tmp 45) 46 "ref.go:199" #[eD 5, eC 5, eP 0, eP 1, eP 2, eP 3, eP 4, eP 5]).op, none⟩
 ] (by kernel_rfl)))
 (.live [0, 2, 4, 5, 6] (.exit 1)))
 .skip))
 (.seq (.seq (.live [0, 2, 4, 5, 6, 51] (.region 11 [
 ⟨(opMove (some 46) (.tmp 6) 3 "ref.go:202" #[]).op, none⟩,
 ⟨(opBin (some 47) .add 3 (.tmp 46) (.const (Value.int IntKind.i64 2)) 3 3 "ref.go:202" #[eD 0]).op, none⟩,
 ⟨(opMove (some 48) (.tmp 0) 9 "ref.go:202" #[]).op, none⟩,
 ⟨(opLen (some 49) (.tmp 48) 9 .string Tryd.underlying9 3 "ref.go:202" #[eD 2]).op, none⟩,
 ⟨(opBin (some 50) .sub 3 (.tmp 49) (.const (Value.int IntKind.i64 1)) 3 3 "ref.go:202" #[eD 3]).op, none⟩,
 ⟨(opBin (some 51) .geq 3 (.tmp 47) (.tmp 50) 3 4 "ref.go:202" #[eD 1, eD 4]).op, none⟩
 ] (by kernel_rfl)))
 (.cond (.tmp 51)
 (.seq (.live [2, 3] (.region 12 [
 ⟨(opBuild (some 52) 24 #[(.int .i64 0), (.int .i64 0), (.string ⟨#[]⟩)] [] ze24 (by kernel_rfl) 24 "ref.go:203" #[]).op, none⟩,
 ⟨(opStore none 24 (.tmp 2) (.tmp 52) 3 sz24 0 "ref.go:203" #[eD 0, eP 0]).op, none⟩,
 ⟨(opAssign (some 3) (.const (Value.bool false)) 4 "ref.go:203" #[eC 1, eP 0, eP 1]).op, none⟩
 ] (by kernel_rfl)))
 (.live [2, 3] .ret))
 .skip))
 (.seq (.live [0, 2, 4, 5, 6, 7] (.draw 13 [
 ⟨.p (opMove (some 53) (.tmp 0) 9 "ref.go:205" #[]), none⟩,
 ⟨.p (opMove (some 54) (.tmp 6) 3 "ref.go:205" #[]), none⟩,
 ⟨.pn (opBin (some 55) .add 3 (.tmp 54) (.const (Value.int IntKind.i64 1)) 3 3 "ref.go:205" #[eD 1]) opBin_nat, none⟩,
 ⟨.pn (opIndexStrW (some 56) 9 (.tmp 53) (.tmp 55) Tryd.underlying9 5 "ref.go:205" #[eD 0, eD 2]) opIndexStrW_nat, none⟩,
 ⟨.pn (opCallP p30 (some 57) [(.tmp 56)] #[5] 3 "ref.go:205" #[eD 3]) (opCallP_nat p30_nat), none⟩,
 ⟨.pn (opBin (some 58) .mul 3 (.tmp 57) (.const (Value.int IntKind.i64 16)) 3 3 "ref.go:205" #[eD 4]) opBin_nat, none⟩,
 ⟨.p (opMove (some 59) (.tmp 0) 9 "ref.go:205" #[]), none⟩,
 ⟨.p (opMove (some 60) (.tmp 6) 3 "ref.go:205" #[]), none⟩,
 ⟨.pn (opBin (some 61) .add 3 (.tmp 60) (.const (Value.int IntKind.i64 2)) 3 3 "ref.go:205" #[eD 7]) opBin_nat, none⟩,
 ⟨.pn (opIndexStrW (some 62) 9 (.tmp 59) (.tmp 61) Tryd.underlying9 5 "ref.go:205" #[eD 6, eD 8]) opIndexStrW_nat, none⟩,
 ⟨.pn (opCallP p30 (some 63) [(.tmp 62)] #[5] 3 "ref.go:205" #[eD 9, eC 4]) (opCallP_nat p30_nat), none⟩,
 ⟨.pn (opBin (some 64) .add 3 (.tmp 58) (.tmp 63) 3 3 "ref.go:205" #[eD 5, eD 10]) opBin_nat, none⟩,
 ⟨.p (opAssign (some 7) (.tmp 64) 3 "ref.go:205" #[eD 11, eC 10, eP 0, eP 1, eP 2, eP 3, eP 4, eP 5, eP 6, eP 7, eP 8, eP 9, eP 10, eP 11]), none⟩
 ] mixed (by kernel_rfl)))
 (.seq (.seq (.live [0, 2, 4, 5, 6, 7, 78] (.region 14 [
 ⟨(opMove (some 65) (.tmp 0) 9 "ref.go:206" #[]).op, none⟩,
 ⟨(opMove (some 66) (.tmp 6) 3 "ref.go:206" #[]).op, none⟩,
 ⟨(opBin (some 67) .add 3 (.tmp 66) (.const (Value.int IntKind.i64 1)) 3 3 "ref.go:206" #[eD 1]).op, none⟩,
 ⟨(opIndexStrW (some 68) 9 (.tmp 65) (.tmp 67) Tryd.underlying9 5 "ref.go:206" #[eD 0, eD 2]).op, none⟩,
 ⟨(opCallP p30 (some 69) [(.tmp 68)] #[5] 3 "ref.go:206" #[eD 3]).op, none⟩,
 ⟨(opBin (some 70) .lss 3 (.tmp 69) (.const (Value.int IntKind.i64 0)) 3 4 "ref.go:206" #[eD 4]).op, none⟩,
 ⟨(opMove (some 71) (.tmp 70) 4 "ref.go:206" #[eD 5, eC 4]).op, none⟩,
 ⟨(opMove (some 72) (.tmp 0) 9 "ref.go:206" #[eG 6]).op, (some (6, 71, false))⟩,
 ⟨(opMove (some 73) (.tmp 6) 3 "ref.go:206" #[eG 6]).op, (some (6, 71, false))⟩,
 ⟨(opBin (some 74) .add 3 (.tmp 73) (.const (Value.int IntKind.i64 2)) 3 3 "ref.go:206" #[eD 8, eG 6]).op, (some (6, 71, false))⟩,
 ⟨(opIndexStrW (some 75) 9 (.tmp 72) (.tmp 74) Tryd.underlying9 5 "ref.go:206" #[eD 7, eD 9, eG 6]).op, (some (6, 71, false))⟩,
 ⟨(opCallP p30 (some 76) [(.tmp 75)] #[5] 3 "ref.go:206" #[eD 10, eC 6, eG 6]).op, (some (6, 71, false))⟩,
 ⟨(opBin (some 77) .lss 3 (.tmp 76) (.const (Value.int IntKind.i64 0)) 3 4 "ref.go:206" #[eD 11, eG 6]).op, (some (6, 71, false))⟩,
 ⟨(opPick (some 78) (.tmp 71) (.const (Value.bool true)) (.tmp 77) 4 "ref.go:206" #[eD 6, eD 12]).op, none⟩
 ] (by kernel_rfl)))
 (.cond (.tmp 78)
 (.seq (.live [2, 3] (.region 15 [
 ⟨(opBuild (some 79) 24 #[(.int .i64 0), (.int .i64 0), (.string ⟨#[]⟩)] [] ze24 (by kernel_rfl) 24 "ref.go:207" #[]).op, none⟩,
 ⟨(opStore none 24 (.tmp 2) (.tmp 79) 3 sz24 0 "ref.go:207" #[eD 0, eP 0]).op, none⟩,
 ⟨(opAssign (some 3) (.const (Value.bool false)) 4 "ref.go:207" #[eC 1, eP 0, eP 1]).op, none⟩
 ] (by kernel_rfl)))
 (.live [2, 3] .ret))
 .skip))
 (.seq (.live [0, 2, 4, 5, 6] (.region 16 [
 ⟨(opMove (some 80) (.tmp 5) 46 "ref.go:209" #[]).op, none⟩,
 ⟨(opMove (some 81) (.tmp 7) 3 "ref.go:209" #[]).op, none⟩,
 ⟨(opConvInt (some 82) 3 5 (.tmp 81) (.int .i64) Tryd.underlying3 .u8 Tryd.underlying5 5 "ref.go:209" #[eD 1]).op, none⟩,
 ⟨(opBuildSlice (some 83) 46 1 [(0, (.tmp 82))] 5 1 1 (.int .u8 0) el46 (by kernel_rfl) (by decide) 46 "ref.go:209" #[eD 2]).op, none⟩,
 ⟨(opAppend (some 84) (.tmp 80) (.tmp 83) 46 46 5 1 1 (.int .u8 0) el46 (.slice 5) Tryd.underlying46 rfl 46 "ref.go:209" #[eD 0, eD 3]).op, none⟩,
 ⟨(opAssign (some 5) (.tmp 84) 46 "ref.go:209" #[eD 4, eC 4, eP 0, eP 1, eP 2, eP 3, eP 4]).op, none⟩
 ] (by kernel_rfl)))
 (.live [0, 2, 4, 5, 6] (.region 17 [
 ⟨(opMove (some 85) (.tmp 6) 3 "ref.go:210" #[]).op, none⟩,
 ⟨(opBin (some 86) .add 3 (.tmp 85) (.const (Value.int IntKind.i64 2)) 3 3 "ref.go:210" #[eD 0]).op, none⟩,
 ⟨(opAssign (some 6) (.tmp 86) 3 "ref.go:210" #[eD 1, eP 0, eP 1]).op, none⟩
 ] (by kernel_rfl)))))))))
 (.live [0, 2, 4, 5, 6] (.region 8 [
 ⟨(opMove (some 34) (.tmp 6) 3 "ref.go:197" #[]).op, none⟩,
 ⟨(opBin (some 35) .add 3 (.tmp 34) (.const (Value.int IntKind.i64 1)) 3 3 "ref.go:197" #[eD 0]).op, none⟩,
 ⟨(opAssign (some 6) (.tmp 35) 3 "ref.go:197" #[eD 1, eP 0, eP 1]).op, none⟩
 ] (by kernel_rfl)))))

/-- What follows a loop. -/
noncomputable def f11_r0 : Sim Tryd.prog :=
 (.live [0, 2, 4] (.region 18 [
 ⟨(opMove (some 87) (.tmp 5) 46 "ref.go:212" #[]).op, none⟩,
 ⟨(opBytesStr (some 88) 46 9 (.tmp 87) 5 Tryd.underlying46 Tryd.underlying5 Tryd.underlying9 9 "ref.go:212" #[eD 0]).op, none⟩,
 ⟨(opFieldAddr (some 89) 24 (.tmp 4) 2 2 1 false fl24_2 (by decide) 0 "ref.go:212" #[eP 0, eP 1]).op, none⟩,
 ⟨(opStore none 9 (.tmp 89) (.tmp 88) 1 sz9 0 "ref.go:212" #[eD 2, eD 1, eP 0, eP 1]).op, none⟩
 ] (by kernel_rfl)))

/-- A piece of f11_r1. -/
noncomputable def f11_s0 : Sim Tryd.prog :=
 (.live [0,2,4] (.seq (.live [0, 2, 4, 95] (.region 19 [
 ⟨(opMove (some 90) (.tmp 0) 9 "ref.go:214" #[]).op, none⟩,
 ⟨(opBinS (some 91) .eql 9 (.tmp 90) (.const (Value.string { data := #[102, 97, 108, 115, 101] })) 9 4 "ref.go:214" #[eD 0]).op, none⟩,
 ⟨(opMove (some 92) (.tmp 91) 4 "ref.go:214" #[eD 1]).op, none⟩,
 ⟨(opMove (some 93) (.tmp 0) 9 "ref.go:214" #[eG 2]).op, (some (2, 92, false))⟩,
 ⟨(opBinS (some 94) .eql 9 (.tmp 93) (.const (Value.string { data := #[116, 114, 117, 101] })) 9 4 "ref.go:214" #[eD 3, eG 2]).op, (some (2, 92, false))⟩,
 ⟨(opPick (some 95) (.tmp 92) (.const (Value.bool true)) (.tmp 94) 4 "ref.go:214" #[eD 2, eD 4]).op, none⟩
 ] (by kernel_rfl)))
 (.cond (.tmp 95)
 (.seq (.live [0, 2, 4] (.region 20 [
 ⟨(opBuild (some 96) 24 #[(.int .i64 0), (.int .i64 0), (.string ⟨#[]⟩)] [(0, 0, 1, (.const (Value.int IntKind.i64 2)))] ze24 (by kernel_rfl) 24 "ref.go:215" #[]).op, none⟩,
 ⟨(opStore none 24 (.tmp 4) (.tmp 96) 3 sz24 0 "ref.go:215" #[eD 0, eP 0]).op, none⟩
 ] (by kernel_rfl)))
 (.seq (.live [0, 2, 4, 98] (.region 21 [
 ⟨(opMove (some 97) (.tmp 0) 9 "ref.go:216" #[]).op, none⟩,
 ⟨(opBinS (some 98) .eql 9 (.tmp 97) (.const (Value.string { data := #[116, 114, 117, 101] })) 9 4 "ref.go:216" #[eD 0]).op, none⟩
 ] (by kernel_rfl)))
 (.cond (.tmp 98)
 (.live [0, 2, 4] (.region 22 [
 ⟨(opFieldAddr (some 99) 24 (.tmp 4) 1 1 1 false fl24_1 (by decide) 0 "ref.go:217" #[]).op, none⟩,
 ⟨(opStore none 3 (.tmp 99) (.const (Value.int IntKind.i64 1)) 1 sz3 0 "ref.go:217" #[eD 0]).op, none⟩
 ] (by kernel_rfl)))
 .skip)))
 .skip)))

/-- A piece of f11_r1. -/
noncomputable def f11_s1 : Sim Tryd.prog :=
 (.live [0,2,4] (.seq (.live [0, 2, 4, 122] (.region 23 [
 ⟨(opMove (some 100) (.tmp 0) 9 "ref.go:220" #[]).op, none⟩,
 ⟨(opLen (some 101) (.tmp 100) 9 .string Tryd.underlying9 3 "ref.go:220" #[eD 0]).op, none⟩,
 ⟨(opBin (some 102) .gtr 3 (.tmp 101) (.const (Value.int IntKind.i64 0)) 3 4 "ref.go:220" #[eD 1]).op, none⟩,
 ⟨(opMove (some 103) (.tmp 102) 4 "ref.go:220" #[eD 2]).op, none⟩,
 ⟨(opMove (some 104) (.tmp 0) 9 "ref.go:220" #[eG 3]).op, (some (3, 103, true))⟩,
 ⟨(opLen (some 105) (.tmp 104) 9 .string Tryd.underlying9 3 "ref.go:220" #[eD 4, eG 3]).op, (some (3, 103, true))⟩,
 ⟨(opBin (some 106) .leq 3 (.tmp 105) (.const (Value.int IntKind.i64 20)) 3 4 "ref.go:220" #[eD 5, eG 3]).op, (some (3, 103, true))⟩,
 ⟨(opPick (some 107) (.tmp 103) (.tmp 106) (.const (Value.bool false)) 4 "ref.go:220" #[eD 3, eD 6]).op, none⟩,
 ⟨(opMove (some 108) (.tmp 107) 4 "ref.go:220" #[eD 7, eC 3]).op, none⟩,
 ⟨(opMove (some 109) (.tmp 0) 9 "ref.go:220" #[eG 8]).op, (some (8, 108, true))⟩,
 ⟨(opIndexStrW (some 110) 9 (.tmp 109) (.const (Value.int IntKind.i64 0)) Tryd.underlying9 5 "ref.go:220" #[eD 9, eG 8]).op, (some (8, 108, true))⟩,
 ⟨(opBin (some 111) .eql 5 (.tmp 110) (.const (Value.int IntKind.u8 45)) 5 4 "ref.go:220" #[eD 10, eG 8]).op, (some (8, 108, true))⟩,
 ⟨(opMove (some 112) (.tmp 111) 4 "ref.go:220" #[eD 11, eC 8, eG 8]).op, (some (8, 108, true))⟩,
 ⟨(opMove (some 113) (.tmp 0) 9 "ref.go:220" #[eG 12]).op, (some (12, 112, false))⟩,
 ⟨(opIndexStrW (some 114) 9 (.tmp 113) (.const (Value.int IntKind.i64 0)) Tryd.underlying9 5 "ref.go:220" #[eD 13, eG 12]).op, (some (12, 112, false))⟩,
 ⟨(opBin (some 115) .geq 5 (.tmp 114) (.const (Value.int IntKind.u8 48)) 5 4 "ref.go:220" #[eD 14, eG 12]).op, (some (12, 112, false))⟩,
 ⟨(opMove (some 116) (.tmp 115) 4 "ref.go:220" #[eD 15, eC 12, eG 12]).op, (some (12, 112, false))⟩,
 ⟨(opMove (some 117) (.tmp 0) 9 "ref.go:220" #[eG 16]).op, (some (16, 116, true))⟩,
 ⟨(opIndexStrW (some 118) 9 (.tmp 117) (.const (Value.int IntKind.i64 0)) Tryd.underlying9 5 "ref.go:220" #[eD 17, eG 16]).op, (some (16, 116, true))⟩,
 ⟨(opBin (some 119) .leq 5 (.tmp 118) (.const (Value.int IntKind.u8 57)) 5 4 "ref.go:220" #[eD 18, eG 16]).op, (some (16, 116, true))⟩,
 ⟨(opPick (some 120) (.tmp 116) (.tmp 119) (.const (Value.bool false)) 4 "ref.go:220" #[eD 16, eD 19, eG 12]).op, (some (12, 112, false))⟩,
 ⟨(opPick (some 121) (.tmp 112) (.const (Value.bool true)) (.tmp 120) 4 "ref.go:220" #[eD 12, eD 20, eG 8]).op, (some (8, 108, true))⟩,
 ⟨(opPick (some 122) (.tmp 108) (.tmp 121) (.const (Value.bool false)) 4 "ref.go:220" #[eD 8, eD 21]).op, none⟩
 ] (by kernel_rfl)))
 (.cond (.tmp 122)
 (.live [0, 2, 4] (.region 24 [
 ⟨(opMove (some 123) (.tmp 0) 9 "ref.go:221" #[]).op, none⟩,
 ⟨(opCallP p31 (some 124) [(.tmp 123)] #[9] 3 "ref.go:221" #[eD 0]).op, none⟩,
 ⟨(opBuild (some 125) 24 #[(.int .i64 0), (.int .i64 0), (.string ⟨#[]⟩)] [(0, 0, 1, (.const (Value.int IntKind.i64 1))), (1, 1, 1, (.tmp 124))] ze24 (by kernel_rfl) 24 "ref.go:221" #[eD 1]).op, none⟩,
 ⟨(opStore none 24 (.tmp 4) (.tmp 125) 3 sz24 0 "ref.go:221" #[eD 2, eC 1, eP 0, eP 1, eP 2]).op, none⟩
 ] (by kernel_rfl)))
 .skip)))

/-- A piece of f11_r1. -/
noncomputable def f11_s2 : Sim Tryd.prog :=
 (.seq (.seq (.live [2, 4, 129] (.region 25 [
 ⟨(opLoadT (.agg [(.int .i64), (.int .i64), .str]) (some 126) 24 (.tmp 4) d24 ud24 3 sz24 (by kernel_rfl) 24 "ref.go:223" #[]).op, none⟩,
 ⟨(opCallP p24 (some 127) [(.tmp 126)] #[24] 9 "ref.go:223" #[eD 0]).op, none⟩,
 ⟨(opMove (some 128) (.tmp 0) 9 "ref.go:223" #[]).op, none⟩,
 ⟨(opBinS (some 129) .neq 9 (.tmp 127) (.tmp 128) 9 4 "ref.go:223" #[eD 1, eD 2]).op, none⟩
 ] (by kernel_rfl)))
 (.cond (.tmp 129)
 (.seq (.live [2, 3] (.region 26 [
 ⟨(opBuild (some 130) 24 #[(.int .i64 0), (.int .i64 0), (.string ⟨#[]⟩)] [] ze24 (by kernel_rfl) 24 "ref.go:224" #[]).op, none⟩,
 ⟨(opStore none 24 (.tmp 2) (.tmp 130) 3 sz24 0 "ref.go:224" #[eD 0, eP 0]).op, none⟩,
 ⟨(opAssign (some 3) (.const (Value.bool false)) 4 "ref.go:224" #[eC 1, eP 0, eP 1]).op, none⟩
 ] (by kernel_rfl)))
 (.live [2, 3] .ret))
 .skip))
 (.seq (.live [2, 3] (.region 27 [
 ⟨(opLoadT (.agg [(.int .i64), (.int .i64), .str]) (some 131) 24 (.tmp 4) d24 ud24 3 sz24 (by kernel_rfl) 24 "ref.go:226" #[]).op, none⟩,
 ⟨(opStore none 24 (.tmp 2) (.tmp 131) 3 sz24 0 "ref.go:226" #[eD 0, eP 0]).op, none⟩,
 ⟨(opAssign (some 3) (.const (Value.bool true)) 4 "ref.go:226" #[eC 1, eP 0, eP 1]).op, none⟩
 ] (by kernel_rfl)))
 (.live [2, 3] .ret)))

/-- What follows a loop. -/
noncomputable def f11_r1 : Sim Tryd.prog :=
 (.seq f11_s0
 (.seq f11_s1
 f11_s2))

/-- A piece of f11_b. -/
noncomputable def f11_a : Sim Tryd.prog :=
 (.live [0, 2] (.region 0 [
 ⟨(opAlloc (some 2) 24 (.agg #[(.int .i64 0), (.int .i64 0), (.string ⟨#[]⟩)]) ze24 0 "ref.go:190" #[]).op, none⟩,
 ⟨(opAssign (some 3) (.const (Value.bool false)) 4 "ref.go:190" #[]).op, none⟩
 ] (by kernel_rfl)))

/-- A piece of f11_b. -/
noncomputable def f11_n : Sim Tryd.prog :=
 (.live [0,2,3] (.seq (.live [0, 2, 9] (.region 1 [
 ⟨(opMove (some 8) (.tmp 0) 9 "ref.go:191" #[]).op, none⟩,
 ⟨(opBinS (some 9) .eql 9 (.tmp 8) (.const (Value.string { data := #[110, 117, 108, 108] })) 9 4 "ref.go:191" #[eD 0]).op, none⟩
 ] (by kernel_rfl)))
 (.cond (.tmp 9)
 (.seq (.live [2, 3] (.region 2 [
 ⟨(opBuild (some 10) 24 #[(.int .i64 0), (.int .i64 0), (.string ⟨#[]⟩)] [] ze24 (by kernel_rfl) 24 "ref.go:192" #[]).op, none⟩,
 ⟨(opStore none 24 (.tmp 2) (.tmp 10) 3 sz24 0 "ref.go:192" #[eD 0, eP 0]).op, none⟩,
 ⟨(opAssign (some 3) (.const (Value.bool true)) 4 "ref.go:192" #[eC 1, eP 0, eP 1]).op, none⟩
 ] (by kernel_rfl)))
 (.live [2, 3] .ret))
 .skip)))

/-- A piece of f11_b. -/
noncomputable def f11_c : Sim Tryd.prog :=
 (.live [0, 2, 4] (.region 3 [
 ⟨(opBuild (some 11) 24 #[(.int .i64 0), (.int .i64 0), (.string ⟨#[]⟩)] [(0, 0, 1, (.const (Value.int IntKind.i64 3)))] ze24 (by kernel_rfl) 24 "ref.go:194" #[]).op, none⟩,
 ⟨(opAlloc (some 4) 24 (.agg #[(.int .i64 0), (.int .i64 0), (.string ⟨#[]⟩)]) ze24 0 "ref.go:194" #[]).op, none⟩,
 ⟨(opStore none 24 (.tmp 4) (.tmp 11) 3 sz24 0 "ref.go:194" #[eD 1, eD 0, eP 0, eP 1]).op, none⟩
 ] (by kernel_rfl)))

/-- A piece of f11_b. -/
noncomputable def f11_q : Sim Tryd.prog :=
 (.live [0,2,3,4] (.seq (.live [0, 2, 4, 27] (.region 4 [
 ⟨(opMove (some 12) (.tmp 0) 9 "ref.go:195" #[]).op, none⟩,
 ⟨(opLen (some 13) (.tmp 12) 9 .string Tryd.underlying9 3 "ref.go:195" #[eD 0]).op, none⟩,
 ⟨(opBin (some 14) .geq 3 (.tmp 13) (.const (Value.int IntKind.i64 2)) 3 4 "ref.go:195" #[eD 1]).op, none⟩,
 ⟨(opMove (some 15) (.tmp 14) 4 "ref.go:195" #[eD 2]).op, none⟩,
 ⟨(opMove (some 16) (.tmp 0) 9 "ref.go:195" #[eG 3]).op, (some (3, 15, true))⟩,
 ⟨(opIndexStrW (some 17) 9 (.tmp 16) (.const (Value.int IntKind.i64 0)) Tryd.underlying9 5 "ref.go:195" #[eD 4, eG 3]).op, (some (3, 15, true))⟩,
 ⟨(opBin (some 18) .eql 5 (.tmp 17) (.const (Value.int IntKind.u8 34)) 5 4 "ref.go:195" #[eD 5, eG 3]).op, (some (3, 15, true))⟩,
 ⟨(opPick (some 19) (.tmp 15) (.tmp 18) (.const (Value.bool false)) 4 "ref.go:195" #[eD 3, eD 6]).op, none⟩,
 ⟨(opMove (some 20) (.tmp 19) 4 "ref.go:195" #[eD 7, eC 3]).op, none⟩,
 ⟨(opMove (some 21) (.tmp 0) 9 "ref.go:195" #[eG 8]).op, (some (8, 20, true))⟩,
 ⟨(opMove (some 22) (.tmp 0) 9 "ref.go:195" #[eG 8]).op, (some (8, 20, true))⟩,
 ⟨(opLen (some 23) (.tmp 22) 9 .string Tryd.underlying9 3 "ref.go:195" #[eD 10, eG 8]).op, (some (8, 20, true))⟩,
 ⟨(opBin (some 24) .sub 3 (.tmp 23) (.const (Value.int IntKind.i64 1)) 3 3 "ref.go:195" #[eD 11, eG 8]).op, (some (8, 20, true))⟩,
 ⟨(opIndexStrW (some 25) 9 (.tmp 21) (.tmp 24) Tryd.underlying9 5 "ref.go:195" #[eD 9, eD 12, eG 8]).op, (some (8, 20, true))⟩,
 ⟨(opBin (some 26) .eql 5 (.tmp 25) (.const (Value.int IntKind.u8 34)) 5 4 "ref.go:195" #[eD 13, eG 8]).op, (some (8, 20, true))⟩,
 ⟨(opPick (some 27) (.tmp 20) (.tmp 26) (.const (Value.bool false)) 4 "ref.go:195" #[eD 8, eD 14]).op, none⟩
 ] (by kernel_rfl)))
 (.cond (.tmp 27)
 (.seq (.live [0, 2, 4, 5] (.region 5 [
 ⟨(opBuildSlice (some 28) 46 0 [] 5 1 1 (.int .u8 0) el46 (by kernel_rfl) (by decide) 46 "ref.go:196" #[]).op, none⟩,
 ⟨(opAssign (some 5) (.tmp 28) 46 "ref.go:196" #[eD 0, eP 0]).op, none⟩
 ] (by kernel_rfl)))
 (.seq (.seq (.live [0, 2, 4, 5, 6] (.region 6 [
 ⟨(opAssign (some 6) (.const (Value.int IntKind.i64 1)) 3 "ref.go:197" #[]).op, none⟩
 ] (by kernel_rfl)))
 (.block 0 (.loop [0, 2, 4, 5, 6] f11_l0)))
 f11_r0))
 .skip)))

noncomputable def f11_b : Sim Tryd.prog :=
 (.seq f11_a
 (.seq f11_n
 (.seq f11_c
 (.seq f11_q
 f11_r1))))

noncomputable def f11 : Fun Tryd.prog where
 id := 11
 fn := Tryd.f11
 hf := Tryd.func11
 hname := by kernel_rfl
 body := f11_b
 hbody := by kernel_rfl
 res := [rCell 2 24 d24 ud24 3 sz24, rTmp 3]
 hres := by kernel_rfl
 n := 132
 hn := by kernel_rfl

end Go.Proofs.YtcfedmheblbdnaaDoor.V

/- What the functions' runs come to; the right sides were printed by a tool, Lean checks them. -/
set_option linter.unusedVariables false
set_option maxRecDepth 100000
namespace Go.Proofs.YtcfedmheblbdnaaDoor.V
open Go Go.V Go.RowKit

theorem rr_a (F : Nat) (K : Cont) (s : ByteArray) :
 (f11_a.run F K (Env.mk 132 [(0, .str s)]) ⟨[], []⟩ : Ans) =
 K AX.normal (Env.mk 132 [(0, AV.str s), (2, AV.ptr 0 0)])
 (St.mk [Ob.cells [AV.int IntKind.i64 (0 : Int), AV.int IntKind.i64 (0 : Int), AV.str (ByteArray.mk #[])]] []) := by kernel_rfl

theorem rr_n (F : Nat) (K : Cont) (s : ByteArray) :
 (f11_n.run F K (Env.mk 132 [(0, .str s), (2, .ptr 0 0)]) ⟨[Ob.cells [.int .i64 (0 : Int), .int .i64 (0 : Int), .str (ByteArray.mk #[])]], []⟩ : Ans) =
 branch
 (AV.bool
 (s.toList == [UInt8.ofNat 110, UInt8.ofNat 117, UInt8.ofNat 108, UInt8.ofNat 108]))
 (K AX.ret
 (Env.mk 132 [(0, AV.dead), (2, AV.ptr 0 0), (3, AV.bool true)])
 (St.mk [Ob.cells [AV.int IntKind.i64 (0 : Int), AV.int IntKind.i64 (0 : Int), AV.str (ByteArray.mk #[])]] []))
 (K AX.normal
 (Env.mk 132 [(0, AV.str s), (2, AV.ptr 0 0), (3, AV.dead)])
 (St.mk [Ob.cells [AV.int IntKind.i64 (0 : Int), AV.int IntKind.i64 (0 : Int), AV.str (ByteArray.mk #[])]] [])) := by kernel_rfl

theorem rr_nend (s : ByteArray) (b : Bool) (k n : Int) (t : ByteArray) (o : List Ob) (tk : List (Nat × Nat)) :
 ((f11.leaveK Fun.done) .ret (Env.mk 132 [(2, .ptr 0 0), (3, .bool b)]) ⟨Ob.cells [.int .i64 k, .int .i64 n, .str t] :: o, tk⟩ : Ans) =
 some
 (Fin.ret (AV.tup [AV.agg [AV.int IntKind.i64 k, AV.int IntKind.i64 n, AV.str t], AV.bool b]),
 St.mk (Ob.cells [AV.int IntKind.i64 k, AV.int IntKind.i64 n, AV.str t] :: o) tk) := by kernel_rfl

theorem rr_nend2 (s : ByteArray) (b : Bool) (k n : Int) (t : ByteArray) (o : List Ob) (tk : List (Nat × Nat)) :
 ((f11.leaveK Fun.done) .ret (Env.mk 132 [(0, .dead), (2, .ptr 0 0), (3, .bool b)]) ⟨Ob.cells [.int .i64 k, .int .i64 n, .str t] :: o, tk⟩ : Ans) =
 some
 (Fin.ret (AV.tup [AV.agg [AV.int IntKind.i64 k, AV.int IntKind.i64 n, AV.str t], AV.bool b]),
 St.mk (Ob.cells [AV.int IntKind.i64 k, AV.int IntKind.i64 n, AV.str t] :: o) tk) := by kernel_rfl

theorem rr_nend3 (s : ByteArray) (b : Bool) (k n : Int) (t : ByteArray) (o : List Ob) (tk : List (Nat × Nat)) :
 ((f11.leaveK Fun.done) .ret (Env.mk 132 [(0, .dead), (2, .ptr 0 0), (3, .bool b), (4, .dead)]) ⟨Ob.cells [.int .i64 k, .int .i64 n, .str t] :: o, tk⟩ : Ans) =
 some
 (Fin.ret (AV.tup [AV.agg [AV.int IntKind.i64 k, AV.int IntKind.i64 n, AV.str t], AV.bool b]),
 St.mk (Ob.cells [AV.int IntKind.i64 k, AV.int IntKind.i64 n, AV.str t] :: o) tk) := by kernel_rfl

theorem rr_c (F : Nat) (K : Cont) (s : ByteArray) :
 (f11_c.run F K (Env.mk 132 [(0, .str s), (2, .ptr 0 0), (3, .dead)]) ⟨[Ob.cells [.int .i64 (0 : Int), .int .i64 (0 : Int), .str (ByteArray.mk #[])]], []⟩ : Ans) =
 K AX.normal
 (Env.mk 132
 [(0, AV.str s), (2, AV.ptr 0 0), (4, AV.ptr 1 0)])
 (St.mk
 [Ob.cells [AV.int IntKind.i64 (0 : Int), AV.int IntKind.i64 (0 : Int), AV.str (ByteArray.mk #[])],
 Ob.cells [AV.int IntKind.i64 (3 : Int), AV.int IntKind.i64 (0 : Int), AV.str (ByteArray.mk #[])]]
 []) := by kernel_rfl

theorem rr_q (F : Nat) (K : Cont) (s : ByteArray) :
 (f11_q.run F K (Env.mk 132 [(0, .str s), (2, .ptr 0 0), (4, .ptr 1 0)]) ⟨[Ob.cells [.int .i64 (0 : Int), .int .i64 (0 : Int), .str (ByteArray.mk #[])], Ob.cells [.int .i64 (3 : Int), .int .i64 (0 : Int), .str (ByteArray.mk #[])]], []⟩ : Ans) =
 branch (AV.bool (decide ((↑s.size : Int) ≥ (2 : Int))))
 (branch (AV.bool (inT s (0 : Int)))
 (branch (AV.bool (atT s (0 : Int) == (34 : Int)))
 (branch (AV.bool (inT s (IntKind.i64.wrap ((↑s.size : Int) - (1 : Int)))))
 (branch (AV.bool (atT s (IntKind.i64.wrap ((↑s.size : Int) - (1 : Int))) == (34 : Int)))
 (loopRun (f11_l0.run F) [0, 2, 4, 5, 6]
 (Cont.block 0
 (Cont.then (f11_r0.run F (Cont.norm [0, 2, 3, 4] K))
 (Cont.norm [0, 2, 3, 4] K)))
 F
 (Env.mk 132
 [(0, AV.str s), (2, AV.ptr 0 0), (4, AV.ptr 1 0),
 (5, AV.sl 1 true []), (6, AV.int IntKind.i64 (1 : Int))])
 (St.mk
 [Ob.cells [AV.int IntKind.i64 (0 : Int), AV.int IntKind.i64 (0 : Int), AV.str (ByteArray.mk #[])],
 Ob.cells [AV.int IntKind.i64 (3 : Int), AV.int IntKind.i64 (0 : Int), AV.str (ByteArray.mk #[])]]
 []))
 (K AX.normal
 (Env.mk 132
 [(0, AV.str s), (2, AV.ptr 0 0), (3, AV.dead),
 (4, AV.ptr 1 0)])
 (St.mk
 [Ob.cells [AV.int IntKind.i64 (0 : Int), AV.int IntKind.i64 (0 : Int), AV.str (ByteArray.mk #[])],
 Ob.cells [AV.int IntKind.i64 (3 : Int), AV.int IntKind.i64 (0 : Int), AV.str (ByteArray.mk #[])]]
 [])))
 none)
 (K AX.normal
 (Env.mk 132
 [(0, AV.str s), (2, AV.ptr 0 0), (3, AV.dead),
 (4, AV.ptr 1 0)])
 (St.mk
 [Ob.cells [AV.int IntKind.i64 (0 : Int), AV.int IntKind.i64 (0 : Int), AV.str (ByteArray.mk #[])],
 Ob.cells [AV.int IntKind.i64 (3 : Int), AV.int IntKind.i64 (0 : Int), AV.str (ByteArray.mk #[])]]
 [])))
 none)
 (K AX.normal
 (Env.mk 132
 [(0, AV.str s), (2, AV.ptr 0 0), (3, AV.dead),
 (4, AV.ptr 1 0)])
 (St.mk
 [Ob.cells [AV.int IntKind.i64 (0 : Int), AV.int IntKind.i64 (0 : Int), AV.str (ByteArray.mk #[])],
 Ob.cells [AV.int IntKind.i64 (3 : Int), AV.int IntKind.i64 (0 : Int), AV.str (ByteArray.mk #[])]]
 [])) := by kernel_rfl

theorem rr_a0 (F m : Nat) (K : Cont) (s : ByteArray) (i : Int) :
 (loopRun (f11_l0.run F) [0, 2, 4, 5, 6] K m.succ (Env.mk 132 [(0, .str s), (2, .ptr 0 0), (4, .ptr 1 0), (5, .sl 1 true []), (6, .int .i64 i)]) ⟨[Ob.cells [.int .i64 (0 : Int), .int .i64 (0 : Int), .str (ByteArray.mk #[])], Ob.cells [.int .i64 (3 : Int), .int .i64 (0 : Int), .str (ByteArray.mk #[])]], []⟩ : Ans) =
 branch (AV.bool (decide (i < IntKind.i64.wrap ((↑s.size : Int) - (1 : Int)))))
 (branch (AV.bool (inT s i))
 (branch (AV.bool (atT s i != (92 : Int)))
 (branch (AV.bool (inT s i))
 (loopRun (f11_l0.run F) [0, 2, 4, 5, 6] K m
 (Env.mk 132
 [(0, AV.str s), (2, AV.ptr 0 0), (4, AV.ptr 1 0),
 (5, AV.lg 0 1 [[AV.int IntKind.u8 (atT s i)]]),
 (6, AV.int IntKind.i64 (IntKind.i64.wrap (i + (1 : Int))))])
 (St.mk
 [Ob.cells [AV.int IntKind.i64 (0 : Int), AV.int IntKind.i64 (0 : Int), AV.str (ByteArray.mk #[])],
 Ob.cells [AV.int IntKind.i64 (3 : Int), AV.int IntKind.i64 (0 : Int), AV.str (ByteArray.mk #[])]]
 [(1, 1)]))
 none)
 (branch (AV.bool (decide (IntKind.i64.wrap (i + (2 : Int)) ≥ IntKind.i64.wrap ((↑s.size : Int) - (1 : Int)))))
 (K AX.ret (Env.mk 132 [(2, AV.ptr 0 0), (3, AV.bool false)])
 (St.mk
 [Ob.cells [AV.int IntKind.i64 (0 : Int), AV.int IntKind.i64 (0 : Int), AV.str (ByteArray.mk #[])],
 Ob.cells [AV.int IntKind.i64 (3 : Int), AV.int IntKind.i64 (0 : Int), AV.str (ByteArray.mk #[])]]
 []))
 (branch (AV.bool (inT s (IntKind.i64.wrap (i + (1 : Int)))))
 (branch (AV.bool (cdec ((0 : Int) ≤ atT s (IntKind.i64.wrap (i + (1 : Int))))))
 (branch (AV.bool (inT s (IntKind.i64.wrap (i + (2 : Int)))))
 (branch (AV.bool (cdec ((0 : Int) ≤ atT s (IntKind.i64.wrap (i + (2 : Int))))))
 (branch (AV.bool (inT s (IntKind.i64.wrap (i + (1 : Int)))))
 (branch (AV.bool (cdec ((0 : Int) ≤ atT s (IntKind.i64.wrap (i + (1 : Int))))))
 (branch (AV.bool (decide (digH (atT s (IntKind.i64.wrap (i + (1 : Int)))).toNat < (0 : Int))))
 (K AX.ret
 (Env.mk 132 [(2, AV.ptr 0 0), (3, AV.bool false)])
 (St.mk
 [Ob.cells
 [AV.int IntKind.i64 (0 : Int), AV.int IntKind.i64 (0 : Int), AV.str (ByteArray.mk #[])],
 Ob.cells
 [AV.int IntKind.i64 (3 : Int), AV.int IntKind.i64 (0 : Int), AV.str (ByteArray.mk #[])]]
 []))
 (branch (AV.bool (inT s (IntKind.i64.wrap (i + (2 : Int)))))
 (branch (AV.bool (cdec ((0 : Int) ≤ atT s (IntKind.i64.wrap (i + (2 : Int))))))
 (branch (AV.bool (decide (digH (atT s (IntKind.i64.wrap (i + (2 : Int)))).toNat < (0 : Int))))
 (K AX.ret
 (Env.mk 132 [(2, AV.ptr 0 0), (3, AV.bool false)])
 (St.mk
 [Ob.cells
 [AV.int IntKind.i64 (0 : Int), AV.int IntKind.i64 (0 : Int),
 AV.str (ByteArray.mk #[])],
 Ob.cells
 [AV.int IntKind.i64 (3 : Int), AV.int IntKind.i64 (0 : Int),
 AV.str (ByteArray.mk #[])]]
 []))
 (loopRun (f11_l0.run F) [0, 2, 4, 5, 6] K m
 (Env.mk 132
 [(0, AV.str s), (2, AV.ptr 0 0),
 (4, AV.ptr 1 0),
 (5,
 AV.lg 0 1
 [[AV.int IntKind.u8
 (IntKind.u8.wrap
 (IntKind.i64.wrap
 (IntKind.i64.wrap
 (digH (atT s (IntKind.i64.wrap (i + (1 : Int)))).toNat *
 (16 : Int)) +
 digH (atT s (IntKind.i64.wrap (i + (2 : Int)))).toNat)))]]),
 (6,
 AV.int IntKind.i64
 (IntKind.i64.wrap (IntKind.i64.wrap (i + (2 : Int)) + (1 : Int))))])
 (St.mk
 [Ob.cells
 [AV.int IntKind.i64 (0 : Int), AV.int IntKind.i64 (0 : Int),
 AV.str (ByteArray.mk #[])],
 Ob.cells
 [AV.int IntKind.i64 (3 : Int), AV.int IntKind.i64 (0 : Int),
 AV.str (ByteArray.mk #[])]]
 [(1, 1)])))
 none)
 none))
 none)
 none)
 none)
 none)
 none)
 none)))
 none)
 (K (AX.exit 0)
 (Env.mk 132
 [(0, AV.str s), (2, AV.ptr 0 0), (4, AV.ptr 1 0),
 (5, AV.sl 1 true [])])
 (St.mk
 [Ob.cells [AV.int IntKind.i64 (0 : Int), AV.int IntKind.i64 (0 : Int), AV.str (ByteArray.mk #[])],
 Ob.cells [AV.int IntKind.i64 (3 : Int), AV.int IntKind.i64 (0 : Int), AV.str (ByteArray.mk #[])]]
 [])) := by kernel_rfl

theorem rr_a1 (F m : Nat) (K : Cont) (s : ByteArray) (i : Int) (lo : List (List AV)) :
 (loopRun (f11_l0.run F) [0, 2, 4, 5, 6] K m.succ (Env.mk 132 [(0, .str s), (2, .ptr 0 0), (4, .ptr 1 0), (5, .lg 0 1 lo), (6, .int .i64 i)]) ⟨[Ob.cells [.int .i64 (0 : Int), .int .i64 (0 : Int), .str (ByteArray.mk #[])], Ob.cells [.int .i64 (3 : Int), .int .i64 (0 : Int), .str (ByteArray.mk #[])]], [(1, lo.length)]⟩ : Ans) =
 branch (AV.bool (decide (i < IntKind.i64.wrap ((↑s.size : Int) - (1 : Int)))))
 (branch (AV.bool (inT s i))
 (branch (AV.bool (atT s i != (92 : Int)))
 (branch (AV.bool (inT s i))
 (if
 some (1, lo.length) = some (1, lo.length) ∧
 (lo.length + 1) * 1 ≤ 140737488355328 then
 loopRun (f11_l0.run F) [0, 2, 4, 5, 6] K m
 (Env.mk 132
 [(0, AV.str s), (2, AV.ptr 0 0), (4, AV.ptr 1 0),
 (5, AV.lg 0 1 (lo ++ [[AV.int IntKind.u8 (atT s i)]])),
 (6, AV.int IntKind.i64 (IntKind.i64.wrap (i + (1 : Int))))])
 (St.mk
 [Ob.cells [AV.int IntKind.i64 (0 : Int), AV.int IntKind.i64 (0 : Int), AV.str (ByteArray.mk #[])],
 Ob.cells [AV.int IntKind.i64 (3 : Int), AV.int IntKind.i64 (0 : Int), AV.str (ByteArray.mk #[])]]
 [(1, lo.length + 1)])
 else none)
 none)
 (branch (AV.bool (decide (IntKind.i64.wrap (i + (2 : Int)) ≥ IntKind.i64.wrap ((↑s.size : Int) - (1 : Int)))))
 (K AX.ret (Env.mk 132 [(2, AV.ptr 0 0), (3, AV.bool false)])
 (St.mk
 [Ob.cells [AV.int IntKind.i64 (0 : Int), AV.int IntKind.i64 (0 : Int), AV.str (ByteArray.mk #[])],
 Ob.cells [AV.int IntKind.i64 (3 : Int), AV.int IntKind.i64 (0 : Int), AV.str (ByteArray.mk #[])]]
 [(1, lo.length)]))
 (branch (AV.bool (inT s (IntKind.i64.wrap (i + (1 : Int)))))
 (branch (AV.bool (cdec ((0 : Int) ≤ atT s (IntKind.i64.wrap (i + (1 : Int))))))
 (branch (AV.bool (inT s (IntKind.i64.wrap (i + (2 : Int)))))
 (branch (AV.bool (cdec ((0 : Int) ≤ atT s (IntKind.i64.wrap (i + (2 : Int))))))
 (branch (AV.bool (inT s (IntKind.i64.wrap (i + (1 : Int)))))
 (branch (AV.bool (cdec ((0 : Int) ≤ atT s (IntKind.i64.wrap (i + (1 : Int))))))
 (branch (AV.bool (decide (digH (atT s (IntKind.i64.wrap (i + (1 : Int)))).toNat < (0 : Int))))
 (K AX.ret
 (Env.mk 132 [(2, AV.ptr 0 0), (3, AV.bool false)])
 (St.mk
 [Ob.cells
 [AV.int IntKind.i64 (0 : Int), AV.int IntKind.i64 (0 : Int), AV.str (ByteArray.mk #[])],
 Ob.cells
 [AV.int IntKind.i64 (3 : Int), AV.int IntKind.i64 (0 : Int), AV.str (ByteArray.mk #[])]]
 [(1, lo.length)]))
 (branch (AV.bool (inT s (IntKind.i64.wrap (i + (2 : Int)))))
 (branch (AV.bool (cdec ((0 : Int) ≤ atT s (IntKind.i64.wrap (i + (2 : Int))))))
 (branch (AV.bool (decide (digH (atT s (IntKind.i64.wrap (i + (2 : Int)))).toNat < (0 : Int))))
 (K AX.ret
 (Env.mk 132 [(2, AV.ptr 0 0), (3, AV.bool false)])
 (St.mk
 [Ob.cells
 [AV.int IntKind.i64 (0 : Int), AV.int IntKind.i64 (0 : Int),
 AV.str (ByteArray.mk #[])],
 Ob.cells
 [AV.int IntKind.i64 (3 : Int), AV.int IntKind.i64 (0 : Int),
 AV.str (ByteArray.mk #[])]]
 [(1, lo.length)]))
 (if
 some (1, lo.length) = some (1, lo.length) ∧
 (lo.length + 1) * 1 ≤ 140737488355328 then
 loopRun (f11_l0.run F) [0, 2, 4, 5, 6] K m
 (Env.mk 132
 [(0, AV.str s), (2, AV.ptr 0 0),
 (4, AV.ptr 1 0),
 (5,
 AV.lg 0 1
 (lo ++
 [[AV.int IntKind.u8
 (IntKind.u8.wrap
 (IntKind.i64.wrap
 (IntKind.i64.wrap
 (digH (atT s (IntKind.i64.wrap (i + (1 : Int)))).toNat *
 (16 : Int)) +
 digH (atT s (IntKind.i64.wrap (i + (2 : Int)))).toNat)))]])),
 (6,
 AV.int IntKind.i64
 (IntKind.i64.wrap (IntKind.i64.wrap (i + (2 : Int)) + (1 : Int))))])
 (St.mk
 [Ob.cells
 [AV.int IntKind.i64 (0 : Int), AV.int IntKind.i64 (0 : Int),
 AV.str (ByteArray.mk #[])],
 Ob.cells
 [AV.int IntKind.i64 (3 : Int), AV.int IntKind.i64 (0 : Int),
 AV.str (ByteArray.mk #[])]]
 [(1, lo.length + 1)])
 else none))
 none)
 none))
 none)
 none)
 none)
 none)
 none)
 none)))
 none)
 (K (AX.exit 0)
 (Env.mk 132
 [(0, AV.str s), (2, AV.ptr 0 0), (4, AV.ptr 1 0),
 (5, AV.lg 0 1 lo)])
 (St.mk
 [Ob.cells [AV.int IntKind.i64 (0 : Int), AV.int IntKind.i64 (0 : Int), AV.str (ByteArray.mk #[])],
 Ob.cells [AV.int IntKind.i64 (3 : Int), AV.int IntKind.i64 (0 : Int), AV.str (ByteArray.mk #[])]]
 [(1, lo.length)])) := by kernel_rfl

theorem rr_e0 (F : Nat) (K : Cont) (s : ByteArray) :
 (f11_r0.run F K (Env.mk 132 [(0, .str s), (2, .ptr 0 0), (4, .ptr 1 0), (5, .sl 1 true [])]) ⟨[Ob.cells [.int .i64 (0 : Int), .int .i64 (0 : Int), .str (ByteArray.mk #[])], Ob.cells [.int .i64 (3 : Int), .int .i64 (0 : Int), .str (ByteArray.mk #[])]], []⟩ : Ans) =
 K AX.normal
 (Env.mk 132
 [(0, AV.str s), (2, AV.ptr 0 0), (4, AV.ptr 1 0)])
 (St.mk
 [Ob.cells [AV.int IntKind.i64 (0 : Int), AV.int IntKind.i64 (0 : Int), AV.str (ByteArray.mk #[])],
 Ob.cells [AV.int IntKind.i64 (3 : Int), AV.int IntKind.i64 (0 : Int), AV.str (textOf [])]]
 []) := by kernel_rfl

theorem rr_e1 (F : Nat) (K : Cont) (s : ByteArray) (lo : List (List AV)) (tk : List (Nat × Nat)) :
 (f11_r0.run F K (Env.mk 132 [(0, .str s), (2, .ptr 0 0), (4, .ptr 1 0), (5, .lg 0 1 lo)]) ⟨[Ob.cells [.int .i64 (0 : Int), .int .i64 (0 : Int), .str (ByteArray.mk #[])], Ob.cells [.int .i64 (3 : Int), .int .i64 (0 : Int), .str (ByteArray.mk #[])]], tk⟩ : Ans) =
 onSome (numsOf lo) none fun (o : List Int) =>
 K AX.normal
 (Env.mk 132
 [(0, AV.str s), (2, AV.ptr 0 0), (4, AV.ptr 1 0)])
 (St.mk
 [Ob.cells [AV.int IntKind.i64 (0 : Int), AV.int IntKind.i64 (0 : Int), AV.str (ByteArray.mk #[])],
 Ob.cells [AV.int IntKind.i64 (3 : Int), AV.int IntKind.i64 (0 : Int), AV.str (textOf o)]]
 tk) := by kernel_rfl

theorem rr_s0 (F : Nat) (K : Cont) (s t : ByteArray) (k n : Int) (tk : List (Nat × Nat)) :
 (f11_s0.run F K (Env.mk 132 [(0, .str s), (2, .ptr 0 0), (3, .dead), (4, .ptr 1 0)]) ⟨[Ob.cells [.int .i64 (0 : Int), .int .i64 (0 : Int), .str (ByteArray.mk #[])], Ob.cells [.int .i64 k, .int .i64 n, .str t]], tk⟩ : Ans) =
 branch
 (AV.bool
 (s.toList ==
 [UInt8.ofNat 102, UInt8.ofNat 97, UInt8.ofNat 108, UInt8.ofNat 115,
 UInt8.ofNat 101]))
 (branch
 (AV.bool
 (s.toList ==
 [UInt8.ofNat 116, UInt8.ofNat 114, UInt8.ofNat 117, UInt8.ofNat 101]))
 (K AX.normal
 (Env.mk 132
 [(0, AV.str s), (2, AV.ptr 0 0), (4, AV.ptr 1 0)])
 (St.mk
 [Ob.cells [AV.int IntKind.i64 (0 : Int), AV.int IntKind.i64 (0 : Int), AV.str (ByteArray.mk #[])],
 Ob.cells [AV.int IntKind.i64 (2 : Int), AV.int IntKind.i64 (1 : Int), AV.str (ByteArray.mk #[])]]
 tk))
 (K AX.normal
 (Env.mk 132
 [(0, AV.str s), (2, AV.ptr 0 0), (4, AV.ptr 1 0)])
 (St.mk
 [Ob.cells [AV.int IntKind.i64 (0 : Int), AV.int IntKind.i64 (0 : Int), AV.str (ByteArray.mk #[])],
 Ob.cells [AV.int IntKind.i64 (2 : Int), AV.int IntKind.i64 (0 : Int), AV.str (ByteArray.mk #[])]]
 tk)))
 (branch
 (AV.bool
 (s.toList ==
 [UInt8.ofNat 116, UInt8.ofNat 114, UInt8.ofNat 117, UInt8.ofNat 101]))
 (branch
 (AV.bool
 (s.toList ==
 [UInt8.ofNat 116, UInt8.ofNat 114, UInt8.ofNat 117, UInt8.ofNat 101]))
 (K AX.normal
 (Env.mk 132
 [(0, AV.str s), (2, AV.ptr 0 0), (4, AV.ptr 1 0)])
 (St.mk
 [Ob.cells [AV.int IntKind.i64 (0 : Int), AV.int IntKind.i64 (0 : Int), AV.str (ByteArray.mk #[])],
 Ob.cells [AV.int IntKind.i64 (2 : Int), AV.int IntKind.i64 (1 : Int), AV.str (ByteArray.mk #[])]]
 tk))
 (K AX.normal
 (Env.mk 132
 [(0, AV.str s), (2, AV.ptr 0 0), (4, AV.ptr 1 0)])
 (St.mk
 [Ob.cells [AV.int IntKind.i64 (0 : Int), AV.int IntKind.i64 (0 : Int), AV.str (ByteArray.mk #[])],
 Ob.cells [AV.int IntKind.i64 (2 : Int), AV.int IntKind.i64 (0 : Int), AV.str (ByteArray.mk #[])]]
 tk)))
 (K AX.normal
 (Env.mk 132
 [(0, AV.str s), (2, AV.ptr 0 0), (4, AV.ptr 1 0)])
 (St.mk
 [Ob.cells [AV.int IntKind.i64 (0 : Int), AV.int IntKind.i64 (0 : Int), AV.str (ByteArray.mk #[])],
 Ob.cells [AV.int IntKind.i64 k, AV.int IntKind.i64 n, AV.str t]]
 tk))) := by kernel_rfl

theorem rr_s1 (F : Nat) (K : Cont) (s t : ByteArray) (k n : Int) (tk : List (Nat × Nat)) :
 (f11_s1.run F K (Env.mk 132 [(0, .str s), (2, .ptr 0 0), (4, .ptr 1 0)]) ⟨[Ob.cells [.int .i64 (0 : Int), .int .i64 (0 : Int), .str (ByteArray.mk #[])], Ob.cells [.int .i64 k, .int .i64 n, .str t]], tk⟩ : Ans) =
 branch (AV.bool (decide ((↑s.size : Int) > (0 : Int))))
 (branch (AV.bool (decide ((↑s.size : Int) ≤ (20 : Int))))
 (branch (AV.bool (inT s (0 : Int)))
 (branch (AV.bool (atT s (0 : Int) == (45 : Int)))
 (branch (AV.bool (okNu s))
 (K AX.normal
 (Env.mk 132
 [(0, AV.str s), (2, AV.ptr 0 0), (4, AV.ptr 1 0)])
 (St.mk
 [Ob.cells [AV.int IntKind.i64 (0 : Int), AV.int IntKind.i64 (0 : Int), AV.str (ByteArray.mk #[])],
 Ob.cells
 [AV.int IntKind.i64 (1 : Int), AV.int IntKind.i64 (opq (nuL (strL s))), AV.str (ByteArray.mk #[])]]
 tk))
 none)
 (branch (AV.bool (inT s (0 : Int)))
 (branch (AV.bool (decide (atT s (0 : Int) ≥ (48 : Int))))
 (branch (AV.bool (inT s (0 : Int)))
 (branch (AV.bool (decide (atT s (0 : Int) ≤ (57 : Int))))
 (branch (AV.bool (okNu s))
 (K AX.normal
 (Env.mk 132
 [(0, AV.str s), (2, AV.ptr 0 0),
 (4, AV.ptr 1 0)])
 (St.mk
 [Ob.cells [AV.int IntKind.i64 (0 : Int), AV.int IntKind.i64 (0 : Int), AV.str (ByteArray.mk #[])],
 Ob.cells
 [AV.int IntKind.i64 (1 : Int), AV.int IntKind.i64 (opq (nuL (strL s))),
 AV.str (ByteArray.mk #[])]]
 tk))
 none)
 (K AX.normal
 (Env.mk 132
 [(0, AV.str s), (2, AV.ptr 0 0),
 (4, AV.ptr 1 0)])
 (St.mk
 [Ob.cells [AV.int IntKind.i64 (0 : Int), AV.int IntKind.i64 (0 : Int), AV.str (ByteArray.mk #[])],
 Ob.cells [AV.int IntKind.i64 k, AV.int IntKind.i64 n, AV.str t]]
 tk)))
 none)
 (K AX.normal
 (Env.mk 132
 [(0, AV.str s), (2, AV.ptr 0 0),
 (4, AV.ptr 1 0)])
 (St.mk
 [Ob.cells [AV.int IntKind.i64 (0 : Int), AV.int IntKind.i64 (0 : Int), AV.str (ByteArray.mk #[])],
 Ob.cells [AV.int IntKind.i64 k, AV.int IntKind.i64 n, AV.str t]]
 tk)))
 none))
 none)
 (K AX.normal
 (Env.mk 132
 [(0, AV.str s), (2, AV.ptr 0 0), (4, AV.ptr 1 0)])
 (St.mk
 [Ob.cells [AV.int IntKind.i64 (0 : Int), AV.int IntKind.i64 (0 : Int), AV.str (ByteArray.mk #[])],
 Ob.cells [AV.int IntKind.i64 k, AV.int IntKind.i64 n, AV.str t]]
 tk)))
 (K AX.normal
 (Env.mk 132
 [(0, AV.str s), (2, AV.ptr 0 0), (4, AV.ptr 1 0)])
 (St.mk
 [Ob.cells [AV.int IntKind.i64 (0 : Int), AV.int IntKind.i64 (0 : Int), AV.str (ByteArray.mk #[])],
 Ob.cells [AV.int IntKind.i64 k, AV.int IntKind.i64 n, AV.str t]]
 tk)) := by kernel_rfl

theorem rr_s2 (F : Nat) (K : Cont) (s t : ByteArray) (k n : Int) (tk : List (Nat × Nat)) :
 (f11_s2.run F K (Env.mk 132 [(0, .str s), (2, .ptr 0 0), (4, .ptr 1 0)]) ⟨[Ob.cells [.int .i64 (0 : Int), .int .i64 (0 : Int), .str (ByteArray.mk #[])], Ob.cells [.int .i64 k, .int .i64 n, .str t]], tk⟩ : Ans) =
 branch
 (AV.bool
 (okSh
 (Va.mk (hdI (List.drop 0 [AV.int IntKind.i64 k, AV.int IntKind.i64 n, AV.str t]))
 (hdI (List.drop 0 [AV.int IntKind.i64 k, AV.int IntKind.i64 n, AV.str t]).tail)
 (hdS (List.drop 0 [AV.int IntKind.i64 k, AV.int IntKind.i64 n, AV.str t]).tail.tail))))
 (branch
 (AV.bool
 !(showV
 (Va.mk (hdI (List.drop 0 [AV.int IntKind.i64 k, AV.int IntKind.i64 n, AV.str t]))
 (hdI (List.drop 0 [AV.int IntKind.i64 k, AV.int IntKind.i64 n, AV.str t]).tail)
 (hdS (List.drop 0 [AV.int IntKind.i64 k, AV.int IntKind.i64 n, AV.str t]).tail.tail))).toList ==
 s.toList)
 (K AX.ret (Env.mk 132 [(2, AV.ptr 0 0), (3, AV.bool false)])
 (St.mk
 [Ob.cells [AV.int IntKind.i64 (0 : Int), AV.int IntKind.i64 (0 : Int), AV.str (ByteArray.mk #[])],
 Ob.cells [AV.int IntKind.i64 k, AV.int IntKind.i64 n, AV.str t]]
 tk))
 (K AX.ret (Env.mk 132 [(2, AV.ptr 0 0), (3, AV.bool true)])
 (St.mk
 [Ob.cells [AV.int IntKind.i64 k, AV.int IntKind.i64 n, AV.str t],
 Ob.cells [AV.int IntKind.i64 k, AV.int IntKind.i64 n, AV.str t]]
 tk)))
 none := by kernel_rfl

end Go.Proofs.YtcfedmheblbdnaaDoor.V

/- Values: the reference's Read: its loop. -/
set_option linter.unusedVariables false
namespace Go.Proofs.YtcfedmheblbdnaaDoor.V
open Go Go.V Go.RowKit

def obZ : Ob := Ob.cells [.int .i64 (0 : Int), .int .i64 (0 : Int), .str (ByteArray.mk #[])]
def ob3 : Ob := Ob.cells [.int .i64 (3 : Int), .int .i64 (0 : Int), .str (ByteArray.mk #[])]
def tA (pre : List Nat) : AV := if pre = [] then .sl 1 true [] else .lg 0 1 (bR pre)
def tT (pre : List Nat) : List (Nat × Nat) := if pre = [] then [] else [(1, (bR pre).length)]
def stA (pre : List Nat) : St := ⟨[obZ, ob3], tT pre⟩
def envA (s : ByteArray) (pre : List Nat) (i : Nat) : Env := Env.mk 132 [(0, .str s), (2, .ptr 0 0), (4, .ptr 1 0), (5, tA pre), (6, .int .i64 (i : Int))]
def envB (s : ByteArray) (pre : List Nat) : Env := Env.mk 132 [(0, .str s), (2, .ptr 0 0), (4, .ptr 1 0), (5, tA pre)]
def envR : Env := Env.mk 132 [(2, .ptr 0 0), (3, .bool false)]
theorem tA_nil : tA [] = .sl 1 true [] := if_pos rfl
theorem tA_cons {pre : List Nat} (h : pre ≠ []) : tA pre = .lg 0 1 (bR pre) := if_neg h
theorem tT_nil : tT [] = [] := if_pos rfl
theorem tT_cons {pre : List Nat} (h : pre ≠ []) : tT pre = [(1, (bR pre).length)] := if_neg h
theorem at_some {s : ByteArray} {i : Nat} {x : Nat} (hx : (strL s)[i]? = some x) : atT s (i : Int) = (x : Int) ∧ inT s (i : Int) = true ∧ x < 256 := by
  have h := at_eq (s := s) rfl hx
  rw [opq_eq] at h; exact h
theorem app1 (pre : List Nat) (x : Nat) : bR pre ++ [[AV.int IntKind.u8 (x : Int)]] = bR (pre ++ [x]) := by rw [bR_append]; rfl
theorem app_len (pre : List Nat) (x : Nat) : (bR pre).length + 1 = (bR (pre ++ [x])).length := by rw [bR_length, bR_length, List.length_append]; rfl
section
variable (F m : Nat) (K : Cont) (s : ByteArray) (i : Nat) (pre : List Nat) (hs : s.size ≤ 1000) (hi : i + 1 < s.size) (hp : pre.length ≤ 1000)
include hs hi hp
omit hp in
theorem w_facts : IntKind.i64.wrap ((s.size : Int) - 1) = ((s.size - 1 : Nat) : Int) ∧ IntKind.i64.wrap ((i : Int) + 1) = ((i + 1 : Nat) : Int) ∧ IntKind.i64.wrap ((i : Int) + 2) = ((i + 2 : Nat) : Int) ∧ IntKind.i64.wrap (((i + 2 : Nat) : Int) + 1) = ((i + 3 : Nat) : Int) := by
  refine ⟨by rw [wrapS (by omega) (by omega)]; omega, by rw [wrapS (by omega) (by omega)]; omega, by rw [wrapS (by omega) (by omega)]; omega, by rw [wrapS (by omega) (by omega)]; omega⟩
theorem rd_plain {x : Nat} (hx : (strL s)[i]? = some x) (h : x ≠ 92) :
    loopRun (f11_l0.run F) [0, 2, 4, 5, 6] K m.succ (envA s pre i) (stA pre) = loopRun (f11_l0.run F) [0, 2, 4, 5, 6] K m (envA s (pre ++ [x]) (i + 1)) (stA (pre ++ [x])) := by
  obtain ⟨w1, w2, w3, w4⟩ := w_facts s i hs hi
  obtain ⟨e1, e2, e3⟩ := at_some hx
  by_cases hpre : pre = []
  · subst hpre
    rw [envA, stA, tA_nil, tT_nil]
    refine (rr_a0 F m K s (i : Int)).trans ?_
    rw [w1, branch_of (decide_eq_true (by omega)), branch_of e2, e1]
    rw [branch_of (show (((x : Nat) : Int) != 92) = true by rw [bne_iff_ne]; omega), branch_of e2, w2, envA, stA, tA_cons (by simp), tT_cons (by simp)]
    rfl
  · rw [envA, stA, tA_cons hpre, tT_cons hpre]
    refine (rr_a1 F m K s (i : Int) (bR pre)).trans ?_
    rw [w1, branch_of (decide_eq_true (by omega)), branch_of e2, e1]
    rw [branch_of (show (((x : Nat) : Int) != 92) = true by rw [bne_iff_ne]; omega), branch_of e2, if_pos ⟨rfl, by rw [bR_length]; omega⟩, app1, app_len, w2, envA, stA, tA_cons (by simp), tT_cons (by simp)]
    rfl
theorem rd_short (hx : (strL s)[i]? = some 92) (h : s.size - 1 ≤ i + 2) :
    loopRun (f11_l0.run F) [0, 2, 4, 5, 6] K m.succ (envA s pre i) (stA pre) = K .ret envR (stA pre) := by
  obtain ⟨w1, w2, w3, w4⟩ := w_facts s i hs hi
  obtain ⟨e1, e2, e3⟩ := at_some hx
  by_cases hpre : pre = []
  · subst hpre
    rw [envA, stA, tA_nil, tT_nil]
    refine (rr_a0 F m K s (i : Int)).trans ?_
    rw [w1, branch_of (decide_eq_true (by omega)), branch_of e2, e1]
    rw [branch_not (show (((92 : Nat) : Int) != 92) = false from rfl), w3, branch_of (decide_eq_true (by omega))]
    rfl
  · rw [envA, stA, tA_cons hpre, tT_cons hpre]
    refine (rr_a1 F m K s (i : Int) (bR pre)).trans ?_
    rw [w1, branch_of (decide_eq_true (by omega)), branch_of e2, e1]
    rw [branch_not (show (((92 : Nat) : Int) != 92) = false from rfl), w3, branch_of (decide_eq_true (by omega))]
    rfl
theorem rd_bad {a b : Nat} (hx : (strL s)[i]? = some 92) (h : i + 2 < s.size - 1) (ha : (strL s)[i + 1]? = some a) (hb : (strL s)[i + 2]? = some b) (hd : digH a < 0 ∨ digH b < 0) :
    loopRun (f11_l0.run F) [0, 2, 4, 5, 6] K m.succ (envA s pre i) (stA pre) = K .ret envR (stA pre) := by
  obtain ⟨w1, w2, w3, w4⟩ := w_facts s i hs hi
  obtain ⟨e1, e2, e3⟩ := at_some hx
  by_cases hpre : pre = []
  · subst hpre
    rw [envA, stA, tA_nil, tT_nil]
    refine (rr_a0 F m K s (i : Int)).trans ?_
    rw [w1, branch_of (decide_eq_true (by omega)), branch_of e2, e1]
    obtain ⟨a1, a2, _⟩ := at_some ha
    obtain ⟨b1, b2, _⟩ := at_some hb
    rw [branch_not (show (((92 : Nat) : Int) != 92) = false from rfl), w3, branch_not (decide_eq_false (by omega)), w2, branch_of a2, branch_of (cdec_iff.mpr (by rw [a1]; omega)), branch_of b2, branch_of (cdec_iff.mpr (by rw [b1]; omega)), branch_of a2, branch_of (cdec_iff.mpr (by rw [a1]; omega)), a1, Int.toNat_natCast]
    by_cases hda : digH a < 0
    · rw [branch_of (decide_eq_true hda)]; rfl
    · rw [branch_not (decide_eq_false hda), branch_of b2, branch_of (cdec_iff.mpr (by rw [b1]; omega)), b1, Int.toNat_natCast, branch_of (decide_eq_true (hd.resolve_left hda))]; rfl
  · rw [envA, stA, tA_cons hpre, tT_cons hpre]
    refine (rr_a1 F m K s (i : Int) (bR pre)).trans ?_
    rw [w1, branch_of (decide_eq_true (by omega)), branch_of e2, e1]
    obtain ⟨a1, a2, _⟩ := at_some ha
    obtain ⟨b1, b2, _⟩ := at_some hb
    rw [branch_not (show (((92 : Nat) : Int) != 92) = false from rfl), w3, branch_not (decide_eq_false (by omega)), w2, branch_of a2, branch_of (cdec_iff.mpr (by rw [a1]; omega)), branch_of b2, branch_of (cdec_iff.mpr (by rw [b1]; omega)), branch_of a2, branch_of (cdec_iff.mpr (by rw [a1]; omega)), a1, Int.toNat_natCast]
    by_cases hda : digH a < 0
    · rw [branch_of (decide_eq_true hda)]; rfl
    · rw [branch_not (decide_eq_false hda), branch_of b2, branch_of (cdec_iff.mpr (by rw [b1]; omega)), b1, Int.toNat_natCast, branch_of (decide_eq_true (hd.resolve_left hda))]; rfl
theorem rd_good {a b : Nat} (hx : (strL s)[i]? = some 92) (h : i + 2 < s.size - 1) (ha : (strL s)[i + 1]? = some a) (hb : (strL s)[i + 2]? = some b) (hda : ¬ digH a < 0) (hdb : ¬ digH b < 0) :
    loopRun (f11_l0.run F) [0, 2, 4, 5, 6] K m.succ (envA s pre i) (stA pre) = loopRun (f11_l0.run F) [0, 2, 4, 5, 6] K m (envA s (pre ++ [(digH a * 16 + digH b).toNat]) (i + 3)) (stA (pre ++ [(digH a * 16 + digH b).toNat])) := by
  obtain ⟨w1, w2, w3, w4⟩ := w_facts s i hs hi
  obtain ⟨e1, e2, e3⟩ := at_some hx
  by_cases hpre : pre = []
  · subst hpre
    rw [envA, stA, tA_nil, tT_nil]
    refine (rr_a0 F m K s (i : Int)).trans ?_
    rw [w1, branch_of (decide_eq_true (by omega)), branch_of e2, e1]
    obtain ⟨a1, a2, _⟩ := at_some ha
    obtain ⟨b1, b2, _⟩ := at_some hb
    obtain ⟨u, hu, hau⟩ := (digH_or (a := a)).resolve_left hda
    obtain ⟨v, hv, hbv⟩ := (digH_or (a := b)).resolve_left hdb
    have e8 : IntKind.u8.wrap (IntKind.i64.wrap (IntKind.i64.wrap ((u : Int) * 16) + (v : Int))) = ((u * 16 + v : Nat) : Int) := by
      rw [wrapS (n := (u : Int) * 16) (by omega) (by omega), wrapS (by omega) (by omega), show (u : Int) * 16 + (v : Int) = ((u * 16 + v : Nat) : Int) by omega]; exact w8 (by omega)
    have e9 : ((u : Int) * 16 + (v : Int)).toNat = u * 16 + v := by omega
    rw [branch_not (show (((92 : Nat) : Int) != 92) = false from rfl), w3, branch_not (decide_eq_false (by omega)), w2, branch_of a2, branch_of (cdec_iff.mpr (by rw [a1]; omega)), branch_of b2, branch_of (cdec_iff.mpr (by rw [b1]; omega)), branch_of a2, branch_of (cdec_iff.mpr (by rw [a1]; omega)), a1, Int.toNat_natCast, branch_not (decide_eq_false hda), branch_of b2, branch_of (cdec_iff.mpr (by rw [b1]; omega)), b1, Int.toNat_natCast, branch_not (decide_eq_false hdb), hau, hbv, e8, e9, w4, envA, stA, tA_cons (by simp), tT_cons (by simp)]
    rfl
  · rw [envA, stA, tA_cons hpre, tT_cons hpre]
    refine (rr_a1 F m K s (i : Int) (bR pre)).trans ?_
    rw [w1, branch_of (decide_eq_true (by omega)), branch_of e2, e1]
    obtain ⟨a1, a2, _⟩ := at_some ha
    obtain ⟨b1, b2, _⟩ := at_some hb
    obtain ⟨u, hu, hau⟩ := (digH_or (a := a)).resolve_left hda
    obtain ⟨v, hv, hbv⟩ := (digH_or (a := b)).resolve_left hdb
    have e8 : IntKind.u8.wrap (IntKind.i64.wrap (IntKind.i64.wrap ((u : Int) * 16) + (v : Int))) = ((u * 16 + v : Nat) : Int) := by
      rw [wrapS (n := (u : Int) * 16) (by omega) (by omega), wrapS (by omega) (by omega), show (u : Int) * 16 + (v : Int) = ((u * 16 + v : Nat) : Int) by omega]; exact w8 (by omega)
    have e9 : ((u : Int) * 16 + (v : Int)).toNat = u * 16 + v := by omega
    rw [branch_not (show (((92 : Nat) : Int) != 92) = false from rfl), w3, branch_not (decide_eq_false (by omega)), w2, branch_of a2, branch_of (cdec_iff.mpr (by rw [a1]; omega)), branch_of b2, branch_of (cdec_iff.mpr (by rw [b1]; omega)), branch_of a2, branch_of (cdec_iff.mpr (by rw [a1]; omega)), a1, Int.toNat_natCast, branch_not (decide_eq_false hda), branch_of b2, branch_of (cdec_iff.mpr (by rw [b1]; omega)), b1, Int.toNat_natCast, branch_not (decide_eq_false hdb), hau, hbv, e8, e9, if_pos ⟨rfl, by rw [bR_length]; omega⟩, app1, app_len, w4, envA, stA, tA_cons (by simp), tT_cons (by simp)]
    rfl
end
theorem rd_stop (F m : Nat) (K : Cont) (s : ByteArray) (i : Nat) (pre : List Nat) (hs : s.size ≤ 1000) (h2 : 2 ≤ s.size) (hi : s.size ≤ i + 1) :
    loopRun (f11_l0.run F) [0, 2, 4, 5, 6] K m.succ (envA s pre i) (stA pre) = K (.exit 0) (envB s pre) (stA pre) := by
  have w1 : IntKind.i64.wrap ((s.size : Int) - 1) = ((s.size - 1 : Nat) : Int) := by rw [wrapS (by omega) (by omega)]; omega
  by_cases hpre : pre = []
  · subst hpre
    rw [envA, envB, stA, tA_nil, tT_nil]
    refine (rr_a0 F m K s (i : Int)).trans ?_
    rw [w1, branch_not (decide_eq_false (by omega))]; rfl
  · rw [envA, envB, stA, tA_cons hpre, tT_cons hpre]
    refine (rr_a1 F m K s (i : Int) (bR pre)).trans ?_
    rw [w1, branch_not (decide_eq_false (by omega))]; rfl
/-- The loop over what stands between the quotes. -/
theorem rd_loop (F : Nat) (K : Cont) (s : ByteArray) (hs : s.size ≤ 1000) (h2 : 2 ≤ s.size) : ∀ (fuel i m : Nat) (M pre : List Nat), M = ((strL s).take (s.size - 1)).drop i → i + 1 ≤ s.size → M.length < fuel → M.length < m → pre.length + M.length ≤ 1000 →
    (∀ r, unqF fuel M = some r → loopRun (f11_l0.run F) [0, 2, 4, 5, 6] K m (envA s pre i) (stA pre) = K (.exit 0) (envB s (pre ++ r)) (stA (pre ++ r)))
    ∧ (unqF fuel M = none → ∃ pre', loopRun (f11_l0.run F) [0, 2, 4, 5, 6] K m (envA s pre i) (stA pre) = K .ret envR (stA pre'))
  | 0, i, m, M, pre, _, _, h, _, _ => by omega
  | fuel + 1, i, 0, M, pre, _, _, _, h, _ => by omega
  | fuel + 1, i, m + 1, M, pre, hM, hi, hf, hm, hp => by
    have hsz := strL_size s
    have hlen : M.length = s.size - 1 - i := by rw [hM, List.length_drop, List.length_take]; omega
    have hget : ∀ j, j < M.length → M[j]? = (strL s)[i + j]? := fun j hj => by rw [hM, List.getElem?_drop, List.getElem?_take, if_pos (by omega)]
    have hdrop : ∀ j, M.drop j = ((strL s).take (s.size - 1)).drop (i + j) := fun j => by rw [hM, List.drop_drop]
    rw [show m + 1 = m.succ from rfl]
    cases M with
    | nil =>
      rw [List.length_nil] at hlen
      constructor
      · intro r hr
        have : r = [] := by rw [unqF] at hr; exact (Option.some.inj hr).symm
        subst this
        rw [rd_stop F m K s i pre hs h2 (by omega), List.append_nil]
      · intro h; rw [unqF] at h; cases h
    | cons c M1 =>
      rw [List.length_cons] at hlen hf hm hp
      have hx : (strL s)[i]? = some c := by have := hget 0 (by simp); rw [Nat.add_zero] at this; rw [← this]; rfl
      by_cases hc : c = 92
      · subst hc
        cases M1 with
        | nil =>
          rw [List.length_nil] at hlen
          have hu : unqF (fuel + 1) [92] = none := rfl
          refine ⟨fun r hr => (by rw [hu] at hr; cases hr), fun _ => ⟨pre, rd_short F m K s i pre hs (by omega) (by omega) hx (by omega)⟩⟩
        | cons a M2 =>
          cases M2 with
          | nil =>
            simp only [List.length_cons, List.length_nil] at hlen
            have hu : unqF (fuel + 1) [92, a] = none := rfl
            refine ⟨fun r hr => (by rw [hu] at hr; cases hr), fun _ => ⟨pre, rd_short F m K s i pre hs (by omega) (by omega) hx (by omega)⟩⟩
          | cons b M3 =>
            simp only [List.length_cons] at hlen hf hm hp
            have ha : (strL s)[i + 1]? = some a := by rw [← hget 1 (by simp)]; rfl
            have hb : (strL s)[i + 2]? = some b := by rw [← hget 2 (by simp)]; rfl
            have hu : unqF (fuel + 1) (92 :: a :: b :: M3) = (bif negI (digH a) || negI (digH b) then none else (unqF fuel M3).map fun r => (digH a * 16 + digH b).toNat :: r) := rfl
            by_cases hd : digH a < 0 ∨ digH b < 0
            · have hu2 : unqF (fuel + 1) (92 :: a :: b :: M3) = none := by
                rw [hu, show (negI (digH a) || negI (digH b)) = true by rw [Bool.or_eq_true]; exact hd.imp (fun h => decide_eq_true h) (fun h => decide_eq_true h), cond_true]
              exact ⟨fun r hr => (by rw [hu2] at hr; cases hr), fun _ => ⟨pre, rd_bad F m K s i pre hs (by omega) (by omega) hx (by omega) ha hb hd⟩⟩
            · have hda : ¬ digH a < 0 := fun h => hd (.inl h)
              have hdb : ¬ digH b < 0 := fun h => hd (.inr h)
              rw [hu, show (negI (digH a) || negI (digH b)) = false by rw [Bool.or_eq_false_iff]; exact ⟨decide_eq_false hda, decide_eq_false hdb⟩, cond_false, rd_good F m K s i pre hs (by omega) (by omega) hx (by omega) ha hb hda hdb]
              obtain ⟨k1, k2⟩ := rd_loop F K s hs h2 fuel (i + 3) m M3 (pre ++ [(digH a * 16 + digH b).toNat]) (by rw [← hdrop 3]; rfl) (by omega) (by omega) (by omega) (by rw [List.length_append]; simp; omega)
              constructor
              · intro r hr
                obtain ⟨r', hr', rfl⟩ := Option.map_eq_some_iff.mp hr
                rw [k1 r' hr', List.append_assoc]; rfl
              · intro h
                exact k2 (Option.map_eq_none_iff.mp h)
      · have hu : unqF (fuel + 1) (c :: M1) = (unqF fuel M1).map fun r => c :: r := by
          show (match Nat.beq c 92 with | true => _ | false => Option.map (fun r => c :: r) (unqF fuel M1)) = _
          rw [show Nat.beq c 92 = false by rw [Bool.eq_false_iff, ne_eq, Nat.beq_eq]; exact hc]
        rw [hu, rd_plain F m K s i pre hs (by omega) (by omega) hx hc]
        obtain ⟨k1, k2⟩ := rd_loop F K s hs h2 fuel (i + 1) m M1 (pre ++ [c]) (by rw [← hdrop 1]; rfl) (by omega) (by omega) (by omega) (by rw [List.length_append]; simp; omega)
        constructor
        · intro r hr
          obtain ⟨r', hr', rfl⟩ := Option.map_eq_some_iff.mp hr
          rw [k1 r' hr', List.append_assoc]; rfl
        · intro h
          exact k2 (Option.map_eq_none_iff.mp h)
end Go.Proofs.YtcfedmheblbdnaaDoor.V

/- Values: the reference's Read, as a callee. -/
set_option linter.unusedVariables false
namespace Go.Proofs.YtcfedmheblbdnaaDoor.V
open Go Go.V Go.RowKit

theorem wrap_rng (x : Int) : -9223372036854775808 ≤ IntKind.i64.wrap x ∧ IntKind.i64.wrap x ≤ 9223372036854775807 := by
  unfold IntKind.wrap
  simp only [IntKind.signed, IntKind.bits]
  simp
  omega
theorem nuF_rng : ∀ (L : List Nat) (n : Int), -9223372036854775808 ≤ n → n ≤ 9223372036854775807 → -9223372036854775808 ≤ nuF L n ∧ nuF L n ≤ 9223372036854775807
  | [], n, h1, h2 => ⟨h1, h2⟩
  | c :: r, n, h1, h2 => by
    rw [nuF]
    split
    · exact nuF_rng r _ (wrap_rng _).1 (wrap_rng _).2
    · exact nuF_rng r _ h1 h2
theorem nuL_rng (L : List Nat) : -9223372036854775808 ≤ nuL L ∧ nuL L ≤ 9223372036854775807 := by
  unfold nuL
  split
  · exact nuF_rng L 0 (by decide) (by decide)
  · exact wrap_rng _
def numLike : List Nat → Bool
  | [] => false
  | c :: r => decide (r.length + 1 ≤ 20) && (decide (c = 45) || (decide (48 ≤ c) && decide (c ≤ 57)))
def boolV (L : List Nat) (v : Va) : Va := if L = lFalse then ⟨2, 0, ByteArray.mk #[]⟩ else if L = lTrue then ⟨2, 1, ByteArray.mk #[]⟩ else v
def numV (L : List Nat) (v : Va) : Va := if numLike L = true then ⟨1, nuL L, ByteArray.mk #[]⟩ else v
noncomputable def lastV (s : ByteArray) (v : Va) : Va × Bool := if showV v = s then (v, true) else (vaZ, false)
def quoLike (L : List Nat) : Bool := decide (2 ≤ L.length) && (decide (L[0]? = some 34) && decide (L[L.length - 1]? = some 34))
def midL (L : List Nat) : Option Va := if quoLike L = true then (unqL ((L.take (L.length - 1)).drop 1)).map fun r => ⟨3, 0, txt r⟩ else some ⟨3, 0, ByteArray.mk #[]⟩
noncomputable def refL (s : ByteArray) : Va × Bool := if strL s = lNull then (vaZ, true) else match midL (strL s) with
  | none => (vaZ, false)
  | some v => lastV s (numV (strL s) (boolV (strL s) v))
def obV (v : Va) : Ob := Ob.cells [.int .i64 v.k, .int .i64 v.n, .str v.s]
def env4 (s : ByteArray) : Env := Env.mk 132 [(0, .str s), (2, .ptr 0 0), (4, .ptr 1 0)]
noncomputable def rK : Cont := f11.leaveK Fun.done
def Rng (v : Va) : Prop := -9223372036854775808 ≤ v.n ∧ v.n ≤ 9223372036854775807 ∧ v.s.size ≤ 1000
theorem s2_ok (F : Nat) (s : ByteArray) (v : Va) (h : Rng v) (tk : List (Nat × Nat)) : ∃ st', f11_s2.run F rK (env4 s) ⟨[obZ, obV v], tk⟩ = some (.ret (vaA (lastV s v)), st') := by
  have e := rr_s2 F rK s v.s v.k v.n tk
  have e' : f11_s2.run F rK (env4 s) ⟨[obZ, obV v], tk⟩ = _ := e
  rw [e', lastV]
  refine gets_of (show okSh v = true from cdec_iff.mpr h) ?_
  by_cases h3 : showV v = s
  · rw [if_pos h3]
    refine gets_not (show (!((showV v).toList == s.toList)) = false by rw [h3]; simp) ?_
    exact ⟨_, rr_nend s true v.k v.n v.s _ tk⟩
  · rw [if_neg h3]
    refine gets_of (show (!((showV v).toList == s.toList)) = true by rw [str_ne h3]; rfl) ?_
    exact ⟨_, rr_nend s false 0 0 (ByteArray.mk #[]) _ tk⟩
theorem num_rng {v : Va} (L : List Nat) (h : Rng v) : Rng (numV L v) := by
  unfold numV
  split
  · exact ⟨(nuL_rng L).1, (nuL_rng L).2, show (ByteArray.mk #[]).size ≤ 1000 by decide⟩
  · exact h
theorem bool_rng {v : Va} (L : List Nat) (h : Rng v) : Rng (boolV L v) := by
  unfold boolV
  split
  · exact ⟨show (-9223372036854775808 : Int) ≤ 0 by decide, show (0 : Int) ≤ 9223372036854775807 by decide, show (ByteArray.mk #[]).size ≤ 1000 by decide⟩
  · split
    · exact ⟨show (-9223372036854775808 : Int) ≤ 1 by decide, show (1 : Int) ≤ 9223372036854775807 by decide, show (ByteArray.mk #[]).size ≤ 1000 by decide⟩
    · exact h
theorem s1_ok (F : Nat) (s : ByteArray) (hs : s.size ≤ 1000) (v : Va) (h : Rng v) (tk : List (Nat × Nat)) : ∃ st', f11_s1.run F (Cont.then (f11_s2.run F rK) rK) (env4 s) ⟨[obZ, obV v], tk⟩ = some (.ret (vaA (lastV s (numV (strL s) v))), st') := by
  have hsz := strL_size s
  have e' : f11_s1.run F (Cont.then (f11_s2.run F rK) rK) (env4 s) ⟨[obZ, obV v], tk⟩ = _ := rr_s1 F (Cont.then (f11_s2.run F rK) rK) s v.s v.k v.n tk
  have hn := num_rng (strL s) h
  have go := s2_ok F s (numV (strL s) v) hn tk
  rw [e', opq_eq]
  cases hl : strL s with
  | nil =>
    rw [hl, List.length_nil] at hsz
    rw [hl] at go
    exact gets_not (decide_eq_false (by omega)) go
  | cons c r =>
    rw [hl, List.length_cons] at hsz
    obtain ⟨t1, t2, _, _⟩ := tail_text hl
    rw [hl] at go
    refine gets_of (decide_eq_true (by omega)) ?_
    by_cases h20 : r.length + 1 ≤ 20
    · refine gets_of (decide_eq_true (by omega)) (gets_of t1 ?_)
      rw [t2]
      have ok : okNu s = true := cdec_iff.mpr ⟨by omega, hs⟩
      by_cases h45 : c = 45
      · refine gets_of (by rw [h45]; rfl) (gets_of ok ?_)
        rw [numV, if_pos (by rw [numLike, decide_eq_true h20, decide_eq_true h45]; rfl)] at go ⊢
        exact go
      · refine gets_not (show (((c : Nat) : Int) == 45) = false by rw [beq_eq_false_iff_ne]; omega) (gets_of t1 ?_)
        by_cases h48 : 48 ≤ c
        · refine gets_of (decide_eq_true (by omega)) (gets_of t1 ?_)
          by_cases h57 : c ≤ 57
          · refine gets_of (decide_eq_true (by omega)) (gets_of ok ?_)
            rw [numV, if_pos (by rw [numLike, decide_eq_true h20, decide_eq_true h48, decide_eq_true h57]; simp)] at go ⊢
            exact go
          · refine gets_not (decide_eq_false (by omega)) ?_
            rw [numV, if_neg (by rw [numLike, decide_eq_false h57, decide_eq_false h45]; simp)] at go ⊢
            exact go
        · refine gets_not (decide_eq_false (by omega)) ?_
          rw [numV, if_neg (by rw [numLike, decide_eq_false h48, decide_eq_false h45]; simp)] at go ⊢
          exact go
    · refine gets_not (decide_eq_false (by omega)) ?_
      rw [numV, if_neg (by rw [numLike, decide_eq_false h20]; simp)] at go ⊢
      exact go
theorem r1_ok (F : Nat) (s : ByteArray) (hs : s.size ≤ 1000) (v : Va) (h : Rng v) (tk : List (Nat × Nat)) : ∃ st', f11_r1.run F rK (Env.mk 132 [(0, .str s), (2, .ptr 0 0), (3, .dead), (4, .ptr 1 0)]) ⟨[obZ, obV v], tk⟩ = some (.ret (vaA (lastV s (numV (strL s) (boolV (strL s) v)))), st') := by
  have e' : f11_r1.run F rK (Env.mk 132 [(0, .str s), (2, .ptr 0 0), (3, .dead), (4, .ptr 1 0)]) ⟨[obZ, obV v], tk⟩ = _ :=
    rr_s0 F (Cont.then (Sim.run (Sim.seq f11_s1 f11_s2) F rK) rK) s v.s v.k v.n tk
  have go := s1_ok F s hs (boolV (strL s) v) (bool_rng (strL s) h) tk
  rw [e', show (s.toList == [UInt8.ofNat 102, UInt8.ofNat 97, UInt8.ofNat 108, UInt8.ofNat 115, UInt8.ofNat 101]) = decide (strL s = lFalse) from toL_eq s (l := lFalse) (by decide),
    show (s.toList == [UInt8.ofNat 116, UInt8.ofNat 114, UInt8.ofNat 117, UInt8.ofNat 101]) = decide (strL s = lTrue) from toL_eq s (l := lTrue) (by decide)]
  unfold boolV at go ⊢
  by_cases h1 : strL s = lFalse
  · rw [if_pos h1] at go ⊢
    refine gets_of (decide_eq_true h1) (gets_not (decide_eq_false (by rw [h1]; decide)) ?_)
    exact go
  · rw [if_neg h1] at go ⊢
    refine gets_not (decide_eq_false h1) ?_
    by_cases h2 : strL s = lTrue
    · rw [if_pos h2] at go ⊢
      exact gets_of (decide_eq_true h2) (gets_of (decide_eq_true h2) go)
    · rw [if_neg h2] at go ⊢
      exact gets_not (decide_eq_false h2) go
end Go.Proofs.YtcfedmheblbdnaaDoor.V

/- Values: the reference's Read, as a callee (end). -/
set_option linter.unusedVariables false
namespace Go.Proofs.YtcfedmheblbdnaaDoor.V
open Go Go.V Go.RowKit

noncomputable def qL (s : ByteArray) : Va × Bool := match midL (strL s) with
  | none => (vaZ, false)
  | some v => lastV s (numV (strL s) (boolV (strL s) v))
theorem gets_eq {A B : Ans} {r : AV} (h : A = B) (k : ∃ st', B = some (.ret r, st')) : ∃ st', A = some (.ret r, st') := h ▸ k
theorem rng3 {t : ByteArray} (h : t.size ≤ 1000) : Rng ⟨3, 0, t⟩ := ⟨show (-9223372036854775808 : Int) ≤ 0 by decide, show (0 : Int) ≤ 9223372036854775807 by decide, h⟩
theorem unqF_bound : ∀ (n : Nat) (l r : List Nat), (∀ b ∈ l, b < 256) → unqF n l = some r → r.length ≤ l.length ∧ ∀ b ∈ r, b < 256
  | 0, l, r, _, h => by rw [unqF] at h; cases h
  | n + 1, [], r, _, h => by
    have : r = [] := (Option.some.inj (show some [] = some r from h)).symm
    subst this; exact ⟨Nat.le_refl _, by simp⟩
  | n + 1, c :: s, r, hb, h => by
    by_cases hc : c = 92
    · subst hc
      match s, h with
      | [], h => cases (show none = some r from h)
      | [a], h => cases (show none = some r from h)
      | a :: b :: s', h =>
        have hu : unqF (n + 1) (92 :: a :: b :: s') = (bif negI (digH a) || negI (digH b) then none else (unqF n s').map fun r => (digH a * 16 + digH b).toNat :: r) := rfl
        rw [hu] at h
        by_cases hd : digH a < 0 ∨ digH b < 0
        · rw [show (negI (digH a) || negI (digH b)) = true by rw [Bool.or_eq_true]; exact hd.imp (fun h => decide_eq_true h) (fun h => decide_eq_true h), cond_true] at h
          cases h
        · have hda : ¬ digH a < 0 := fun h => hd (.inl h)
          have hdb : ¬ digH b < 0 := fun h => hd (.inr h)
          rw [show (negI (digH a) || negI (digH b)) = false by rw [Bool.or_eq_false_iff]; exact ⟨decide_eq_false hda, decide_eq_false hdb⟩, cond_false] at h
          obtain ⟨r', hr', rfl⟩ := Option.map_eq_some_iff.mp h
          obtain ⟨k1, k2⟩ := unqF_bound n s' r' (fun b' hb' => hb b' (by simp [hb'])) hr'
          obtain ⟨u, hu, hau⟩ := (digH_or (a := a)).resolve_left hda
          obtain ⟨v, hv, hbv⟩ := (digH_or (a := b)).resolve_left hdb
          refine ⟨by simp only [List.length_cons]; omega, fun x hx => ?_⟩
          rcases List.mem_cons.mp hx with rfl | hx
          · rw [hau, hbv]; omega
          · exact k2 x hx
    · have hu : unqF (n + 1) (c :: s) = (unqF n s).map fun r => c :: r := by
        show (match Nat.beq c 92 with | true => _ | false => Option.map (fun r => c :: r) (unqF n s)) = _
        rw [show Nat.beq c 92 = false by rw [Bool.eq_false_iff, ne_eq, Nat.beq_eq]; exact hc]
      rw [hu] at h
      obtain ⟨r', hr', rfl⟩ := Option.map_eq_some_iff.mp h
      obtain ⟨k1, k2⟩ := unqF_bound n s r' (fun b' hb' => hb b' (by simp [hb'])) hr'
      refine ⟨by simp only [List.length_cons]; omega, fun x hx => ?_⟩
      rcases List.mem_cons.mp hx with rfl | hx
      · exact hb _ (by simp)
      · exact k2 x hx
theorem txt_size {l : List Nat} (h : ∀ b ∈ l, b < 256) : (txt l).size = l.length := by rw [strL_size, strL_txt h]
theorem q_ok (F : Nat) (hF : 1002 ≤ F) (s : ByteArray) (hs : s.size ≤ 1000) : ∃ st', f11_q.run F (Cont.then (f11_r1.run F rK) rK) (env4 s) ⟨[obZ, ob3], []⟩ = some (.ret (vaA (qL s)), st') := by
  have hsz := strL_size s
  have e' : f11_q.run F (Cont.then (f11_r1.run F rK) rK) (env4 s) ⟨[obZ, ob3], []⟩ = _ := rr_q F (Cont.then (f11_r1.run F rK) rK) s
  have plain : quoLike (strL s) = false → ∃ st', f11_r1.run F rK (Env.mk 132 [(0, .str s), (2, .ptr 0 0), (3, .dead), (4, .ptr 1 0)]) ⟨[obZ, ob3], []⟩ = some (.ret (vaA (qL s)), st') := by
    intro hq
    have := r1_ok F s hs ⟨3, 0, ByteArray.mk #[]⟩ (rng3 (by decide)) []
    rw [qL, midL, if_neg (by rw [hq]; simp)]
    exact this
  rw [e']
  by_cases h2 : 2 ≤ s.size
  · refine gets_of (decide_eq_true (by omega)) ?_
    obtain ⟨c, hc⟩ : ∃ c, (strL s)[0]? = some c := ⟨_, List.getElem?_eq_getElem (by omega)⟩
    obtain ⟨d, hd⟩ : ∃ d, (strL s)[s.size - 1]? = some d := ⟨_, List.getElem?_eq_getElem (by omega)⟩
    have c1 := at_some hc
    have d1 := at_some hd
    rw [show ((0 : Nat) : Int) = 0 from rfl] at c1
    have w1 : IntKind.i64.wrap ((s.size : Int) - 1) = ((s.size - 1 : Nat) : Int) := by rw [wrapS (by omega) (by omega)]; omega
    rw [w1, c1.1, d1.1]
    refine gets_of c1.2.1 ?_
    by_cases h34 : c = 34
    · refine gets_of (by rw [h34]; rfl) (gets_of d1.2.1 ?_)
      by_cases g34 : d = 34
      · refine gets_of (by rw [g34]; rfl) ?_
        have hq : quoLike (strL s) = true := by
          rw [quoLike, decide_eq_true (show 2 ≤ (strL s).length by omega), decide_eq_true (show (strL s)[0]? = some 34 by rw [hc, h34]), decide_eq_true (show (strL s)[(strL s).length - 1]? = some 34 by rw [← hsz, hd, g34])]; rfl
        have hlen : (((strL s).take (s.size - 1)).drop 1).length = s.size - 2 := by rw [List.length_drop, List.length_take]; omega
        obtain ⟨k1, k2⟩ := rd_loop F (Cont.block 0 (Cont.then (f11_r0.run F (Cont.norm [0, 2, 3, 4] (Cont.then (f11_r1.run F rK) rK))) (Cont.norm [0, 2, 3, 4] (Cont.then (f11_r1.run F rK) rK)))) s hs h2
          (s.size - 2 + 1) 1 F (((strL s).take (s.size - 1)).drop 1) [] rfl (by omega) (by omega) (by omega) (by simp; omega)
        have est : (envA s [] 1) = Env.mk 132 [(0, .str s), (2, .ptr 0 0), (4, .ptr 1 0), (5, .sl 1 true []), (6, .int .i64 (1 : Int))] := by rw [envA, tA_nil]; rfl
        have sst : stA [] = ⟨[obZ, ob3], []⟩ := by rw [stA, tT_nil]
        rw [est, sst] at k1 k2
        have hun : unqL ((strL s).take ((strL s).length - 1) |>.drop 1) = unqF (s.size - 2 + 1) (((strL s).take (s.size - 1)).drop 1) := by
          rw [← hsz, unqL, hlen]
        cases hu : unqF (s.size - 2 + 1) (((strL s).take (s.size - 1)).drop 1) with
        | none =>
          obtain ⟨pre', h'⟩ := k2 hu
          refine gets_eq h' ?_
          rw [qL, midL, if_pos hq, hun, hu]
          exact ⟨_, rr_nend3 s false 0 0 (ByteArray.mk #[]) [ob3] (tT pre')⟩
        | some r =>
          have hb : ∀ b ∈ ((strL s).take (s.size - 1)).drop 1, b < 256 := fun b hb => strL_lt s b (List.mem_of_mem_take (List.mem_of_mem_drop hb))
          obtain ⟨r1, r2⟩ := unqF_bound _ _ r hb hu
          have h' := k1 r hu
          rw [List.nil_append] at h'
          have hx := r1_ok F s hs ⟨3, 0, txt r⟩ (rng3 (by rw [txt_size r2]; omega)) (tT r)
          rw [qL, midL, if_pos hq, hun, hu]
          obtain ⟨st', hx⟩ := hx
          refine ⟨st', h'.trans (Eq.trans ?_ hx)⟩
          by_cases hr : r = []
          · subst hr
            rw [envB, tA_nil, stA, tT_nil]
            exact rr_e0 F _ s
          · rw [envB, tA_cons hr, stA]
            refine (rr_e1 F _ s (bR r) (tT r)).trans ?_
            rw [text_rows r2, onSome_some]; rfl
      · refine gets_not (show (((d : Nat) : Int) == 34) = false by rw [beq_eq_false_iff_ne]; omega) (plain ?_)
        rw [quoLike, decide_eq_false (show ¬ (strL s)[(strL s).length - 1]? = some 34 by rw [← hsz, hd]; intro e; exact g34 (Option.some.inj e))]; simp
    · refine gets_not (show (((c : Nat) : Int) == 34) = false by rw [beq_eq_false_iff_ne]; omega) (plain ?_)
      rw [quoLike, decide_eq_false (show ¬ (strL s)[0]? = some 34 by rw [hc]; intro e; exact h34 (Option.some.inj e))]; simp
  · refine gets_not (decide_eq_false (by omega)) (plain ?_)
    rw [quoLike, decide_eq_false (by omega)]; rfl
theorem ref_eq (s : ByteArray) (hs : s.size ≤ 1000) : ∃ st', f11.run 1002 [.str s] ⟨[], []⟩ = some (.ret (vaA (refL s)), st') := by
  have e0 : f11.run 1002 [.str s] ⟨[], []⟩ = f11_a.run 1002 (Cont.then (Sim.run (Sim.seq f11_n (Sim.seq f11_c (Sim.seq f11_q f11_r1))) 1002 rK) rK) (Env.mk 132 [(0, .str s)]) ⟨[], []⟩ := rfl
  have e1 : f11_a.run 1002 (Cont.then (Sim.run (Sim.seq f11_n (Sim.seq f11_c (Sim.seq f11_q f11_r1))) 1002 rK) rK) (Env.mk 132 [(0, .str s)]) ⟨[], []⟩
      = f11_n.run 1002 (Cont.then (Sim.run (Sim.seq f11_c (Sim.seq f11_q f11_r1)) 1002 rK) rK) (Env.mk 132 [(0, .str s), (2, .ptr 0 0)]) ⟨[obZ], []⟩ := rr_a 1002 _ s
  have e2 := rr_n 1002 (Cont.then (Sim.run (Sim.seq f11_c (Sim.seq f11_q f11_r1)) 1002 rK) rK) s
  have e3 : Cont.then (Sim.run (Sim.seq f11_c (Sim.seq f11_q f11_r1)) 1002 rK) rK .normal (Env.mk 132 [(0, .str s), (2, .ptr 0 0), (3, .dead)]) ⟨[obZ], []⟩
      = f11_q.run 1002 (Cont.then (f11_r1.run 1002 rK) rK) (env4 s) ⟨[obZ, ob3], []⟩ := rr_c 1002 (Cont.then (Sim.run (Sim.seq f11_q f11_r1) 1002 rK) rK) s
  rw [e0, e1]
  have e2' : f11_n.run 1002 (Cont.then (Sim.run (Sim.seq f11_c (Sim.seq f11_q f11_r1)) 1002 rK) rK) (Env.mk 132 [(0, .str s), (2, .ptr 0 0)]) ⟨[obZ], []⟩ = _ := e2
  rw [e2', show (s.toList == [UInt8.ofNat 110, UInt8.ofNat 117, UInt8.ofNat 108, UInt8.ofNat 108]) = decide (strL s = lNull) from toL_eq s (l := lNull) (by decide), refL]
  by_cases h : strL s = lNull
  · rw [if_pos h]
    exact gets_of (decide_eq_true h) ⟨_, rr_nend2 s true 0 0 (ByteArray.mk #[]) [] []⟩
  · rw [if_neg h]
    refine gets_not (decide_eq_false h) ?_
    obtain ⟨st', hq⟩ := q_ok 1002 (by omega) s hs
    exact ⟨st', e3.trans hq⟩
noncomputable def p11 : POrc Tryd.prog := f11.seenAs dec1s (fun s => [.str s]) dec1s_enc (fun s => cdec (s.size ≤ 1000)) (fun s => vaA (refL s)) fun s h => by
  obtain ⟨st', h⟩ := ref_eq s (cdec_iff.mp h)
  exact ⟨⟨trivial, trivial⟩, _, 1002, _, st', va_frz _, va_scoped _, h, fun g w v hv => hv⟩
end Go.Proofs.YtcfedmheblbdnaaDoor.V

/- Values: both Reads answer alike (plain law). -/
set_option linter.unusedVariables false
namespace Go.Proofs.YtcfedmheblbdnaaDoor.V
open Go Go.V Go.RowKit

theorem nil_of_toList {s : ByteArray} (h : (s.toList == []) = true) : s = ByteArray.mk #[] := by
  rw [empty_iff, decide_eq_true_eq] at h
  exact strL_inj (h.trans rfl)
/-- The four kinds of right values. -/
theorem right_kinds {v : Va} (h : rightV v = true) : v = vaZ ∨ v = ⟨1, v.n, ByteArray.mk #[]⟩ ∨ v = ⟨2, 0, ByteArray.mk #[]⟩ ∨ v = ⟨2, 1, ByteArray.mk #[]⟩ ∨ v = ⟨3, 0, v.s⟩ := by
  obtain ⟨k, n, s⟩ := v
  unfold rightV at h
  simp only at h ⊢
  cases h0 : k == 0 with
  | true =>
    rw [h0, cond_true, Bool.and_eq_true] at h
    left
    rw [beq_iff_eq] at h0
    rw [vaZ, h0, beq_iff_eq.mp h.1, nil_of_toList h.2]
  | false =>
    rw [h0, cond_false] at h
    cases h1 : k == 1 with
    | true => rw [h1, cond_true] at h; rw [beq_iff_eq] at h1; right; left; rw [h1, nil_of_toList h]
    | false =>
      rw [h1, cond_false] at h
      cases h2 : k == 2 with
      | true =>
        rw [h2, cond_true, Bool.and_eq_true, Bool.or_eq_true] at h
        rw [beq_iff_eq] at h2
        right; right
        rcases h.2 with h3 | h3
        · left; rw [h2, beq_iff_eq.mp h3, nil_of_toList h.1]
        · right; left; rw [h2, beq_iff_eq.mp h3, nil_of_toList h.1]
      | false =>
        rw [h2, cond_false] at h
        cases h3 : k == 3 with
        | true =>
          rw [h3, cond_true, Bool.and_eq_true, beq_iff_eq] at h
          rw [beq_iff_eq] at h3
          right; right; right; right; rw [h3, h.1]
        | false => rw [h3] at h; simp at h
theorem qtL_lt (s : ByteArray) : ∀ b ∈ qtL (strL s), b < 256 := by
  intro b hb
  rcases List.mem_cons.mp hb with rfl | hb
  · omega
  · rcases List.mem_append.mp hb with hb | hb
    · obtain ⟨x, hx, hb⟩ := List.mem_flatMap.mp hb
      exact encQ_lt (strL_lt _ _ hx) b hb
    · simp at hb; omega
theorem numL_head {i : Int} (h1 : -9223372036854775808 ≤ i) (h2 : i ≤ 9223372036854775807) : (∃ c r, numL i = c :: r ∧ (c = 45 ∨ 48 ≤ c ∧ c ≤ 57)) ∧ (numL i).length ≤ 20 ∧ ∀ b ∈ numL i, b < 256 := by
  have dl : ∀ U : Nat, U ≤ 9223372036854775808 → (dec U).length ≤ 19 ∧ ∀ b ∈ dec U, b < 256 := by
    intro U hU
    unfold dec
    by_cases hz : U = 0
    · subst hz; simp
    · obtain ⟨k1, k2, k3, k4⟩ := ndN_spec hz (by omega)
      rw [if_neg hz]
      refine ⟨?_, ?_⟩
      · rw [digs, List.length_map, List.length_range]
        rcases Nat.lt_or_ge (ndN U) 20 with h | h
        · omega
        · exfalso
          have : (10 : Nat) ^ 19 ≤ 10 ^ (ndN U - 1) := Nat.pow_le_pow_right (by omega) (by omega)
          have h19 : (10 : Nat) ^ 19 = 10000000000000000000 := by decide
          omega
      · intro b hb
        obtain ⟨j, _, rfl⟩ := List.mem_map.mp hb
        omega
  unfold numL
  by_cases hn : i < 0
  · rw [if_pos hn]
    obtain ⟨d1, d2⟩ := dl (-i).toNat (by omega)
    refine ⟨⟨45, _, rfl, .inl rfl⟩, by rw [List.length_cons]; omega, fun b hb => ?_⟩
    rcases List.mem_cons.mp hb with rfl | hb
    · omega
    · exact d2 b hb
  · rw [if_neg hn]
    obtain ⟨d1, d2⟩ := dl i.toNat (by omega)
    obtain ⟨_, c, r, e, hc⟩ := dec_puL (U := i.toNat) (by omega)
    exact ⟨⟨c, r, e, .inr hc⟩, by omega, d2⟩
theorem par_num {i : Int} (h1 : -9223372036854775808 ≤ i) (h2 : i ≤ 9223372036854775807) : parL (numL i) = (⟨1, i, ByteArray.mk #[]⟩, true) := by
  obtain ⟨⟨c, r, e, hc⟩, _, _⟩ := numL_head h1 h2
  have hp := piF_num h1 h2
  rw [e] at hp ⊢
  rw [parL, if_neg (by omega), restP, if_neg (by intro h; have := (List.cons.inj h).1; omega), if_neg (by intro h; have := (List.cons.inj h).1; omega), if_neg (by intro h; have := (List.cons.inj h).1; omega), hp, if_pos rfl]
theorem flat_take (l : List Nat) : (l ++ [34]).take ((l ++ [34]).length - 1) = l ∧ (l ++ [34]).drop ((l ++ [34]).length - 1) = [34] := by
  have : (l ++ [34]).length - 1 = l.length := by simp
  rw [this]
  exact ⟨List.take_left, List.drop_left⟩
theorem par_qt (s : ByteArray) : parL (qtL (strL s)) = (⟨3, 0, s⟩, true) := by
  obtain ⟨t1, t2⟩ := flat_take ((strL s).flatMap encQ)
  rw [qtL, parL, if_pos rfl, t1, t2, if_pos rfl, unqB, unqL_enc (strL_lt s)]
  simp only [strB_strL, Option.isSome_some]
theorem strL_num {i : Int} (h1 : -9223372036854775808 ≤ i) (h2 : i ≤ 9223372036854775807) : strL (showI i) = numL i := strL_txt (numL_head h1 h2).2.2
theorem emp : ((ByteArray.mk #[]).toList == []) = true := by rw [empty_iff]; rfl
theorem right_0 : rightV vaZ = true := by simp only [rightV, vaZ, emp]; rfl
theorem right_1 (i : Int) : rightV ⟨1, i, ByteArray.mk #[]⟩ = true := by simp only [rightV, emp]; rfl
theorem right_f : rightV ⟨2, 0, ByteArray.mk #[]⟩ = true := by simp only [rightV, emp]; rfl
theorem right_t : rightV ⟨2, 1, ByteArray.mk #[]⟩ = true := by simp only [rightV, emp]; rfl
theorem right_e : rightV ⟨3, 0, ByteArray.mk #[]⟩ = true := rfl
theorem show_0 : showV vaZ = wnull := by rw [showV, right_0]; rfl
theorem show_f : showV ⟨2, 0, ByteArray.mk #[]⟩ = wfalse := by rw [showV, right_f]; rfl
theorem show_t : showV ⟨2, 1, ByteArray.mk #[]⟩ = wtrue := by rw [showV, right_t]; rfl
theorem show_1 (i : Int) : showV ⟨1, i, ByteArray.mk #[]⟩ = showI i := by rw [showV, right_1]; rfl
theorem show_3 {s : ByteArray} (h : rightV ⟨3, 0, s⟩ = true) : showV ⟨3, 0, s⟩ = strB (qtL (strL s)) := by
  rw [showV, h]; rfl
theorem strL_qt (s : ByteArray) : strL (strB (qtL (strL s))) = qtL (strL s) := strL_strB (qtL_lt s)
theorem wnull_L : strL wnull = lNull := by decide
theorem wtrue_L : strL wtrue = lTrue := by decide
theorem wfalse_L : strL wfalse = lFalse := by decide
theorem par_show {v : Va} (h : rightV v = true) (h1 : -9223372036854775808 ≤ v.n) (h2 : v.n ≤ 9223372036854775807) : parL (strL (showV v)) = (v, true) := by
  rcases right_kinds h with e | e | e | e | e
  · rw [e, show_0, wnull_L]; rfl
  · rw [e, show_1, strL_num h1 h2, par_num h1 h2]
  · rw [e, show_f, wfalse_L]; rfl
  · rw [e, show_t, wtrue_L]; rfl
  · rw [e] at h ⊢; rw [show_3 h, strL_qt, par_qt]
theorem mid_num {i : Int} (h1 : -9223372036854775808 ≤ i) (h2 : i ≤ 9223372036854775807) : numL i ≠ lNull ∧ midL (numL i) = some ⟨3, 0, ByteArray.mk #[]⟩ ∧ ∀ v, numV (numL i) (boolV (numL i) v) = ⟨1, i, ByteArray.mk #[]⟩ := by
  obtain ⟨⟨c, r, e, hc⟩, hl, _⟩ := numL_head h1 h2
  have hn := nuL_num h1 h2
  rw [e] at hl hn ⊢
  rw [List.length_cons] at hl
  refine ⟨by intro h; have := (List.cons.inj h).1; omega, ?_, fun v => ?_⟩
  · rw [midL, quoLike, decide_eq_false (show ¬ (c :: r)[0]? = some 34 by intro h; have := Option.some.inj h; omega)]; simp
  · rw [numV, if_pos, hn]
    rw [numLike, decide_eq_true hl, Bool.true_and, Bool.or_eq_true, Bool.and_eq_true, decide_eq_true_eq, decide_eq_true_eq, decide_eq_true_eq]; exact hc
theorem mid_qt (s : ByteArray) : qtL (strL s) ≠ lNull ∧ midL (qtL (strL s)) = some ⟨3, 0, s⟩ ∧ ∀ v, numV (qtL (strL s)) (boolV (qtL (strL s)) v) = v := by
  obtain ⟨t1, t2⟩ := flat_take (34 :: (strL s).flatMap encQ)
  have e : qtL (strL s) = (34 :: (strL s).flatMap encQ) ++ [34] := rfl
  refine ⟨by intro h; exact absurd (List.cons.inj h).1 (by decide), ?_, fun v => ?_⟩
  · have hq : quoLike (qtL (strL s)) = true := by
      have hlast : (qtL (strL s))[(qtL (strL s)).length - 1]? = some 34 := by
        rw [e]
        have := congrArg (·[0]?) t2
        rw [List.getElem?_drop, Nat.add_zero] at this
        exact this
      rw [quoLike, decide_eq_true (show 2 ≤ (qtL (strL s)).length by rw [e]; simp), decide_eq_true (show (qtL (strL s))[0]? = some 34 from rfl), decide_eq_true hlast]; rfl
    rw [midL, if_pos hq, e, t1]
    show Option.map _ (unqL ((strL s).flatMap encQ)) = _
    rw [unqL_enc (strL_lt s)]
    show some (Va.mk 3 0 (txt (strL s))) = _
    rw [show txt (strL s) = s from strL_inj (strL_txt (strL_lt s))]
  · rw [boolV, if_neg (by intro h; exact absurd (List.cons.inj h).1 (by decide)), if_neg (by intro h; exact absurd (List.cons.inj h).1 (by decide)), numV, if_neg (by rw [e, List.cons_append, numLike]; simp)]
theorem ref_show {v : Va} (h : rightV v = true) (h1 : -9223372036854775808 ≤ v.n) (h2 : v.n ≤ 9223372036854775807) : refL (showV v) = (v, true) := by
  rcases right_kinds h with e | e | e | e | e
  · rw [e, show_0, refL, wnull_L]; rfl
  · rw [e]
    obtain ⟨k1, k2, k3⟩ := mid_num h1 h2
    rw [show_1, refL, strL_num h1 h2, if_neg k1, k2]
    simp only [k3, lastV]
    rw [if_pos (show_1 v.n)]
  · rw [e, show_f, refL, wfalse_L, if_neg (by decide)]
    show lastV wfalse ⟨2, 0, ByteArray.mk #[]⟩ = _
    rw [lastV, if_pos show_f]
  · rw [e, show_t, refL, wtrue_L, if_neg (by decide)]
    show lastV wtrue ⟨2, 1, ByteArray.mk #[]⟩ = _
    rw [lastV, if_pos show_t]
  · rw [e] at h ⊢
    obtain ⟨k1, k2, k3⟩ := mid_qt v.s
    rw [show_3 h, refL, strL_qt, if_neg k1, k2]
    simp only [k3, lastV]
    rw [if_pos (show_3 h)]
theorem mid_rng {s : ByteArray} (hs : s.size ≤ 1000) {v : Va} (h : midL (strL s) = some v) : Rng v := by
  have hsz := strL_size s
  unfold midL at h
  split at h
  · obtain ⟨r, hr, rfl⟩ := Option.map_eq_some_iff.mp h
    obtain ⟨r1, r2⟩ := unqF_bound _ _ r (fun b hb => strL_lt s b (List.mem_of_mem_take (List.mem_of_mem_drop hb))) hr
    rw [List.length_drop, List.length_take] at r1
    exact rng3 (by rw [txt_size r2]; omega)
  · cases h; exact rng3 (by decide)
theorem read_ref {s : ByteArray} (hs : s.size ≤ 1000) : readL s = refL s := by
  unfold readL
  have hr := parL_rng (strL s)
  by_cases h : (parL (strL s)).2 = true ∧ rightV (parL (strL s)).1 = true ∧ showV (parL (strL s)).1 = s
  · rw [if_pos h]
    conv => rhs; rw [← h.2.2]
    rw [ref_show h.2.1 hr.1 hr.2]
  · rw [if_neg h]
    by_cases hn : strL s = lNull
    · exact absurd ⟨by rw [hn]; rfl, by rw [hn]; exact right_0, strL_inj (by rw [hn]; exact (congrArg strL show_0).trans wnull_L)⟩ h
    · rw [refL, if_neg hn]
      cases hm : midL (strL s) with
      | none => rfl
      | some v =>
        show _ = lastV s (numV (strL s) (boolV (strL s) v))
        rw [lastV]
        have rg := num_rng (strL s) (bool_rng (strL s) (mid_rng hs hm))
        by_cases hv : showV (numV (strL s) (boolV (strL s) v)) = s
        · exfalso
          by_cases hright : rightV (numV (strL s) (boolV (strL s) v)) = true
          · refine h ?_
            have e := par_show hright rg.1 rg.2.1
            rw [hv] at e
            rw [e]
            exact ⟨rfl, hright, hv⟩
          · have hw : s = wq := by
              rw [← hv, showV]
              cases hx : rightV (numV (strL s) (boolV (strL s) v)) with
              | true => exact absurd hx hright
              | false => rfl
            have hl : strL s = [63] := by rw [hw]; decide
            rw [hl] at hm hright
            have hm' : midL [63] = some ⟨3, 0, ByteArray.mk #[]⟩ := rfl
            rw [hm'] at hm
            cases hm
            exact hright right_e
        · rw [if_neg hv]
end Go.Proofs.YtcfedmheblbdnaaDoor.V

/- The functions' pieces, as told by gen.py. -/
set_option linter.unusedVariables false
set_option maxRecDepth 20000
namespace Go.Proofs.YtcfedmheblbdnaaDoor.V
open Go Go.V Go.RowKit


/-! ### 3: interlock/interlocklaw04.ValueReads (9); results 2; slots: 0 s, 1 s, 3 a, 4 ok, 5 b, 6 is -/
noncomputable def f3_b : Sim Tryd.prog :=
 (.seq (.live [0] (.region 0 [
 ⟨(opAssign (some 2) (.const (Value.bool false)) 4 "law.go:60" #[]).op, none⟩
 ] (by kernel_rfl)))
 (.seq (.seq (.live [0, 8] (.region 1 [
 ⟨(opCallP p9 (some 7) [] #[] 4 "law.go:61" #[]).op, none⟩,
 ⟨(opNot (some 8) 4 (.tmp 7) 4 "law.go:61" #[eD 0]).op, none⟩
 ] (by kernel_rfl)))
 (.cond (.tmp 8)
 (.seq (.live [2] (.region 2 [
 ⟨(opAssign (some 2) (.const (Value.bool false)) 4 "law.go:62" #[]).op, none⟩
 ] (by kernel_rfl)))
 (.live [2] .ret))
 .skip))
 (.seq (.seq (.live [0, 11] (.region 3 [
 ⟨(opMove (some 9) (.tmp 0) 9 "law.go:64" #[]).op, none⟩,
 ⟨(opLen (some 10) (.tmp 9) 9 .string Tryd.underlying9 3 "law.go:64" #[eD 0]).op, none⟩,
 ⟨(opBin (some 11) .gtr 3 (.tmp 10) (.const (Value.int IntKind.i64 1000)) 3 4 "law.go:64" #[eD 1]).op, none⟩
 ] (by kernel_rfl)))
 (.cond (.tmp 11)
 (.seq (.live [2] (.region 4 [
 ⟨(opAssign (some 2) (.const (Value.bool true)) 4 "law.go:65" #[]).op, none⟩
 ] (by kernel_rfl)))
 (.live [2] .ret))
 .skip))
 (.seq (.live [0, 3, 4] (.region 5 [
 ⟨(opMove (some 13) (.tmp 0) 9 "law.go:67" #[]).op, none⟩,
 ⟨(opCallP p10 (some 14) [(.tmp 13)] #[9] 25 "law.go:67" #[eD 0]).op, none⟩,
 ⟨(opMove (some 12) (.tmp 14) 25 "law.go:67" #[eD 1]).op, none⟩,
 ⟨(opExtract (some 15) (.tmp 12) 0 24 "law.go:67" #[eD 2]).op, none⟩,
 ⟨(opExtract (some 16) (.tmp 12) 1 4 "law.go:67" #[eD 2, { on := 6, ground := (Ground.gcOnly Departure.lateStores) }]).op, none⟩,
 ⟨(opAlloc (some 3) 24 (.agg #[(.int .i64 0), (.int .i64 0), (.string ⟨#[]⟩)]) ze24 0 "law.go:67" #[]).op, none⟩,
 ⟨(opStore none 24 (.tmp 3) (.tmp 15) 3 sz24 0 "law.go:67" #[eD 5, eD 3, eC 1, eP 0, eP 1, eP 2, eP 3, { on := 4, ground := (Ground.textOnly Departure.lateStores) }, eP 5]).op, none⟩,
 ⟨(opAssign (some 4) (.tmp 16) 4 "law.go:67" #[eD 4, eC 6, eP 0, eP 1, eP 2, eP 3, eP 4, eP 5, eP 6]).op, none⟩
 ] (by kernel_rfl)))
 (.seq (.live [3, 4, 5, 6] (.region 6 [
 ⟨(opMove (some 18) (.tmp 0) 9 "law.go:68" #[]).op, none⟩,
 ⟨(opCallP p11 (some 19) [(.tmp 18)] #[9] 25 "law.go:68" #[eD 0]).op, none⟩,
 ⟨(opMove (some 17) (.tmp 19) 25 "law.go:68" #[eD 1]).op, none⟩,
 ⟨(opExtract (some 20) (.tmp 17) 0 24 "law.go:68" #[eD 2]).op, none⟩,
 ⟨(opExtract (some 21) (.tmp 17) 1 4 "law.go:68" #[eD 2, { on := 6, ground := (Ground.gcOnly Departure.lateStores) }]).op, none⟩,
 ⟨(opAlloc (some 5) 24 (.agg #[(.int .i64 0), (.int .i64 0), (.string ⟨#[]⟩)]) ze24 0 "law.go:68" #[]).op, none⟩,
 ⟨(opStore none 24 (.tmp 5) (.tmp 20) 3 sz24 0 "law.go:68" #[eD 5, eD 3, eC 1, eP 0, eP 1, eP 2, eP 3, { on := 4, ground := (Ground.textOnly Departure.lateStores) }, eP 5]).op, none⟩,
 ⟨(opAssign (some 6) (.tmp 21) 4 "law.go:68" #[eD 4, eC 6, eP 0, eP 1, eP 2, eP 3, eP 4, eP 5, eP 6]).op, none⟩
 ] (by kernel_rfl)))
 (.seq (.live [2] (.region 7 [
 ⟨(opLoadT (.agg [(.int .i64), (.int .i64), .str]) (some 22) 24 (.tmp 3) d24 ud24 3 sz24 (by kernel_rfl) 24 "law.go:69" #[]).op, none⟩,
 ⟨(opLoadT (.agg [(.int .i64), (.int .i64), .str]) (some 23) 24 (.tmp 5) d24 ud24 3 sz24 (by kernel_rfl) 24 "law.go:69" #[]).op, none⟩,
 ⟨(opEqS (some 24) 24 [(0, 0), (1, 0), (2, 2)] eq24 (.tmp 22) (.tmp 23) 24 4 "law.go:69" #[eD 0, eD 1]).op, none⟩,
 ⟨(opMove (some 25) (.tmp 24) 4 "law.go:69" #[eD 2]).op, none⟩,
 ⟨(opMove (some 26) (.tmp 4) 4 "law.go:69" #[eG 3]).op, (some (3, 25, true))⟩,
 ⟨(opMove (some 27) (.tmp 6) 4 "law.go:69" #[eG 3]).op, (some (3, 25, true))⟩,
 ⟨(opEq (some 28) 4 .bool Tryd.underlying4 (.tmp 26) (.tmp 27) (.inr rfl) 4 4 "law.go:69" #[eD 4, eD 5, eG 3]).op, (some (3, 25, true))⟩,
 ⟨(opPick (some 29) (.tmp 25) (.tmp 28) (.const (Value.bool false)) 4 "law.go:69" #[eD 3, eD 6]).op, none⟩,
 ⟨(opAssign (some 2) (.tmp 29) 4 "law.go:69" #[eD 7, eC 3, eP 0, eP 1, eP 2, eP 3, eP 4, eP 5, eP 6, eP 7]).op, none⟩
 ] (by kernel_rfl)))
 (.live [2] .ret)))))))

noncomputable def f3 : Fun Tryd.prog where
 id := 3
 fn := Tryd.f3
 hf := Tryd.func3
 hname := by kernel_rfl
 body := f3_b
 hbody := by kernel_rfl
 res := [rTmp 2]
 hres := by kernel_rfl
 n := 30
 hn := by kernel_rfl

end Go.Proofs.YtcfedmheblbdnaaDoor.V

/- What the functions' runs come to; the right sides were printed by a tool, Lean checks them. -/
set_option linter.unusedVariables false
set_option maxRecDepth 100000
namespace Go.Proofs.YtcfedmheblbdnaaDoor.V
open Go Go.V Go.RowKit

theorem reads_run (F : Nat) (s : ByteArray) :
 (f3.run F [.str s] ⟨[], []⟩ : Ans) =
 branch (AV.bool (decide ((↑s.size : Int) > (1000 : Int)))) (some (Fin.ret (AV.bool true), St.mk [] []))
 (branch (AV.bool (cdec (s.size ≤ 100000)))
 (branch (AV.bool (cdec (s.size ≤ 1000)))
 (branch
 (AV.bool
 ((readL s).fst.k == (refL s).fst.k &&
 ((readL s).fst.n == (refL s).fst.n && ((readL s).fst.s.toList == (refL s).fst.s.toList && true))))
 (some
 (Fin.ret (AV.bool ((readL s).snd == (refL s).snd)),
 St.mk
 [Ob.cells
 [AV.int IntKind.i64 (readL s).fst.k, AV.int IntKind.i64 (readL s).fst.n, AV.str (readL s).fst.s],
 Ob.cells [AV.int IntKind.i64 (refL s).fst.k, AV.int IntKind.i64 (refL s).fst.n, AV.str (refL s).fst.s]]
 []))
 (some
 (Fin.ret (AV.bool false),
 St.mk
 [Ob.cells
 [AV.int IntKind.i64 (readL s).fst.k, AV.int IntKind.i64 (readL s).fst.n, AV.str (readL s).fst.s],
 Ob.cells [AV.int IntKind.i64 (refL s).fst.k, AV.int IntKind.i64 (refL s).fst.n, AV.str (refL s).fst.s]]
 [])))
 none)
 none) := by kernel_rfl

end Go.Proofs.YtcfedmheblbdnaaDoor.V

/- Values: ValueReads is true. -/
set_option linter.unusedVariables false
namespace Go.Proofs.YtcfedmheblbdnaaDoor.V
open Go Go.V Go.RowKit

theorem reads_true (s : ByteArray) : ∃ st, f3.run 0 [.str s] ⟨[], []⟩ = some (.ret (.bool true), st) := by
  rw [reads_run]
  by_cases la : (s.size : Int) > 1000
  · rw [branch_of (decide_eq_true la)]; exact ⟨_, rfl⟩
  rw [branch_not (decide_eq_false la), branch_of (cdec_iff.mpr (by omega)), branch_of (cdec_iff.mpr (by omega)), read_ref (by omega)]
  refine gets_of (by simp) ?_
  rw [beq_self_eq_true]
  exact ⟨_, rfl⟩
theorem reads_law (as0 : List AV) (s0 : Ty.Shape .str as0) : ∃ F st, f3.run F [Ty.AV' .str as0] ⟨[], []⟩ = some (.ret (.bool true), st) := by
  obtain ⟨s, rfl, _⟩ := s0
  exact ⟨0, reads_true s⟩
end Go.Proofs.YtcfedmheblbdnaaDoor.V

/- Values: what the rows' condition on package-level variables gives. -/
set_option linter.unusedVariables false
namespace Go.Proofs.YtcfedmheblbdnaaDoor.V
open Go Go.V Go.RowKit

def tens : List Int := [1, 10, 100, 1000, 10000, 100000, 1000000, 10000000, 100000000, 1000000000, 10000000000, 100000000000, 1000000000000, 10000000000000, 100000000000000, 1000000000000000, 10000000000000000, 100000000000000000, 1000000000000000000, 10000000000000000000]
theorem globs_eq : globs = [(0, [.ifc 122 .dead]), (1, [.ifc 122 .dead]), (2, tens.map fun n => AV.int .u64 n)] := rfl
theorem rel_ints (W : World) : ∀ l : List Int, RelAll g0 W (l.map fun n => AV.int .u64 n) (l.map fun n => Value.int .u64 n)
  | [] => rfl
  | x :: l => ⟨_, _, rfl, rfl, rel_ints W l⟩
theorem laid_pow : (Rows.laid_internal_strconv_uint64pow10 : DataW Unit) = .agg (tens.map fun n => .lit (.int .u64 n)) := rfl
theorem globs_laid {W : World} (h : laidMetH Tryd.prog [("math/bits.deBruijn32tab", Rows.laid_math_bits_deBruijn32tab), ("math/bits.deBruijn64tab", Rows.laid_math_bits_deBruijn64tab), ("internal/strconv.uint64pow10", Rows.laid_internal_strconv_uint64pow10), ("strconv.ErrRange", Rows.laid_strconv_ErrRange), ("strconv.ErrSyntax", Rows.laid_strconv_ErrSyntax)] W) : Globs g0 W := by
  rw [MakeChecks.laidMetH_plain _ _ _ (by kernel_rfl)] at h
  obtain ⟨ps, ⟨_, _, _, _, _, _, _, _, _, _, ⟨_, _, _, _, _, _, _, _, _, _, ⟨g2, t2, cs2, f2, p2, q2, hg2, ht2, hv2, hd2, ⟨g1, t1, cs1, f1, p1, q1, hg1, ht1, hv1, hd1, ⟨g3, t3, cs3, f3, p3, q3, hg3, ht3, hv3, hd3, _, _⟩, _⟩, _⟩, _⟩, _⟩, _, _⟩ := h
  have eP : Tryd.prog.globalNamed "internal/strconv.uint64pow10" = some 2 := by kernel_rfl
  have eR : Tryd.prog.globalNamed "strconv.ErrRange" = some 1 := by kernel_rfl
  have eS : Tryd.prog.globalNamed "strconv.ErrSyntax" = some 0 := by kernel_rfl
  have tP : (Tryd.prog.globals[2]?).map (·.type) = some 117 := by kernel_rfl
  have tR : (Tryd.prog.globals[1]?).map (·.type) = some 73 := by kernel_rfl
  have tS : (Tryd.prog.globals[0]?).map (·.type) = some 73 := by kernel_rfl
  obtain rfl := Option.some.inj (eP.symm.trans hg2)
  obtain rfl := Option.some.inj (eR.symm.trans hg1)
  obtain rfl := Option.some.inj (eS.symm.trans hg3)
  obtain rfl := Option.some.inj (tP.symm.trans ht2)
  obtain rfl := Option.some.inj (tR.symm.trans ht1)
  obtain rfl := Option.some.inj (tS.symm.trans ht3)
  have typ : ∀ u, Tryd.prog.typeName? 3 u = some ("*" ++ "errors.errorString") → u = 122 :=
    typeName_ptr_named (by kernel_rfl) (by kernel_rfl) (by decide)
  have one : ∀ {g : Nat} {n : String} {cs : Array Value} {u v}, Tryd.prog.globalNamed n = some g → W.var? Tryd.prog n = some cs → cs.toList = [.iface u v] → Tryd.prog.typeName? 3 u = some "*errors.errorString" → RelCells g0 W [.ifc 122 .dead] g 0 := by
    intro g n cs u v h1 h2 h3 h4
    obtain rfl := typ u h4
    refine ⟨⟨.iface 122 v, ?_, trivial, rfl, ⟨v, rfl, trivial⟩⟩, trivial⟩
    rw [World.var?_cell h1 h2 0, ← Array.getElem?_toList, h3]; rfl
  obtain ⟨_, _, _, c1, n1, _⟩ := iface_of_trod Tryd.underlying73 hd1
  obtain ⟨_, _, _, c3, n3, _⟩ := iface_of_trod Tryd.underlying73 hd3
  obtain ⟨xs, m, _, hx, hlen, hn, hel⟩ := DataW.trod_array Tryd.underlying117 hd2
  have k84 : Tryd.prog.cellsOf 84 = 1 := by kernel_rfl
  have k117 : Tryd.prog.cellsOf 117 = 20 := by kernel_rfl
  rw [laid_pow] at hx
  simp only [Prod.mk.injEq, DataW.agg.injEq] at hx
  have hx := hx.1
  rw [k117] at hlen
  have hcs : cs2.toList = tens.map fun n => Value.int .u64 n := by
    apply List.ext_getElem?
    intro i
    by_cases hi : i < 20
    · have h1 := hel i hi
      rw [k84, Nat.mul_one, List.drop_eq_getElem_cons (by omega), List.take_succ_cons, List.take_zero] at h1
      have hxi : i < xs.length := by omega
      rw [List.getElem?_eq_getElem hxi] at h1
      obtain ⟨n, e1, e2, _⟩ := DataW.trod_int Tryd.underlying84 h1
      have e3 : (tens.map fun n => (DataW.lit (.int .u64 n) : DataW Unit))[i]? = some (.lit (.int .u64 n)) := by
        rw [hx, List.getElem?_map, List.getElem?_eq_getElem hxi, e2]; rfl
      rw [List.getElem?_map] at e3
      obtain ⟨n', e4, e5⟩ := Option.map_eq_some_iff.mp e3
      simp only [DataW.lit.injEq, Lit.int.injEq, true_and] at e5
      subst e5
      rw [List.getElem?_eq_getElem (by omega), List.getElem?_map, e4]
      simp only [List.cons.injEq, and_true] at e1
      rw [e1]; rfl
    · rw [List.getElem?_eq_none (by omega), List.getElem?_eq_none (by simp [tens]; omega)]
  intro x hx'
  rw [globs_eq] at hx'
  simp only [List.mem_cons, List.not_mem_nil, or_false] at hx'
  rcases hx' with rfl | rfl | rfl
  · exact one eS hv3 c3 n3
  · exact one eR hv1 c1 n1
  · refine RelCells.ofCells _ _ 2 0 (rel_ints W tens) (fun u hu => ?_) fun i u hu => ?_
    · obtain ⟨n, _, rfl⟩ := List.mem_map.mp hu; rfl
    · rw [Nat.zero_add, World.var?_cell eP hv2 i, ← Array.getElem?_toList, hcs]; exact hu
end Go.Proofs.YtcfedmheblbdnaaDoor.V
