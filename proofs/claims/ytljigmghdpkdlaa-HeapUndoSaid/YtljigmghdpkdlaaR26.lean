/- Merged out of 5 texts: what the claim's code comes to, and why. -/
import Derived.Test.YtljigmghdpkdlaaR25
/- The functions' pieces, as told by gen.py. -/
set_option linter.unusedVariables false
set_option maxRecDepth 20000
namespace Go.Proofs.Ytljigmghdpkdlaa.V
open Go Go.V Go.RowKit

theorem fl49_2 : fieldB Try.prog 49 2 2 2 true = true := by kernel_rfl
theorem fl49_0 : fieldB Try.prog 49 0 0 1 false = true := by kernel_rfl

/-! ### 4: interlock/interlocklaw07.HeapFirst (22, 34); results 4; slots: 0 rows, 1 b, 2 rows, 3 b, 5 h, 6 i, 7 before, 8 at, 9 e, 10 k, 11 got, 12 ok -/
/-! ### 5: interlock/interlocklaw07.HeapUndo (47, 49); results 4; slots:  -/
/-- A loop's round; at its head live: 0 , 3 , 5 , 6  -/
noncomputable def f5_l0 : Sim Try.prog :=
 (.seq (.seq (.live [0, 3, 5, 6, 26] (.region 7 [
 ⟨(opMove (some 23) (.tmp 6) 3 "law.go:162" #[]).op, none⟩,
 ⟨(opMove (some 24) (.tmp 0) 47 "law.go:162" #[]).op, none⟩,
 ⟨(opLen (some 25) (.tmp 24) 47 (.slice 49) Try.underlying47 3 "law.go:162" #[eD 1]).op, none⟩,
 ⟨(opBin (some 26) .lss 3 (.tmp 23) (.tmp 25) 3 4 "law.go:162" #[eD 0, eD 2]).op, none⟩
 ] (by kernel_rfl)))
 (.cond (.tmp 26)
 .skip
 (.live [3, 5] (.exit 0))))
 (.seq (.block 1 (.live [0, 3, 5, 6] (.region 9 [
 ⟨(opMove (some 29) (.tmp 5) 26 "law.go:163" #[]).op, none⟩,
 ⟨(opMove (some 30) (.tmp 0) 47 "law.go:163" #[]).op, none⟩,
 ⟨(opMove (some 31) (.tmp 6) 3 "law.go:163" #[]).op, none⟩,
 ⟨(opIndexAddrT (some 32) 47 (.tmp 30) (.tmp 31) 49 5 Try.underlying47 sz49 0 "law.go:163" #[eD 1, eD 2]).op, none⟩,
 ⟨(opFieldAddr (some 33) 49 (.tmp 32) 3 4 1 false fl49_3 (by decide) 0 "law.go:163" #[eD 3]).op, none⟩,
 ⟨(opLoadT (.one (.ns 1)) (some 34) 34 (.tmp 33) (.slice 5) Try.underlying34 1 sz34 (by kernel_rfl) 34 "law.go:163" #[eD 4]).op, none⟩,
 ⟨opCall (s12).orc (some 35) [(.tmp 29), (.tmp 34)] #[26, 34] 32 "law.go:163" #[eD 0, eD 5], none⟩
 ] (by kernel_rfl))))
 (.live [0, 3, 5, 6] (.region 8 [
 ⟨(opMove (some 27) (.tmp 6) 3 "law.go:162" #[]).op, none⟩,
 ⟨(opBin (some 28) .add 3 (.tmp 27) (.const (Value.int IntKind.i64 1)) 3 3 "law.go:162" #[eD 0]).op, none⟩,
 ⟨(opAssign (some 6) (.tmp 28) 3 "law.go:162" #[eD 1, eP 0, eP 1]).op, none⟩
 ] (by kernel_rfl)))))

/-- What follows a loop. -/
noncomputable def f5_r0 : Sim Try.prog :=
 (.seq (.live [3, 5, 7] (.region 10 [
 ⟨(opMove (some 36) (.tmp 5) 26 "law.go:165" #[]).op, none⟩,
 ⟨(opCallQ q17 (some 37) [(.tmp 36)] #[26] 22 "law.go:165" #[eD 0]).op, none⟩,
 ⟨(opAssign (some 7) (.tmp 37) 22 "law.go:165" #[eD 1, eC 1, eP 0, eP 1]).op, none⟩
 ] (by kernel_rfl)))
 (.seq (.live [3, 5, 7, 8, 9] (.region 11 [
 ⟨(opMove (some 39) (.tmp 5) 26 "law.go:166" #[]).op, none⟩,
 ⟨(opFieldAddr (some 40) 49 (.tmp 3) 2 2 2 true fl49_2 (by decide) 0 "law.go:166" #[]).op, none⟩,
 ⟨(opLoadT (.agg [(.int .i64), (.int .i64)]) (some 41) 30 (.tmp 40) d30 ud30 2 sz30 (by kernel_rfl) 30 "law.go:166" #[eD 1]).op, none⟩,
 ⟨(opCallQ q14 (some 42) [(.tmp 39), (.tmp 41)] #[26, 30] 37 "law.go:166" #[eD 0, eD 2]).op, none⟩,
 ⟨(opMove (some 38) (.tmp 42) 37 "law.go:166" #[eD 3]).op, none⟩,
 ⟨(opExtract (some 43) (.tmp 38) 0 34 "law.go:166" #[eD 4]).op, none⟩,
 ⟨(opExtract (some 44) (.tmp 38) 1 4 "law.go:166" #[eD 4, { on := 7, ground := (Ground.gcOnly Departure.lateStores) }]).op, none⟩,
 ⟨(opAssign (some 8) (.tmp 43) 34 "law.go:166" #[eD 5, eC 3, eP 0, eP 1, eP 2, eP 3, eP 4, eP 5, { on := 6, ground := (Ground.textOnly Departure.lateStores) }]).op, none⟩,
 ⟨(opAssign (some 9) (.tmp 44) 4 "law.go:166" #[eD 6, eC 7, eP 0, eP 1, eP 2, eP 3, eP 4, eP 5, eP 6, eP 7]).op, none⟩
 ] (by kernel_rfl)))
 (.seq (.seq (.live [3, 5, 7, 8, 9, 46] (.region 12 [
 ⟨(opFieldAddr (some 45) 49 (.tmp 3) 0 0 1 false fl49_0 (by decide) 0 "law.go:167" #[]).op, none⟩,
 ⟨(opLoadT (.one (.int .i64)) (some 46) 3 (.tmp 45) (.int .i64) Try.underlying3 1 sz3 (by kernel_rfl) 3 "law.go:167" #[eD 0]).op, none⟩
 ] (by kernel_rfl)))
 (.block 2 (.seq (.live [3, 5, 7, 8, 9, 46, 47] (.region 13 [
 ⟨(opBin (some 48) .eql 3 (.tmp 46) (.const (Value.int IntKind.i64 0)) 3 4 "law.go:168" #[]).op, none⟩,
 ⟨(opAssign (some 47) (.tmp 48) 4 "law.go:168" #[eD 0]).op, none⟩
 ] (by kernel_rfl)))
 (.cond (.tmp 47)
 (.seq (.live [5, 7, 10, 11] (.items 14 [
 .one ((opMove (some 50) (.tmp 5) 26 "law.go:169" #[]).op),
 .one ((opFieldAddr (some 51) 49 (.tmp 3) 3 4 1 false fl49_3 (by decide) 0 "law.go:169" #[]).op),
 .one ((opLoadT (.one .any) (some 52) 34 (.tmp 51) (.slice 5) Try.underlying34 1 sz34 (by kernel_rfl) 34 "law.go:169" #[eD 1]).op),
 .one (opCall (s12).orc (some 53) [(.tmp 50), (.tmp 52)] #[26, 34] 32 "law.go:169" #[eD 0, eD 2]),
 .one ((opMove (some 49) (.tmp 53) 32 "law.go:169" #[eD 3]).op),
 .one ((opExtract (some 54) (.tmp 49) 0 30 "law.go:169" #[eD 4]).op),
 .one ((opExtract (some 55) (.tmp 49) 1 31 "law.go:169" #[eD 4, { on := 8, ground := (Ground.gcOnly Departure.lateStores) }]).op),
 .two (op2Box 10 30 (.agg #[(.int .i64 0), (.int .i64 0)]) ze30 (.tmp 54) (by rfl) 2 sz30 (by kernel_rfl) 137 (by rfl) 0 0 "law.go:169" "law.go:169" #[] #[eD 7, eD 5, eC 3, eP 0, eP 1, eP 2, eP 3, eP 4, eP 5, { on := 6, ground := (Ground.textOnly Departure.lateStores) }, eP 7]),
 .one ((opAssign (some 11) (.tmp 55) 31 "law.go:169" #[eD 6, eC 8, eP 0, eP 1, eP 2, eP 3, eP 4, eP 5, eP 6, eP 7, eP 8]).op)
 ]))
 (.seq (.live [5, 7, 63] (.region 15 [
 ⟨(opMove (some 56) (.tmp 11) 31 "law.go:170" #[]).op, none⟩,
 ⟨(opBin (some 57) .eql 31 (.tmp 56) (.const (Value.int IntKind.i64 0)) 31 4 "law.go:170" #[eD 0]).op, none⟩,
 ⟨(opMove (some 58) (.tmp 57) 4 "law.go:170" #[eD 1]).op, none⟩,
 ⟨(opMove (some 59) (.tmp 5) 26 "law.go:170" #[eG 2]).op, (some (2, 58, true))⟩,
 ⟨(opLoadT (.agg [(.int .i64), (.int .i64)]) (some 60) 30 (.tmp 10) d30 ud30 2 sz30 (by kernel_rfl) 30 "law.go:170" #[eG 2]).op, (some (2, 58, true))⟩,
 ⟨opCall (s13).orc (some 61) [(.tmp 59), (.tmp 60)] #[26, 30] 31 "law.go:170" #[eD 3, eD 4, eC 2, eG 2], (some (2, 58, true))⟩,
 ⟨(opBin (some 62) .neq 31 (.tmp 61) (.const (Value.int IntKind.i64 0)) 31 4 "law.go:170" #[eD 5, eG 2]).op, (some (2, 58, true))⟩,
 ⟨(opPick (some 63) (.tmp 58) (.tmp 62) (.const (Value.bool false)) 4 "law.go:170" #[eD 2, eD 6]).op, none⟩
 ] (by kernel_rfl)))
 (.cond (.tmp 63)
 (.seq (.live [4] (.region 16 [
 ⟨(opAssign (some 4) (.const (Value.bool false)) 4 "law.go:171" #[]).op, none⟩
 ] (by kernel_rfl)))
 (.live [4] .ret))
 .skip)))
 (.seq (.live [3, 5, 7, 8, 9, 46, 64] (.region 17 [
 ⟨(opBin (some 65) .eql 3 (.tmp 46) (.const (Value.int IntKind.i64 1)) 3 4 "law.go:173" #[]).op, none⟩,
 ⟨(opAssign (some 64) (.tmp 65) 4 "law.go:173" #[eD 0]).op, none⟩
 ] (by kernel_rfl)))
 (.cond (.tmp 64)
 (.seq (.live [5, 7, 84] (.region 18 [
 ⟨(opMove (some 66) (.tmp 5) 26 "law.go:174" #[]).op, none⟩,
 ⟨(opFieldAddr (some 67) 49 (.tmp 3) 2 2 2 true fl49_2 (by decide) 0 "law.go:174" #[]).op, none⟩,
 ⟨(opLoadT (.agg [(.int .i64), (.int .i64)]) (some 68) 30 (.tmp 67) d30 ud30 2 sz30 (by kernel_rfl) 30 "law.go:174" #[eD 1]).op, none⟩,
 ⟨(opFieldAddr (some 69) 49 (.tmp 3) 3 4 1 false fl49_3 (by decide) 0 "law.go:174" #[]).op, none⟩,
 ⟨(opLoadT (.one .any) (some 70) 34 (.tmp 69) (.slice 5) Try.underlying34 1 sz34 (by kernel_rfl) 34 "law.go:174" #[eD 3]).op, none⟩,
 ⟨opCall (s21).orc (some 71) [(.tmp 66), (.tmp 68), (.tmp 70)] #[26, 30, 34] 31 "law.go:174" #[eD 0, eD 2, eD 4], none⟩,
 ⟨(opBin (some 72) .eql 31 (.tmp 71) (.const (Value.int IntKind.i64 0)) 31 4 "law.go:174" #[eD 5]).op, none⟩,
 ⟨(opMove (some 73) (.tmp 72) 4 "law.go:174" #[eD 6, eC 5]).op, none⟩,
 ⟨(opMove (some 74) (.tmp 9) 4 "law.go:174" #[eG 7]).op, (some (7, 73, true))⟩,
 ⟨(opNot (some 75) 4 (.tmp 74) 4 "law.go:174" #[eD 8, eG 7]).op, (some (7, 73, true))⟩,
 ⟨(opMove (some 76) (.tmp 75) 4 "law.go:174" #[eD 9, eC 7, eG 7]).op, (some (7, 73, true))⟩,
 ⟨(opMove (some 77) (.tmp 5) 26 "law.go:174" #[eG 10]).op, (some (10, 76, false))⟩,
 ⟨(opFieldAddr (some 78) 49 (.tmp 3) 2 2 2 true fl49_2 (by decide) 0 "law.go:174" #[eG 10]).op, (some (10, 76, false))⟩,
 ⟨(opLoadT (.agg [(.int .i64), (.int .i64)]) (some 79) 30 (.tmp 78) d30 ud30 2 sz30 (by kernel_rfl) 30 "law.go:174" #[eD 12, eG 10]).op, (some (10, 76, false))⟩,
 ⟨(opMove (some 80) (.tmp 8) 34 "law.go:174" #[eG 10]).op, (some (10, 76, false))⟩,
 ⟨opCall (s21).orc (some 81) [(.tmp 77), (.tmp 79), (.tmp 80)] #[26, 30, 34] 31 "law.go:174" #[eD 11, eD 13, eD 14, eC 10, eG 10], (some (10, 76, false))⟩,
 ⟨(opBin (some 82) .neq 31 (.tmp 81) (.const (Value.int IntKind.i64 0)) 31 4 "law.go:174" #[eD 15, eG 10]).op, (some (10, 76, false))⟩,
 ⟨(opPick (some 83) (.tmp 76) (.const (Value.bool true)) (.tmp 82) 4 "law.go:174" #[eD 10, eD 16, eG 7]).op, (some (7, 73, true))⟩,
 ⟨(opPick (some 84) (.tmp 73) (.tmp 83) (.const (Value.bool false)) 4 "law.go:174" #[eD 7, eD 17]).op, none⟩
 ] (by kernel_rfl)))
 (.cond (.tmp 84)
 (.seq (.live [4] (.region 19 [
 ⟨(opAssign (some 4) (.const (Value.bool false)) 4 "law.go:175" #[]).op, none⟩
 ] (by kernel_rfl)))
 (.live [4] .ret))
 .skip))
 (.seq (.live [3, 5, 7, 8, 9, 46, 85] (.region 20 [
 ⟨(opBin (some 86) .eql 3 (.tmp 46) (.const (Value.int IntKind.i64 2)) 3 4 "law.go:177" #[]).op, none⟩,
 ⟨(opAssign (some 85) (.tmp 86) 4 "law.go:177" #[eD 0]).op, none⟩
 ] (by kernel_rfl)))
 (.cond (.tmp 85)
 (.seq (.live [5, 7, 103] (.region 21 [
 ⟨(opMove (some 87) (.tmp 5) 26 "law.go:178" #[]).op, none⟩,
 ⟨(opFieldAddr (some 88) 49 (.tmp 3) 2 2 2 true fl49_2 (by decide) 0 "law.go:178" #[]).op, none⟩,
 ⟨(opLoadT (.agg [(.int .i64), (.int .i64)]) (some 89) 30 (.tmp 88) d30 ud30 2 sz30 (by kernel_rfl) 30 "law.go:178" #[eD 1]).op, none⟩,
 ⟨opCall (s13).orc (some 90) [(.tmp 87), (.tmp 89)] #[26, 30] 31 "law.go:178" #[eD 0, eD 2], none⟩,
 ⟨(opBin (some 91) .eql 31 (.tmp 90) (.const (Value.int IntKind.i64 0)) 31 4 "law.go:178" #[eD 3]).op, none⟩,
 ⟨(opMove (some 92) (.tmp 91) 4 "law.go:178" #[eD 4, eC 3]).op, none⟩,
 ⟨(opMove (some 93) (.tmp 9) 4 "law.go:178" #[eG 5]).op, (some (5, 92, true))⟩,
 ⟨(opNot (some 94) 4 (.tmp 93) 4 "law.go:178" #[eD 6, eG 5]).op, (some (5, 92, true))⟩,
 ⟨(opMove (some 95) (.tmp 94) 4 "law.go:178" #[eD 7, eC 5, eG 5]).op, (some (5, 92, true))⟩,
 ⟨(opMove (some 96) (.tmp 5) 26 "law.go:178" #[eG 8]).op, (some (8, 95, false))⟩,
 ⟨(opFieldAddr (some 97) 49 (.tmp 3) 2 2 2 true fl49_2 (by decide) 0 "law.go:178" #[eG 8]).op, (some (8, 95, false))⟩,
 ⟨(opLoadT (.agg [(.int .i64), (.int .i64)]) (some 98) 30 (.tmp 97) d30 ud30 2 sz30 (by kernel_rfl) 30 "law.go:178" #[eD 10, eG 8]).op, (some (8, 95, false))⟩,
 ⟨(opMove (some 99) (.tmp 8) 34 "law.go:178" #[eG 8]).op, (some (8, 95, false))⟩,
 ⟨opCall (s22).orc (some 100) [(.tmp 96), (.tmp 98), (.tmp 99)] #[26, 30, 34] 31 "law.go:178" #[eD 9, eD 11, eD 12, eC 8, eG 8], (some (8, 95, false))⟩,
 ⟨(opBin (some 101) .neq 31 (.tmp 100) (.const (Value.int IntKind.i64 0)) 31 4 "law.go:178" #[eD 13, eG 8]).op, (some (8, 95, false))⟩,
 ⟨(opPick (some 102) (.tmp 95) (.const (Value.bool true)) (.tmp 101) 4 "law.go:178" #[eD 8, eD 14, eG 5]).op, (some (5, 92, true))⟩,
 ⟨(opPick (some 103) (.tmp 92) (.tmp 102) (.const (Value.bool false)) 4 "law.go:178" #[eD 5, eD 15]).op, none⟩
 ] (by kernel_rfl)))
 (.cond (.tmp 103)
 (.seq (.live [4] (.region 22 [
 ⟨(opAssign (some 4) (.const (Value.bool false)) 4 "law.go:179" #[]).op, none⟩
 ] (by kernel_rfl)))
 (.live [4] .ret))
 .skip))
 (.seq (.live [3, 5, 7, 9, 104] (.region 23 [
 ⟨(opBin (some 105) .eql 3 (.tmp 46) (.const (Value.int IntKind.i64 3)) 3 4 "law.go:181" #[]).op, none⟩,
 ⟨(opAssign (some 104) (.tmp 105) 4 "law.go:181" #[eD 0]).op, none⟩
 ] (by kernel_rfl)))
 (.cond (.tmp 104)
 (.seq (.seq (.live [3, 5, 7, 9, 115] (.region 24 [
 ⟨(opFieldAddr (some 106) 49 (.tmp 3) 2 2 2 true fl49_2 (by decide) 0 "law.go:182" #[]).op, none⟩,
 ⟨(opFieldAddr (some 107) 30 (.tmp 106) 0 0 1 false fl30_0 (by decide) 0 "law.go:182" #[eD 0]).op, none⟩,
 ⟨(opLoadT (.one (.int .i64)) (some 108) 3 (.tmp 107) (.int .i64) Try.underlying3 1 sz3 (by kernel_rfl) 3 "law.go:182" #[eD 1]).op, none⟩,
 ⟨(opBin (some 109) .gtr 3 (.tmp 108) (.const (Value.int IntKind.i64 20)) 3 4 "law.go:182" #[eD 2]).op, none⟩,
 ⟨(opMove (some 110) (.tmp 109) 4 "law.go:182" #[eD 3]).op, none⟩,
 ⟨(opFieldAddr (some 111) 49 (.tmp 3) 2 2 2 true fl49_2 (by decide) 0 "law.go:182" #[eG 4]).op, (some (4, 110, true))⟩,
 ⟨(opFieldAddr (some 112) 30 (.tmp 111) 0 0 1 false fl30_0 (by decide) 0 "law.go:182" #[eD 5, eG 4]).op, (some (4, 110, true))⟩,
 ⟨(opLoadT (.one (.int .i64)) (some 113) 3 (.tmp 112) (.int .i64) Try.underlying3 1 sz3 (by kernel_rfl) 3 "law.go:182" #[eD 6, eG 4]).op, (some (4, 110, true))⟩,
 ⟨(opBin (some 114) .lss 3 (.tmp 113) (.const (Value.int IntKind.i64 256)) 3 4 "law.go:182" #[eD 7, eG 4]).op, (some (4, 110, true))⟩,
 ⟨(opPick (some 115) (.tmp 110) (.tmp 114) (.const (Value.bool false)) 4 "law.go:182" #[eD 4, eD 8]).op, none⟩
 ] (by kernel_rfl)))
 (.cond (.tmp 115)
 (.seq (.live [4] (.region 25 [
 ⟨(opAssign (some 4) (.const (Value.bool true)) 4 "law.go:183" #[]).op, none⟩
 ] (by kernel_rfl)))
 (.live [4] .ret))
 .skip))
 (.seq (.live [5, 7, 132] (.region 26 [
 ⟨(opMove (some 116) (.tmp 5) 26 "law.go:185" #[]).op, none⟩,
 ⟨(opFieldAddr (some 117) 49 (.tmp 3) 2 2 2 true fl49_2 (by decide) 0 "law.go:185" #[]).op, none⟩,
 ⟨(opLoadT (.agg [(.int .i64), (.int .i64)]) (some 118) 30 (.tmp 117) d30 ud30 2 sz30 (by kernel_rfl) 30 "law.go:185" #[eD 1]).op, none⟩,
 ⟨(opFieldAddr (some 119) 49 (.tmp 3) 3 4 1 false fl49_3 (by decide) 0 "law.go:185" #[]).op, none⟩,
 ⟨(opLoadT (.one .any) (some 120) 34 (.tmp 119) (.slice 5) Try.underlying34 1 sz34 (by kernel_rfl) 34 "law.go:185" #[eD 3]).op, none⟩,
 ⟨opCall (s22).orc (some 121) [(.tmp 116), (.tmp 118), (.tmp 120)] #[26, 30, 34] 31 "law.go:185" #[eD 0, eD 2, eD 4], none⟩,
 ⟨(opBin (some 122) .eql 31 (.tmp 121) (.const (Value.int IntKind.i64 0)) 31 4 "law.go:185" #[eD 5]).op, none⟩,
 ⟨(opMove (some 123) (.tmp 122) 4 "law.go:185" #[eD 6, eC 5]).op, none⟩,
 ⟨(opMove (some 124) (.tmp 9) 4 "law.go:185" #[eG 7]).op, (some (7, 123, true))⟩,
 ⟨(opMove (some 125) (.tmp 124) 4 "law.go:185" #[eD 8, eC 7, eG 7]).op, (some (7, 123, true))⟩,
 ⟨(opMove (some 126) (.tmp 5) 26 "law.go:185" #[eG 9]).op, (some (9, 125, false))⟩,
 ⟨(opFieldAddr (some 127) 49 (.tmp 3) 2 2 2 true fl49_2 (by decide) 0 "law.go:185" #[eG 9]).op, (some (9, 125, false))⟩,
 ⟨(opLoadT (.agg [(.int .i64), (.int .i64)]) (some 128) 30 (.tmp 127) d30 ud30 2 sz30 (by kernel_rfl) 30 "law.go:185" #[eD 11, eG 9]).op, (some (9, 125, false))⟩,
 ⟨opCall (s13).orc (some 129) [(.tmp 126), (.tmp 128)] #[26, 30] 31 "law.go:185" #[eD 10, eD 12, eC 9, eG 9], (some (9, 125, false))⟩,
 ⟨(opBin (some 130) .neq 31 (.tmp 129) (.const (Value.int IntKind.i64 0)) 31 4 "law.go:185" #[eD 13, eG 9]).op, (some (9, 125, false))⟩,
 ⟨(opPick (some 131) (.tmp 125) (.const (Value.bool true)) (.tmp 130) 4 "law.go:185" #[eD 9, eD 14, eG 7]).op, (some (7, 123, true))⟩,
 ⟨(opPick (some 132) (.tmp 123) (.tmp 131) (.const (Value.bool false)) 4 "law.go:185" #[eD 7, eD 15]).op, none⟩
 ] (by kernel_rfl)))
 (.cond (.tmp 132)
 (.seq (.live [4] (.region 27 [
 ⟨(opAssign (some 4) (.const (Value.bool false)) 4 "law.go:186" #[]).op, none⟩
 ] (by kernel_rfl)))
 (.live [4] .ret))
 .skip)))
 .skip))))))))))
 (.seq (.live [4] (.region 28 [
 ⟨(opMove (some 133) (.tmp 5) 26 "law.go:189" #[]).op, none⟩,
 ⟨(opCallQ q17 (some 134) [(.tmp 133)] #[26] 22 "law.go:189" #[eD 0]).op, none⟩,
 ⟨(opMove (some 135) (.tmp 7) 22 "law.go:189" #[]).op, none⟩,
 ⟨(opCallP p18 (some 136) [(.tmp 134), (.tmp 135)] #[22, 22] 4 "law.go:189" #[eD 1, eD 2, eC 1]).op, none⟩,
 ⟨(opAssign (some 4) (.tmp 136) 4 "law.go:189" #[eD 3, eC 3, eP 0, eP 1, eP 2, eP 3]).op, none⟩
 ] (by kernel_rfl)))
 (.live [4] .ret)))))

noncomputable def f5_b : Sim Try.prog :=
 (.seq (.live [0, 3] (.region 0 [
 ⟨(opBoxF (some 3) 49 (.tmp 1) 0 "law.go:154" #[]).op, none⟩,
 ⟨(opAssign (some 4) (.const (Value.bool false)) 4 "law.go:154" #[]).op, none⟩
 ] (by kernel_rfl)))
 (.seq (.seq (.live [0, 3, 13] (.region 1 [
 ⟨(opCallP p9 (some 12) [] #[] 4 "law.go:155" #[]).op, none⟩,
 ⟨(opNot (some 13) 4 (.tmp 12) 4 "law.go:155" #[eD 0]).op, none⟩
 ] (by kernel_rfl)))
 (.cond (.tmp 13)
 (.seq (.live [4] (.region 2 [
 ⟨(opAssign (some 4) (.const (Value.bool false)) 4 "law.go:156" #[]).op, none⟩
 ] (by kernel_rfl)))
 (.live [4] .ret))
 .skip))
 (.seq (.seq (.live [0, 3, 21] (.region 3 [
 ⟨(opMove (some 14) (.tmp 0) 47 "law.go:158" #[]).op, none⟩,
 ⟨(opCallP p20 (some 15) [(.tmp 14)] #[47] 4 "law.go:158" #[eD 0]).op, none⟩,
 ⟨(opMove (some 16) (.tmp 15) 4 "law.go:158" #[eD 1, eC 1]).op, none⟩,
 ⟨(opFieldAddr (some 17) 49 (.tmp 3) 3 4 1 false fl49_3 (by decide) 0 "law.go:158" #[eG 2]).op, (some (2, 16, false))⟩,
 ⟨(opLoadT (.one .any) (some 18) 34 (.tmp 17) (.slice 5) Try.underlying34 1 sz34 (by kernel_rfl) 34 "law.go:158" #[eD 3, eG 2]).op, (some (2, 16, false))⟩,
 ⟨(opLen (some 19) (.tmp 18) 34 (.slice 5) Try.underlying34 3 "law.go:158" #[eD 4, eG 2]).op, (some (2, 16, false))⟩,
 ⟨(opBin (some 20) .gtr 3 (.tmp 19) (.const (Value.int IntKind.i64 500)) 3 4 "law.go:158" #[eD 5, eG 2]).op, (some (2, 16, false))⟩,
 ⟨(opPick (some 21) (.tmp 16) (.const (Value.bool true)) (.tmp 20) 4 "law.go:158" #[eD 2, eD 6]).op, none⟩
 ] (by kernel_rfl)))
 (.cond (.tmp 21)
 (.seq (.live [4] (.region 4 [
 ⟨(opAssign (some 4) (.const (Value.bool true)) 4 "law.go:159" #[]).op, none⟩
 ] (by kernel_rfl)))
 (.live [4] .ret))
 .skip))
 (.seq (.live [0, 3, 5] (.region 5 [
 ⟨opCall (s11).orc (some 22) [] #[] 26 "law.go:161" #[], none⟩,
 ⟨(opAssign (some 5) (.tmp 22) 26 "law.go:161" #[eD 0, eC 0, eP 0]).op, none⟩
 ] (by kernel_rfl)))
 (.seq (.seq (.live [0, 3, 5, 6] (.region 6 [
 ⟨(opAssign (some 6) (.const (Value.int IntKind.i64 0)) 3 "law.go:162" #[]).op, none⟩
 ] (by kernel_rfl)))
 (.block 0 (.loop [0, 3, 5, 6] f5_l0)))
 f5_r0)))))

noncomputable def f5 : Fun Try.prog where
 id := 5
 fn := Try.f5
 hf := Try.func5
 hname := by kernel_rfl
 body := f5_b
 hbody := by kernel_rfl
 res := [rTmp 4]
 hres := by kernel_rfl
 n := 137
 hn := by kernel_rfl

end Go.Proofs.Ytljigmghdpkdlaa.V

/- What the functions' runs come to; the right sides were printed by a tool, Lean checks them. -/
set_option linter.unusedVariables false
set_option maxRecDepth 100000
namespace Go.Proofs.Ytljigmghdpkdlaa.V
open Go Go.V Go.RowKit

end Go.Proofs.Ytljigmghdpkdlaa.V

/- Heap: HeapFirst is true. -/
set_option linter.unusedVariables false
namespace Go.Proofs.Ytljigmghdpkdlaa.V
open Go Go.V Go.RowKit

/-- The slot that Add fills. -/
theorem Hp.get_add {X : Hp} (h : X.Fine) {b : List Nat} {k : Nat} {q : List Nat} (hk : k < 256) (hq : PgB q) (hs : ofS q = withS (ofS (X.at_ k)) (freeK (ofS (X.at_ k))) (some b)) : (X.set k q).get (k : Int) (freeK (ofS (X.at_ k)) : Int) = some b := by
  obtain ⟨s1, s2, s3, s4⟩ := Hp.set_spec h.ok hq (show k < 300 by omega)
  rw [Hp.get_eq, if_pos (by omega), Int.toNat_natCast, s3, if_pos rfl, getP_nat, hs, getS_with, if_pos rfl]
end Go.Proofs.Ytljigmghdpkdlaa.V

/- What the functions' runs come to; the right sides were printed by a tool, Lean checks them. -/
set_option linter.unusedVariables false
set_option maxRecDepth 100000
namespace Go.Proofs.Ytljigmghdpkdlaa.V
open Go Go.V Go.RowKit

theorem undo_run (F : Nat) (z y : Bool) (l b : List (List AV)) (w c p s : Int) :
 (f5.run F [.ns z 5 l, .agg [.int .i64 w, .int .i64 c, .int .i64 p, .int .i64 s, .ns y 1 b]] ⟨[], []⟩ : Ans) =
 branch (AV.bool (okCs l))
 (branch (AV.bool (greatV l)) (some (Fin.ret (AV.bool true), St.mk [] []))
 (branch (AV.bool (decide ((↑b.length : Int) > (500 : Int)))) (some (Fin.ret (AV.bool true), St.mk [] []))
 (loopRun (f5_l0.run F) [0, 3, 5, 6]
 (Cont.block 0 (Cont.then (f5_r0.run F (f5.leaveK Fun.done)) (f5.leaveK Fun.done))) F
 (Env.mk 137
 [(0, AV.ns z 5 l),
 (3,
 AV.eptr
 [AV.int IntKind.i64 w, AV.int IntKind.i64 c, AV.int IntKind.i64 p, AV.int IntKind.i64 s,
 AV.ns y 1 b]),
 (5, AV.ptr 0 0), (6, AV.int IntKind.i64 (0 : Int))])
 (St.mk [hpA.ob 0 hp0 0, hpA.ob 0 hp0 1, hpA.ob 0 hp0 2] []))))
 none := by kernel_rfl

theorem undo_round (F m i : Nat) (z : Bool) (l : List (List AV)) (x : AV) (X : Hp) (K : Cont) :
 (loopRun (f5_l0.run F) [0, 3, 5, 6] K m.succ (Env.mk 137 [(0, .ns z 5 l), (3, x), (5, .ptr 0 0), (6, .int .i64 (i : Int))]) ⟨[hpA.ob 0 X 0, hpA.ob 0 X 1, hpA.ob 0 X 2], []⟩ : Ans) =
 branch (AV.bool (decide ((↑i : Int) < (↑l.length : Int))))
 (branch (AV.bool (inR l (↑i : Int)))
 (branch (AV.bool ((LD.one (LT.ns 1)).is (List.drop 4 (V.rowAt l (↑i : Int)))))
 (onSome
 (hpA.G 0 [hpA.ob 0 X 0, hpA.ob 0 X 1, hpA.ob 0 X 2])
 none fun (o : Hp) =>
 branch (AV.bool (byOk (rwA (List.drop 4 (V.rowAt l (↑i : Int))))))
 (loopRun (f5_l0.run F) [0, 3, 5, 6] K m
 (Env.mk 137
 [(0, AV.ns z 5 l), (3, x), (5, AV.ptr 0 0),
 (6, AV.int IntKind.i64 (IntKind.i64.wrap ((↑i : Int) + (1 : Int))))])
 (St.mk
 [hpA.ob 0 (o.addO (nR (rwA (List.drop 4 (V.rowAt l (↑i : Int)))))) 0,
 hpA.ob 0 (o.addO (nR (rwA (List.drop 4 (V.rowAt l (↑i : Int)))))) 1,
 hpA.ob 0 (o.addO (nR (rwA (List.drop 4 (V.rowAt l (↑i : Int)))))) 2]
 []))
 none)
 none)
 none)
 (K (AX.exit 0) (Env.mk 137 [(3, x), (5, AV.ptr 0 0)])
 (St.mk [hpA.ob 0 X 0, hpA.ob 0 X 1, hpA.ob 0 X 2] [])) := by kernel_rfl

theorem undo_out (F : Nat) (y : Bool) (b : List (List AV)) (w c p s : Int) (X : Hp) :
 ((Cont.block 0 (Cont.then (f5_r0.run F (f5.leaveK Fun.done)) (f5.leaveK Fun.done))) (.exit 0) (Env.mk 137 [(3, .eptr [.int .i64 w, .int .i64 c, .int .i64 p, .int .i64 s, .ns y 1 b]), (5, .ptr 0 0)]) ⟨[hpA.ob 0 X 0, hpA.ob 0 X 1, hpA.ob 0 X 2], []⟩ : Ans) =
 onSome (hpA.G 0 [hpA.ob 0 X 0, hpA.ob 0 X 1, hpA.ob 0 X 2]) none
 fun (o : Hp) =>
 onSome (hpA.G 0 [hpA.ob 0 X 0, hpA.ob 0 X 1, hpA.ob 0 X 2])
 none fun (o_1 : Hp) =>
 branch (AV.bool (w == (0 : Int)))
 (onSome
 (hpA.G 0 [hpA.ob 0 X 0, hpA.ob 0 X 1, hpA.ob 0 X 2])
 none fun (o_2 : Hp) =>
 branch (AV.bool (byOk b))
 (branch (AV.bool (o_2.addE (nR b) == (0 : Int)))
 (onSome
 (hpA.G 0
 [hpA.ob 0 (o_2.addO (nR b)) 0, hpA.ob 0 (o_2.addO (nR b)) 1,
 hpA.ob 0 (o_2.addO (nR b)) 2])
 none fun (o_3 : Hp) =>
 branch (AV.bool (o_3.cutE (o_2.addR (nR b)) (o_2.addS (nR b)) != (0 : Int)))
 (some
 (Fin.ret (AV.bool false),
 St.mk
 [hpA.ob 0 (o_3.cutO (o_2.addR (nR b)) (o_2.addS (nR b))) 0,
 hpA.ob 0 (o_3.cutO (o_2.addR (nR b)) (o_2.addS (nR b))) 1,
 hpA.ob 0 (o_3.cutO (o_2.addR (nR b)) (o_2.addS (nR b))) 2]
 []))
 (onSome
 (hpA.G 0
 [hpA.ob 0 (o_3.cutO (o_2.addR (nR b)) (o_2.addS (nR b))) 0,
 hpA.ob 0 (o_3.cutO (o_2.addR (nR b)) (o_2.addS (nR b))) 1,
 hpA.ob 0 (o_3.cutO (o_2.addR (nR b)) (o_2.addS (nR b))) 2])
 none fun (o_4 : Hp) =>
 branch (AV.bool (okBs (pgsV o_4.pg_) && okBs (pgsV o.pg_)))
 (some
 (Fin.ret (AV.bool (bsR (pgsV o_4.pg_) == bsR (pgsV o.pg_))),
 St.mk
 [hpA.ob 0 (o_3.cutO (o_2.addR (nR b)) (o_2.addS (nR b))) 0,
 hpA.ob 0 (o_3.cutO (o_2.addR (nR b)) (o_2.addS (nR b))) 1,
 hpA.ob 0 (o_3.cutO (o_2.addR (nR b)) (o_2.addS (nR b))) 2]
 []))
 none))
 (onSome
 (hpA.G 0
 [hpA.ob 0 (o_2.addO (nR b)) 0, hpA.ob 0 (o_2.addO (nR b)) 1,
 hpA.ob 0 (o_2.addO (nR b)) 2])
 none fun (o_3 : Hp) =>
 branch (AV.bool (okBs (pgsV o_3.pg_) && okBs (pgsV o.pg_)))
 (some
 (Fin.ret (AV.bool (bsR (pgsV o_3.pg_) == bsR (pgsV o.pg_))),
 St.mk
 [hpA.ob 0 (o_2.addO (nR b)) 0, hpA.ob 0 (o_2.addO (nR b)) 1,
 hpA.ob 0 (o_2.addO (nR b)) 2]
 []))
 none))
 none)
 (branch (AV.bool (w == (1 : Int)))
 (onSome
 (hpA.G 0 [hpA.ob 0 X 0, hpA.ob 0 X 1, hpA.ob 0 X 2])
 none fun (o_2 : Hp) =>
 branch (AV.bool (byOk b && apOk b.length 1))
 (branch (AV.bool (o_2.putE p s (nR b) == (0 : Int)))
 (branch (AV.bool !oB (o_1.get p s))
 (some
 (Fin.ret (AV.bool false),
 St.mk
 [hpA.ob 0 (o_2.putO p s (nR b)) 0,
 hpA.ob 0 (o_2.putO p s (nR b)) 1,
 hpA.ob 0 (o_2.putO p s (nR b)) 2]
 []))
 (onSome
 (hpA.G 0
 [hpA.ob 0 (o_2.putO p s (nR b)) 0, hpA.ob 0 (o_2.putO p s (nR b)) 1,
 hpA.ob 0 (o_2.putO p s (nR b)) 2])
 none fun (o_3 : Hp) =>
 branch (AV.bool (byOk (oR (o_1.get p s)) && apOk (oR (o_1.get p s)).length 1))
 (branch (AV.bool (o_3.putE p s (nR (oR (o_1.get p s))) != (0 : Int)))
 (some
 (Fin.ret (AV.bool false),
 St.mk
 [hpA.ob 0 (o_3.putO p s (nR (oR (o_1.get p s)))) 0,
 hpA.ob 0 (o_3.putO p s (nR (oR (o_1.get p s)))) 1,
 hpA.ob 0 (o_3.putO p s (nR (oR (o_1.get p s)))) 2]
 []))
 (onSome
 (hpA.G 0
 [hpA.ob 0 (o_3.putO p s (nR (oR (o_1.get p s)))) 0,
 hpA.ob 0 (o_3.putO p s (nR (oR (o_1.get p s)))) 1,
 hpA.ob 0 (o_3.putO p s (nR (oR (o_1.get p s)))) 2])
 none fun (o_4 : Hp) =>
 branch (AV.bool (okBs (pgsV o_4.pg_) && okBs (pgsV o.pg_)))
 (some
 (Fin.ret (AV.bool (bsR (pgsV o_4.pg_) == bsR (pgsV o.pg_))),
 St.mk
 [hpA.ob 0 (o_3.putO p s (nR (oR (o_1.get p s)))) 0,
 hpA.ob 0 (o_3.putO p s (nR (oR (o_1.get p s)))) 1,
 hpA.ob 0 (o_3.putO p s (nR (oR (o_1.get p s)))) 2]
 []))
 none))
 none))
 (onSome
 (hpA.G 0
 [hpA.ob 0 (o_2.putO p s (nR b)) 0, hpA.ob 0 (o_2.putO p s (nR b)) 1,
 hpA.ob 0 (o_2.putO p s (nR b)) 2])
 none fun (o_3 : Hp) =>
 branch (AV.bool (okBs (pgsV o_3.pg_) && okBs (pgsV o.pg_)))
 (some
 (Fin.ret (AV.bool (bsR (pgsV o_3.pg_) == bsR (pgsV o.pg_))),
 St.mk
 [hpA.ob 0 (o_2.putO p s (nR b)) 0,
 hpA.ob 0 (o_2.putO p s (nR b)) 1,
 hpA.ob 0 (o_2.putO p s (nR b)) 2]
 []))
 none))
 none)
 (branch (AV.bool (w == (2 : Int)))
 (onSome
 (hpA.G 0 [hpA.ob 0 X 0, hpA.ob 0 X 1, hpA.ob 0 X 2])
 none fun (o_2 : Hp) =>
 branch (AV.bool (o_2.cutE p s == (0 : Int)))
 (branch (AV.bool !oB (o_1.get p s))
 (some
 (Fin.ret (AV.bool false),
 St.mk
 [hpA.ob 0 (o_2.cutO p s) 0, hpA.ob 0 (o_2.cutO p s) 1,
 hpA.ob 0 (o_2.cutO p s) 2]
 []))
 (onSome
 (hpA.G 0
 [hpA.ob 0 (o_2.cutO p s) 0, hpA.ob 0 (o_2.cutO p s) 1,
 hpA.ob 0 (o_2.cutO p s) 2])
 none fun (o_3 : Hp) =>
 branch (AV.bool (byOk (oR (o_1.get p s)) && apOk (oR (o_1.get p s)).length 1))
 (branch (AV.bool (o_3.resE p s (nR (oR (o_1.get p s))) != (0 : Int)))
 (some
 (Fin.ret (AV.bool false),
 St.mk
 [hpA.ob 0 (o_3.resO p s (nR (oR (o_1.get p s)))) 0,
 hpA.ob 0 (o_3.resO p s (nR (oR (o_1.get p s)))) 1,
 hpA.ob 0 (o_3.resO p s (nR (oR (o_1.get p s)))) 2]
 []))
 (onSome
 (hpA.G 0
 [hpA.ob 0 (o_3.resO p s (nR (oR (o_1.get p s)))) 0,
 hpA.ob 0 (o_3.resO p s (nR (oR (o_1.get p s)))) 1,
 hpA.ob 0 (o_3.resO p s (nR (oR (o_1.get p s)))) 2])
 none fun (o_4 : Hp) =>
 branch (AV.bool (okBs (pgsV o_4.pg_) && okBs (pgsV o.pg_)))
 (some
 (Fin.ret (AV.bool (bsR (pgsV o_4.pg_) == bsR (pgsV o.pg_))),
 St.mk
 [hpA.ob 0 (o_3.resO p s (nR (oR (o_1.get p s)))) 0,
 hpA.ob 0 (o_3.resO p s (nR (oR (o_1.get p s)))) 1,
 hpA.ob 0 (o_3.resO p s (nR (oR (o_1.get p s)))) 2]
 []))
 none))
 none))
 (onSome
 (hpA.G 0
 [hpA.ob 0 (o_2.cutO p s) 0, hpA.ob 0 (o_2.cutO p s) 1,
 hpA.ob 0 (o_2.cutO p s) 2])
 none fun (o_3 : Hp) =>
 branch (AV.bool (okBs (pgsV o_3.pg_) && okBs (pgsV o.pg_)))
 (some
 (Fin.ret (AV.bool (bsR (pgsV o_3.pg_) == bsR (pgsV o.pg_))),
 St.mk
 [hpA.ob 0 (o_2.cutO p s) 0, hpA.ob 0 (o_2.cutO p s) 1,
 hpA.ob 0 (o_2.cutO p s) 2]
 []))
 none))
 (branch (AV.bool (w == (3 : Int)))
 (branch (AV.bool (decide (p > (20 : Int))))
 (branch (AV.bool (decide (p < (256 : Int))))
 (some
 (Fin.ret (AV.bool true),
 St.mk [hpA.ob 0 X 0, hpA.ob 0 X 1, hpA.ob 0 X 2]
 []))
 (onSome
 (hpA.G 0
 [hpA.ob 0 X 0, hpA.ob 0 X 1, hpA.ob 0 X 2])
 none fun (o_2 : Hp) =>
 branch (AV.bool (byOk b && apOk b.length 1))
 (branch (AV.bool (o_2.resE p s (nR b) == (0 : Int)))
 (branch (AV.bool (oB (o_1.get p s)))
 (some
 (Fin.ret (AV.bool false),
 St.mk
 [hpA.ob 0 (o_2.resO p s (nR b)) 0,
 hpA.ob 0 (o_2.resO p s (nR b)) 1,
 hpA.ob 0 (o_2.resO p s (nR b)) 2]
 []))
 (onSome
 (hpA.G 0
 [hpA.ob 0 (o_2.resO p s (nR b)) 0,
 hpA.ob 0 (o_2.resO p s (nR b)) 1,
 hpA.ob 0 (o_2.resO p s (nR b)) 2])
 none fun (o_3 : Hp) =>
 branch (AV.bool (o_3.cutE p s != (0 : Int)))
 (some
 (Fin.ret (AV.bool false),
 St.mk
 [hpA.ob 0 (o_3.cutO p s) 0, hpA.ob 0 (o_3.cutO p s) 1,
 hpA.ob 0 (o_3.cutO p s) 2]
 []))
 (onSome
 (hpA.G 0
 [hpA.ob 0 (o_3.cutO p s) 0, hpA.ob 0 (o_3.cutO p s) 1,
 hpA.ob 0 (o_3.cutO p s) 2])
 none fun (o_4 : Hp) =>
 branch (AV.bool (okBs (pgsV o_4.pg_) && okBs (pgsV o.pg_)))
 (some
 (Fin.ret (AV.bool (bsR (pgsV o_4.pg_) == bsR (pgsV o.pg_))),
 St.mk
 [hpA.ob 0 (o_3.cutO p s) 0,
 hpA.ob 0 (o_3.cutO p s) 1,
 hpA.ob 0 (o_3.cutO p s) 2]
 []))
 none)))
 (onSome
 (hpA.G 0
 [hpA.ob 0 (o_2.resO p s (nR b)) 0,
 hpA.ob 0 (o_2.resO p s (nR b)) 1,
 hpA.ob 0 (o_2.resO p s (nR b)) 2])
 none fun (o_3 : Hp) =>
 branch (AV.bool (okBs (pgsV o_3.pg_) && okBs (pgsV o.pg_)))
 (some
 (Fin.ret (AV.bool (bsR (pgsV o_3.pg_) == bsR (pgsV o.pg_))),
 St.mk
 [hpA.ob 0 (o_2.resO p s (nR b)) 0,
 hpA.ob 0 (o_2.resO p s (nR b)) 1,
 hpA.ob 0 (o_2.resO p s (nR b)) 2]
 []))
 none))
 none))
 (onSome
 (hpA.G 0
 [hpA.ob 0 X 0, hpA.ob 0 X 1, hpA.ob 0 X 2])
 none fun (o_2 : Hp) =>
 branch (AV.bool (byOk b && apOk b.length 1))
 (branch (AV.bool (o_2.resE p s (nR b) == (0 : Int)))
 (branch (AV.bool (oB (o_1.get p s)))
 (some
 (Fin.ret (AV.bool false),
 St.mk
 [hpA.ob 0 (o_2.resO p s (nR b)) 0,
 hpA.ob 0 (o_2.resO p s (nR b)) 1,
 hpA.ob 0 (o_2.resO p s (nR b)) 2]
 []))
 (onSome
 (hpA.G 0
 [hpA.ob 0 (o_2.resO p s (nR b)) 0,
 hpA.ob 0 (o_2.resO p s (nR b)) 1,
 hpA.ob 0 (o_2.resO p s (nR b)) 2])
 none fun (o_3 : Hp) =>
 branch (AV.bool (o_3.cutE p s != (0 : Int)))
 (some
 (Fin.ret (AV.bool false),
 St.mk
 [hpA.ob 0 (o_3.cutO p s) 0, hpA.ob 0 (o_3.cutO p s) 1,
 hpA.ob 0 (o_3.cutO p s) 2]
 []))
 (onSome
 (hpA.G 0
 [hpA.ob 0 (o_3.cutO p s) 0, hpA.ob 0 (o_3.cutO p s) 1,
 hpA.ob 0 (o_3.cutO p s) 2])
 none fun (o_4 : Hp) =>
 branch (AV.bool (okBs (pgsV o_4.pg_) && okBs (pgsV o.pg_)))
 (some
 (Fin.ret (AV.bool (bsR (pgsV o_4.pg_) == bsR (pgsV o.pg_))),
 St.mk
 [hpA.ob 0 (o_3.cutO p s) 0,
 hpA.ob 0 (o_3.cutO p s) 1,
 hpA.ob 0 (o_3.cutO p s) 2]
 []))
 none)))
 (onSome
 (hpA.G 0
 [hpA.ob 0 (o_2.resO p s (nR b)) 0,
 hpA.ob 0 (o_2.resO p s (nR b)) 1,
 hpA.ob 0 (o_2.resO p s (nR b)) 2])
 none fun (o_3 : Hp) =>
 branch (AV.bool (okBs (pgsV o_3.pg_) && okBs (pgsV o.pg_)))
 (some
 (Fin.ret (AV.bool (bsR (pgsV o_3.pg_) == bsR (pgsV o.pg_))),
 St.mk
 [hpA.ob 0 (o_2.resO p s (nR b)) 0,
 hpA.ob 0 (o_2.resO p s (nR b)) 1,
 hpA.ob 0 (o_2.resO p s (nR b)) 2]
 []))
 none))
 none))
 (onSome
 (hpA.G 0
 [hpA.ob 0 X 0, hpA.ob 0 X 1, hpA.ob 0 X 2])
 none fun (o_2 : Hp) =>
 branch (AV.bool (okBs (pgsV o_2.pg_) && okBs (pgsV o.pg_)))
 (some
 (Fin.ret (AV.bool (bsR (pgsV o_2.pg_) == bsR (pgsV o.pg_))),
 St.mk [hpA.ob 0 X 0, hpA.ob 0 X 1, hpA.ob 0 X 2]
 []))
 none)))) := by kernel_rfl

end Go.Proofs.Ytljigmghdpkdlaa.V

/- Heap: HeapUndo is true. -/
set_option linter.unusedVariables false
namespace Go.Proofs.Ytljigmghdpkdlaa.V
open Go Go.V Go.RowKit

/-- A slot's old row put back. -/
theorem put_back {p q : List Nat} (hp : PgB p) (hq : PgB q) {n : Nat} (hn : n ≤ 250) {o : Option (List Nat)} {b : List Nat} (h : ofS q = withS (ofS p) n o) (hg : getS (ofS p) n = some b) : putP q (n : Int) b = some p := by
  obtain ⟨_, _, h2, h3, h4⟩ := hp.1.slots
  rw [putP, if_pos hq.1.2.2, h, putS, if_pos ⟨by omega, by omega⟩, Int.toNat_natCast, with_back h3 n (some b) hg, toP, if_pos h2, h4]
theorem getP_slot {p : List Nat} (hp : PgB p) {s : Int} {b : List Nat} (h : getP (ofS p) s = some b) : ∃ n : Nat, s = n ∧ n ≤ 250 ∧ getS (ofS p) n = some b ∧ (∀ x ∈ b, x < 256) ∧ b.length ≤ 200 := by
  have hs := getP_bound (s := ofS p) (i := s) (by rw [h]; rfl)
  obtain ⟨n, rfl⟩ := Int.eq_ofNat_of_zero_le hs.1
  have h1 := hs.2
  rw [Int.toNat_natCast] at h1
  rw [getP_nat] at h
  have h2 := hp.2
  refine ⟨n, rfl, by omega, h, (getS_ok hp.1.slots.2.1 h).1, ?_⟩
  rw [getS_lt h1] at h
  have := (pgOk_iff.mp hp.1.slots.2.2.1).2 (some b) (by rw [← h]; exact List.getElem_mem h1)
  exact this
/-- Two heaps that differ in one page at most, and not there. -/
theorem Hp.same_pages {X Y : Hp} (hX : X.Fine) (hY : Y.Fine) {k : Nat} (h1 : ∀ i, i ≠ k → Y.at_ i = X.at_ i) (h2 : ofS (Y.at_ k) = ofS (X.at_ k)) : Y.pg_ = X.pg_ := by
  refine Hp.pages_ext hY.ok hX.ok hY.ti hX.ti fun i => ?_
  by_cases hi : i = k
  · subst hi; exact (Hp.at_ok hY.ok i).1.inj (Hp.at_ok hX.ok i).1 h2
  · exact h1 i hi
theorem Hp.undo_add {X : Hp} (h : X.Fine) {b : List Nat} (hb : ∀ x ∈ b, x < 256) (he : X.addE b = 0) : (X.add b).cutE (X.addR b) (X.addS b) = 0 ∧ ((X.add b).cutH (X.addR b) (X.addS b)).pg_ = X.pg_ := by
  rcases Hp.add_fine h hb with ⟨_, _, e, _⟩ | ⟨e0, e1, e2, e3, e4, e5, q, e6, e7, e8, e9⟩
  · exact absurd he e
  · obtain ⟨f2, _⟩ := h.add hb
    have hg := Hp.get_add h e1 e7 e8
    obtain ⟨s1, s2, s3, s4⟩ := Hp.set_spec h.ok e7 (show X.k b < 300 by omega)
    rw [← e9] at hg s3
    obtain ⟨c1, c2, c3⟩ := Hp.cut_fine f2 hg
    have f3 := f2.cut (X.k b : Int) (freeK (ofS (X.at_ (X.k b))) : Int)
    rw [e3, e4]
    refine ⟨c1, Hp.same_pages (k := X.k b) h f3 (fun i hi => ?_) ?_⟩
    · rw [c2 i (by simpa using hi), s3, if_neg hi]
    · have := c3
      simp only [Int.toNat_natCast] at this
      have hfree : getS (ofS (X.at_ (X.k b))) (freeK (ofS (X.at_ (X.k b)))) = none := by
        cases ha : (ofS (X.at_ (X.k b))).any (·.isNone) with
        | true => obtain ⟨hk, hn⟩ := free_at ha; rw [getS_lt hk, hn]
        | false => rw [freeK_none ha]; exact getS_ge (Nat.le_refl _)
      rw [this, s3, if_pos rfl, e8, with_back (Hp.at_ok h.ok _).1.slots.2.2.2.1 _ none hfree]
theorem Hp.undo_put {X : Hp} (h : X.Fine) (p s : Int) {b : List Nat} (hb : ∀ x ∈ b, x < 256) (hbl : b.length < 4611686018427387904) :
    (X.putE p s b ≠ 0 ∧ X.putH p s b = X) ∨ (X.putE p s b = 0 ∧ ∃ c, X.get p s = some c ∧ (∀ x ∈ c, x < 256) ∧ c.length ≤ 200 ∧ (X.putH p s b).putE p s c = 0 ∧ ((X.putH p s b).putH p s c).pg_ = X.pg_) := by
  cases hg : X.get p s with
  | none => left; rw [Hp.putE, Hp.putH, hg, opq_eq]; exact ⟨by simp, rfl⟩
  | some c =>
    cases hq : putP (X.at_ p.toNat) s b with
    | none => left; rw [Hp.putE, Hp.putH, hg, hq, opq_eq]; exact ⟨by simp, rfl⟩
    | some q =>
      right
      obtain ⟨g1, g2, g3, g4⟩ := Hp.get_some hg
      have hlt := Hp.get_lt h.ok hg
      have hP := Hp.at_ok h.ok p.toNat
      obtain ⟨k1, k2, k3, k4⟩ := hP.put hb hbl hq
      obtain ⟨n, rfl, n1, n2, n3, n4⟩ := getP_slot hP g4
      rw [Int.toNat_natCast] at k2
      obtain ⟨s1, s2, s3, s4⟩ := Hp.set_spec h.ok k1 (show p.toNat < 300 by omega)
      have e : X.putH p n b = X.set p.toNat q := by rw [Hp.putH, hg, hq]; rfl
      have f2 := h.put p n hb hbl
      have f3 := f2.put p n n3 (by omega)
      have hb2 := put_back hP k1 n1 k2 n2
      rw [e] at f2 f3 ⊢
      have hg2 : (X.set p.toNat q).get p n = some b := by
        rw [Hp.get_eq, if_pos g1, s3, if_pos rfl, getP_nat, k2, getS_with, if_pos rfl]
      have hq2 : putP ((X.set p.toNat q).at_ p.toNat) n c = some (X.at_ p.toNat) := by rw [s3, if_pos rfl]; exact hb2
      obtain ⟨t1, t2, t3, t4⟩ := Hp.set_spec s1 hP (show p.toNat < 300 by omega)
      have e2 : (X.set p.toNat q).putH p n c = (X.set p.toNat q).set p.toNat (X.at_ p.toNat) := by rw [Hp.putH, hg2, hq2]; rfl
      rw [e2] at f3
      refine ⟨by rw [Hp.putE, hg, hq, opq_eq]; rfl, c, rfl, n3, n4, by rw [Hp.putE, hg2, hq2, opq_eq]; rfl, ?_⟩
      rw [e2]
      refine Hp.same_pages (k := p.toNat) h f3 (fun i hi => ?_) ?_
      · rw [t3, if_neg hi, s3, if_neg hi]
      · rw [t3, if_pos rfl]
theorem Hp.undo_cut {X : Hp} (h : X.Fine) (p s : Int) :
    (X.cutE p s ≠ 0 ∧ X.cutH p s = X) ∨ (X.cutE p s = 0 ∧ ∃ c, X.get p s = some c ∧ (∀ x ∈ c, x < 256) ∧ c.length ≤ 200 ∧ (X.cutH p s).resE p s c = 0 ∧ ((X.cutH p s).resH p s c).pg_ = X.pg_) := by
  cases hg : X.get p s with
  | none => left; rw [Hp.cutE, Hp.cutH, hg, opq_eq]; exact ⟨by simp, rfl⟩
  | some c =>
    right
    obtain ⟨g1, g2, g3, g4⟩ := Hp.get_some hg
    have hlt : p < 256 := by have := Hp.pg_len h.ok; have := h.n; omega
    have hP := Hp.at_ok h.ok p.toNat
    obtain ⟨c1, c2, c3⟩ := Hp.cut_fine h hg
    have f2 := h.cut p s
    obtain ⟨n, rfl, n1, n2, n3, n4⟩ := getP_slot hP g4
    rw [Int.toNat_natCast] at c3
    have hb2 := put_back hP (Hp.at_ok f2.ok p.toNat) n1 c3 n2
    have hg2 : (X.cutH p n).get p n = none := by
      rw [Hp.get_eq, if_pos g1, getP_nat, c3, getS_with, if_pos rfl]
    obtain ⟨r1, r2, r3, r4⟩ := Hp.res_fine f2 n3 (by omega) hg2 ⟨g1, by omega, hlt, by omega⟩ hb2
    have f3 := f2.res p n n3 (by omega)
    refine ⟨c1, c, rfl, n3, n4, r1, ?_⟩
    obtain ⟨t1, t2, t3, t4⟩ := Hp.set_spec f2.ok hP (show p.toNat < 300 by omega)
    rw [r2] at f3 ⊢
    refine Hp.same_pages (k := p.toNat) h f3 (fun i hi => ?_) ?_
    · rw [t3, if_neg hi, c2 i hi]
    · rw [t3, if_pos rfl]
theorem Hp.undo_res {X : Hp} (h : X.Fine) (p s : Int) {b : List Nat} (hb : ∀ x ∈ b, x < 256) (hbl : b.length < 4611686018427387904) :
    (X.resE p s b ≠ 0 ∧ X.resH p s b = X) ∨ (X.resE p s b = 0 ∧ X.get p s = none ∧ (X.resH p s b).cutE p s = 0 ∧ ((X.resH p s b).cutH p s).pg_ = X.pg_) := by
  cases hg : X.get p s with
  | some c => left; rw [Hp.resE, Hp.resH, hg, opq_eq]; exact ⟨by simp, rfl⟩
  | none =>
    cases hr : Hp.resB p s with
    | false => left; rw [Hp.resE, Hp.resH, hg, hr, opq_eq]; exact ⟨by simp, rfl⟩
    | true =>
      cases hq : putP (X.at_ p.toNat) s b with
      | none => left; rw [Hp.resE, Hp.resH, hg, hr, hq, opq_eq]; exact ⟨by simp, rfl⟩
      | some q =>
        right
        rw [Hp.resB, decide_eq_true_eq] at hr
        obtain ⟨r1, r2, r3, r4⟩ := Hp.res_fine h hb hbl hg hr hq
        have f2 := h.res p s hb hbl
        obtain ⟨n, rfl⟩ := Int.eq_ofNat_of_zero_le hr.2.1
        rw [Int.toNat_natCast] at r4
        obtain ⟨s1, s2, s3, s4⟩ := Hp.set_spec h.ok r3 (show p.toNat < 300 by omega)
        rw [r2] at f2 ⊢
        have hg2 : (X.set p.toNat q).get p n = some b := by
          rw [Hp.get_eq, if_pos hr.1, s3, if_pos rfl, getP_nat, r4, getS_with, if_pos rfl]
        obtain ⟨c1, c2, c3⟩ := Hp.cut_fine f2 hg2
        have f3 := f2.cut p n
        have hn : getS (ofS (X.at_ p.toNat)) n = none := by
          rw [Hp.get_eq, if_pos hr.1, getP_nat] at hg; exact hg
        refine ⟨r1, rfl, c1, Hp.same_pages (k := p.toNat) h f3 (fun i hi => ?_) ?_⟩
        · rw [c2 i hi, s3, if_neg hi]
        · rw [c3, s3, if_pos rfl, Int.toNat_natCast, r4, with_back (Hp.at_ok h.ok _).1.slots.2.2.2.1 _ none hn]

theorem isC_at {l : List (List AV)} (h : ∀ r ∈ l, isC r = true) {i : Nat} (hi : i < l.length) : inR l (i : Int) = true ∧ (LD.one (LT.ns 1)).is (List.drop 4 (V.rowAt l (i : Int))) = true ∧ byOk (rwA (List.drop 4 (V.rowAt l (i : Int)))) = true ∧ V.rowAt l (i : Int) = l[i] := by
  obtain ⟨a, c, p, s, z, d, hr, hd⟩ := isC_spec (h _ (List.getElem_mem hi))
  rw [rowAt_nat hi, hr]
  exact ⟨inR_nat hi, rfl, hd, rfl⟩
theorem undo_adds (F : Nat) (z : Bool) (l : List (List AV)) (x : AV) (hl : ∀ r ∈ l, isC r = true) (hn : l.length ≤ 80) : ∀ (d i m : Nat) (X : Hp), X.Fine → X.n ≤ i → i + d = l.length → d < m →
    ∃ Y : Hp, Y.Fine ∧ Y.n ≤ 80 ∧ ∀ K, loopRun (f5_l0.run F) [0, 3, 5, 6] K m (Env.mk 137 [(0, .ns z 5 l), (3, x), (5, .ptr 0 0), (6, .int .i64 (i : Int))]) ⟨[hpA.ob 0 X 0, hpA.ob 0 X 1, hpA.ob 0 X 2], []⟩
      = K (.exit 0) (Env.mk 137 [(3, x), (5, .ptr 0 0)]) ⟨[hpA.ob 0 Y 0, hpA.ob 0 Y 1, hpA.ob 0 Y 2], []⟩
  | d, i, 0, X, _, _, _, h => by omega
  | 0, i, m + 1, X, f, hx, hi, _ => ⟨X, f, by omega, fun K => by rw [show m + 1 = m.succ from rfl, undo_round, branch_not (decide_eq_false (by omega))]⟩
  | d + 1, i, m + 1, X, f, hx, hi, hm => by
    have hlt : i < l.length := by omega
    obtain ⟨a1, a2, a3, a4⟩ := isC_at hl hlt
    have hb : ∀ x ∈ nR (rwA (List.drop 4 (V.rowAt l (i : Int)))), x < 256 := fun x hx => okR_lt (byOk_iff.mp a3).1 hx
    obtain ⟨f', hn'⟩ := f.add hb
    obtain ⟨Y, k1, k2, k3⟩ := undo_adds F z l x hl hn d (i + 1) m _ f' (by omega) (by omega) (by omega)
    refine ⟨Y, k1, k2, fun K => ?_⟩
    rw [show m + 1 = m.succ from rfl, undo_round, branch_of (decide_eq_true (by omega)), branch_of a1, branch_of a2, hp_Gob f.ok, onSome_some, branch_of a3, wrap_succ (by omega), Hp.addO, opq_eq]
    exact k3 K
theorem undo_end {X Y : Hp} (hX : X.Fine) (hY : Y.Fine) (h : Y.pg_ = X.pg_) (st : St) : branch (.bool (okBs (pgsV Y.pg_) && okBs (pgsV X.pg_))) (some (Fin.ret (.bool (bsR (pgsV Y.pg_) == bsR (pgsV X.pg_))), st)) none = some (.ret (.bool true), st) := by
  have hl : X.pg_.length ≤ 300 := by have := Hp.pg_len hX.ok; have := hX.n; omega
  rw [h, branch_of (by rw [pgsV_ok (Hp.pg_ok hX.ok) hl]; rfl), beq_self_eq_true]
theorem undo_true (z y : Bool) (l b : List (List AV)) (w c p s : Int) (hl : okCs l = true) (hb : byOk b = true) : ∃ F st, f5.run F [.ns z 5 l, .agg [.int .i64 w, .int .i64 c, .int .i64 p, .int .i64 s, .ns y 1 b]] ⟨[], []⟩ = some (.ret (.bool true), st) := by
  refine ⟨1000, ?_⟩
  obtain ⟨l1, l2⟩ := okCs_iff.mp hl
  obtain ⟨b1, b2⟩ := byOk_iff.mp hb
  have hbl : ∀ x ∈ nR b, x < 256 := fun x hx => okR_lt b1 hx
  rw [undo_run, branch_of hl]
  cases hgr : greatV l with
  | true => rw [branch_true]; exact ⟨_, rfl⟩
  | false =>
  obtain ⟨g1, _⟩ := greatV_lt l1 hgr
  rw [branch_false]
  by_cases c3 : (b.length : Int) > 500
  · rw [branch_of (decide_eq_true c3)]; exact ⟨_, rfl⟩
  rw [branch_not (decide_eq_false c3)]
  have hbn : (nR b).length < 4611686018427387904 := by rw [nR_length]; exact b2
  have hap : (byOk b && apOk b.length 1) = true := by rw [hb, show apOk b.length 1 = true by rw [apOk_iff]; omega]; rfl
  obtain ⟨X, f, hn, hX⟩ := undo_adds 1000 z l (.eptr [.int .i64 w, .int .i64 c, .int .i64 p, .int .i64 s, .ns y 1 b]) l1 g1 l.length 0 1000 hp0 hp0_fine (Nat.le_refl _) (by omega) (by omega)
  rw [show (0 : Int) = ((0 : Nat) : Int) from rfl, hX, undo_out, hp_Gob f.ok, onSome_some, onSome_some]
  have hc : ∀ c : List Nat, (∀ x ∈ c, x < 256) → c.length ≤ 200 → (byOk (oR (some c)) && apOk (oR (some c)).length 1) = true := fun c h1 h2 => by
    rw [oR_some, byOk_bR h1 (by omega), bR_length, show apOk c.length 1 = true by rw [apOk_iff]; omega]; rfl
  cases w0 : (w == (0 : Int)) with
  | true =>
    obtain ⟨f2, _⟩ := f.add hbl
    rw [branch_true, onSome_some, branch_of hb, Hp.addO, opq_eq, hp_Gob f2.ok, onSome_some, onSome_some]
    by_cases he : X.addE (nR b) = 0
    · obtain ⟨u1, u2⟩ := Hp.undo_add f hbl he
      have f3 := f2.cut (X.addR (nR b)) (X.addS (nR b))
      rw [branch_of (by rw [he]; rfl), branch_not (by rw [u1]; rfl), Hp.cutO, opq_eq, hp_Gob f3.ok, onSome_some]
      exact ⟨_, undo_end f f3 u2 _⟩
    · rcases Hp.add_fine f hbl with ⟨_, e1, _⟩ | ⟨_, _, e2, _⟩
      · rw [branch_not (by simpa using he)]
        exact ⟨_, undo_end f f2 (by rw [e1]) _⟩
      · exact absurd e2 he
  | false =>
  rw [branch_false]
  cases w1 : (w == (1 : Int)) with
  | true =>
    have f2 := f.put p s hbl hbn
    rw [branch_true, onSome_some, branch_of hap, Hp.putO, opq_eq, hp_Gob f2.ok, onSome_some]
    rcases Hp.undo_put f p s hbl hbn with ⟨u1, u2⟩ | ⟨u1, c, u2, u3, u4, u5, u6⟩
    · rw [branch_not (by simpa using u1), onSome_some]
      exact ⟨_, undo_end f f2 (by rw [u2]) _⟩
    · have f3 := f2.put p s u3 (by omega)
      rw [branch_of (by rw [u1]; rfl), u2, branch_not (by rw [oB_some]; rfl), branch_of (hc c u3 u4), oR_some, nR_bR, branch_not (by rw [u5]; rfl), Hp.putO, opq_eq, hp_Gob f3.ok, onSome_some]
      exact ⟨_, undo_end f f3 u6 _⟩
  | false =>
  rw [branch_false]
  cases w2 : (w == (2 : Int)) with
  | true =>
    have f2 := f.cut p s
    rw [branch_true, onSome_some, Hp.cutO, opq_eq, hp_Gob f2.ok, onSome_some]
    rcases Hp.undo_cut f p s with ⟨u1, u2⟩ | ⟨u1, c, u2, u3, u4, u5, u6⟩
    · rw [branch_not (by simpa using u1), onSome_some]
      exact ⟨_, undo_end f f2 (by rw [u2]) _⟩
    · have f3 := f2.res p s u3 (by omega)
      rw [branch_of (by rw [u1]; rfl), u2, branch_not (by rw [oB_some]; rfl), branch_of (hc c u3 u4), oR_some, nR_bR, branch_not (by rw [u5]; rfl), Hp.resO, opq_eq, hp_Gob f3.ok, onSome_some]
      exact ⟨_, undo_end f f3 u6 _⟩
  | false =>
  rw [branch_false]
  have f2 := f.res p s hbl hbn
  have rest : ∃ st, branch (AV.bool (byOk b && apOk b.length 1))
      (branch (AV.bool (X.resE p s (nR b) == (0 : Int)))
        (branch (AV.bool (oB (X.get p s)))
          (some (Fin.ret (AV.bool false), St.mk [hpA.ob 0 (X.resO p s (nR b)) 0, hpA.ob 0 (X.resO p s (nR b)) 1, hpA.ob 0 (X.resO p s (nR b)) 2] []))
          (onSome (hpA.G 0 [hpA.ob 0 (X.resO p s (nR b)) 0, hpA.ob 0 (X.resO p s (nR b)) 1, hpA.ob 0 (X.resO p s (nR b)) 2]) none fun (o_3 : Hp) =>
            branch (AV.bool (o_3.cutE p s != (0 : Int)))
              (some (Fin.ret (AV.bool false), St.mk [hpA.ob 0 (o_3.cutO p s) 0, hpA.ob 0 (o_3.cutO p s) 1, hpA.ob 0 (o_3.cutO p s) 2] []))
              (onSome (hpA.G 0 [hpA.ob 0 (o_3.cutO p s) 0, hpA.ob 0 (o_3.cutO p s) 1, hpA.ob 0 (o_3.cutO p s) 2]) none fun (o_4 : Hp) =>
                branch (AV.bool (okBs (pgsV o_4.pg_) && okBs (pgsV X.pg_)))
                  (some (Fin.ret (AV.bool (bsR (pgsV o_4.pg_) == bsR (pgsV X.pg_))), St.mk [hpA.ob 0 (o_3.cutO p s) 0, hpA.ob 0 (o_3.cutO p s) 1, hpA.ob 0 (o_3.cutO p s) 2] []))
                  none)))
        (onSome (hpA.G 0 [hpA.ob 0 (X.resO p s (nR b)) 0, hpA.ob 0 (X.resO p s (nR b)) 1, hpA.ob 0 (X.resO p s (nR b)) 2]) none fun (o_3 : Hp) =>
          branch (AV.bool (okBs (pgsV o_3.pg_) && okBs (pgsV X.pg_)))
            (some (Fin.ret (AV.bool (bsR (pgsV o_3.pg_) == bsR (pgsV X.pg_))), St.mk [hpA.ob 0 (X.resO p s (nR b)) 0, hpA.ob 0 (X.resO p s (nR b)) 1, hpA.ob 0 (X.resO p s (nR b)) 2] []))
            none))
      none = some (.ret (.bool true), st) := by
    rw [branch_of hap, Hp.resO, opq_eq, hp_Gob f2.ok, onSome_some]
    rcases Hp.undo_res f p s hbl hbn with ⟨u1, u2⟩ | ⟨u1, u2, u3, u4⟩
    · rw [branch_not (by simpa using u1), onSome_some]
      exact ⟨_, undo_end f f2 (by rw [u2]) _⟩
    · have f3 := f2.cut p s
      rw [branch_of (by rw [u1]; rfl), u2, branch_not (by rw [oB_none]), branch_not (by rw [u3]; rfl), Hp.cutO, opq_eq, hp_Gob f3.ok, onSome_some]
      exact ⟨_, undo_end f f3 u4 _⟩
  cases w3 : (w == (3 : Int)) with
  | true =>
    rw [branch_true, onSome_some]
    by_cases p1 : p > 20
    · rw [branch_of (decide_eq_true p1)]
      by_cases p2 : p < 256
      · rw [branch_of (decide_eq_true p2)]; exact ⟨_, rfl⟩
      · rw [branch_not (decide_eq_false p2)]; exact rest
    · rw [branch_not (decide_eq_false p1)]; exact rest
  | false =>
    rw [branch_false, onSome_some]
    exact ⟨_, undo_end f f rfl _⟩
abbrev tyCall : Ty := .st [.int .i64, .int .i64, .st [.int .i64, .int .i64], .sl (.int .u8) 1]
abbrev tyCalls : Ty := .sl tyCall 56
theorem call_shape {xs : List AV} (h : Ty.Shape tyCall xs) : ∃ w c p s z d, xs = [.int .i64 w, .int .i64 c, .int .i64 p, .int .i64 s, .ns z 1 d] ∧ byOk d = true := by
  obtain ⟨a, b, rfl, ⟨w, rfl, _⟩, a2, b2, rfl, ⟨c, rfl, _⟩, a3, b3, rfl, ⟨a4, b4, rfl, ⟨p, rfl, _⟩, a5, b5, rfl, ⟨s, rfl, _⟩, rfl⟩, a6, b6, rfl, hd, rfl⟩ := h
  obtain ⟨z, d, rfl, d1, d2, d3⟩ := bytes_shape hd
  exact ⟨w, c, p, s, z, d, rfl, byOk_iff.mpr ⟨d1, d3⟩⟩
theorem calls_shape {xs : List AV} (h : Ty.Shape tyCalls xs) : ∃ z l, xs = [.ns z 5 l] ∧ okCs l = true := by
  obtain ⟨z, l, rfl, hz, h1, h2, h3⟩ := h
  refine ⟨z, l, rfl, okCs_iff.mpr ⟨fun r hr => ?_, ?_⟩⟩
  · obtain ⟨w, c, p, s, z', d, rfl, hd⟩ := call_shape (h3 r hr)
    show (decide (IntKind.i64 = IntKind.i64 ∧ IntKind.i64 = IntKind.i64 ∧ IntKind.i64 = IntKind.i64 ∧ IntKind.i64 = IntKind.i64) && (Nat.beq 1 1 && byOk d)) = true
    rw [hd]; rfl
  · have : reachBytes < 4611686018427387904 := by decide
    omega
theorem undo_law (as0 as1 : List AV) (s0 : Ty.Shape tyCalls as0) (s1 : Ty.Shape tyCall as1) : ∃ F st, f5.run F [tyCalls.AV' as0, tyCall.AV' as1] ⟨[], []⟩ = some (.ret (.bool true), st) := by
  obtain ⟨z, l, rfl, hl⟩ := calls_shape s0
  obtain ⟨w, c, p, s, y, b, rfl, hb⟩ := call_shape s1
  exact undo_true z y l b w c p s hl hb
end Go.Proofs.Ytljigmghdpkdlaa.V
