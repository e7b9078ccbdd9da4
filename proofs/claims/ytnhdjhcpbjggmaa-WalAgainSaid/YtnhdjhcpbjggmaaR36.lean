/- Merged out of 10 texts: what the claim's code comes to, and why. -/
import Derived.Test.YtnhdjhcpbjggmaaR35
set_option linter.unusedVariables false
set_option linter.unusedSimpArgs false
set_option maxRecDepth 100000
namespace Go.Proofs.Ytnhdjhcpbjggmaa.V
open Go Go.V Go.RowKit
noncomputable def f4_c3 : Sim Try.prog :=
 (.seq (.live [0, 1, 5, 6, 8, 9] (.region 20 [
 ⟨(opMove (some 82) (.tmp 5) 25 "law.go:193" #[]).op, none⟩,
 ⟨(opMove (some 83) (.tmp 10) 3 "law.go:193" #[]).op, none⟩,
 ⟨(opMove (some 84) (.tmp 10) 3 "law.go:193" #[]).op, none⟩,
 ⟨(opBin (some 85) .quo 3 (.tmp 84) (.const (Value.int IntKind.i64 3)) 3 3 "law.go:193" #[eD 2]).op, none⟩,
 ⟨opCall (s14a).orc (some 86) [(.tmp 82), (.tmp 83), (.tmp 85)] #[25, 3, 3] 0 "law.go:193" #[eD 0, eD 1, eD 3], none⟩
 ] (by kernel_rfl)))
 (.seq (.live [0, 1, 5, 6, 8, 9, 11, 12, 13] (.region 21 [
 ⟨(opMove (some 88) (.tmp 5) 25 "law.go:194" #[]).op, none⟩,
 ⟨opCall (s15a).orc (some 89) [(.tmp 88)] #[25] 35 "law.go:194" #[eD 0], none⟩,
 ⟨(opMove (some 87) (.tmp 89) 35 "law.go:194" #[eD 1]).op, none⟩,
 ⟨(opExtract (some 90) (.tmp 87) 0 29 "law.go:194" #[eD 2]).op, none⟩,
 ⟨(opExtract (some 91) (.tmp 87) 1 22 "law.go:194" #[eD 2, eX 6]).op, none⟩,
 ⟨(opExtract (some 92) (.tmp 87) 2 26 "law.go:194" #[eD 2, eX 7]).op, none⟩,
 ⟨(opAssign (some 11) (.tmp 90) 29 "law.go:194" #[eD 3, eC 1, eP 0, eP 1, eP 2, eP 3, eT 4, eT 5]).op, none⟩,
 ⟨(opAssign (some 12) (.tmp 91) 22 "law.go:194" #[eD 4, eC 6, eP 0, eP 1, eP 2, eP 3, eP 4, eT 5, eP 6]).op, none⟩,
 ⟨(opAssign (some 13) (.tmp 92) 26 "law.go:194" #[eD 5, eC 7, eP 0, eP 1, eP 2, eP 3, eP 4, eP 5, eP 6, eP 7]).op, none⟩
 ] (by kernel_rfl)))
 (.seq (.live [0, 1, 5, 6, 8, 9, 11, 12, 13, 14] (.region 22 [
 ⟨(opMove (some 93) (.tmp 8) 22 "law.go:195" #[]).op, none⟩,
 ⟨(PSim.hide (opLen (some 94) (.tmp 93) 22 (.slice 33) Try.underlying22 3 "law.go:195" #[eD 0])).op, none⟩,
 ⟨(opAssign (some 14) (.tmp 94) 3 "law.go:195" #[eD 1, eP 0, eP 1]).op, none⟩
 ] (by kernel_rfl)))
 (.seq (.seq (.live [0, 1, 5, 6, 9, 11, 12, 148] (.draw 23 [
 ⟨.p (opMove (some 95) (.tmp 13) 26 "law.go:196" #[]), none⟩,
 ⟨.pn (opBin (some 96) .neq 26 (.tmp 95) (.const (Value.int IntKind.i64 0)) 26 4 "law.go:196" #[eD 0]) opBin_nat, none⟩,
 ⟨.p (opMove (some 97) (.tmp 96) 4 "law.go:196" #[eD 1]), none⟩,
 ⟨.p (opMove (some 98) (.tmp 12) 22 "law.go:196" #[eG 2]), (some (2, 97, false))⟩,
 ⟨.p (PSim.hide (opLen (some 99) (.tmp 98) 22 (.slice 33) Try.underlying22 3 "law.go:196" #[eD 3, eG 2])), (some (2, 97, false))⟩,
 ⟨.p (opMove (some 100) (.tmp 14) 3 "law.go:196" #[eG 2]), (some (2, 97, false))⟩,
 ⟨.pn (opBin (some 101) .lss 3 (.tmp 99) (.tmp 100) 3 4 "law.go:196" #[eD 4, eD 5, eG 2]) opBin_nat, (some (2, 97, false))⟩,
 ⟨.p (opPick (some 102) (.tmp 97) (.const (Value.bool true)) (.tmp 101) 4 "law.go:196" #[eD 2, eD 6]), none⟩,
 ⟨.p (opMove (some 103) (.tmp 102) 4 "law.go:196" #[eD 7, eC 2]), none⟩,
 ⟨.p (opMove (some 104) (.tmp 12) 22 "law.go:196" #[eG 8]), (some (8, 103, false))⟩,
 ⟨.p (PSim.hide (opLen (some 105) (.tmp 104) 22 (.slice 33) Try.underlying22 3 "law.go:196" #[eD 9, eG 8])), (some (8, 103, false))⟩,
 ⟨.p (opMove (some 106) (.tmp 14) 3 "law.go:196" #[eG 8]), (some (8, 103, false))⟩,
 ⟨.pn (opBin (some 107) .add 3 (.tmp 106) (.const (Value.int IntKind.i64 1)) 3 3 "law.go:196" #[eD 11, eG 8]) opBin_nat, (some (8, 103, false))⟩,
 ⟨.pn (opBin (some 108) .gtr 3 (.tmp 105) (.tmp 107) 3 4 "law.go:196" #[eD 10, eD 12, eG 8]) opBin_nat, (some (8, 103, false))⟩,
 ⟨.p (opPick (some 109) (.tmp 103) (.const (Value.bool true)) (.tmp 108) 4 "law.go:196" #[eD 8, eD 13]), none⟩,
 ⟨.p (opMove (some 110) (.tmp 109) 4 "law.go:196" #[eD 14, eC 8]), none⟩,
 ⟨.p (opMove (some 111) (.tmp 12) 22 "law.go:196" #[eG 15]), (some (15, 110, false))⟩,
 ⟨.p (opMove (some 112) (.tmp 14) 3 "law.go:196" #[eG 15]), (some (15, 110, false))⟩,
 ⟨.pn (opSlice (some 113) 22 (.tmp 111) none (some (.tmp 112)) none 33 1 Try.underlying22 sz33 22 "law.go:196" #[eD 16, eD 17, eG 15]) opSlice_nat, (some (15, 110, false))⟩,
 ⟨.p (opMove (some 114) (.tmp 8) 22 "law.go:196" #[eG 15]), (some (15, 110, false))⟩,
 ⟨.pn (opCallP p16 (some 115) [(.tmp 113), (.tmp 114)] #[22, 22] 4 "law.go:196" #[eD 18, eD 19, eC 15, eG 15]) (opCallP_nat p16_nat), (some (15, 110, false))⟩,
 ⟨.p (opNot (some 116) 4 (.tmp 115) 4 "law.go:196" #[eD 20, eG 15]), (some (15, 110, false))⟩,
 ⟨.p (opPick (some 117) (.tmp 110) (.const (Value.bool true)) (.tmp 116) 4 "law.go:196" #[eD 15, eD 21]), none⟩,
 ⟨.p (opMove (some 118) (.tmp 117) 4 "law.go:196" #[eD 22, eC 20]), none⟩,
 ⟨.p (opMove (some 119) (.tmp 12) 22 "law.go:196" #[eG 23]), (some (23, 118, false))⟩,
 ⟨.p (PSim.hide (opLen (some 120) (.tmp 119) 22 (.slice 33) Try.underlying22 3 "law.go:196" #[eD 24, eG 23])), (some (23, 118, false))⟩,
 ⟨.p (opMove (some 121) (.tmp 14) 3 "law.go:196" #[eG 23]), (some (23, 118, false))⟩,
 ⟨.pn (opBin (some 122) .add 3 (.tmp 121) (.const (Value.int IntKind.i64 1)) 3 3 "law.go:196" #[eD 26, eG 23]) opBin_nat, (some (23, 118, false))⟩,
 ⟨.pn (opBin (some 123) .eql 3 (.tmp 120) (.tmp 122) 3 4 "law.go:196" #[eD 25, eD 27, eG 23]) opBin_nat, (some (23, 118, false))⟩,
 ⟨.p (opMove (some 124) (.tmp 123) 4 "law.go:196" #[eD 28, eC 23, eG 23]), (some (23, 118, false))⟩,
 ⟨.p (opMove (some 125) (.tmp 12) 22 "law.go:196" #[eG 29]), (some (29, 124, true))⟩,
 ⟨.p (opMove (some 126) (.tmp 14) 3 "law.go:196" #[eG 29]), (some (29, 124, true))⟩,
 ⟨.pn (opIndexAddrT (some 127) 22 (.tmp 125) (.tmp 126) 33 1 Try.underlying22 sz33 0 "law.go:196" #[eD 30, eD 31, eG 29]) opIndexAddrT_nat, (some (29, 124, true))⟩,
 ⟨.qn (opLoadT (.one (.ns 1)) (some 128) 33 (.tmp 127) (.slice 5) Try.underlying33 1 sz33 (by kernel_rfl) 33 "law.go:196" #[eD 32, eG 29]) opLoadT_nat, (some (29, 124, true))⟩,
 ⟨.p (opMove (some 129) (.tmp 0) 22 "law.go:196" #[eG 29]), (some (29, 124, true))⟩,
 ⟨.p (opMove (some 130) (.tmp 9) 3 "law.go:196" #[eG 29]), (some (29, 124, true))⟩,
 ⟨.pn (opIndexAddrT (some 131) 22 (.tmp 129) (.tmp 130) 33 1 Try.underlying22 sz33 0 "law.go:196" #[eD 34, eD 35, eG 29]) opIndexAddrT_nat, (some (29, 124, true))⟩,
 ⟨.qn (opLoadT (.one (.ns 1)) (some 132) 33 (.tmp 131) (.slice 5) Try.underlying33 1 sz33 (by kernel_rfl) 33 "law.go:196" #[eD 36, eG 29]) opLoadT_nat, (some (29, 124, true))⟩,
 ⟨.pn (opCallP p17 (some 133) [(.tmp 128), (.tmp 132)] #[33, 33] 4 "law.go:196" #[eD 33, eD 37, eC 29, eG 29]) (opCallP_nat p17_nat), (some (29, 124, true))⟩,
 ⟨.p (opNot (some 134) 4 (.tmp 133) 4 "law.go:196" #[eD 38, eG 29]), (some (29, 124, true))⟩,
 ⟨.p (opPick (some 135) (.tmp 124) (.tmp 134) (.const (Value.bool false)) 4 "law.go:196" #[eD 29, eD 39, eG 23]), (some (23, 118, false))⟩,
 ⟨.p (opPick (some 136) (.tmp 118) (.const (Value.bool true)) (.tmp 135) 4 "law.go:196" #[eD 23, eD 40]), none⟩,
 ⟨.p (opMove (some 137) (.tmp 136) 4 "law.go:196" #[eD 41, eC 38]), none⟩,
 ⟨.p (opMove (some 138) (.tmp 9) 3 "law.go:196" #[eG 42]), (some (42, 137, false))⟩,
 ⟨.pn (opBin (some 139) .and 3 (.tmp 138) (.const (Value.int IntKind.i64 1)) 3 3 "law.go:196" #[eD 43, eG 42]) opBin_nat, (some (42, 137, false))⟩,
 ⟨.pn (opBin (some 140) .eql 3 (.tmp 139) (.const (Value.int IntKind.i64 0)) 3 4 "law.go:196" #[eD 44, eG 42]) opBin_nat, (some (42, 137, false))⟩,
 ⟨.p (opMove (some 141) (.tmp 140) 4 "law.go:196" #[eD 45, eC 42, eG 42]), (some (42, 137, false))⟩,
 ⟨.p (opMove (some 142) (.tmp 12) 22 "law.go:196" #[eG 46]), (some (46, 141, true))⟩,
 ⟨.p (PSim.hide (opLen (some 143) (.tmp 142) 22 (.slice 33) Try.underlying22 3 "law.go:196" #[eD 47, eG 46])), (some (46, 141, true))⟩,
 ⟨.p (opMove (some 144) (.tmp 14) 3 "law.go:196" #[eG 46]), (some (46, 141, true))⟩,
 ⟨.pn (opBin (some 145) .add 3 (.tmp 144) (.const (Value.int IntKind.i64 1)) 3 3 "law.go:196" #[eD 49, eG 46]) opBin_nat, (some (46, 141, true))⟩,
 ⟨.pn (opBin (some 146) .neq 3 (.tmp 143) (.tmp 145) 3 4 "law.go:196" #[eD 48, eD 50, eG 46]) opBin_nat, (some (46, 141, true))⟩,
 ⟨.p (opPick (some 147) (.tmp 141) (.tmp 146) (.const (Value.bool false)) 4 "law.go:196" #[eD 46, eD 51, eG 42]), (some (42, 137, false))⟩,
 ⟨.p (opPick (some 148) (.tmp 137) (.const (Value.bool true)) (.tmp 147) 4 "law.go:196" #[eD 42, eD 52]), none⟩
 ] mixed (by kernel_rfl)))
 (.cond (.tmp 148)
 (.seq (.live [4] (.region 24 [
 ⟨(opAssign (some 4) (.const (Value.bool false)) 4 "law.go:197" #[]).op, none⟩
 ] (by kernel_rfl)))
 (.live [4] .ret))
 .skip))
 (.seq (.live [0, 1, 5, 6, 8, 9, 11] (.region 25 [
 ⟨(opMove (some 149) (.tmp 12) 22 "law.go:199" #[]).op, none⟩,
 ⟨(opAssign (some 8) (.tmp 149) 22 "law.go:199" #[eD 0, eP 0]).op, none⟩
 ] (by kernel_rfl)))
 (.live [0, 1, 5, 6, 7, 8, 9] (.region 26 [
 ⟨(opMove (some 150) (.tmp 11) 29 "law.go:200" #[]).op, none⟩,
 ⟨(opAssign (some 7) (.tmp 150) 29 "law.go:200" #[eD 0, eP 0]).op, none⟩
 ] (by kernel_rfl))))))))
noncomputable def f4_c2 : Sim Try.prog :=
 (.live [0,1,5,6,8,9,10] (.seq (.live [0, 1, 5, 6, 8, 9, 10, 77] (.region 18 [
 ⟨(opMove (some 74) (.tmp 9) 3 "law.go:190" #[]).op, none⟩,
 ⟨(opMove (some 75) (.tmp 1) 39 "law.go:190" #[]).op, none⟩,
 ⟨(opLen (some 76) (.tmp 75) 39 (.slice 3) Try.underlying39 3 "law.go:190" #[eD 1]).op, none⟩,
 ⟨(opBin (some 77) .lss 3 (.tmp 74) (.tmp 76) 3 4 "law.go:190" #[eD 0, eD 2]).op, none⟩
 ] (by kernel_rfl)))
 (.cond (.tmp 77)
 (.live [0, 1, 5, 6, 8, 9, 10] (.region 19 [
 ⟨(opMove (some 78) (.tmp 1) 39 "law.go:191" #[]).op, none⟩,
 ⟨(opMove (some 79) (.tmp 9) 3 "law.go:191" #[]).op, none⟩,
 ⟨(opIndexAddrT (some 80) 39 (.tmp 78) (.tmp 79) 3 1 Try.underlying39 sz3 0 "law.go:191" #[eD 0, eD 1]).op, none⟩,
 ⟨(opLoadT (.one (.int .i64)) (some 81) 3 (.tmp 80) (.int .i64) Try.underlying3 1 sz3 (by kernel_rfl) 3 "law.go:191" #[eD 2]).op, none⟩,
 ⟨(opAssign (some 10) (.tmp 81) 3 "law.go:191" #[eD 3, eP 0, eP 1, eP 2, eP 3]).op, none⟩
 ] (by kernel_rfl)))
 .skip)))
noncomputable def f4_k : Sim Try.prog :=
 (.live [0, 1, 5, 6, 8, 9, 10] (.region 17 [
 ⟨(opAssign (some 10) (.const (Value.int IntKind.i64 0)) 3 "law.go:189" #[]).op, none⟩
 ] (by kernel_rfl)))
noncomputable def f4_c1 : Sim Try.prog :=
 (.live [0,1,5,6,8,9] (.seq (.live [0, 1, 5, 6, 7, 8, 9, 71] (.region 15 [
 ⟨(opMove (some 69) (.tmp 9) 3 "law.go:186" #[]).op, none⟩,
 ⟨(opBin (some 70) .and 3 (.tmp 69) (.const (Value.int IntKind.i64 1)) 3 3 "law.go:186" #[eD 0]).op, none⟩,
 ⟨(opBin (some 71) .eql 3 (.tmp 70) (.const (Value.int IntKind.i64 0)) 3 4 "law.go:186" #[eD 1]).op, none⟩
 ] (by kernel_rfl)))
 (.cond (.tmp 71)
 (.live [0, 1, 5, 6, 8, 9] (.region 16 [
 ⟨(opMove (some 72) (.tmp 7) 29 "law.go:187" #[]).op, none⟩,
 ⟨opCall (s13a).orc (some 73) [(.tmp 72)] #[29] 0 "law.go:187" #[eD 0], none⟩
 ] (by kernel_rfl)))
 .skip)))
noncomputable def f4_A : Sim Try.prog :=
 (.seq (.live [0, 1, 5, 6, 7, 8, 9, 66] (.region 13 [
 ⟨(opMove (some 52) (.tmp 6) 26 "law.go:183" #[]).op, none⟩,
 ⟨(opBin (some 53) .neq 26 (.tmp 52) (.const (Value.int IntKind.i64 0)) 26 4 "law.go:183" #[eD 0]).op, none⟩,
 ⟨(opMove (some 54) (.tmp 53) 4 "law.go:183" #[eD 1]).op, none⟩,
 ⟨(opMove (some 55) (.tmp 7) 29 "law.go:183" #[eG 2]).op, (some (2, 54, false))⟩,
 ⟨(opEq (some 56) 29 (.pointer 71) Try.underlying29 (.tmp 55) (.const (Value.pointer none)) (.inl rfl) 29 4 "law.go:183" #[eD 3, eG 2]).op, (some (2, 54, false))⟩,
 ⟨(opPick (some 57) (.tmp 54) (.const (Value.bool true)) (.tmp 56) 4 "law.go:183" #[eD 2, eD 4]).op, none⟩,
 ⟨(opMove (some 58) (.tmp 57) 4 "law.go:183" #[eD 5, eC 2]).op, none⟩,
 ⟨(opMove (some 59) (.tmp 7) 29 "law.go:183" #[eG 6]).op, (some (6, 58, false))⟩,
 ⟨(opMove (some 60) (.tmp 0) 22 "law.go:183" #[eG 6]).op, (some (6, 58, false))⟩,
 ⟨(opMove (some 61) (.tmp 9) 3 "law.go:183" #[eG 6]).op, (some (6, 58, false))⟩,
 ⟨(opIndexAddrT (some 62) 22 (.tmp 60) (.tmp 61) 33 1 Try.underlying22 sz33 0 "law.go:183" #[eD 8, eD 9, eG 6]).op, (some (6, 58, false))⟩,
 ⟨(opLoadT (.one (.ns 1)) (some 63) 33 (.tmp 62) (.slice 5) Try.underlying33 1 sz33 (by kernel_rfl) 33 "law.go:183" #[eD 10, eG 6]).op, (some (6, 58, false))⟩,
 ⟨opCall (s12a).orc (some 64) [(.tmp 59), (.tmp 63)] #[29, 33] 26 "law.go:183" #[eD 7, eD 11, eC 6, eG 6], (some (6, 58, false))⟩,
 ⟨(opBin (some 65) .neq 26 (.tmp 64) (.const (Value.int IntKind.i64 0)) 26 4 "law.go:183" #[eD 12, eG 6]).op, (some (6, 58, false))⟩,
 ⟨(opPick (some 66) (.tmp 58) (.const (Value.bool true)) (.tmp 65) 4 "law.go:183" #[eD 6, eD 13]).op, none⟩
 ] (by kernel_rfl)))
 (.cond (.tmp 66)
 (.seq (.live [4] (.region 14 [
 ⟨(opMove (some 67) (.tmp 7) 29 "law.go:184" #[]).op, none⟩,
 ⟨(opNe (some 68) 29 (.pointer 71) Try.underlying29 (.tmp 67) (.const (Value.pointer none)) (.inl rfl) 29 4 "law.go:184" #[eD 0]).op, none⟩,
 ⟨(opAssign (some 4) (.tmp 68) 4 "law.go:184" #[eD 1, eP 0, eP 1]).op, none⟩
 ] (by kernel_rfl)))
 (.live [4] .ret))
 .skip))
noncomputable def f4_h : Sim Try.prog :=
 (.live [0,1,5,6,7,8,9] (.seq (.live [0, 1, 5, 6, 7, 8, 9, 49] (.region 11 [
 ⟨(opMove (some 46) (.tmp 9) 3 "law.go:182" #[]).op, none⟩,
 ⟨(opMove (some 47) (.tmp 0) 22 "law.go:182" #[]).op, none⟩,
 ⟨(opLen (some 48) (.tmp 47) 22 (.slice 33) Try.underlying22 3 "law.go:182" #[eD 1]).op, none⟩,
 ⟨(opBin (some 49) .lss 3 (.tmp 46) (.tmp 48) 3 4 "law.go:182" #[eD 0, eD 2]).op, none⟩
 ] (by kernel_rfl)))
 (.cond (.tmp 49)
 .skip
 (.live [] (.exit 0)))))
noncomputable def f4_i : Sim Try.prog :=
 (.live [0, 1, 5, 6, 7, 8, 9] (.region 12 [
 ⟨(opMove (some 50) (.tmp 9) 3 "law.go:182" #[]).op, none⟩,
 ⟨(opBin (some 51) .add 3 (.tmp 50) (.const (Value.int IntKind.i64 1)) 3 3 "law.go:182" #[eD 0]).op, none⟩,
 ⟨(opAssign (some 9) (.tmp 51) 3 "law.go:182" #[eD 1, eP 0, eP 1]).op, none⟩
 ] (by kernel_rfl)))
noncomputable def f4_l0 : Sim Try.prog :=
 (.seq f4_h
 (.seq (.block 1 (.seq f4_A
 (.seq f4_c1
 (.seq f4_k
 (.seq f4_c2
 f4_c3)))))
 f4_i))
noncomputable def f4_r0 : Sim Try.prog :=
 (.seq (.live [4] (.region 27 [
 ⟨(opAssign (some 4) (.const (Value.bool true)) 4 "law.go:202" #[]).op, none⟩
 ] (by kernel_rfl)))
 (.live [4] .ret))
noncomputable def f4_b : Sim Try.prog :=
 (.seq (.live [0, 1] (.region 0 [
 ⟨(opAssign (some 4) (.const (Value.bool false)) 4 "law.go:169" #[]).op, none⟩
 ] (by kernel_rfl)))
 (.seq (.seq (.live [0, 1, 16] (.region 1 [
 ⟨(opCallP p8 (some 15) [] #[] 4 "law.go:170" #[]).op, none⟩,
 ⟨(opNot (some 16) 4 (.tmp 15) 4 "law.go:170" #[eD 0]).op, none⟩
 ] (by kernel_rfl)))
 (.cond (.tmp 16)
 (.seq (.live [4] (.region 2 [
 ⟨(opAssign (some 4) (.const (Value.bool false)) 4 "law.go:171" #[]).op, none⟩
 ] (by kernel_rfl)))
 (.live [4] .ret))
 .skip))
 (.seq (.seq (.live [0, 1, 29] (.region 3 [
 ⟨(opMove (some 17) (.tmp 0) 22 "law.go:173" #[]).op, none⟩,
 ⟨(opCallP p9 (some 18) [(.tmp 17), (.const (Value.int IntKind.i64 3000))] #[22, 3] 3 "law.go:173" #[eD 0]).op, none⟩,
 ⟨(opBin (some 19) .gtr 3 (.tmp 18) (.const (Value.int IntKind.i64 3000)) 3 4 "law.go:173" #[eD 1]).op, none⟩,
 ⟨(opMove (some 20) (.tmp 19) 4 "law.go:173" #[eD 2, eC 1]).op, none⟩,
 ⟨(opMove (some 21) (.tmp 0) 22 "law.go:173" #[eG 3]).op, (some (3, 20, false))⟩,
 ⟨(opLen (some 22) (.tmp 21) 22 (.slice 33) Try.underlying22 3 "law.go:173" #[eD 4, eG 3]).op, (some (3, 20, false))⟩,
 ⟨(opBin (some 23) .gtr 3 (.tmp 22) (.const (Value.int IntKind.i64 40)) 3 4 "law.go:173" #[eD 5, eG 3]).op, (some (3, 20, false))⟩,
 ⟨(opPick (some 24) (.tmp 20) (.const (Value.bool true)) (.tmp 23) 4 "law.go:173" #[eD 3, eD 6]).op, none⟩,
 ⟨(opMove (some 25) (.tmp 24) 4 "law.go:173" #[eD 7, eC 3]).op, none⟩,
 ⟨(opMove (some 26) (.tmp 1) 39 "law.go:173" #[eG 8]).op, (some (8, 25, false))⟩,
 ⟨(opLen (some 27) (.tmp 26) 39 (.slice 3) Try.underlying39 3 "law.go:173" #[eD 9, eG 8]).op, (some (8, 25, false))⟩,
 ⟨(opBin (some 28) .gtr 3 (.tmp 27) (.const (Value.int IntKind.i64 80)) 3 4 "law.go:173" #[eD 10, eG 8]).op, (some (8, 25, false))⟩,
 ⟨(opPick (some 29) (.tmp 25) (.const (Value.bool true)) (.tmp 28) 4 "law.go:173" #[eD 8, eD 11]).op, none⟩
 ] (by kernel_rfl)))
 (.cond (.tmp 29)
 (.seq (.live [4] (.region 4 [
 ⟨(opAssign (some 4) (.const (Value.bool true)) 4 "law.go:174" #[]).op, none⟩
 ] (by kernel_rfl)))
 (.live [4] .ret))
 .skip))
 (.seq (.live [0, 1, 5, 6] (.region 5 [
 ⟨opCall (s10).orc (some 31) [(.const (Value.int IntKind.i64 400))] #[3] 27 "law.go:176" #[], none⟩,
 ⟨(opMove (some 30) (.tmp 31) 27 "law.go:176" #[eD 0]).op, none⟩,
 ⟨(opExtract (some 32) (.tmp 30) 0 25 "law.go:176" #[eD 1]).op, none⟩,
 ⟨(opExtract (some 33) (.tmp 30) 1 26 "law.go:176" #[eD 1, eX 4]).op, none⟩,
 ⟨(opAssign (some 5) (.tmp 32) 25 "law.go:176" #[eD 2, eC 0, eP 0, eP 1, eP 2, eT 3]).op, none⟩,
 ⟨(opAssign (some 6) (.tmp 33) 26 "law.go:176" #[eD 3, eC 4, eP 0, eP 1, eP 2, eP 3, eP 4]).op, none⟩
 ] (by kernel_rfl)))
 (.seq (.seq (.live [0, 1, 5, 39] (.region 6 [
 ⟨(opMove (some 34) (.tmp 6) 26 "law.go:177" #[]).op, none⟩,
 ⟨(opBin (some 35) .neq 26 (.tmp 34) (.const (Value.int IntKind.i64 0)) 26 4 "law.go:177" #[eD 0]).op, none⟩,
 ⟨(opMove (some 36) (.tmp 35) 4 "law.go:177" #[eD 1]).op, none⟩,
 ⟨(opMove (some 37) (.tmp 5) 25 "law.go:177" #[eG 2]).op, (some (2, 36, false))⟩,
 ⟨(opEq (some 38) 25 (.pointer 79) Try.underlying25 (.tmp 37) (.const (Value.pointer none)) (.inl rfl) 25 4 "law.go:177" #[eD 3, eG 2]).op, (some (2, 36, false))⟩,
 ⟨(opPick (some 39) (.tmp 36) (.const (Value.bool true)) (.tmp 38) 4 "law.go:177" #[eD 2, eD 4]).op, none⟩
 ] (by kernel_rfl)))
 (.cond (.tmp 39)
 (.seq (.live [4] (.region 7 [
 ⟨(opAssign (some 4) (.const (Value.bool false)) 4 "law.go:178" #[]).op, none⟩
 ] (by kernel_rfl)))
 (.live [4] .ret))
 .skip))
 (.seq (.live [0, 1, 5, 6, 7] (.region 8 [
 ⟨(opMove (some 41) (.tmp 5) 25 "law.go:180" #[]).op, none⟩,
 ⟨opCall (s11a).orc (some 42) [(.tmp 41)] #[25] 30 "law.go:180" #[eD 0], none⟩,
 ⟨(opMove (some 40) (.tmp 42) 30 "law.go:180" #[eD 1]).op, none⟩,
 ⟨(opExtract (some 43) (.tmp 40) 0 29 "law.go:180" #[eD 2]).op, none⟩,
 ⟨(opExtract (some 44) (.tmp 40) 1 26 "law.go:180" #[eD 2, eX 5]).op, none⟩,
 ⟨(opAssign (some 7) (.tmp 43) 29 "law.go:180" #[eD 3, eC 1, eP 0, eP 1, eP 2, eP 3, eT 4]).op, none⟩,
 ⟨(opAssign (some 6) (.tmp 44) 26 "law.go:180" #[eD 4, eC 5, eP 0, eP 1, eP 2, eP 3, eP 4, eP 5]).op, none⟩
 ] (by kernel_rfl)))
 (.seq (.live [0, 1, 5, 6, 7, 8] (.region 9 [
 ⟨(opBuildSlice (some 45) 22 0 [] 33 1 24 (.slice none 0 0) el22 (by kernel_rfl) (by decide) 22 "law.go:181" #[]).op, none⟩,
 ⟨(opAssign (some 8) (.tmp 45) 22 "law.go:181" #[eD 0, eP 0]).op, none⟩
 ] (by kernel_rfl)))
 (.seq (.seq (.live [0, 1, 5, 6, 7, 8, 9] (.region 10 [
 ⟨(opAssign (some 9) (.const (Value.int IntKind.i64 0)) 3 "law.go:182" #[]).op, none⟩
 ] (by kernel_rfl)))
 (.block 0 (.loop [0, 1, 5, 6, 7, 8, 9] f4_l0)))
 f4_r0))))))))
noncomputable def f4 : Fun Try.prog where
 id := 4
 fn := Try.f4
 hf := Try.func4
 hname := by kernel_rfl
 body := f4_b
 hbody := by kernel_rfl
 res := [rTmp 4]
 hres := by kernel_rfl
 n := 151
 hn := by kernel_rfl
theorem again_run (F : Nat) (z y : Bool) (l b : List (List AV)) :
 (f4.run F [.ns z 1 l, .ns y 1 b] ⟨[], []⟩ : Ans) =
 branch (.bool (okBs l && true))
 (branch (.bool (decide (weighV l (3000 : Int) > 3000))) (some (Fin.ret (.bool true), St.mk [] []))
 (branch (.bool (decide ((↑l.length : Int) > 40))) (some (Fin.ret (.bool true), St.mk [] []))
 (branch (.bool (decide ((↑b.length : Int) > 80))) (some (Fin.ret (.bool true), St.mk [] []))
 (onSome
 (dkG 0 (dk0 (newO (400 : Int))) (dk1 (newO (400 : Int))) (dk2 0 (newO (400 : Int)))
 (dk3 (newO (400 : Int))))
 none fun (o : Dk) =>
 branch
 (AV.bool
 (cdec
 (alone 0
 (St.mk
 [dk0 (newO (400 : Int)), dk1 (newO (400 : Int)), dk2 0 (newO (400 : Int)),
 dk3 (newO (400 : Int))]
 []))))
 (branch (.bool (cdec (o.3.length < 999998)))
 (branch (.bool (fmtB o))
 (loopRun (f4_l0.run F) [0, 1, 5, 6, 7, 8, 9]
 (Cont.block 0 (Cont.then (f4_r0.run F (f4.leaveK Fun.done)) (f4.leaveK Fun.done))) F
 (Env.mk 151
 [(0, AV.ns z 1 l), (1, AV.ns y 1 b),
 (5, AV.ptr 2 0), (6, .int .i64 0),
 (7, AV.ptr 4 0), (8, AV.sl 1 true []),
 (9, .int .i64 0)])
 (stN o.fmtO (fmtLO o) []))
 (loopRun (f4_l0.run F) [0, 1, 5, 6, 7, 8, 9]
 (Cont.block 0 (Cont.then (f4_r0.run F (f4.leaveK Fun.done)) (f4.leaveK Fun.done))) F
 (Env.mk 151
 [(0, AV.ns z 1 l), (1, AV.ns y 1 b),
 (5, AV.ptr 2 0), (6, .int .i64 (fmtEO o)),
 (7, AV.nilptr), (8, AV.sl 1 true []),
 (9, .int .i64 0)])
 (St.mk
 [dk0 (newO (400 : Int)), dk1 (newO (400 : Int)), dk2 0 (newO (400 : Int)),
 dk3 (newO (400 : Int))]
 [])))
 none)
 none))))
 none := by kernel_rfl
theorem again_h (F : Nat) (z y : Bool) (l b : List (List AV)) (p v : AV) (i : Int) (st : St) (K : Cont) :
 (f4_h.run F K (Env.mk 151 [(0, .ns z 1 l), (1, .ns y 1 b), (5, .ptr 2 0), (6, .int .i64 0), (7, p), (8, v), (9, .int .i64 i)]) st : Ans) =
 branch (.bool (decide (i < (↑l.length : Int))))
 (K AX.normal
 (Env.mk 151
 [(0, AV.ns z 1 l), (1, AV.ns y 1 b), (5, AV.ptr 2 0),
 (6, .int .i64 0), (7, p), (8, v), (9, .int .i64 i)])
 st)
 (K (AX.exit 0)
 (Env.mk 151
 [(0, AV.dead), (1, AV.dead), (5, AV.dead), (6, AV.dead), (7, AV.dead),
 (8, AV.dead), (9, AV.dead)])
 st) := by kernel_rfl
theorem again_A (F : Nat) (X : Dk) (L : Lg) (q : List Ob) (z y : Bool) (l b : List (List AV)) (v : AV) (i : Int) (K : Cont) :
 (f4_A.run F K (Env.mk 151 [(0, .ns z 1 l), (1, .ns y 1 b), (5, .ptr 2 0), (6, .int .i64 0), (7, ptrN q), (8, v), (9, .int .i64 i)]) (stN X L q) : Ans) =
 branch (.bool (inR l i))
 (branch (.bool ((LD.one (LT.ns 1)).is (V.rowAt l i)))
 (onSome (stG (stN X L q)) none fun (o : Dk × Lg × List Ob) =>
 branch (.bool (cdec (AV.ptr (4 + q.length) 0 = AV.ptr (4 + o.snd.2.length) 0)))
 (branch (.bool (byOk (rwA (V.rowAt l i)) && cdec (LOk o.fst o.2.fst)))
 (branch (.bool (appEO o.fst o.2.fst (nR (rwA (V.rowAt l i))) != 0))
 (K AX.ret (Env.mk 151 [(4, AV.bool true)])
 (stN (o.fst.appO o.2.fst (nR (rwA (V.rowAt l i)))) (o.2.fst.appO o.fst (nR (rwA (V.rowAt l i)))) o.snd.2))
 (K AX.normal
 (Env.mk 151
 [(66, AV.bool false), (0, AV.ns z 1 l), (1, AV.ns y 1 b),
 (5, AV.ptr 2 0), (6, .int .i64 0),
 (7, AV.ptr (4 + q.length) 0), (8, v),
 (9, .int .i64 i),
 (66, AV.bool (appEO o.fst o.2.fst (nR (rwA (V.rowAt l i))) != 0))])
 (stN (o.fst.appO o.2.fst (nR (rwA (V.rowAt l i)))) (o.2.fst.appO o.fst (nR (rwA (V.rowAt l i))))
 o.snd.2)))
 none)
 none)
 none)
 none := by kernel_rfl
theorem again_c1 (F : Nat) (X : Dk) (L : Lg) (q : List Ob) (z y : Bool) (l b : List (List AV)) (u v : AV) (i : Int) (K : Cont) :
 (f4_c1.run F K (Env.mk 151 [(66, .bool false), (0, .ns z 1 l), (1, .ns y 1 b), (5, .ptr 2 0), (6, .int .i64 0), (7, ptrN q), (8, v), (9, .int .i64 i), (66, u)]) (stN X L q) : Ans) =
 branch (.bool (bitsI BinOp.and IntKind.i64 i (1 : Int) == 0))
 (onSome (stG (stN X L q)) none fun (o : Dk × Lg × List Ob) =>
 branch (.bool (cdec (AV.ptr (4 + q.length) 0 = AV.ptr (4 + o.snd.2.length) 0)))
 (K AX.normal
 (Env.mk 151
 [(0, AV.ns z 1 l), (1, AV.ns y 1 b), (5, AV.ptr 2 0),
 (6, .int .i64 0), (8, v), (9, .int .i64 i)])
 (stN o.fst.flushO o.2.fst o.snd.2))
 none)
 (K AX.normal
 (Env.mk 151
 [(0, AV.ns z 1 l), (1, AV.ns y 1 b), (5, AV.ptr 2 0),
 (6, .int .i64 0), (8, v), (9, .int .i64 i)])
 (stN X L q)) := by kernel_rfl
theorem again_k (F : Nat) (z y : Bool) (l b : List (List AV)) (v : AV) (i : Int) (st : St) (K : Cont) :
 (f4_k.run F K (Env.mk 151 [(0, .ns z 1 l), (1, .ns y 1 b), (5, .ptr 2 0), (6, .int .i64 0), (8, v), (9, .int .i64 i)]) st : Ans) =
 K AX.normal
 (Env.mk 151
 [(0, AV.ns z 1 l), (1, AV.ns y 1 b), (5, AV.ptr 2 0),
 (6, .int .i64 0), (8, v), (9, .int .i64 i),
 (10, .int .i64 0)])
 st := by kernel_rfl
theorem again_c2 (F : Nat) (z y : Bool) (l b : List (List AV)) (v : AV) (i : Int) (st : St) (K : Cont) :
 (f4_c2.run F K (Env.mk 151 [(0, .ns z 1 l), (1, .ns y 1 b), (5, .ptr 2 0), (6, .int .i64 0), (8, v), (9, .int .i64 i), (10, .int .i64 0)]) st : Ans) =
 branch (.bool (decide (i < (↑b.length : Int))))
 (branch (.bool (inR b i))
 (branch (.bool ((LD.one (LT.int IntKind.i64)).is (V.rowAt b i)))
 (K AX.normal
 (Env.mk 151
 [(0, AV.ns z 1 l), (1, AV.ns y 1 b), (5, AV.ptr 2 0),
 (6, .int .i64 0), (8, v), (9, .int .i64 i),
 (10, .int .i64 (hdI (V.rowAt b i)))])
 st)
 none)
 none)
 (K AX.normal
 (Env.mk 151
 [(0, AV.ns z 1 l), (1, AV.ns y 1 b), (5, AV.ptr 2 0),
 (6, .int .i64 0), (8, v), (9, .int .i64 i),
 (10, .int .i64 0)])
 st) := by kernel_rfl
theorem again_c3 (F : Nat) (X : Dk) (L : Lg) (q : List Ob) (z y w : Bool) (l b c : List (List AV)) (i k : Int) (K : Cont) :
 (f4_c3.run F K (Env.mk 151 [(0, .ns z 1 l), (1, .ns y 1 b), (5, .ptr 2 0), (6, .int .i64 0), (8, .ns w 1 c), (9, .int .i64 i), (10, .int .i64 k)]) (stN X L q) : Ans) =
 onSome (stG (stN X L q)) none fun (o : Dk × Lg × List Ob) =>
 branch (.bool (cdec (AV.ptr 2 0 = AV.ptr 2 0)))
 (onSome (stG (stN (o.fst.crashO k (IntKind.i64.wrap (k.tdiv (3 : Int)))) o.2.fst o.snd.2)) none
 fun (o : Dk × Lg × List Ob) =>
 branch (.bool (cdec (AV.ptr 2 0 = AV.ptr 2 0)))
 (branch (.bool (cdec (o.fst.3.length < 900000)))
 (branch (.bool (opB o.fst))
 (branch (.bool (decide (opq (↑(opRO o.fst).length : Int) < opq (↑c.length : Int))))
 (K AX.ret (Env.mk 151 [(4, AV.bool false)]) (stN o.fst (opLO o.fst) (qN o.snd.2 o.2.fst)))
 (branch
 (AV.bool
 (decide (opq (↑(opRO o.fst).length : Int) > IntKind.i64.wrap (opq (↑c.length : Int) + 1))))
 (K AX.ret (Env.mk 151 [(4, AV.bool false)])
 (stN o.fst (opLO o.fst) (qN o.snd.2 o.2.fst)))
 (if (0 : Int) ≤ opq (↑c.length : Int) ∧ opq (↑c.length : Int) ≤ (↑(opRO o.fst).length : Int) then
 branch
 (AV.bool
 (okBs (List.drop 0 (List.take (opq (↑c.length : Int)).toNat (opRO o.fst))) && okBs c))
 (branch
 (AV.bool
 !bsR (List.drop 0 (List.take (opq (↑c.length : Int)).toNat (opRO o.fst))) == bsR c)
 (K AX.ret (Env.mk 151 [(4, AV.bool false)])
 (stN o.fst (opLO o.fst) (qN o.snd.2 o.2.fst)))
 (branch
 (AV.bool
 (opq (↑(opRO o.fst).length : Int) == IntKind.i64.wrap (opq (↑c.length : Int) + 1)))
 (branch (.bool (inR (opRO o.fst) (opq (↑c.length : Int))))
 (branch
 (.bool ((LD.one (LT.ns 1)).is (V.rowAt (opRO o.fst) (opq (↑c.length : Int)))))
 (branch (.bool (inR l i))
 (branch (.bool ((LD.one (LT.ns 1)).is (V.rowAt l i)))
 (branch
 (AV.bool
 (byOk (rwA (V.rowAt (opRO o.fst) (opq (↑c.length : Int)))) &&
 byOk (rwA (V.rowAt l i))))
 (branch
 (AV.bool
 !nR (rwA (V.rowAt (opRO o.fst) (opq (↑c.length : Int)))) ==
 nR (rwA (V.rowAt l i)))
 (K AX.ret (Env.mk 151 [(4, AV.bool false)])
 (stN o.fst (opLO o.fst) (qN o.snd.2 o.2.fst)))
 (branch (.bool (bitsI BinOp.and IntKind.i64 i (1 : Int) == 0))
 (branch
 (AV.bool
 (opq (↑(opRO o.fst).length : Int) !=
 IntKind.i64.wrap (opq (↑c.length : Int) + 1)))
 (K AX.ret (Env.mk 151 [(4, AV.bool false)])
 (stN o.fst (opLO o.fst) (qN o.snd.2 o.2.fst)))
 (K AX.normal
 (Env.mk 151
 [(0, AV.ns z 1 l), (1, AV.ns y 1 b),
 (5, AV.ptr 2 0),
 (6, .int .i64 0),
 (7, AV.ptr (4 + (qN o.snd.2 o.2.fst).length) 0),
 (8, AV.ns (opZ o.fst) 1 (opRO o.fst)),
 (9, .int .i64 i)])
 (stN o.fst (opLO o.fst) (qN o.snd.2 o.2.fst))))
 (K AX.normal
 (Env.mk 151
 [(0, AV.ns z 1 l), (1, AV.ns y 1 b),
 (5, AV.ptr 2 0),
 (6, .int .i64 0),
 (7, AV.ptr (4 + (qN o.snd.2 o.2.fst).length) 0),
 (8, AV.ns (opZ o.fst) 1 (opRO o.fst)),
 (9, .int .i64 i)])
 (stN o.fst (opLO o.fst) (qN o.snd.2 o.2.fst)))))
 none)
 none)
 none)
 none)
 none)
 (branch (.bool (bitsI BinOp.and IntKind.i64 i (1 : Int) == 0))
 (branch
 (AV.bool
 (opq (↑(opRO o.fst).length : Int) !=
 IntKind.i64.wrap (opq (↑c.length : Int) + 1)))
 (K AX.ret (Env.mk 151 [(4, AV.bool false)])
 (stN o.fst (opLO o.fst) (qN o.snd.2 o.2.fst)))
 (K AX.normal
 (Env.mk 151
 [(0, AV.ns z 1 l), (1, AV.ns y 1 b),
 (5, AV.ptr 2 0), (6, .int .i64 0),
 (7, AV.ptr (4 + (qN o.snd.2 o.2.fst).length) 0),
 (8, AV.ns (opZ o.fst) 1 (opRO o.fst)),
 (9, .int .i64 i)])
 (stN o.fst (opLO o.fst) (qN o.snd.2 o.2.fst))))
 (K AX.normal
 (Env.mk 151
 [(0, AV.ns z 1 l), (1, AV.ns y 1 b),
 (5, AV.ptr 2 0), (6, .int .i64 0),
 (7, AV.ptr (4 + (qN o.snd.2 o.2.fst).length) 0),
 (8, AV.ns (opZ o.fst) 1 (opRO o.fst)),
 (9, .int .i64 i)])
 (stN o.fst (opLO o.fst) (qN o.snd.2 o.2.fst))))))
 none
 else none)))
 (branch (.bool (opEO o.fst != 0))
 (K AX.ret (Env.mk 151 [(4, AV.bool false)]) (stN o.fst o.2.fst o.snd.2))
 (branch (.bool (decide (opq (0 : Int) < opq (↑c.length : Int))))
 (K AX.ret (Env.mk 151 [(4, AV.bool false)]) (stN o.fst o.2.fst o.snd.2))
 (branch (.bool (decide (opq (0 : Int) > IntKind.i64.wrap (opq (↑c.length : Int) + 1))))
 (K AX.ret (Env.mk 151 [(4, AV.bool false)]) (stN o.fst o.2.fst o.snd.2))
 (if (0 : Int) ≤ opq (↑c.length : Int) ∧ opq (↑c.length : Int) ≤ 0 then
 branch (.bool (okBs [] && okBs c))
 (branch (.bool ![] == bsR c)
 (K AX.ret (Env.mk 151 [(4, AV.bool false)]) (stN o.fst o.2.fst o.snd.2))
 (branch (.bool (opq (0 : Int) == IntKind.i64.wrap (opq (↑c.length : Int) + 1))) none
 (branch (.bool (bitsI BinOp.and IntKind.i64 i (1 : Int) == 0))
 (branch (.bool (opq (0 : Int) != IntKind.i64.wrap (opq (↑c.length : Int) + 1)))
 (K AX.ret (Env.mk 151 [(4, AV.bool false)]) (stN o.fst o.2.fst o.snd.2))
 (K AX.normal
 (Env.mk 151
 [(0, AV.ns z 1 l), (1, AV.ns y 1 b),
 (5, AV.ptr 2 0), (6, .int .i64 0),
 (7, AV.nilptr), (8, AV.nilsl), (9, .int .i64 i)])
 (stN o.fst o.2.fst o.snd.2)))
 (K AX.normal
 (Env.mk 151
 [(0, AV.ns z 1 l), (1, AV.ns y 1 b),
 (5, AV.ptr 2 0), (6, .int .i64 0),
 (7, AV.nilptr), (8, AV.nilsl), (9, .int .i64 i)])
 (stN o.fst o.2.fst o.snd.2)))))
 none
 else none)))))
 none)
 none)
 none := by kernel_rfl
theorem again_c30 (F : Nat) (X : Dk) (L : Lg) (q : List Ob) (z y : Bool) (l b : List (List AV)) (i k : Int) (K : Cont) :
 (f4_c3.run F K (Env.mk 151 [(0, .ns z 1 l), (1, .ns y 1 b), (5, .ptr 2 0), (6, .int .i64 0), (8, .sl 1 true []), (9, .int .i64 i), (10, .int .i64 k)]) (stN X L q) : Ans) =
 onSome (stG (stN X L q)) none fun (o : Dk × Lg × List Ob) =>
 branch (.bool (cdec (AV.ptr 2 0 = AV.ptr 2 0)))
 (onSome (stG (stN (o.fst.crashO k (IntKind.i64.wrap (k.tdiv (3 : Int)))) o.2.fst o.snd.2)) none
 fun (o : Dk × Lg × List Ob) =>
 branch (.bool (cdec (AV.ptr 2 0 = AV.ptr 2 0)))
 (branch (.bool (cdec (o.fst.3.length < 900000)))
 (branch (.bool (opB o.fst))
 (branch (.bool (decide (opq (↑(opRO o.fst).length : Int) < opq (0 : Int))))
 (K AX.ret (Env.mk 151 [(4, AV.bool false)]) (stN o.fst (opLO o.fst) (qN o.snd.2 o.2.fst)))
 (branch
 (.bool (decide (opq (↑(opRO o.fst).length : Int) > IntKind.i64.wrap (opq (0 : Int) + 1))))
 (K AX.ret (Env.mk 151 [(4, AV.bool false)])
 (stN o.fst (opLO o.fst) (qN o.snd.2 o.2.fst)))
 (if (0 : Int) ≤ opq (0 : Int) ∧ opq (0 : Int) ≤ (↑(opRO o.fst).length : Int) then
 branch
 (.bool (okBs (List.drop 0 (List.take (opq (0 : Int)).toNat (opRO o.fst))) && okBs []))
 (branch (.bool !bsR (List.drop 0 (List.take (opq (0 : Int)).toNat (opRO o.fst))) == [])
 (K AX.ret (Env.mk 151 [(4, AV.bool false)])
 (stN o.fst (opLO o.fst) (qN o.snd.2 o.2.fst)))
 (branch
 (.bool (opq (↑(opRO o.fst).length : Int) == IntKind.i64.wrap (opq (0 : Int) + 1)))
 (branch (.bool (inR (opRO o.fst) (opq (0 : Int))))
 (branch (.bool ((LD.one (LT.ns 1)).is (V.rowAt (opRO o.fst) (opq (0 : Int)))))
 (branch (.bool (inR l i))
 (branch (.bool ((LD.one (LT.ns 1)).is (V.rowAt l i)))
 (branch
 (AV.bool
 (byOk (rwA (V.rowAt (opRO o.fst) (opq (0 : Int)))) && byOk (rwA (V.rowAt l i))))
 (branch
 (.bool !nR (rwA (V.rowAt (opRO o.fst) (opq (0 : Int)))) == nR (rwA (V.rowAt l i)))
 (K AX.ret (Env.mk 151 [(4, AV.bool false)])
 (stN o.fst (opLO o.fst) (qN o.snd.2 o.2.fst)))
 (branch (.bool (bitsI BinOp.and IntKind.i64 i (1 : Int) == 0))
 (branch
 (AV.bool
 (opq (↑(opRO o.fst).length : Int) !=
 IntKind.i64.wrap (opq (0 : Int) + 1)))
 (K AX.ret (Env.mk 151 [(4, AV.bool false)])
 (stN o.fst (opLO o.fst) (qN o.snd.2 o.2.fst)))
 (K AX.normal
 (Env.mk 151
 [(0, AV.ns z 1 l), (1, AV.ns y 1 b),
 (5, AV.ptr 2 0),
 (6, .int .i64 0),
 (7, AV.ptr (4 + (qN o.snd.2 o.2.fst).length) 0),
 (8, AV.ns (opZ o.fst) 1 (opRO o.fst)),
 (9, .int .i64 i)])
 (stN o.fst (opLO o.fst) (qN o.snd.2 o.2.fst))))
 (K AX.normal
 (Env.mk 151
 [(0, AV.ns z 1 l), (1, AV.ns y 1 b),
 (5, AV.ptr 2 0),
 (6, .int .i64 0),
 (7, AV.ptr (4 + (qN o.snd.2 o.2.fst).length) 0),
 (8, AV.ns (opZ o.fst) 1 (opRO o.fst)),
 (9, .int .i64 i)])
 (stN o.fst (opLO o.fst) (qN o.snd.2 o.2.fst)))))
 none)
 none)
 none)
 none)
 none)
 (branch (.bool (bitsI BinOp.and IntKind.i64 i (1 : Int) == 0))
 (branch
 (.bool (opq (↑(opRO o.fst).length : Int) != IntKind.i64.wrap (opq (0 : Int) + 1)))
 (K AX.ret (Env.mk 151 [(4, AV.bool false)])
 (stN o.fst (opLO o.fst) (qN o.snd.2 o.2.fst)))
 (K AX.normal
 (Env.mk 151
 [(0, AV.ns z 1 l), (1, AV.ns y 1 b),
 (5, AV.ptr 2 0), (6, .int .i64 0),
 (7, AV.ptr (4 + (qN o.snd.2 o.2.fst).length) 0),
 (8, AV.ns (opZ o.fst) 1 (opRO o.fst)),
 (9, .int .i64 i)])
 (stN o.fst (opLO o.fst) (qN o.snd.2 o.2.fst))))
 (K AX.normal
 (Env.mk 151
 [(0, AV.ns z 1 l), (1, AV.ns y 1 b),
 (5, AV.ptr 2 0), (6, .int .i64 0),
 (7, AV.ptr (4 + (qN o.snd.2 o.2.fst).length) 0),
 (8, AV.ns (opZ o.fst) 1 (opRO o.fst)),
 (9, .int .i64 i)])
 (stN o.fst (opLO o.fst) (qN o.snd.2 o.2.fst))))))
 none
 else none)))
 (branch (.bool (opEO o.fst != 0))
 (K AX.ret (Env.mk 151 [(4, AV.bool false)]) (stN o.fst o.2.fst o.snd.2))
 (branch (.bool (decide (opq (0 : Int) < opq (0 : Int))))
 (K AX.ret (Env.mk 151 [(4, AV.bool false)]) (stN o.fst o.2.fst o.snd.2))
 (branch (.bool (decide (opq (0 : Int) > IntKind.i64.wrap (opq (0 : Int) + 1))))
 (K AX.ret (Env.mk 151 [(4, AV.bool false)]) (stN o.fst o.2.fst o.snd.2))
 (if (0 : Int) ≤ opq (0 : Int) ∧ opq (0 : Int) ≤ 0 then
 branch (.bool (okBs [] && okBs []))
 (branch (.bool (opq (0 : Int) == IntKind.i64.wrap (opq (0 : Int) + 1))) none
 (branch (.bool (bitsI BinOp.and IntKind.i64 i (1 : Int) == 0))
 (branch (.bool (opq (0 : Int) != IntKind.i64.wrap (opq (0 : Int) + 1)))
 (K AX.ret (Env.mk 151 [(4, AV.bool false)]) (stN o.fst o.2.fst o.snd.2))
 (K AX.normal
 (Env.mk 151
 [(0, AV.ns z 1 l), (1, AV.ns y 1 b),
 (5, AV.ptr 2 0), (6, .int .i64 0),
 (7, AV.nilptr), (8, AV.nilsl), (9, .int .i64 i)])
 (stN o.fst o.2.fst o.snd.2)))
 (K AX.normal
 (Env.mk 151
 [(0, AV.ns z 1 l), (1, AV.ns y 1 b),
 (5, AV.ptr 2 0), (6, .int .i64 0),
 (7, AV.nilptr), (8, AV.nilsl), (9, .int .i64 i)])
 (stN o.fst o.2.fst o.snd.2))))
 none
 else none)))))
 none)
 none)
 none := by kernel_rfl
theorem again_i (F : Nat) (z y : Bool) (l b : List (List AV)) (p v : AV) (i : Int) (st : St) (K : Cont) :
 (f4_i.run F K (Env.mk 151 [(0, .ns z 1 l), (1, .ns y 1 b), (5, .ptr 2 0), (6, .int .i64 0), (7, p), (8, v), (9, .int .i64 i)]) st : Ans) =
 K AX.normal
 (Env.mk 151
 [(0, AV.ns z 1 l), (1, AV.ns y 1 b), (5, AV.ptr 2 0),
 (6, .int .i64 0), (7, p), (8, v),
 (9, .int .i64 (IntKind.i64.wrap (i + 1)))])
 st := by kernel_rfl
end Go.Proofs.Ytnhdjhcpbjggmaa.V
namespace Go.Proofs.Ytnhdjhcpbjggmaa.V
open Go Go.V Go.RowKit
end Go.Proofs.Ytnhdjhcpbjggmaa.V
namespace Go.Proofs.Ytnhdjhcpbjggmaa.V
open Go Go.V Go.RowKit
abbrev tyBs : Ty := .sl (.sl (.int .u8) 1) 24
theorem bs_shape {xs : List AV} (h : Ty.Shape tyBs xs) : ∃ z l, xs = [.ns z 1 l] ∧ okBs l = true := by
 obtain ⟨z, l, rfl, hz, h1, h2, h3⟩ := h
 refine ⟨z, l, rfl, okBs_iff.mpr ⟨fun r hr => ?_, ?_⟩⟩
 ·obtain ⟨z', d, rfl, d1, d2, d3⟩ := bytes_shape (h3 r hr)
  show (Nat.beq 1 1 && byOk d) = true
  rw [byOk_iff.mpr ⟨d1, d3⟩]; rfl
 ·have : reachBytes < 4611686018427387904 := by decide
  omega
theorem bsR_length (c : List (List AV)) : (bsR c).length = c.length := by simp [bsR]
theorem row_lt {l : List (List AV)} (hl : ∀ r ∈ l, isB r = true) {r : List AV} (hr : r ∈ l) : ∀ y ∈ nR (rwA r), y < 256 := by
 obtain ⟨z, d, e, hd⟩ := isB_spec (hl r hr)
 rw [e]
 exact fun y hy => okR_lt (byOk_iff.mp hd).1 hy
theorem opR_ok {X : Dk} (h : X.Ok) (h2 : 2 ≤ X.n) : okBs (bsB X.opR) = true := by
 have hn := h.n1
 have hh : X.half = (X.n - 2) / 2 := rfl
 obtain ⟨a1, a2⟩ := recs_ok h X.half (opL0 X) X.newest.f (newest_ok h h2).1 (Nat.zero_le _)
 exact okBs_bsB a2 (by have : X.opR.length ≤ X.half := a1; omega)
theorem crash_sectorsB {X : Dk} {n k N c t : Nat} {B : Nat → List Nat} (hok : X.Ok) (hn : X.n = n) (hk : k + N ≤ n) (hws : X.ws = (List.range N).map fun i => (k + i, X.sector (k + i))) (hB : ∀ j, j < n → secL X.ls j = B j) (hc : c ≤ N) (ht : t ≤ 64) :
  ∀ j, j < n → (X.settle c t).sector j = if c < N ∧ j = k + c then (X.sector (k + c)).take t ++ (B j).drop t else if k ≤ j ∧ j < k + c then X.sector j else B j := by
 have htk : X.ws.take c = (List.range c).map fun i => (k + i, X.sector (k + i)) := by rw [hws, ← List.map_take, range_take N c hc]
 have hcc : X.ws[c]? = if c < N then some (k + c, X.sector (k + c)) else none := by
  rw [hws, List.getElem?_map]
  by_cases hq : c < N
  ·rw [List.getElem?_range hq, if_pos hq]; rfl
  ·rw [List.getElem?_eq_none (by simp; omega), if_neg hq]; rfl
 intro j hj
 have hb : (if k ≤ j ∧ j < k + c then some (X.sector (k + (j - k))) else none).getD (secL X.ls j) = if k ≤ j ∧ j < k + c then X.sector j else B j := by
  by_cases h3 : k ≤ j ∧ j < k + c
  ·rw [if_pos h3, if_pos h3, Option.getD_some, show k + (j - k) = j by omega]
  ·rw [if_neg h3, if_neg h3, ← hB j hj]; rfl
 rw [settle_sector hok (by omega) ht, hcc, htk, lastW_range k (fun i => X.sector (k + i)) c j, hb]
 by_cases hq : c < N
 ·rw [if_pos hq]
  simp only
  by_cases hj2 : j = k + c
  ·rw [if_pos hj2, if_neg (show ¬ (k ≤ j ∧ j < k + c) by omega), if_pos (show c < N ∧ j = k + c from ⟨hq, hj2⟩)]
  ·rw [if_neg hj2, if_neg (show ¬ (c < N ∧ j = k + c) by omega)]
 ·rw [if_neg hq, if_neg (show ¬ (c < N ∧ j = k + c) by omega)]
theorem crash_flush {X : Dk} {L : Lg} {l : List (List Nat × Nat)} (h : Again X L l) {d : List Nat} (hd : ∀ y ∈ d, y < 256) (he : appE X L d = 0) (k t : Int) :
  opE ((X.app L d).flush.crash k t) = 0 ∧ ((X.app L d).flush.crash k t).opR = l.map (·.1) ++ [d] ∧ Again ((X.app L d).flush.crash k t) (opL ((X.app L d).flush.crash k t)) (l ++ [(d, L.s)]) := by
 obtain ⟨a1, a2, _⟩ := h.app hd he
 have hf := flush_ok a1
 have hY : (X.app L d).flush.crash k t = (X.app L d).flush.settle (clip k 0).toNat (clip t 64).toNat := rfl
 obtain ⟨t1, t2⟩ := clip_ok t 64 (by omega)
 refine again_all h hd he (hf.settle _ _) a2 rfl fun j hj => ?_
 rw [hY, settle_sector hf (by show j < (X.app L d).n; omega) (by omega)]
 have e : (X.app L d).flush.ws = [] := rfl
 rw [e]
 simp only [List.getElem?_nil, List.take_nil]
 show secL (X.app L d).flush.ls j = _
 rw [← flush_sector a1 (by omega)]; rfl
theorem crash_cases {X : Dk} {L : Lg} {l : List (List Nat × Nat)} (h : Again X L l) {d : List Nat} (hd : ∀ y ∈ d, y < 256) (hlen : d.length ≤ 3000) (he : appE X L d = 0) (k : Int) (hk : -9223372036854775808 ≤ k ∧ k ≤ 9223372036854775807) :
  let Y := (X.app L d).crash k (IntKind.i64.wrap (k.tdiv 3))
  opE Y = 0 ∧ ((Y.opR = l.map (·.1) ∧ Again Y (opL Y) l) ∨ (Y.opR = l.map (·.1) ++ [d] ∧ Again Y (opL Y) (l ++ [(d, L.s)]))) := by
 intro Y
 obtain ⟨a1, a2, a3, a4, a5, a6, a7, a8, a9⟩ := h.app hd he
 have hsz := h.sz
 have hh : X.half = (X.n - 2) / 2 := rfl
 have hpn : piecesN d.length = (d.length + 57) / 56 := rfl
 have hwl : (X.app L d).ws.length = piecesN d.length := by rw [a9]; simp
 have hw3 : IntKind.i64.wrap (k.tdiv 3) = k.tdiv 3 := by
  apply wrapS
  ·by_cases hk0 : 0 ≤ k
   ·rw [Int.tdiv_eq_ediv_of_nonneg hk0]; omega
   ·rw [show k = -(-k) by omega, Int.neg_tdiv, Int.tdiv_eq_ediv_of_nonneg (by omega)]; omega
  ·by_cases hk0 : 0 ≤ k
   ·rw [Int.tdiv_eq_ediv_of_nonneg hk0]; omega
   ·rw [show k = -(-k) by omega, Int.neg_tdiv, Int.tdiv_eq_ediv_of_nonneg (by omega)]; omega
 have hB : ∀ j, j < 400 → secL (X.app L d).ls j = X.sector j := fun j hj => by rw [a8, sector_eq, h.w]; rfl
 obtain ⟨k1, k2⟩ := clip_ok k (piecesN d.length) (by omega)
 obtain ⟨t1, t2⟩ := clip_ok (k.tdiv 3) 64 (by omega)
 have hY : Y = (X.app L d).settle (clip k (piecesN d.length : Nat)).toNat (clip (k.tdiv 3) 64).toNat := by
  show (X.app L d).settle (clip k (X.app L d).ws.length).toNat (clip (IntKind.i64.wrap (k.tdiv 3)) 64).toNat = _
  rw [hw3, hwl]
 have hYok : Y.Ok := a1.settle _ _
 have hYn : Y.n = 400 := a2
 have hYw : Y.ws = [] := rfl
 have hsec := crash_sectorsB (X := X.app L d) (k := 2 + totalN l) (N := piecesN d.length) (c := (clip k (piecesN d.length : Nat)).toNat) (t := (clip (k.tdiv 3) 64).toNat) (B := X.sector) a1 a2 (by omega) a9 hB (by omega) (by omega)
 rw [← hY] at hsec
 have ek := clip_eq k (piecesN d.length : Nat) (by omega)
 have et := clip_eq (k.tdiv 3) 64 (by omega)
 by_cases hk0 : k ≤ 0
 ·
  rw [if_pos hk0] at ek
  have ht0 : k.tdiv 3 ≤ 0 := by rw [show k = -(-k) by omega, Int.neg_tdiv, Int.tdiv_eq_ediv_of_nonneg (by omega)]; omega
  rw [if_pos ht0] at et
  rw [ek, et] at hsec
  have hs : ∀ j, j < 400 → Y.sector j = X.sector j := fun j hj => by
   rw [hsec j hj]
   split
   ·simp
   ·rw [if_neg (by have : (0 : Int).toNat = 0 := rfl; omega)]
  obtain ⟨q1, q2, q3⟩ := again_none h hYok hYn hYw hs
  exact ⟨q1, .inl ⟨q2, q3⟩⟩
 ·rw [if_neg hk0] at ek
  obtain ⟨m, rfl⟩ := Int.eq_ofNat_of_zero_le (show 0 ≤ k by omega)
  by_cases hm : (m : Int) ≤ (piecesN d.length : Nat)
  ·rw [if_pos hm] at ek
   rw [ek, Int.toNat_natCast] at hsec
   by_cases hmn : m = piecesN d.length
   ·
    subst hmn
    have hs : ∀ j, j < 400 → Y.sector j = (X.app L d).sector j := fun j hj => by
     rw [hsec j hj, if_neg (by omega)]
     split
     ·rfl
     ·exact (a7 j (by omega)).symm
    obtain ⟨q1, q2, q3⟩ := again_all h hd he hYok hYn hYw hs
    exact ⟨q1, .inr ⟨q2, q3⟩⟩
   ·have htm : (m : Int).tdiv 3 = ((m / 3 : Nat) : Int) := by rw [Int.tdiv_eq_ediv_of_nonneg (by omega)]; omega
    have htt : (clip ((m : Int).tdiv 3) 64).toNat ≤ 60 := by
     rw [et, htm]
     split
     ·decide
     ·split <;> omega
    have hbl : ((X.app L d).sector (2 + totalN l + m)).length = 64 := (a1.sector_len (by omega)).1
    have hxl : (X.sector (2 + totalN l + m)).length = 64 := (h.ok.sector_len (by omega)).1
    obtain ⟨q1, q2, q3⟩ := again_cut h hd he hYok hYn hYw (c := m) (by omega) (by omega)
     (fun j hj => by rw [hsec j (by omega), if_neg (by omega), if_neg (by omega)])
     (fun i hi => by rw [hsec _ (by omega), if_neg (by omega), if_pos ⟨by omega, by omega⟩]; exact a6 i (by omega))
     (by
      rw [hsec _ (by omega), if_pos ⟨by omega, rfl⟩]
      generalize (clip ((m : Int).tdiv 3) 64).toNat = t at htt
      have get : ∀ i, 60 ≤ i → (((X.app L d).sector (2 + totalN l + m)).take t ++ (X.sector (2 + totalN l + m)).drop t).getD i 0 = (X.sector (2 + totalN l + m)).getD i 0 := fun i hi => by
       have e1 : (((X.app L d).sector (2 + totalN l + m)).take t).length = t := by rw [List.length_take, hbl]; omega
       rw [List.getD_eq_getElem?_getD, List.getElem?_append_right (by omega), e1, List.getElem?_drop, show t + (i - t) = i by omega, ← List.getD_eq_getElem?_getD]
      rw [numB, numB, get _ (by omega), get _ (by omega), get _ (by omega), get _ (by omega)])
     (fun j h1 h2 => by rw [hsec j h2, if_neg (by omega), if_neg (by omega)])
    exact ⟨q1, .inl ⟨q2, q3⟩⟩
  ·rw [if_neg hm] at ek
   rw [ek, Int.toNat_natCast] at hsec
   have hs : ∀ j, j < 400 → Y.sector j = (X.app L d).sector j := fun j hj => by
    rw [hsec j hj, if_neg (by omega)]
    split
    ·rfl
    ·exact (a7 j (by omega)).symm
   obtain ⟨q1, q2, q3⟩ := again_all h hd he hYok hYn hYw hs
   exact ⟨q1, .inr ⟨q2, q3⟩⟩
theorem then_normal (k : Env → St → Ans) (K : Cont) (env : Env) (st : St) : Cont.then k K .normal env st = k env st := rfl
def envG (z y : Bool) (l b : List (List AV)) (p v : AV) (i : Int) : Env := Env.mk 151 [(0, .ns z 1 l), (1, .ns y 1 b), (5, .ptr 2 0), (6, .int .i64 0), (7, p), (8, v), (9, .int .i64 i)]
noncomputable def KG (F m : Nat) (K : Cont) : Cont := Cont.then (fun e s => loopRun (f4_l0.run F) [0, 1, 5, 6, 7, 8, 9] K m (e.norm [0, 1, 5, 6, 7, 8, 9]) s) K
noncomputable def KB (F m : Nat) (K : Cont) : Cont := Cont.block 1 (Cont.then (f4_i.run F (KG F m K)) (KG F m K))
theorem again_unf (F m : Nat) (K : Cont) (env : Env) (st : St) : loopRun (f4_l0.run F) [0, 1, 5, 6, 7, 8, 9] K m.succ env st =
  f4_h.run F (Cont.then (fun e s => f4_A.run F (Cont.then (fun e s => f4_c1.run F (Cont.then (fun e s => f4_k.run F (Cont.then (fun e s => f4_c2.run F (Cont.then (fun e s => f4_c3.run F (KB F m K) e s) (KB F m K)) e s) (KB F m K)) e s) (KB F m K)) e s) (KB F m K)) e s) (KG F m K)) env st := by kernel_rfl
theorem again_v (F : Nat) (X : Dk) (L : Lg) (q : List Ob) (z y w : Bool) (l b : List (List AV)) (i k : Int) (K : Cont) :
  f4_c3.run F K (Env.mk 151 [(0, .ns z 1 l), (1, .ns y 1 b), (5, .ptr 2 0), (6, .int .i64 0), (8, .sl 1 true []), (9, .int .i64 i), (10, .int .i64 k)]) (stN X L q) = f4_c3.run F K (Env.mk 151 [(0, .ns z 1 l), (1, .ns y 1 b), (5, .ptr 2 0), (6, .int .i64 0), (8, .ns w 1 []), (9, .int .i64 i), (10, .int .i64 k)]) (stN X L q) :=
 Eq.trans (again_c30 F X L q z y l b i k K) (again_c3 F X L q z y w l b [] i k K).symm
theorem rowAt_bsB {rs : List (List Nat)} {i : Nat} (hi : i < rs.length) : V.rowAt (bsB rs) (i : Int) = [.ns false 1 (bR rs[i])] := by
 rw [rowAt_nat (by rw [bsB_length]; exact hi)]
 simp [bsB]
theorem c3_ok (F : Nat) {X : Dk} {L : Lg} {q : List Ob} (hX : X.Ok) (hw : X.ws.length < 999999) (z y w : Bool) {l : List (List AV)} (hl : ∀ r ∈ l, isB r = true) (b c : List (List AV)) (hc : okBs c = true) (hcl : c.length < 1000000) {i : Nat} (hi : i < l.length) (k : Int) (hYok : (X.crash k (IntKind.i64.wrap (k.tdiv 3))).Ok) (hn : 2 ≤ X.n) (hE : opE (X.crash k (IntKind.i64.wrap (k.tdiv 3))) = 0)
  (hor : ((X.crash k (IntKind.i64.wrap (k.tdiv 3))).opR = bsR c ∧ (bitsI BinOp.and IntKind.i64 (i : Int) (1 : Int) == (0 : Int)) = false) ∨ (X.crash k (IntKind.i64.wrap (k.tdiv 3))).opR = bsR c ++ [nR (rwA l[i])]) (K : Cont) :
  f4_c3.run F K (Env.mk 151 [(0, .ns z 1 l), (1, .ns y 1 b), (5, .ptr 2 0), (6, .int .i64 0), (8, .ns w 1 c), (9, .int .i64 (i : Int)), (10, .int .i64 k)]) (stN X L q) =
   K .normal (envG z y l b (ptrN (qN q L)) (.ns (X.crash k (IntKind.i64.wrap (k.tdiv 3))).opR.isEmpty 1 (bsB (X.crash k (IntKind.i64.wrap (k.tdiv 3))).opR)) (i : Int)) (stN (X.crash k (IntKind.i64.wrap (k.tdiv 3))) (opL (X.crash k (IntKind.i64.wrap (k.tdiv 3)))) (qN q L)) := by
 obtain ⟨a1, a2, a3, a4⟩ := isB_at hl hi
 have a2' : (LD.one (LT.ns 1)).is l[i] = true := by rw [← a4]; exact a2
 rw [a4] at a3
 have hrd : ∀ x ∈ nR (rwA l[i]), x < 256 := row_lt hl (List.getElem_mem hi)
 have hY2 : 2 ≤ (X.crash k (IntKind.i64.wrap (k.tdiv 3))).n := hn
 have hbs := opR_ok hYok hY2
 have hws : (X.crash k (IntKind.i64.wrap (k.tdiv 3))).ws.length = 0 := rfl
 obtain ⟨o1, o2, o3, o4, o5⟩ := opO_eq (X.crash k (IntKind.i64.wrap (k.tdiv 3)))
 have key := again_c3 F X L q z y w l b c (i : Int) k K
 rw [stG_of hX hw, onSome_some, branch_of (cdec_iff.mpr rfl)] at key
 dsimp only at key
 rw [crashO_eq, stG_of hYok (by rw [hws]; decide), onSome_some, branch_of (cdec_iff.mpr rfl)] at key
 dsimp only at key
 rw [branch_of (cdec_iff.mpr (by rw [hws]; decide)), o1, hE, branch_of (by rfl), o3, o4, o5] at key
 generalize hY : X.crash k (IntKind.i64.wrap (k.tdiv 3)) = Y at *
 have hbr : ∀ n, bsR (List.drop 0 (List.take n (bsB Y.opR))) = Y.opR.take n := fun n => by
  rw [List.drop_zero, show List.take n (bsB Y.opR) = bsB (Y.opR.take n) by simp [bsB], bsR_bsB]
 have hob : ∀ n, okBs (List.drop 0 (List.take n (bsB Y.opR))) = true := fun n => by
  obtain ⟨b1, b2⟩ := okBs_iff.mp hbs
  rw [List.drop_zero, okBs_iff]
  exact ⟨fun r hr => b1 r (List.mem_of_mem_take hr), by rw [List.length_take]; omega⟩
 refine key.trans ?_
 rw [opq_eq, opq_eq, bsB_length, Int.toNat_natCast, hbr, wrap_succ (by omega)]
 rcases hor with ⟨hr, hev⟩ | hr
 ·have hlen : Y.opR.length = c.length := by rw [hr, bsR_length]
  rw [hlen, branch_not (decide_eq_false (by omega)), branch_not (decide_eq_false (by omega)), if_pos ⟨by omega, by omega⟩, branch_of (by rw [hob, hc]; rfl), hr, List.take_of_length_le (by rw [bsR_length]; exact Nat.le_refl _), branch_not (by simp), branch_not (by simp; omega), hev, branch_not rfl]
  rfl
 ·have hlen : Y.opR.length = c.length + 1 := by rw [hr, List.length_append, bsR_length]; rfl
  have hrow : V.rowAt (bsB Y.opR) (c.length : Int) = [.ns false 1 (bR (nR (rwA l[i])))] := by
   rw [rowAt_bsB (by omega)]
   congr 3
   simp only [hr]
   rw [List.getElem_append_right (by rw [bsR_length]; exact Nat.le_refl _)]
   simp
  have htk : Y.opR.take c.length = bsR c := by rw [hr, List.take_append_of_le_length (by rw [bsR_length]; exact Nat.le_refl _), List.take_of_length_le (by rw [bsR_length]; exact Nat.le_refl _)]
  rw [hlen, branch_not (decide_eq_false (by omega)), branch_not (decide_eq_false (by omega)), if_pos ⟨by omega, by omega⟩, branch_of (by rw [hob, hc]; rfl), htk, branch_not (by simp), branch_of (by simp), branch_of (inR_nat (by rw [bsB_length]; omega)), hrow, branch_of (show (LD.one (LT.ns 1)).is [AV.ns false 1 (bR (nR (rwA l[i])))] = true from rfl), branch_of a1, branch_of a2, a4,
   branch_of (by rw [a3]; show (byOk (bR (nR (rwA l[i]))) && true) = true; rw [byOk_bR hrd (by rw [nR_length]; exact (byOk_iff.mp a3).2)]; rfl), show nR (rwA [AV.ns false 1 (bR (nR (rwA l[i])))]) = nR (rwA l[i]) from nR_bR _, branch_not (by simp)]
  cases hev : (bitsI BinOp.and IntKind.i64 (i : Int) (1 : Int) == (0 : Int)) with
  | true => rw [branch_of rfl, branch_not (by simp)]; rfl
  | false => rw [branch_not rfl]; rfl
def okN (b : List (List AV)) : Prop := ∀ r ∈ b, ∃ n : Int, r = [.int .i64 n] ∧ -9223372036854775808 ≤ n ∧ n ≤ 9223372036854775807
theorem again_step (F m : Nat) {X : Dk} {L : Lg} {lh : List (List Nat × Nat)} (h : Again X L lh) (q : List Ob) (z y : Bool) {l b c : List (List AV)} (hl : ∀ r ∈ l, isB r = true) (hsz : ∀ r ∈ l, (rwA r).length ≤ 3000) (hb : okN b) (hbl : b.length < 1000000) (hc : okBs c = true) (hcl : c.length < 1000000) (hcr : bsR c = lh.map (·.1)) {v : AV} (hv : (∃ w, v = .ns w 1 c) ∨ (v = .sl 1 true [] ∧ c = [])) {i : Nat} (hi : i < l.length) (hi2 : i < 1000000) (K : Cont) :
  (∃ env st, loopRun (f4_l0.run F) [0, 1, 5, 6, 7, 8, 9] K m.succ (envG z y l b (ptrN q) v (i : Int)) (stN X L q) = KB F m K .ret env st ∧ env = Env.mk 151 [(4, .bool true)]) ∨
  ∃ X' L' lh' q' w' c', Again X' L' lh' ∧ okBs c' = true ∧ c'.length ≤ c.length + 1 ∧ bsR c' = lh'.map (·.1) ∧ loopRun (f4_l0.run F) [0, 1, 5, 6, 7, 8, 9] K m.succ (envG z y l b (ptrN q) v (i : Int)) (stN X L q) = loopRun (f4_l0.run F) [0, 1, 5, 6, 7, 8, 9] K m (envG z y l b (ptrN q') (.ns w' 1 c') ((i + 1 : Nat) : Int)) (stN X' L' q') := by
 obtain ⟨a1, a2, a3, a4⟩ := isB_at hl hi
 have a3' := a3
 rw [a4] at a3
 have hd := row_lt hl (List.getElem_mem hi)
 have hdl := hsz _ (List.getElem_mem hi)
 have hnl := nR_length (rwA l[i])
 have hw0 : X.ws.length < 999999 := by rw [h.w]; decide
 obtain ⟨e1, e2, e3⟩ := appO_eq X L (nR (rwA l[i]))
 have fin3 : ∀ (Y1 : Dk) (k : Int), Y1.Ok → Y1.ws.length < 999999 → 2 ≤ Y1.n → (Y1.crash k (IntKind.i64.wrap (k.tdiv 3))).Ok → (opE (Y1.crash k (IntKind.i64.wrap (k.tdiv 3))) = 0) → (((Y1.crash k (IntKind.i64.wrap (k.tdiv 3))).opR = bsR c ∧ (bitsI BinOp.and IntKind.i64 (i : Int) (1 : Int) == (0 : Int)) = false) ∨ (Y1.crash k (IntKind.i64.wrap (k.tdiv 3))).opR = bsR c ++ [nR (rwA l[i])]) → ∀ (M : Lg),
   f4_c3.run F (KB F m K) (Env.mk 151 [(0, .ns z 1 l), (1, .ns y 1 b), (5, .ptr 2 0), (6, .int .i64 0), (8, v), (9, .int .i64 (i : Int)), (10, .int .i64 k)]) (stN Y1 M q) =
    loopRun (f4_l0.run F) [0, 1, 5, 6, 7, 8, 9] K m (envG z y l b (ptrN (qN q M)) (.ns (Y1.crash k (IntKind.i64.wrap (k.tdiv 3))).opR.isEmpty 1 (bsB (Y1.crash k (IntKind.i64.wrap (k.tdiv 3))).opR)) ((i + 1 : Nat) : Int)) (stN (Y1.crash k (IntKind.i64.wrap (k.tdiv 3))) (opL (Y1.crash k (IntKind.i64.wrap (k.tdiv 3)))) (qN q M)) := by
  intro Y1 k y1 y2 y3 y4 y5 y6 M
  have e9 : ∀ w, f4_c3.run F (KB F m K) (Env.mk 151 [(0, .ns z 1 l), (1, .ns y 1 b), (5, .ptr 2 0), (6, .int .i64 0), (8, v), (9, .int .i64 (i : Int)), (10, .int .i64 k)]) (stN Y1 M q) = f4_c3.run F (KB F m K) (Env.mk 151 [(0, .ns z 1 l), (1, .ns y 1 b), (5, .ptr 2 0), (6, .int .i64 0), (8, .ns w 1 c), (9, .int .i64 (i : Int)), (10, .int .i64 k)]) (stN Y1 M q) ∨ ∃ w', v = .ns w' 1 c := fun w => by
   rcases hv with ⟨w', hv⟩ | ⟨rfl, rfl⟩
   ·exact .inr ⟨w', hv⟩
   ·exact .inl (again_v F Y1 M q z y w l b (i : Int) k (KB F m K))
  have fin4 : ∀ w, f4_c3.run F (KB F m K) (Env.mk 151 [(0, .ns z 1 l), (1, .ns y 1 b), (5, .ptr 2 0), (6, .int .i64 0), (8, .ns w 1 c), (9, .int .i64 (i : Int)), (10, .int .i64 k)]) (stN Y1 M q) = loopRun (f4_l0.run F) [0, 1, 5, 6, 7, 8, 9] K m (envG z y l b (ptrN (qN q M)) (.ns (Y1.crash k (IntKind.i64.wrap (k.tdiv 3))).opR.isEmpty 1 (bsB (Y1.crash k (IntKind.i64.wrap (k.tdiv 3))).opR)) ((i + 1 : Nat) : Int)) (stN (Y1.crash k (IntKind.i64.wrap (k.tdiv 3))) (opL (Y1.crash k (IntKind.i64.wrap (k.tdiv 3)))) (qN q M)) := fun w => by
   rw [c3_ok F y1 y2 z y w hl b c hc hcl hi k y4 y3 y5 y6 (KB F m K)]
   show f4_i.run F (KG F m K) (Env.mk 151 [(0, .ns z 1 l), (1, .ns y 1 b), (5, .ptr 2 0), (6, .int .i64 0), (7, ptrN (qN q M)), (8, .ns (Y1.crash k (IntKind.i64.wrap (k.tdiv 3))).opR.isEmpty 1 (bsB (Y1.crash k (IntKind.i64.wrap (k.tdiv 3))).opR)), (9, .int .i64 (i : Int))]) _ = _
   rw [again_i, wrap_succ (by omega)]
   rfl
  rcases e9 true with e | ⟨w', rfl⟩
  ·rw [e]; exact fin4 true
  ·exact fin4 w'
 rw [again_unf, envG, again_h, branch_of (decide_eq_true (by omega)), then_normal, again_A, branch_of a1, branch_of a2, stG_of h.ok hw0, onSome_some, branch_of (cdec_iff.mpr rfl)]
 dsimp only
 rw [a4, branch_of (by rw [Bool.and_eq_true, cdec_iff]; exact ⟨a3, h.lok⟩), e1, e2, e3]
 by_cases he : appE X L (nR (rwA l[i])) = 0
 ·right
  obtain ⟨p1, p2, _⟩ := h.app hd he
  have hw1 : (X.app L (nR (rwA l[i]))).ws.length < 999999 := by
   have := app_w X L (nR (rwA l[i])); have hp := h.p; have hsz' := h.sz
   have hh : X.half = (X.n - 2) / 2 := rfl
   have h9 : (L.app X (nR (rwA l[i]))).p ≤ X.half := app_p _ (by obtain ⟨s, hL⟩ := h.lg; rw [hL]; exact hp)
   rw [h.w] at this; simp only [List.length_nil] at this; omega
  rw [he, branch_not (by rfl), then_normal]
  have hc1 := again_c1 F (X.app L (nR (rwA l[i]))) (L.app X (nR (rwA l[i]))) q z y l b (.bool (((0 : Nat) : Int) != (0 : Int))) v (i : Int)
  have key : ∀ (Y1 : Dk) (M : Lg), Y1.Ok → Y1.ws.length < 999999 → Y1.n = 400 → (∀ k : Int, (-9223372036854775808 ≤ k ∧ k ≤ 9223372036854775807) → ∃ lh', (opE (Y1.crash k (IntKind.i64.wrap (k.tdiv 3))) = 0) ∧ (((Y1.crash k (IntKind.i64.wrap (k.tdiv 3))).opR = bsR c ∧ (bitsI BinOp.and IntKind.i64 (i : Int) (1 : Int) == (0 : Int)) = false) ∨ (Y1.crash k (IntKind.i64.wrap (k.tdiv 3))).opR = bsR c ++ [nR (rwA l[i])]) ∧ (Y1.crash k (IntKind.i64.wrap (k.tdiv 3))).opR = lh'.map (·.1) ∧ Again (Y1.crash k (IntKind.i64.wrap (k.tdiv 3))) (opL (Y1.crash k (IntKind.i64.wrap (k.tdiv 3)))) lh') →
    ∃ X' L' lh' q' w' c', Again X' L' lh' ∧ okBs c' = true ∧ c'.length ≤ c.length + 1 ∧ bsR c' = lh'.map (·.1) ∧ f4_k.run F (Cont.then (fun e s => f4_c2.run F (Cont.then (fun e s => f4_c3.run F (KB F m K) e s) (KB F m K)) e s) (KB F m K)) (Env.mk 151 [(0, .ns z 1 l), (1, .ns y 1 b), (5, .ptr 2 0), (6, .int .i64 0), (8, v), (9, .int .i64 (i : Int))]) (stN Y1 M q) = loopRun (f4_l0.run F) [0, 1, 5, 6, 7, 8, 9] K m (envG z y l b (ptrN q') (.ns w' 1 c') ((i + 1 : Nat) : Int)) (stN X' L' q') := by
   intro Y1 M y1 y2 y3 y4
   rw [again_k, then_normal, again_c2]
   have done : ∀ k : Int, (-9223372036854775808 ≤ k ∧ k ≤ 9223372036854775807) → ∃ X' L' lh' q' w' c', Again X' L' lh' ∧ okBs c' = true ∧ c'.length ≤ c.length + 1 ∧ bsR c' = lh'.map (·.1) ∧ f4_c3.run F (KB F m K) (Env.mk 151 [(0, .ns z 1 l), (1, .ns y 1 b), (5, .ptr 2 0), (6, .int .i64 0), (8, v), (9, .int .i64 (i : Int)), (10, .int .i64 k)]) (stN Y1 M q) = loopRun (f4_l0.run F) [0, 1, 5, 6, 7, 8, 9] K m (envG z y l b (ptrN q') (.ns w' 1 c') ((i + 1 : Nat) : Int)) (stN X' L' q') := by
    intro k hk
    obtain ⟨lh', r1, r2, r3, r4⟩ := y4 k hk
    have hYok : (Y1.crash k (IntKind.i64.wrap (k.tdiv 3))).Ok := y1.settle _ _
    refine ⟨_, _, lh', qN q M, _, bsB (Y1.crash k (IntKind.i64.wrap (k.tdiv 3))).opR, r4, opR_ok hYok (by show 2 ≤ Y1.n; omega), ?_, by rw [bsR_bsB, r3], fin3 Y1 k y1 y2 (by omega) hYok r1 r2 M⟩
    rw [bsB_length]
    rcases r2 with ⟨r2, _⟩ | r2
    ·rw [r2, bsR_length]; omega
    ·rw [r2, List.length_append, bsR_length]; exact Nat.le_refl _
   by_cases hib : i < b.length
   ·obtain ⟨n, hn, hn1⟩ := hb _ (List.getElem_mem hib)
    rw [branch_of (decide_eq_true (by omega)), branch_of (inR_nat hib), rowAt_nat hib, hn, branch_of (show (LD.one (LT.int IntKind.i64)).is [AV.int .i64 n] = true from rfl), then_normal]
    exact done n hn1
   ·rw [branch_not (decide_eq_false (by omega)), then_normal]
    exact done 0 (by decide)
  refine Exists.imp (fun X' => Exists.imp fun L' => Exists.imp fun lh' => Exists.imp fun q' => Exists.imp fun w' => Exists.imp fun c' hx => ?_) (?_ : ∃ X' L' lh' q' w' c', Again X' L' lh' ∧ okBs c' = true ∧ c'.length ≤ c.length + 1 ∧ bsR c' = lh'.map (·.1) ∧ f4_c1.run F (Cont.then (fun e s => f4_k.run F (Cont.then (fun e s => f4_c2.run F (Cont.then (fun e s => f4_c3.run F (KB F m K) e s) (KB F m K)) e s) (KB F m K)) e s) (KB F m K)) (Env.mk 151 [(66, .bool false), (0, .ns z 1 l), (1, .ns y 1 b), (5, .ptr 2 0), (6, .int .i64 0), (7, ptrN q), (8, v), (9, .int .i64 (i : Int)), (66, .bool (((0 : Nat) : Int) != (0 : Int)))]) (stN (X.app L (nR (rwA l[i]))) (L.app X (nR (rwA l[i]))) q) = loopRun (f4_l0.run F) [0, 1, 5, 6, 7, 8, 9] K m (envG z y l b (ptrN q') (.ns w' 1 c') ((i + 1 : Nat) : Int)) (stN X' L' q'))
  ·exact hx
  ·rw [hc1]
   cases hev : (bitsI BinOp.and IntKind.i64 (i : Int) (1 : Int) == (0 : Int)) with
   | true =>
    rw [branch_of rfl, stG_of p1 hw1, onSome_some, branch_of (cdec_iff.mpr rfl), then_normal]
    dsimp only
    rw [flushO_eq]
    refine key _ _ (flush_ok p1) (by show 0 < 999999; decide) p2 fun k hk => ?_
    obtain ⟨r1, r2, r3⟩ := crash_flush h hd he k (IntKind.i64.wrap (k.tdiv 3))
    exact ⟨_, r1, .inr (by rw [r2, hcr]), by rw [r2]; simp, r3⟩
   | false =>
    rw [branch_not rfl, then_normal]
    refine key _ _ p1 hw1 p2 fun k hk => ?_
    obtain ⟨r1, r2⟩ := crash_cases h hd (by omega) he k hk
    rcases r2 with ⟨r2, r3⟩ | ⟨r2, r3⟩
    ·exact ⟨_, r1, .inl ⟨by rw [r2, hcr], hev⟩, r2, r3⟩
    ·exact ⟨_, r1, .inr (by rw [r2, hcr]), by rw [r2]; simp, r3⟩
 ·left
  rw [branch_of (by simp; omega)]
  exact ⟨_, _, rfl, rfl⟩
noncomputable def KE (F : Nat) : Cont := Cont.block 0 (Cont.then (f4_r0.run F (f4.leaveK Fun.done)) (f4.leaveK Fun.done))
theorem again_loop (F : Nat) (z y : Bool) {l b : List (List AV)} (hl : ∀ r ∈ l, isB r = true) (hll : l.length < 1000) (hsz : ∀ r ∈ l, (rwA r).length ≤ 3000) (hb : okN b) (hbl : b.length < 1000000) : ∀ (d m i : Nat) (X : Dk) (L : Lg) (lh : List (List Nat × Nat)) (q : List Ob) (c : List (List AV)) (v : AV), i + d = l.length → d < m → Again X L lh → okBs c = true → c.length ≤ i → bsR c = lh.map (·.1) → ((∃ w, v = .ns w 1 c) ∨ (v = .sl 1 true [] ∧ c = [])) →
  ∃ st, loopRun (f4_l0.run F) [0, 1, 5, 6, 7, 8, 9] (KE F) m (envG z y l b (ptrN q) v (i : Int)) (stN X L q) = some (.ret (.bool true), st)
 | d, 0, i, X, L, lh, q, c, v, _, hm, _, _, _, _, _ => by omega
 | 0, m + 1, i, X, L, lh, q, c, v, hi, _, h, hc, hcl, hcr, hv => by
  refine ⟨stN X L q, ?_⟩
  rw [show m + 1 = m.succ from rfl, again_unf, envG, again_h, branch_not (decide_eq_false (by omega))]
  rfl
 | d + 1, m + 1, i, X, L, lh, q, c, v, hi, hm, h, hc, hcl, hcr, hv => by
  rw [show m + 1 = m.succ from rfl]
  rcases again_step F m h q z y hl hsz hb hbl hc (by omega) hcr hv (i := i) (by omega) (by omega) (KE F) with ⟨env, st, h1, rfl⟩ | ⟨X', L', lh', q', w', c', k1, k2, k3, k4, k5⟩
  ·exact ⟨st, h1.trans rfl⟩
  ·rw [k5]
   exact again_loop F z y hl hll hsz hb hbl d m (i + 1) X' L' lh' q' c' _ (by omega) (by omega) k1 k2 (by omega) k4 (.inl ⟨w', rfl⟩)
theorem again_true (z y : Bool) (l b : List (List AV)) (hl : okBs l = true) (hb : okN b) (hbl : b.length < 1000000) : ∃ F st, f4.run F [.ns z 1 l, .ns y 1 b] ⟨[], []⟩ = some (.ret (.bool true), st) := by
 obtain ⟨F, hF⟩ : ∃ F : Nat, F = 1000000 := ⟨_, rfl⟩
 refine ⟨F, ?_⟩
 have key := again_run F z y l b
 obtain ⟨l1, _⟩ := okBs_iff.mp hl
 rw [branch_of (by rw [hl]; rfl)] at key
 by_cases h1 : weighV l (3000 : Int) > (3000 : Int)
 ·rw [branch_of (decide_eq_true h1)] at key; exact ⟨_, key⟩
 ·rw [branch_not (decide_eq_false h1)] at key
  by_cases h2 : (l.length : Int) > (40 : Int)
  ·rw [branch_of (decide_eq_true h2)] at key; exact ⟨_, key⟩
  ·rw [branch_not (decide_eq_false h2)] at key
   by_cases h3 : (b.length : Int) > (80 : Int)
   ·rw [branch_of (decide_eq_true h3)] at key; exact ⟨_, key⟩
   ·rw [branch_not (decide_eq_false h3)] at key
    obtain ⟨w1, w2⟩ := weigh_len (x := 3000) (by decide) hl h1
    have e0 : newO (400 : Int) = Dk.new 400 [] := newO_eq 400
    obtain ⟨hE, _⟩ := new_small (n := 400) (by decide) (by decide)
    obtain ⟨f1, f2, f3', f4'⟩ := fmtO_eq (Dk.new 400 [])
    have hok := new_ok (n := 400) (img := []) (by decide) (by simp)
    have hws : (Dk.new 400 []).ws.length = 0 := rfl
    rw [e0, gD hok (by omega), onSome_some, branch_of (cdec_iff.mpr ⟨rfl, rfl, rfl⟩), branch_of (cdec_iff.mpr (by show (Dk.new 400 []).ws.length < _; omega)), f4', hE, branch_of (by rfl), f2, f3'] at key
    obtain ⟨st, hlp⟩ := again_loop F z y l1 (by omega) (fun r hr => w2 r hr) hb hbl l.length F 0 _ _ [] [] [] (.sl 1 true []) (by omega) (by omega) again_fresh (okBs_iff.mpr ⟨fun r hr => (by cases hr), by decide⟩) (Nat.le_refl _) rfl (.inr ⟨rfl, rfl⟩)
    exact ⟨st, key.trans hlp⟩
theorem ints_shape {xs : List AV} (h : Ty.Shape (.sl (.int .i64) 8) xs) : ∃ z l, xs = [.ns z 1 l] ∧ okN l ∧ l.length < 4611686018427387904 := by
 obtain ⟨z, l, rfl, hz, h1, h2, h3⟩ := h
 refine ⟨z, l, rfl, fun r hr => ?_, ?_⟩
 ·obtain ⟨n, rfl, hn⟩ := h3 r hr
  exact ⟨n, rfl, wf_i64 hn⟩
 ·have : reachBytes < 4611686018427387904 := by decide
  omega
theorem again_lawT (as0 as1 : List AV) (s0 : Ty.Shape tyBs as0) (s1 : Ty.Shape (.sl (.int .i64) 8) as1) : ∃ F st, f4.run F [tyBs.AV' as0, (Ty.sl (.int .i64) 8).AV' as1] ⟨[], []⟩ = some (.ret (.bool true), st) := by
 obtain ⟨z, l, rfl, hl⟩ := bs_shape s0
 obtain ⟨y, b, rfl, hb, _⟩ := ints_shape s1
 by_cases hbl : b.length < 1000000
 ·exact again_true z y l b hl hb hbl
 ·refine ⟨1000000, ?_⟩
  have key := again_run 1000000 z y l b
  rw [branch_of (by rw [hl]; rfl)] at key
  by_cases h1 : weighV l (3000 : Int) > (3000 : Int)
  ·rw [branch_of (decide_eq_true h1)] at key; exact ⟨_, key⟩
  ·rw [branch_not (decide_eq_false h1)] at key
   by_cases h2 : (l.length : Int) > (40 : Int)
   ·rw [branch_of (decide_eq_true h2)] at key; exact ⟨_, key⟩
   ·rw [branch_not (decide_eq_false h2), branch_of (decide_eq_true (by omega))] at key; exact ⟨_, key⟩
end Go.Proofs.Ytnhdjhcpbjggmaa.V
