/- Merged out of 3 texts: what the claim's code comes to, and why. -/
import Derived.Test.YtcfedmheblbdnaaGreatDoorR16
/- The functions' pieces, as told by gen.py. -/
set_option linter.unusedVariables false
set_option maxRecDepth 20000
namespace Go.Proofs.YtcfedmheblbdnaaGreatDoor.V
open Go Go.V Go.RowKit


/-! ### 3: interlock/interlocklaw04.ValueRows (23, 23, 24, 25); results 8; slots: 0 a, 1 b, 2 cols, 3 bytes, 4 a, 5 b, 6 cols, 7 bytes, 9 own, 10 x, 11 ok, 12 y, 13 is, 14 p, 15 has, 16 q, 17 had -/
noncomputable def f3_b : Sim Tryz.prog :=
 (.seq (.live [0, 1, 2, 3] (.region 0 [
 ⟨(opAssign (some 8) (.const (Value.bool false)) 4 "law.go:44" #[]).op, none⟩
 ] (by kernel_rfl)))
 (.seq (.seq (.live [0, 1, 2, 3, 19] (.region 1 [
 ⟨(opCallP p4 (some 18) [] #[] 4 "law.go:45" #[]).op, none⟩,
 ⟨(opNot (some 19) 4 (.tmp 18) 4 "law.go:45" #[{ on := 0, ground := Ground.data }]).op, none⟩
 ] (by kernel_rfl)))
 (.cond (.tmp 19)
 (.seq (.live [8] (.region 2 [
 ⟨(opAssign (some 8) (.const (Value.bool false)) 4 "law.go:46" #[]).op, none⟩
 ] (by kernel_rfl)))
 (.live [8] .ret))
 .skip))
 (.seq (.seq (.live [0, 1, 2, 3, 35] (.region 3 [
 ⟨(opMove (some 20) (.tmp 0) 23 "law.go:48" #[]).op, none⟩,
 ⟨(opCallP p5 (some 21) [(.tmp 20)] #[23] 4 "law.go:48" #[{ on := 0, ground := Ground.data }]).op, none⟩,
 ⟨(opMove (some 22) (.tmp 21) 4 "law.go:48" #[{ on := 1, ground := Ground.data }, { on := 1, ground := Ground.chain }]).op, none⟩,
 ⟨(opMove (some 23) (.tmp 1) 23 "law.go:48" #[{ on := 2, ground := Ground.guard }]).op, (some (2, 22, false))⟩,
 ⟨(opCallP p5 (some 24) [(.tmp 23)] #[23] 4 "law.go:48" #[{ on := 3, ground := Ground.data }, { on := 2, ground := Ground.chain }, { on := 2, ground := Ground.guard }]).op, (some (2, 22, false))⟩,
 ⟨(opPick (some 25) (.tmp 22) (.const (Value.bool true)) (.tmp 24) 4 "law.go:48" #[{ on := 2, ground := Ground.data }, { on := 4, ground := Ground.data }]).op, none⟩,
 ⟨(opMove (some 26) (.tmp 25) 4 "law.go:48" #[{ on := 5, ground := Ground.data }, { on := 4, ground := Ground.chain }]).op, none⟩,
 ⟨(opMove (some 27) (.tmp 2) 24 "law.go:48" #[{ on := 6, ground := Ground.guard }]).op, (some (6, 26, false))⟩,
 ⟨(opLen (some 28) (.tmp 27) 24 (.slice 63) Tryz.underlying24 3 "law.go:48" #[{ on := 7, ground := Ground.data }, { on := 6, ground := Ground.guard }]).op, (some (6, 26, false))⟩,
 ⟨(opBin (some 29) .gtr 3 (.tmp 28) (.const (Value.int IntKind.i64 100)) 3 4 "law.go:48" #[{ on := 8, ground := Ground.data }, { on := 6, ground := Ground.guard }]).op, (some (6, 26, false))⟩,
 ⟨(opPick (some 30) (.tmp 26) (.const (Value.bool true)) (.tmp 29) 4 "law.go:48" #[{ on := 6, ground := Ground.data }, { on := 9, ground := Ground.data }]).op, none⟩,
 ⟨(opMove (some 31) (.tmp 30) 4 "law.go:48" #[{ on := 10, ground := Ground.data }, { on := 6, ground := Ground.chain }]).op, none⟩,
 ⟨(opMove (some 32) (.tmp 3) 25 "law.go:48" #[{ on := 11, ground := Ground.guard }]).op, (some (11, 31, false))⟩,
 ⟨(opLen (some 33) (.tmp 32) 25 (.slice 5) Tryz.underlying25 3 "law.go:48" #[{ on := 12, ground := Ground.data }, { on := 11, ground := Ground.guard }]).op, (some (11, 31, false))⟩,
 ⟨(opBin (some 34) .gtr 3 (.tmp 33) (.const (Value.int IntKind.i64 1000)) 3 4 "law.go:48" #[{ on := 13, ground := Ground.data }, { on := 11, ground := Ground.guard }]).op, (some (11, 31, false))⟩,
 ⟨(opPick (some 35) (.tmp 31) (.const (Value.bool true)) (.tmp 34) 4 "law.go:48" #[{ on := 11, ground := Ground.data }, { on := 14, ground := Ground.data }]).op, none⟩
 ] (by kernel_rfl)))
 (.cond (.tmp 35)
 (.seq (.live [8] (.region 4 [
 ⟨(opAssign (some 8) (.const (Value.bool true)) 4 "law.go:49" #[]).op, none⟩
 ] (by kernel_rfl)))
 (.live [8] .ret))
 .skip))
 (.seq (.live [0, 1, 2, 3, 9] (.region 5 [
 ⟨(opMove (some 36) (.tmp 0) 23 "law.go:51" #[]).op, none⟩,
 ⟨(opCallP p6 (some 37) [(.tmp 36)] #[23] 23 "law.go:51" #[{ on := 0, ground := Ground.data }]).op, none⟩,
 ⟨(opAssign (some 9) (.tmp 37) 23 "law.go:51" #[{ on := 1, ground := Ground.data }, { on := 1, ground := Ground.chain }, { on := 0, ground := Ground.phase }, { on := 1, ground := Ground.phase }]).op, none⟩
 ] (by kernel_rfl)))
 (.seq (.live [0, 1, 2, 3, 9, 10, 11] (.region 6 [
 ⟨(opMove (some 39) (.tmp 9) 23 "law.go:52" #[]).op, none⟩,
 ⟨(opCallP p7 (some 40) [(.tmp 39)] #[23] 29 "law.go:52" #[{ on := 0, ground := Ground.data }]).op, none⟩,
 ⟨(opMove (some 38) (.tmp 40) 29 "law.go:52" #[{ on := 1, ground := Ground.data }]).op, none⟩,
 ⟨(opExtract (some 41) (.tmp 38) 0 25 "law.go:52" #[{ on := 2, ground := Ground.data }]).op, none⟩,
 ⟨(opExtract (some 42) (.tmp 38) 1 4 "law.go:52" #[{ on := 2, ground := Ground.data }, { on := 5, ground := (Ground.gcOnly Departure.lateStores) }]).op, none⟩,
 ⟨(opAssign (some 10) (.tmp 41) 25 "law.go:52" #[{ on := 3, ground := Ground.data }, { on := 1, ground := Ground.chain }, { on := 0, ground := Ground.phase }, { on := 1, ground := Ground.phase }, { on := 2, ground := Ground.phase }, { on := 3, ground := Ground.phase }, { on := 4, ground := (Ground.textOnly Departure.lateStores) }]).op, none⟩,
 ⟨(opAssign (some 11) (.tmp 42) 4 "law.go:52" #[{ on := 4, ground := Ground.data }, { on := 5, ground := Ground.chain }, { on := 0, ground := Ground.phase }, { on := 1, ground := Ground.phase }, { on := 2, ground := Ground.phase }, { on := 3, ground := Ground.phase }, { on := 4, ground := Ground.phase }, { on := 5, ground := Ground.phase }]).op, none⟩
 ] (by kernel_rfl)))
 (.seq (.live [0, 1, 2, 3, 9, 10, 11, 12, 13] (.region 7 [
 ⟨(opMove (some 44) (.tmp 0) 23 "law.go:53" #[]).op, none⟩,
 ⟨(opCallP p8 (some 45) [(.tmp 44)] #[23] 29 "law.go:53" #[{ on := 0, ground := Ground.data }]).op, none⟩,
 ⟨(opMove (some 43) (.tmp 45) 29 "law.go:53" #[{ on := 1, ground := Ground.data }]).op, none⟩,
 ⟨(opExtract (some 46) (.tmp 43) 0 25 "law.go:53" #[{ on := 2, ground := Ground.data }]).op, none⟩,
 ⟨(opExtract (some 47) (.tmp 43) 1 4 "law.go:53" #[{ on := 2, ground := Ground.data }, { on := 5, ground := (Ground.gcOnly Departure.lateStores) }]).op, none⟩,
 ⟨(opAssign (some 12) (.tmp 46) 25 "law.go:53" #[{ on := 3, ground := Ground.data }, { on := 1, ground := Ground.chain }, { on := 0, ground := Ground.phase }, { on := 1, ground := Ground.phase }, { on := 2, ground := Ground.phase }, { on := 3, ground := Ground.phase }, { on := 4, ground := (Ground.textOnly Departure.lateStores) }]).op, none⟩,
 ⟨(opAssign (some 13) (.tmp 47) 4 "law.go:53" #[{ on := 4, ground := Ground.data }, { on := 5, ground := Ground.chain }, { on := 0, ground := Ground.phase }, { on := 1, ground := Ground.phase }, { on := 2, ground := Ground.phase }, { on := 3, ground := Ground.phase }, { on := 4, ground := Ground.phase }, { on := 5, ground := Ground.phase }]).op, none⟩
 ] (by kernel_rfl)))
 (.seq (.live [0, 1, 2, 3, 9, 10, 11, 12, 13, 14, 15] (.region 8 [
 ⟨(opMove (some 49) (.tmp 3) 25 "law.go:54" #[]).op, none⟩,
 ⟨(opCallP p9 (some 50) [(.tmp 49)] #[25] 31 "law.go:54" #[{ on := 0, ground := Ground.data }]).op, none⟩,
 ⟨(opMove (some 48) (.tmp 50) 31 "law.go:54" #[{ on := 1, ground := Ground.data }]).op, none⟩,
 ⟨(opExtract (some 51) (.tmp 48) 0 23 "law.go:54" #[{ on := 2, ground := Ground.data }]).op, none⟩,
 ⟨(opExtract (some 52) (.tmp 48) 1 4 "law.go:54" #[{ on := 2, ground := Ground.data }, { on := 5, ground := (Ground.gcOnly Departure.lateStores) }]).op, none⟩,
 ⟨(opAssign (some 14) (.tmp 51) 23 "law.go:54" #[{ on := 3, ground := Ground.data }, { on := 1, ground := Ground.chain }, { on := 0, ground := Ground.phase }, { on := 1, ground := Ground.phase }, { on := 2, ground := Ground.phase }, { on := 3, ground := Ground.phase }, { on := 4, ground := (Ground.textOnly Departure.lateStores) }]).op, none⟩,
 ⟨(opAssign (some 15) (.tmp 52) 4 "law.go:54" #[{ on := 4, ground := Ground.data }, { on := 5, ground := Ground.chain }, { on := 0, ground := Ground.phase }, { on := 1, ground := Ground.phase }, { on := 2, ground := Ground.phase }, { on := 3, ground := Ground.phase }, { on := 4, ground := Ground.phase }, { on := 5, ground := Ground.phase }]).op, none⟩
 ] (by kernel_rfl)))
 (.seq (.live [0, 1, 2, 9, 10, 11, 12, 13, 14, 15, 16, 17] (.region 9 [
 ⟨(opMove (some 54) (.tmp 3) 25 "law.go:55" #[]).op, none⟩,
 ⟨(opCallP p10 (some 55) [(.tmp 54)] #[25] 31 "law.go:55" #[{ on := 0, ground := Ground.data }]).op, none⟩,
 ⟨(opMove (some 53) (.tmp 55) 31 "law.go:55" #[{ on := 1, ground := Ground.data }]).op, none⟩,
 ⟨(opExtract (some 56) (.tmp 53) 0 23 "law.go:55" #[{ on := 2, ground := Ground.data }]).op, none⟩,
 ⟨(opExtract (some 57) (.tmp 53) 1 4 "law.go:55" #[{ on := 2, ground := Ground.data }, { on := 5, ground := (Ground.gcOnly Departure.lateStores) }]).op, none⟩,
 ⟨(opAssign (some 16) (.tmp 56) 23 "law.go:55" #[{ on := 3, ground := Ground.data }, { on := 1, ground := Ground.chain }, { on := 0, ground := Ground.phase }, { on := 1, ground := Ground.phase }, { on := 2, ground := Ground.phase }, { on := 3, ground := Ground.phase }, { on := 4, ground := (Ground.textOnly Departure.lateStores) }]).op, none⟩,
 ⟨(opAssign (some 17) (.tmp 57) 4 "law.go:55" #[{ on := 4, ground := Ground.data }, { on := 5, ground := Ground.chain }, { on := 0, ground := Ground.phase }, { on := 1, ground := Ground.phase }, { on := 2, ground := Ground.phase }, { on := 3, ground := Ground.phase }, { on := 4, ground := Ground.phase }, { on := 5, ground := Ground.phase }]).op, none⟩
 ] (by kernel_rfl)))
 (.seq (.live [8] (.region 10 [
 ⟨(opMove (some 58) (.tmp 9) 23 "law.go:56" #[]).op, none⟩,
 ⟨(opCallP p11 (some 59) [(.tmp 58)] #[23] 4 "law.go:56" #[{ on := 0, ground := Ground.data }]).op, none⟩,
 ⟨(opMove (some 60) (.tmp 0) 23 "law.go:56" #[]).op, none⟩,
 ⟨(opCallP p12 (some 61) [(.tmp 60)] #[23] 4 "law.go:56" #[{ on := 2, ground := Ground.data }, { on := 1, ground := Ground.chain }]).op, none⟩,
 ⟨(opEq (some 62) 4 .bool Tryz.underlying4 (.tmp 59) (.tmp 61) (.inr rfl) 4 4 "law.go:56" #[{ on := 1, ground := Ground.data }, { on := 3, ground := Ground.data }]).op, none⟩,
 ⟨(opMove (some 63) (.tmp 62) 4 "law.go:56" #[{ on := 4, ground := Ground.data }, { on := 3, ground := Ground.chain }]).op, none⟩,
 ⟨(opMove (some 64) (.tmp 9) 23 "law.go:56" #[{ on := 5, ground := Ground.guard }]).op, (some (5, 63, true))⟩,
 ⟨(opMove (some 65) (.tmp 1) 23 "law.go:56" #[{ on := 5, ground := Ground.guard }]).op, (some (5, 63, true))⟩,
 ⟨(opCallP p13 (some 66) [(.tmp 64), (.tmp 65)] #[23, 23] 3 "law.go:56" #[{ on := 6, ground := Ground.data }, { on := 7, ground := Ground.data }, { on := 5, ground := Ground.chain }, { on := 5, ground := Ground.guard }]).op, (some (5, 63, true))⟩,
 ⟨(opMove (some 67) (.tmp 0) 23 "law.go:56" #[{ on := 5, ground := Ground.guard }]).op, (some (5, 63, true))⟩,
 ⟨(opMove (some 68) (.tmp 1) 23 "law.go:56" #[{ on := 5, ground := Ground.guard }]).op, (some (5, 63, true))⟩,
 ⟨(opCallP p14 (some 69) [(.tmp 67), (.tmp 68)] #[23, 23] 3 "law.go:56" #[{ on := 9, ground := Ground.data }, { on := 10, ground := Ground.data }, { on := 8, ground := Ground.chain }, { on := 5, ground := Ground.guard }]).op, (some (5, 63, true))⟩,
 ⟨(opBin (some 70) .eql 3 (.tmp 66) (.tmp 69) 3 4 "law.go:56" #[{ on := 8, ground := Ground.data }, { on := 11, ground := Ground.data }, { on := 5, ground := Ground.guard }]).op, (some (5, 63, true))⟩,
 ⟨(opPick (some 71) (.tmp 63) (.tmp 70) (.const (Value.bool false)) 4 "law.go:56" #[{ on := 5, ground := Ground.data }, { on := 12, ground := Ground.data }]).op, none⟩,
 ⟨(opMove (some 72) (.tmp 71) 4 "law.go:56" #[{ on := 13, ground := Ground.data }, { on := 11, ground := Ground.chain }]).op, none⟩,
 ⟨(opMove (some 73) (.tmp 9) 23 "law.go:56" #[{ on := 14, ground := Ground.guard }]).op, (some (14, 72, true))⟩,
 ⟨(opMove (some 74) (.tmp 2) 24 "law.go:56" #[{ on := 14, ground := Ground.guard }]).op, (some (14, 72, true))⟩,
 ⟨(opCallP p15 (some 75) [(.tmp 73), (.tmp 74)] #[23, 24] 34 "law.go:56" #[{ on := 15, ground := Ground.data }, { on := 16, ground := Ground.data }, { on := 14, ground := Ground.chain }, { on := 14, ground := Ground.guard }]).op, (some (14, 72, true))⟩,
 ⟨(opMove (some 76) (.tmp 0) 23 "law.go:56" #[{ on := 14, ground := Ground.guard }]).op, (some (14, 72, true))⟩,
 ⟨(opMove (some 77) (.tmp 2) 24 "law.go:56" #[{ on := 14, ground := Ground.guard }]).op, (some (14, 72, true))⟩,
 ⟨(opCallP p16 (some 78) [(.tmp 76), (.tmp 77)] #[23, 24] 34 "law.go:56" #[{ on := 18, ground := Ground.data }, { on := 19, ground := Ground.data }, { on := 17, ground := Ground.chain }, { on := 14, ground := Ground.guard }]).op, (some (14, 72, true))⟩,
 ⟨(opBin (some 79) .eql 34 (.tmp 75) (.tmp 78) 34 4 "law.go:56" #[{ on := 17, ground := Ground.data }, { on := 20, ground := Ground.data }, { on := 14, ground := Ground.guard }]).op, (some (14, 72, true))⟩,
 ⟨(opPick (some 80) (.tmp 72) (.tmp 79) (.const (Value.bool false)) 4 "law.go:56" #[{ on := 14, ground := Ground.data }, { on := 21, ground := Ground.data }]).op, none⟩,
 ⟨(opMove (some 81) (.tmp 80) 4 "law.go:56" #[{ on := 22, ground := Ground.data }, { on := 20, ground := Ground.chain }]).op, none⟩,
 ⟨(opMove (some 82) (.tmp 10) 25 "law.go:56" #[{ on := 23, ground := Ground.guard }]).op, (some (23, 81, true))⟩,
 ⟨(opMove (some 83) (.tmp 12) 25 "law.go:56" #[{ on := 23, ground := Ground.guard }]).op, (some (23, 81, true))⟩,
 ⟨(opCallP p17 (some 84) [(.tmp 82), (.tmp 83)] #[25, 25] 4 "law.go:56" #[{ on := 24, ground := Ground.data }, { on := 25, ground := Ground.data }, { on := 23, ground := Ground.chain }, { on := 23, ground := Ground.guard }]).op, (some (23, 81, true))⟩,
 ⟨(opPick (some 85) (.tmp 81) (.tmp 84) (.const (Value.bool false)) 4 "law.go:56" #[{ on := 23, ground := Ground.data }, { on := 26, ground := Ground.data }]).op, none⟩,
 ⟨(opMove (some 86) (.tmp 85) 4 "law.go:56" #[{ on := 27, ground := Ground.data }, { on := 26, ground := Ground.chain }]).op, none⟩,
 ⟨(opMove (some 87) (.tmp 11) 4 "law.go:56" #[{ on := 28, ground := Ground.guard }]).op, (some (28, 86, true))⟩,
 ⟨(opMove (some 88) (.tmp 13) 4 "law.go:56" #[{ on := 28, ground := Ground.guard }]).op, (some (28, 86, true))⟩,
 ⟨(opEq (some 89) 4 .bool Tryz.underlying4 (.tmp 87) (.tmp 88) (.inr rfl) 4 4 "law.go:56" #[{ on := 29, ground := Ground.data }, { on := 30, ground := Ground.data }, { on := 28, ground := Ground.guard }]).op, (some (28, 86, true))⟩,
 ⟨(opPick (some 90) (.tmp 86) (.tmp 89) (.const (Value.bool false)) 4 "law.go:56" #[{ on := 28, ground := Ground.data }, { on := 31, ground := Ground.data }]).op, none⟩,
 ⟨(opMove (some 91) (.tmp 90) 4 "law.go:56" #[{ on := 32, ground := Ground.data }, { on := 28, ground := Ground.chain }]).op, none⟩,
 ⟨(opMove (some 92) (.tmp 14) 23 "law.go:56" #[{ on := 33, ground := Ground.guard }]).op, (some (33, 91, true))⟩,
 ⟨(opMove (some 93) (.tmp 16) 23 "law.go:56" #[{ on := 33, ground := Ground.guard }]).op, (some (33, 91, true))⟩,
 ⟨(opCallP p18 (some 94) [(.tmp 92), (.tmp 93)] #[23, 23] 4 "law.go:56" #[{ on := 34, ground := Ground.data }, { on := 35, ground := Ground.data }, { on := 33, ground := Ground.chain }, { on := 33, ground := Ground.guard }]).op, (some (33, 91, true))⟩,
 ⟨(opPick (some 95) (.tmp 91) (.tmp 94) (.const (Value.bool false)) 4 "law.go:56" #[{ on := 33, ground := Ground.data }, { on := 36, ground := Ground.data }]).op, none⟩,
 ⟨(opMove (some 96) (.tmp 95) 4 "law.go:56" #[{ on := 37, ground := Ground.data }, { on := 36, ground := Ground.chain }]).op, none⟩,
 ⟨(opMove (some 97) (.tmp 15) 4 "law.go:56" #[{ on := 38, ground := Ground.guard }]).op, (some (38, 96, true))⟩,
 ⟨(opMove (some 98) (.tmp 17) 4 "law.go:56" #[{ on := 38, ground := Ground.guard }]).op, (some (38, 96, true))⟩,
 ⟨(opEq (some 99) 4 .bool Tryz.underlying4 (.tmp 97) (.tmp 98) (.inr rfl) 4 4 "law.go:56" #[{ on := 39, ground := Ground.data }, { on := 40, ground := Ground.data }, { on := 38, ground := Ground.guard }]).op, (some (38, 96, true))⟩,
 ⟨(opPick (some 100) (.tmp 96) (.tmp 99) (.const (Value.bool false)) 4 "law.go:56" #[{ on := 38, ground := Ground.data }, { on := 41, ground := Ground.data }]).op, none⟩,
 ⟨(opMove (some 101) (.tmp 100) 4 "law.go:56" #[{ on := 42, ground := Ground.data }, { on := 38, ground := Ground.chain }]).op, none⟩,
 ⟨(opMove (some 102) (.tmp 9) 23 "law.go:56" #[{ on := 43, ground := Ground.guard }]).op, (some (43, 101, true))⟩,
 ⟨(opMove (some 103) (.tmp 0) 23 "law.go:56" #[{ on := 43, ground := Ground.guard }]).op, (some (43, 101, true))⟩,
 ⟨(opCallP p18 (some 104) [(.tmp 102), (.tmp 103)] #[23, 23] 4 "law.go:56" #[{ on := 44, ground := Ground.data }, { on := 45, ground := Ground.data }, { on := 43, ground := Ground.chain }, { on := 43, ground := Ground.guard }]).op, (some (43, 101, true))⟩,
 ⟨(opPick (some 105) (.tmp 101) (.tmp 104) (.const (Value.bool false)) 4 "law.go:56" #[{ on := 43, ground := Ground.data }, { on := 46, ground := Ground.data }]).op, none⟩,
 ⟨(opAssign (some 8) (.tmp 105) 4 "law.go:56" #[{ on := 47, ground := Ground.data }, { on := 46, ground := Ground.chain }, { on := 0, ground := Ground.phase }, { on := 1, ground := Ground.phase }, { on := 2, ground := Ground.phase }, { on := 3, ground := Ground.phase }, { on := 4, ground := Ground.phase }, { on := 5, ground := Ground.phase }, { on := 6, ground := Ground.phase }, { on := 7, ground := Ground.phase }, { on := 8, ground := Ground.phase }, { on := 9, ground := Ground.phase }, { on := 10, ground := Ground.phase }, { on := 11, ground := Ground.phase }, { on := 12, ground := Ground.phase }, { on := 13, ground := Ground.phase }, { on := 14, ground := Ground.phase }, { on := 15, ground := Ground.phase }, { on := 16, ground := Ground.phase }, { on := 17, ground := Ground.phase }, { on := 18, ground := Ground.phase }, { on := 19, ground := Ground.phase }, { on := 20, ground := Ground.phase }, { on := 21, ground := Ground.phase }, { on := 22, ground := Ground.phase }, { on := 23, ground := Ground.phase }, { on := 24, ground := Ground.phase }, { on := 25, ground := Ground.phase }, { on := 26, ground := Ground.phase }, { on := 27, ground := Ground.phase }, { on := 28, ground := Ground.phase }, { on := 29, ground := Ground.phase }, { on := 30, ground := Ground.phase }, { on := 31, ground := Ground.phase }, { on := 32, ground := Ground.phase }, { on := 33, ground := Ground.phase }, { on := 34, ground := Ground.phase }, { on := 35, ground := Ground.phase }, { on := 36, ground := Ground.phase }, { on := 37, ground := Ground.phase }, { on := 38, ground := Ground.phase }, { on := 39, ground := Ground.phase }, { on := 40, ground := Ground.phase }, { on := 41, ground := Ground.phase }, { on := 42, ground := Ground.phase }, { on := 43, ground := Ground.phase }, { on := 44, ground := Ground.phase }, { on := 45, ground := Ground.phase }, { on := 46, ground := Ground.phase }, { on := 47, ground := Ground.phase }]).op, none⟩
 ] (by kernel_rfl)))
 (.live [8] .ret))))))))))

noncomputable def f3 : Fun Tryz.prog where
 id := 3
 fn := Tryz.f3
 hf := Tryz.func3
 hname := by kernel_rfl
 body := f3_b
 hbody := by kernel_rfl
 res := [rTmp 8]
 hres := by kernel_rfl
 n := 106
 hn := by kernel_rfl

end Go.Proofs.YtcfedmheblbdnaaGreatDoor.V

/- What the functions' runs come to; the right sides were printed by a tool, Lean checks them. -/
set_option linter.unusedVariables false
set_option maxRecDepth 100000
namespace Go.Proofs.YtcfedmheblbdnaaGreatDoor.V
open Go Go.V Go.RowKit

theorem law_run (F : Nat) (za zb zc zy : Bool) (a b c y : List (List AV)) :
 (f3.run F [.ns za 3 a, .ns zb 3 b, .ns zc 3 c, .ns zy 1 y] ⟨[], []⟩ : Ans) =
 branch (AV.bool (okV a))
 (branch (AV.bool (longV a)) (some (Fin.ret (AV.bool true), St.mk [] []))
 (branch (AV.bool (okV b))
 (branch (AV.bool (longV b)) (some (Fin.ret (AV.bool true), St.mk [] []))
 (branch (AV.bool (decide ((↑c.length : Int) > (100 : Int)))) (some (Fin.ret (AV.bool true), St.mk [] []))
 (branch (AV.bool (decide ((↑y.length : Int) > (1000 : Int)))) (some (Fin.ret (AV.bool true), St.mk [] []))
 (branch (AV.bool (okN (za, a)))
 (branch (AV.bool (okE2 (false, a)))
 (branch (AV.bool (okE2 (za, a)))
 (branch (AV.bool (okY (zy, y)))
 (branch (AV.bool (okY (zy, y)))
 (branch (AV.bool (okV a))
 (branch (AV.bool (okV a))
 (branch (AV.bool (rrV a == rrV a))
 (branch (AV.bool (ok2 ((false, a), zb, b)))
 (branch (AV.bool (ok2s ((za, a), zb, b)))
 (branch (AV.bool (ordV a b == ordV a b))
 (branch (AV.bool (okRC ((false, a), zc, c)))
 (branch (AV.bool (okRC ((za, a), zc, c)))
 (branch (AV.bool (fitsRow a c == fitsRow a c))
 (branch (AV.bool (ok2y ((!rrV a, encB a), !rrV a, encB a)))
 (branch (AV.bool (sameB (encB a) (encB a)))
 (branch (AV.bool (rrV a == rrV a))
 (branch
 (AV.bool
 (ok2
 ((((decF y).getD []).isEmpty, cellsV ((decF y).getD [])),
 (decF y).isNone, cellsV ((decF y).getD []))))
 (branch
 (AV.bool
 (sameV (cellsV ((decF y).getD [])) (cellsV ((decF y).getD []))))
 (branch (AV.bool ((decF y).isSome == (decF y).isSome))
 (branch (AV.bool (ok2 ((false, a), za, a)))
 (some (Fin.ret (AV.bool (sameV a a)), St.mk [] [])) none)
 (some (Fin.ret (AV.bool false), St.mk [] [])))
 (some (Fin.ret (AV.bool false), St.mk [] [])))
 none)
 (some (Fin.ret (AV.bool false), St.mk [] [])))
 (some (Fin.ret (AV.bool false), St.mk [] [])))
 none)
 (some (Fin.ret (AV.bool false), St.mk [] [])))
 none)
 none)
 (some (Fin.ret (AV.bool false), St.mk [] [])))
 none)
 none)
 (some (Fin.ret (AV.bool false), St.mk [] [])))
 none)
 none)
 none)
 none)
 none)
 none)
 none))))
 none))
 none := by kernel_rfl

end Go.Proofs.YtcfedmheblbdnaaGreatDoor.V

/- Values: ValueRows is true. -/
set_option linter.unusedVariables false
namespace Go.Proofs.YtcfedmheblbdnaaGreatDoor.V
open Go Go.V Go.RowKit

theorem sameV_self (l : List (List AV)) : sameV l l = true := by rw [sameV, cdec_iff]
theorem sameB_self (l : List (List AV)) : sameB l l = true := by rw [sameB, cdec_iff]
theorem encVs_len : ∀ (l : List Va), (∀ v ∈ l, v.s.size ≤ 1000) → (encVs l).length ≤ 1020 * l.length
  | [], _ => by simp [encVs]
  | v :: l, h => by
    have h1 := encVa_len v (h v (by simp))
    have h2 := encVs_len l fun u hu => h u (by simp [hu])
    rw [encVs, List.length_append, List.length_cons]; omega
theorem decF_len {l : List (List AV)} : ((decF l).getD []).length ≤ 8 := by
  unfold decF
  split
  · simp
  · rename_i o ho
    obtain ⟨h1, h2⟩ := getC_range ho
    split
    · simp
    · rename_i p hp
      have := decN_len hp
      cases (p.2.length : Int) == 0 && p.1.all rightV with
      | false => simp
      | true => simp only [cond_true, Option.getD_some]; omega
theorem rows_true (za zb zc zy : Bool) (a b c y : List (List AV)) (ha : okV a = true) (hb : okV b = true) (hc : okC c = true) (hy : okR y = true) (wa : ∀ v ∈ rowsV a, K.i64B v.k = true ∧ K.i64B v.n = true) (hz : zy = true → y = []) :
    ∃ st, f3.run 0 [.ns za 3 a, .ns zb 3 b, .ns zc 3 c, .ns zy 1 y] ⟨[], []⟩ = some (.ret (.bool true), st) := by
  rw [law_run, branch_of ha]
  cases hla : longV a with
  | true => exact ⟨_, rfl⟩
  | false =>
  rw [branch_false, branch_of hb]
  cases hlb : longV b with
  | true => exact ⟨_, rfl⟩
  | false =>
  rw [branch_false]
  by_cases hlc : (c.length : Int) > 100
  · rw [branch_of (decide_eq_true hlc)]; exact ⟨_, rfl⟩
  rw [branch_not (decide_eq_false hlc)]
  by_cases hly : (y.length : Int) > 1000
  · rw [branch_of (decide_eq_true hly)]; exact ⟨_, rfl⟩
  rw [branch_not (decide_eq_false hly)]
  simp only [longV, Bool.or_eq_false_iff, decide_eq_false_iff_not] at hla
  obtain ⟨la, sa⟩ := hla
  have sz : ∀ v ∈ rowsV a, v.s.size ≤ 1000 := by
    intro v hv
    obtain ⟨r, hr, rfl⟩ := List.mem_map.mp hv
    have := List.any_eq_false.mp sa r hr
    simp only [decide_eq_true_eq] at this; omega
  have n1 : a.length ≤ 1000 := by omega
  have q1 : ∀ z, okN (z, a) = true := fun z => okN_iff.mpr ⟨ha, n1⟩
  have q2 : ∀ z, okE2 (z, a) = true := fun z => okE2_iff.mpr ⟨ha, fun v hv => ⟨(wa v hv).1, (wa v hv).2, sz v hv⟩⟩
  have q3 : okY (zy, y) = true := cdec_iff.mpr ⟨hz, by simp only [K.fit, Br.list, hy, Bool.true_and]; exact decide_eq_true (by omega)⟩
  have q4 : ∀ z, ok2 ((z, a), zb, b) = true := fun z => ok2_iff.mpr ⟨ha, hb, n1⟩
  have q5 : ok2s ((za, a), zb, b) = true := ok2s_iff.mpr ⟨sz, ha, hb, n1⟩
  have q6 : ∀ z, okRC ((z, a), zc, c) = true := fun z => okRC_iff.mpr ⟨ha, hc, n1⟩
  have u8 : (encB a).all isU8 = true := by
    unfold encB
    cases rrV a with
    | true => exact rb_u8 _
    | false => rfl
  have el : (encB a).length ≤ 100000 := by
    unfold encB
    cases hr : rrV a with
    | false => simp
    | true =>
      simp only [rrV, Bool.and_eq_true, decide_eq_true_eq] at hr
      have h1 := encVs_len (rowsV a) sz
      have h2 := K.intBytes_length (a.length : Int)
      have h3 : (rowsV a).length = a.length := by simp [rowsV]
      simp only [cond_true, K.rb_length, encR, List.length_append]; omega
  have q7 : ok2y ((!rrV a, encB a), !rrV a, encB a) = true := cdec_iff.mpr ⟨u8, u8, el⟩
  have q8 : ∀ z z', ok2 ((z, cellsV ((decF y).getD [])), z', cellsV ((decF y).getD [])) = true := fun z z' => ok2_iff.mpr ⟨cellsV_ok _, cellsV_ok _, by
    have := decF_len (l := y)
    show (cellsV ((decF y).getD [])).length ≤ 1000
    rw [cellsV_len]; omega⟩
  have q9 : ok2 ((false, a), za, a) = true := ok2_iff.mpr ⟨ha, ha, n1⟩
  rw [branch_of (q1 za), branch_of (q2 false), branch_of (q2 za), branch_of q3, branch_of q3, branch_of ha, branch_of ha, branch_of (beq_self_eq_true _), branch_of (q4 false), branch_of q5, branch_of (beq_self_eq_true _),
    branch_of (q6 false), branch_of (q6 za), branch_of (beq_self_eq_true _), branch_of q7, branch_of (sameB_self _), branch_of (beq_self_eq_true _), branch_of (q8 _ _), branch_of (sameV_self _), branch_of (beq_self_eq_true _), branch_of q9, sameV_self]
  exact ⟨_, rfl⟩
def tyVa : Ty := .st [.int .i64, .int .i64, .str]
def tyCo : Ty := .st [.str, .int .i64, .bool]
theorem i64B_wf {n : Int} (h : (Lit.int .i64 n).wf = true) : K.i64B n = true := by
  simp only [Lit.wf, IntKind.min, IntKind.max, IntKind.signed, IntKind.bits] at h
  simp at h
  simp only [K.i64B, Bool.and_eq_true, decide_eq_true_eq]
  omega
theorem va_row {r : List AV} (h : Ty.Shape tyVa r) : isRow tVa r = true ∧ K.i64B (vaR r).k = true ∧ K.i64B (vaR r).n = true := by
  obtain ⟨a, b, rfl, ⟨k, rfl, hk⟩, h⟩ := h
  obtain ⟨a, b, rfl, ⟨n, rfl, hn⟩, h⟩ := h
  obtain ⟨a, b, rfl, ⟨s, rfl, hs⟩, h⟩ := h
  obtain rfl : b = [] := h
  exact ⟨rfl, i64B_wf hk, i64B_wf hn⟩
theorem co_row {r : List AV} (h : Ty.Shape tyCo r) : isRow tCo r = true := by
  obtain ⟨a, b, rfl, ⟨s, rfl, hs⟩, h⟩ := h
  obtain ⟨a, b, rfl, ⟨n, rfl, hn⟩, h⟩ := h
  obtain ⟨a, b, rfl, ⟨k, rfl⟩, h⟩ := h
  obtain rfl : b = [] := h
  rfl
theorem by_row {r : List AV} (h : Ty.Shape (.int .u8) r) : isByte r = true := by
  obtain ⟨n, rfl, hn⟩ := h
  simp only [Lit.wf, IntKind.min, IntKind.max, IntKind.signed, IntKind.bits] at hn
  simp at hn
  simp only [isByte, Bool.and_eq_true, decide_eq_true_eq]
  omega
theorem rows_law (as0 as1 as2 as3 : List AV) (s0 : Ty.Shape (.sl tyVa 32) as0) (s1 : Ty.Shape (.sl tyVa 32) as1) (s2 : Ty.Shape (.sl tyCo 32) as2) (s3 : Ty.Shape (.sl (.int .u8) 1) as3) :
    ∃ F st, f3.run F [(Ty.sl tyVa 32).AV' as0, (Ty.sl tyVa 32).AV' as1, (Ty.sl tyCo 32).AV' as2, (Ty.sl (.int .u8) 1).AV' as3] ⟨[], []⟩ = some (.ret (.bool true), st) := by
  obtain ⟨za, a, rfl, _, _, _, ha⟩ := s0
  obtain ⟨zb, b, rfl, _, _, _, hb⟩ := s1
  obtain ⟨zc, c, rfl, _, _, _, hc⟩ := s2
  obtain ⟨zy, y, rfl, hz, _, _, hy⟩ := s3
  exact ⟨0, rows_true za zb zc zy a b c y (List.all_eq_true.mpr fun r hr => (va_row (ha r hr)).1) (List.all_eq_true.mpr fun r hr => (va_row (hb r hr)).1) (List.all_eq_true.mpr fun r hr => co_row (hc r hr)) (List.all_eq_true.mpr fun r hr => by_row (hy r hr))
    (fun v hv => by obtain ⟨r, hr, rfl⟩ := List.mem_map.mp hv; exact (va_row (ha r hr)).2) hz⟩
end Go.Proofs.YtcfedmheblbdnaaGreatDoor.V
