/- Merged out of 35 texts: what the claim's code comes to, and why. -/
import Derived.Test.YtnhdjhcpbjggmaaR43
set_option linter.unusedVariables false
set_option linter.unusedSimpArgs false
set_option maxRecDepth 100000
namespace Go.Proofs.Ytnhdjhcpbjggmaa.V
open Go Go.V Go.RowKit
theorem ze104 : (Try.prog.info? 104).bind (·.zero) = some (.agg #[(.int .i64 0), (.int .u8 0), (.int .u8 0), (.int .u8 0), (.int .u8 0), (.int .u8 0), (.int .u8 0), (.int .u8 0), (.int .u8 0), (.int .u8 0), (.int .u8 0), (.int .u8 0), (.int .u8 0), (.int .u8 0), (.int .u8 0), (.int .u8 0), (.int .u8 0), (.int .u8 0), (.int .u8 0), (.int .u8 0), (.int .u8 0), (.int .u8 0), (.int .u8 0), (.int .u8 0), (.int .u8 0), (.int .u8 0), (.int .u8 0), (.int .u8 0), (.int .u8 0), (.int .u8 0), (.int .u8 0), (.int .u8 0), (.int .u8 0), (.int .u8 0), (.int .u8 0), (.int .u8 0), (.int .u8 0), (.int .u8 0), (.int .u8 0), (.int .u8 0), (.int .u8 0), (.int .u8 0), (.int .u8 0), (.int .u8 0), (.int .u8 0), (.int .u8 0), (.int .u8 0), (.int .u8 0), (.int .u8 0), (.int .u8 0), (.int .u8 0), (.int .u8 0), (.int .u8 0), (.int .u8 0), (.int .u8 0), (.int .u8 0), (.int .u8 0), (.int .u8 0), (.int .u8 0), (.int .u8 0), (.int .u8 0), (.int .u8 0), (.int .u8 0), (.int .u8 0), (.int .u8 0)]) := by kernel_rfl
theorem sz104 : (Try.prog.info? 104).map (·.size) = some 65 := by kernel_rfl
noncomputable abbrev d104 : TypeDesc := (Try.prog.underlying 104).getD .bool
theorem ud104 : Try.prog.underlying 104 = some d104 := by kernel_rfl
theorem by104 : (Try.prog.info? 104).map (·.bytes) = some 72 := by kernel_rfl
theorem el77 : ElemOf Try.prog 77 104 65 72 (.agg #[(.int .i64 0), (.int .u8 0), (.int .u8 0), (.int .u8 0), (.int .u8 0), (.int .u8 0), (.int .u8 0), (.int .u8 0), (.int .u8 0), (.int .u8 0), (.int .u8 0), (.int .u8 0), (.int .u8 0), (.int .u8 0), (.int .u8 0), (.int .u8 0), (.int .u8 0), (.int .u8 0), (.int .u8 0), (.int .u8 0), (.int .u8 0), (.int .u8 0), (.int .u8 0), (.int .u8 0), (.int .u8 0), (.int .u8 0), (.int .u8 0), (.int .u8 0), (.int .u8 0), (.int .u8 0), (.int .u8 0), (.int .u8 0), (.int .u8 0), (.int .u8 0), (.int .u8 0), (.int .u8 0), (.int .u8 0), (.int .u8 0), (.int .u8 0), (.int .u8 0), (.int .u8 0), (.int .u8 0), (.int .u8 0), (.int .u8 0), (.int .u8 0), (.int .u8 0), (.int .u8 0), (.int .u8 0), (.int .u8 0), (.int .u8 0), (.int .u8 0), (.int .u8 0), (.int .u8 0), (.int .u8 0), (.int .u8 0), (.int .u8 0), (.int .u8 0), (.int .u8 0), (.int .u8 0), (.int .u8 0), (.int .u8 0), (.int .u8 0), (.int .u8 0), (.int .u8 0), (.int .u8 0)]) := ⟨Try.underlying77, sz104, by104, ze104, by kernel_rfl, by decide⟩
theorem fl79_1 : fieldB Try.prog 79 1 1 1 false = true := by kernel_rfl
theorem sz76 : (Try.prog.info? 76).map (·.size) = some 1 := by kernel_rfl
theorem fl104_1 : fieldB Try.prog 104 1 1 64 true = true := by kernel_rfl
theorem fl104_0 : fieldB Try.prog 104 0 0 1 false = true := by kernel_rfl
theorem sz3 : (Try.prog.info? 3).map (·.size) = some 1 := by kernel_rfl
noncomputable def f56_b : Sim Try.prog :=
 (.seq (.live [0, 1, 2] (.region 0 [
 ⟨(opAssign (some 6) (.const (Value.int IntKind.i64 0)) 26 "disk.go:58" #[]).op, none⟩
 ] (by kernel_rfl)))
 (.seq (.block 0 (.seq (.live [0, 1, 2, 8] (.region 1 [
 ⟨(opMove (some 9) (.tmp 0) 25 "disk.go:60" #[]).op, none⟩,
 ⟨(opMove (some 10) (.tmp 1) 3 "disk.go:60" #[]).op, none⟩,
 ⟨opCall (f73.orc 0) (some 11) [(.tmp 9), (.tmp 10)] #[25, 3] 4 "disk.go:60" #[eD 0, eD 1], none⟩,
 ⟨(opNot (some 12) 4 (.tmp 11) 4 "disk.go:60" #[eD 2]).op, none⟩,
 ⟨(opAssign (some 8) (.tmp 12) 4 "disk.go:60" #[eD 3, eC 2]).op, none⟩
 ] (by kernel_rfl)))
 (.cond (.tmp 8)
 (.seq (.live [6] (.region 2 [
 ⟨(opAssign (some 6) (.const (Value.int IntKind.i64 40)) 26 "disk.go:61" #[]).op, none⟩
 ] (by kernel_rfl)))
 (.live [6] .ret))
 (.seq (.live [0, 1, 2, 13] (.region 3 [
 ⟨(opMove (some 14) (.tmp 2) 33 "disk.go:62" #[]).op, none⟩,
 ⟨(opLen (some 15) (.tmp 14) 33 (.slice 5) Try.underlying33 3 "disk.go:62" #[eD 0]).op, none⟩,
 ⟨(opBin (some 16) .neq 3 (.tmp 15) (.const (Value.int IntKind.i64 64)) 3 4 "disk.go:62" #[eD 1]).op, none⟩,
 ⟨(opAssign (some 13) (.tmp 16) 4 "disk.go:62" #[eD 2]).op, none⟩
 ] (by kernel_rfl)))
 (.cond (.tmp 13)
 (.seq (.live [6] (.region 4 [
 ⟨(opAssign (some 6) (.const (Value.int IntKind.i64 41)) 26 "disk.go:63" #[]).op, none⟩
 ] (by kernel_rfl)))
 (.live [6] .ret))
 .skip)))))
 (.seq (.live [0, 1, 7] (.items 5 [
 .one ((opMove (some 17) (.tmp 1) 3 "disk.go:65" #[]).op),
 .one ((opMove (some 18) (.tmp 2) 33 "disk.go:65" #[]).op),
 .one ((opArrPtr (some 19) 85 (.tmp 18) 64 5 1 Try.underlying85 (by decide) 0 "disk.go:65" #[eD 1]).op),
 .one ((opLoadA (some 20) 85 (.tmp 19) (.array 64 5) Try.underlying85 (by kernel_rfl) 64 sz85 85 "disk.go:65" #[eD 2]).op),
 .one ((opBuildC (some 21) 104 #[(.int .i64 0), (.int .u8 0), (.int .u8 0), (.int .u8 0), (.int .u8 0), (.int .u8 0), (.int .u8 0), (.int .u8 0), (.int .u8 0), (.int .u8 0), (.int .u8 0), (.int .u8 0), (.int .u8 0), (.int .u8 0), (.int .u8 0), (.int .u8 0), (.int .u8 0), (.int .u8 0), (.int .u8 0), (.int .u8 0), (.int .u8 0), (.int .u8 0), (.int .u8 0), (.int .u8 0), (.int .u8 0), (.int .u8 0), (.int .u8 0), (.int .u8 0), (.int .u8 0), (.int .u8 0), (.int .u8 0), (.int .u8 0), (.int .u8 0), (.int .u8 0), (.int .u8 0), (.int .u8 0), (.int .u8 0), (.int .u8 0), (.int .u8 0), (.int .u8 0), (.int .u8 0), (.int .u8 0), (.int .u8 0), (.int .u8 0), (.int .u8 0), (.int .u8 0), (.int .u8 0), (.int .u8 0), (.int .u8 0), (.int .u8 0), (.int .u8 0), (.int .u8 0), (.int .u8 0), (.int .u8 0), (.int .u8 0), (.int .u8 0), (.int .u8 0), (.int .u8 0), (.int .u8 0), (.int .u8 0), (.int .u8 0), (.int .u8 0), (.int .u8 0), (.int .u8 0), (.int .u8 0)] [(0, 0, 1, (.tmp 17)), (1, 1, 64, (.tmp 20))] ze104 (by kernel_rfl) 104 "disk.go:65" #[eD 0, eD 3]).op),
 .two (op2Box 7 104 (.agg #[(.int .i64 0), (.int .u8 0), (.int .u8 0), (.int .u8 0), (.int .u8 0), (.int .u8 0), (.int .u8 0), (.int .u8 0), (.int .u8 0), (.int .u8 0), (.int .u8 0), (.int .u8 0), (.int .u8 0), (.int .u8 0), (.int .u8 0), (.int .u8 0), (.int .u8 0), (.int .u8 0), (.int .u8 0), (.int .u8 0), (.int .u8 0), (.int .u8 0), (.int .u8 0), (.int .u8 0), (.int .u8 0), (.int .u8 0), (.int .u8 0), (.int .u8 0), (.int .u8 0), (.int .u8 0), (.int .u8 0), (.int .u8 0), (.int .u8 0), (.int .u8 0), (.int .u8 0), (.int .u8 0), (.int .u8 0), (.int .u8 0), (.int .u8 0), (.int .u8 0), (.int .u8 0), (.int .u8 0), (.int .u8 0), (.int .u8 0), (.int .u8 0), (.int .u8 0), (.int .u8 0), (.int .u8 0), (.int .u8 0), (.int .u8 0), (.int .u8 0), (.int .u8 0), (.int .u8 0), (.int .u8 0), (.int .u8 0), (.int .u8 0), (.int .u8 0), (.int .u8 0), (.int .u8 0), (.int .u8 0), (.int .u8 0), (.int .u8 0), (.int .u8 0), (.int .u8 0), (.int .u8 0)]) ze104 (.tmp 21) (by rfl) 65 sz104 (by kernel_rfl) 39 (by rfl) 0 0 "disk.go:65" "disk.go:65" #[] #[eD 5, eD 4, eP 0, eP 1, eP 2, eP 3, eP 4, eP 5])
 ]))
 (.seq (.live [0, 1, 7] (.draw 6 [
 ⟨.p (opMove (some 22) (.tmp 0) 25 "disk.go:66" #[]), none⟩,
 ⟨.p (opMove (some 23) (.tmp 0) 25 "disk.go:66" #[]), none⟩,
 ⟨.p (opNilCheck (some 24) (.tmp 23) 0 "disk.go:66" #[eD 1]), none⟩,
 ⟨.pn (opFieldAddr (some 25) 79 (.tmp 24) 2 2 1 false fl79_2 (by decide) 0 "disk.go:66" #[eD 2]) opFieldAddr_nat, none⟩,
 ⟨.qn (opLoadT (.one .any) (some 26) 77 (.tmp 25) (.slice 104) Try.underlying77 1 sz77 (by kernel_rfl) 77 "disk.go:66" #[eD 3]) opLoadT_nat, none⟩,
 ⟨.qn (opLoadA (some 27) 104 (.tmp 7) d104 ud104 (by kernel_rfl) 65 sz104 104 "disk.go:66" #[]) opLoadA_nat, none⟩,
 ⟨.pn (opBuildSlice1 (some 28) 77 (.tmp 27) 104 65 72 (.agg #[(.int .i64 0), (.int .u8 0), (.int .u8 0), (.int .u8 0), (.int .u8 0), (.int .u8 0), (.int .u8 0), (.int .u8 0), (.int .u8 0), (.int .u8 0), (.int .u8 0), (.int .u8 0), (.int .u8 0), (.int .u8 0), (.int .u8 0), (.int .u8 0), (.int .u8 0), (.int .u8 0), (.int .u8 0), (.int .u8 0), (.int .u8 0), (.int .u8 0), (.int .u8 0), (.int .u8 0), (.int .u8 0), (.int .u8 0), (.int .u8 0), (.int .u8 0), (.int .u8 0), (.int .u8 0), (.int .u8 0), (.int .u8 0), (.int .u8 0), (.int .u8 0), (.int .u8 0), (.int .u8 0), (.int .u8 0), (.int .u8 0), (.int .u8 0), (.int .u8 0), (.int .u8 0), (.int .u8 0), (.int .u8 0), (.int .u8 0), (.int .u8 0), (.int .u8 0), (.int .u8 0), (.int .u8 0), (.int .u8 0), (.int .u8 0), (.int .u8 0), (.int .u8 0), (.int .u8 0), (.int .u8 0), (.int .u8 0), (.int .u8 0), (.int .u8 0), (.int .u8 0), (.int .u8 0), (.int .u8 0), (.int .u8 0), (.int .u8 0), (.int .u8 0), (.int .u8 0), (.int .u8 0)]) el77 (by kernel_rfl) (by decide) 77 "disk.go:66" #[eD 5]) opBuildSlice1_nat, none⟩,
 ⟨.mn (opAppendR (some (.tmp 0)) 1 (some 29) (.tmp 26) (.tmp 28) 77 77 104 65 72 (.agg #[(.int .i64 0), (.int .u8 0), (.int .u8 0), (.int .u8 0), (.int .u8 0), (.int .u8 0), (.int .u8 0), (.int .u8 0), (.int .u8 0), (.int .u8 0), (.int .u8 0), (.int .u8 0), (.int .u8 0), (.int .u8 0), (.int .u8 0), (.int .u8 0), (.int .u8 0), (.int .u8 0), (.int .u8 0), (.int .u8 0), (.int .u8 0), (.int .u8 0), (.int .u8 0), (.int .u8 0), (.int .u8 0), (.int .u8 0), (.int .u8 0), (.int .u8 0), (.int .u8 0), (.int .u8 0), (.int .u8 0), (.int .u8 0), (.int .u8 0), (.int .u8 0), (.int .u8 0), (.int .u8 0), (.int .u8 0), (.int .u8 0), (.int .u8 0), (.int .u8 0), (.int .u8 0), (.int .u8 0), (.int .u8 0), (.int .u8 0), (.int .u8 0), (.int .u8 0), (.int .u8 0), (.int .u8 0), (.int .u8 0), (.int .u8 0), (.int .u8 0), (.int .u8 0), (.int .u8 0), (.int .u8 0), (.int .u8 0), (.int .u8 0), (.int .u8 0), (.int .u8 0), (.int .u8 0), (.int .u8 0), (.int .u8 0), (.int .u8 0), (.int .u8 0), (.int .u8 0), (.int .u8 0)]) el77 (.slice 104) Try.underlying77 rfl 77 "disk.go:66" #[eD 4, eD 6]) opAppendR_nat, none⟩,
 ⟨.p (opNilCheck (some 30) (.tmp 22) 0 "disk.go:66" #[eD 0, eP 0, eP 1, eP 2, eP 3, eP 4, eP 5, eP 6, eP 7]), none⟩,
 ⟨.pn (opFieldAddr (some 31) 79 (.tmp 30) 2 2 1 false fl79_2 (by decide) 0 "disk.go:66" #[eD 8, eP 0, eP 1, eP 2, eP 3, eP 4, eP 5, eP 6, eP 7]) opFieldAddr_nat, none⟩,
 ⟨.m (opStore none 77 (.tmp 31) (.tmp 29) 1 sz77 0 "disk.go:66" #[eD 9, eD 7, eC 7, eP 0, eP 1, eP 2, eP 3, eP 4, eP 5, eP 6, eP 7]), none⟩
 ] mixed (by kernel_rfl)))
 (.seq (.live [] (.draw 7 [
 ⟨.p (opMove (some 32) (.tmp 0) 25 "disk.go:67" #[]), none⟩,
 ⟨.p (opNilCheck (some 33) (.tmp 32) 0 "disk.go:67" #[eD 0]), none⟩,
 ⟨.pn (opFieldAddr (some 34) 79 (.tmp 33) 1 1 1 false fl79_1 (by decide) 0 "disk.go:67" #[eD 1]) opFieldAddr_nat, none⟩,
 ⟨.qn (opLoadT (.one .any) (some 35) 76 (.tmp 34) (.map 3 85) Try.underlying76 1 sz76 (by kernel_rfl) 76 "disk.go:67" #[eD 2]) opLoadT_nat, none⟩,
 ⟨.p (opMove (some 36) (.tmp 1) 3 "disk.go:67" #[]), none⟩,
 ⟨.pn (opFieldAddr (some 37) 104 (.tmp 7) 1 1 64 true fl104_1 (by decide) 0 "disk.go:67" #[]) opFieldAddr_nat, none⟩,
 ⟨.qn (opLoadA (some 38) 85 (.tmp 37) (.array 64 5) Try.underlying85 (by kernel_rfl) 64 sz85 85 "disk.go:67" #[eD 5]) opLoadA_nat, none⟩,
 ⟨.mn (opMapUpdate (.int .i64) none 76 (.tmp 35) (.tmp 36) (.tmp 38) 3 85 (.int .i64) Try.underlying76 Try.underlying3 (by decide) 0 "disk.go:67" #[eD 3, eD 4, eD 6, eP 0, eP 1, eP 2, eP 3, eP 4, eP 5, eP 6]) opMapUpdate_nat, none⟩
 ] mixed (by kernel_rfl)))
 (.seq (.live [6] (.region 8 [
 ⟨(opAssign (some 6) (.const (Value.int IntKind.i64 0)) 26 "disk.go:68" #[]).op, none⟩
 ] (by kernel_rfl)))
 (.live [6] .ret)))))))
noncomputable def f56 : Fun Try.prog where
 id := 56
 fn := Try.f56
 hf := Try.func56
 hname := by kernel_rfl
 body := f56_b
 hbody := by kernel_rfl
 res := [rTmp 6]
 hres := by kernel_rfl
 n := 39
 hn := by kernel_rfl
noncomputable def f65_b : Sim Try.prog :=
 (.seq (.live [0, 1] (.region 0 [
 ⟨(opAssign (some 4) (.const (Value.slice none 0 0)) 33 "disk.go:46" #[]).op, none⟩,
 ⟨(opAssign (some 5) (.const (Value.int IntKind.i64 0)) 26 "disk.go:46" #[eC 0]).op, none⟩
 ] (by kernel_rfl)))
 (.seq (.seq (.live [0, 1, 11] (.region 1 [
 ⟨(opMove (some 8) (.tmp 0) 25 "disk.go:47" #[]).op, none⟩,
 ⟨(opMove (some 9) (.tmp 1) 3 "disk.go:47" #[]).op, none⟩,
 ⟨opCall (f73.orc 0) (some 10) [(.tmp 8), (.tmp 9)] #[25, 3] 4 "disk.go:47" #[eD 0, eD 1], none⟩,
 ⟨(opNot (some 11) 4 (.tmp 10) 4 "disk.go:47" #[eD 2]).op, none⟩
 ] (by kernel_rfl)))
 (.cond (.tmp 11)
 (.seq (.live [4, 5] (.region 2 [
 ⟨(opAssign (some 4) (.const (Value.slice none 0 0)) 33 "disk.go:48" #[]).op, none⟩,
 ⟨(opAssign (some 5) (.const (Value.int IntKind.i64 40)) 26 "disk.go:48" #[eC 0, eP 0]).op, none⟩
 ] (by kernel_rfl)))
 (.live [4, 5] .ret))
 .skip))
 (.seq (.live [0, 1, 6, 7] (.region 3 [
 ⟨(opMove (some 13) (.tmp 0) 25 "disk.go:50" #[]).op, none⟩,
 ⟨(opNilCheck (some 14) (.tmp 13) 0 "disk.go:50" #[eD 0]).op, none⟩,
 ⟨(opFieldAddr (some 15) 79 (.tmp 14) 1 1 1 false fl79_1 (by decide) 0 "disk.go:50" #[eD 1]).op, none⟩,
 ⟨(opLoadT (.one .any) (some 16) 76 (.tmp 15) (.map 3 85) Try.underlying76 1 sz76 (by kernel_rfl) 76 "disk.go:50" #[eD 2]).op, none⟩,
 ⟨(opMove (some 17) (.tmp 1) 3 "disk.go:50" #[]).op, none⟩,
 ⟨(opLookup (.int .i64) (.agg 64) (some 18) 76 (.tmp 16) (.tmp 17) true 3 85 (.int .i64) Try.underlying76 Try.underlying3 (by decide) (.agg #[(.int .u8 0), (.int .u8 0), (.int .u8 0), (.int .u8 0), (.int .u8 0), (.int .u8 0), (.int .u8 0), (.int .u8 0), (.int .u8 0), (.int .u8 0), (.int .u8 0), (.int .u8 0), (.int .u8 0), (.int .u8 0), (.int .u8 0), (.int .u8 0), (.int .u8 0), (.int .u8 0), (.int .u8 0), (.int .u8 0), (.int .u8 0), (.int .u8 0), (.int .u8 0), (.int .u8 0), (.int .u8 0), (.int .u8 0), (.int .u8 0), (.int .u8 0), (.int .u8 0), (.int .u8 0), (.int .u8 0), (.int .u8 0), (.int .u8 0), (.int .u8 0), (.int .u8 0), (.int .u8 0), (.int .u8 0), (.int .u8 0), (.int .u8 0), (.int .u8 0), (.int .u8 0), (.int .u8 0), (.int .u8 0), (.int .u8 0), (.int .u8 0), (.int .u8 0), (.int .u8 0), (.int .u8 0), (.int .u8 0), (.int .u8 0), (.int .u8 0), (.int .u8 0), (.int .u8 0), (.int .u8 0), (.int .u8 0), (.int .u8 0), (.int .u8 0), (.int .u8 0), (.int .u8 0), (.int .u8 0), (.int .u8 0), (.int .u8 0), (.int .u8 0), (.int .u8 0)]) ze85 116 "disk.go:50" #[eD 3, eD 4]).op, none⟩,
 ⟨(opMove (some 12) (.tmp 18) 116 "disk.go:50" #[eD 5]).op, none⟩,
 ⟨(opExtract (some 19) (.tmp 12) 0 85 "disk.go:50" #[eD 6]).op, none⟩,
 ⟨(opExtract (some 20) (.tmp 12) 1 4 "disk.go:50" #[eD 6, eX 10]).op, none⟩,
 ⟨(opAllocZ 64 (AV.int .u8 0) (some 6) 85 (.agg #[(.int .u8 0), (.int .u8 0), (.int .u8 0), (.int .u8 0), (.int .u8 0), (.int .u8 0), (.int .u8 0), (.int .u8 0), (.int .u8 0), (.int .u8 0), (.int .u8 0), (.int .u8 0), (.int .u8 0), (.int .u8 0), (.int .u8 0), (.int .u8 0), (.int .u8 0), (.int .u8 0), (.int .u8 0), (.int .u8 0), (.int .u8 0), (.int .u8 0), (.int .u8 0), (.int .u8 0), (.int .u8 0), (.int .u8 0), (.int .u8 0), (.int .u8 0), (.int .u8 0), (.int .u8 0), (.int .u8 0), (.int .u8 0), (.int .u8 0), (.int .u8 0), (.int .u8 0), (.int .u8 0), (.int .u8 0), (.int .u8 0), (.int .u8 0), (.int .u8 0), (.int .u8 0), (.int .u8 0), (.int .u8 0), (.int .u8 0), (.int .u8 0), (.int .u8 0), (.int .u8 0), (.int .u8 0), (.int .u8 0), (.int .u8 0), (.int .u8 0), (.int .u8 0), (.int .u8 0), (.int .u8 0), (.int .u8 0), (.int .u8 0), (.int .u8 0), (.int .u8 0), (.int .u8 0), (.int .u8 0), (.int .u8 0), (.int .u8 0), (.int .u8 0), (.int .u8 0)]) ze85 (by kernel_rfl) 0 "disk.go:50" #[]).op, none⟩,
 ⟨(opStoreC none 85 (.tmp 6) (.tmp 19) 64 sz85 0 "disk.go:50" #[eD 9, eD 7, eP 0, eP 1, eP 2, eP 3, eP 4, eP 5, eP 6, eP 7, eT 8, eP 9]).op, none⟩,
 ⟨(opAssign (some 7) (.tmp 20) 4 "disk.go:50" #[eD 8, eC 10, eP 0, eP 1, eP 2, eP 3, eP 4, eP 5, eP 6, eP 7, eP 8, eP 9, eP 10]).op, none⟩
 ] (by kernel_rfl)))
 (.seq (.seq (.live [0, 1, 6, 22] (.region 4 [
 ⟨(opMove (some 21) (.tmp 7) 4 "disk.go:51" #[]).op, none⟩,
 ⟨(opNot (some 22) 4 (.tmp 21) 4 "disk.go:51" #[eD 0]).op, none⟩
 ] (by kernel_rfl)))
 (.cond (.tmp 22)
 (.live [6] (.region 5 [
 ⟨(opMove (some 23) (.tmp 0) 25 "disk.go:52" #[]).op, none⟩,
 ⟨(opNilCheck (some 24) (.tmp 23) 0 "disk.go:52" #[eD 0]).op, none⟩,
 ⟨(opFieldAddr (some 25) 79 (.tmp 24) 0 0 1 false fl79_0 (by decide) 0 "disk.go:52" #[eD 1]).op, none⟩,
 ⟨(opLoadT (.one .any) (some 26) 75 (.tmp 25) (.slice 85) Try.underlying75 1 sz75 (by kernel_rfl) 75 "disk.go:52" #[eD 2]).op, none⟩,
 ⟨(opMove (some 27) (.tmp 1) 3 "disk.go:52" #[]).op, none⟩,
 ⟨(opIndexAddrT (some 28) 75 (.tmp 26) (.tmp 27) 85 64 Try.underlying75 sz85 0 "disk.go:52" #[eD 3, eD 4]).op, none⟩,
 ⟨(opLoadA (some 29) 85 (.tmp 28) (.array 64 5) Try.underlying85 (by kernel_rfl) 64 sz85 85 "disk.go:52" #[eD 5]).op, none⟩,
 ⟨(opStoreC none 85 (.tmp 6) (.tmp 29) 64 sz85 0 "disk.go:52" #[eD 6, eP 0, eP 1, eP 2, eP 3, eP 4, eP 5, eP 6]).op, none⟩
 ] (by kernel_rfl)))
 .skip))
 (.seq (.live [4, 5] (.region 6 [
 ⟨(opSliceB (some 30) 85 (.tmp 6) none none none 64 5 1 Try.underlying85 (by decide) sz5 33 "disk.go:54" #[]).op, none⟩,
 ⟨opCall (f66.orc 0) (some 31) [(.tmp 30)] #[33] 33 "disk.go:54" #[eD 0], none⟩,
 ⟨(opAssign (some 4) (.tmp 31) 33 "disk.go:54" #[eD 1, eC 1, eP 0, eP 1]).op, none⟩,
 ⟨(opAssign (some 5) (.const (Value.int IntKind.i64 0)) 26 "disk.go:54" #[eC 2, eP 0, eP 1, eP 2]).op, none⟩
 ] (by kernel_rfl)))
 (.live [4, 5] .ret))))))
noncomputable def f65 : Fun Try.prog where
 id := 65
 fn := Try.f65
 hf := Try.func65
 hname := by kernel_rfl
 body := f65_b
 hbody := by kernel_rfl
 res := [rTmp 4, rTmp 5]
 hres := by kernel_rfl
 n := 32
 hn := by kernel_rfl
noncomputable def f42_l0 : Sim Try.prog :=
 (.seq (.live [0, 1, 2, 14, 15, 16, 17] (.region 1 [
 ⟨(opBin (some 17) .lss 3 (.tmp 16) (.tmp 15) 3 0 "disk.go:73" #[]).op, none⟩
 ] (by kernel_rfl)))
 (.seq (.cond (.tmp 17)
 .skip
 (.live [0, 1, 2] (.exit 0)))
 (.seq (.block 1 (.seq (.live [0, 1, 2, 7, 14, 15, 16] (.items 2 [
 .one ((opIndexAddrT (some 18) 77 (.tmp 14) (.tmp 16) 104 65 Try.underlying77 sz104 0 "disk.go:73" #[]).op),
 .one ((opLoadA (some 19) 104 (.tmp 18) d104 ud104 (by kernel_rfl) 65 sz104 104 "disk.go:73" #[eD 0]).op),
 .two (op2Box 7 104 (.agg #[(.int .i64 0), (.int .u8 0), (.int .u8 0), (.int .u8 0), (.int .u8 0), (.int .u8 0), (.int .u8 0), (.int .u8 0), (.int .u8 0), (.int .u8 0), (.int .u8 0), (.int .u8 0), (.int .u8 0), (.int .u8 0), (.int .u8 0), (.int .u8 0), (.int .u8 0), (.int .u8 0), (.int .u8 0), (.int .u8 0), (.int .u8 0), (.int .u8 0), (.int .u8 0), (.int .u8 0), (.int .u8 0), (.int .u8 0), (.int .u8 0), (.int .u8 0), (.int .u8 0), (.int .u8 0), (.int .u8 0), (.int .u8 0), (.int .u8 0), (.int .u8 0), (.int .u8 0), (.int .u8 0), (.int .u8 0), (.int .u8 0), (.int .u8 0), (.int .u8 0), (.int .u8 0), (.int .u8 0), (.int .u8 0), (.int .u8 0), (.int .u8 0), (.int .u8 0), (.int .u8 0), (.int .u8 0), (.int .u8 0), (.int .u8 0), (.int .u8 0), (.int .u8 0), (.int .u8 0), (.int .u8 0), (.int .u8 0), (.int .u8 0), (.int .u8 0), (.int .u8 0), (.int .u8 0), (.int .u8 0), (.int .u8 0), (.int .u8 0), (.int .u8 0), (.int .u8 0), (.int .u8 0)]) ze104 (.tmp 19) (by rfl) 65 sz104 (by kernel_rfl) 63 (by rfl) 0 0 "disk.go:73" "disk.go:73" #[] #[eD 2, eD 1, eP 0, eP 1, eP 2])
 ]))
 (.live [0, 1, 2, 14, 15, 16] (.draw 3 [
 ⟨.p (opMove (some 20) (.tmp 0) 25 "disk.go:74" #[]), none⟩,
 ⟨.p (opNilCheck (some 21) (.tmp 20) 0 "disk.go:74" #[eD 0]), none⟩,
 ⟨.pn (opFieldAddr (some 22) 79 (.tmp 21) 0 0 1 false fl79_0 (by decide) 0 "disk.go:74" #[eD 1]) opFieldAddr_nat, none⟩,
 ⟨.qn (opLoadT (.one .any) (some 23) 75 (.tmp 22) (.slice 85) Try.underlying75 1 sz75 (by kernel_rfl) 75 "disk.go:74" #[eD 2]) opLoadT_nat, none⟩,
 ⟨.pn (opFieldAddr (some 24) 104 (.tmp 7) 0 0 1 false fl104_0 (by decide) 0 "disk.go:74" #[]) opFieldAddr_nat, none⟩,
 ⟨.qn (opLoadT (.one (.int .i64)) (some 25) 3 (.tmp 24) (.int .i64) Try.underlying3 1 sz3 (by kernel_rfl) 3 "disk.go:74" #[eD 4]) opLoadT_nat, none⟩,
 ⟨.pn (opFieldAddr (some 26) 104 (.tmp 7) 1 1 64 true fl104_1 (by decide) 0 "disk.go:74" #[]) opFieldAddr_nat, none⟩,
 ⟨.qn (opLoadA (some 27) 85 (.tmp 26) (.array 64 5) Try.underlying85 (by kernel_rfl) 64 sz85 85 "disk.go:74" #[eD 6]) opLoadA_nat, none⟩,
 ⟨.pn (opIndexAddrT (some 28) 75 (.tmp 23) (.tmp 25) 85 64 Try.underlying75 sz85 0 "disk.go:74" #[eD 3, eD 5, eP 0, eP 1, eP 2, eP 3, eP 4, eP 5, eP 6, eP 7]) opIndexAddrT_nat, none⟩,
 ⟨.mn (opStoreC none 85 (.tmp 28) (.tmp 27) 64 sz85 0 "disk.go:74" #[eD 8, eD 7, eP 0, eP 1, eP 2, eP 3, eP 4, eP 5, eP 6, eP 7]) opStoreC_nat, none⟩
 ] mixed (by kernel_rfl)))))
 (.live [0, 1, 2, 14, 15, 16] (.region 4 [
 ⟨(opBin (some 29) .add 3 (.tmp 16) (.const (Value.int IntKind.i64 1)) 3 3 "disk.go:73" #[]).op, none⟩,
 ⟨(opMove (some 16) (.tmp 29) 3 "disk.go:73" #[eD 0]).op, none⟩
 ] (by kernel_rfl))))))
noncomputable def f42_r0 : Sim Try.prog :=
 (.seq (.seq (.live [0, 1, 2, 36] (.region 5 [
 ⟨(opMove (some 30) (.tmp 1) 3 "disk.go:76" #[]).op, none⟩,
 ⟨(opMove (some 31) (.tmp 0) 25 "disk.go:76" #[]).op, none⟩,
 ⟨(opNilCheck (some 32) (.tmp 31) 0 "disk.go:76" #[eD 1]).op, none⟩,
 ⟨(opFieldAddr (some 33) 79 (.tmp 32) 2 2 1 false fl79_2 (by decide) 0 "disk.go:76" #[eD 2]).op, none⟩,
 ⟨(opLoadT (.one .any) (some 34) 77 (.tmp 33) (.slice 104) Try.underlying77 1 sz77 (by kernel_rfl) 77 "disk.go:76" #[eD 3]).op, none⟩,
 ⟨(opLen (some 35) (.tmp 34) 77 (.slice 104) Try.underlying77 3 "disk.go:76" #[eD 4]).op, none⟩,
 ⟨(opBin (some 36) .lss 3 (.tmp 30) (.tmp 35) 3 4 "disk.go:76" #[eD 0, eD 5]).op, none⟩
 ] (by kernel_rfl)))
 (.cond (.tmp 36)
 (.seq (.live [0, 2, 8] (.items 6 [
 .one ((opMove (some 37) (.tmp 0) 25 "disk.go:77" #[]).op),
 .one ((opNilCheck (some 38) (.tmp 37) 0 "disk.go:77" #[eD 0]).op),
 .one ((opFieldAddr (some 39) 79 (.tmp 38) 2 2 1 false fl79_2 (by decide) 0 "disk.go:77" #[eD 1]).op),
 .one ((opLoadT (.one .any) (some 40) 77 (.tmp 39) (.slice 104) Try.underlying77 1 sz77 (by kernel_rfl) 77 "disk.go:77" #[eD 2]).op),
 .one ((opMove (some 41) (.tmp 1) 3 "disk.go:77" #[]).op),
 .one ((opIndexAddrT (some 42) 77 (.tmp 40) (.tmp 41) 104 65 Try.underlying77 sz104 0 "disk.go:77" #[eD 3, eD 4]).op),
 .one ((opLoadA (some 43) 104 (.tmp 42) d104 ud104 (by kernel_rfl) 65 sz104 104 "disk.go:77" #[eD 5]).op),
 .two (op2Box 8 104 (.agg #[(.int .i64 0), (.int .u8 0), (.int .u8 0), (.int .u8 0), (.int .u8 0), (.int .u8 0), (.int .u8 0), (.int .u8 0), (.int .u8 0), (.int .u8 0), (.int .u8 0), (.int .u8 0), (.int .u8 0), (.int .u8 0), (.int .u8 0), (.int .u8 0), (.int .u8 0), (.int .u8 0), (.int .u8 0), (.int .u8 0), (.int .u8 0), (.int .u8 0), (.int .u8 0), (.int .u8 0), (.int .u8 0), (.int .u8 0), (.int .u8 0), (.int .u8 0), (.int .u8 0), (.int .u8 0), (.int .u8 0), (.int .u8 0), (.int .u8 0), (.int .u8 0), (.int .u8 0), (.int .u8 0), (.int .u8 0), (.int .u8 0), (.int .u8 0), (.int .u8 0), (.int .u8 0), (.int .u8 0), (.int .u8 0), (.int .u8 0), (.int .u8 0), (.int .u8 0), (.int .u8 0), (.int .u8 0), (.int .u8 0), (.int .u8 0), (.int .u8 0), (.int .u8 0), (.int .u8 0), (.int .u8 0), (.int .u8 0), (.int .u8 0), (.int .u8 0), (.int .u8 0), (.int .u8 0), (.int .u8 0), (.int .u8 0), (.int .u8 0), (.int .u8 0), (.int .u8 0), (.int .u8 0)]) ze104 (.tmp 43) (by rfl) 65 sz104 (by kernel_rfl) 63 (by rfl) 0 0 "disk.go:77" "disk.go:77" #[] #[eD 7, eD 6, eP 0, eP 1, eP 2, eP 3, eP 4, eP 5, eP 6, eP 7])
 ]))
 (.live [0] (.draw 7 [
 ⟨.p (opMove (some 44) (.tmp 0) 25 "disk.go:78" #[]), none⟩,
 ⟨.p (opNilCheck (some 45) (.tmp 44) 0 "disk.go:78" #[eD 0]), none⟩,
 ⟨.pn (opFieldAddr (some 46) 79 (.tmp 45) 0 0 1 false fl79_0 (by decide) 0 "disk.go:78" #[eD 1]) opFieldAddr_nat, none⟩,
 ⟨.qn (opLoadT (.one .any) (some 47) 75 (.tmp 46) (.slice 85) Try.underlying75 1 sz75 (by kernel_rfl) 75 "disk.go:78" #[eD 2]) opLoadT_nat, none⟩,
 ⟨.pn (opFieldAddr (some 48) 104 (.tmp 8) 0 0 1 false fl104_0 (by decide) 0 "disk.go:78" #[]) opFieldAddr_nat, none⟩,
 ⟨.qn (opLoadT (.one (.int .i64)) (some 49) 3 (.tmp 48) (.int .i64) Try.underlying3 1 sz3 (by kernel_rfl) 3 "disk.go:78" #[eD 4]) opLoadT_nat, none⟩,
 ⟨.pn (opIndexAddrT (some 50) 75 (.tmp 47) (.tmp 49) 85 64 Try.underlying75 sz85 0 "disk.go:78" #[eD 3, eD 5]) opIndexAddrT_nat, none⟩,
 ⟨.qn (opSliceB (some 51) 85 (.tmp 50) none none none 64 5 1 Try.underlying85 (by decide) sz5 33 "disk.go:78" #[eD 6]) opSliceB_nat, none⟩,
 ⟨.pn (opFieldAddr (some 52) 104 (.tmp 8) 1 1 64 true fl104_1 (by decide) 0 "disk.go:78" #[]) opFieldAddr_nat, none⟩,
 ⟨.p (opMove (some 53) (.tmp 2) 3 "disk.go:78" #[]), none⟩,
 ⟨.qn (opSliceB (some 54) 85 (.tmp 52) none (some (.tmp 53)) none 64 5 1 Try.underlying85 (by decide) sz5 33 "disk.go:78" #[eD 8, eD 9]) opSliceB_nat, none⟩,
 ⟨.mn (opCopyV (some 55) (.tmp 51) (.tmp 54) 33 33 5 1 Try.underlying33 sz5 3 "disk.go:78" #[eD 7, eD 10]) opCopyV_nat, none⟩
 ] mixed (by kernel_rfl))))
 .skip))
 (.seq (.live [0] (.region 8 [
 ⟨(opMove (some 56) (.tmp 0) 25 "disk.go:80" #[]).op, none⟩,
 ⟨(opNilCheck (some 57) (.tmp 56) 0 "disk.go:80" #[eD 0, eP 0]).op, none⟩,
 ⟨(opFieldAddr (some 58) 79 (.tmp 57) 2 2 1 false fl79_2 (by decide) 0 "disk.go:80" #[eD 1, eP 0]).op, none⟩,
 ⟨(opStore none 77 (.tmp 58) (.const (Value.slice none 0 0)) 1 sz77 0 "disk.go:80" #[eD 2, eP 0]).op, none⟩
 ] (by kernel_rfl)))
 (.live [] (.region 9 [
 ⟨(opMove (some 59) (.tmp 0) 25 "disk.go:81" #[]).op, none⟩,
 ⟨(opNilCheck (some 60) (.tmp 59) 0 "disk.go:81" #[eD 0]).op, none⟩,
 ⟨(opFieldAddr (some 61) 79 (.tmp 60) 1 1 1 false fl79_1 (by decide) 0 "disk.go:81" #[eD 1]).op, none⟩,
 ⟨(opLoadT (.one .any) (some 62) 76 (.tmp 61) (.map 3 85) Try.underlying76 1 sz76 (by kernel_rfl) 76 "disk.go:81" #[eD 2]).op, none⟩,
 ⟨(opClearMap none (.tmp 62) 76 3 85 Try.underlying76 0 "disk.go:81" #[eD 3]).op, none⟩
 ] (by kernel_rfl)))))
noncomputable def f42_b : Sim Try.prog :=
 (.seq (.seq (.live [0, 1, 2, 14, 15, 16] (.region 0 [
 ⟨(opMove (some 9) (.tmp 0) 25 "disk.go:73" #[]).op, none⟩,
 ⟨(opNilCheck (some 10) (.tmp 9) 0 "disk.go:73" #[eD 0]).op, none⟩,
 ⟨(opFieldAddr (some 11) 79 (.tmp 10) 2 2 1 false fl79_2 (by decide) 0 "disk.go:73" #[eD 1]).op, none⟩,
 ⟨(opLoadT (.one .any) (some 12) 77 (.tmp 11) (.slice 104) Try.underlying77 1 sz77 (by kernel_rfl) 77 "disk.go:73" #[eD 2]).op, none⟩,
 ⟨(opMove (some 13) (.tmp 1) 3 "disk.go:73" #[]).op, none⟩,
 ⟨(opSlice (some 14) 77 (.tmp 12) none (some (.tmp 13)) none 104 65 Try.underlying77 sz104 77 "disk.go:73" #[eD 3, eD 4]).op, none⟩,
 ⟨(opLen (some 15) (.tmp 14) 77 (.slice 104) Try.underlying77 3 "disk.go:73" #[eD 5]).op, none⟩,
 ⟨(opMove (some 16) (.const (Value.int IntKind.i64 0)) 3 "disk.go:73" #[]).op, none⟩
 ] (by kernel_rfl)))
 (.block 0 (.loop [0, 1, 2, 14, 15, 16] f42_l0)))
 f42_r0)
noncomputable def f42 : Fun Try.prog where
 id := 42
 fn := Try.f42
 hf := Try.func42
 hname := by kernel_rfl
 body := f42_b
 hbody := by kernel_rfl
 res := []
 hres := by kernel_rfl
 n := 63
 hn := by kernel_rfl
noncomputable def f19_l0 : Sim Try.prog :=
 (.seq (.live [3, 16, 17, 18, 19] (.region 3 [
 ⟨(opBin (some 19) .lss 3 (.tmp 18) (.tmp 17) 3 0 "disk.go:101" #[]).op, none⟩
 ] (by kernel_rfl)))
 (.seq (.cond (.tmp 19)
 .skip
 (.live [3] (.exit 0)))
 (.seq (.block 1 (.seq (.live [3, 5, 16, 17, 18] (.items 4 [
 .one ((opIndexAddrT (some 20) 75 (.tmp 16) (.tmp 18) 85 64 Try.underlying75 sz85 0 "disk.go:101" #[]).op),
 .one ((opLoadA (some 21) 85 (.tmp 20) (.array 64 5) Try.underlying85 (by kernel_rfl) 64 sz85 85 "disk.go:101" #[eD 0]).op),
 .two (op2Box 5 85 (.agg #[(.int .u8 0), (.int .u8 0), (.int .u8 0), (.int .u8 0), (.int .u8 0), (.int .u8 0), (.int .u8 0), (.int .u8 0), (.int .u8 0), (.int .u8 0), (.int .u8 0), (.int .u8 0), (.int .u8 0), (.int .u8 0), (.int .u8 0), (.int .u8 0), (.int .u8 0), (.int .u8 0), (.int .u8 0), (.int .u8 0), (.int .u8 0), (.int .u8 0), (.int .u8 0), (.int .u8 0), (.int .u8 0), (.int .u8 0), (.int .u8 0), (.int .u8 0), (.int .u8 0), (.int .u8 0), (.int .u8 0), (.int .u8 0), (.int .u8 0), (.int .u8 0), (.int .u8 0), (.int .u8 0), (.int .u8 0), (.int .u8 0), (.int .u8 0), (.int .u8 0), (.int .u8 0), (.int .u8 0), (.int .u8 0), (.int .u8 0), (.int .u8 0), (.int .u8 0), (.int .u8 0), (.int .u8 0), (.int .u8 0), (.int .u8 0), (.int .u8 0), (.int .u8 0), (.int .u8 0), (.int .u8 0), (.int .u8 0), (.int .u8 0), (.int .u8 0), (.int .u8 0), (.int .u8 0), (.int .u8 0), (.int .u8 0), (.int .u8 0), (.int .u8 0), (.int .u8 0)]) ze85 (.tmp 21) (by rfl) 64 sz85 (by kernel_rfl) 27 (by rfl) 0 0 "disk.go:101" "disk.go:101" #[] #[eD 2, eD 1, eP 0, eP 1, eP 2])
 ]))
 (.live [3, 16, 17, 18] (.region 5 [
 ⟨(opMove (some 22) (.tmp 3) 33 "disk.go:102" #[]).op, none⟩,
 ⟨(opSliceB (some 23) 85 (.tmp 5) none none none 64 5 1 Try.underlying85 (by decide) sz5 33 "disk.go:102" #[]).op, none⟩,
 ⟨(opAppendV (some 24) (.tmp 22) (.tmp 23) 33 33 5 1 1 (.int .u8 0) el33 (.slice 5) Try.underlying33 rfl 33 "disk.go:102" #[eD 0, eD 1]).op, none⟩,
 ⟨(opAssign (some 3) (.tmp 24) 33 "disk.go:102" #[eD 2, eC 2, eP 0, eP 1, eP 2]).op, none⟩
 ] (by kernel_rfl)))))
 (.live [3, 16, 17, 18] (.region 6 [
 ⟨(opBin (some 25) .add 3 (.tmp 18) (.const (Value.int IntKind.i64 1)) 3 3 "disk.go:101" #[]).op, none⟩,
 ⟨(opMove (some 18) (.tmp 25) 3 "disk.go:101" #[eD 0]).op, none⟩
 ] (by kernel_rfl))))))
noncomputable def f19_r0 : Sim Try.prog :=
 (.seq (.live [2] (.region 7 [
 ⟨(opMoveZ (some 26) (.tmp 3) 33 "disk.go:104" #[]).op, none⟩,
 ⟨(opAssign (some 2) (.tmp 26) 33 "disk.go:104" #[eD 0, eP 0]).op, none⟩
 ] (by kernel_rfl)))
 (.live [2] .ret))
noncomputable def f19_b : Sim Try.prog :=
 (.seq (.live [0] (.region 0 [
 ⟨(opAssign (some 2) (.const (Value.slice none 0 0)) 33 "disk.go:99" #[]).op, none⟩
 ] (by kernel_rfl)))
 (.seq (.live [0, 3] (.region 1 [
 ⟨(opMove (some 6) (.tmp 0) 25 "disk.go:100" #[]).op, none⟩,
 ⟨(opNilCheck (some 7) (.tmp 6) 0 "disk.go:100" #[eD 0]).op, none⟩,
 ⟨(opFieldAddr (some 8) 79 (.tmp 7) 0 0 1 false fl79_0 (by decide) 0 "disk.go:100" #[eD 1]).op, none⟩,
 ⟨(opLoadT (.one .any) (some 9) 75 (.tmp 8) (.slice 85) Try.underlying75 1 sz75 (by kernel_rfl) 75 "disk.go:100" #[eD 2]).op, none⟩,
 ⟨(opLen (some 10) (.tmp 9) 75 (.slice 85) Try.underlying75 3 "disk.go:100" #[eD 3]).op, none⟩,
 ⟨(opBin (some 11) .mul 3 (.tmp 10) (.const (Value.int IntKind.i64 64)) 3 3 "disk.go:100" #[eD 4]).op, none⟩,
 ⟨(opMakeG true none 0 (some 12) 33 (.const (Value.int IntKind.i64 0)) (.tmp 11) 5 1 1 (.int .u8 0) el33 33 "disk.go:100" #[eD 5]).op, none⟩,
 ⟨(opAssign (some 3) (.tmp 12) 33 "disk.go:100" #[eD 6, eP 0, eP 1, eP 2, eP 3, eP 4, eP 5, eP 6]).op, none⟩
 ] (by kernel_rfl)))
 (.seq (.seq (.live [3, 16, 17, 18] (.region 2 [
 ⟨(opMove (some 13) (.tmp 0) 25 "disk.go:101" #[]).op, none⟩,
 ⟨(opNilCheck (some 14) (.tmp 13) 0 "disk.go:101" #[eD 0]).op, none⟩,
 ⟨(opFieldAddr (some 15) 79 (.tmp 14) 0 0 1 false fl79_0 (by decide) 0 "disk.go:101" #[eD 1]).op, none⟩,
 ⟨(opLoadT (.one .any) (some 16) 75 (.tmp 15) (.slice 85) Try.underlying75 1 sz75 (by kernel_rfl) 75 "disk.go:101" #[eD 2]).op, none⟩,
 ⟨(opLen (some 17) (.tmp 16) 75 (.slice 85) Try.underlying75 3 "disk.go:101" #[eD 3]).op, none⟩,
 ⟨(opMove (some 18) (.const (Value.int IntKind.i64 0)) 3 "disk.go:101" #[]).op, none⟩
 ] (by kernel_rfl)))
 (.block 0 (.loop [3, 16, 17, 18] f19_l0)))
 f19_r0)))
noncomputable def f19 : Fun Try.prog where
 id := 19
 fn := Try.f19
 hf := Try.func19
 hname := by kernel_rfl
 body := f19_b
 hbody := by kernel_rfl
 res := [rTmp 2]
 hres := by kernel_rfl
 n := 27
 hn := by kernel_rfl
theorem write0_run (F N : Nat) (k : Int) (z : Bool) (l : List (List AV)) (ls : List AV) (es : List (AV × AV)) (v : Nat) :
 (f56.run F [.ptr 2 0, .int .i64 k, .ns z 1 l] ⟨[.cells ls, .map es, .cells [.ms 0 64 0 N N, .mp 1, .nilsl], .nov v], []⟩ : Ans) =
 branch (.bool (decide (k ≥ 0)))
 (branch (.bool !decide (k < (↑N : Int)))
 (some
 (Fin.ret (.int .i64 40),
 St.mk
 [Ob.cells ls, Ob.map es, Ob.cells [AV.ms 0 64 0 N N, AV.mp 1, AV.nilsl],
 Ob.nov v]
 []))
 (branch (.bool ((↑l.length : Int) != 64))
 (some
 (Fin.ret (.int .i64 41),
 St.mk
 [Ob.cells ls, Ob.map es, Ob.cells [AV.ms 0 64 0 N N, AV.mp 1, AV.nilsl],
 Ob.nov v]
 []))
 (branch (.bool (true && Nat.ble 64 l.length))
 (branch (.bool (inC (flC l 64) 0 64))
 (branch (.bool ((subC (flC l 64) 0 64).length.beq 64 && true))
 (branch
 (.bool ((.int .i64 k :: subC (flC l 64) 0 64).length.beq 65))
 (branch
 (AV.bool
 (inC (.int .i64 k :: subC (flC l 64) 0 64) 0 65))
 (branch
 (AV.bool
 ((List.map frz.frz1
 (subC (.int .i64 k :: subC (flC l 64) 0 64) 0
 65)).length.beq
 65))
 (branch (.bool (apOk 1 72))
 (branch
 (AV.bool
 (inC
 (List.drop 1 (.int .i64 k :: subC (flC l 64) 0 64))
 0 64))
 (branch (.bool (true && keysOk (LT.int IntKind.i64) es))
 (some
 (Fin.ret (.int .i64 0),
 St.mk
 [Ob.cells ls,
 Ob.map
 (putK es (.int .i64 k)
 (AV.agg
 (subC
 (List.drop 1
 (.int .i64 k :: subC (flC l 64) 0 64))
 0 64))),
 Ob.cells
 [AV.ms 0 64 0 N N, AV.mp 1,
 AV.vs 3 (v + 1) 65 1],
 Ob.vec (v + 1)
 (catC [] 0
 [List.map frz.frz1
 (subC (.int .i64 k :: subC (flC l 64) 0 64)
 0 65)])]
 []))
 none)
 none)
 none)
 none)
 none)
 none)
 none)
 none)
 none)))
 (some
 (Fin.ret (.int .i64 40),
 St.mk
 [Ob.cells ls, Ob.map es, Ob.cells [AV.ms 0 64 0 N N, AV.mp 1, AV.nilsl],
 Ob.nov v]
 [])) := by kernel_rfl
theorem write1_run (F N : Nat) (k : Int) (z : Bool) (l : List (List AV)) (ls : List AV) (es : List (AV × AV)) (v : Nat) (cs : List AV) :
 (f56.run F [.ptr 2 0, .int .i64 k, .ns z 1 l] ⟨[.cells ls, .map es, .cells [.ms 0 64 0 N N, .mp 1, .nilsl], .vec v cs], []⟩ : Ans) =
 branch (.bool (decide (k ≥ 0)))
 (branch (.bool !decide (k < (↑N : Int)))
 (some
 (Fin.ret (.int .i64 40),
 St.mk
 [Ob.cells ls, Ob.map es, Ob.cells [AV.ms 0 64 0 N N, AV.mp 1, AV.nilsl],
 Ob.vec v cs]
 []))
 (branch (.bool ((↑l.length : Int) != 64))
 (some
 (Fin.ret (.int .i64 41),
 St.mk
 [Ob.cells ls, Ob.map es, Ob.cells [AV.ms 0 64 0 N N, AV.mp 1, AV.nilsl],
 Ob.vec v cs]
 []))
 (branch (.bool (true && Nat.ble 64 l.length))
 (branch (.bool (inC (flC l 64) 0 64))
 (branch (.bool ((subC (flC l 64) 0 64).length.beq 64 && true))
 (branch
 (.bool ((.int .i64 k :: subC (flC l 64) 0 64).length.beq 65))
 (branch
 (AV.bool
 (inC (.int .i64 k :: subC (flC l 64) 0 64) 0 65))
 (branch
 (AV.bool
 ((List.map frz.frz1
 (subC (.int .i64 k :: subC (flC l 64) 0 64) 0
 65)).length.beq
 65))
 (branch (.bool (apOk 1 72))
 (branch
 (AV.bool
 (inC
 (List.drop 1 (.int .i64 k :: subC (flC l 64) 0 64))
 0 64))
 (branch (.bool (true && keysOk (LT.int IntKind.i64) es))
 (some
 (Fin.ret (.int .i64 0),
 St.mk
 [Ob.cells ls,
 Ob.map
 (putK es (.int .i64 k)
 (AV.agg
 (subC
 (List.drop 1
 (.int .i64 k :: subC (flC l 64) 0 64))
 0 64))),
 Ob.cells
 [AV.ms 0 64 0 N N, AV.mp 1,
 AV.vs 3 (v + 1) 65 1],
 Ob.vec (v + 1)
 (catC [] 0
 [List.map frz.frz1
 (subC (.int .i64 k :: subC (flC l 64) 0 64)
 0 65)])]
 []))
 none)
 none)
 none)
 none)
 none)
 none)
 none)
 none)
 none)))
 (some
 (Fin.ret (.int .i64 40),
 St.mk
 [Ob.cells ls, Ob.map es, Ob.cells [AV.ms 0 64 0 N N, AV.mp 1, AV.nilsl],
 Ob.vec v cs]
 [])) := by kernel_rfl
theorem write2_run (F N : Nat) (k : Int) (z : Bool) (l : List (List AV)) (ls : List AV) (es : List (AV × AV)) (v n : Nat) (cs : List AV) :
 (f56.run F [.ptr 2 0, .int .i64 k, .ns z 1 l] ⟨[.cells ls, .map es, .cells [.ms 0 64 0 N N, .mp 1, .vs 3 v 65 n], .vec v cs], []⟩ : Ans) =
 branch (.bool (decide (k ≥ 0)))
 (branch (.bool !decide (k < (↑N : Int)))
 (some
 (Fin.ret (.int .i64 40),
 St.mk
 [Ob.cells ls, Ob.map es,
 Ob.cells [AV.ms 0 64 0 N N, AV.mp 1, AV.vs 3 v 65 n],
 Ob.vec v cs]
 []))
 (branch (.bool ((↑l.length : Int) != 64))
 (some
 (Fin.ret (.int .i64 41),
 St.mk
 [Ob.cells ls, Ob.map es,
 Ob.cells [AV.ms 0 64 0 N N, AV.mp 1, AV.vs 3 v 65 n],
 Ob.vec v cs]
 []))
 (branch (.bool (true && Nat.ble 64 l.length))
 (branch (.bool (inC (flC l 64) 0 64))
 (branch (.bool ((subC (flC l 64) 0 64).length.beq 64 && true))
 (branch
 (.bool ((.int .i64 k :: subC (flC l 64) 0 64).length.beq 65))
 (branch
 (AV.bool
 (inC (.int .i64 k :: subC (flC l 64) 0 64) 0 65))
 (branch
 (AV.bool
 ((List.map frz.frz1
 (subC (.int .i64 k :: subC (flC l 64) 0 64) 0
 65)).length.beq
 65))
 (branch
 (.bool (v.beq v && (inC cs 0 (mulN n 65) && apOk (n + 1) 72)))
 (branch
 (AV.bool
 (inC
 (List.drop 1 (.int .i64 k :: subC (flC l 64) 0 64))
 0 64))
 (branch (.bool (true && keysOk (LT.int IntKind.i64) es))
 (some
 (Fin.ret (.int .i64 0),
 St.mk
 [Ob.cells ls,
 Ob.map
 (putK es (.int .i64 k)
 (AV.agg
 (subC
 (List.drop 1
 (.int .i64 k :: subC (flC l 64) 0 64))
 0 64))),
 Ob.cells
 [AV.ms 0 64 0 N N, AV.mp 1,
 AV.vs 3 (v + 1) 65 (n + 1)],
 Ob.vec (v + 1)
 (catC cs (mulN n 65)
 [List.map frz.frz1
 (subC (.int .i64 k :: subC (flC l 64) 0 64)
 0 65)])]
 []))
 none)
 none)
 none)
 none)
 none)
 none)
 none)
 none)
 none)))
 (some
 (Fin.ret (.int .i64 40),
 St.mk
 [Ob.cells ls, Ob.map es,
 Ob.cells [AV.ms 0 64 0 N N, AV.mp 1, AV.vs 3 v 65 n],
 Ob.vec v cs]
 [])) := by kernel_rfl
theorem read_run (F N : Nat) (k : Int) (ls : List AV) (es : List (AV × AV)) (wr : AV) (W : Ob) :
 (f65.run F [.ptr 2 0, .int .i64 k] ⟨[.cells ls, .map es, .cells [.ms 0 64 0 N N, .mp 1, wr], W], []⟩ : Ans) =
 branch (.bool (decide (k ≥ 0)))
 (branch (.bool !decide (k < (↑N : Int)))
 (some
 (Fin.ret (AV.tup [AV.nilsl, .int .i64 40]),
 St.mk [Ob.cells ls, Ob.map es, Ob.cells [AV.ms 0 64 0 N N, AV.mp 1, wr], W] []))
 (branch (.bool (true && keysOk (LT.int IntKind.i64) es))
 (branch (.bool (hasK es (.int .i64 k)))
 (branch (.bool ((LK.agg 64).is (valK es (.int .i64 k))))
 (branch
 (AV.bool
 ((aggL (valK es (.int .i64 k))).length.beq 64 &&
 inC (zAr 64 (AV.int IntKind.u8 (0 : Int))) 0 64))
 (onSome
 (rowsT 1 (AV.ms 4 1 0 64 64)
 (St.mk
 [Ob.cells ls, Ob.map es, Ob.cells [AV.ms 0 64 0 N N, AV.mp 1, wr], W,
 Ob.cells
 (setC (zAr 64 (AV.int IntKind.u8 (0 : Int))) 0
 (aggL (valK es (.int .i64 k))))]
 []))
 none fun (o : List (List AV)) =>
 branch (.bool (true && apOk o.length 1))
 (some
 (Fin.ret (AV.tup [AV.sl 1 false o, .int .i64 0]),
 St.mk
 [Ob.cells ls, Ob.map es, Ob.cells [AV.ms 0 64 0 N N, AV.mp 1, wr],
 W,
 Ob.cells
 (setC (zAr 64 (AV.int IntKind.u8 (0 : Int))) 0
 (aggL (valK es (.int .i64 k))))]
 []))
 none)
 none)
 none)
 (branch (.bool (true && inC (zAr 64 (AV.int IntKind.u8 (0 : Int))) 0 64))
 (if (0 : Int) ≤ k ∧ k < (↑N : Int) then
 branch (.bool (inC ls (0 + k.toNat * 64) 64))
 (branch
 (AV.bool
 ((subC ls (0 + k.toNat * 64) 64).length.beq 64 &&
 inC
 (setC (zAr 64 (AV.int IntKind.u8 (0 : Int))) 0
 [AV.int IntKind.u8 (0 : Int), AV.int IntKind.u8 (0 : Int), AV.int IntKind.u8 (0 : Int),
 AV.int IntKind.u8 (0 : Int), AV.int IntKind.u8 (0 : Int), AV.int IntKind.u8 (0 : Int),
 AV.int IntKind.u8 (0 : Int), AV.int IntKind.u8 (0 : Int), AV.int IntKind.u8 (0 : Int),
 AV.int IntKind.u8 (0 : Int), AV.int IntKind.u8 (0 : Int), AV.int IntKind.u8 (0 : Int),
 AV.int IntKind.u8 (0 : Int), AV.int IntKind.u8 (0 : Int), AV.int IntKind.u8 (0 : Int),
 AV.int IntKind.u8 (0 : Int), AV.int IntKind.u8 (0 : Int), AV.int IntKind.u8 (0 : Int),
 AV.int IntKind.u8 (0 : Int), AV.int IntKind.u8 (0 : Int), AV.int IntKind.u8 (0 : Int),
 AV.int IntKind.u8 (0 : Int), AV.int IntKind.u8 (0 : Int), AV.int IntKind.u8 (0 : Int),
 AV.int IntKind.u8 (0 : Int), AV.int IntKind.u8 (0 : Int), AV.int IntKind.u8 (0 : Int),
 AV.int IntKind.u8 (0 : Int), AV.int IntKind.u8 (0 : Int), AV.int IntKind.u8 (0 : Int),
 AV.int IntKind.u8 (0 : Int), AV.int IntKind.u8 (0 : Int), AV.int IntKind.u8 (0 : Int),
 AV.int IntKind.u8 (0 : Int), AV.int IntKind.u8 (0 : Int), AV.int IntKind.u8 (0 : Int),
 AV.int IntKind.u8 (0 : Int), AV.int IntKind.u8 (0 : Int), AV.int IntKind.u8 (0 : Int),
 AV.int IntKind.u8 (0 : Int), AV.int IntKind.u8 (0 : Int), AV.int IntKind.u8 (0 : Int),
 AV.int IntKind.u8 (0 : Int), AV.int IntKind.u8 (0 : Int), AV.int IntKind.u8 (0 : Int),
 AV.int IntKind.u8 (0 : Int), AV.int IntKind.u8 (0 : Int), AV.int IntKind.u8 (0 : Int),
 AV.int IntKind.u8 (0 : Int), AV.int IntKind.u8 (0 : Int), AV.int IntKind.u8 (0 : Int),
 AV.int IntKind.u8 (0 : Int), AV.int IntKind.u8 (0 : Int), AV.int IntKind.u8 (0 : Int),
 AV.int IntKind.u8 (0 : Int), AV.int IntKind.u8 (0 : Int), AV.int IntKind.u8 (0 : Int),
 AV.int IntKind.u8 (0 : Int), AV.int IntKind.u8 (0 : Int), AV.int IntKind.u8 (0 : Int),
 AV.int IntKind.u8 (0 : Int), AV.int IntKind.u8 (0 : Int), AV.int IntKind.u8 (0 : Int),
 AV.int IntKind.u8 (0 : Int)])
 0 64))
 (onSome
 (rowsT 1 (AV.ms 4 1 0 64 64)
 (St.mk
 [Ob.cells ls, Ob.map es, Ob.cells [AV.ms 0 64 0 N N, AV.mp 1, wr],
 W,
 Ob.cells
 (setC
 (setC (zAr 64 (AV.int IntKind.u8 (0 : Int))) 0
 [AV.int IntKind.u8 (0 : Int), AV.int IntKind.u8 (0 : Int), AV.int IntKind.u8 (0 : Int),
 AV.int IntKind.u8 (0 : Int), AV.int IntKind.u8 (0 : Int), AV.int IntKind.u8 (0 : Int),
 AV.int IntKind.u8 (0 : Int), AV.int IntKind.u8 (0 : Int), AV.int IntKind.u8 (0 : Int),
 AV.int IntKind.u8 (0 : Int), AV.int IntKind.u8 (0 : Int), AV.int IntKind.u8 (0 : Int),
 AV.int IntKind.u8 (0 : Int), AV.int IntKind.u8 (0 : Int), AV.int IntKind.u8 (0 : Int),
 AV.int IntKind.u8 (0 : Int), AV.int IntKind.u8 (0 : Int), AV.int IntKind.u8 (0 : Int),
 AV.int IntKind.u8 (0 : Int), AV.int IntKind.u8 (0 : Int), AV.int IntKind.u8 (0 : Int),
 AV.int IntKind.u8 (0 : Int), AV.int IntKind.u8 (0 : Int), AV.int IntKind.u8 (0 : Int),
 AV.int IntKind.u8 (0 : Int), AV.int IntKind.u8 (0 : Int), AV.int IntKind.u8 (0 : Int),
 AV.int IntKind.u8 (0 : Int), AV.int IntKind.u8 (0 : Int), AV.int IntKind.u8 (0 : Int),
 AV.int IntKind.u8 (0 : Int), AV.int IntKind.u8 (0 : Int), AV.int IntKind.u8 (0 : Int),
 AV.int IntKind.u8 (0 : Int), AV.int IntKind.u8 (0 : Int), AV.int IntKind.u8 (0 : Int),
 AV.int IntKind.u8 (0 : Int), AV.int IntKind.u8 (0 : Int), AV.int IntKind.u8 (0 : Int),
 AV.int IntKind.u8 (0 : Int), AV.int IntKind.u8 (0 : Int), AV.int IntKind.u8 (0 : Int),
 AV.int IntKind.u8 (0 : Int), AV.int IntKind.u8 (0 : Int), AV.int IntKind.u8 (0 : Int),
 AV.int IntKind.u8 (0 : Int), AV.int IntKind.u8 (0 : Int), AV.int IntKind.u8 (0 : Int),
 AV.int IntKind.u8 (0 : Int), AV.int IntKind.u8 (0 : Int), AV.int IntKind.u8 (0 : Int),
 AV.int IntKind.u8 (0 : Int), AV.int IntKind.u8 (0 : Int), AV.int IntKind.u8 (0 : Int),
 AV.int IntKind.u8 (0 : Int), AV.int IntKind.u8 (0 : Int), AV.int IntKind.u8 (0 : Int),
 AV.int IntKind.u8 (0 : Int), AV.int IntKind.u8 (0 : Int), AV.int IntKind.u8 (0 : Int),
 AV.int IntKind.u8 (0 : Int), AV.int IntKind.u8 (0 : Int), AV.int IntKind.u8 (0 : Int),
 AV.int IntKind.u8 (0 : Int)])
 0 (subC ls (0 + k.toNat * 64) 64))]
 []))
 none fun (o : List (List AV)) =>
 branch (.bool (true && apOk o.length 1))
 (some
 (Fin.ret (AV.tup [AV.sl 1 false o, .int .i64 0]),
 St.mk
 [Ob.cells ls, Ob.map es,
 Ob.cells [AV.ms 0 64 0 N N, AV.mp 1, wr], W,
 Ob.cells
 (setC
 (setC (zAr 64 (AV.int IntKind.u8 (0 : Int))) 0
 [AV.int IntKind.u8 (0 : Int), AV.int IntKind.u8 (0 : Int),
 AV.int IntKind.u8 (0 : Int), AV.int IntKind.u8 (0 : Int),
 AV.int IntKind.u8 (0 : Int), AV.int IntKind.u8 (0 : Int),
 AV.int IntKind.u8 (0 : Int), AV.int IntKind.u8 (0 : Int),
 AV.int IntKind.u8 (0 : Int), AV.int IntKind.u8 (0 : Int),
 AV.int IntKind.u8 (0 : Int), AV.int IntKind.u8 (0 : Int),
 AV.int IntKind.u8 (0 : Int), AV.int IntKind.u8 (0 : Int),
 AV.int IntKind.u8 (0 : Int), AV.int IntKind.u8 (0 : Int),
 AV.int IntKind.u8 (0 : Int), AV.int IntKind.u8 (0 : Int),
 AV.int IntKind.u8 (0 : Int), AV.int IntKind.u8 (0 : Int),
 AV.int IntKind.u8 (0 : Int), AV.int IntKind.u8 (0 : Int),
 AV.int IntKind.u8 (0 : Int), AV.int IntKind.u8 (0 : Int),
 AV.int IntKind.u8 (0 : Int), AV.int IntKind.u8 (0 : Int),
 AV.int IntKind.u8 (0 : Int), AV.int IntKind.u8 (0 : Int),
 AV.int IntKind.u8 (0 : Int), AV.int IntKind.u8 (0 : Int),
 AV.int IntKind.u8 (0 : Int), AV.int IntKind.u8 (0 : Int),
 AV.int IntKind.u8 (0 : Int), AV.int IntKind.u8 (0 : Int),
 AV.int IntKind.u8 (0 : Int), AV.int IntKind.u8 (0 : Int),
 AV.int IntKind.u8 (0 : Int), AV.int IntKind.u8 (0 : Int),
 AV.int IntKind.u8 (0 : Int), AV.int IntKind.u8 (0 : Int),
 AV.int IntKind.u8 (0 : Int), AV.int IntKind.u8 (0 : Int),
 AV.int IntKind.u8 (0 : Int), AV.int IntKind.u8 (0 : Int),
 AV.int IntKind.u8 (0 : Int), AV.int IntKind.u8 (0 : Int),
 AV.int IntKind.u8 (0 : Int), AV.int IntKind.u8 (0 : Int),
 AV.int IntKind.u8 (0 : Int), AV.int IntKind.u8 (0 : Int),
 AV.int IntKind.u8 (0 : Int), AV.int IntKind.u8 (0 : Int),
 AV.int IntKind.u8 (0 : Int), AV.int IntKind.u8 (0 : Int),
 AV.int IntKind.u8 (0 : Int), AV.int IntKind.u8 (0 : Int),
 AV.int IntKind.u8 (0 : Int), AV.int IntKind.u8 (0 : Int),
 AV.int IntKind.u8 (0 : Int), AV.int IntKind.u8 (0 : Int),
 AV.int IntKind.u8 (0 : Int), AV.int IntKind.u8 (0 : Int),
 AV.int IntKind.u8 (0 : Int), AV.int IntKind.u8 (0 : Int)])
 0 (subC ls (0 + k.toNat * 64) 64))]
 []))
 none)
 none)
 none
 else none)
 none))
 none))
 (some
 (Fin.ret (AV.tup [AV.nilsl, .int .i64 40]),
 St.mk [Ob.cells ls, Ob.map es, Ob.cells [AV.ms 0 64 0 N N, AV.mp 1, wr], W] [])) := by kernel_rfl
theorem settle0_run (F N : Nat) (keep torn : Int) (ls : List AV) (es : List (AV × AV)) (W : Ob) (K : Fin → St → Ans) :
 (f42.runK F [.ptr 2 0, .int .i64 keep, .int .i64 torn] ⟨[.cells ls, .map es, .cells [.ms 0 64 0 N N, .mp 1, .nilsl], W], []⟩ K : Ans) =
 if (0 : Int) ≤ keep ∧ keep ≤ 0 then
 loopRun (f42_l0.run F) [0, 1, 2, 14, 15, 16]
 (Cont.block 0 (Cont.then (f42_r0.run F (f42.leaveK K)) (f42.leaveK K))) F
 (Env.mk 63
 [(0, AV.ptr 2 0), (1, .int .i64 keep),
 (2, .int .i64 torn), (14, AV.nilsl), (15, .int .i64 0),
 (16, .int .i64 0)])
 (St.mk [Ob.cells ls, Ob.map es, Ob.cells [AV.ms 0 64 0 N N, AV.mp 1, AV.nilsl], W]
 [])
 else none := by kernel_rfl
theorem settle_run (F N v n : Nat) (keep torn : Int) (ls : List AV) (es : List (AV × AV)) (W : Ob) (K : Fin → St → Ans) :
 (f42.runK F [.ptr 2 0, .int .i64 keep, .int .i64 torn] ⟨[.cells ls, .map es, .cells [.ms 0 64 0 N N, .mp 1, .vs 3 v 65 n], W], []⟩ K : Ans) =
 if (0 : Int) ≤ keep ∧ keep ≤ (↑n : Int) then
 loopRun (f42_l0.run F) [0, 1, 2, 14, 15, 16]
 (Cont.block 0 (Cont.then (f42_r0.run F (f42.leaveK K)) (f42.leaveK K))) F
 (Env.mk 63
 [(0, AV.ptr 2 0), (1, .int .i64 keep),
 (2, .int .i64 torn), (14, AV.vs 3 v 65 keep.toNat),
 (15, .int .i64 (↑keep.toNat : Int)), (16, .int .i64 0)])
 (St.mk
 [Ob.cells ls, Ob.map es,
 Ob.cells [AV.ms 0 64 0 N N, AV.mp 1, AV.vs 3 v 65 n], W]
 [])
 else none := by kernel_rfl
theorem settle_round (F m N v n j : Nat) (i e keep torn : Int) (ls : List AV) (es : List (AV × AV)) (cs : List AV) (K : Cont) :
 (loopRun (f42_l0.run F) [0, 1, 2, 14, 15, 16] K m.succ (Env.mk 63 [(0, .ptr 2 0), (1, .int .i64 keep), (2, .int .i64 torn), (14, .vs 3 v 65 j), (15, .int .i64 e), (16, .int .i64 i)]) ⟨[.cells ls, .map es, .cells [.ms 0 64 0 N N, .mp 1, .vs 3 v 65 n], .vec v cs], []⟩ : Ans) =
 branch (.bool (decide (i < e)))
 (if (0 : Int) ≤ i ∧ i < (↑j : Int) then
 branch (.bool (v.beq v && inC cs (i.toNat * 65) 65))
 (branch (.bool ((subC cs (i.toNat * 65) 65).length.beq 65))
 (branch
 (.bool ((LD.one (LT.int IntKind.i64)).is (List.drop 0 (subC cs (i.toNat * 65) 65))))
 (branch (.bool (inC (List.drop 1 (subC cs (i.toNat * 65) 65)) 0 64))
 (if
 (0 : Int) ≤ hdI (List.drop 0 (subC cs (i.toNat * 65) 65)) ∧
 hdI (List.drop 0 (subC cs (i.toNat * 65) 65)) < (↑N : Int) then
 branch
 (AV.bool
 ((subC (List.drop 1 (subC cs (i.toNat * 65) 65)) 0
 64).length.beq
 64 &&
 inC ls
 (0 +
 (hdI (List.drop 0 (subC cs (i.toNat * 65) 65))).toNat * 64)
 64))
 (loopRun (f42_l0.run F) [0, 1, 2, 14, 15, 16] K m
 (Env.mk 63
 [(0, AV.ptr 2 0), (1, .int .i64 keep),
 (2, .int .i64 torn), (14, AV.vs 3 v 65 j),
 (15, .int .i64 e),
 (16, .int .i64 (IntKind.i64.wrap (i + 1)))])
 (St.mk
 [Ob.cells
 (setC ls
 (0 +
 (hdI (List.drop 0 (subC cs (i.toNat * 65) 65))).toNat * 64)
 (subC (List.drop 1 (subC cs (i.toNat * 65) 65)) 0
 64)),
 Ob.map es,
 Ob.cells
 [AV.ms 0 64 0 N N, AV.mp 1, AV.vs 3 v 65 n],
 Ob.vec v cs]
 []))
 none
 else none)
 none)
 none)
 none)
 none
 else none)
 (K (AX.exit 0)
 (Env.mk 63
 [(0, AV.ptr 2 0), (1, .int .i64 keep),
 (2, .int .i64 torn)])
 (St.mk
 [Ob.cells ls, Ob.map es,
 Ob.cells [AV.ms 0 64 0 N N, AV.mp 1, AV.vs 3 v 65 n],
 Ob.vec v cs]
 [])) := by kernel_rfl
theorem settle_out (F N v n : Nat) (keep torn : Int) (ls : List AV) (es : List (AV × AV)) (cs : List AV) (K : Fin → St → Ans) :
 ((Cont.block 0 (Cont.then (f42_r0.run F (f42.leaveK K)) (f42.leaveK K))) (.exit 0) (Env.mk 63 [(0, .ptr 2 0), (1, .int .i64 keep), (2, .int .i64 torn)]) ⟨[.cells ls, .map es, .cells [.ms 0 64 0 N N, .mp 1, .vs 3 v 65 n], .vec v cs], []⟩ : Ans) =
 branch (.bool (decide (keep < (↑n : Int))))
 (if (0 : Int) ≤ keep ∧ keep < (↑n : Int) then
 branch (.bool (v.beq v && inC cs (keep.toNat * 65) 65))
 (branch (.bool ((subC cs (keep.toNat * 65) 65).length.beq 65))
 (branch
 (AV.bool
 ((LD.one (LT.int IntKind.i64)).is (List.drop 0 (subC cs (keep.toNat * 65) 65))))
 (if
 (0 : Int) ≤ hdI (List.drop 0 (subC cs (keep.toNat * 65) 65)) ∧
 hdI (List.drop 0 (subC cs (keep.toNat * 65) 65)) < (↑N : Int) then
 if (0 : Int) ≤ torn ∧ torn ≤ 64 then
 branch
 (AV.bool
 (inC (List.drop 1 (subC cs (keep.toNat * 65) 65)) 0
 (mulN (torn.toNat - 0) 1)))
 (branch
 (AV.bool
 (inC ls
 (0 +
 (hdI (List.drop 0 (subC cs (keep.toNat * 65) 65))).toNat *
 64 +
 0)
 (mulN
 (minN
 (rowsC 1 (torn.toNat - 0)
 (List.drop 1 (subC cs (keep.toNat * 65) 65)) 0).length
 64)
 1)))
 (K (Fin.ret (AV.tup []))
 (St.mk
 [Ob.cells
 (setC ls
 (0 +
 (hdI (List.drop 0 (subC cs (keep.toNat * 65) 65))).toNat *
 64 +
 0)
 (flC
 (rowsC 1 (torn.toNat - 0)
 (List.drop 1 (subC cs (keep.toNat * 65) 65)) 0)
 (minN
 (rowsC 1 (torn.toNat - 0)
 (List.drop 1 (subC cs (keep.toNat * 65) 65))
 0).length
 64))),
 Ob.map [], Ob.cells [AV.ms 0 64 0 N N, AV.mp 1, AV.nilsl],
 Ob.vec v cs]
 []))
 none)
 none
 else none
 else none)
 none)
 none)
 none
 else none)
 (K (Fin.ret (AV.tup []))
 (St.mk
 [Ob.cells ls, Ob.map [], Ob.cells [AV.ms 0 64 0 N N, AV.mp 1, AV.nilsl],
 Ob.vec v cs]
 [])) := by kernel_rfl
theorem image_run (F N : Nat) (ls : List AV) (es : List (AV × AV)) (wr : AV) (W : Ob) :
 (f19.run F [.ptr 2 0] ⟨[.cells ls, .map es, .cells [.ms 0 64 0 N N, .mp 1, wr], W], []⟩ : Ans) =
 branch (.bool (true && amakeG.mkOkC 1 (IntKind.i64.wrap ((↑N : Int) * (64 : Int)))))
 (loopRun (f19_l0.run F) [3, 16, 17, 18]
 (Cont.block 0 (Cont.then (f19_r0.run F (f19.leaveK Fun.done)) (f19.leaveK Fun.done))) F
 (Env.mk 27
 [(3, AV.vs 4 0 1 0),
 (16, AV.ms 0 64 0 N N), (17, .int .i64 (↑N : Int)),
 (18, .int .i64 0)])
 (St.mk
 [Ob.cells ls, Ob.map es, Ob.cells [AV.ms 0 64 0 N N, AV.mp 1, wr], W,
 Ob.vec 0 []]
 []))
 none := by kernel_rfl
theorem image_round (F m N v n : Nat) (i e : Int) (ls : List AV) (es : List (AV × AV)) (wr : AV) (W : Ob) (cs : List AV) (K : Cont) :
 (loopRun (f19_l0.run F) [3, 16, 17, 18] K m.succ (Env.mk 27 [(3, .vs 4 v 1 n), (16, .ms 0 64 0 N N), (17, .int .i64 e), (18, .int .i64 i)]) ⟨[.cells ls, .map es, .cells [.ms 0 64 0 N N, .mp 1, wr], W, .vec v cs], []⟩ : Ans) =
 branch (.bool (decide (i < e)))
 (if (0 : Int) ≤ i ∧ i < (↑N : Int) then
 branch (.bool (inC ls (0 + i.toNat * 64) 64))
 (branch (.bool ((subC ls (0 + i.toNat * 64) 64).length.beq 64))
 (branch
 (.bool (inC (subC ls (0 + i.toNat * 64) 64) 0 (mulN 64 1)))
 (branch
 (AV.bool
 (v.beq v &&
 (inC cs 0 (mulN n 1) &&
 apOk
 (n +
 (rowsC 1 64 (subC ls (0 + i.toNat * 64) 64)
 0).length)
 1)))
 (loopRun (f19_l0.run F) [3, 16, 17, 18] K m
 (Env.mk 27
 [(3,
 AV.vs 4 (v + 1) 1
 (n +
 (rowsC 1 64 (subC ls (0 + i.toNat * 64) 64)
 0).length)),
 (16, AV.ms 0 64 0 N N), (17, .int .i64 e),
 (18, .int .i64 (IntKind.i64.wrap (i + 1)))])
 (St.mk
 [Ob.cells ls, Ob.map es, Ob.cells [AV.ms 0 64 0 N N, AV.mp 1, wr], W,
 Ob.vec (v + 1)
 (catC cs (mulN n 1)
 (rowsC 1 64 (subC ls (0 + i.toNat * 64) 64) 0))]
 []))
 none)
 none)
 none)
 none
 else none)
 (K (AX.exit 0) (Env.mk 27 [(3, AV.vs 4 v 1 n)])
 (St.mk
 [Ob.cells ls, Ob.map es, Ob.cells [AV.ms 0 64 0 N N, AV.mp 1, wr], W, Ob.vec v cs]
 [])) := by kernel_rfl
theorem image_out (F N v n : Nat) (ls : List AV) (es : List (AV × AV)) (wr : AV) (W : Ob) (cs : List AV) :
 ((Cont.block 0 (Cont.then (f19_r0.run F (f19.leaveK Fun.done)) (f19.leaveK Fun.done))) (.exit 0) (Env.mk 27 [(3, .vs 4 v 1 n)]) ⟨[.cells ls, .map es, .cells [.ms 0 64 0 N N, .mp 1, wr], W, .vec v cs], []⟩ : Ans) =
 branch (.bool (v.beq v && inC cs 0 (mulN n 1)))
 (some
 (Fin.ret (AV.ns false 1 (rowsC 1 n cs 0)),
 St.mk
 [Ob.cells ls, Ob.map es, Ob.cells [AV.ms 0 64 0 N N, AV.mp 1, wr], W,
 Ob.nov (v + 1)]
 []))
 none := by kernel_rfl
theorem settle0_round (F m N : Nat) (keep torn : Int) (ls : List AV) (es : List (AV × AV)) (W : Ob) (K : Cont) :
 (loopRun (f42_l0.run F) [0, 1, 2, 14, 15, 16] K m.succ (Env.mk 63 [(0, .ptr 2 0), (1, .int .i64 keep), (2, .int .i64 torn), (14, .nilsl), (15, .int .i64 0), (16, .int .i64 0)]) ⟨[.cells ls, .map es, .cells [.ms 0 64 0 N N, .mp 1, .nilsl], W], []⟩ : Ans) =
 K (AX.exit 0)
 (Env.mk 63
 [(0, AV.ptr 2 0), (1, .int .i64 keep),
 (2, .int .i64 torn)])
 (St.mk [Ob.cells ls, Ob.map es, Ob.cells [AV.ms 0 64 0 N N, AV.mp 1, AV.nilsl], W] []) := by kernel_rfl
theorem settle0_out (F N : Nat) (torn : Int) (ls : List AV) (es : List (AV × AV)) (W : Ob) (K : Fin → St → Ans) :
 ((Cont.block 0 (Cont.then (f42_r0.run F (f42.leaveK K)) (f42.leaveK K))) (.exit 0) (Env.mk 63 [(0, .ptr 2 0), (1, .int .i64 0), (2, .int .i64 torn)]) ⟨[.cells ls, .map es, .cells [.ms 0 64 0 N N, .mp 1, .nilsl], W], []⟩ : Ans) =
 K (Fin.ret (AV.tup []))
 (St.mk [Ob.cells ls, Ob.map [], Ob.cells [AV.ms 0 64 0 N N, AV.mp 1, AV.nilsl], W] []) := by kernel_rfl
theorem bC_append (a b : List Nat) : bC (a ++ b) = bC a ++ bC b := by simp [bC]
theorem bC_take (a : List Nat) (n : Nat) : (bC a).take n = bC (a.take n) := by simp [bC]
theorem setC_all {cs xs : List AV} (h : xs.length = cs.length) : setC cs 0 xs = xs := by
 rw [setC, opq_eq, ← cutIn_eq _ _ _ (by omega)]
 rw [show cutIn cs 0 xs.length xs = endB xs (cs.drop xs.length) by cases cs <;> rfl, endB_eq, List.drop_eq_nil_of_le (by omega)]
 simp
theorem subC_bC (b : List Nat) (o n : Nat) : subC (bC b) o n = bC ((b.drop o).take n) := by rw [subC, opq_eq, bC_drop, bC_take]
theorem flC_bR (b : List Nat) (n : Nat) : flC (bR b) n = bC (b.take n) := by rw [flC, opq_eq, bR_take, bR_flat]
theorem inC_bC {b : List Nat} {o n : Nat} (h : o + n ≤ b.length) : inC (bC b) o n = true := by rw [inC_iff, bC_length]; exact h
theorem frz_bC (b : List Nat) : (bC b).map frz.frz1 = bC b := by
 simp only [bC, List.map_map]
 apply List.map_congr_left
 intro x _; rfl
def wrow (w : Nat × List Nat) : List AV := .int .i64 (w.1 : Int) :: bC w.2
def wC (ws : List (Nat × List Nat)) : List AV := ws.flatMap wrow
theorem wC_append (a b : List (Nat × List Nat)) : wC (a ++ b) = wC a ++ wC b := by simp [wC]
theorem wC_length : ∀ {ws : List (Nat × List Nat)}, (∀ w ∈ ws, w.2.length = 64) → (wC ws).length = ws.length * 65
 | [], _ => rfl
 | w :: ws, h => by
  have ih := wC_length (ws := ws) fun x hx => h x (List.mem_cons_of_mem _ hx)
  have h1 := h w List.mem_cons_self
  simp only [wC, List.flatMap_cons, List.length_append, wrow, List.length_cons, bC_length] at ih ⊢
  omega
theorem wC_at : ∀ {ws : List (Nat × List Nat)} {j : Nat} (hj : j < ws.length), (∀ w ∈ ws, w.2.length = 64) → subC (wC ws) (j * 65) 65 = wrow ws[j]
 | w :: ws, 0, hj, h => by
  have h1 := h w List.mem_cons_self
  have h2 : (wrow w).length = 65 := by simp [wrow, bC_length, h1]
  rw [subC, opq_eq]
  simp only [wC, List.flatMap_cons, Nat.zero_mul, List.drop_zero, List.getElem_cons_zero]
  rw [← h2, List.take_left]
 | w :: ws, j + 1, hj, h => by
  have ih := wC_at (ws := ws) (j := j) (by simpa using hj) fun x hx => h x (List.mem_cons_of_mem _ hx)
  have h1 := h w List.mem_cons_self
  have h2 : (wrow w).length = 65 := by simp [wrow, bC_length, h1]
  rw [subC, opq_eq] at ih ⊢
  simp only [wC, List.flatMap_cons, List.getElem_cons_succ] at ih ⊢
  rw [show (j + 1) * 65 = (wrow w).length + j * 65 by omega, ← List.drop_drop, List.drop_left]
  exact ih
def lastW (ws : List (Nat × List Nat)) (k : Nat) : Option (List Nat) := (ws.reverse.find? fun w => w.1 == k).map (·.2)
theorem lastW_append (ws : List (Nat × List Nat)) (a : Nat) (b : List Nat) (k : Nat) : lastW (ws ++ [(a, b)]) k = if a = k then some b else lastW ws k := by
 rw [lastW, List.reverse_append, List.reverse_singleton, List.singleton_append, List.find?_cons]
 by_cases h : a = k
 ·simp [h]
 ·have : (a == k) = false := by simp [h]
  simp [this, h, lastW]
theorem lastW_mem {ws : List (Nat × List Nat)} {k : Nat} {b : List Nat} (h : lastW ws k = some b) : (k, b) ∈ ws := by
 rw [lastW, Option.map_eq_some_iff] at h
 obtain ⟨w, h1, rfl⟩ := h
 have h2 := List.find?_some h1
 have h3 := List.mem_of_find?_eq_some h1
 simp at h2 h3
 rw [← h2]; exact h3
theorem find_put {k k' : Int} {x : AV} : ∀ es : List (AV × AV), keysOk (.int .i64) es = true → findK (putK es (.int .i64 k) x) (.int .i64 k') = if k = k' then some x else findK es (.int .i64 k')
 | [], _ => by
  show (match eqK (.int .i64 k') (.int .i64 k) with | true => some x | false => none) = _
  by_cases h : k = k'
  ·subst h; simp [eqK]
  ·have : eqK (.int .i64 k') (.int .i64 k) = false := by simp [eqK]; exact fun e => h e.symm
   rw [this]; simp [h]; rfl
 | e :: es, hk => by
  simp only [keysOk, List.all_cons, Bool.and_eq_true] at hk
  have ih := find_put (k := k) (k' := k') (x := x) es hk.2
  have he : ∃ j, e.1 = .int .i64 j := by
   have h1 := hk.1
   simp only [keyIs] at h1
   split at h1
   ·simp only [decide_eq_true_eq] at h1; subst h1; rename_i h; exact ⟨_, h⟩
   ·cases h1
  obtain ⟨j, hj⟩ := he
  simp only [putK, findK, hj]
  by_cases h1 : k = j
  ·subst h1
   have : eqK (.int .i64 k) (.int .i64 k) = true := by simp [eqK]
   simp only [this]
   by_cases h : k = k'
   ·subst h; simp [findK, eqK]
   ·have : eqK (.int .i64 k') (.int .i64 k) = false := by simp [eqK]; exact fun e => h e.symm
    simp only [findK, this, if_neg h]
  ·have h2 : eqK (.int .i64 k) (.int .i64 j) = false := by simp [eqK, h1]
   simp only [h2, findK, hj]
   by_cases h : k' = j
   ·subst h
    have : eqK (.int .i64 k') (.int .i64 k') = true := by simp [eqK]
    simp only [this]
    rw [if_neg h1]
   ·have h3 : eqK (.int .i64 k') (.int .i64 j) = false := by simp [eqK, h]
    simp only [h3, ih]
theorem keys_put {k : Int} {x : AV} : ∀ es : List (AV × AV), keysOk (.int .i64) es = true → keysOk (.int .i64) (putK es (.int .i64 k) x) = true
 | [], _ => rfl
 | e :: es, hk => by
  have ih := keys_put (k := k) (x := x) es (by simp only [keysOk, List.all_cons, Bool.and_eq_true] at hk; exact hk.2)
  simp only [keysOk, List.all_cons, Bool.and_eq_true] at hk ih ⊢
  simp only [putK]
  split
  ·simp only [List.all_cons, Bool.and_eq_true]; exact ⟨rfl, hk.2⟩
  ·simp only [List.all_cons, Bool.and_eq_true]; exact ⟨hk.1, ih⟩
theorem mem_put {k x : AV} : ∀ {es : List (AV × AV)} {e : AV × AV}, e ∈ putK es k x → e = (k, x) ∨ e ∈ es
 | [], e, h => by simp [putK] at h; exact .inl h
 | e0 :: es, e, h => by
  simp only [putK] at h
  split at h
  ·rcases List.mem_cons.mp h with h | h
   ·exact .inl h
   ·exact .inr (List.mem_cons_of_mem _ h)
  ·rcases List.mem_cons.mp h with h | h
   ·exact .inr (h ▸ List.mem_cons_self)
   ·rcases mem_put h with h | h
    ·exact .inl h
    ·exact .inr (List.mem_cons_of_mem _ h)
structure Dk where
 n : Nat
 ls : List Nat
 ws : List (Nat × List Nat)
 es : List (AV × AV)
 W : Ob
 v : Nat
def Dk.wr (X : Dk) : AV :=
 match X.ws with
 | [] => .nilsl
 | _ :: _ => .vs 3 X.v 65 X.ws.length
def Dk.obs (X : Dk) : List Ob := [.cells (bC X.ls), .map X.es, .cells [.ms 0 64 0 X.n X.n, .mp 1, X.wr], X.W]
structure Dk.Ok (X : Dk) : Prop where
 n1 : X.n ≤ 65536
 len : X.ls.length = X.n * 64
 byte : ∀ x ∈ X.ls, x < 256
 ws : ∀ w ∈ X.ws, w.1 < X.n ∧ w.2.length = 64 ∧ ∀ x ∈ w.2, x < 256
 keys : keysOk (.int .i64) X.es = true
 esf : ∀ e ∈ X.es, ∃ b, e.2 = .agg (bC b)
 map : ∀ k : Nat, findK X.es (.int .i64 k) = (lastW X.ws k).map fun b => .agg (bC b)
 W0 : X.ws = [] → (∃ cs, X.W = .vec X.v cs ∧ ∀ c ∈ cs, Flat c) ∨ X.W = .nov X.v
 W1 : X.ws ≠ [] → X.W = .vec X.v (wC X.ws)
def Dk.put (X : Dk) (k : Nat) (b : List Nat) : Dk := { X with ws := X.ws ++ [(k, b)], es := putK X.es (.int .i64 k) (.agg (bC b)), v := X.v + 1, W := .vec (X.v + 1) (wC (X.ws ++ [(k, b)])) }
def Dk.wrE (X : Dk) (k : Int) (len : Nat) : Int := if 0 ≤ k ∧ k < X.n then (if len = 64 then 0 else 41) else 40
def Dk.wrX (X : Dk) (k : Int) (b : List Nat) : Dk := if 0 ≤ k ∧ k < X.n ∧ b.length = 64 then X.put k.toNat b else X
theorem Dk.Ok.put {X : Dk} (h : X.Ok) {k : Nat} {b : List Nat} (hk : k < X.n) (hb : b.length = 64) (hx : ∀ x ∈ b, x < 256) : (X.put k b).Ok where
 n1 := h.n1
 len := h.len
 byte := h.byte
 ws := fun w hw => by
  rcases List.mem_append.mp hw with hw | hw
  ·exact h.ws w hw
  ·simp at hw; subst hw; exact ⟨hk, hb, hx⟩
 keys := keys_put _ h.keys
 esf := fun e he => by
  rcases mem_put he with rfl | he
  ·exact ⟨b, rfl⟩
  ·exact h.esf e he
 map := fun j => by
  show findK (putK X.es (.int .i64 (k : Int)) _) (.int .i64 (j : Int)) = (lastW (X.ws ++ [(k, b)]) j).map _
  rw [find_put _ h.keys, lastW_append, h.map j]
  by_cases e : k = j
  ·subst e; simp
  ·rw [if_neg (by omega), if_neg e]
 W0 := fun e => by simp [Dk.put] at e
 W1 := fun _ => rfl
theorem Dk.wr_put (X : Dk) (k : Nat) (b : List Nat) : (X.put k b).wr = .vs 3 (X.v + 1) 65 (X.ws.length + 1) := by
 unfold Dk.wr
 have : (X.put k b).ws = X.ws ++ [(k, b)] := rfl
 split
 ·rename_i e; rw [this] at e; simp at e
 ·rw [this]; simp [Dk.put]
theorem write_can {F : Nat} {X : Dk} (h : X.Ok) (hw : X.ws.length < 999999) (z : Bool) (l : List (List AV)) (hl : byOk l = true) (k : Int) :
  f56.run F [.ptr 2 0, .int .i64 k, .ns z 1 l] ⟨X.obs, []⟩ = some (.ret (.int .i64 (X.wrE k l.length)), ⟨(X.wrX k (nR l)).obs, []⟩) := by
 have hr := okR_rows (byOk_iff.mp hl).1
 have hlt : ∀ x ∈ nR l, x < 256 := fun x hx => okR_lt (byOk_iff.mp hl).1 hx
 generalize hb : nR l = b at hr hlt
 subst hr
 rw [bR_length]
 have wl := wC_length fun w hw => (h.ws w hw).2.1
 by_cases hk : 0 ≤ k ∧ k < X.n
 ·have hk1 : decide (k ≥ 0) = true := by simpa using hk.1
  have hk2 : (!decide (k < (X.n : Int))) = false := by simpa using hk.2
  by_cases h64 : b.length = 64
  ·obtain ⟨j, rfl⟩ := Int.eq_ofNat_of_zero_le hk.1
   have hX : X.wrX (j : Int) b = X.put j b := by rw [Dk.wrX, if_pos ⟨hk.1, hk.2, h64⟩, Int.toNat_natCast]
   have hE : X.wrE (j : Int) b.length = 0 := by rw [Dk.wrE, if_pos hk, if_pos h64]
   have c1 : ((((bR b).length : Nat) : Int) != 64) = false := by rw [bR_length, h64]; rfl
   have c2 : (true && Nat.ble 64 (bR b).length) = true := by rw [bR_length, h64]; rfl
   have f901 : flC (bR b) 64 = bC b := by rw [flC_bR, List.take_of_length_le (by omega)]
   have f902 : subC (bC b) 0 64 = bC b := by rw [subC_bC, List.drop_zero, List.take_of_length_le (by omega)]
   have f903 : (AV.int .i64 (j : Int) :: bC b) = wrow (j, b) := rfl
   have f904 : (wrow (j, b)).length = 65 := by simp [wrow, bC_length, h64]
   have f905 : subC (wrow (j, b)) 0 65 = wrow (j, b) := by rw [subC, opq_eq, List.drop_zero, List.take_of_length_le (by omega)]
   have f906 : (wrow (j, b)).map frz.frz1 = wrow (j, b) := by simp only [wrow, List.map_cons, frz_bC]; rfl
   have f907 : List.drop 1 (wrow (j, b)) = bC b := rfl
   have d1 : inC (bC b) 0 64 = true := inC_bC (by omega)
   have d2 : ((bC b).length.beq 64 && true) = true := by rw [bC_length, h64]; rfl
   have d3 : (wrow (j, b)).length.beq 65 = true := by rw [f904]; rfl
   have d4 : inC (wrow (j, b)) 0 65 = true := by rw [inC_iff]; omega
   have d5 : (true && keysOk (.int .i64) X.es) = true := by rw [h.keys]; rfl
   have hput : (X.put j b).obs = [.cells (bC X.ls), .map (putK X.es (.int .i64 (j : Int)) (.agg (bC b))), .cells [.ms 0 64 0 X.n X.n, .mp 1, .vs 3 (X.v + 1) 65 (X.ws.length + 1)], .vec (X.v + 1) (wC (X.ws ++ [(j, b)]))] := by
    rw [Dk.obs, Dk.wr_put]; rfl
   rw [hX, hE, hput]
   cases hws : X.ws with
   | nil =>
    have e0 : X.wr = .nilsl := by rw [Dk.wr, hws]
    have a1 : apOk 1 72 = true := by rw [apOk_iff]; decide
    have cc : catC [] 0 [wrow (j, b)] = wC ([] ++ [(j, b)]) := by rw [catC_nil]; simp [wC]
    rcases h.W0 hws with ⟨cs, hW, _⟩ | hW
    ·rw [Dk.obs, e0, hW, write1_run, branch_of hk1, branch_not hk2, branch_not c1, branch_of c2, f901, branch_of d1, f902, branch_of d2, f903, branch_of d3, branch_of d4, f905, f906, branch_of d3, branch_of a1, f907, branch_of d1, branch_of d5, f902, cc]
     rfl
    ·rw [Dk.obs, e0, hW, write0_run, branch_of hk1, branch_not hk2, branch_not c1, branch_of c2, f901, branch_of d1, f902, branch_of d2, f903, branch_of d3, branch_of d4, f905, f906, branch_of d3, branch_of a1, f907, branch_of d1, branch_of d5, f902, cc]
     rfl
   | cons w0 ws0 =>
    have hne : X.ws ≠ [] := by rw [hws]; simp
    have e0 : X.wr = .vs 3 X.v 65 X.ws.length := by unfold Dk.wr; split <;> simp_all
    have a1 : (X.v.beq X.v && (inC (wC X.ws) 0 (mulN X.ws.length 65) && apOk (X.ws.length + 1) 72)) = true := by
     rw [Nat.beq_refl, show inC (wC X.ws) 0 (mulN X.ws.length 65) = true by rw [inC_iff, mulN, opq_eq]; omega, show apOk (X.ws.length + 1) 72 = true by rw [apOk_iff]; omega]; rfl
    have cc : catC (wC X.ws) (mulN X.ws.length 65) [wrow (j, b)] = wC (X.ws ++ [(j, b)]) := by
     rw [catC, opq_eq, mulN, opq_eq, List.take_of_length_le (by omega), wC_append]; simp [wC]
    rw [← hws, Dk.obs, e0, h.W1 hne, write2_run, branch_of hk1, branch_not hk2, branch_not c1, branch_of c2, f901, branch_of d1, f902, branch_of d2, f903, branch_of d3, branch_of d4, f905, f906, branch_of d3, branch_of a1, f907, branch_of d1, branch_of d5, f902, cc]
  ·have hX : X.wrX k b = X := by rw [Dk.wrX, if_neg (fun e => h64 e.2.2)]
   have hE : X.wrE k b.length = 41 := by rw [Dk.wrE, if_pos hk, if_neg h64]
   have c1 : ((((bR b).length : Nat) : Int) != 64) = true := by rw [bR_length]; simp; omega
   rw [hX, hE]
   cases hws : X.ws with
   | nil =>
    have e0 : X.wr = .nilsl := by rw [Dk.wr, hws]
    rcases h.W0 hws with ⟨cs, hW, _⟩ | hW
    ·rw [Dk.obs, e0, hW, write1_run, branch_of hk1, branch_not hk2, branch_of c1]
    ·rw [Dk.obs, e0, hW, write0_run, branch_of hk1, branch_not hk2, branch_of c1]
   | cons w0 ws0 =>
    have hne : X.ws ≠ [] := by rw [hws]; simp
    have e0 : X.wr = .vs 3 X.v 65 X.ws.length := by unfold Dk.wr; split <;> simp_all
    rw [Dk.obs, e0, h.W1 hne, write2_run, branch_of hk1, branch_not hk2, branch_of c1]
 ·have hX : X.wrX k b = X := by rw [Dk.wrX, if_neg (fun e => hk ⟨e.1, e.2.1⟩)]
  have hE : X.wrE k b.length = 40 := by rw [Dk.wrE, if_neg hk]
  rw [hX, hE]
  have key : ∀ {a c : Ans}, branch (.bool (decide (k ≥ 0))) (branch (.bool !decide (k < (X.n : Int))) a c) a = a := by
   intro a c
   by_cases h0 : 0 ≤ k
   ·rw [branch_of (by simpa using h0), branch_of (by simp; omega)]
   ·rw [branch_not (by simpa using h0)]
  cases hws : X.ws with
  | nil =>
   have e0 : X.wr = .nilsl := by rw [Dk.wr, hws]
   rcases h.W0 hws with ⟨cs, hW, _⟩ | hW
   ·rw [Dk.obs, e0, hW, write1_run, key]
   ·rw [Dk.obs, e0, hW, write0_run, key]
  | cons w0 ws0 =>
   have hne : X.ws ≠ [] := by rw [hws]; simp
   have e0 : X.wr = .vs 3 X.v 65 X.ws.length := by unfold Dk.wr; split <;> simp_all
   rw [Dk.obs, e0, h.W1 hne, write2_run, key]
theorem zAr_length (n : Nat) (x : AV) : (zAr n x).length = n := by rw [zAr, opq_eq, List.length_replicate]
theorem setC_length (cs : List AV) (o : Nat) (xs : List AV) : (setC cs o xs).length = cs.length := by rw [setC, opq_eq, length_setAt]
theorem rowsT_ms4 {a b c d : Ob} {cs : List AV} (h : inC cs 0 (mulN 64 1) = true) : rowsT 1 (.ms 4 1 0 64 64) ⟨[a, b, c, d, .cells cs], []⟩ = some (rowsC 1 64 cs 0) := by
 show (match inC cs 0 (mulN 64 1) with | true => some (rowsC 1 64 cs 0) | false => none) = _
 rw [h]
theorem mulN_one (n : Nat) : mulN n 1 = n := by rw [mulN, opq_eq, Nat.mul_one]
def Dk.sector (X : Dk) (k : Nat) : List Nat := (lastW X.ws k).getD ((X.ls.drop (k * 64)).take 64)
theorem Dk.Ok.sector_len {X : Dk} (h : X.Ok) {k : Nat} (hk : k < X.n) : (X.sector k).length = 64 ∧ ∀ x ∈ X.sector k, x < 256 := by
 unfold Dk.sector
 cases hl : lastW X.ws k with
 | some b =>
  have := h.ws _ (lastW_mem hl)
  exact ⟨this.2.1, this.2.2⟩
 | none =>
  refine ⟨?_, fun x hx => h.byte x (List.mem_of_mem_drop (List.mem_of_mem_take hx))⟩
  simp only [Option.getD_none, List.length_take, List.length_drop, h.len]; omega
theorem read_can {F : Nat} {X : Dk} (h : X.Ok) (k : Int) : ∃ xs, f65.run F [.ptr 2 0, .int .i64 k] ⟨X.obs, []⟩ = some (.ret (if 0 ≤ k ∧ k < X.n then .tup [.sl 1 false (bR (X.sector k.toNat)), .int .i64 0] else .tup [.nilsl, .int .i64 40]), ⟨X.obs ++ xs, []⟩) := by
 by_cases hk : 0 ≤ k ∧ k < X.n
 ·rw [if_pos hk]
  have hk1 : decide (k ≥ 0) = true := by simpa using hk.1
  have hk2 : (!decide (k < (X.n : Int))) = false := by simpa using hk.2
  obtain ⟨j, rfl⟩ := Int.eq_ofNat_of_zero_le hk.1
  have hj : j < X.n := by omega
  rw [Int.toNat_natCast]
  have d5 : (true && keysOk (.int .i64) X.es) = true := by rw [h.keys]; rfl
  have hm := h.map j
  have key : ∀ {b : List Nat} (z : List AV), b.length = 64 → z.length = 64 →
    onSome (rowsT 1 (.ms 4 1 0 64 64) ⟨[.cells (bC X.ls), .map X.es, .cells [.ms 0 64 0 X.n X.n, .mp 1, X.wr], X.W, .cells (setC z 0 (bC b))], []⟩) none (fun (o : List (List AV)) => branch (.bool (true && apOk o.length 1)) (some (.ret (.tup [.sl 1 false o, .int .i64 0]), ⟨[.cells (bC X.ls), .map X.es, .cells [.ms 0 64 0 X.n X.n, .mp 1, X.wr], X.W, .cells (setC z 0 (bC b))], []⟩)) none) =
     some (.ret (.tup [.sl 1 false (bR b), .int .i64 0]), ⟨X.obs ++ [.cells (bC b)], []⟩) := by
   intro b z h1 h2
   rw [setC_all (by rw [bC_length, h1, h2]), rowsT_ms4 (by rw [mulN_one]; exact inC_bC (by omega)), rowsC_bC (by omega), List.drop_zero, List.take_of_length_le (by omega)]
   show branch (.bool (true && apOk (bR b).length 1)) _ _ = _
   rw [branch_of (show (true && apOk (bR b).length 1) = true by rw [show apOk (bR b).length 1 = true by rw [apOk_iff, bR_length]; omega]; rfl)]
   rfl
  cases hl : lastW X.ws j with
  | some b =>
   have hb := (h.ws _ (lastW_mem hl)).2.1
   rw [hl] at hm
   have s : X.sector j = b := by rw [Dk.sector, hl]; rfl
   have m1 : hasK X.es (.int .i64 (j : Int)) = true := by rw [hasK, hm]; rfl
   have m2 : valK X.es (.int .i64 (j : Int)) = .agg (bC b) := by rw [valK, hm]; rfl
   refine ⟨[.cells (bC b)], ?_⟩
   rw [s, Dk.obs, read_run, branch_of hk1, branch_not hk2, branch_of d5, branch_of m1, m2, branch_of (show (LK.agg 64).is (.agg (bC b)) = true by show Nat.beq (bC b).length 64 = true; rw [bC_length, hb]; rfl)]
   show branch (.bool ((bC b).length.beq 64 && inC (zAr 64 (.int .u8 0)) 0 64)) (onSome (rowsT 1 (.ms 4 1 0 64 64) ⟨[.cells (bC X.ls), .map X.es, .cells [.ms 0 64 0 X.n X.n, .mp 1, X.wr], X.W, .cells (setC (zAr 64 (.int .u8 0)) 0 (bC b))], []⟩) none _) _ = _
   rw [branch_of (show ((bC b).length.beq 64 && inC (zAr 64 (.int .u8 0)) 0 64) = true by rw [bC_length, hb, show inC (zAr 64 (.int .u8 0)) 0 64 = true by rw [inC_iff, zAr_length]; omega]; rfl)]
   exact key _ hb (zAr_length _ _)
  | none =>
   rw [hl] at hm
   have hsl : ((X.ls.drop (j * 64)).take 64).length = 64 := by simp [h.len]; omega
   have s : X.sector j = (X.ls.drop (j * 64)).take 64 := by rw [Dk.sector, hl]; rfl
   have m1 : hasK X.es (.int .i64 (j : Int)) = false := by rw [hasK, hm]; rfl
   have z1 : inC (zAr 64 (.int .u8 0)) 0 64 = true := by rw [inC_iff, zAr_length]; omega
   have e1 : subC (bC X.ls) (0 + (j : Int).toNat * 64) 64 = bC ((X.ls.drop (j * 64)).take 64) := by rw [subC_bC, Nat.zero_add, Int.toNat_natCast]
   refine ⟨[.cells (bC ((X.ls.drop (j * 64)).take 64))], ?_⟩
   rw [s, Dk.obs, read_run, branch_of hk1, branch_not hk2, branch_of d5, branch_not m1, branch_of (show (true && inC (zAr 64 (.int .u8 0)) 0 64) = true by rw [z1]; rfl), if_pos hk, branch_of (show inC (bC X.ls) (0 + (j : Int).toNat * 64) 64 = true by rw [inC_iff, bC_length, h.len, Int.toNat_natCast]; omega), e1]
   generalize hz : setC (zAr 64 (.int .u8 0)) 0 _ = zz
   have hzl : zz.length = 64 := by rw [← hz, setC_length, zAr_length]
   rw [branch_of (show ((bC ((X.ls.drop (j * 64)).take 64)).length.beq 64 && inC zz 0 64) = true by rw [bC_length, hsl, show inC zz 0 64 = true by rw [inC_iff]; omega]; rfl)]
   exact key _ hsl hzl
 ·rw [if_neg hk]
  refine ⟨[], ?_⟩
  rw [List.append_nil, Dk.obs, read_run]
  by_cases h0 : 0 ≤ k
  ·rw [branch_of (by simpa using h0), branch_of (by simp; omega)]
  ·rw [branch_not (by simpa using h0)]
def app1 (ls : List Nat) (w : Nat × List Nat) : List Nat := putN ls (w.1 * 64) w.2
def appW (ls : List Nat) (ws : List (Nat × List Nat)) : List Nat := ws.foldl app1 ls
def tornL (ls : List Nat) (w : Option (Nat × List Nat)) (t : Nat) : List Nat :=
 match w with
 | some w => putN ls (w.1 * 64) (w.2.take t)
 | none => ls
def Dk.settle (X : Dk) (keep torn : Nat) : Dk := { X with ls := tornL (appW X.ls (X.ws.take keep)) X.ws[keep]? torn, ws := [], es := [] }
theorem app1_ok {n : Nat} {ls : List Nat} (hl : ls.length = n * 64) (hb : ∀ x ∈ ls, x < 256) {w : Nat × List Nat} {t : Nat} (hw : w.1 < n ∧ w.2.length = 64 ∧ ∀ x ∈ w.2, x < 256) : (putN ls (w.1 * 64) (w.2.take t)).length = n * 64 ∧ ∀ x ∈ putN ls (w.1 * 64) (w.2.take t), x < 256 := by
 refine ⟨by rw [putN_length (by rw [List.length_take]; omega), hl], fun x hx => ?_⟩
 rcases mem_putN hx with hx | hx
 ·exact hb x hx
 ·exact hw.2.2 x (List.mem_of_mem_take hx)
theorem appW_ok {n : Nat} : ∀ {ws : List (Nat × List Nat)} {ls : List Nat}, ls.length = n * 64 → (∀ x ∈ ls, x < 256) → (∀ w ∈ ws, w.1 < n ∧ w.2.length = 64 ∧ ∀ x ∈ w.2, x < 256) → (appW ls ws).length = n * 64 ∧ ∀ x ∈ appW ls ws, x < 256
 | [], ls, h1, h2, _ => ⟨h1, h2⟩
 | w :: ws, ls, h1, h2, h3 => by
  have hw := h3 w List.mem_cons_self
  have := app1_ok (t := 64) h1 h2 hw
  rw [List.take_of_length_le (by omega)] at this
  exact appW_ok (ws := ws) this.1 this.2 fun x hx => h3 x (List.mem_cons_of_mem _ hx)
theorem Dk.Ok.settle {X : Dk} (h : X.Ok) (keep torn : Nat) : (X.settle keep torn).Ok := by
 obtain ⟨a1, a2⟩ := appW_ok h.len h.byte (ws := X.ws.take keep) fun w hw => h.ws w (List.mem_of_mem_take hw)
 have b : (tornL (appW X.ls (X.ws.take keep)) X.ws[keep]? torn).length = X.n * 64 ∧ ∀ x ∈ tornL (appW X.ls (X.ws.take keep)) X.ws[keep]? torn, x < 256 := by
  cases hw : X.ws[keep]? with
  | none => exact ⟨a1, a2⟩
  | some w => exact app1_ok a1 a2 (h.ws w (List.mem_of_getElem? hw))
 refine ⟨h.n1, b.1, b.2, fun w hw => (by cases hw), rfl, fun e he => (by cases he), fun k => rfl, fun _ => ?_, fun e => absurd rfl e⟩
 show (∃ cs, X.W = _ ∧ _) ∨ X.W = _
 by_cases hws : X.ws = []
 ·exact h.W0 hws
 ·refine .inl ⟨wC X.ws, h.W1 hws, fun c hc => ?_⟩
  simp only [wC, List.mem_flatMap, wrow] at hc
  obtain ⟨w, _, hc⟩ := hc
  rcases List.mem_cons.mp hc with rfl | hc
  ·trivial
  ·simp only [bC, List.mem_map] at hc
   obtain ⟨x, _, rfl⟩ := hc
   trivial
theorem wr_ne {X : Dk} (hws : X.ws ≠ []) : X.wr = .vs 3 X.v 65 X.ws.length := by
 unfold Dk.wr; split <;> simp_all
theorem is_wrow (w : Nat × List Nat) : (LD.one (LT.int .i64)).is (List.drop 0 (wrow w)) = true := rfl
theorem hd_wrow (w : Nat × List Nat) : hdI (List.drop 0 (wrow w)) = (w.1 : Int) := rfl
theorem dr_wrow (w : Nat × List Nat) : List.drop 1 (wrow w) = bC w.2 := rfl
theorem settle_loop {F : Nat} {X : Dk} (h : X.Ok) (hws : X.ws ≠ []) (hw : X.ws.length < 1000000) (keep torn : Nat) (hk : keep ≤ X.ws.length) (K : Cont) : ∀ (d m i : Nat), i + d = keep → d < m →
  loopRun (f42_l0.run F) [0, 1, 2, 14, 15, 16] K m (Env.mk 63 [(0, .ptr 2 0), (1, .int .i64 (keep : Int)), (2, .int .i64 (torn : Int)), (14, .vs 3 X.v 65 keep), (15, .int .i64 (keep : Int)), (16, .int .i64 (i : Int))]) ⟨[.cells (bC (appW X.ls (X.ws.take i))), .map X.es, .cells [.ms 0 64 0 X.n X.n, .mp 1, .vs 3 X.v 65 X.ws.length], .vec X.v (wC X.ws)], []⟩ =
   K (.exit 0) (Env.mk 63 [(0, .ptr 2 0), (1, .int .i64 (keep : Int)), (2, .int .i64 (torn : Int))]) ⟨[.cells (bC (appW X.ls (X.ws.take keep))), .map X.es, .cells [.ms 0 64 0 X.n X.n, .mp 1, .vs 3 X.v 65 X.ws.length], .vec X.v (wC X.ws)], []⟩
 | d, 0, i, hi, hm => by omega
 | 0, m + 1, i, hi, hm => by
  obtain rfl : i = keep := by omega
  rw [show m + 1 = m.succ from rfl, settle_round, branch_not (by simp)]
 | d + 1, m + 1, i, hi, hm => by
  have h1 : i < X.ws.length := by omega
  have hwi := h.ws X.ws[i] (List.getElem_mem h1)
  have h64 : ∀ w ∈ X.ws, w.2.length = 64 := fun w hw => (h.ws w hw).2.1
  obtain ⟨a1, a2⟩ := appW_ok h.len h.byte (ws := X.ws.take i) fun w hw => h.ws w (List.mem_of_mem_take hw)
  have e1 : subC (wC X.ws) ((i : Int).toNat * 65) 65 = wrow X.ws[i] := by rw [Int.toNat_natCast]; exact wC_at h1 h64
  have e2 : subC (bC X.ws[i].2) 0 64 = bC X.ws[i].2 := by rw [subC_bC, List.drop_zero, List.take_of_length_le (by omega)]
  have w0 : IntKind.i64.wrap ((i : Int) + 1) = ((i + 1 : Nat) : Int) := wrap_succ (by omega)
  have hwl := wC_length h64
  rw [show m + 1 = m.succ from rfl, settle_round, branch_of (by simp; omega), if_pos ⟨by omega, by omega⟩, branch_of (show (X.v.beq X.v && inC (wC X.ws) ((i : Int).toNat * 65) 65) = true by rw [Nat.beq_refl, show inC (wC X.ws) ((i : Int).toNat * 65) 65 = true by rw [inC_iff, hwl, Int.toNat_natCast]; omega]; rfl), e1,
   branch_of (show (wrow X.ws[i]).length.beq 65 = true by rw [show (wrow X.ws[i]).length = 65 by simp [wrow, bC_length, hwi.2.1]]; rfl), branch_of (is_wrow _), dr_wrow, branch_of (show inC (bC X.ws[i].2) 0 64 = true from inC_bC (by omega)), hd_wrow, if_pos ⟨by omega, by omega⟩, e2, Nat.zero_add, Int.toNat_natCast,
   branch_of (show ((bC X.ws[i].2).length.beq 64 && inC (bC (appW X.ls (X.ws.take i))) (X.ws[i].1 * 64) 64) = true by rw [bC_length, hwi.2.1, show inC (bC (appW X.ls (X.ws.take i))) (X.ws[i].1 * 64) 64 = true from inC_bC (by rw [a1]; omega)]; rfl),
   setC_bC (by rw [a1, hwi.2.1]; omega), w0]
  have step : appW X.ls (X.ws.take (i + 1)) = putN (appW X.ls (X.ws.take i)) (X.ws[i].1 * 64) X.ws[i].2 := by
   rw [List.take_succ_eq_append_getElem h1, appW, List.foldl_append]; rfl
  rw [← step]
  exact settle_loop h hws hw keep torn hk K d m (i + 1) (by omega) (by omega)
theorem settle_can {F : Nat} {X : Dk} (h : X.Ok) (hw : X.ws.length < 1000000) (hF : X.ws.length < F) (keep torn : Nat) (hk : keep ≤ X.ws.length) (ht : torn ≤ 64) (K : Fin → St → Ans) :
  f42.runK F [.ptr 2 0, .int .i64 (keep : Int), .int .i64 (torn : Int)] ⟨X.obs, []⟩ K = K (.ret (.tup [])) ⟨(X.settle keep torn).obs, []⟩ := by
 by_cases hws : X.ws = []
 ·have e0 : X.wr = .nilsl := by rw [Dk.wr, hws]
  have hk0 : keep = 0 := by rw [hws] at hk; simpa using hk
  subst hk0
  obtain ⟨m, rfl⟩ : ∃ m, F = m.succ := ⟨F - 1, by omega⟩
  have e1 : (X.settle 0 torn).obs = [.cells (bC X.ls), .map [], .cells [.ms 0 64 0 X.n X.n, .mp 1, .nilsl], X.W] := by
   simp only [Dk.obs, Dk.settle, hws]; rfl
  rw [Dk.obs, e0, settle0_run, if_pos ⟨by omega, by omega⟩, settle0_round, show ((0 : Nat) : Int) = 0 from rfl, settle0_out, e1]
 ·have h64 : ∀ w ∈ X.ws, w.2.length = 64 := fun w hw => (h.ws w hw).2.1
  have hwl := wC_length h64
  obtain ⟨a1, a2⟩ := appW_ok h.len h.byte (ws := X.ws.take keep) fun w hw => h.ws w (List.mem_of_mem_take hw)
  have e1 : (X.settle keep torn).obs = [.cells (bC (tornL (appW X.ls (X.ws.take keep)) X.ws[keep]? torn)), .map [], .cells [.ms 0 64 0 X.n X.n, .mp 1, .nilsl], .vec X.v (wC X.ws)] := by
   rw [← h.W1 hws]; rfl
  have hl := settle_loop (F := F) h hws hw keep torn hk (Cont.block 0 (Cont.then (f42_r0.run F (f42.leaveK K)) (f42.leaveK K))) keep F 0 (by omega) (by omega)
  rw [Dk.obs, wr_ne hws, h.W1 hws, settle_run, if_pos ⟨by omega, by omega⟩, Int.toNat_natCast]
  refine Eq.trans hl ?_
  rw [settle_out, e1]
  by_cases hkl : keep < X.ws.length
  ·have hwi := h.ws X.ws[keep] (List.getElem_mem hkl)
   have e2 : subC (wC X.ws) ((keep : Int).toNat * 65) 65 = wrow X.ws[keep] := by rw [Int.toNat_natCast]; exact wC_at hkl h64
   have e3 : rowsC 1 ((torn : Int).toNat - 0) (bC X.ws[keep].2) 0 = bR (X.ws[keep].2.take torn) := by rw [Int.toNat_natCast, Nat.sub_zero, rowsC_bC (by omega), List.drop_zero]
   have e4 : minN (bR (X.ws[keep].2.take torn)).length 64 = torn := by rw [minN, opq_eq, bR_length, List.length_take]; omega
   have e5 : flC (bR (X.ws[keep].2.take torn)) torn = bC (X.ws[keep].2.take torn) := by rw [flC_bR, List.take_take, Nat.min_self]
   have e6 : X.ws[keep]? = some X.ws[keep] := List.getElem?_eq_getElem hkl
   rw [branch_of (by simpa using hkl), if_pos ⟨by omega, by omega⟩, branch_of (show (X.v.beq X.v && inC (wC X.ws) ((keep : Int).toNat * 65) 65) = true by rw [Nat.beq_refl, show inC (wC X.ws) ((keep : Int).toNat * 65) 65 = true by rw [inC_iff, hwl, Int.toNat_natCast]; omega]; rfl), e2,
    branch_of (show (wrow X.ws[keep]).length.beq 65 = true by rw [show (wrow X.ws[keep]).length = 65 by simp [wrow, bC_length, hwi.2.1]]; rfl), branch_of (is_wrow _), dr_wrow, hd_wrow, if_pos ⟨by omega, by omega⟩, if_pos ⟨by omega, by omega⟩, e3, e4, e5, mulN_one, mulN_one, Nat.zero_add, Nat.add_zero, Int.toNat_natCast, Int.toNat_natCast,
    branch_of (show inC (bC X.ws[keep].2) 0 (torn - 0) = true from inC_bC (by omega)), branch_of (show inC (bC (appW X.ls (X.ws.take keep))) (X.ws[keep].1 * 64) torn = true from inC_bC (by rw [a1]; omega)), setC_bC (by rw [a1, List.length_take]; omega), e6]
   rfl
  ·have e6 : X.ws[keep]? = none := List.getElem?_eq_none (by omega)
   rw [branch_not (by simpa using hkl), e6]
   rfl
theorem bC_inj : ∀ {a b : List Nat}, bC a = bC b → a = b
 | [], [], _ => rfl
 | [], _ :: _, h => by simp [bC] at h
 | _ :: _, [], h => by simp [bC] at h
 | x :: a, y :: b, h => by
  simp only [bC, List.map_cons, List.cons.injEq, AV.int.injEq, true_and] at h
  obtain ⟨h1, h2⟩ := h
  rw [bC_inj (a := a) (b := b) h2, Int.ofNat.inj h1]
theorem wC_inj : ∀ {a b : List (Nat × List Nat)}, (∀ w ∈ a, w.2.length = 64) → (∀ w ∈ b, w.2.length = 64) → wC a = wC b → a = b
 | [], [], _, _, _ => rfl
 | [], w :: _, _, _, h => by simp [wC, wrow] at h
 | w :: _, [], _, _, h => by simp [wC, wrow] at h
 | x :: a, y :: b, ha, hb, h => by
  have h1 := ha x List.mem_cons_self
  have h2 := hb y List.mem_cons_self
  simp only [wC, List.flatMap_cons] at h
  obtain ⟨h3, h4⟩ := List.append_inj h (by simp [wrow, bC_length, h1, h2])
  simp only [wrow, List.cons.injEq, AV.int.injEq, true_and] at h3
  obtain ⟨h5, h6⟩ := h3
  have := wC_inj (a := a) (b := b) (fun w hw => ha w (List.mem_cons_of_mem _ hw)) (fun w hw => hb w (List.mem_cons_of_mem _ hw)) h4
  rw [this]
  have h7 := bC_inj h6
  have h8 := Int.ofNat.inj h5
  obtain ⟨x1, x2⟩ := x
  obtain ⟨y1, y2⟩ := y
  simp at h7 h8
  rw [h7, h8]
def Dk.wrAt (X : Dk) (i : Nat) : AV :=
 match X.ws with
 | [] => .nilsl
 | _ :: _ => .vs (i + 3) X.v 65 X.ws.length
def Dk.at0 (X : Dk) : Ob := .cells (bC X.ls)
def Dk.at1 (X : Dk) : Ob := .map X.es
def Dk.at2 (X : Dk) (i : Nat) : Ob := .cells [.ms i 64 0 X.n X.n, .mp (i + 1), X.wrAt i]
theorem wrAt_nil {X : Dk} {i : Nat} (h : X.ws = []) : X.wrAt i = .nilsl := by rw [Dk.wrAt, h]
theorem wrAt_ne {X : Dk} {i : Nat} (h : X.ws ≠ []) : X.wrAt i = .vs (i + 3) X.v 65 X.ws.length := by unfold Dk.wrAt; split <;> simp_all
theorem obs_inj {X Y : Dk} (hX : X.Ok) (hY : Y.Ok) {i : Nat} (h0 : X.at0 = Y.at0) (h1 : X.at1 = Y.at1) (h2 : X.at2 i = Y.at2 i) (h3 : X.W = Y.W) : X = Y := by
 have e0 : X.ls = Y.ls := bC_inj (by simpa [Dk.at0] using h0)
 have e1 : X.es = Y.es := by simpa [Dk.at1] using h1
 simp only [Dk.at2, Ob.cells.injEq, List.cons.injEq, AV.ms.injEq, true_and, and_true] at h2
 obtain ⟨⟨e2, _⟩, e3⟩ := h2
 have e4 : X.ws = Y.ws ∧ X.v = Y.v := by
  by_cases hx : X.ws = []
  ·rw [wrAt_nil hx] at e3
   have hy : Y.ws = [] := by
    by_cases hy : Y.ws = []
    ·exact hy
    ·rw [wrAt_ne hy] at e3; cases e3
   refine ⟨by rw [hx, hy], ?_⟩
   rcases hX.W0 hx with ⟨cs, h, _⟩ | h <;> rcases hY.W0 hy with ⟨ds, k, _⟩ | k <;> rw [h, k] at h3
   ·simp only [Ob.vec.injEq] at h3; exact h3.1
   ·cases h3
   ·cases h3
   ·simp only [Ob.nov.injEq] at h3; exact h3
  ·rw [wrAt_ne hx] at e3
   have hy : Y.ws ≠ [] := by intro hy; rw [wrAt_nil hy] at e3; cases e3
   rw [wrAt_ne hy] at e3
   simp only [AV.vs.injEq] at e3
   refine ⟨?_, e3.2.1⟩
   have h5 := h3
   rw [hX.W1 hx, hY.W1 hy] at h5
   simp only [Ob.vec.injEq] at h5
   exact wC_inj (fun w hw => (hX.ws w hw).2.1) (fun w hw => (hY.ws w hw).2.1) h5.2
 obtain ⟨n, ls, ws, es, W, v⟩ := X
 obtain ⟨n', ls', ws', es', W', v'⟩ := Y
 simp only at e0 e1 e2 e4 h3
 obtain ⟨e4, e5⟩ := e4
 subst e0; subst e1; subst e2; subst e4; subst e5; subst h3
 rfl
def isD (i : Nat) (a b c d : Ob) (X : Dk) : Prop := X.Ok ∧ X.ws.length < 999999 ∧ X.at0 = a ∧ X.at1 = b ∧ X.at2 i = c ∧ X.W = d
open Classical in
noncomputable def dkG (i : Nat) (a b c d : Ob) : Option Dk := opq (if h : ∃ X, isD i a b c d X then some (Classical.choose h) else none)
theorem dkG_spec {i : Nat} {a b c d : Ob} {X : Dk} (h : dkG i a b c d = some X) : isD i a b c d X := by
 rw [dkG, opq_eq] at h
 split at h
 ·rename_i hx; cases h; exact Classical.choose_spec hx
 ·cases h
theorem dkG_of {i : Nat} {a b c d : Ob} {X : Dk} (h : isD i a b c d X) : dkG i a b c d = some X := by
 have hx : ∃ X, isD i a b c d X := ⟨X, h⟩
 rw [dkG, opq_eq, dif_pos hx]
 obtain ⟨h1, _, h2, h3, h4, h5⟩ := Classical.choose_spec hx
 obtain ⟨k1, _, k2, k3, k4, k5⟩ := h
 congr 1
 exact obs_inj (i := i) h1 k1 (h2.trans k2.symm) (h3.trans k3.symm) (h4.trans k4.symm) (h5.trans k5.symm)
theorem onSome_some {α : Type} (x : α) (n : Ans) (k : α → Ans) : onSome (some x) n k = k x := rfl
noncomputable def dk0 (X : Dk) : Ob := opq X.at0
noncomputable def dk1 (X : Dk) : Ob := opq X.at1
noncomputable def dk2 (i : Nat) (X : Dk) : Ob := opq (X.at2 i)
noncomputable def dk3 (X : Dk) : Ob := opq X.W
theorem isD_of {X : Dk} (h : X.Ok) (hw : X.ws.length < 999999) (i : Nat) : isD i (dk0 X) (dk1 X) (dk2 i X) (dk3 X) X := ⟨h, hw, by rw [dk0, opq_eq], by rw [dk1, opq_eq], by rw [dk2, opq_eq], by rw [dk3, opq_eq]⟩
noncomputable def onD (x : AV) (st : St) (k : Nat → Dk → Ans) : Ans :=
 match x with
 | .ptr j o => match Nat.beq o 0 with
  | true => match j with
   | i + 2 => match st.objs[i]? with
    | some a => match st.objs[i + 1]? with
     | some b => match st.objs[i + 2]? with
      | some c => match st.objs[i + 3]? with
       | some d => onSome (dkG i a b c d) none fun X => k i X
       | none => none
      | none => none
     | none => none
    | none => none
   | _ => none
  | false => none
 | _ => none
noncomputable def plD (st : St) (i : Nat) (X : Dk) : St := ⟨(((st.objs.set i (dk0 X)).set (i + 1) (dk1 X)).set (i + 2) (dk2 i X)).set (i + 3) (dk3 X), st.tk⟩
theorem onD_spec {x : AV} {st : St} {k : Nat → Dk → Ans} {fin : Fin × St} (h : onD x st k = some fin) : ∃ i a b c d X, x = .ptr (i + 2) 0 ∧ st.objs[i]? = some a ∧ st.objs[i + 1]? = some b ∧ st.objs[i + 2]? = some c ∧ st.objs[i + 3]? = some d ∧ isD i a b c d X ∧ k i X = some fin := by
 unfold onD at h
 split at h
 ·rename_i j o
  split at h
  ·rename_i ho
   obtain rfl := Nat.eq_of_beq_eq_true ho
   split at h
   ·rename_i i
    split at h
    ·split at h
     ·split at h
      ·split at h
       ·unfold onSome at h
        split at h
        ·cases h
        ·rename_i hd
         exact ⟨i, _, _, _, _, _, rfl, by assumption, by assumption, by assumption, by assumption, dkG_spec hd, h⟩
       ·cases h
      ·cases h
     ·cases h
    ·cases h
   ·cases h
  ·cases h
 ·cases h
theorem flat_near {n : Nat} : ∀ {cs : List AV}, (∀ c ∈ cs, Flat c) → NearL n cs
 | [], _ => trivial
 | c :: cs, h => ⟨by have := h c List.mem_cons_self; revert this; cases c <;> simp [Flat, Near], flat_near fun x hx => h x (List.mem_cons_of_mem _ hx)⟩
theorem flat_ren (ρ : Nat → Nat) : ∀ {cs : List AV}, (∀ c ∈ cs, Flat c) → renL ρ cs = cs
 | [], _ => rfl
 | c :: cs, h => by
  have h1 := h c List.mem_cons_self
  rw [renL, flat_ren ρ fun x hx => h x (List.mem_cons_of_mem _ hx)]
  revert h1
  cases c <;> simp [Flat, ren]
theorem flat_bC (b : List Nat) : ∀ c ∈ bC b, Flat c := fun c hc => by
 simp only [bC, List.mem_map] at hc
 obtain ⟨x, _, rfl⟩ := hc; trivial
theorem flat_wC (ws : List (Nat × List Nat)) : ∀ c ∈ wC ws, Flat c := fun c hc => by
 simp only [wC, List.mem_flatMap, wrow] at hc
 obtain ⟨w, _, hc⟩ := hc
 rcases List.mem_cons.mp hc with rfl | hc
 ·trivial
 ·exact flat_bC _ c hc
theorem Dk.Ok.flatW {X : Dk} (h : X.Ok) : (∃ v cs, X.W = .vec v cs ∧ ∀ c ∈ cs, Flat c) ∨ ∃ v, X.W = .nov v := by
 by_cases hws : X.ws = []
 ·rcases h.W0 hws with ⟨cs, h1, h2⟩ | h1
  ·exact .inl ⟨_, cs, h1, h2⟩
  ·exact .inr ⟨_, h1⟩
 ·exact .inl ⟨_, _, h.W1 hws, flat_wC _⟩
theorem Dk.Ok.nearW {X : Dk} (h : X.Ok) (n : Nat) : NearO n X.W := by
 rcases h.flatW with ⟨v, cs, h1, h2⟩ | ⟨v, h1⟩
 ·rw [h1]; exact flat_near h2
 ·rw [h1]; trivial
theorem Dk.Ok.renW {X : Dk} (h : X.Ok) (ρ : Nat → Nat) : renO ρ X.W = X.W := by
 rcases h.flatW with ⟨v, cs, h1, h2⟩ | ⟨v, h1⟩
 ·rw [h1]; show Ob.vec v (renL ρ cs) = _; rw [flat_ren ρ h2]
 ·rw [h1]; rfl
theorem keys_flat : ∀ {es : List (AV × AV)}, keysOk (.int .i64) es = true → ∀ e ∈ es, Flat e.1 := fun hk e he => by
 have := List.all_eq_true.mp hk e he
 simp only [keyIs] at this
 split at this
 ·rename_i h; rw [h]; trivial
 ·cases this
theorem Dk.Ok.ren1 {X : Dk} (h : X.Ok) (ρ : Nat → Nat) : renO ρ X.at1 = X.at1 := by
 show Ob.map (X.es.map fun e => (ren ρ e.1, ren ρ e.2)) = .map X.es
 congr 1
 have : ∀ e ∈ X.es, (ren ρ e.1, ren ρ e.2) = e := fun e he => by
  obtain ⟨b, hb⟩ := h.esf e he
  have h1 : ren ρ e.1 = e.1 := by have := flat_ren ρ (cs := [e.1]) (by simpa using keys_flat h.keys e he); simpa [renL] using this
  have h2 : ren ρ e.2 = e.2 := by rw [hb]; show AV.agg (renL ρ (bC b)) = _; rw [flat_ren ρ (flat_bC b)]
  rw [h1, h2]
 conv => rhs; rw [← List.map_id X.es]
 exact List.map_congr_left this
theorem Dk.Ok.near1 {X : Dk} (h : X.Ok) (n : Nat) : NearO n X.at1 := by
 refine ⟨flat_near fun c hc => ?_, ?_⟩
 ·obtain ⟨e, he, rfl⟩ := List.mem_map.mp hc
  exact keys_flat h.keys e he
 ·have : ∀ (es : List (AV × AV)), (∀ e ∈ es, ∃ b, e.2 = .agg (bC b)) → NearL n (es.map (·.2)) := by
   intro es
   induction es with
   | nil => intro _; trivial
   | cons e es ih =>
    intro hh
    obtain ⟨b, hb⟩ := hh e List.mem_cons_self
    refine ⟨?_, ih fun x hx => hh x (List.mem_cons_of_mem _ hx)⟩
    show Near n e.2
    rw [hb]; exact flat_near (flat_bC b)
  exact this X.es h.esf
def rho (i j : Nat) : Nat := i + j
def invD (i k : Nat) : Option Nat := if i ≤ k ∧ k < i + 4 then some (k - i) else none
theorem inv_rho (i : Nat) : Inv (rho i) 4 (invD i) := by
 refine ⟨fun j hj => ?_, fun k j h => ?_⟩
 ·show (if i ≤ i + j ∧ i + j < i + 4 then some (i + j - i) else none) = some j
  rw [if_pos (by omega), Nat.add_sub_cancel_left]
 ·simp only [invD] at h
  split at h
  ·cases h; exact ⟨by omega, by show i + (k - i) = k; omega⟩
  ·cases h
theorem at2_ren {X : Dk} {τ : Nat → Nat} {i : Nat} (h0 : τ 0 = i) (h1 : τ 1 = i + 1) (h3 : τ 3 = i + 3) : renO τ (.cells [.ms 0 64 0 X.n X.n, .mp 1, X.wr]) = X.at2 i := by
 have : ren τ X.wr = X.wrAt i := by
  by_cases hws : X.ws = []
  ·rw [wrAt_nil hws, show X.wr = .nilsl by rw [Dk.wr, hws]]; rfl
  ·rw [wrAt_ne hws, wr_ne hws]
   show AV.vs (τ 3) _ _ _ = _; rw [h3]
 show Ob.cells [.ms (τ 0) 64 0 X.n X.n, .mp (τ 1), ren τ X.wr] = _
 rw [this, h0, h1]; rfl
theorem at0_ren (X : Dk) (τ : Nat → Nat) : renO τ (.cells (bC X.ls)) = X.at0 := by
 show Ob.cells (renL τ (bC X.ls)) = _; rw [flat_ren τ (flat_bC _)]; rfl
theorem near2 (X : Dk) : NearO 4 (.cells [.ms 0 64 0 X.n X.n, .mp 1, X.wr]) := by
 refine ⟨by show 0 < 4; omega, by show 1 < 4; omega, ?_, trivial⟩
 unfold Dk.wr
 split
 ·trivial
 ·show 3 < 4; omega
theorem obs_near {X : Dk} (h : X.Ok) : ∀ o ∈ X.obs, NearO 4 o := by
 intro o ho
 simp only [Dk.obs, List.mem_cons, List.not_mem_nil, or_false] at ho
 rcases ho with rfl | rfl | rfl | rfl
 ·exact flat_near (flat_bC _)
 ·exact h.near1 4
 ·exact near2 X
 ·exact h.nearW 4
theorem isD_at {X : Dk} {i : Nat} {a b c d : Ob} (h : isD i a b c d X) {st : St} (h0 : st.objs[i]? = some a) (h1 : st.objs[i + 1]? = some b) (h2 : st.objs[i + 2]? = some c) (h3 : st.objs[i + 3]? = some d) : Lies st X.obs (rho i) 4 (invD i) := by
 obtain ⟨hX, _, e0, e1, e2, e3⟩ := h
 refine ⟨rfl, inv_rho i, fun j o ho => ?_, obs_near hX⟩
 match j, ho with
 | 0, ho =>
  cases ho
  rw [at0_ren, e0]; exact h0
 | 1, ho =>
  cases ho
  rw [show renO (rho i) (.map X.es) = X.at1 from hX.ren1 _, e1]; exact h1
 | 2, ho =>
  cases ho
  rw [at2_ren (τ := rho i) (i := i) rfl rfl rfl, e2]; exact h2
 | 3, ho =>
  cases ho
  rw [hX.renW, e3]; exact h3
 | j + 4, ho => simp [Dk.obs] at ho
theorem plD_length (st : St) (i : Nat) (Y : Dk) : (plD st i Y).objs.length = st.objs.length := by simp [plD]
theorem dk_placed {f : Fun Try.prog} {F : Nat} {X Y : Dk} {args0 : List AV} {r : AV} {xs : List Ob} (hrun : f.run F args0 ⟨X.obs, []⟩ = some (.ret r, ⟨Y.obs ++ xs, []⟩)) (hY : Y.Ok) (ha : NearL 4 args0) (hr : Near 4 (frz r))
  {st : St} {i : Nat} {a b c d : Ob} (hd : isD i a b c d X) (h0 : st.objs[i]? = some a) (h1 : st.objs[i + 1]? = some b) (h2 : st.objs[i + 2]? = some c) (h3 : st.objs[i + 3]? = some d) :
  CallsTo Try.prog f.id (renL (rho i) args0) st (.ret (ren (nx (rho i) 4 st.objs.length) (frz r)), plD st i Y) := by
 have hl := getElem?_lt h3
 have n4 : ∀ j, j < 4 → nx (rho i) 4 st.objs.length j = i + j := fun j hj => by rw [nx, if_pos hj]; rfl
 refine placed (f.sound hrun) (Nat.le_refl 4) (by simp [Dk.obs]) ha hr (fun j o hj ho => ?_) (isD_at hd h0 h1 h2 h3) rfl (by rw [plD_length]; omega) (fun j o hj ho => ?_) (fun k hk hi => ?_)
 ·rw [List.getElem?_append_left (by simpa [Dk.obs] using hj)] at ho
  exact obs_near hY o (List.mem_of_getElem? ho)
 ·rw [List.getElem?_append_left (by simpa [Dk.obs] using hj)] at ho
  rw [n4 j hj]
  match j, hj, ho with
  | 0, _, ho =>
   cases ho
   rw [at0_ren, plD]
   simp only [Nat.add_zero]
   rw [List.getElem?_set_ne (by omega), List.getElem?_set_ne (by omega), List.getElem?_set_ne (by omega), List.getElem?_set_self (by omega), dk0, opq_eq]
  | 1, _, ho =>
   cases ho
   rw [show renO _ (Ob.map Y.es) = Y.at1 from hY.ren1 _, plD]
   simp only
   rw [List.getElem?_set_ne (by omega), List.getElem?_set_ne (by omega), List.getElem?_set_self (by simp; omega), dk1, opq_eq]
  | 2, _, ho =>
   cases ho
   rw [at2_ren (i := i) (n4 0 (by omega)) (n4 1 (by omega)) (n4 3 (by omega)), plD]
   simp only
   rw [List.getElem?_set_ne (by omega), List.getElem?_set_self (by simp; omega), dk2, opq_eq]
  | 3, _, ho =>
   cases ho
   rw [hY.renW, plD]
   simp only
   rw [List.getElem?_set_self (by simp; omega), dk3, opq_eq]
  | j + 4, hj, _ => omega
 ·have hn : ¬ (i ≤ k ∧ k < i + 4) := by
   intro e
   simp only [invD] at hi
   rw [if_pos e] at hi; cases hi
  rw [plD]
  simp only
  rw [List.getElem?_set_ne (by omega), List.getElem?_set_ne (by omega), List.getElem?_set_ne (by omega), List.getElem?_set_ne (by omega)]
theorem calls_wk {id : FuncId} {args args' : List AV} {st : St} {fin : Fin × St} (h : CallsTo Try.prog id args' st fin) (hw : ∀ g w vs, RelAll g w args vs → RelAll g w args' vs) : CallsTo Try.prog id args st fin := fun g w vals hv hs => h g w vals (hw g w _ hv) hs
theorem wr_len {X : Dk} {k : Int} {b : List Nat} : (X.wrX k b).ws.length ≤ X.ws.length + 1 := by
 unfold Dk.wrX; split
 ·simp [Dk.put]
 ·omega
theorem Dk.Ok.wrX {X : Dk} (h : X.Ok) {k : Int} {b : List Nat} (hx : ∀ x ∈ b, x < 256) : (X.wrX k b).Ok := by
 unfold Dk.wrX; split
 ·rename_i hc; exact h.put (by omega) hc.2.2 hx
 ·exact h
noncomputable def s56 : OrcS Try.prog := f56.by'
 (fun args st k => match args with
  | [x, n, y] => onD x st fun i X => onInt n fun kd n => ifT (decide (kd = .i64)) (onNs 1 y fun _ l => ifT (byOk l) (k (.ret (.int .i64 (X.wrE n l.length))) (plD st i (X.wrX n (nR l)))))
  | _ => none)
 fun args st k fin h => by
  split at h
  ·rename_i x n y
   obtain ⟨i, a, b, c, d, X, rfl, h0, h1, h2, h3, hd, g901⟩ := onD_spec h
   obtain ⟨kd, n, g902, rfl⟩ := onInt_spec g901
   obtain ⟨hk, g903⟩ := ifT_spec g902
   obtain rfl := of_decide_eq_true hk
   obtain ⟨z, l, g904, hy⟩ := onNs_spec g903
   obtain ⟨hl, g905⟩ := ifT_spec g904
   have hok := byOk_iff.mp hl
   have hrun := write_can (F := 0) hd.1 hd.2.1 z l hl n
   have := dk_placed (f := f56) (r := .int .i64 (X.wrE n l.length)) (args0 := [.ptr 2 0, .int .i64 n, .ns z 1 l]) (xs := []) (by rw [List.append_nil]; exact hrun) (hd.1.wrX fun x hx => okR_lt hok.1 hx) ⟨by show 2 < 4; omega, trivial, okR_scoped hok.1, trivial⟩ trivial hd h0 h1 h2 h3
   refine ⟨_, _, g905, calls_wk this fun g w vs ⟨v1, r901, e1, k1, v2, r902, e2, k2, v3, r903, e3, k3, k4⟩ => ⟨v1, r901, e1, k1, v2, r902, e2, k2, v3, r903, e3, hy g w v3 k3, k4⟩⟩
  ·cases h
theorem calls_wkR {id : FuncId} {args : List AV} {st st' : St} {r r' : AV} (h : CallsTo Try.prog id args st (.ret r, st')) (hw : ∀ g w v, Rel g w r v → Rel g w r' v) : CallsTo Try.prog id args st (.ret r', st') := by
 intro g w vals hv hs
 refine (h g w vals hv hs).mono fun e w' ⟨g', k1, k2, k3⟩ => ?_
 obtain ⟨v, rfl, hv'⟩ := k1
 exact ⟨g', ⟨v, rfl, hw _ _ _ hv'⟩, k2, k3⟩
noncomputable def s42 : OrcS Try.prog := f42.by'
 (fun args st k => match args with
  | [x, n, y] => onD x st fun i X => onInt n fun kd n => onInt y fun kd' t => ifT (decide (kd = .i64) && (decide (kd' = .i64) && (decide (0 ≤ n ∧ n ≤ X.ws.length) && decide (0 ≤ t ∧ t ≤ 64)))) (k (.ret (.tup [])) (plD st i (X.settle n.toNat t.toNat)))
  | _ => none)
 fun args st k fin h => by
  split at h
  ·rename_i x n y
   obtain ⟨i, a, b, c, d, X, rfl, h0, h1, h2, h3, hd, g901⟩ := onD_spec h
   obtain ⟨kd, n, g902, rfl⟩ := onInt_spec g901
   obtain ⟨kd', t, g903, rfl⟩ := onInt_spec g902
   obtain ⟨hk, g904⟩ := ifT_spec g903
   simp only [Bool.and_eq_true, decide_eq_true_eq] at hk
   obtain ⟨rfl, rfl, ⟨n0, n1⟩, t0, t1⟩ := hk
   obtain ⟨n, rfl⟩ := Int.eq_ofNat_of_zero_le n0
   obtain ⟨t, rfl⟩ := Int.eq_ofNat_of_zero_le t0
   have hrun := settle_can (F := 1000000) hd.1 (by have := hd.2.1; omega) (by have := hd.2.1; omega) n t (by omega) (by omega) Fun.done
   have := dk_placed (f := f42) (F := 1000000) (r := .tup []) (args0 := [.ptr 2 0, .int .i64 (n : Int), .int .i64 (t : Int)]) (xs := []) (by rw [List.append_nil]; exact hrun) (hd.1.settle n t) ⟨by show 2 < 4; omega, trivial, trivial, trivial⟩ trivial hd h0 h1 h2 h3
   exact ⟨_, _, g904, this⟩
  ·cases h
def Dk.inD (X : Dk) (k : Int) : Bool := decide (0 ≤ k ∧ k < X.n)
def Dk.rdB (X : Dk) (k : Int) : List Nat := bif X.inD k then X.sector k.toNat else []
def Dk.rdE (X : Dk) (k : Int) : Int := bif X.inD k then 0 else 40
theorem same_plD {st : St} {i : Nat} {X : Dk} {a b c d : Ob} (hd : isD i a b c d X) (h0 : st.objs[i]? = some a) (h1 : st.objs[i + 1]? = some b) (h2 : st.objs[i + 2]? = some c) (h3 : st.objs[i + 3]? = some d) : plD st i X = st := by
 obtain ⟨_, _, e0, e1, e2, e3⟩ := hd
 have key : ∀ (l : List Ob) (j : Nat) (o : Ob), l[j]? = some o → l.set j o = l := by
  intro l j o h
  apply List.ext_getElem?
  intro m
  rw [List.getElem?_set]
  split
  ·rename_i e; subst e; rw [if_pos (getElem?_lt h), h]
  ·rfl
 rw [plD, dk0, opq_eq, dk1, opq_eq, dk2, opq_eq, dk3, opq_eq, e0, e1, e2, e3, key _ _ _ h0, key _ _ _ h1, key _ _ _ h2, key _ _ _ h3]
theorem image_loop {F : Nat} {X : Dk} (h : X.Ok) : ∀ (d m i v : Nat), i + d = X.n → d < m → ∃ v',
  loopRun (f19_l0.run F) [3, 16, 17, 18] (Cont.block 0 (Cont.then (f19_r0.run F (f19.leaveK Fun.done)) (f19.leaveK Fun.done))) m (Env.mk 27 [(3, .vs 4 v 1 (i * 64)), (16, .ms 0 64 0 X.n X.n), (17, .int .i64 (X.n : Int)), (18, .int .i64 (i : Int))]) ⟨[.cells (bC X.ls), .map X.es, .cells [.ms 0 64 0 X.n X.n, .mp 1, X.wr], X.W, .vec v (bC (X.ls.take (i * 64)))], []⟩ =
   some (.ret (.ns false 1 (bR X.ls)), ⟨X.obs ++ [.nov v'], []⟩)
 | d, 0, i, v, hi, hm => by omega
 | 0, m + 1, i, v, hi, hm => by
  obtain rfl : i = X.n := by omega
  have e1 : X.ls.take (X.n * 64) = X.ls := List.take_of_length_le (by rw [h.len]; exact Nat.le_refl _)
  refine ⟨v + 1, ?_⟩
  rw [show m + 1 = m.succ from rfl, image_round, branch_not (by simp), image_out, e1, mulN_one, branch_of (show (v.beq v && inC (bC X.ls) 0 (X.n * 64)) = true by rw [Nat.beq_refl, show inC (bC X.ls) 0 (X.n * 64) = true from inC_bC (by rw [h.len]; omega)]; rfl), rowsC_bC (by rw [h.len]; omega), List.drop_zero, e1]
  rfl
 | d + 1, m + 1, i, v, hi, hm => by
  have h1 : i < X.n := by omega
  have hn := h.n1
  have hsl : ((X.ls.drop (i * 64)).take 64).length = 64 := by simp [h.len]; omega
  have e1 : subC (bC X.ls) (0 + (i : Int).toNat * 64) 64 = bC ((X.ls.drop (i * 64)).take 64) := by rw [subC_bC, Nat.zero_add, Int.toNat_natCast]
  have e2 : rowsC 1 64 (bC ((X.ls.drop (i * 64)).take 64)) 0 = bR ((X.ls.drop (i * 64)).take 64) := by rw [rowsC_bC (by omega), List.drop_zero, List.take_of_length_le (by omega)]
  have e3 : catC (bC (X.ls.take (i * 64))) (i * 64) (bR ((X.ls.drop (i * 64)).take 64)) = bC (X.ls.take ((i + 1) * 64)) := by
   rw [catC, opq_eq, bR_flat, bC_take, List.take_take, Nat.min_self, ← bC_append, Nat.add_mul, Nat.one_mul, List.take_add]
  have w0 : IntKind.i64.wrap ((i : Int) + 1) = ((i + 1 : Nat) : Int) := wrap_succ (by omega)
  obtain ⟨v', ih⟩ := image_loop h d m (i + 1) (v + 1) (by omega) (by omega)
  refine ⟨v', ?_⟩
  rw [show m + 1 = m.succ from rfl, image_round, branch_of (by simp; omega), if_pos ⟨by omega, by omega⟩, branch_of (show inC (bC X.ls) (0 + (i : Int).toNat * 64) 64 = true by rw [inC_iff, bC_length, h.len, Int.toNat_natCast]; omega), e1,
   branch_of (show (bC ((X.ls.drop (i * 64)).take 64)).length.beq 64 = true by rw [bC_length, hsl]; rfl), mulN_one, mulN_one, branch_of (show inC (bC ((X.ls.drop (i * 64)).take 64)) 0 64 = true from inC_bC (by omega)), e2, bR_length, hsl,
   branch_of (show (v.beq v && (inC (bC (X.ls.take (i * 64))) 0 (i * 64) && apOk (i * 64 + 64) 1)) = true by rw [Nat.beq_refl, show inC (bC (X.ls.take (i * 64))) 0 (i * 64) = true from inC_bC (by rw [List.length_take, h.len]; omega), show apOk (i * 64 + 64) 1 = true by rw [apOk_iff]; omega]; rfl), e3, w0, show i * 64 + 64 = (i + 1) * 64 by omega]
  exact ih
theorem image_can {X : Dk} (h : X.Ok) : ∃ v, f19.run (X.n + 1) [.ptr 2 0] ⟨X.obs, []⟩ = some (.ret (.ns false 1 (bR X.ls)), ⟨X.obs ++ [.nov v], []⟩) := by
 have hn := h.n1
 obtain ⟨v, hl⟩ := image_loop (F := X.n + 1) h X.n (X.n + 1) 0 0 (by omega) (by omega)
 refine ⟨v, ?_⟩
 have hw : IntKind.i64.wrap ((X.n : Int) * 64) = (X.n : Int) * 64 := wrapS (by omega) (by omega)
 rw [Dk.obs, image_run, hw, branch_of (show (true && amakeG.mkOkC 1 ((X.n : Int) * 64)) = true by simp [amakeG.mkOkC]; omega)]
 rw [Nat.zero_mul, List.take_zero] at hl
 exact hl
noncomputable def s19 : OrcS Try.prog := f19.by'
 (fun args st k => match args with
  | [x] => onD x st fun i X => k (.ret (.ns false 1 (bR X.ls))) st
  | _ => none)
 fun args st k fin h => by
  split at h
  ·rename_i x
   obtain ⟨i, a, b, c, d, X, rfl, h0, h1, h2, h3, hd, g901⟩ := onD_spec h
   obtain ⟨v, hrun⟩ := image_can hd.1
   have := dk_placed (f := f19) (r := .ns false 1 (bR X.ls)) (args0 := [.ptr 2 0]) hrun hd.1 ⟨by show 2 < 4; omega, trivial⟩ (bR_scoped _) hd h0 h1 h2 h3
   rw [same_plD hd h0 h1 h2 h3] at this
   exact ⟨_, _, g901, this⟩
  ·cases h
def imgAt (n : Nat) (img : List Nat) (i : Nat) : List Nat := img.take (i * 64) ++ List.replicate (n * 64 - (img.take (i * 64)).length) 0
theorem imgAt_length {n i : Nat} {img : List Nat} (h : i ≤ n) : (imgAt n img i).length = n * 64 := by
 rw [imgAt, List.length_append, List.length_replicate, List.length_take]; omega
theorem putN_app (A Z r : List Nat) : putN (A ++ Z) A.length r = A ++ r ++ Z.drop r.length := by
 rw [putN, List.take_left, ← List.drop_drop, List.drop_left]
theorem imgAt_succ {n i : Nat} {img : List Nat} (h : i < n) : putN (imgAt n img i) (i * 64) ((img.drop (i * 64)).take (min (img.drop (i * 64)).length 64)) = imgAt n img (i + 1) := by
 by_cases hl : i * 64 ≤ img.length
 ·have h1 : (img.take (i * 64)).length = i * 64 := by rw [List.length_take]; omega
  have e1 : (img.drop (i * 64)).take (min (img.drop (i * 64)).length 64) = (img.drop (i * 64)).take 64 := by
   rcases Nat.le_total (img.drop (i * 64)).length 64 with h' | h'
   ·rw [Nat.min_eq_left h', List.take_of_length_le (Nat.le_refl _), List.take_of_length_le h']
   ·rw [Nat.min_eq_right h']
  have e2 : img.take ((i + 1) * 64) = img.take (i * 64) ++ (img.drop (i * 64)).take 64 := by rw [Nat.add_mul, Nat.one_mul, List.take_add]
  rw [e1]
  generalize hr : (img.drop (i * 64)).take 64 = r at e2
  have h2 : r.length ≤ 64 := by rw [← hr, List.length_take]; omega
  rw [imgAt, imgAt, e2]
  generalize img.take (i * 64) = A at h1 ⊢
  rw [show i * 64 = A.length from h1.symm, putN_app, List.length_append, List.append_assoc, List.append_assoc, List.drop_replicate]
  congr 3
  omega
 ·have h1 : img.drop (i * 64) = [] := List.drop_eq_nil_of_le (by omega)
  rw [h1, List.take_nil, putN_nil, imgAt, imgAt, List.take_of_length_le (by omega), List.take_of_length_le (by omega)]
theorem zer64 (n : Nat) : zerC n (bC (List.replicate 64 0)) = bC (List.replicate (n * 64) 0) := by
 rw [zerC, opq_eq]
 induction n with
 | zero => rfl
 | succ n ih => rw [List.replicate_succ, List.flatten_cons, ih, ← bC_append, List.replicate_append_replicate]; congr 2; omega
theorem load_loop {F : Nat} {n : Nat} (hn : n ≤ 65536) (img : List Nat) (hi : img.length < 4611686018427387904) (z : Bool) : ∀ (d m i : Nat), i + d = n → d < m →
  loopRun (f22_l0.run F) [0, 6, 24, 25] (Cont.block 0 (Cont.then (f22_r0.run F (f22.leaveK Fun.done)) (f22.leaveK Fun.done))) m (Env.mk 42 [(0, .ns z 1 (bR (img.drop (i * 64)))), (6, .ptr 2 0), (24, .int .i64 (n : Int)), (25, .int .i64 (i : Int))]) ⟨[.cells (bC (imgAt n img i)), .map [], .cells [.ms 0 64 0 n n, .mp 1, .nilsl], .nov 0], []⟩ =
   some (.ret (.tup [.ptr 2 0, .int .i64 0]), ⟨[.cells (bC (imgAt n img n)), .map [], .cells [.ms 0 64 0 n n, .mp 1, .nilsl], .nov 0], []⟩)
 | d, 0, i, h, hm => by omega
 | 0, m + 1, i, h, hm => by
  obtain rfl : i = n := by omega
  rw [show m + 1 = m.succ from rfl, load_round, branch_not (by simp), load_out F fun _ _ _ => none]
 | d + 1, m + 1, i, h, hm => by
  have h1 : i < n := by omega
  have ih := load_loop (F := F) hn img hi z d m (i + 1) (by omega) (by omega)
  have hs := imgAt_succ (img := img) h1
  have hil := imgAt_length (img := img) (Nat.le_of_lt h1)
  have e3 : ∀ k : Nat, k = min (img.drop (i * 64)).length 64 → List.drop k (List.take (bR (img.drop (i * 64))).length (bR (img.drop (i * 64)))) = bR (img.drop ((i + 1) * 64)) := by
   intro k hk
   rw [List.take_of_length_le (Nat.le_refl _), bR_drop, List.drop_drop]
   congr 1
   rw [List.length_drop] at hk
   rcases Nat.le_total (img.length - i * 64) 64 with h' | h'
   ·rw [List.drop_eq_nil_of_le (by omega), List.drop_eq_nil_of_le (by omega)]
   ·congr 1; omega
  have hml : min (img.drop (i * 64)).length 64 ≤ 64 := Nat.min_le_right _ _
  have hml2 : min (img.drop (i * 64)).length 64 ≤ (img.drop (i * 64)).length := Nat.min_le_left _ _
  have w0 : IntKind.i64.wrap ((i : Int) + 1) = ((i + 1 : Nat) : Int) := wrap_succ (by omega)
  rw [show m + 1 = m.succ from rfl, load_round, branch_of (by simp; omega), if_pos ⟨by omega, by omega⟩, minN, opq_eq, mulN_one]
  rw [e3 _ (by rw [Int.toNat_natCast, bR_length]), bR_length]
  generalize hk : min (img.drop (i * 64)).length 64 = k at *
  rw [show 0 + (i : Int).toNat * 64 + 0 = i * 64 by rw [Int.toNat_natCast]; omega, branch_of (show inC (bC (imgAt n img i)) (i * 64) k = true by rw [inC_iff, bC_length, hil]; omega), if_pos ⟨by omega, by omega⟩, flC_bR, setC_bC (by rw [hil, List.length_take]; omega), hs, w0]
  exact ih
def Dk.new (n : Nat) (img : List Nat) : Dk := ⟨n, imgAt n img n, [], [], .nov 0, 0⟩
theorem new_ok {n : Nat} {img : List Nat} (hn : n ≤ 65536) (hi : ∀ x ∈ img, x < 256) : (Dk.new n img).Ok where
 n1 := hn
 len := imgAt_length (Nat.le_refl _)
 byte := fun x hx => by
  rcases List.mem_append.mp hx with hx | hx
  ·exact hi x (List.mem_of_mem_take hx)
  ·rw [List.eq_of_mem_replicate hx]; omega
 ws := fun w hw => by cases hw
 keys := rfl
 esf := fun e he => by cases he
 map := fun k => rfl
 W0 := fun _ => .inr rfl
 W1 := fun e => absurd rfl e
theorem load_can (z : Bool) (l : List (List AV)) (hl : byOk l = true) (n : Nat) (h1 : 1 ≤ n) (hn : n ≤ 65536) : f22.run (n + 1) [.ns z 1 l, .int .i64 (n : Int)] ⟨[], []⟩ = some (.ret (.tup [.ptr 2 0, .int .i64 0]), ⟨(Dk.new n (nR l)).obs, []⟩) := by
 have hok := byOk_iff.mp hl
 rw [load_run, branch_not (by simp; omega), branch_not (by simp; omega), branch_of (by rw [mkOk_iff]; omega), Int.toNat_natCast]
 have := load_loop (F := n + 1) hn (nR l) (by rw [nR_length]; exact hok.2) z n (n + 1) 0 (by omega) (by omega)
 rw [Nat.zero_mul, List.drop_zero, ← okR_rows hok.1] at this
 have e : imgAt n (nR l) 0 = List.replicate (n * 64) 0 := by simp [imgAt]
 rw [e, ← zer64] at this
 exact this
theorem load_bad {F : Nat} (z : Bool) (l : List (List AV)) (n : Int) (h : ¬ (1 ≤ n ∧ n ≤ 65536)) : f22.run F [.ns z 1 l, .int .i64 n] ⟨[], []⟩ = some (.ret (.tup [.nilptr, .int .i64 41]), ⟨[], []⟩) := by
 rw [load_run]
 by_cases h0 : n < 1
 ·rw [branch_of (by simpa using h0)]
 ·rw [branch_not (by simpa using h0), branch_of (by simp; omega)]
noncomputable def addD (st : St) (X : Dk) : St := ⟨st.objs ++ [dk0 X, dk1 X, dk2 st.objs.length X, dk3 X], st.tk⟩
theorem dk_new {f : Fun Try.prog} {F : Nat} {X : Dk} {args0 : List AV} {r : AV} (hrun : f.run F args0 ⟨[], []⟩ = some (.ret r, ⟨X.obs, []⟩)) (hX : X.Ok) (ha : NearL 0 args0) (hr : Near 4 (frz r)) (st : St) :
  CallsTo Try.prog f.id (renL (fun _ => 0) args0) st (.ret (ren (nx (fun _ => 0) 0 st.objs.length) (frz r)), addD st X) := by
 have n4 : ∀ j, nx (fun _ => 0) 0 st.objs.length j = st.objs.length + j := fun j => by rw [nx, if_neg (by omega)]; omega
 refine placed (f.sound hrun) (Nat.zero_le 4) (by simp [Dk.obs]) ha hr (fun j o hj ho => obs_near hX o (List.mem_of_getElem? ho)) (inv := fun _ => none) ⟨rfl, ⟨fun i hi => (by omega), fun k i h => (by cases h)⟩, fun i o h => (by simp at h), fun o h => (by simp at h)⟩ rfl (by simp [addD]) (fun j o hj ho => ?_) (fun k hk hi => ?_)
 ·rw [n4 j, addD]
  simp only
  rw [List.getElem?_append_right (by omega), Nat.add_sub_cancel_left]
  match j, hj, ho with
  | 0, _, ho => cases ho; rw [at0_ren]; simp [dk0, opq_eq]
  | 1, _, ho => cases ho; rw [show renO _ (Ob.map X.es) = X.at1 from hX.ren1 _]; simp [dk1, opq_eq]
  | 2, _, ho => cases ho; rw [at2_ren (i := st.objs.length) (n4 0) (n4 1) (n4 3)]; simp [dk2, opq_eq]
  | 3, _, ho => cases ho; rw [hX.renW]; simp [dk3, opq_eq]
  | j + 4, hj, _ => omega
 ·rw [addD]
  simp only
  rw [List.getElem?_append_left hk]
noncomputable def s22 : OrcS Try.prog := f22.by'
 (fun args st k => match args with
  | [y, n] => onNs 1 y fun _ l => onInt n fun kd n => ifT (byOk l && decide (kd = .i64)) (match decide (1 ≤ n) && decide (n ≤ 65536) with
   | true => k (.ret (.tup [.ptr (st.objs.length + 2) 0, .int .i64 0])) (addD st (Dk.new n.toNat (nR l)))
   | false => k (.ret (.tup [.nilptr, .int .i64 41])) st)
  | _ => none)
 fun args st k fin h => by
  split at h
  ·rename_i y n
   obtain ⟨z, l, g901, hy⟩ := onNs_spec h
   obtain ⟨kd, n, g902, rfl⟩ := onInt_spec g901
   obtain ⟨hk, g903⟩ := ifT_spec g902
   rw [Bool.and_eq_true, decide_eq_true_eq] at hk
   obtain ⟨hl, rfl⟩ := hk
   have hok := byOk_iff.mp hl
   have wk : ∀ g w vs, RelAll g w [y, .int .i64 n] vs → RelAll g w [.ns z 1 l, .int .i64 n] vs := fun g w vs ⟨v1, r901, e1, k1, k2⟩ => ⟨v1, r901, e1, hy g w v1 k1, k2⟩
   split at g903
   ·rename_i hc
    simp only [Bool.and_eq_true, decide_eq_true_eq] at hc
    obtain ⟨m, rfl⟩ := Int.eq_ofNat_of_zero_le (show 0 ≤ n by omega)
    rw [Int.toNat_natCast] at g903
    have := dk_new (f := f22) (r := .tup [.ptr 2 0, .int .i64 0]) (args0 := [.ns z 1 l, .int .i64 (m : Int)]) (load_can z l hl m (by omega) (by omega)) (new_ok (by omega) fun x hx => okR_lt hok.1 hx) ⟨okR_scoped hok.1, trivial, trivial⟩ ⟨by show 2 < 4; omega, trivial, trivial⟩ st
    exact ⟨_, _, g903, calls_wk this wk⟩
   ·rename_i hc
    have hbad : ¬ (1 ≤ n ∧ n ≤ 65536) := by
     intro e
     rw [decide_eq_true e.1, decide_eq_true e.2] at hc
     cases hc
    have := framed (f22.sound (load_bad (F := 0) z l n hbad)) ⟨okR_scoped hok.1, trivial, trivial⟩ ⟨trivial, trivial, trivial⟩ st
    exact ⟨_, _, g903, calls_wk this wk⟩
  ·cases h
noncomputable def f14_b : Sim Try.prog :=
 (.live [] (.region 0 [
 ⟨(opMove (some 6) (.tmp 0) 25 "disk.go:89" #[]).op, none⟩,
 ⟨(opMove (some 7) (.tmp 1) 3 "disk.go:89" #[]).op, none⟩,
 ⟨(opMinMax (some 8) true (.tmp 7) [(.const (Value.int IntKind.i64 0))] #[3, 3] 3 "disk.go:89" #[eD 1]).op, none⟩,
 ⟨(opMove (some 9) (.tmp 0) 25 "disk.go:89" #[]).op, none⟩,
 ⟨(opNilCheck (some 10) (.tmp 9) 0 "disk.go:89" #[eD 3]).op, none⟩,
 ⟨(opFieldAddr (some 11) 79 (.tmp 10) 2 2 1 false fl79_2 (by decide) 0 "disk.go:89" #[eD 4]).op, none⟩,
 ⟨(opLoadT (.one .any) (some 12) 77 (.tmp 11) (.slice 104) Try.underlying77 1 sz77 (by kernel_rfl) 77 "disk.go:89" #[eD 5]).op, none⟩,
 ⟨(opLen (some 13) (.tmp 12) 77 (.slice 104) Try.underlying77 3 "disk.go:89" #[eD 6]).op, none⟩,
 ⟨(opMinMax (some 14) false (.tmp 8) [(.tmp 13)] #[3, 3] 3 "disk.go:89" #[eD 2, eD 7]).op, none⟩,
 ⟨(opMove (some 15) (.tmp 2) 3 "disk.go:89" #[]).op, none⟩,
 ⟨(opMinMax (some 16) true (.tmp 15) [(.const (Value.int IntKind.i64 0))] #[3, 3] 3 "disk.go:89" #[eD 9]).op, none⟩,
 ⟨(opMinMax (some 17) false (.tmp 16) [(.const (Value.int IntKind.i64 64))] #[3, 3] 3 "disk.go:89" #[eD 10]).op, none⟩,
 ⟨opCall (s42).orc (some 18) [(.tmp 6), (.tmp 14), (.tmp 17)] #[25, 3, 3] 0 "disk.go:89" #[eD 0, eD 8, eD 11], none⟩
 ] (by kernel_rfl)))
noncomputable def f14 : Fun Try.prog where
 id := 14
 fn := Try.f14
 hf := Try.func14
 hname := by kernel_rfl
 body := f14_b
 hbody := by kernel_rfl
 res := []
 hres := by kernel_rfl
 n := 19
 hn := by kernel_rfl
noncomputable def f41_b : Sim Try.prog :=
 (.live [] (.region 0 [
 ⟨(opMove (some 2) (.tmp 0) 25 "disk.go:85" #[]).op, none⟩,
 ⟨(opMove (some 3) (.tmp 0) 25 "disk.go:85" #[]).op, none⟩,
 ⟨(opNilCheck (some 4) (.tmp 3) 0 "disk.go:85" #[eD 1]).op, none⟩,
 ⟨(opFieldAddr (some 5) 79 (.tmp 4) 2 2 1 false fl79_2 (by decide) 0 "disk.go:85" #[eD 2]).op, none⟩,
 ⟨(opLoadT (.one .any) (some 6) 77 (.tmp 5) (.slice 104) Try.underlying77 1 sz77 (by kernel_rfl) 77 "disk.go:85" #[eD 3]).op, none⟩,
 ⟨(opLen (some 7) (.tmp 6) 77 (.slice 104) Try.underlying77 3 "disk.go:85" #[eD 4]).op, none⟩,
 ⟨opCall (s42).orc (some 8) [(.tmp 2), (.tmp 7), (.const (Value.int IntKind.i64 0))] #[25, 3, 3] 0 "disk.go:85" #[eD 0, eD 5], none⟩
 ] (by kernel_rfl)))
noncomputable def f41 : Fun Try.prog where
 id := 41
 fn := Try.f41
 hf := Try.func41
 hname := by kernel_rfl
 body := f41_b
 hbody := by kernel_rfl
 res := []
 hres := by kernel_rfl
 n := 9
 hn := by kernel_rfl
noncomputable def f10_b : Sim Try.prog :=
 (.seq (.live [0] (.region 0 [
 ⟨(opAssign (some 2) (.const (Value.pointer none)) 25 "disk.go:27" #[]).op, none⟩,
 ⟨(opAssign (some 3) (.const (Value.int IntKind.i64 0)) 26 "disk.go:27" #[eC 0]).op, none⟩
 ] (by kernel_rfl)))
 (.seq (.live [2, 3] (.region 1 [
 ⟨(opMove (some 4) (.tmp 0) 3 "disk.go:27" #[]).op, none⟩,
 ⟨opCall (s22).orc (some 5) [(.const (Value.slice none 0 0)), (.tmp 4)] #[33, 3] 27 "disk.go:27" #[eD 0], none⟩,
 ⟨(opExtract (some 6) (.tmp 5) 0 25 "disk.go:27" #[eD 1]).op, none⟩,
 ⟨(opExtract (some 7) (.tmp 5) 1 26 "disk.go:27" #[eD 1]).op, none⟩,
 ⟨(opAssign (some 2) (.tmp 6) 25 "disk.go:27" #[eD 2, eC 1, eP 0, eP 1, eP 2, eP 3]).op, none⟩,
 ⟨(opAssign (some 3) (.tmp 7) 26 "disk.go:27" #[eD 3, eC 4, eP 0, eP 1, eP 2, eP 3, eP 4]).op, none⟩
 ] (by kernel_rfl)))
 (.live [2, 3] .ret)))
noncomputable def f10 : Fun Try.prog where
 id := 10
 fn := Try.f10
 hf := Try.func10
 hname := by kernel_rfl
 body := f10_b
 hbody := by kernel_rfl
 res := [rTmp 2, rTmp 3]
 hres := by kernel_rfl
 n := 8
 hn := by kernel_rfl
theorem crash0_run (F N : Nat) (keep torn : Int) (ls : List AV) (es : List (AV × AV)) (W : Ob) :
 (f14.run F [.ptr 2 0, .int .i64 keep, .int .i64 torn] ⟨[.cells ls, .map es, .cells [.ms 0 64 0 N N, .mp 1, .nilsl], W], []⟩ : Ans) =
 onSome
 (dkG 0 (Ob.cells ls) (Ob.map es)
 (Ob.cells [AV.ms 0 64 0 N N, AV.mp 1, AV.nilsl]) W)
 none fun (o : Dk) =>
 branch
 (AV.bool
 (true &&
 (true &&
 (decide
 ((0 : Int) ≤ leastI false (leastI true keep (0 : Int)) (0 : Int) ∧
 leastI false (leastI true keep (0 : Int)) (0 : Int) ≤ (↑o.3.length : Int)) &&
 decide
 ((0 : Int) ≤ leastI false (leastI true torn (0 : Int)) (64 : Int) ∧
 leastI false (leastI true torn (0 : Int)) (64 : Int) ≤ 64)))))
 (some
 (Fin.ret (AV.tup []),
 St.mk
 [dk0
 (o.settle (leastI false (leastI true keep (0 : Int)) (0 : Int)).toNat
 (leastI false (leastI true torn (0 : Int)) (64 : Int)).toNat),
 dk1
 (o.settle (leastI false (leastI true keep (0 : Int)) (0 : Int)).toNat
 (leastI false (leastI true torn (0 : Int)) (64 : Int)).toNat),
 dk2 0
 (o.settle (leastI false (leastI true keep (0 : Int)) (0 : Int)).toNat
 (leastI false (leastI true torn (0 : Int)) (64 : Int)).toNat),
 dk3
 (o.settle (leastI false (leastI true keep (0 : Int)) (0 : Int)).toNat
 (leastI false (leastI true torn (0 : Int)) (64 : Int)).toNat)]
 []))
 none := by kernel_rfl
theorem crash_run (F N v n : Nat) (keep torn : Int) (ls : List AV) (es : List (AV × AV)) (W : Ob) :
 (f14.run F [.ptr 2 0, .int .i64 keep, .int .i64 torn] ⟨[.cells ls, .map es, .cells [.ms 0 64 0 N N, .mp 1, .vs 3 v 65 n], W], []⟩ : Ans) =
 onSome
 (dkG 0 (Ob.cells ls) (Ob.map es)
 (Ob.cells [AV.ms 0 64 0 N N, AV.mp 1, AV.vs 3 v 65 n]) W)
 none fun (o : Dk) =>
 branch
 (AV.bool
 (true &&
 (true &&
 (decide
 ((0 : Int) ≤ leastI false (leastI true keep (0 : Int)) (↑n : Int) ∧
 leastI false (leastI true keep (0 : Int)) (↑n : Int) ≤ (↑o.3.length : Int)) &&
 decide
 ((0 : Int) ≤ leastI false (leastI true torn (0 : Int)) (64 : Int) ∧
 leastI false (leastI true torn (0 : Int)) (64 : Int) ≤ 64)))))
 (some
 (Fin.ret (AV.tup []),
 St.mk
 [dk0
 (o.settle (leastI false (leastI true keep (0 : Int)) (↑n : Int)).toNat
 (leastI false (leastI true torn (0 : Int)) (64 : Int)).toNat),
 dk1
 (o.settle (leastI false (leastI true keep (0 : Int)) (↑n : Int)).toNat
 (leastI false (leastI true torn (0 : Int)) (64 : Int)).toNat),
 dk2 0
 (o.settle (leastI false (leastI true keep (0 : Int)) (↑n : Int)).toNat
 (leastI false (leastI true torn (0 : Int)) (64 : Int)).toNat),
 dk3
 (o.settle (leastI false (leastI true keep (0 : Int)) (↑n : Int)).toNat
 (leastI false (leastI true torn (0 : Int)) (64 : Int)).toNat)]
 []))
 none := by kernel_rfl
theorem flush0_run (F N : Nat) (ls : List AV) (es : List (AV × AV)) (W : Ob) :
 (f41.run F [.ptr 2 0] ⟨[.cells ls, .map es, .cells [.ms 0 64 0 N N, .mp 1, .nilsl], W], []⟩ : Ans) =
 onSome
 (dkG 0 (Ob.cells ls) (Ob.map es)
 (Ob.cells [AV.ms 0 64 0 N N, AV.mp 1, AV.nilsl]) W)
 none fun (o : Dk) =>
 some
 (Fin.ret (AV.tup []),
 St.mk
 [dk0 (o.settle 0 0), dk1 (o.settle 0 0),
 dk2 0 (o.settle 0 0), dk3 (o.settle 0 0)]
 []) := by kernel_rfl
theorem flush_run (F N v n : Nat) (ls : List AV) (es : List (AV × AV)) (W : Ob) :
 (f41.run F [.ptr 2 0] ⟨[.cells ls, .map es, .cells [.ms 0 64 0 N N, .mp 1, .vs 3 v 65 n], W], []⟩ : Ans) =
 onSome
 (dkG 0 (Ob.cells ls) (Ob.map es)
 (Ob.cells [AV.ms 0 64 0 N N, AV.mp 1, AV.vs 3 v 65 n]) W)
 none fun (o : Dk) =>
 branch (.bool (true && (true && (decide ((0 : Int) ≤ (↑n : Int) ∧ (↑n : Int) ≤ (↑o.3.length : Int)) && true))))
 (some
 (Fin.ret (AV.tup []),
 St.mk
 [dk0 (o.settle n 0), dk1 (o.settle n 0), dk2 0 (o.settle n 0),
 dk3 (o.settle n 0)]
 []))
 none := by kernel_rfl
theorem wr_at0 (Y : Dk) : Y.wrAt 0 = Y.wr := by
 by_cases hws : Y.ws = []
 ·rw [wrAt_nil hws, Dk.wr, hws]
 ·rw [wrAt_ne hws, wr_ne hws]
theorem obs_dk (Y : Dk) : [dk0 Y, dk1 Y, dk2 0 Y, dk3 Y] = Y.obs := by
 have := wr_at0 Y
 rw [dk0, opq_eq, dk1, opq_eq, dk2, opq_eq, dk3, opq_eq, Dk.at2, this]; rfl
theorem isD_obs {X : Dk} (h : X.Ok) (hw : X.ws.length < 999999) {wr : AV} (e : X.wr = wr) : isD 0 (.cells (bC X.ls)) (.map X.es) (.cells [.ms 0 64 0 X.n X.n, .mp 1, wr]) X.W X := by
 have := wr_at0 X
 refine ⟨h, hw, rfl, rfl, ?_, rfl⟩
 rw [Dk.at2, this, e]
def clip (k m : Int) : Int := leastI false (leastI true k 0) m
theorem clip_eq (k m : Int) (hm : 0 ≤ m) : clip k m = if k ≤ 0 then 0 else if k ≤ m then k else m := by
 simp only [clip, leastI]
 split <;> split <;> simp_all <;> omega
theorem clip_ok (k m : Int) (hm : 0 ≤ m) : 0 ≤ clip k m ∧ clip k m ≤ m := by
 rw [clip_eq k m hm]; split
 ·omega
 ·split <;> omega
def Dk.crash (X : Dk) (k t : Int) : Dk := X.settle (clip k X.ws.length).toNat (clip t 64).toNat
theorem crash_can {F : Nat} {X : Dk} (h : X.Ok) (hw : X.ws.length < 999999) (k t : Int) : f14.run F [.ptr 2 0, .int .i64 k, .int .i64 t] ⟨X.obs, []⟩ = some (.ret (.tup []), ⟨(X.crash k t).obs, []⟩) := by
 obtain ⟨k1, k2⟩ := clip_ok k X.ws.length (by omega)
 obtain ⟨t1, t2⟩ := clip_ok t 64 (by omega)
 by_cases hws : X.ws = []
 ·have e0 : X.wr = .nilsl := by rw [Dk.wr, hws]
  have hd := isD_obs h hw e0
  have hv : dkG (nat_lit 0) (.cells (bC X.ls)) (.map X.es) (.cells [.ms 0 64 0 X.n X.n, .mp 1, .nilsl]) X.W = some X := dkG_of hd
  have hl : X.ws.length = 0 := by rw [hws]; rfl
  rw [Dk.obs, e0, crash0_run, hv, onSome_some, obs_dk, Dk.crash]
  rw [hl] at k1 k2 ⊢
  exact branch_of (by
   show (true && (true && (decide (0 ≤ clip k 0 ∧ clip k 0 ≤ ((0 : Nat) : Int)) && decide (0 ≤ clip t 64 ∧ clip t 64 ≤ 64)))) = true
   simp only [Bool.true_and, Bool.and_eq_true, decide_eq_true_eq]
   exact ⟨⟨k1, k2⟩, t1, t2⟩)
 ·have e0 := wr_ne hws
  have hd := isD_obs h hw e0
  have hv : dkG (nat_lit 0) (.cells (bC X.ls)) (.map X.es) (.cells [.ms 0 64 0 X.n X.n, .mp 1, .vs 3 X.v 65 X.ws.length]) X.W = some X := dkG_of hd
  rw [Dk.obs, e0, crash_run, hv, onSome_some, obs_dk, Dk.crash]
  exact branch_of (by
   show (true && (true && (decide (0 ≤ clip k X.ws.length ∧ clip k X.ws.length ≤ (X.ws.length : Int)) && decide (0 ≤ clip t 64 ∧ clip t 64 ≤ 64)))) = true
   simp only [Bool.true_and, Bool.and_eq_true, decide_eq_true_eq]
   exact ⟨⟨k1, k2⟩, t1, t2⟩)
def Dk.flush (X : Dk) : Dk := X.settle X.ws.length 0
theorem flush_can {F : Nat} {X : Dk} (h : X.Ok) (hw : X.ws.length < 999999) : f41.run F [.ptr 2 0] ⟨X.obs, []⟩ = some (.ret (.tup []), ⟨X.flush.obs, []⟩) := by
 by_cases hws : X.ws = []
 ·have e0 : X.wr = .nilsl := by rw [Dk.wr, hws]
  have hd := isD_obs h hw e0
  have hv : dkG (nat_lit 0) (.cells (bC X.ls)) (.map X.es) (.cells [.ms 0 64 0 X.n X.n, .mp 1, .nilsl]) X.W = some X := dkG_of hd
  have hl : X.ws.length = 0 := by rw [hws]; rfl
  rw [Dk.obs, e0, flush0_run, hv, onSome_some, obs_dk, Dk.flush, hl]
 ·have e0 := wr_ne hws
  have hd := isD_obs h hw e0
  have hv : dkG (nat_lit 0) (.cells (bC X.ls)) (.map X.es) (.cells [.ms 0 64 0 X.n X.n, .mp 1, .vs 3 X.v 65 X.ws.length]) X.W = some X := dkG_of hd
  rw [Dk.obs, e0, flush_run, hv, onSome_some, obs_dk, Dk.flush]
  exact branch_of (by simp)
noncomputable def s14 : OrcS Try.prog := f14.by'
 (fun args st k => match args with
  | [x, n, y] => onD x st fun i X => onInt n fun kd n => onInt y fun kd' t => ifT (decide (kd = .i64) && decide (kd' = .i64)) (k (.ret (.tup [])) (plD st i (X.crash n t)))
  | _ => none)
 fun args st k fin h => by
  split at h
  ·rename_i x n y
   obtain ⟨i, a, b, c, d, X, rfl, h0, h1, h2, h3, hd, g901⟩ := onD_spec h
   obtain ⟨kd, n, g902, rfl⟩ := onInt_spec g901
   obtain ⟨kd', t, g903, rfl⟩ := onInt_spec g902
   obtain ⟨hk, g904⟩ := ifT_spec g903
   simp only [Bool.and_eq_true, decide_eq_true_eq] at hk
   obtain ⟨rfl, rfl⟩ := hk
   have hrun := crash_can (F := 0) hd.1 hd.2.1 n t
   have := dk_placed (f := f14) (F := 0) (r := .tup []) (args0 := [.ptr 2 0, .int .i64 n, .int .i64 t]) (xs := []) (by rw [List.append_nil]; exact hrun) (hd.1.settle _ _) ⟨by show 2 < 4; omega, trivial, trivial, trivial⟩ trivial hd h0 h1 h2 h3
   exact ⟨_, _, g904, this⟩
  ·cases h
noncomputable def s41 : OrcS Try.prog := f41.by'
 (fun args st k => match args with
  | [x] => onD x st fun i X => k (.ret (.tup [])) (plD st i X.flush)
  | _ => none)
 fun args st k fin h => by
  split at h
  ·rename_i x
   obtain ⟨i, a, b, c, d, X, rfl, h0, h1, h2, h3, hd, g901⟩ := onD_spec h
   have hrun := flush_can (F := 0) hd.1 hd.2.1
   have := dk_placed (f := f41) (F := 0) (r := .tup []) (args0 := [.ptr 2 0]) (xs := []) (by rw [List.append_nil]; exact hrun) (hd.1.settle _ _) ⟨by show 2 < 4; omega, trivial⟩ trivial hd h0 h1 h2 h3
   exact ⟨_, _, g901, this⟩
  ·cases h
theorem same_loop (F : Nat) (z y : Bool) (l r : List (List AV)) (hl : byOk l = true) (hr : byOk r = true) (hlen : l.length = r.length) (st : St) : ∀ (k n i : Nat), l.length - i = k → i ≤ l.length → k < n →
  loopRun (f17_l0.run F) [0, 1, 5] (Cont.block 0 (Cont.then (f17_r0.run F (f17.leaveK Fun.done)) (f17.leaveK Fun.done))) n (Env.mk 26 [(0, .ns z 1 l), (1, .ns y 1 r), (5, .int .i64 (i : Int))]) st
   = some (.ret (.bool ((nR l).drop i == (nR r).drop i)), st)
 | k, 0, i, hk, hi, hn => by omega
 | 0, n + 1, i, hk, hi, hn => by
  rw [show n + 1 = n.succ from rfl, same_round, branch_not (by simp; omega), same_out]
  rw [List.drop_eq_nil_of_le (by rw [nR_length]; omega), List.drop_eq_nil_of_le (by rw [nR_length]; omega)]
  rfl
 | k + 1, n + 1, i, hk, hi, hn => by
  rw [byOk_iff] at hl hr
  have h1 : i < l.length := by omega
  have h2 : i < r.length := by omega
  obtain ⟨l1, l2⟩ := okR_at hl.1 h1
  obtain ⟨r901, r902⟩ := okR_at hr.1 h2
  rw [show n + 1 = n.succ from rfl, same_round, branch_of (by simp; omega), branch_of (inR_nat h1), branch_of l1, branch_of (inR_nat h2), branch_of r901, l2, r902]
  rw [beq_drop (by rw [nR_length]; exact h1) (by rw [nR_length]; exact h2)]
  by_cases hb : (nR l)[i]'(by rw [nR_length]; exact h1) = (nR r)[i]'(by rw [nR_length]; exact h2)
  ·rw [branch_not (by rw [hb]; simp), wrap_succ (by omega), same_loop F z y l r (byOk_iff.mpr hl) (byOk_iff.mpr hr) hlen st k n (i + 1) (by omega) (by omega) (by omega), hb]
   simp
  ·rw [branch_of (by simpa using fun e => hb (Int.ofNat.inj e)), same_ret]
   simp [hb]
theorem same_all (z y : Bool) (l r : List (List AV)) (hl : byOk l = true) (hr : byOk r = true) (st : St) : f17.run (l.length + 1) [.ns z 1 l, .ns y 1 r] st = some (.ret (.bool (nR l == nR r)), st) := by
 rw [same_run]
 by_cases h : l.length = r.length
 ·rw [branch_not (by simp [h])]
  exact same_loop _ z y l r hl hr h st l.length _ 0 (by omega) (by omega) (by omega)
 ·rw [branch_of (by simp; omega)]
  have : (nR l == nR r) = false := by
   simp only [beq_eq_false_iff_ne, ne_eq]
   intro e
   exact h (by rw [← nR_length l, ← nR_length r, e])
  rw [this]
noncomputable def p17 : POrc Try.prog := f17.farN
 (fun args k => match args with
  | [x, y] => onNs 1 x fun _ l => onNs 1 y fun _ r => ifT (byOk l && byOk r) (k (.bool (nR l == nR r)))
  | _ => none)
 fun args k fin h => by
  split at h
  ·rename_i x y
   obtain ⟨z, l, h, hx⟩ := onNs_spec h
   obtain ⟨z', r, h, hy⟩ := onNs_spec h
   obtain ⟨h1, h⟩ := ifT_spec h
   simp only [Bool.and_eq_true] at h1
   exact ⟨_, _, h, .cons hx (.cons hy .nil), ⟨okR_scoped (byOk_iff.mp h1.1).1, okR_scoped (byOk_iff.mp h1.2).1, trivial⟩, trivial, _, .bool _, ⟨[], []⟩, rfl, same_all z z' l r h1.1 h1.2 _⟩
  ·cases h
theorem p17_nat : p17.Nat := by
 intro args k
 show (match args with | [x, y] => _ | _ => _) = thenA (match args with | [x, y] => _ | _ => _) k
 split
 ·exact onNs_nat fun _ _ => onNs_nat fun _ _ => ifT_nat rfl
 ·rfl
theorem onD_th {x : AV} {st : St} {s s' : Nat → Dk → Ans} {k : Fin → St → Ans} (h : ∀ i X, s i X = thS (s' i X) k) : onD x st s = thS (onD x st s') k := by
 unfold onD
 split
 ·split
  ·split
   ·split
    ·split
     ·split
      ·split
       ·unfold onSome
        split
        ·rfl
        ·exact h _ _
       ·rfl
      ·rfl
     ·rfl
    ·rfl
   ·rfl
  ·rfl
 ·rfl
theorem s56_nat : s56.NatS := by
 intro args st k
 show s56.sem args st k = thS (s56.sem args st (fun r st' => some (r, st'))) k
 simp only [s56, Fun.by']
 split
 ·exact onD_th fun i X => onInt_th fun kd n => ifT_th (onNs_th fun z l => ifT_th rfl)
 ·rfl
theorem sz33 : (Try.prog.info? 33).map (·.size) = some 1 := by kernel_rfl
noncomputable def f55_l0 : Sim Try.prog :=
 (.seq (.live [0, 1, 5, 7, 8] (.region 3 [
 ⟨(opBin (some 8) .lss 3 (.tmp 7) (.const (Value.int IntKind.i64 4)) 3 4 "wal.go:27" #[]).op, none⟩
 ] (by kernel_rfl)))
 (.seq (.cond (.tmp 8)
 .skip
 (.live [5] (.exit 0)))
 (.seq (.block 1 (.seq (.live [0, 1, 5, 6, 7] (.region 4 [
 ⟨(opMove (some 9) (.tmp 7) 3 "wal.go:27" #[]).op, none⟩,
 ⟨(opAssign (some 6) (.tmp 9) 3 "wal.go:27" #[eD 0, eP 0]).op, none⟩
 ] (by kernel_rfl)))
 (.live [0, 1, 5, 7] (.region 5 [
 ⟨(opMove (some 10) (.tmp 5) 3 "wal.go:28" #[]).op, none⟩,
 ⟨(opMove (some 11) (.tmp 0) 81 "wal.go:28" #[]).op, none⟩,
 ⟨(opMove (some 12) (.tmp 1) 3 "wal.go:28" #[]).op, none⟩,
 ⟨(opMove (some 13) (.tmp 6) 3 "wal.go:28" #[]).op, none⟩,
 ⟨(opBin (some 14) .add 3 (.tmp 12) (.tmp 13) 3 3 "wal.go:28" #[eD 2, eD 3]).op, none⟩,
 ⟨(opIndexAddrT (some 15) 81 (.tmp 11) (.tmp 14) 5 1 Try.underlying81 sz5 0 "wal.go:28" #[eD 1, eD 4]).op, none⟩,
 ⟨(opLoadT (.one (.int .u8)) (some 16) 5 (.tmp 15) (.int .u8) Try.underlying5 1 sz5 (by kernel_rfl) 5 "wal.go:28" #[eD 5]).op, none⟩,
 ⟨(opConvInt (some 17) 5 3 (.tmp 16) (.int .u8) Try.underlying5 .i64 Try.underlying3 3 "wal.go:28" #[eD 6]).op, none⟩,
 ⟨(opMove (some 18) (.tmp 6) 3 "wal.go:28" #[]).op, none⟩,
 ⟨(opBin (some 19) .mul 3 (.const (Value.int IntKind.i64 8)) (.tmp 18) 3 3 "wal.go:28" #[eD 8]).op, none⟩,
 ⟨(opBin (some 20) .shl 3 (.tmp 17) (.tmp 19) 3 3 "wal.go:28" #[eD 7, eD 9]).op, none⟩,
 ⟨(opBin (some 21) .or 3 (.tmp 10) (.tmp 20) 3 3 "wal.go:28" #[eD 0, eD 10]).op, none⟩,
 ⟨(opAssign (some 5) (.tmp 21) 3 "wal.go:28" #[eD 11, eP 0, eP 1, eP 2, eP 3, eP 4, eP 5, eP 6, eP 7, eP 8, eP 9, eP 10, eP 11]).op, none⟩
 ] (by kernel_rfl)))))
 (.live [0, 1, 5, 7] (.region 6 [
 ⟨(opBin (some 22) .add 3 (.tmp 7) (.const (Value.int IntKind.i64 1)) 3 3 "wal.go:27" #[]).op, none⟩,
 ⟨(opMove (some 7) (.tmp 22) 3 "wal.go:27" #[eD 0]).op, none⟩
 ] (by kernel_rfl))))))
noncomputable def f55_r0 : Sim Try.prog :=
 (.seq (.live [4] (.region 7 [
 ⟨(opMove (some 23) (.tmp 5) 3 "wal.go:30" #[]).op, none⟩,
 ⟨(opAssign (some 4) (.tmp 23) 3 "wal.go:30" #[eD 0, eP 0]).op, none⟩
 ] (by kernel_rfl)))
 (.live [4] .ret))
noncomputable def f55_b : Sim Try.prog :=
 (.seq (.live [0, 1] (.region 0 [
 ⟨(opAssign (some 4) (.const (Value.int IntKind.i64 0)) 3 "wal.go:25" #[]).op, none⟩
 ] (by kernel_rfl)))
 (.seq (.live [0, 1, 5] (.region 1 [
 ⟨(opAssign (some 5) (.const (Value.int IntKind.i64 0)) 3 "wal.go:26" #[]).op, none⟩
 ] (by kernel_rfl)))
 (.seq (.seq (.live [0, 1, 5, 7] (.region 2 [
 ⟨(opMove (some 7) (.const (Value.int IntKind.i64 0)) 3 "wal.go:27" #[]).op, none⟩
 ] (by kernel_rfl)))
 (.block 0 (.loop [0, 1, 5, 7] f55_l0)))
 f55_r0)))
noncomputable def f55 : Fun Try.prog where
 id := 55
 fn := Try.f55
 hf := Try.func55
 hname := by kernel_rfl
 body := f55_b
 hbody := by kernel_rfl
 res := [rTmp 4]
 hres := by kernel_rfl
 n := 24
 hn := by kernel_rfl
noncomputable def f39_b : Sim Try.prog :=
 (.seq (.live [0] (.region 0 [
 ⟨(opAssign (some 2) (.const (Value.int IntKind.i64 0)) 3 "wal.go:132" #[]).op, none⟩
 ] (by kernel_rfl)))
 (.seq (.live [2] (.region 1 [
 ⟨(opMove (some 3) (.tmp 0) 3 "wal.go:132" #[]).op, none⟩,
 ⟨(opBin (some 4) .add 3 (.const (Value.int IntKind.i64 2)) (.tmp 3) 3 3 "wal.go:132" #[eD 0]).op, none⟩,
 ⟨(opBin (some 5) .add 3 (.tmp 4) (.const (Value.int IntKind.i64 56)) 3 3 "wal.go:132" #[eD 1]).op, none⟩,
 ⟨(opBin (some 6) .sub 3 (.tmp 5) (.const (Value.int IntKind.i64 1)) 3 3 "wal.go:132" #[eD 2]).op, none⟩,
 ⟨(opBin (some 7) .quo 3 (.tmp 6) (.const (Value.int IntKind.i64 56)) 3 3 "wal.go:132" #[eD 3]).op, none⟩,
 ⟨(opAssign (some 2) (.tmp 7) 3 "wal.go:132" #[eD 4, eP 0, eP 1, eP 2, eP 3, eP 4]).op, none⟩
 ] (by kernel_rfl)))
 (.live [2] .ret)))
noncomputable def f39 : Fun Try.prog where
 id := 39
 fn := Try.f39
 hf := Try.func39
 hname := by kernel_rfl
 body := f39_b
 hbody := by kernel_rfl
 res := [rTmp 2]
 hres := by kernel_rfl
 n := 8
 hn := by kernel_rfl
noncomputable def f9_l0 : Sim Try.prog :=
 (.seq (.seq (.live [0, 1, 5, 6, 21] (.region 5 [
 ⟨(opMove (some 13) (.tmp 6) 3 "ref.go:54" #[]).op, none⟩,
 ⟨(opMove (some 14) (.tmp 0) 22 "ref.go:54" #[]).op, none⟩,
 ⟨(opLen (some 15) (.tmp 14) 22 (.slice 33) Try.underlying22 3 "ref.go:54" #[eD 1]).op, none⟩,
 ⟨(opBin (some 16) .lss 3 (.tmp 13) (.tmp 15) 3 4 "ref.go:54" #[eD 0, eD 2]).op, none⟩,
 ⟨(opMove (some 17) (.tmp 16) 4 "ref.go:54" #[eD 3]).op, none⟩,
 ⟨(opMove (some 18) (.tmp 5) 3 "ref.go:54" #[eG 4]).op, (some (4, 17, true))⟩,
 ⟨(opMove (some 19) (.tmp 1) 3 "ref.go:54" #[eG 4]).op, (some (4, 17, true))⟩,
 ⟨(opBin (some 20) .leq 3 (.tmp 18) (.tmp 19) 3 4 "ref.go:54" #[eD 5, eD 6, eG 4]).op, (some (4, 17, true))⟩,
 ⟨(opPick (some 21) (.tmp 17) (.tmp 20) (.const (Value.bool false)) 4 "ref.go:54" #[eD 4, eD 7]).op, none⟩
 ] (by kernel_rfl)))
 (.cond (.tmp 21)
 .skip
 (.live [5] (.exit 0))))
 (.seq (.block 1 (.live [0, 1, 5, 6] (.region 7 [
 ⟨(opMove (some 24) (.tmp 5) 3 "ref.go:55" #[]).op, none⟩,
 ⟨(opMove (some 25) (.tmp 0) 22 "ref.go:55" #[]).op, none⟩,
 ⟨(opMove (some 26) (.tmp 6) 3 "ref.go:55" #[]).op, none⟩,
 ⟨(opIndexAddrT (some 27) 22 (.tmp 25) (.tmp 26) 33 1 Try.underlying22 sz33 0 "ref.go:55" #[eD 1, eD 2]).op, none⟩,
 ⟨(opLoadT (.one (.ns 1)) (some 28) 33 (.tmp 27) (.slice 5) Try.underlying33 1 sz33 (by kernel_rfl) 33 "ref.go:55" #[eD 3]).op, none⟩,
 ⟨(opLen (some 29) (.tmp 28) 33 (.slice 5) Try.underlying33 3 "ref.go:55" #[eD 4]).op, none⟩,
 ⟨(opBin (some 30) .add 3 (.const (Value.int IntKind.i64 1)) (.tmp 29) 3 3 "ref.go:55" #[eD 5]).op, none⟩,
 ⟨(opBin (some 31) .add 3 (.tmp 24) (.tmp 30) 3 3 "ref.go:55" #[eD 0, eD 6]).op, none⟩,
 ⟨(opAssign (some 5) (.tmp 31) 3 "ref.go:55" #[eD 7, eP 0, eP 1, eP 2, eP 3, eP 4, eP 5, eP 6, eP 7]).op, none⟩
 ] (by kernel_rfl))))
 (.live [0, 1, 5, 6] (.region 6 [
 ⟨(opMove (some 22) (.tmp 6) 3 "ref.go:54" #[]).op, none⟩,
 ⟨(opBin (some 23) .add 3 (.tmp 22) (.const (Value.int IntKind.i64 1)) 3 3 "ref.go:54" #[eD 0]).op, none⟩,
 ⟨(opAssign (some 6) (.tmp 23) 3 "ref.go:54" #[eD 1, eP 0, eP 1]).op, none⟩
 ] (by kernel_rfl)))))
noncomputable def f9_r0 : Sim Try.prog :=
 (.seq (.live [4] (.region 8 [
 ⟨(opMove (some 32) (.tmp 5) 3 "ref.go:57" #[]).op, none⟩,
 ⟨(opAssign (some 4) (.tmp 32) 3 "ref.go:57" #[eD 0, eP 0]).op, none⟩
 ] (by kernel_rfl)))
 (.live [4] .ret))
noncomputable def f9_b : Sim Try.prog :=
 (.seq (.live [0, 1] (.region 0 [
 ⟨(opAssign (some 4) (.const (Value.int IntKind.i64 0)) 3 "ref.go:49" #[]).op, none⟩
 ] (by kernel_rfl)))
 (.seq (.seq (.live [0, 1, 10] (.region 1 [
 ⟨(opMove (some 7) (.tmp 0) 22 "ref.go:50" #[]).op, none⟩,
 ⟨(opLen (some 8) (.tmp 7) 22 (.slice 33) Try.underlying22 3 "ref.go:50" #[eD 0]).op, none⟩,
 ⟨(opMove (some 9) (.tmp 1) 3 "ref.go:50" #[]).op, none⟩,
 ⟨(opBin (some 10) .gtr 3 (.tmp 8) (.tmp 9) 3 4 "ref.go:50" #[eD 1, eD 2]).op, none⟩
 ] (by kernel_rfl)))
 (.cond (.tmp 10)
 (.seq (.live [4] (.region 2 [
 ⟨(opMove (some 11) (.tmp 1) 3 "ref.go:51" #[]).op, none⟩,
 ⟨(opBin (some 12) .add 3 (.tmp 11) (.const (Value.int IntKind.i64 1)) 3 3 "ref.go:51" #[eD 0]).op, none⟩,
 ⟨(opAssign (some 4) (.tmp 12) 3 "ref.go:51" #[eD 1, eP 0, eP 1]).op, none⟩
 ] (by kernel_rfl)))
 (.live [4] .ret))
 .skip))
 (.seq (.live [0, 1, 5] (.region 3 [
 ⟨(opAssign (some 5) (.const (Value.int IntKind.i64 0)) 3 "ref.go:53" #[]).op, none⟩
 ] (by kernel_rfl)))
 (.seq (.seq (.live [0, 1, 5, 6] (.region 4 [
 ⟨(opAssign (some 6) (.const (Value.int IntKind.i64 0)) 3 "ref.go:54" #[]).op, none⟩
 ] (by kernel_rfl)))
 (.block 0 (.loop [0, 1, 5, 6] f9_l0)))
 f9_r0))))
noncomputable def f9 : Fun Try.prog where
 id := 9
 fn := Try.f9
 hf := Try.func9
 hname := by kernel_rfl
 body := f9_b
 hbody := by kernel_rfl
 res := [rTmp 4]
 hres := by kernel_rfl
 n := 33
 hn := by kernel_rfl
theorem num_run (F : Nat) (z : Bool) (l : List (List AV)) (n : Int) (st : St) :
 (f55.run 10 [.ns z 1 l, .int .i64 n] st : Ans) =
 branch (.bool (inR l (IntKind.i64.wrap (n + 0))))
 (branch (.bool ((LD.one (LT.int IntKind.u8)).is (V.rowAt l (IntKind.i64.wrap (n + 0)))))
 (branch (.bool (inR l (IntKind.i64.wrap (n + 1))))
 (branch (.bool ((LD.one (LT.int IntKind.u8)).is (V.rowAt l (IntKind.i64.wrap (n + 1)))))
 (branch (.bool (inR l (IntKind.i64.wrap (n + 2))))
 (branch (.bool ((LD.one (LT.int IntKind.u8)).is (V.rowAt l (IntKind.i64.wrap (n + 2)))))
 (branch (.bool (inR l (IntKind.i64.wrap (n + 3))))
 (branch (.bool ((LD.one (LT.int IntKind.u8)).is (V.rowAt l (IntKind.i64.wrap (n + 3)))))
 (some
 (Fin.ret
 (AV.int IntKind.i64
 (bitsI BinOp.or IntKind.i64
 (bitsI BinOp.or IntKind.i64
 (bitsI BinOp.or IntKind.i64
 (bitsI BinOp.or IntKind.i64 (0 : Int)
 (IntKind.i64.wrap
 (IntKind.i64.wrap (hdI (V.rowAt l (IntKind.i64.wrap (n + 0)))) * (1 : Int))))
 (IntKind.i64.wrap
 (IntKind.i64.wrap (hdI (V.rowAt l (IntKind.i64.wrap (n + 1)))) * (256 : Int))))
 (IntKind.i64.wrap
 (IntKind.i64.wrap (hdI (V.rowAt l (IntKind.i64.wrap (n + 2)))) * (65536 : Int))))
 (IntKind.i64.wrap
 (IntKind.i64.wrap (hdI (V.rowAt l (IntKind.i64.wrap (n + 3)))) *
 (16777216 : Int))))),
 st))
 none)
 none)
 none)
 none)
 none)
 none)
 none)
 none := by kernel_rfl
theorem pieces_run (F : Nat) (n : Int) (st : St) :
 (f39.run F [.int .i64 n] st : Ans) =
 some
 (Fin.ret
 (AV.int IntKind.i64
 (IntKind.i64.wrap
 ((IntKind.i64.wrap (IntKind.i64.wrap (IntKind.i64.wrap ((2 : Int) + n) + 56) - 1)).tdiv
 (56 : Int)))),
 st) := by kernel_rfl
end Go.Proofs.Ytnhdjhcpbjggmaa.V
namespace Go.V
theorem ofIntNat {w : Nat} {x : Nat} (h : x < 2 ^ w) : (BitVec.ofInt w (x : Int)).toNat = x := by
 rw [BitVec.toNat_ofInt]
 have : ((x : Int) % ((2 ^ w : Nat) : Int)) = (x : Int) := Int.emod_eq_of_lt (by omega) (by exact_mod_cast h)
 rw [this]; rfl
theorem or_above {u d i : Nat} (h : u < 2 ^ i) : u ||| d * 2 ^ i = u + d * 2 ^ i := by
 rw [Nat.or_comm, Nat.mul_comm, ← Nat.two_pow_add_eq_or_of_lt h, Nat.add_comm]
end Go.V
namespace Go.Proofs.Ytnhdjhcpbjggmaa.V
open Go Go.V Go.RowKit
theorem bitsOrS {x y : Nat} (hx : x < 2 ^ 62) (hy : y < 2 ^ 62) : bitsI .or .i64 (x : Int) (y : Int) = ((x ||| y : Nat) : Int) := by
 have h1 : x < 2 ^ IntKind.i64.bits := by show x < 2 ^ 64; omega
 have h2 : y < 2 ^ IntKind.i64.bits := by show y < 2 ^ 64; omega
 simp only [bitsI, BitVec.toNat_or, ofIntNat h1, ofIntNat h2]
 have := Nat.or_lt_two_pow hx hy
 exact wrap_nat (i := x ||| y) (by omega)
theorem orAb {u d i : Nat} (h : u < 2 ^ i) (hu : u < 2 ^ 62) (hd : d * 2 ^ i < 2 ^ 62) : bitsI .or .i64 (u : Int) ((d * 2 ^ i : Nat) : Int) = ((u + d * 2 ^ i : Nat) : Int) := by
 rw [bitsOrS hu hd, or_above h]
def num4 (a b c d : Nat) : Nat := a + 256 * b + 65536 * c + 16777216 * d
theorem num4_lt {a b c d : Nat} (ha : a < 256) (hb : b < 256) (hc : c < 256) (hd : d < 256) : num4 a b c d < 4294967296 := by unfold num4; omega
theorem num4_or {a b c d : Nat} (ha : a < 256) (hb : b < 256) (hc : c < 256) (hd : d < 256) :
  bitsI .or .i64 (bitsI .or .i64 (bitsI .or .i64 (bitsI .or .i64 0 (IntKind.i64.wrap (IntKind.i64.wrap (a : Int) * 1))) (IntKind.i64.wrap (IntKind.i64.wrap (b : Int) * 256))) (IntKind.i64.wrap (IntKind.i64.wrap (c : Int) * 65536))) (IntKind.i64.wrap (IntKind.i64.wrap (d : Int) * 16777216)) = ((num4 a b c d : Nat) : Int) := by
 rw [wrap_nat (i := a) (by omega), wrap_nat (i := b) (by omega), wrap_nat (i := c) (by omega), wrap_nat (i := d) (by omega)]
 rw [show ((a : Int) * 1) = ((a * 2 ^ 0 : Nat) : Int) by omega, show ((b : Int) * 256) = ((b * 2 ^ 8 : Nat) : Int) by omega, show ((c : Int) * 65536) = ((c * 2 ^ 16 : Nat) : Int) by omega, show ((d : Int) * 16777216) = ((d * 2 ^ 24 : Nat) : Int) by omega]
 rw [wrap_nat (i := a * 2 ^ 0) (by omega), wrap_nat (i := b * 2 ^ 8) (by omega), wrap_nat (i := c * 2 ^ 16) (by omega), wrap_nat (i := d * 2 ^ 24) (by omega)]
 rw [show (0 : Int) = ((0 : Nat) : Int) from rfl, orAb (by omega) (by omega) (by omega), orAb (by omega) (by omega) (by omega), orAb (by omega) (by omega) (by omega), orAb (by omega) (by omega) (by omega)]
 congr 1
 unfold num4; omega
def numB (b : List Nat) (at' : Nat) : Nat := num4 (b.getD at' 0) (b.getD (at' + 1) 0) (b.getD (at' + 2) 0) (b.getD (at' + 3) 0)
theorem getD_lt {b : List Nat} (h : ∀ x ∈ b, x < 256) (i : Nat) : b.getD i 0 < 256 := by
 rw [List.getD_eq_getElem?_getD]
 cases e : b[i]? with
 | none => simp
 | some x => exact h x (List.mem_of_getElem? e)
theorem numB_lt {b : List Nat} (h : ∀ x ∈ b, x < 256) (i : Nat) : numB b i < 4294967296 := num4_lt (getD_lt h _) (getD_lt h _) (getD_lt h _) (getD_lt h _)
noncomputable def numV (l : List (List AV)) (n : Int) : Int := opq ((numB (nR l) n.toNat : Nat) : Int)
theorem num_all (F : Nat) (z : Bool) (l : List (List AV)) (hl : byOk l = true) (n : Nat) (hn : n + 4 ≤ l.length) (st : St) : f55.run 10 [.ns z 1 l, .int .i64 (n : Int)] st = some (.ret (.int .i64 (numV l n)), st) := by
 rw [byOk_iff] at hl
 have hlt : ∀ x ∈ nR l, x < 256 := fun x hx => okR_lt hl.1 hx
 have w : ∀ i : Nat, i < 4 → IntKind.i64.wrap ((n : Int) + (i : Int)) = ((n + i : Nat) : Int) := fun i hi => by
  rw [show (n : Int) + (i : Int) = ((n + i : Nat) : Int) by omega, wrap_nat (by omega)]
 have w0 := w 0 (by omega); have w1 := w 1 (by omega); have w2 := w 2 (by omega); have w3 := w 3 (by omega)
 have r : ∀ i : Nat, i < 4 → inR l ((n + i : Nat) : Int) = true ∧ (LD.one (.int .u8)).is (V.rowAt l ((n + i : Nat) : Int)) = true ∧ hdI (V.rowAt l ((n + i : Nat) : Int)) = (((nR l).getD (n + i) 0 : Nat) : Int) := fun i hi => by
  obtain ⟨a, b⟩ := okR_at hl.1 (i := n + i) (by omega)
  refine ⟨inR_nat (by omega), a, ?_⟩
  rw [b, List.getD_eq_getElem?_getD, List.getElem?_eq_getElem (by rw [nR_length]; omega)]; rfl
 obtain ⟨a0, b0, c0⟩ := r 0 (by omega); obtain ⟨a1, b1, c1⟩ := r 1 (by omega); obtain ⟨a2, b2, c2⟩ := r 2 (by omega); obtain ⟨a3, b3, c3⟩ := r 3 (by omega)
 rw [num_run 0, show (0 : Int) = ((0 : Nat) : Int) from rfl, show (1 : Int) = ((1 : Nat) : Int) from rfl, show (2 : Int) = ((2 : Nat) : Int) from rfl, show (3 : Int) = ((3 : Nat) : Int) from rfl, w0, w1, w2, w3, branch_of a0, branch_of b0, branch_of a1, branch_of b1, branch_of a2, branch_of b2, branch_of a3, branch_of b3, c0, c1, c2, c3]
 rw [show ((0 : Nat) : Int) = 0 from rfl, show ((1 : Nat) : Int) = 1 from rfl, num4_or (getD_lt hlt _) (getD_lt hlt _) (getD_lt hlt _) (getD_lt hlt _), numV, opq_eq]
 rfl
noncomputable def p55 : POrc Try.prog := f55.farN
 (fun args k => match args with
  | [x, y] => onNs 1 x fun _ l => onInt y fun kd n => ifT (decide (kd = .i64) && (byOk l && decide (0 ≤ n ∧ n + 4 ≤ l.length))) (k (.int .i64 (numV l n)))
  | _ => none)
 fun args k fin h => by
  split at h
  ·rename_i x y
   obtain ⟨z, l, g1, hx⟩ := onNs_spec h
   obtain ⟨kd, n, g2, rfl⟩ := onInt_spec g1
   obtain ⟨h1, g3⟩ := ifT_spec g2
   simp only [Bool.and_eq_true, decide_eq_true_eq] at h1
   obtain ⟨rfl, h2, h3, h4⟩ := h1
   obtain ⟨n, rfl⟩ := Int.eq_ofNat_of_zero_le h3
   exact ⟨_, _, g3, .cons hx (.cons (.refl _) .nil), ⟨okR_scoped (byOk_iff.mp h2).1, trivial, trivial⟩, trivial, 10, .int .i64 _, ⟨[], []⟩, rfl, num_all 0 z l h2 n (by omega) _⟩
  ·cases h
theorem p55_nat : p55.Nat := by
 intro args k
 show (match args with | [x, y] => _ | _ => _) = thenA (match args with | [x, y] => _ | _ => _) k
 split
 ·exact onNs_nat fun _ _ => onInt_nat fun _ _ => ifT_nat rfl
 ·rfl
def piecesN (n : Nat) : Nat := (n + 57) / 56
noncomputable def piecesV (n : Int) : Int := opq ((piecesN n.toNat : Nat) : Int)
theorem pieces_all (F n : Nat) (hn : n < 1000000000) (st : St) : f39.run F [.int .i64 (n : Int)] st = some (.ret (.int .i64 (piecesV n)), st) := by
 rw [pieces_run, show (2 : Int) + (n : Int) = ((2 + n : Nat) : Int) by omega, wrap_nat (by omega), show ((2 + n : Nat) : Int) + 56 = ((2 + n + 56 : Nat) : Int) by omega, wrap_nat (by omega), show ((2 + n + 56 : Nat) : Int) - 1 = ((n + 57 : Nat) : Int) by omega, wrap_nat (by omega)]
 have : (((n + 57 : Nat) : Int)).tdiv 56 = ((piecesN n : Nat) : Int) := by
  rw [Int.tdiv_eq_ediv_of_nonneg (by omega)]; unfold piecesN; omega
 have hp : piecesN n < 9223372036854775808 := by unfold piecesN; omega
 rw [this, wrap_nat hp, piecesV, opq_eq]; rfl
noncomputable def p39 : POrc Try.prog := f39.farN
 (fun args k => match args with
  | [y] => onInt y fun kd n => ifT (decide (kd = .i64) && decide (0 ≤ n ∧ n < 1000000000)) (k (.int .i64 (piecesV n)))
  | _ => none)
 fun args k fin h => by
  split at h
  ·rename_i y
   obtain ⟨kd, n, g2, rfl⟩ := onInt_spec h
   obtain ⟨h1, g3⟩ := ifT_spec g2
   simp only [Bool.and_eq_true, decide_eq_true_eq] at h1
   obtain ⟨rfl, h3, h4⟩ := h1
   obtain ⟨n, rfl⟩ := Int.eq_ofNat_of_zero_le h3
   exact ⟨_, _, g3, .cons (.refl _) .nil, ⟨trivial, trivial⟩, trivial, 10, .int .i64 _, ⟨[], []⟩, rfl, pieces_all 10 n (by omega) _⟩
  ·cases h
theorem p39_nat : p39.Nat := by
 intro args k
 show (match args with | [y] => _ | _ => _) = thenA (match args with | [y] => _ | _ => _) k
 split
 ·exact onInt_nat fun _ _ => ifT_nat rfl
 ·rfl
theorem el81 : ElemOf Try.prog 81 5 1 1 (.int .u8 0) := ⟨Try.underlying81, sz5, by5, ze5, by kernel_rfl, by decide⟩
theorem fl69_0 : fieldB Try.prog 69 0 0 1 false = true := by kernel_rfl
theorem fl69_1 : fieldB Try.prog 69 1 1 1 false = true := by kernel_rfl
theorem fl69_2 : fieldB Try.prog 69 2 2 1 false = true := by kernel_rfl
noncomputable def f62_b : Sim Try.prog :=
 (.seq (.live [0] (.region 0 [
 ⟨(opAssign (some 2) (.const (Value.int IntKind.i64 0)) 3 "wal.go:47" #[]).op, none⟩
 ] (by kernel_rfl)))
 (.seq (.live [0, 3] (.region 1 [
 ⟨(opMove (some 4) (.tmp 0) 81 "wal.go:48" #[]).op, none⟩,
 ⟨(opCallP p55 (some 5) [(.tmp 4), (.const (Value.int IntKind.i64 0))] #[81, 3] 3 "wal.go:48" #[eD 0]).op, none⟩,
 ⟨(opAssign (some 3) (.tmp 5) 3 "wal.go:48" #[eD 1, eC 1, eP 0, eP 1]).op, none⟩
 ] (by kernel_rfl)))
 (.seq (.seq (.live [3, 13] (.region 2 [
 ⟨(opMove (some 6) (.tmp 3) 3 "wal.go:49" #[]).op, none⟩,
 ⟨(opMove (some 7) (.tmp 0) 81 "wal.go:49" #[]).op, none⟩,
 ⟨(opCallP p55 (some 8) [(.tmp 7), (.const (Value.int IntKind.i64 60))] #[81, 3] 3 "wal.go:49" #[eD 1]).op, none⟩,
 ⟨(opBin (some 9) .neq 3 (.tmp 6) (.tmp 8) 3 4 "wal.go:49" #[eD 0, eD 2]).op, none⟩,
 ⟨(opMove (some 10) (.tmp 9) 4 "wal.go:49" #[eD 3, eC 2]).op, none⟩,
 ⟨(opMove (some 11) (.tmp 3) 3 "wal.go:49" #[eG 4]).op, (some (4, 10, false))⟩,
 ⟨(opBin (some 12) .geq 3 (.tmp 11) (.const (Value.int IntKind.i64 2147483648)) 3 4 "wal.go:49" #[eD 5, eG 4]).op, (some (4, 10, false))⟩,
 ⟨(opPick (some 13) (.tmp 10) (.const (Value.bool true)) (.tmp 12) 4 "wal.go:49" #[eD 4, eD 6]).op, none⟩
 ] (by kernel_rfl)))
 (.cond (.tmp 13)
 (.seq (.live [2] (.region 3 [
 ⟨(opAssign (some 2) (.const (Value.int IntKind.i64 0)) 3 "wal.go:50" #[]).op, none⟩
 ] (by kernel_rfl)))
 (.live [2] .ret))
 .skip))
 (.seq (.live [2] (.region 4 [
 ⟨(opMove (some 14) (.tmp 3) 3 "wal.go:52" #[]).op, none⟩,
 ⟨(opAssign (some 2) (.tmp 14) 3 "wal.go:52" #[eD 0, eP 0]).op, none⟩
 ] (by kernel_rfl)))
 (.live [2] .ret)))))
noncomputable def f62 : Fun Try.prog where
 id := 62
 fn := Try.f62
 hf := Try.func62
 hname := by kernel_rfl
 body := f62_b
 hbody := by kernel_rfl
 res := [rTmp 2]
 hres := by kernel_rfl
 n := 15
 hn := by kernel_rfl
noncomputable def f60_b : Sim Try.prog :=
 (.seq (.live [0] (.region 0 [
 ⟨(opAssign (some 2) (.const (Value.slice none 0 0)) 33 "wal.go:56" #[]).op, none⟩
 ] (by kernel_rfl)))
 (.seq (.live [2] (.region 1 [
 ⟨(opMove (some 3) (.tmp 0) 81 "wal.go:56" #[]).op, none⟩,
 ⟨(opSlice (some 4) 81 (.tmp 3) (some (.const (Value.int IntKind.i64 4))) (some (.const (Value.int IntKind.i64 60))) none 5 1 Try.underlying81 sz5 81 "wal.go:56" #[eD 0]).op, none⟩,
 ⟨(opAssign (some 2) (.tmp 4) 33 "wal.go:56" #[eD 1, eP 0, eP 1]).op, none⟩
 ] (by kernel_rfl)))
 (.live [2] .ret)))
noncomputable def f60 : Fun Try.prog where
 id := 60
 fn := Try.f60
 hf := Try.func60
 hname := by kernel_rfl
 body := f60_b
 hbody := by kernel_rfl
 res := [rTmp 2]
 hres := by kernel_rfl
 n := 5
 hn := by kernel_rfl
noncomputable def f74_l0 : Sim Try.prog :=
 (.seq (.live [0, 1, 2, 7, 8] (.region 1 [
 ⟨(opBin (some 8) .lss 3 (.tmp 7) (.const (Value.int IntKind.i64 4)) 3 4 "wal.go:35" #[]).op, none⟩
 ] (by kernel_rfl)))
 (.seq (.cond (.tmp 8)
 .skip
 (.live [] (.exit 0)))
 (.seq (.block 1 (.seq (.live [0, 1, 2, 6, 7] (.region 2 [
 ⟨(opMove (some 9) (.tmp 7) 3 "wal.go:35" #[]).op, none⟩,
 ⟨(opAssign (some 6) (.tmp 9) 3 "wal.go:35" #[eD 0, eP 0]).op, none⟩
 ] (by kernel_rfl)))
 (.live [0, 1, 2, 7] (.region 3 [
 ⟨(opMove (some 10) (.tmp 0) 81 "wal.go:36" #[]).op, none⟩,
 ⟨(opMove (some 11) (.tmp 1) 3 "wal.go:36" #[]).op, none⟩,
 ⟨(opMove (some 12) (.tmp 6) 3 "wal.go:36" #[]).op, none⟩,
 ⟨(opBin (some 13) .add 3 (.tmp 11) (.tmp 12) 3 3 "wal.go:36" #[eD 1, eD 2]).op, none⟩,
 ⟨(opMove (some 14) (.tmp 2) 3 "wal.go:36" #[]).op, none⟩,
 ⟨(opMove (some 15) (.tmp 6) 3 "wal.go:36" #[]).op, none⟩,
 ⟨(opBin (some 16) .mul 3 (.const (Value.int IntKind.i64 8)) (.tmp 15) 3 3 "wal.go:36" #[eD 5]).op, none⟩,
 ⟨(opBin (some 17) .shr 3 (.tmp 14) (.tmp 16) 3 3 "wal.go:36" #[eD 4, eD 6]).op, none⟩,
 ⟨(opConvInt (some 18) 3 5 (.tmp 17) (.int .i64) Try.underlying3 .u8 Try.underlying5 5 "wal.go:36" #[eD 7]).op, none⟩,
 ⟨(opIndexAddrT (some 19) 81 (.tmp 10) (.tmp 13) 5 1 Try.underlying81 sz5 0 "wal.go:36" #[eD 0, eD 3, eP 0, eP 1, eP 2, eP 3, eP 4, eP 5, eP 6, eP 7, eP 8]).op, none⟩,
 ⟨(opStoreC none 5 (.tmp 19) (.tmp 18) 1 sz5 0 "wal.go:36" #[eD 9, eD 8, eP 0, eP 1, eP 2, eP 3, eP 4, eP 5, eP 6, eP 7, eP 8]).op, none⟩
 ] (by kernel_rfl)))))
 (.live [0, 1, 2, 7] (.region 4 [
 ⟨(opBin (some 20) .add 3 (.tmp 7) (.const (Value.int IntKind.i64 1)) 3 3 "wal.go:35" #[]).op, none⟩,
 ⟨(opMove (some 7) (.tmp 20) 3 "wal.go:35" #[eD 0]).op, none⟩
 ] (by kernel_rfl))))))
noncomputable def f74_b : Sim Try.prog :=
 (.seq (.live [0, 1, 2, 7] (.region 0 [
 ⟨(opMove (some 7) (.const (Value.int IntKind.i64 0)) 3 "wal.go:35" #[]).op, none⟩
 ] (by kernel_rfl)))
 (.block 0 (.loop [0, 1, 2, 7] f74_l0)))
noncomputable def f74 : Fun Try.prog where
 id := 74
 fn := Try.f74
 hf := Try.func74
 hname := by kernel_rfl
 body := f74_b
 hbody := by kernel_rfl
 res := []
 hres := by kernel_rfl
 n := 21
 hn := by kernel_rfl
noncomputable def f59_b : Sim Try.prog :=
 (.seq (.live [0, 1] (.region 0 [
 ⟨(opMove (some 4) (.tmp 0) 81 "wal.go:42" #[]).op, none⟩,
 ⟨(opMove (some 5) (.tmp 1) 3 "wal.go:42" #[]).op, none⟩,
 ⟨opCall (f74.orc 10) (some 6) [(.tmp 4), (.const (Value.int IntKind.i64 0)), (.tmp 5)] #[81, 3, 3] 0 "wal.go:42" #[eD 0, eD 1], none⟩
 ] (by kernel_rfl)))
 (.live [] (.region 1 [
 ⟨(opMove (some 7) (.tmp 0) 81 "wal.go:43" #[]).op, none⟩,
 ⟨(opMove (some 8) (.tmp 1) 3 "wal.go:43" #[]).op, none⟩,
 ⟨opCall (f74.orc 10) (some 9) [(.tmp 7), (.const (Value.int IntKind.i64 60)), (.tmp 8)] #[81, 3, 3] 0 "wal.go:43" #[eD 0, eD 1], none⟩
 ] (by kernel_rfl))))
noncomputable def f59 : Fun Try.prog where
 id := 59
 fn := Try.f59
 hf := Try.func59
 hname := by kernel_rfl
 body := f59_b
 hbody := by kernel_rfl
 res := []
 hres := by kernel_rfl
 n := 10
 hn := by kernel_rfl
noncomputable def f57_b : Sim Try.prog :=
 (.seq (.live [1] (.region 0 [
 ⟨(opBoxF (some 1) 69 (.tmp 0) 0 "wal.go:62" #[]).op, none⟩,
 ⟨(opAssign (some 2) (.const (Value.slice none 0 0)) 81 "wal.go:62" #[]).op, none⟩
 ] (by kernel_rfl)))
 (.seq (.live [1, 3] (.region 1 [
 ⟨(opMakeC (some 4) 81 (.const (Value.int IntKind.i64 64)) 5 1 1 (.int .u8 0) el81 [AV.int .u8 0] (by kernel_rfl) (by kernel_rfl) 81 "wal.go:63" #[]).op, none⟩,
 ⟨(opAssign (some 3) (.tmp 4) 81 "wal.go:63" #[eD 0, eP 0]).op, none⟩
 ] (by kernel_rfl)))
 (.seq (.live [1, 3] (.region 2 [
 ⟨(opMove (some 5) (.tmp 3) 81 "wal.go:64" #[]).op, none⟩,
 ⟨(opFieldAddr (some 6) 69 (.tmp 1) 0 0 1 false fl69_0 (by decide) 0 "wal.go:64" #[]).op, none⟩,
 ⟨(opLoadT (.one (.int .i64)) (some 7) 3 (.tmp 6) (.int .i64) Try.underlying3 1 sz3 (by kernel_rfl) 3 "wal.go:64" #[eD 1]).op, none⟩,
 ⟨opCall (f59.orc 0) (some 8) [(.tmp 5), (.tmp 7)] #[81, 3] 0 "wal.go:64" #[eD 0, eD 2], none⟩
 ] (by kernel_rfl)))
 (.seq (.live [1, 3] (.region 3 [
 ⟨(opMove (some 9) (.tmp 3) 81 "wal.go:65" #[]).op, none⟩,
 ⟨(opFieldAddr (some 10) 69 (.tmp 1) 1 1 1 false fl69_1 (by decide) 0 "wal.go:65" #[]).op, none⟩,
 ⟨(opLoadT (.one (.int .i64)) (some 11) 3 (.tmp 10) (.int .i64) Try.underlying3 1 sz3 (by kernel_rfl) 3 "wal.go:65" #[eD 1]).op, none⟩,
 ⟨(opConvInt (some 12) 3 5 (.tmp 11) (.int .i64) Try.underlying3 .u8 Try.underlying5 5 "wal.go:65" #[eD 2]).op, none⟩,
 ⟨(opIndexAddrT (some 13) 81 (.tmp 9) (.const (Value.int IntKind.i64 4)) 5 1 Try.underlying81 sz5 0 "wal.go:65" #[eD 0, eP 0, eP 1, eP 2, eP 3]).op, none⟩,
 ⟨(opStoreC none 5 (.tmp 13) (.tmp 12) 1 sz5 0 "wal.go:65" #[eD 4, eD 3, eP 0, eP 1, eP 2, eP 3]).op, none⟩
 ] (by kernel_rfl)))
 (.seq (.live [3] (.region 4 [
 ⟨(opMove (some 14) (.tmp 3) 81 "wal.go:66" #[]).op, none⟩,
 ⟨(opFieldAddr (some 15) 69 (.tmp 1) 2 2 1 false fl69_2 (by decide) 0 "wal.go:66" #[]).op, none⟩,
 ⟨(opLoadT (.one (.int .i64)) (some 16) 3 (.tmp 15) (.int .i64) Try.underlying3 1 sz3 (by kernel_rfl) 3 "wal.go:66" #[eD 1]).op, none⟩,
 ⟨opCall (f74.orc 10) (some 17) [(.tmp 14), (.const (Value.int IntKind.i64 5)), (.tmp 16)] #[81, 3, 3] 0 "wal.go:66" #[eD 0, eD 2], none⟩
 ] (by kernel_rfl)))
 (.seq (.live [2] (.region 5 [
 ⟨(opMove (some 18) (.tmp 3) 81 "wal.go:67" #[]).op, none⟩,
 ⟨(opAssign (some 2) (.tmp 18) 81 "wal.go:67" #[eD 0, eP 0]).op, none⟩
 ] (by kernel_rfl)))
 (.live [2] .ret)))))))
noncomputable def f57 : Fun Try.prog where
 id := 57
 fn := Try.f57
 hf := Try.func57
 hname := by kernel_rfl
 body := f57_b
 hbody := by kernel_rfl
 res := [rTmp 2]
 hres := by kernel_rfl
 n := 19
 hn := by kernel_rfl
theorem stamped_run (F : Nat) (z : Bool) (l : List (List AV)) (st : St) :
 (f62.run F [.ns z 1 l] st : Ans) =
 branch (.bool (true && (byOk l && decide ((0 : Int) ≤ 0 ∧ (4 : Int) ≤ (↑l.length : Int)))))
 (branch (.bool (true && (byOk l && decide ((0 : Int) ≤ 60 ∧ (64 : Int) ≤ (↑l.length : Int)))))
 (branch (.bool (numV l (0 : Int) != numV l (60 : Int))) (some (Fin.ret (.int .i64 0), st))
 (branch (.bool (decide (numV l (0 : Int) ≥ 2147483648)))
 (some (Fin.ret (.int .i64 0), st))
 (some (Fin.ret (.int .i64 (numV l (0 : Int))), st))))
 none)
 none := by kernel_rfl
theorem block_run (F : Nat) (a b c : Int) :
 (f57.run F [.agg [.int .i64 a, .int .i64 b, .int .i64 c]] ⟨[], []⟩ : Ans) =
 branch (.bool (mkOk 1 (64 : Int)))
 (branch (.bool (true && inC (zerC 64 [AV.int IntKind.u8 (0 : Int)]) 0 1))
 (branch
 (AV.bool
 (true &&
 inC
 (setC (zerC 64 [AV.int IntKind.u8 (0 : Int)]) 0
 [AV.int IntKind.u8 (IntKind.u8.wrap (a.fdiv (1 : Int)))])
 1 1))
 (branch
 (AV.bool
 (true &&
 inC
 (setC
 (setC (zerC 64 [AV.int IntKind.u8 (0 : Int)]) 0
 [AV.int IntKind.u8 (IntKind.u8.wrap (a.fdiv (1 : Int)))])
 1 [AV.int IntKind.u8 (IntKind.u8.wrap (a.fdiv (256 : Int)))])
 2 1))
 (branch
 (AV.bool
 (true &&
 inC
 (setC
 (setC
 (setC (zerC 64 [AV.int IntKind.u8 (0 : Int)]) 0
 [AV.int IntKind.u8 (IntKind.u8.wrap (a.fdiv (1 : Int)))])
 1 [AV.int IntKind.u8 (IntKind.u8.wrap (a.fdiv (256 : Int)))])
 2 [AV.int IntKind.u8 (IntKind.u8.wrap (a.fdiv (65536 : Int)))])
 3 1))
 (branch
 (AV.bool
 (true &&
 inC
 (setC
 (setC
 (setC
 (setC (zerC 64 [AV.int IntKind.u8 (0 : Int)]) 0
 [AV.int IntKind.u8 (IntKind.u8.wrap (a.fdiv (1 : Int)))])
 1 [AV.int IntKind.u8 (IntKind.u8.wrap (a.fdiv (256 : Int)))])
 2 [AV.int IntKind.u8 (IntKind.u8.wrap (a.fdiv (65536 : Int)))])
 3 [AV.int IntKind.u8 (IntKind.u8.wrap (a.fdiv (16777216 : Int)))])
 60 1))
 (branch
 (AV.bool
 (true &&
 inC
 (setC
 (setC
 (setC
 (setC
 (setC (zerC 64 [AV.int IntKind.u8 (0 : Int)]) 0
 [AV.int IntKind.u8 (IntKind.u8.wrap (a.fdiv (1 : Int)))])
 1 [AV.int IntKind.u8 (IntKind.u8.wrap (a.fdiv (256 : Int)))])
 2 [AV.int IntKind.u8 (IntKind.u8.wrap (a.fdiv (65536 : Int)))])
 3 [AV.int IntKind.u8 (IntKind.u8.wrap (a.fdiv (16777216 : Int)))])
 60 [AV.int IntKind.u8 (IntKind.u8.wrap (a.fdiv (1 : Int)))])
 61 1))
 (branch
 (AV.bool
 (true &&
 inC
 (setC
 (setC
 (setC
 (setC
 (setC
 (setC (zerC 64 [AV.int IntKind.u8 (0 : Int)]) 0
 [AV.int IntKind.u8 (IntKind.u8.wrap (a.fdiv (1 : Int)))])
 1 [AV.int IntKind.u8 (IntKind.u8.wrap (a.fdiv (256 : Int)))])
 2 [AV.int IntKind.u8 (IntKind.u8.wrap (a.fdiv (65536 : Int)))])
 3 [AV.int IntKind.u8 (IntKind.u8.wrap (a.fdiv (16777216 : Int)))])
 60 [AV.int IntKind.u8 (IntKind.u8.wrap (a.fdiv (1 : Int)))])
 61 [AV.int IntKind.u8 (IntKind.u8.wrap (a.fdiv (256 : Int)))])
 62 1))
 (branch
 (AV.bool
 (true &&
 inC
 (setC
 (setC
 (setC
 (setC
 (setC
 (setC
 (setC (zerC 64 [AV.int IntKind.u8 (0 : Int)]) 0
 [AV.int IntKind.u8 (IntKind.u8.wrap (a.fdiv (1 : Int)))])
 1 [AV.int IntKind.u8 (IntKind.u8.wrap (a.fdiv (256 : Int)))])
 2 [AV.int IntKind.u8 (IntKind.u8.wrap (a.fdiv (65536 : Int)))])
 3 [AV.int IntKind.u8 (IntKind.u8.wrap (a.fdiv (16777216 : Int)))])
 60 [AV.int IntKind.u8 (IntKind.u8.wrap (a.fdiv (1 : Int)))])
 61 [AV.int IntKind.u8 (IntKind.u8.wrap (a.fdiv (256 : Int)))])
 62 [AV.int IntKind.u8 (IntKind.u8.wrap (a.fdiv (65536 : Int)))])
 63 1))
 (branch
 (AV.bool
 (true &&
 inC
 (setC
 (setC
 (setC
 (setC
 (setC
 (setC
 (setC
 (setC (zerC 64 [AV.int IntKind.u8 (0 : Int)]) 0
 [AV.int IntKind.u8 (IntKind.u8.wrap (a.fdiv (1 : Int)))])
 1 [AV.int IntKind.u8 (IntKind.u8.wrap (a.fdiv (256 : Int)))])
 2 [AV.int IntKind.u8 (IntKind.u8.wrap (a.fdiv (65536 : Int)))])
 3 [AV.int IntKind.u8 (IntKind.u8.wrap (a.fdiv (16777216 : Int)))])
 60 [AV.int IntKind.u8 (IntKind.u8.wrap (a.fdiv (1 : Int)))])
 61 [AV.int IntKind.u8 (IntKind.u8.wrap (a.fdiv (256 : Int)))])
 62 [AV.int IntKind.u8 (IntKind.u8.wrap (a.fdiv (65536 : Int)))])
 63 [AV.int IntKind.u8 (IntKind.u8.wrap (a.fdiv (16777216 : Int)))])
 4 1))
 (branch
 (AV.bool
 (true &&
 inC
 (setC
 (setC
 (setC
 (setC
 (setC
 (setC
 (setC
 (setC
 (setC (zerC 64 [AV.int IntKind.u8 (0 : Int)]) 0
 [AV.int IntKind.u8 (IntKind.u8.wrap (a.fdiv (1 : Int)))])
 1 [AV.int IntKind.u8 (IntKind.u8.wrap (a.fdiv (256 : Int)))])
 2 [AV.int IntKind.u8 (IntKind.u8.wrap (a.fdiv (65536 : Int)))])
 3 [AV.int IntKind.u8 (IntKind.u8.wrap (a.fdiv (16777216 : Int)))])
 60 [AV.int IntKind.u8 (IntKind.u8.wrap (a.fdiv (1 : Int)))])
 61 [AV.int IntKind.u8 (IntKind.u8.wrap (a.fdiv (256 : Int)))])
 62 [AV.int IntKind.u8 (IntKind.u8.wrap (a.fdiv (65536 : Int)))])
 63 [AV.int IntKind.u8 (IntKind.u8.wrap (a.fdiv (16777216 : Int)))])
 4 [AV.int IntKind.u8 (IntKind.u8.wrap b)])
 5 1))
 (branch
 (AV.bool
 (true &&
 inC
 (setC
 (setC
 (setC
 (setC
 (setC
 (setC
 (setC
 (setC
 (setC
 (setC (zerC 64 [AV.int IntKind.u8 (0 : Int)]) 0
 [AV.int IntKind.u8 (IntKind.u8.wrap (a.fdiv (1 : Int)))])
 1 [AV.int IntKind.u8 (IntKind.u8.wrap (a.fdiv (256 : Int)))])
 2 [AV.int IntKind.u8 (IntKind.u8.wrap (a.fdiv (65536 : Int)))])
 3 [AV.int IntKind.u8 (IntKind.u8.wrap (a.fdiv (16777216 : Int)))])
 60 [AV.int IntKind.u8 (IntKind.u8.wrap (a.fdiv (1 : Int)))])
 61 [AV.int IntKind.u8 (IntKind.u8.wrap (a.fdiv (256 : Int)))])
 62 [AV.int IntKind.u8 (IntKind.u8.wrap (a.fdiv (65536 : Int)))])
 63 [AV.int IntKind.u8 (IntKind.u8.wrap (a.fdiv (16777216 : Int)))])
 4 [AV.int IntKind.u8 (IntKind.u8.wrap b)])
 5 [AV.int IntKind.u8 (IntKind.u8.wrap (c.fdiv (1 : Int)))])
 6 1))
 (branch
 (AV.bool
 (true &&
 inC
 (setC
 (setC
 (setC
 (setC
 (setC
 (setC
 (setC
 (setC
 (setC
 (setC
 (setC (zerC 64 [AV.int IntKind.u8 (0 : Int)]) 0
 [AV.int IntKind.u8 (IntKind.u8.wrap (a.fdiv (1 : Int)))])
 1
 [AV.int IntKind.u8 (IntKind.u8.wrap (a.fdiv (256 : Int)))])
 2
 [AV.int IntKind.u8 (IntKind.u8.wrap (a.fdiv (65536 : Int)))])
 3
 [AV.int IntKind.u8 (IntKind.u8.wrap (a.fdiv (16777216 : Int)))])
 60 [AV.int IntKind.u8 (IntKind.u8.wrap (a.fdiv (1 : Int)))])
 61 [AV.int IntKind.u8 (IntKind.u8.wrap (a.fdiv (256 : Int)))])
 62 [AV.int IntKind.u8 (IntKind.u8.wrap (a.fdiv (65536 : Int)))])
 63 [AV.int IntKind.u8 (IntKind.u8.wrap (a.fdiv (16777216 : Int)))])
 4 [AV.int IntKind.u8 (IntKind.u8.wrap b)])
 5 [AV.int IntKind.u8 (IntKind.u8.wrap (c.fdiv (1 : Int)))])
 6 [AV.int IntKind.u8 (IntKind.u8.wrap (c.fdiv (256 : Int)))])
 7 1))
 (branch
 (AV.bool
 (true &&
 inC
 (setC
 (setC
 (setC
 (setC
 (setC
 (setC
 (setC
 (setC
 (setC
 (setC
 (setC
 (setC (zerC 64 [AV.int IntKind.u8 (0 : Int)]) 0
 [AV.int IntKind.u8 (IntKind.u8.wrap (a.fdiv (1 : Int)))])
 1
 [AV.int IntKind.u8 (IntKind.u8.wrap (a.fdiv (256 : Int)))])
 2
 [AV.int IntKind.u8 (IntKind.u8.wrap (a.fdiv (65536 : Int)))])
 3
 [AV.int IntKind.u8 (IntKind.u8.wrap (a.fdiv (16777216 : Int)))])
 60 [AV.int IntKind.u8 (IntKind.u8.wrap (a.fdiv (1 : Int)))])
 61 [AV.int IntKind.u8 (IntKind.u8.wrap (a.fdiv (256 : Int)))])
 62 [AV.int IntKind.u8 (IntKind.u8.wrap (a.fdiv (65536 : Int)))])
 63 [AV.int IntKind.u8 (IntKind.u8.wrap (a.fdiv (16777216 : Int)))])
 4 [AV.int IntKind.u8 (IntKind.u8.wrap b)])
 5 [AV.int IntKind.u8 (IntKind.u8.wrap (c.fdiv (1 : Int)))])
 6 [AV.int IntKind.u8 (IntKind.u8.wrap (c.fdiv (256 : Int)))])
 7 [AV.int IntKind.u8 (IntKind.u8.wrap (c.fdiv (65536 : Int)))])
 8 1))
 (some
 (Fin.ret (AV.ms 0 1 0 64 64),
 St.mk
 [Ob.cells
 (setC
 (setC
 (setC
 (setC
 (setC
 (setC
 (setC
 (setC
 (setC
 (setC
 (setC
 (setC
 (setC (zerC 64 [AV.int IntKind.u8 (0 : Int)])
 0
 [AV.int IntKind.u8
 (IntKind.u8.wrap (a.fdiv (1 : Int)))])
 1
 [AV.int IntKind.u8
 (IntKind.u8.wrap (a.fdiv (256 : Int)))])
 2
 [AV.int IntKind.u8
 (IntKind.u8.wrap (a.fdiv (65536 : Int)))])
 3
 [AV.int IntKind.u8
 (IntKind.u8.wrap (a.fdiv (16777216 : Int)))])
 60
 [AV.int IntKind.u8 (IntKind.u8.wrap (a.fdiv (1 : Int)))])
 61
 [AV.int IntKind.u8 (IntKind.u8.wrap (a.fdiv (256 : Int)))])
 62
 [AV.int IntKind.u8 (IntKind.u8.wrap (a.fdiv (65536 : Int)))])
 63
 [AV.int IntKind.u8 (IntKind.u8.wrap (a.fdiv (16777216 : Int)))])
 4 [AV.int IntKind.u8 (IntKind.u8.wrap b)])
 5 [AV.int IntKind.u8 (IntKind.u8.wrap (c.fdiv (1 : Int)))])
 6 [AV.int IntKind.u8 (IntKind.u8.wrap (c.fdiv (256 : Int)))])
 7 [AV.int IntKind.u8 (IntKind.u8.wrap (c.fdiv (65536 : Int)))])
 8 [AV.int IntKind.u8 (IntKind.u8.wrap (c.fdiv (16777216 : Int)))])]
 []))
 none)
 none)
 none)
 none)
 none)
 none)
 none)
 none)
 none)
 none)
 none)
 none)
 none)
 none := by kernel_rfl
def stampB (b : List Nat) : Nat := if numB b 0 ≠ numB b 60 ∨ 2147483648 ≤ numB b 0 then 0 else numB b 0
noncomputable def stpV (l : List (List AV)) : Int := opq ((stampB (nR l) : Nat) : Int)
theorem stamped_all (F : Nat) (z : Bool) (l : List (List AV)) (hl : byOk l = true) (hn : 64 ≤ l.length) (st : St) : f62.run F [.ns z 1 l] st = some (.ret (.int .i64 (stpV l)), st) := by
 rw [stamped_run, branch_of (by rw [hl]; simp; omega), branch_of (by rw [hl]; simp; omega)]
 have e0 : numV l 0 = ((numB (nR l) 0 : Nat) : Int) := by rw [numV, opq_eq]; rfl
 have e6 : numV l 60 = ((numB (nR l) 60 : Nat) : Int) := by rw [numV, opq_eq]; rfl
 rw [e0, e6, stpV, opq_eq, stampB]
 by_cases h1 : numB (nR l) 0 = numB (nR l) 60
 ·rw [branch_not (by simp [h1])]
  by_cases h2 : 2147483648 ≤ numB (nR l) 0
  ·rw [branch_of (decide_eq_true (by omega)), if_pos (.inr h2)]; rfl
  ·rw [branch_not (decide_eq_false (by omega)), if_neg (by omega)]
 ·rw [branch_of (by simp; omega), if_pos (.inl h1)]; rfl
noncomputable def p62 : POrc Try.prog := f62.farN
 (fun args k => match args with
  | [x] => onNs 1 x fun _ l => ifT (byOk l && decide (64 ≤ l.length)) (k (.int .i64 (stpV l)))
  | _ => none)
 fun args k fin h => by
  split at h
  ·rename_i x
   obtain ⟨z, l, g1, hx⟩ := onNs_spec h
   obtain ⟨h1, g3⟩ := ifT_spec g1
   simp only [Bool.and_eq_true, decide_eq_true_eq] at h1
   exact ⟨_, _, g3, .cons hx .nil, ⟨okR_scoped (byOk_iff.mp h1.1).1, trivial⟩, trivial, 10, .int .i64 _, ⟨[], []⟩, rfl, stamped_all 10 z l h1.1 h1.2 _⟩
  ·cases h
theorem p62_nat : p62.Nat := by
 intro args k
 show (match args with | [x] => _ | _ => _) = thenA (match args with | [x] => _ | _ => _) k
 split
 ·exact onNs_nat fun _ _ => ifT_nat rfl
 ·rfl
def le4 (n : Nat) : List Nat := [n % 256, n / 256 % 256, n / 65536 % 256, n / 16777216 % 256]
theorem le4_lt (n : Nat) : ∀ x ∈ le4 n, x < 256 := fun x hx => by
 simp only [le4, List.mem_cons, List.not_mem_nil, or_false] at hx
 omega
def headB (g a f : Nat) : List Nat := le4 g ++ (a % 256 :: le4 f) ++ List.replicate 51 0 ++ le4 g
theorem headB_len (g a f : Nat) : (headB g a f).length = 64 := rfl
theorem headB_lt (g a f : Nat) : ∀ x ∈ headB g a f, x < 256 := fun x hx => by
 simp only [headB, List.mem_append, List.mem_cons, List.mem_replicate] at hx
 rcases hx with ((h | h | h) | h) | h
 ·exact le4_lt _ x h
 ·omega
 ·exact le4_lt _ x h
 ·omega
 ·exact le4_lt _ x h
noncomputable def headV (g a f : Int) : List (List AV) := opq (bR (headB g.toNat a.toNat f.toNat))
theorem u8w (n d : Nat) (hd : 0 < d) : IntKind.u8.wrap ((n : Int).fdiv (d : Int)) = ((n / d % 256 : Nat) : Int) := by
 rw [Int.fdiv_eq_ediv_of_nonneg _ (by omega)]
 show ((n : Int) / (d : Int)) % 256 = _
 omega
theorem u8w0 (n : Nat) : IntKind.u8.wrap (n : Int) = ((n % 256 : Nat) : Int) := by
 show (n : Int) % 256 = _; omega
theorem inC_b {b : List Nat} {i : Nat} (h : i < b.length) : (true && inC (bC b) i 1) = true := by rw [Bool.true_and, inC_iff, bC_length]; omega
theorem block_all (F g a f : Nat) : f57.run F [.agg [.int .i64 (g : Int), .int .i64 (a : Int), .int .i64 (f : Int)]] ⟨[], []⟩ = some (.ret (.ms 0 1 0 64 64), ⟨[.cells (bC (headB g a f))], []⟩) := by
 have w1 : ∀ n : Nat, IntKind.u8.wrap ((n : Int).fdiv 1) = ((n % 256 : Nat) : Int) := fun n => by have := u8w n 1 (by omega); rw [Nat.div_one] at this; exact this
 have w2 : ∀ n : Nat, IntKind.u8.wrap ((n : Int).fdiv 256) = ((n / 256 % 256 : Nat) : Int) := fun n => u8w n 256 (by omega)
 have w3 : ∀ n : Nat, IntKind.u8.wrap ((n : Int).fdiv 65536) = ((n / 65536 % 256 : Nat) : Int) := fun n => u8w n 65536 (by omega)
 have w4 : ∀ n : Nat, IntKind.u8.wrap ((n : Int).fdiv 16777216) = ((n / 16777216 % 256 : Nat) : Int) := fun n => u8w n 16777216 (by omega)
 rw [block_run, branch_of (by rw [mkOk_iff]; exact ⟨by decide, by decide⟩), zerC_byte, w1, w2, w3, w4, w1, w2, w3, w4, u8w0]
 have hlen : (List.replicate 64 0).length = 64 := List.length_replicate
 generalize hb : List.replicate 64 0 = b at *
 iterate 13 rw [branch_of (inC_b (by simp only [List.length_set, hlen]; decide)), setC_byte (by simp only [List.length_set, hlen]; decide)]
 subst hb
 rfl
noncomputable def p57 : POrc Try.prog := f57.farN
 (fun args k => match args with
  | [.agg [.int .i64 g, .int .i64 a, .int .i64 f]] => ifT (decide (0 ≤ g) && (decide (0 ≤ a) && decide (0 ≤ f))) (k (.sl 1 true (headV g a f)))
  | _ => none)
 fun args k fin h => by
  split at h
  ·rename_i g a f
   obtain ⟨h1, g3⟩ := ifT_spec h
   simp only [Bool.and_eq_true, decide_eq_true_eq] at h1
   obtain ⟨h1, h2, h3⟩ := h1
   obtain ⟨g, rfl⟩ := Int.eq_ofNat_of_zero_le h1
   obtain ⟨a, rfl⟩ := Int.eq_ofNat_of_zero_le h2
   obtain ⟨f, rfl⟩ := Int.eq_ofNat_of_zero_le h3
   refine ⟨_, _, g3, .cons (.refl _) .nil, ⟨⟨trivial, trivial, trivial, trivial⟩, trivial⟩, ?_, 10, _, _, ?_, block_all 10 g a f⟩
   ·rw [headV, opq_eq]; exact bR_scoped _
   ·simp only [hard, List.getElem?_cons_zero, List.drop_zero]
    rw [rowsOf_bC 64 _ (by rw [headB_len]; exact Nat.le_refl _), List.take_of_length_le (by rw [headB_len]; exact Nat.le_refl _), headV, opq_eq]
    rfl
  ·cases h
theorem p57_nat : p57.Nat := by
 intro args k
 show (match args with | [.agg [.int .i64 g, .int .i64 a, .int .i64 f]] => _ | _ => _) = thenA (match args with | [.agg [.int .i64 g, .int .i64 a, .int .i64 f]] => _ | _ => _) k
 split
 ·exact ifT_nat rfl
 ·rfl
noncomputable def f16_l0 : Sim Try.prog :=
 (.seq (.seq (.live [0, 1, 5, 14] (.region 4 [
 ⟨(opMove (some 11) (.tmp 5) 3 "ref.go:31" #[]).op, none⟩,
 ⟨(opMove (some 12) (.tmp 0) 22 "ref.go:31" #[]).op, none⟩,
 ⟨(opLen (some 13) (.tmp 12) 22 (.slice 33) Try.underlying22 3 "ref.go:31" #[eD 1]).op, none⟩,
 ⟨(opBin (some 14) .lss 3 (.tmp 11) (.tmp 13) 3 4 "ref.go:31" #[eD 0, eD 2]).op, none⟩
 ] (by kernel_rfl)))
 (.cond (.tmp 14)
 .skip
 (.live [] (.exit 0))))
 (.seq (.block 1 (.seq (.live [0, 1, 5, 26] (.draw 6 [
 ⟨.p (opMove (some 17) (.tmp 0) 22 "ref.go:32" #[]), none⟩,
 ⟨.p (opMove (some 18) (.tmp 5) 3 "ref.go:32" #[]), none⟩,
 ⟨.pn (opIndexAddrT (some 19) 22 (.tmp 17) (.tmp 18) 33 1 Try.underlying22 sz33 0 "ref.go:32" #[eD 0, eD 1]) opIndexAddrT_nat, none⟩,
 ⟨.qn (opLoadT (.one (.ns 1)) (some 20) 33 (.tmp 19) (.slice 5) Try.underlying33 1 sz33 (by kernel_rfl) 33 "ref.go:32" #[eD 2]) opLoadT_nat, none⟩,
 ⟨.p (opMove (some 21) (.tmp 1) 22 "ref.go:32" #[]), none⟩,
 ⟨.p (opMove (some 22) (.tmp 5) 3 "ref.go:32" #[]), none⟩,
 ⟨.pn (opIndexAddrT (some 23) 22 (.tmp 21) (.tmp 22) 33 1 Try.underlying22 sz33 0 "ref.go:32" #[eD 4, eD 5]) opIndexAddrT_nat, none⟩,
 ⟨.qn (opLoadT (.one (.ns 1)) (some 24) 33 (.tmp 23) (.slice 5) Try.underlying33 1 sz33 (by kernel_rfl) 33 "ref.go:32" #[eD 6]) opLoadT_nat, none⟩,
 ⟨.pn (opCallP p17 (some 25) [(.tmp 20), (.tmp 24)] #[33, 33] 4 "ref.go:32" #[eD 3, eD 7]) (opCallP_nat p17_nat), none⟩,
 ⟨.p (opNot (some 26) 4 (.tmp 25) 4 "ref.go:32" #[eD 8]), none⟩
 ] mixed (by kernel_rfl)))
 (.cond (.tmp 26)
 (.seq (.live [4] (.region 7 [
 ⟨(opAssign (some 4) (.const (Value.bool false)) 4 "ref.go:33" #[]).op, none⟩
 ] (by kernel_rfl)))
 (.live [4] .ret))
 .skip)))
 (.live [0, 1, 5] (.region 5 [
 ⟨(opMove (some 15) (.tmp 5) 3 "ref.go:31" #[]).op, none⟩,
 ⟨(opBin (some 16) .add 3 (.tmp 15) (.const (Value.int IntKind.i64 1)) 3 3 "ref.go:31" #[eD 0]).op, none⟩,
 ⟨(opAssign (some 5) (.tmp 16) 3 "ref.go:31" #[eD 1, eP 0, eP 1]).op, none⟩
 ] (by kernel_rfl)))))
noncomputable def f16_r0 : Sim Try.prog :=
 (.seq (.live [4] (.region 8 [
 ⟨(opAssign (some 4) (.const (Value.bool true)) 4 "ref.go:36" #[]).op, none⟩
 ] (by kernel_rfl)))
 (.live [4] .ret))
noncomputable def f16_b : Sim Try.prog :=
 (.seq (.live [0, 1] (.region 0 [
 ⟨(opAssign (some 4) (.const (Value.bool false)) 4 "ref.go:27" #[]).op, none⟩
 ] (by kernel_rfl)))
 (.seq (.seq (.live [0, 1, 10] (.region 1 [
 ⟨(opMove (some 6) (.tmp 0) 22 "ref.go:28" #[]).op, none⟩,
 ⟨(opLen (some 7) (.tmp 6) 22 (.slice 33) Try.underlying22 3 "ref.go:28" #[eD 0]).op, none⟩,
 ⟨(opMove (some 8) (.tmp 1) 22 "ref.go:28" #[]).op, none⟩,
 ⟨(opLen (some 9) (.tmp 8) 22 (.slice 33) Try.underlying22 3 "ref.go:28" #[eD 2]).op, none⟩,
 ⟨(opBin (some 10) .neq 3 (.tmp 7) (.tmp 9) 3 4 "ref.go:28" #[eD 1, eD 3]).op, none⟩
 ] (by kernel_rfl)))
 (.cond (.tmp 10)
 (.seq (.live [4] (.region 2 [
 ⟨(opAssign (some 4) (.const (Value.bool false)) 4 "ref.go:29" #[]).op, none⟩
 ] (by kernel_rfl)))
 (.live [4] .ret))
 .skip))
 (.seq (.seq (.live [0, 1, 5] (.region 3 [
 ⟨(opAssign (some 5) (.const (Value.int IntKind.i64 0)) 3 "ref.go:31" #[]).op, none⟩
 ] (by kernel_rfl)))
 (.block 0 (.loop [0, 1, 5] f16_l0)))
 f16_r0)))
noncomputable def f16 : Fun Try.prog where
 id := 16
 fn := Try.f16
 hf := Try.func16
 hname := by kernel_rfl
 body := f16_b
 hbody := by kernel_rfl
 res := [rTmp 4]
 hres := by kernel_rfl
 n := 27
 hn := by kernel_rfl
noncomputable def f64_b : Sim Try.prog :=
 (.seq (.live [0] (.region 0 [
 ⟨(opAssign (some 2) (.const (Value.bool false)) 4 "wal.go:73" #[]).op, none⟩
 ] (by kernel_rfl)))
 (.seq (.live [2] (.region 1 [
 ⟨(opMove (some 3) (.tmp 0) 5 "wal.go:73" #[]).op, none⟩,
 ⟨(opBin (some 4) .neq 5 (.tmp 3) (.const (Value.int IntKind.u8 0)) 5 4 "wal.go:73" #[eD 0]).op, none⟩,
 ⟨(opAssign (some 2) (.tmp 4) 4 "wal.go:73" #[eD 1, eP 0, eP 1]).op, none⟩
 ] (by kernel_rfl)))
 (.live [2] .ret)))
noncomputable def f64 : Fun Try.prog where
 id := 64
 fn := Try.f64
 hf := Try.func64
 hname := by kernel_rfl
 body := f64_b
 hbody := by kernel_rfl
 res := [rTmp 2]
 hres := by kernel_rfl
 n := 5
 hn := by kernel_rfl
theorem weigh_run (F : Nat) (z : Bool) (l : List (List AV)) (m : Int) (st : St) :
 (f9.run F [.ns z 1 l, .int .i64 m] st : Ans) =
 branch (.bool (decide ((↑l.length : Int) > m)))
 (some (Fin.ret (.int .i64 (IntKind.i64.wrap (m + 1))), st))
 (loopRun (f9_l0.run F) [0, 1, 5, 6]
 (Cont.block 0 (Cont.then (f9_r0.run F (f9.leaveK Fun.done)) (f9.leaveK Fun.done))) F
 (Env.mk 33
 [(0, AV.ns z 1 l), (1, .int .i64 m), (5, .int .i64 0),
 (6, .int .i64 0)])
 st) := by kernel_rfl
theorem weigh_round (F m i : Nat) (n x : Int) (z : Bool) (l : List (List AV)) (st : St) (K : Cont) :
 (loopRun (f9_l0.run F) [0, 1, 5, 6] K m.succ (Env.mk 33 [(0, .ns z 1 l), (1, .int .i64 x), (5, .int .i64 n), (6, .int .i64 (i : Int))]) st : Ans) =
 branch (.bool (decide ((↑i : Int) < (↑l.length : Int))))
 (branch (.bool (decide (n ≤ x)))
 (branch (.bool (inR l (↑i : Int)))
 (branch (.bool ((LD.one (LT.ns 1)).is (V.rowAt l (↑i : Int))))
 (loopRun (f9_l0.run F) [0, 1, 5, 6] K m
 (Env.mk 33
 [(0, AV.ns z 1 l), (1, .int .i64 x),
 (5,
 AV.int IntKind.i64
 (IntKind.i64.wrap (n + IntKind.i64.wrap ((1 : Int) + (↑(rwA (V.rowAt l (↑i : Int))).length : Int))))),
 (6, .int .i64 (IntKind.i64.wrap ((↑i : Int) + 1)))])
 st)
 none)
 none)
 (K (AX.exit 0) (Env.mk 33 [(5, .int .i64 n)]) st))
 (K (AX.exit 0) (Env.mk 33 [(5, .int .i64 n)]) st) := by kernel_rfl
theorem list_run (F : Nat) (z y : Bool) (l b : List (List AV)) (st : St) :
 (f16.run F [.ns z 1 l, .ns y 1 b] st : Ans) =
 branch (.bool ((↑l.length : Int) != (↑b.length : Int))) (some (Fin.ret (.bool false), st))
 (loopRun (f16_l0.run F) [0, 1, 5]
 (Cont.block 0 (Cont.then (f16_r0.run F (f16.leaveK Fun.done)) (f16.leaveK Fun.done))) F
 (Env.mk 27
 [(0, AV.ns z 1 l), (1, AV.ns y 1 b), (5, .int .i64 0)])
 st) := by kernel_rfl
theorem list_round (F m i : Nat) (z y : Bool) (l b : List (List AV)) (st : St) (K : Cont) :
 (loopRun (f16_l0.run F) [0, 1, 5] K m.succ (Env.mk 27 [(0, .ns z 1 l), (1, .ns y 1 b), (5, .int .i64 (i : Int))]) st : Ans) =
 branch (.bool (decide ((↑i : Int) < (↑l.length : Int))))
 (branch (.bool (inR l (↑i : Int)))
 (branch (.bool ((LD.one (LT.ns 1)).is (V.rowAt l (↑i : Int))))
 (branch (.bool (inR b (↑i : Int)))
 (branch (.bool ((LD.one (LT.ns 1)).is (V.rowAt b (↑i : Int))))
 (branch (.bool (byOk (rwA (V.rowAt l (↑i : Int))) && byOk (rwA (V.rowAt b (↑i : Int)))))
 (branch (.bool !nR (rwA (V.rowAt l (↑i : Int))) == nR (rwA (V.rowAt b (↑i : Int))))
 (K AX.ret (Env.mk 27 [(4, AV.bool false)]) st)
 (loopRun (f16_l0.run F) [0, 1, 5] K m
 (Env.mk 27
 [(0, AV.ns z 1 l), (1, AV.ns y 1 b),
 (5, .int .i64 (IntKind.i64.wrap ((↑i : Int) + 1)))])
 st))
 none)
 none)
 none)
 none)
 none)
 (K (AX.exit 0) (Env.mk 27 []) st) := by kernel_rfl
theorem zer_run (F : Nat) (c : Int) (st : St) :
 (f64.run F [.int .u8 c] st : Ans) =
 some (Fin.ret (.bool (c != 0)), st) := by kernel_rfl
noncomputable def isB (r : List AV) : Bool := match r with
 | [x] => match x with
  | .ns _ sz d => Nat.beq sz 1 && byOk d
  | _ => false
 | _ => false
theorem isB_spec {r : List AV} (h : isB r = true) : ∃ z d, r = [.ns z 1 d] ∧ byOk d = true := by
 unfold isB at h
 split at h
 ·split at h
  ·rw [Bool.and_eq_true] at h
   obtain rfl := Nat.eq_of_beq_eq_true h.1
   exact ⟨_, _, rfl, h.2⟩
  ·cases h
 ·cases h
noncomputable def okBs (l : List (List AV)) : Bool := opq (l.all isB && decide (l.length < 4611686018427387904))
theorem okBs_iff {l : List (List AV)} : okBs l = true ↔ (∀ r ∈ l, isB r = true) ∧ l.length < 4611686018427387904 := by
 rw [okBs, opq_eq, Bool.and_eq_true, List.all_eq_true, decide_eq_true_eq]
theorem okBs_scoped {n m : Nat} : ∀ {l : List (List AV)}, (∀ r ∈ l, isB r = true) → ScopedR n m l
 | [], _ => trivial
 | r :: l, h => by
  obtain ⟨z, d, rfl, hd⟩ := isB_spec (h r (by simp))
  exact ⟨⟨okR_scoped (byOk_iff.mp hd).1, trivial⟩, okBs_scoped fun x hx => h x (by simp [hx])⟩
def bsR (l : List (List AV)) : List (List Nat) := l.map fun r => nR (rwA r)
theorem isB_at {l : List (List AV)} (h : ∀ r ∈ l, isB r = true) {i : Nat} (hi : i < l.length) : inR l (i : Int) = true ∧ (LD.one (LT.ns 1)).is (V.rowAt l (i : Int)) = true ∧ byOk (rwA (V.rowAt l (i : Int))) = true ∧ V.rowAt l (i : Int) = l[i] := by
 obtain ⟨z, d, hr, hd⟩ := isB_spec (h _ (List.getElem_mem hi))
 rw [rowAt_nat hi, hr]
 exact ⟨inR_nat hi, rfl, hd, rfl⟩
def weighI (x : Int) : List (List AV) → Int → Int
 | [], n => n
 | r :: t, n => if n ≤ x then weighI x t (IntKind.i64.wrap (n + IntKind.i64.wrap (1 + ((rwA r).length : Int)))) else n
noncomputable def weighV (l : List (List AV)) (x : Int) : Int := opq (if (l.length : Int) > x then IntKind.i64.wrap (x + 1) else weighI x l 0)
theorem weigh_loop (F : Nat) (x : Int) (z : Bool) (l : List (List AV)) (hl : ∀ r ∈ l, isB r = true) (hn : l.length < 4611686018427387904) (st : St) : ∀ (d i m : Nat) (n : Int), i + d = l.length → d < m →
  loopRun (f9_l0.run F) [0, 1, 5, 6] (Cont.block 0 (Cont.then (f9_r0.run F (f9.leaveK Fun.done)) (f9.leaveK Fun.done))) m (Env.mk 33 [(0, .ns z 1 l), (1, .int .i64 x), (5, .int .i64 n), (6, .int .i64 (i : Int))]) st
   = some (.ret (.int .i64 (weighI x (l.drop i) n)), st)
 | d, i, 0, n, _, h => by omega
 | 0, i, m + 1, n, h, _ => by
  rw [show m + 1 = m.succ from rfl, weigh_round, branch_not (decide_eq_false (by omega)), List.drop_eq_nil_of_le (by omega)]; rfl
 | d + 1, i, m + 1, n, h, hm => by
  have hi : i < l.length := by omega
  obtain ⟨a1, a2, a3, a4⟩ := isB_at hl hi
  rw [show m + 1 = m.succ from rfl, weigh_round, branch_of (decide_eq_true (by omega)), List.drop_eq_getElem_cons hi, weighI]
  by_cases hc : n ≤ x
  ·rw [branch_of (decide_eq_true hc), branch_of a1, branch_of a2, a4, if_pos hc, wrap_succ (by omega)]
   exact weigh_loop F x z l hl hn st d (i + 1) m _ (by omega) (by omega)
  ·rw [branch_not (decide_eq_false hc), if_neg hc]; rfl
noncomputable def p9 : POrc Try.prog := f9.farN
 (fun args k => match args with
  | [x, y] => onNs 1 x fun _ l => onInt y fun kd n => ifT (okBs l && decide (kd = .i64)) (k (.int .i64 (weighV l n)))
  | _ => none)
 fun args k fin h => by
  split at h
  ·rename_i x y
   obtain ⟨z, l, g1, hx⟩ := onNs_spec h
   obtain ⟨kd, n, g2, rfl⟩ := onInt_spec g1
   obtain ⟨h1, g3⟩ := ifT_spec g2
   simp only [Bool.and_eq_true, decide_eq_true_eq] at h1
   obtain ⟨h1, rfl⟩ := h1
   obtain ⟨l1, l2⟩ := okBs_iff.mp h1
   refine ⟨_, _, g3, .cons hx (.cons (.refl _) .nil), ⟨okBs_scoped l1, trivial, trivial⟩, trivial, l.length + 1, .int .i64 _, ⟨[], []⟩, rfl, ?_⟩
   rw [weigh_run, weighV, opq_eq]
   by_cases hc : (l.length : Int) > n
   ·rw [branch_of (decide_eq_true hc), if_pos hc]
   ·rw [branch_not (decide_eq_false hc), if_neg hc]
    exact weigh_loop _ n z l l1 l2 _ l.length 0 _ 0 (by omega) (by omega)
  ·cases h
theorem list_loop (F : Nat) (z y : Bool) (l b : List (List AV)) (hl : ∀ r ∈ l, isB r = true) (hb : ∀ r ∈ b, isB r = true) (hn : l.length < 4611686018427387904) (he : l.length = b.length) (st : St) : ∀ (d i m : Nat), i + d = l.length → d < m →
  loopRun (f16_l0.run F) [0, 1, 5] (Cont.block 0 (Cont.then (f16_r0.run F (f16.leaveK Fun.done)) (f16.leaveK Fun.done))) m (Env.mk 27 [(0, .ns z 1 l), (1, .ns y 1 b), (5, .int .i64 (i : Int))]) st
   = some (.ret (.bool (bsR (l.drop i) == bsR (b.drop i))), st)
 | d, i, 0, _, h => by omega
 | 0, i, m + 1, h, _ => by
  rw [show m + 1 = m.succ from rfl, list_round, branch_not (decide_eq_false (by omega)), List.drop_eq_nil_of_le (by omega), List.drop_eq_nil_of_le (by omega)]; rfl
 | d + 1, i, m + 1, h, hm => by
  have hi : i < l.length := by omega
  have hi' : i < b.length := by omega
  obtain ⟨a1, a2, a3, a4⟩ := isB_at hl hi
  obtain ⟨b1, b2, b3, b4⟩ := isB_at hb hi'
  rw [show m + 1 = m.succ from rfl, list_round, branch_of (decide_eq_true (by omega)), branch_of a1, branch_of a2, branch_of b1, branch_of b2, branch_of (by rw [a3, b3]; rfl), wrap_succ (by omega), a4, b4, List.drop_eq_getElem_cons hi, List.drop_eq_getElem_cons hi',
   list_loop F z y l b hl hb hn he st d (i + 1) m (by omega) (by omega)]
  simp only [bsR, List.map_cons, List.cons_beq_cons]
  cases nR (rwA l[i]) == nR (rwA b[i]) <;> rfl
noncomputable def p16 : POrc Try.prog := f16.farN
 (fun args k => match args with
  | [x, y] => onNs 1 x fun _ l => onNs 1 y fun _ b => ifT (okBs l && okBs b) (k (.bool (bsR l == bsR b)))
  | _ => none)
 fun args k fin h => by
  split at h
  ·rename_i x y
   obtain ⟨z, l, h, hx⟩ := onNs_spec h
   obtain ⟨z', b, h, hy⟩ := onNs_spec h
   obtain ⟨h1, h⟩ := ifT_spec h
   rw [Bool.and_eq_true] at h1
   obtain ⟨l1, l2⟩ := okBs_iff.mp h1.1
   obtain ⟨b1, b2⟩ := okBs_iff.mp h1.2
   refine ⟨_, _, h, .cons hx (.cons hy .nil), ⟨okBs_scoped l1, okBs_scoped b1, trivial⟩, trivial, l.length + 1, .bool _, ⟨[], []⟩, rfl, ?_⟩
   rw [list_run]
   by_cases hc : l.length = b.length
   ·rw [branch_not (by simp [hc])]
    exact list_loop _ z z' l b l1 b1 l2 hc _ l.length 0 _ (by omega) (by omega)
   ·rw [branch_of (by simp; omega)]
    have : (bsR l == bsR b) = false := by
     rw [beq_eq_false_iff_ne]; intro e
     have := congrArg List.length e
     simp only [bsR, List.length_map] at this
     exact hc this
    rw [this]
  ·cases h
noncomputable def p64 : POrc Try.prog := f64.farN
 (fun args k => match args with
  | [.int .u8 c] => k (.bool (c != 0))
  | _ => none)
 fun args k fin h => by
  split at h
  ·rename_i c
   exact ⟨_, _, h, .cons (.refl _) .nil, ⟨trivial, trivial⟩, trivial, 0, .bool _, ⟨[], []⟩, rfl, zer_run 0 c _⟩
  ·cases h
noncomputable def f76_l0 (Os : List (Orc Try.prog)) : Sim Try.prog :=
 (.seq (.live [0, 1, 7, 8, 9] (.region 2 [
 ⟨(opBin (some 9) .lss 3 (.tmp 8) (.tmp 7) 3 0 "slices.go:108" #[]).op, none⟩
 ] (by kernel_rfl)))
 (.seq (.cond (.tmp 9)
 .skip
 (.live [] (.exit 0)))
 (.seq (.block 1 (.seq (.live [0, 1, 5, 7, 8] (.region 3 [
 ⟨(opMove (some 10) (.tmp 8) 3 "slices.go:108" #[]).op, none⟩,
 ⟨(opAssign (some 5) (.tmp 10) 3 "slices.go:108" #[eD 0, eP 0]).op, none⟩
 ] (by kernel_rfl)))
 (.seq (.live [0, 1, 5, 7, 8, 16] (.region 4 [
 ⟨(opMove (some 11) (.tmp 1) 106 "slices.go:109" #[]).op, none⟩,
 ⟨(opMove (some 12) (.tmp 0) 81 "slices.go:109" #[]).op, none⟩,
 ⟨(opMove (some 13) (.tmp 5) 3 "slices.go:109" #[]).op, none⟩,
 ⟨(opIndexAddrT (some 14) 81 (.tmp 12) (.tmp 13) 5 1 Try.underlying81 sz5 0 "slices.go:109" #[eD 1, eD 2]).op, none⟩,
 ⟨(opLoadT (.one (.int .u8)) (some 15) 5 (.tmp 14) (.int .u8) Try.underlying5 1 sz5 (by kernel_rfl) 5 "slices.go:109" #[eD 3]).op, none⟩,
 ⟨opCallDyn Os (some 16) 11 [(.tmp 15)] #[5] 4 "slices.go:109" #[eD 0, eD 4], none⟩
 ] (by kernel_rfl)))
 (.cond (.tmp 16)
 (.seq (.live [4] (.region 5 [
 ⟨(opMove (some 17) (.tmp 5) 3 "slices.go:110" #[]).op, none⟩,
 ⟨(opAssign (some 4) (.tmp 17) 3 "slices.go:110" #[eD 0, eP 0]).op, none⟩
 ] (by kernel_rfl)))
 (.live [4] .ret))
 .skip))))
 (.live [0, 1, 7, 8] (.region 6 [
 ⟨(opBin (some 18) .add 3 (.tmp 8) (.const (Value.int IntKind.i64 1)) 3 3 "slices.go:108" #[]).op, none⟩,
 ⟨(opMove (some 8) (.tmp 18) 3 "slices.go:108" #[eD 0]).op, none⟩
 ] (by kernel_rfl))))))
noncomputable def f76_r0 (Os : List (Orc Try.prog)) : Sim Try.prog :=
 (.seq (.live [4] (.region 7 [
 ⟨(opAssign (some 4) (.const (Value.int IntKind.i64 (-1))) 3 "slices.go:113" #[]).op, none⟩
 ] (by kernel_rfl)))
 (.live [4] .ret))
noncomputable def f76_b (Os : List (Orc Try.prog)) : Sim Try.prog :=
 (.seq (.live [0, 1] (.region 0 [
 ⟨(opAssign (some 4) (.const (Value.int IntKind.i64 0)) 3 "slices.go:107" #[]).op, none⟩
 ] (by kernel_rfl)))
 (.seq (.seq (.live [0, 1, 7, 8] (.region 1 [
 ⟨(opMove (some 6) (.tmp 0) 81 "slices.go:108" #[]).op, none⟩,
 ⟨(opLen (some 7) (.tmp 6) 81 (.slice 5) Try.underlying81 3 "slices.go:108" #[eD 0]).op, none⟩,
 ⟨(opMove (some 8) (.const (Value.int IntKind.i64 0)) 3 "slices.go:108" #[]).op, none⟩
 ] (by kernel_rfl)))
 (.block 0 (.loop [0, 1, 7, 8] (f76_l0 Os))))
 (f76_r0 Os)))
noncomputable def f76 (Os : List (Orc Try.prog)) : Fun Try.prog where
 id := 76
 fn := Try.f76
 hf := Try.func76
 hname := by kernel_rfl
 body := f76_b Os
 hbody := by kernel_rfl
 res := [rTmp 4]
 hres := by kernel_rfl
 n := 19
 hn := by kernel_rfl
noncomputable def OsZ : List (Orc Try.prog) := [p64.orcS.orc]
theorem idx_run (F : Nat) (z : Bool) (l : List (List AV)) (st : St) :
 ((f76 OsZ).run F [.ns z 1 l, .fn (.func 64) [] []] st : Ans) =
 loopRun ((f76_l0 OsZ).run F) [0, 1, 7, 8]
 (Cont.block 0 (Cont.then ((f76_r0 OsZ).run F ((f76 OsZ).leaveK Fun.done)) ((f76 OsZ).leaveK Fun.done))) F
 (Env.mk 19
 [(0, AV.ns z 1 l), (1, AV.fn (Fn.func (64 : FuncId)) [] []),
 (7, .int .i64 (↑l.length : Int)), (8, .int .i64 0)])
 st := by kernel_rfl
theorem idx_round (F n : Nat) (K : Cont) (z : Bool) (l : List (List AV)) (i e : Int) (st : St) :
 (loopRun ((f76_l0 OsZ).run F) [0, 1, 7, 8] K n.succ (Env.mk 19 [(0, .ns z 1 l), (1, .fn (.func 64) [] []), (7, .int .i64 e), (8, .int .i64 i)]) st : Ans) =
 branch (.bool (decide (i < e)))
 (branch (.bool (inR l i))
 (branch (.bool ((LD.one (LT.int IntKind.u8)).is (V.rowAt l i)))
 (branch (.bool (hdI (V.rowAt l i) != 0))
 (K AX.ret (Env.mk 19 [(4, .int .i64 i)]) st)
 (loopRun ((f76_l0 OsZ).run F) [0, 1, 7, 8] K n
 (Env.mk 19
 [(0, AV.ns z 1 l), (1, AV.fn (Fn.func (64 : FuncId)) [] []),
 (7, .int .i64 e), (8, .int .i64 (IntKind.i64.wrap (i + 1)))])
 st))
 none)
 none)
 (K (AX.exit 0) (Env.mk 19 []) st) := by kernel_rfl
theorem idx_out (F : Nat) (st : St) :
 ((Cont.block 0 (Cont.then ((f76_r0 OsZ).run F ((f76 OsZ).leaveK Fun.done)) ((f76 OsZ).leaveK Fun.done))) (.exit 0) (Env.mk 19 []) st : Ans) =
 some (Fin.ret (.int .i64 (-1 : Int)), st) := by kernel_rfl
theorem idx_ret (F : Nat) (i : Int) (st : St) :
 ((Cont.block 0 (Cont.then ((f76_r0 OsZ).run F ((f76 OsZ).leaveK Fun.done)) ((f76 OsZ).leaveK Fun.done))) .ret (Env.mk 19 [(4, .int .i64 i)]) st : Ans) =
 some (Fin.ret (.int .i64 i), st) := by kernel_rfl
def idxZ : List Nat → Nat → Int
 | [], _ => -1
 | x :: t, i => if x ≠ 0 then (i : Int) else idxZ t (i + 1)
theorem idxZ_ge : ∀ (l : List Nat) (i : Nat), decide (idxZ l i ≥ 0) = l.any (· != 0)
 | [], _ => rfl
 | x :: t, i => by
  rw [idxZ, List.any_cons, ← idxZ_ge t (i + 1)]
  by_cases h : x = 0
  ·simp [h]
  ·simp [h]
noncomputable def idxV (l : List (List AV)) : Int := opq (idxZ (nR l) 0)
theorem idx_loop (F : Nat) (z : Bool) (l : List (List AV)) (h : byOk l = true) (st : St) : ∀ (d i m : Nat), i + d = l.length → d < m →
  loopRun ((f76_l0 OsZ).run F) [0, 1, 7, 8] (Cont.block 0 (Cont.then ((f76_r0 OsZ).run F ((f76 OsZ).leaveK Fun.done)) ((f76 OsZ).leaveK Fun.done))) m (Env.mk 19 [(0, .ns z 1 l), (1, .fn (.func 64) [] []), (7, .int .i64 (l.length : Int)), (8, .int .i64 (i : Int))]) st
   = some (.ret (.int .i64 (idxZ ((nR l).drop i) i)), st)
 | d, i, 0, _, hm => by omega
 | 0, i, m + 1, h', _ => by
  rw [show m + 1 = m.succ from rfl, idx_round, branch_not (decide_eq_false (by omega)), idx_out, List.drop_eq_nil_of_le (by rw [nR_length]; omega)]; rfl
 | d + 1, i, m + 1, h', hm => by
  have hi : i < l.length := by omega
  have hb := byOk_iff.mp h
  obtain ⟨a1, a2⟩ := okR_at hb.1 hi
  rw [show m + 1 = m.succ from rfl, idx_round, branch_of (decide_eq_true (by omega)), branch_of (inR_nat hi), branch_of a1, a2, List.drop_eq_getElem_cons (by rw [nR_length]; exact hi), idxZ]
  by_cases hc : (nR l)[i]'(by rw [nR_length]; exact hi) = 0
  ·rw [branch_not (by simp [hc]), if_neg (by simp [hc]), wrap_succ (by omega)]
   exact idx_loop F z l h st d (i + 1) m (by omega) (by omega)
  ·rw [branch_of (by simpa using hc), if_pos hc, idx_ret]
noncomputable def p76 : POrc Try.prog := (f76 OsZ).farN
 (fun args k => match args with
  | [x, .fn (.func 64) [] []] => onNs 1 x fun _ l => ifT (byOk l) (k (.int .i64 (idxV l)))
  | _ => none)
 fun args k fin h => by
  split at h
  ·rename_i x
   obtain ⟨z, l, h, hx⟩ := onNs_spec h
   obtain ⟨h1, h⟩ := ifT_spec h
   refine ⟨_, _, h, .cons hx (.cons (.refl _) .nil), ⟨okR_scoped (byOk_iff.mp h1).1, ⟨trivial, trivial, trivial⟩, trivial⟩, trivial, l.length + 1, .int .i64 _, ⟨[], []⟩, rfl, (idx_run _ z l _).trans ?_⟩
   rw [idxV, opq_eq]
   exact idx_loop _ z l h1 _ l.length 0 _ (by omega) (by omega)
  ·cases h
noncomputable def f63_b : Sim Try.prog :=
 (.seq (.live [0, 1] (.region 0 [
 ⟨(opAssign (some 4) (.const (Value.bool false)) 4 "slices.go:124" #[]).op, none⟩
 ] (by kernel_rfl)))
 (.seq (.live [4] (.region 1 [
 ⟨(opMove (some 5) (.tmp 0) 81 "slices.go:125" #[]).op, none⟩,
 ⟨(opMove (some 6) (.tmp 1) 106 "slices.go:125" #[]).op, none⟩,
 ⟨(opCallP p76 (some 7) [(.tmp 5), (.tmp 6)] #[81, 106] 3 "slices.go:125" #[eD 0, eD 1]).op, none⟩,
 ⟨(opBin (some 8) .geq 3 (.tmp 7) (.const (Value.int IntKind.i64 0)) 3 4 "slices.go:125" #[eD 2]).op, none⟩,
 ⟨(opAssign (some 4) (.tmp 8) 4 "slices.go:125" #[eD 3, eC 2, eP 0, eP 1, eP 2, eP 3]).op, none⟩
 ] (by kernel_rfl)))
 (.live [4] .ret)))
noncomputable def f63 : Fun Try.prog where
 id := 63
 fn := Try.f63
 hf := Try.func63
 hname := by kernel_rfl
 body := f63_b
 hbody := by kernel_rfl
 res := [rTmp 4]
 hres := by kernel_rfl
 n := 9
 hn := by kernel_rfl
theorem has_run (F : Nat) (z : Bool) (l : List (List AV)) (st : St) :
 (f63.run F [.ns z 1 l, .fn (.func 64) [] []] st : Ans) =
 branch (.bool (byOk l)) (some (Fin.ret (.bool (decide (idxV l ≥ 0))), st)) none := by kernel_rfl
noncomputable def anyV (l : List (List AV)) : Bool := opq ((nR l).any (· != 0))
noncomputable def p63 : POrc Try.prog := f63.farN
 (fun args k => match args with
  | [x, .fn (.func 64) [] []] => onNs 1 x fun _ l => ifT (byOk l) (k (.bool (anyV l)))
  | _ => none)
 fun args k fin h => by
  split at h
  ·rename_i x
   obtain ⟨z, l, h, hx⟩ := onNs_spec h
   obtain ⟨h1, h⟩ := ifT_spec h
   refine ⟨_, _, h, .cons hx (.cons (.refl _) .nil), ⟨okR_scoped (byOk_iff.mp h1).1, ⟨trivial, trivial, trivial⟩, trivial⟩, trivial, 0, .bool _, ⟨[], []⟩, rfl, (has_run _ z l _).trans ?_⟩
   rw [branch_of h1, idxV, opq_eq, idxZ_ge, anyV, opq_eq]
  ·cases h
theorem ze69 : (Try.prog.info? 69).bind (·.zero) = some (.agg #[(.int .i64 0), (.int .i64 0), (.int .i64 0)]) := by kernel_rfl
theorem sz69 : (Try.prog.info? 69).map (·.size) = some 3 := by kernel_rfl
noncomputable abbrev d69 : TypeDesc := (Try.prog.underlying 69).getD .bool
theorem ud69 : Try.prog.underlying 69 = some d69 := by kernel_rfl
noncomputable def f43_b : Sim Try.prog :=
 (.seq (.live [0, 1, 4] (.region 0 [
 ⟨(opAlloc (some 4) 69 (.agg #[(.int .i64 0), (.int .i64 0), (.int .i64 0)]) ze69 0 "wal.go:71" #[]).op, none⟩
 ] (by kernel_rfl)))
 (.seq (.live [0, 1, 4, 5] (.draw 1 [
 ⟨.p (opMove (some 6) (.tmp 0) 81 "wal.go:72" #[]), none⟩,
 ⟨.pn (opCallP p62 (some 7) [(.tmp 6)] #[81] 3 "wal.go:72" #[eD 0]) (opCallP_nat p62_nat), none⟩,
 ⟨.p (opMove (some 8) (.tmp 0) 81 "wal.go:72" #[]), none⟩,
 ⟨.pn (opIndexAddrT (some 9) 81 (.tmp 8) (.const (Value.int IntKind.i64 4)) 5 1 Try.underlying81 sz5 0 "wal.go:72" #[eD 2]) opIndexAddrT_nat, none⟩,
 ⟨.pn (opLoadTF (.one (.int .u8)) (some 10) 5 (.tmp 9) (.int .u8) Try.underlying5 1 sz5 (by kernel_rfl) 5 "wal.go:72" #[eD 3]) opLoadTF_nat, none⟩,
 ⟨.pn (opConvInt (some 11) 5 3 (.tmp 10) (.int .u8) Try.underlying5 .i64 Try.underlying3 3 "wal.go:72" #[eD 4]) opConvInt_nat, none⟩,
 ⟨.p (opMove (some 12) (.tmp 0) 81 "wal.go:72" #[]), none⟩,
 ⟨.pn (opCallP p55 (some 13) [(.tmp 12), (.const (Value.int IntKind.i64 5))] #[81, 3] 3 "wal.go:72" #[eD 6, eC 1]) (opCallP_nat p55_nat), none⟩,
 ⟨.p (opBuild (some 14) 69 #[(.int .i64 0), (.int .i64 0), (.int .i64 0)] [(0, 0, 1, (.tmp 7)), (1, 1, 1, (.tmp 11)), (2, 2, 1, (.tmp 13))] ze69 (by kernel_rfl) 69 "wal.go:72" #[eD 1, eD 5, eD 7]), none⟩,
 ⟨.ma (opAlloc (some 5) 69 (.agg #[(.int .i64 0), (.int .i64 0), (.int .i64 0)]) ze69 0 "wal.go:72" #[]) opAlloc_adds, none⟩,
 ⟨.m (opStore none 69 (.tmp 5) (.tmp 14) 3 sz69 0 "wal.go:72" #[eD 9, eD 8, eC 7, eP 0, eP 1, eP 2, eP 3, eP 4, eP 5, eP 6, eP 7, eP 8, eP 9]), none⟩
 ] mixed (by kernel_rfl)))
 (.seq (.seq (.live [4, 5, 34] (.region 2 [
 ⟨(opFieldAddr (some 15) 69 (.tmp 5) 0 0 1 false fl69_0 (by decide) 0 "wal.go:73" #[]).op, none⟩,
 ⟨(opLoadT (.one (.int .i64)) (some 16) 3 (.tmp 15) (.int .i64) Try.underlying3 1 sz3 (by kernel_rfl) 3 "wal.go:73" #[eD 0]).op, none⟩,
 ⟨(opBin (some 17) .rem 3 (.tmp 16) (.const (Value.int IntKind.i64 2)) 3 3 "wal.go:73" #[eD 1]).op, none⟩,
 ⟨(opMove (some 18) (.tmp 1) 3 "wal.go:73" #[]).op, none⟩,
 ⟨(opBin (some 19) .neq 3 (.tmp 17) (.tmp 18) 3 4 "wal.go:73" #[eD 2, eD 3]).op, none⟩,
 ⟨(opMove (some 20) (.tmp 19) 4 "wal.go:73" #[eD 4]).op, none⟩,
 ⟨(opFieldAddr (some 21) 69 (.tmp 5) 1 1 1 false fl69_1 (by decide) 0 "wal.go:73" #[eG 5]).op, (some (5, 20, false))⟩,
 ⟨(opLoadT (.one (.int .i64)) (some 22) 3 (.tmp 21) (.int .i64) Try.underlying3 1 sz3 (by kernel_rfl) 3 "wal.go:73" #[eD 6, eG 5]).op, (some (5, 20, false))⟩,
 ⟨(opBin (some 23) .geq 3 (.tmp 22) (.const (Value.int IntKind.i64 2)) 3 4 "wal.go:73" #[eD 7, eG 5]).op, (some (5, 20, false))⟩,
 ⟨(opPick (some 24) (.tmp 20) (.const (Value.bool true)) (.tmp 23) 4 "wal.go:73" #[eD 5, eD 8]).op, none⟩,
 ⟨(opMove (some 25) (.tmp 24) 4 "wal.go:73" #[eD 9, eC 5]).op, none⟩,
 ⟨(opFieldAddr (some 26) 69 (.tmp 5) 2 2 1 false fl69_2 (by decide) 0 "wal.go:73" #[eG 10]).op, (some (10, 25, false))⟩,
 ⟨(opLoadT (.one (.int .i64)) (some 27) 3 (.tmp 26) (.int .i64) Try.underlying3 1 sz3 (by kernel_rfl) 3 "wal.go:73" #[eD 11, eG 10]).op, (some (10, 25, false))⟩,
 ⟨(opBin (some 28) .lss 3 (.tmp 27) (.const (Value.int IntKind.i64 1)) 3 4 "wal.go:73" #[eD 12, eG 10]).op, (some (10, 25, false))⟩,
 ⟨(opPick (some 29) (.tmp 25) (.const (Value.bool true)) (.tmp 28) 4 "wal.go:73" #[eD 10, eD 13]).op, none⟩,
 ⟨(opMove (some 30) (.tmp 29) 4 "wal.go:73" #[eD 14, eC 10]).op, none⟩,
 ⟨(opMove (some 31) (.tmp 0) 81 "wal.go:73" #[eG 15]).op, (some (15, 30, false))⟩,
 ⟨(opSlice (some 32) 81 (.tmp 31) (some (.const (Value.int IntKind.i64 9))) (some (.const (Value.int IntKind.i64 60))) none 5 1 Try.underlying81 sz5 81 "wal.go:73" #[eD 16, eG 15]).op, (some (15, 30, false))⟩,
 ⟨(opCallP p63 (some 33) [(.tmp 32), (.func 64)] #[81, 106] 4 "wal.go:73" #[eD 17, eC 15, eG 15]).op, (some (15, 30, false))⟩,
 ⟨(opPick (some 34) (.tmp 30) (.const (Value.bool true)) (.tmp 33) 4 "wal.go:73" #[eD 15, eD 18]).op, none⟩
 ] (by kernel_rfl)))
 (.cond (.tmp 34)
 (.seq (.live [4] (.region 3 [
 ⟨(opBuild (some 35) 69 #[(.int .i64 0), (.int .i64 0), (.int .i64 0)] [] ze69 (by kernel_rfl) 69 "wal.go:74" #[]).op, none⟩,
 ⟨(opStore none 69 (.tmp 4) (.tmp 35) 3 sz69 0 "wal.go:74" #[eD 0, eP 0]).op, none⟩
 ] (by kernel_rfl)))
 (.live [4] .ret))
 .skip))
 (.seq (.live [4] (.region 4 [
 ⟨(opLoadT (.agg [(.int .i64), (.int .i64), (.int .i64)]) (some 36) 69 (.tmp 5) d69 ud69 3 sz69 (by kernel_rfl) 69 "wal.go:76" #[]).op, none⟩,
 ⟨(opStore none 69 (.tmp 4) (.tmp 36) 3 sz69 0 "wal.go:76" #[eD 0, eP 0]).op, none⟩
 ] (by kernel_rfl)))
 (.live [4] .ret)))))
noncomputable def f43 : Fun Try.prog where
 id := 43
 fn := Try.f43
 hf := Try.func43
 hname := by kernel_rfl
 body := f43_b
 hbody := by kernel_rfl
 res := [rCell 4 69 d69 ud69 3 sz69]
 hres := by kernel_rfl
 n := 37
 hn := by kernel_rfl
theorem headOf_run (F : Nat) (z : Bool) (l : List (List AV)) (n : Int) :
 (f43.run F [.ns z 1 l, .int .i64 n] ⟨[], []⟩ : Ans) =
 branch (.bool (byOk l && decide (64 ≤ l.length)))
 (branch (.bool (inR l (4 : Int)))
 (branch (.bool ((LD.one (LT.int IntKind.u8)).is (V.rowAt l (4 : Int))))
 (branch (.bool (true && (byOk l && decide ((0 : Int) ≤ 5 ∧ (9 : Int) ≤ (↑l.length : Int)))))
 (branch (.bool ((stpV l).tmod (2 : Int) != n))
 (some
 (Fin.ret
 (AV.agg [.int .i64 0, .int .i64 0, .int .i64 0]),
 St.mk
 [Ob.cells [.int .i64 0, .int .i64 0, .int .i64 0],
 Ob.cells
 [.int .i64 (stpV l), .int .i64 (IntKind.i64.wrap (hdI (V.rowAt l (4 : Int)))),
 .int .i64 (numV l (5 : Int))]]
 []))
 (branch (.bool (decide (IntKind.i64.wrap (hdI (V.rowAt l (4 : Int))) ≥ 2)))
 (some
 (Fin.ret
 (AV.agg [.int .i64 0, .int .i64 0, .int .i64 0]),
 St.mk
 [Ob.cells [.int .i64 0, .int .i64 0, .int .i64 0],
 Ob.cells
 [.int .i64 (stpV l), .int .i64 (IntKind.i64.wrap (hdI (V.rowAt l (4 : Int)))),
 .int .i64 (numV l (5 : Int))]]
 []))
 (branch (.bool (decide (numV l (5 : Int) < 1)))
 (some
 (Fin.ret
 (AV.agg [.int .i64 0, .int .i64 0, .int .i64 0]),
 St.mk
 [Ob.cells
 [.int .i64 0, .int .i64 0, .int .i64 0],
 Ob.cells
 [.int .i64 (stpV l), .int .i64 (IntKind.i64.wrap (hdI (V.rowAt l (4 : Int)))),
 .int .i64 (numV l (5 : Int))]]
 []))
 (if (0 : Int) ≤ 60 ∧ (60 : Int) ≤ (↑l.length : Int) then
 branch (.bool (byOk (List.drop 9 (List.take 60 l))))
 (branch (.bool (anyV (List.drop 9 (List.take 60 l))))
 (some
 (Fin.ret
 (AV.agg
 [.int .i64 0, .int .i64 0, .int .i64 0]),
 St.mk
 [Ob.cells
 [.int .i64 0, .int .i64 0,
 .int .i64 0],
 Ob.cells
 [.int .i64 (stpV l),
 .int .i64 (IntKind.i64.wrap (hdI (V.rowAt l (4 : Int)))),
 .int .i64 (numV l (5 : Int))]]
 []))
 (some
 (Fin.ret
 (AV.agg
 [.int .i64 (stpV l),
 .int .i64 (IntKind.i64.wrap (hdI (V.rowAt l (4 : Int)))),
 .int .i64 (numV l (5 : Int))]),
 St.mk
 [Ob.cells
 [.int .i64 (stpV l),
 .int .i64 (IntKind.i64.wrap (hdI (V.rowAt l (4 : Int)))),
 .int .i64 (numV l (5 : Int))],
 Ob.cells
 [.int .i64 (stpV l),
 .int .i64 (IntKind.i64.wrap (hdI (V.rowAt l (4 : Int)))),
 .int .i64 (numV l (5 : Int))]]
 [])))
 none
 else none))))
 none)
 none)
 none)
 none := by kernel_rfl
structure Hd where
 g : Nat
 a : Nat
 f : Nat
def headD (b : List Nat) (s : Nat) : Hd :=
 if stampB b % 2 ≠ s ∨ 2 ≤ b.getD 4 0 ∨ numB b 5 < 1 ∨ ((b.take 60).drop 9).any (· != 0) then ⟨0, 0, 0⟩ else ⟨stampB b, b.getD 4 0, numB b 5⟩
noncomputable def hdgV (l : List (List AV)) (s : Int) : Int := opq (((headD (nR l) s.toNat).g : Nat) : Int)
noncomputable def hdaV (l : List (List AV)) (s : Int) : Int := opq (((headD (nR l) s.toNat).a : Nat) : Int)
noncomputable def hdfV (l : List (List AV)) (s : Int) : Int := opq (((headD (nR l) s.toNat).f : Nat) : Int)
theorem nR_sub (l : List (List AV)) (n m : Nat) : nR ((l.take n).drop m) = ((nR l).take n).drop m := by simp [nR]
theorem byOk_sub {l : List (List AV)} (h : byOk l = true) (n m : Nat) : byOk ((l.take n).drop m) = true := by
 rw [byOk_iff] at h ⊢
 refine ⟨okR_drop (okR_take h.1 n) m, ?_⟩
 simp only [List.length_drop, List.length_take]; omega
theorem headOf_all (F : Nat) (z : Bool) (l : List (List AV)) (h : byOk l = true) (hn : 64 ≤ l.length) (s : Nat) :
  ∃ os, f43.run F [.ns z 1 l, .int .i64 (s : Int)] ⟨[], []⟩ = some (.ret (.agg [.int .i64 (hdgV l s), .int .i64 (hdaV l s), .int .i64 (hdfV l s)]), ⟨os, []⟩) := by
 have hb := byOk_iff.mp h
 obtain ⟨a1, a2⟩ := okR_at hb.1 (i := 4) (by omega)
 have hlt : ∀ x ∈ nR l, x < 256 := fun x hx => okR_lt hb.1 hx
 have e4 : hdI (V.rowAt l (4 : Int)) = (((nR l).getD 4 0 : Nat) : Int) := by
  rw [show (4 : Int) = ((4 : Nat) : Int) from rfl, a2, List.getD_eq_getElem?_getD, List.getElem?_eq_getElem (by rw [nR_length]; omega)]; rfl
 have g4 := getD_lt hlt 4
 have e5 : numV l 5 = ((numB (nR l) 5 : Nat) : Int) := by rw [numV, opq_eq]; rfl
 have es : stpV l = ((stampB (nR l) : Nat) : Int) := by rw [stpV, opq_eq]
 have c2 : byOk (List.drop 9 (List.take 60 l)) = true := byOk_sub h 60 9
 have et : ((stampB (nR l) : Nat) : Int).tmod 2 = ((stampB (nR l) % 2 : Nat) : Int) := by rw [Int.tmod_eq_emod_of_nonneg (by omega)]; omega
 have i4 : inR l (4 : Int) = true := inR_nat (i := 4) (by omega)
 have a1' : (LD.one (.int .u8)).is (V.rowAt l (4 : Int)) = true := a1
 rw [headOf_run, branch_of (by rw [h]; simp; omega), branch_of i4, branch_of a1', branch_of (by rw [h]; simp; omega), e4, e5, es, et, wrap_nat (by omega), branch_of c2, anyV, opq_eq, nR_sub, hdgV, opq_eq, hdaV, opq_eq, hdfV, opq_eq, Int.toNat_natCast]
 by_cases h1 : stampB (nR l) % 2 = s
 ·rw [branch_not (by simp; omega)]
  by_cases h2 : 2 ≤ (nR l).getD 4 0
  ·rw [branch_of (decide_eq_true (by omega)), headD, if_pos (.inr (.inl h2))]; exact ⟨_, rfl⟩
  ·rw [branch_not (decide_eq_false (by omega))]
   by_cases h3 : numB (nR l) 5 < 1
   ·rw [branch_of (decide_eq_true (by omega)), headD, if_pos (.inr (.inr (.inl h3)))]; exact ⟨_, rfl⟩
   ·rw [branch_not (decide_eq_false (by omega)), if_pos ⟨by decide, by omega⟩]
    by_cases h4 : ((nR l).take 60).drop 9 |>.any (· != 0)
    ·rw [branch_of h4, headD, if_pos (.inr (.inr (.inr h4)))]; exact ⟨_, rfl⟩
    ·rw [branch_not (by simpa using h4), headD, if_neg (by rintro (h | h | h | h) <;> first | exact h h1 | exact h2 h | exact h3 h | exact h4 h)]; exact ⟨_, rfl⟩
 ·rw [branch_of (by simp; omega), headD, if_pos (.inl h1)]; exact ⟨_, rfl⟩
noncomputable def p43 : POrc Try.prog := f43.farN
 (fun args k => match args with
  | [x, y] => onNs 1 x fun _ l => onInt y fun kd n => ifT (decide (kd = .i64) && (byOk l && decide (0 ≤ n ∧ 64 ≤ l.length))) (k (.agg [.int .i64 (hdgV l n), .int .i64 (hdaV l n), .int .i64 (hdfV l n)]))
  | _ => none)
 fun args k fin h => by
  split at h
  ·rename_i x y
   obtain ⟨z, l, g1, hx⟩ := onNs_spec h
   obtain ⟨kd, n, g2, rfl⟩ := onInt_spec g1
   obtain ⟨h1, g3⟩ := ifT_spec g2
   simp only [Bool.and_eq_true, decide_eq_true_eq] at h1
   obtain ⟨rfl, h2, h3, h4⟩ := h1
   obtain ⟨n, rfl⟩ := Int.eq_ofNat_of_zero_le h3
   obtain ⟨os, hr⟩ := headOf_all 10 z l h2 h4 n
   exact ⟨_, _, g3, .cons hx (.cons (.refl _) .nil), ⟨okR_scoped (byOk_iff.mp h2).1, trivial, trivial⟩, ⟨trivial, trivial, trivial, trivial⟩, 10, .agg _, ⟨os, []⟩, rfl, hr⟩
  ·cases h
theorem onD_nat {x : AV} {st : St} {s s' : Nat → Dk → Ans} {K : AV → Ans} (h : ∀ i X, s i X = thenA (s' i X) K) : onD x st s = thenA (onD x st s') K := by
 unfold onD
 split
 ·split
  ·split
   ·split
    ·split
     ·split
      ·split
       ·unfold onSome
        split
        ·rfl
        ·exact h _ _
       ·rfl
      ·rfl
     ·rfl
    ·rfl
   ·rfl
  ·rfl
 ·rfl
noncomputable def q35 : OrcQ Try.prog := f35.byQ
 (fun args st k => match args with
  | [x] => onD x st fun i X => k (.int .i64 (X.n : Int))
  | _ => none)
 fun args st k fin h => by
  split at h
  ·rename_i x
   obtain ⟨i, a, b, c, d, X, rfl, h0, h1, h2, h3, hd, g901⟩ := onD_spec h
   have := dk_placed (f := f35) (r := .int .i64 (X.n : Int)) (args0 := [.ptr 2 0]) (xs := []) (X := X) (Y := X) (F := 0) (by rw [List.append_nil]; exact size_run _ _ _ _ _ _) hd.1 ⟨by show 2 < 4; omega, trivial⟩ trivial hd h0 h1 h2 h3
   rw [same_plD hd h0 h1 h2 h3] at this
   exact ⟨_, g901, this⟩
  ·cases h
noncomputable def q65 : OrcQ Try.prog := f65.byQ
 (fun args st k => match args with
  | [x, n] => onD x st fun i X => onInt n fun kd n => ifT (decide (kd = .i64)) (k (.tup [.ns (!X.inD n) 1 (bR (X.rdB n)), .int .i64 (X.rdE n)]))
  | _ => none)
 fun args st k fin h => by
  split at h
  ·rename_i x n
   obtain ⟨i, a, b, c, d, X, rfl, h0, h1, h2, h3, hd, g901⟩ := onD_spec h
   obtain ⟨kd, n, g902, rfl⟩ := onInt_spec g901
   obtain ⟨hk, g903⟩ := ifT_spec g902
   obtain rfl := of_decide_eq_true hk
   obtain ⟨xs, hrun⟩ := read_can (F := 0) hd.1 n
   refine ⟨_, g903, ?_⟩
   have hs := same_plD hd h0 h1 h2 h3
   by_cases hn : 0 ≤ n ∧ n < X.n
   ·rw [if_pos hn] at hrun
    have := dk_placed (f := f65) (r := .tup [.sl 1 false (bR (X.sector n.toNat)), .int .i64 0]) (args0 := [.ptr 2 0, .int .i64 n]) hrun hd.1 ⟨by show 2 < 4; omega, trivial, trivial⟩ ⟨bR_scoped _, trivial, trivial⟩ hd h0 h1 h2 h3
    rw [hs] at this
    have e1 : X.inD n = true := by rw [Dk.inD]; simpa using hn
    rw [Dk.rdB, Dk.rdE, e1]
    refine calls_wkR this fun g w v ⟨vs, e, v1, r901, q901, q902, q903⟩ => ⟨vs, e, v1, r901, q901, ?_, q903⟩
    obtain ⟨b', o, sp, cap, p901, p902, _, p903, p904⟩ := q902
    exact .inr ⟨rfl, b', o, sp, cap, p901, p902, p903, p904⟩
   ·rw [if_neg hn] at hrun
    have := dk_placed (f := f65) (r := .tup [.nilsl, .int .i64 40]) (args0 := [.ptr 2 0, .int .i64 n]) hrun hd.1 ⟨by show 2 < 4; omega, trivial, trivial⟩ ⟨trivial, trivial, trivial⟩ hd h0 h1 h2 h3
    rw [hs] at this
    have e1 : X.inD n = false := by rw [Dk.inD]; simpa using hn
    rw [Dk.rdB, Dk.rdE, e1]
    exact calls_wkR this fun g w v ⟨vs, e, v1, r901, q901, q902, q903⟩ => ⟨vs, e, v1, r901, q901, .inl ⟨rfl, rfl, q902⟩, q903⟩
  ·cases h
noncomputable def f44_b : Sim Try.prog :=
 (.seq (.live [0, 1] (.region 0 [
 ⟨(opAssign (some 4) (.const (Value.slice none 0 0)) 81 "wal.go:91" #[]).op, none⟩
 ] (by kernel_rfl)))
 (.seq (.live [5] (.region 1 [
 ⟨(opMove (some 8) (.tmp 0) 25 "wal.go:92" #[]).op, none⟩,
 ⟨(opMove (some 9) (.tmp 1) 3 "wal.go:92" #[]).op, none⟩,
 ⟨(opCallQ q65 (some 10) [(.tmp 8), (.tmp 9)] #[25, 3] 107 "wal.go:92" #[eD 0, eD 1]).op, none⟩,
 ⟨(opMove (some 7) (.tmp 10) 107 "wal.go:92" #[eD 2]).op, none⟩,
 ⟨(opExtract (some 11) (.tmp 7) 0 33 "wal.go:92" #[eD 3]).op, none⟩,
 ⟨(opExtract (some 12) (.tmp 7) 1 26 "wal.go:92" #[eD 3, eX 6]).op, none⟩,
 ⟨(opAssign (some 5) (.tmp 11) 33 "wal.go:92" #[eD 4, eC 2, eP 0, eP 1, eP 2, eP 3, eP 4, eT 5]).op, none⟩,
 ⟨(opAssign (some 6) (.tmp 12) 26 "wal.go:92" #[eD 5, eC 6, eP 0, eP 1, eP 2, eP 3, eP 4, eP 5, eP 6]).op, none⟩
 ] (by kernel_rfl)))
 (.seq (.live [4] (.region 2 [
 ⟨(opMove (some 13) (.tmp 5) 33 "wal.go:93" #[]).op, none⟩,
 ⟨(opAssign (some 4) (.tmp 13) 81 "wal.go:93" #[eD 0, eP 0]).op, none⟩
 ] (by kernel_rfl)))
 (.live [4] .ret))))
noncomputable def f44 : Fun Try.prog where
 id := 44
 fn := Try.f44
 hf := Try.func44
 hname := by kernel_rfl
 body := f44_b
 hbody := by kernel_rfl
 res := [rTmp 4]
 hres := by kernel_rfl
 n := 14
 hn := by kernel_rfl
noncomputable def f46_b : Sim Try.prog :=
 (.seq (.live [0] (.region 0 [
 ⟨(opAssign (some 2) (.const (Value.int IntKind.i64 0)) 3 "wal.go:88" #[]).op, none⟩
 ] (by kernel_rfl)))
 (.seq (.live [2] (.region 1 [
 ⟨(opMove (some 3) (.tmp 0) 25 "wal.go:88" #[]).op, none⟩,
 ⟨(opCallQ q35 (some 4) [(.tmp 3)] #[25] 3 "wal.go:88" #[eD 0]).op, none⟩,
 ⟨(opBin (some 5) .sub 3 (.tmp 4) (.const (Value.int IntKind.i64 2)) 3 3 "wal.go:88" #[eD 1]).op, none⟩,
 ⟨(opBin (some 6) .quo 3 (.tmp 5) (.const (Value.int IntKind.i64 2)) 3 3 "wal.go:88" #[eD 2]).op, none⟩,
 ⟨(opAssign (some 2) (.tmp 6) 3 "wal.go:88" #[eD 3, eC 1, eP 0, eP 1, eP 2, eP 3]).op, none⟩
 ] (by kernel_rfl)))
 (.live [2] .ret)))
noncomputable def f46 : Fun Try.prog where
 id := 46
 fn := Try.f46
 hf := Try.func46
 hname := by kernel_rfl
 body := f46_b
 hbody := by kernel_rfl
 res := [rTmp 2]
 hres := by kernel_rfl
 n := 7
 hn := by kernel_rfl
noncomputable def f37_l0 : Sim Try.prog :=
 (.seq (.seq (.live [0, 2, 7, 8, 12] (.region 3 [
 ⟨(opMove (some 10) (.tmp 8) 3 "wal.go:99" #[]).op, none⟩,
 ⟨(opMove (some 11) (.tmp 2) 3 "wal.go:99" #[]).op, none⟩,
 ⟨(opBin (some 12) .lss 3 (.tmp 10) (.tmp 11) 3 4 "wal.go:99" #[eD 0, eD 1]).op, none⟩
 ] (by kernel_rfl)))
 (.cond (.tmp 12)
 .skip
 (.live [7] (.exit 0))))
 (.seq (.block 1 (.live [0, 2, 7, 8] (.region 5 [
 ⟨(opMove (some 15) (.tmp 7) 3 "wal.go:100" #[]).op, none⟩,
 ⟨(opMove (some 16) (.tmp 0) 25 "wal.go:100" #[]).op, none⟩,
 ⟨(opMove (some 17) (.tmp 8) 3 "wal.go:100" #[]).op, none⟩,
 ⟨opCall (f44.orc 0) (some 18) [(.tmp 16), (.tmp 17)] #[25, 3] 81 "wal.go:100" #[eD 1, eD 2], none⟩,
 ⟨(opCallP p55 (some 19) [(.tmp 18), (.const (Value.int IntKind.i64 0))] #[81, 3] 3 "wal.go:100" #[eD 3, eC 3]).op, none⟩,
 ⟨(opMinMax (some 20) true (.tmp 15) [(.tmp 19)] #[3, 3] 3 "wal.go:100" #[eD 0, eD 4]).op, none⟩,
 ⟨(opAssign (some 7) (.tmp 20) 3 "wal.go:100" #[eD 5, eC 4, eP 0, eP 1, eP 2, eP 3, eP 4, eP 5]).op, none⟩
 ] (by kernel_rfl))))
 (.live [0, 2, 7, 8] (.region 4 [
 ⟨(opMove (some 13) (.tmp 8) 3 "wal.go:99" #[]).op, none⟩,
 ⟨(opBin (some 14) .add 3 (.tmp 13) (.const (Value.int IntKind.i64 1)) 3 3 "wal.go:99" #[eD 0]).op, none⟩,
 ⟨(opAssign (some 8) (.tmp 14) 3 "wal.go:99" #[eD 1, eP 0, eP 1]).op, none⟩
 ] (by kernel_rfl)))))
noncomputable def f37_r0 : Sim Try.prog :=
 (.seq (.live [6] (.region 6 [
 ⟨(opMove (some 21) (.tmp 7) 3 "wal.go:102" #[]).op, none⟩,
 ⟨(opAssign (some 6) (.tmp 21) 3 "wal.go:102" #[eD 0, eP 0]).op, none⟩
 ] (by kernel_rfl)))
 (.live [6] .ret))
noncomputable def f37_b : Sim Try.prog :=
 (.seq (.live [0, 1, 2] (.region 0 [
 ⟨(opAssign (some 6) (.const (Value.int IntKind.i64 0)) 3 "wal.go:97" #[]).op, none⟩
 ] (by kernel_rfl)))
 (.seq (.live [0, 1, 2, 7] (.region 1 [
 ⟨(opAssign (some 7) (.const (Value.int IntKind.i64 0)) 3 "wal.go:98" #[]).op, none⟩
 ] (by kernel_rfl)))
 (.seq (.seq (.live [0, 2, 7, 8] (.region 2 [
 ⟨(opMove (some 9) (.tmp 1) 3 "wal.go:99" #[]).op, none⟩,
 ⟨(opAssign (some 8) (.tmp 9) 3 "wal.go:99" #[eD 0, eP 0]).op, none⟩
 ] (by kernel_rfl)))
 (.block 0 (.loop [0, 2, 7, 8] f37_l0)))
 f37_r0)))
noncomputable def f37 : Fun Try.prog where
 id := 37
 fn := Try.f37
 hf := Try.func37
 hname := by kernel_rfl
 body := f37_b
 hbody := by kernel_rfl
 res := [rTmp 6]
 hres := by kernel_rfl
 n := 22
 hn := by kernel_rfl
theorem most_run (F : Nat) (X : Dk) (a b : Int) :
 (f37.run F [.ptr 2 0, .int .i64 a, .int .i64 b] ⟨[dk0 X, dk1 X, dk2 0 X, dk3 X], []⟩ : Ans) =
 loopRun (f37_l0.run F) [0, 2, 7, 8]
 (Cont.block 0 (Cont.then (f37_r0.run F (f37.leaveK Fun.done)) (f37.leaveK Fun.done))) F
 (Env.mk 22
 [(0, AV.ptr 2 0), (2, .int .i64 b),
 (7, .int .i64 0), (8, .int .i64 a)])
 (St.mk [dk0 X, dk1 X, dk2 0 X, dk3 X] []) := by kernel_rfl
theorem most_round (F m : Nat) (X : Dk) (n a b : Int) (K : Cont) :
 (loopRun (f37_l0.run F) [0, 2, 7, 8] K m.succ (Env.mk 22 [(0, .ptr 2 0), (2, .int .i64 b), (7, .int .i64 n), (8, .int .i64 a)]) ⟨[dk0 X, dk1 X, dk2 0 X, dk3 X], []⟩ : Ans) =
 branch (.bool (decide (a < b)))
 (onSome (dkG 0 (dk0 X) (dk1 X) (dk2 0 X) (dk3 X)) none fun (o : Dk) =>
 branch
 (AV.bool
 (true && (byOk (bR (o.rdB a)) && decide ((0 : Int) ≤ 0 ∧ (4 : Int) ≤ (↑(bR (o.rdB a)).length : Int)))))
 (loopRun (f37_l0.run F) [0, 2, 7, 8] K m
 (Env.mk 22
 [(0, AV.ptr 2 0), (2, .int .i64 b),
 (7, .int .i64 (leastI true n (numV (bR (o.rdB a)) (0 : Int)))),
 (8, .int .i64 (IntKind.i64.wrap (a + 1)))])
 (St.mk [dk0 X, dk1 X, dk2 0 X, dk3 X] []))
 none)
 (K (AX.exit 0) (Env.mk 22 [(7, .int .i64 n)])
 (St.mk [dk0 X, dk1 X, dk2 0 X, dk3 X] [])) := by kernel_rfl
theorem most_out (F : Nat) (n : Int) (st : St) :
 ((Cont.block 0 (Cont.then (f37_r0.run F (f37.leaveK Fun.done)) (f37.leaveK Fun.done))) (.exit 0) (Env.mk 22 [(7, .int .i64 n)]) st : Ans) =
 some (Fin.ret (.int .i64 n), st) := by kernel_rfl
theorem gD {X : Dk} (h : X.Ok) (hw : X.ws.length < 999999) : dkG (nat_lit 0) (dk0 X) (dk1 X) (dk2 (nat_lit 0) X) (dk3 X) = some X := dkG_of (isD_of h hw 0)
theorem gD' {X : Dk} (h : X.Ok) (hw : X.ws.length < 999999) (i : Nat) : dkG i (dk0 X) (dk1 X) (dk2 i X) (dk3 X) = some X := dkG_of (isD_of h hw i)
theorem rd_sector (X : Dk) {i : Nat} (hi : i < X.n) : X.rdE (i : Int) = 0 ∧ X.rdB (i : Int) = X.sector i := by
 have e : X.inD (i : Int) = true := by rw [Dk.inD, decide_eq_true_eq]; omega
 rw [Dk.rdE, Dk.rdB, e]; exact ⟨rfl, rfl⟩
theorem dk_obs {X : Dk} (h : X.Ok) : X.obs = [dk0 X, dk1 X, dk2 0 X, dk3 X] := (obs_dk X).symm
def Dk.most (X : Dk) : Nat → Nat → Nat → Nat
 | a, 0, n => n
 | a, d + 1, n => X.most (a + 1) d (max n (numB (X.sector a) 0))
theorem sector_b {X : Dk} (h : X.Ok) {i : Nat} (hi : i < X.n) : byOk (bR (X.sector i)) = true ∧ (bR (X.sector i)).length = 64 ∧ nR (bR (X.sector i)) = X.sector i := by
 obtain ⟨s1, s2⟩ := h.sector_len hi
 exact ⟨byOk_bR s2 (by omega), by rw [bR_length, s1], nR_bR _⟩
theorem lead_max (a b : Nat) : leastI true (a : Int) (b : Int) = ((max a b : Nat) : Int) := by
 simp only [leastI]; split <;> omega
theorem numV_b (b : List Nat) (n : Nat) : numV (bR b) (n : Int) = ((numB b n : Nat) : Int) := by rw [numV, opq_eq, nR_bR]; rfl
theorem most_loop (F : Nat) {X : Dk} (h : X.Ok) (hw : X.ws.length < 999999) : ∀ (d m a n : Nat), a + d ≤ X.n → d < m →
  loopRun (f37_l0.run F) [0, 2, 7, 8] (Cont.block 0 (Cont.then (f37_r0.run F (f37.leaveK Fun.done)) (f37.leaveK Fun.done))) m (Env.mk 22 [(0, .ptr 2 0), (2, .int .i64 ((a + d : Nat) : Int)), (7, .int .i64 (n : Int)), (8, .int .i64 (a : Int))]) ⟨[dk0 X, dk1 X, dk2 0 X, dk3 X], []⟩
   = some (.ret (.int .i64 ((X.most a d n : Nat) : Int)), ⟨[dk0 X, dk1 X, dk2 0 X, dk3 X], []⟩)
 | d, 0, a, n, _, hm => by omega
 | 0, m + 1, a, n, _, _ => by
  rw [show m + 1 = m.succ from rfl, most_round, branch_not (decide_eq_false (by omega)), most_out]; rfl
 | d + 1, m + 1, a, n, ha, hm => by
  have hn1 := h.n1
  obtain ⟨r1, r2⟩ := rd_sector X (i := a) (by omega)
  obtain ⟨b1, b2, b3⟩ := sector_b h (i := a) (by omega)
  have e0 : numV (bR (X.sector a)) (0 : Int) = ((numB (X.sector a) 0 : Nat) : Int) := numV_b _ 0
  rw [show m + 1 = m.succ from rfl, most_round, branch_of (decide_eq_true (by omega)), gD h hw, onSome_some, r2, branch_of (by rw [b1, b2]; rfl), e0, lead_max, wrap_succ (by omega), show a + (d + 1) = (a + 1) + d by omega, most_loop F h hw d m (a + 1) _ (by omega) (by omega)]
  rfl
noncomputable def Dk.mostV (X : Dk) (a b : Int) : Int := opq ((X.most a.toNat (b.toNat - a.toNat) 0 : Nat) : Int)
noncomputable def q37 : OrcQ Try.prog := f37.byQ
 (fun args st k => match args with
  | [x, y, z] => onD x st fun i X => onInt y fun kd a => onInt z fun kd' b => ifT (decide (kd = .i64) && (decide (kd' = .i64) && decide (0 ≤ a ∧ a ≤ b ∧ b ≤ X.n))) (k (.int .i64 (X.mostV a b)))
  | _ => none)
 fun args st k fin h => by
  split at h
  ·rename_i x y z
   obtain ⟨i, o0, o1, o2, o3, X, rfl, h0, h1, h2, h3, hd, g901⟩ := onD_spec h
   obtain ⟨kd, a, g902, rfl⟩ := onInt_spec g901
   obtain ⟨kd', b, g903, rfl⟩ := onInt_spec g902
   obtain ⟨hk, g904⟩ := ifT_spec g903
   simp only [Bool.and_eq_true, decide_eq_true_eq] at hk
   obtain ⟨rfl, rfl, ha, hab, hb⟩ := hk
   obtain ⟨a, rfl⟩ := Int.eq_ofNat_of_zero_le ha
   obtain ⟨b, rfl⟩ := Int.eq_ofNat_of_zero_le (show (0 : Int) ≤ b by omega)
   have hrun : f37.run 70000 [.ptr 2 0, .int .i64 (a : Int), .int .i64 (b : Int)] ⟨X.obs, []⟩ = some (.ret (.int .i64 (X.mostV a b)), ⟨X.obs, []⟩) := by
    have hn1 := hd.1.n1
    rw [dk_obs hd.1, most_run, Dk.mostV, opq_eq]
    have := most_loop 70000 hd.1 hd.2.1 (b - a) 70000 a 0 (by omega) (by omega)
    rw [show a + (b - a) = b by omega] at this
    exact this
   have := dk_placed (f := f37) (r := .int .i64 (X.mostV a b)) (args0 := [.ptr 2 0, .int .i64 (a : Int), .int .i64 (b : Int)]) (xs := []) (X := X) (Y := X) (F := 70000) (by rw [List.append_nil]; exact hrun) hd.1 ⟨by show 2 < 4; omega, trivial, trivial, trivial⟩ trivial hd h0 h1 h2 h3
   rw [same_plD hd h0 h1 h2 h3] at this
   exact ⟨_, g904, this⟩
  ·cases h
end Go.Proofs.Ytnhdjhcpbjggmaa.V
