/- Merged out of 15 texts: what the claim's code comes to, and why. -/
import Derived.Test.YtclghabbhpaafaaRows
import Derived.Test.YtclghabbhpaafaaR63
/- The functions' pieces, as told by gen.py. -/
set_option linter.unusedVariables false
set_option maxRecDepth 20000
namespace Go.Proofs.Ytclghabbhpaafaa.V
open Go Go.V Go.RowKit

theorem ze59 : (Try.prog.info? 59).bind (·.zero) = some (.agg #[(.int .u8 0), (.int .u8 0), (.int .u8 0), (.int .u8 0), (.int .u8 0), (.int .u8 0), (.int .u8 0), (.int .u8 0), (.int .u8 0), (.int .u8 0), (.int .u8 0), (.int .u8 0), (.int .u8 0), (.int .u8 0), (.int .u8 0), (.int .u8 0), (.int .u8 0), (.int .u8 0), (.int .u8 0), (.int .u8 0), (.int .u8 0), (.int .u8 0), (.int .u8 0), (.int .u8 0), (.int .u8 0), (.int .u8 0), (.int .u8 0), (.int .u8 0), (.int .u8 0), (.int .u8 0), (.int .u8 0), (.int .u8 0), (.int .u8 0), (.int .u8 0), (.int .u8 0), (.int .u8 0), (.int .u8 0), (.int .u8 0), (.int .u8 0), (.int .u8 0), (.int .u8 0), (.int .u8 0), (.int .u8 0), (.int .u8 0), (.int .u8 0), (.int .u8 0), (.int .u8 0), (.int .u8 0), (.int .u8 0), (.int .u8 0), (.int .u8 0), (.int .u8 0), (.int .u8 0), (.int .u8 0), (.int .u8 0), (.int .u8 0), (.int .u8 0), (.int .u8 0), (.int .u8 0), (.int .u8 0), (.int .u8 0), (.int .u8 0), (.int .u8 0), (.int .u8 0)]) := by kernel_rfl
theorem by59 : (Try.prog.info? 59).map (·.bytes) = some 64 := by kernel_rfl
theorem sz59 : (Try.prog.info? 59).map (·.size) = some 64 := by kernel_rfl
theorem el54 : ElemOf Try.prog 54 59 64 64 (.agg #[(.int .u8 0), (.int .u8 0), (.int .u8 0), (.int .u8 0), (.int .u8 0), (.int .u8 0), (.int .u8 0), (.int .u8 0), (.int .u8 0), (.int .u8 0), (.int .u8 0), (.int .u8 0), (.int .u8 0), (.int .u8 0), (.int .u8 0), (.int .u8 0), (.int .u8 0), (.int .u8 0), (.int .u8 0), (.int .u8 0), (.int .u8 0), (.int .u8 0), (.int .u8 0), (.int .u8 0), (.int .u8 0), (.int .u8 0), (.int .u8 0), (.int .u8 0), (.int .u8 0), (.int .u8 0), (.int .u8 0), (.int .u8 0), (.int .u8 0), (.int .u8 0), (.int .u8 0), (.int .u8 0), (.int .u8 0), (.int .u8 0), (.int .u8 0), (.int .u8 0), (.int .u8 0), (.int .u8 0), (.int .u8 0), (.int .u8 0), (.int .u8 0), (.int .u8 0), (.int .u8 0), (.int .u8 0), (.int .u8 0), (.int .u8 0), (.int .u8 0), (.int .u8 0), (.int .u8 0), (.int .u8 0), (.int .u8 0), (.int .u8 0), (.int .u8 0), (.int .u8 0), (.int .u8 0), (.int .u8 0), (.int .u8 0), (.int .u8 0), (.int .u8 0), (.int .u8 0)]) := ⟨Try.underlying54, sz59, by59, ze59, by kernel_rfl, by decide⟩
theorem ze58 : (Try.prog.info? 58).bind (·.zero) = some (.agg #[(.slice none 0 0), (.map none), (.slice none 0 0)]) := by kernel_rfl
theorem fl58_0 : fieldB Try.prog 58 0 0 1 false = true := by kernel_rfl
theorem sz54 : (Try.prog.info? 54).map (·.size) = some 1 := by kernel_rfl
theorem sz5 : (Try.prog.info? 5).map (·.size) = some 1 := by kernel_rfl
theorem ze5 : (Try.prog.info? 5).bind (·.zero) = some (.int .u8 0) := by kernel_rfl
theorem by5 : (Try.prog.info? 5).map (·.bytes) = some 1 := by kernel_rfl
theorem el22 : ElemOf Try.prog 22 5 1 1 (.int .u8 0) := ⟨Try.underlying22, sz5, by5, ze5, by kernel_rfl, by decide⟩
theorem fl58_2 : fieldB Try.prog 58 2 2 1 false = true := by kernel_rfl
theorem sz56 : (Try.prog.info? 56).map (·.size) = some 1 := by kernel_rfl
theorem mixed : Try.prog.follows .mixedOrders = true := by kernel_rfl

/-! ### 10: interlock/disk.Load (22, 3); results 4, 5; slots: 0 image, 1 sectors, 2 image, 3 sectors, 6 d, 7 i, 8 n -/
/-- A loop's round; at its head live: 0 image, 6 d, 24 , 25  -/
noncomputable def f10_l0 : Sim Try.prog :=
  (.seq (.live [0, 6, 24, 25, 26] (.region 5 [
    ⟨(opBin (some 26) .lss 3 (.tmp 25) (.tmp 24) 3 0 "disk.go:35" #[]).op, none⟩
  ] (by kernel_rfl)))
  (.seq (.cond (.tmp 26)
    .skip
    (.live [6] (.exit 0)))
  (.seq (.block 1 (.seq (.live [0, 6, 7, 24, 25] (.region 6 [
      ⟨(opMove (some 27) (.tmp 25) 3 "disk.go:35" #[]).op, none⟩,
      ⟨(opAssign (some 7) (.tmp 27) 3 "disk.go:35" #[{ on := 0, ground := Ground.data }, { on := 0, ground := Ground.phase }]).op, none⟩
    ] (by kernel_rfl)))
    (.seq (.live [0, 6, 8, 24, 25] (.region 7 [
      ⟨(opMove (some 28) (.tmp 6) 24 "disk.go:36" #[]).op, none⟩,
      ⟨(opNilCheck (some 29) (.tmp 28) 0 "disk.go:36" #[{ on := 0, ground := Ground.data }]).op, none⟩,
      ⟨(opFieldAddr (some 30) 58 (.tmp 29) 0 0 1 false fl58_0 (by decide) 0 "disk.go:36" #[{ on := 1, ground := Ground.data }]).op, none⟩,
      ⟨(opLoadT (.one .any) (some 31) 54 (.tmp 30) (.slice 59) Try.underlying54 1 sz54 (by kernel_rfl) 54 "disk.go:36" #[{ on := 2, ground := Ground.data }]).op, none⟩,
      ⟨(opMove (some 32) (.tmp 7) 3 "disk.go:36" #[]).op, none⟩,
      ⟨(opIndexAddrT (some 33) 54 (.tmp 31) (.tmp 32) 59 64 Try.underlying54 sz59 0 "disk.go:36" #[{ on := 3, ground := Ground.data }, { on := 4, ground := Ground.data }]).op, none⟩,
      ⟨(opSliceB (some 34) 59 (.tmp 33) none none none 64 5 1 Try.underlying59 (by decide) sz5 22 "disk.go:36" #[{ on := 5, ground := Ground.data }]).op, none⟩,
      ⟨(opMove (some 35) (.tmp 0) 22 "disk.go:36" #[]).op, none⟩,
      ⟨(opCopyV (some 36) (.tmp 34) (.tmp 35) 22 22 5 1 Try.underlying22 sz5 3 "disk.go:36" #[{ on := 6, ground := Ground.data }, { on := 7, ground := Ground.data }]).op, none⟩,
      ⟨(opAssign (some 8) (.tmp 36) 3 "disk.go:36" #[{ on := 8, ground := Ground.data }, { on := 8, ground := Ground.chain }, { on := 0, ground := Ground.phase }, { on := 1, ground := Ground.phase }, { on := 2, ground := Ground.phase }, { on := 3, ground := Ground.phase }, { on := 4, ground := Ground.phase }, { on := 5, ground := Ground.phase }, { on := 6, ground := Ground.phase }, { on := 7, ground := Ground.phase }, { on := 8, ground := Ground.phase }]).op, none⟩
    ] (by kernel_rfl)))
    (.live [0, 6, 24, 25] (.region 8 [
      ⟨(opMove (some 37) (.tmp 0) 22 "disk.go:37" #[]).op, none⟩,
      ⟨(opMove (some 38) (.tmp 8) 3 "disk.go:37" #[]).op, none⟩,
      ⟨(opSlice (some 39) 22 (.tmp 37) (some (.tmp 38)) none none 5 1 Try.underlying22 sz5 22 "disk.go:37" #[{ on := 0, ground := Ground.data }, { on := 1, ground := Ground.data }]).op, none⟩,
      ⟨(opAssign (some 0) (.tmp 39) 22 "disk.go:37" #[{ on := 2, ground := Ground.data }, { on := 0, ground := Ground.phase }, { on := 1, ground := Ground.phase }, { on := 2, ground := Ground.phase }]).op, none⟩
    ] (by kernel_rfl))))))
  (.live [0, 6, 24, 25] (.region 9 [
    ⟨(opBin (some 40) .add 3 (.tmp 25) (.const (Value.int IntKind.i64 1)) 3 3 "disk.go:35" #[]).op, none⟩,
    ⟨(opMove (some 25) (.tmp 40) 3 "disk.go:35" #[{ on := 0, ground := Ground.data }]).op, none⟩
  ] (by kernel_rfl))))))

/-- What follows a loop. -/
noncomputable def f10_r0 : Sim Try.prog :=
  (.seq (.live [4, 5] (.region 10 [
    ⟨(opMove (some 41) (.tmp 6) 24 "disk.go:39" #[]).op, none⟩,
    ⟨(opAssign (some 4) (.tmp 41) 24 "disk.go:39" #[{ on := 0, ground := Ground.data }, { on := 0, ground := Ground.phase }]).op, none⟩,
    ⟨(opAssign (some 5) (.const (Value.int IntKind.i64 0)) 25 "disk.go:39" #[{ on := 1, ground := Ground.chain }, { on := 0, ground := Ground.phase }, { on := 1, ground := Ground.phase }]).op, none⟩
  ] (by kernel_rfl)))
  (.live [4, 5] .ret))

noncomputable def f10_b : Sim Try.prog :=
  (.seq (.live [0, 1] (.region 0 [
    ⟨(opAssign (some 4) (.const (Value.pointer none)) 24 "disk.go:30" #[]).op, none⟩,
    ⟨(opAssign (some 5) (.const (Value.int IntKind.i64 0)) 25 "disk.go:30" #[{ on := 0, ground := Ground.chain }]).op, none⟩
  ] (by kernel_rfl)))
  (.seq (.seq (.live [0, 1, 14] (.region 1 [
    ⟨(opMove (some 9) (.tmp 1) 3 "disk.go:31" #[]).op, none⟩,
    ⟨(opBin (some 10) .lss 3 (.tmp 9) (.const (Value.int IntKind.i64 1)) 3 4 "disk.go:31" #[{ on := 0, ground := Ground.data }]).op, none⟩,
    ⟨(opMove (some 11) (.tmp 10) 4 "disk.go:31" #[{ on := 1, ground := Ground.data }]).op, none⟩,
    ⟨(opMove (some 12) (.tmp 1) 3 "disk.go:31" #[{ on := 2, ground := Ground.guard }]).op, (some (2, 11, false))⟩,
    ⟨(opBin (some 13) .gtr 3 (.tmp 12) (.const (Value.int IntKind.i64 65536)) 3 4 "disk.go:31" #[{ on := 3, ground := Ground.data }, { on := 2, ground := Ground.guard }]).op, (some (2, 11, false))⟩,
    ⟨(opPick (some 14) (.tmp 11) (.const (Value.bool true)) (.tmp 13) 4 "disk.go:31" #[{ on := 2, ground := Ground.data }, { on := 4, ground := Ground.data }]).op, none⟩
  ] (by kernel_rfl)))
  (.cond (.tmp 14)
    (.seq (.live [4, 5] (.region 2 [
      ⟨(opAssign (some 4) (.const (Value.pointer none)) 24 "disk.go:32" #[]).op, none⟩,
      ⟨(opAssign (some 5) (.const (Value.int IntKind.i64 41)) 25 "disk.go:32" #[{ on := 0, ground := Ground.chain }, { on := 0, ground := Ground.phase }]).op, none⟩
    ] (by kernel_rfl)))
    (.live [4, 5] .ret))
    .skip))
  (.seq (.live [0, 6] (.region 3 [
    ⟨(opMove (some 15) (.tmp 1) 3 "disk.go:34" #[]).op, none⟩,
    ⟨(opMakeC (some 16) 54 (.tmp 15) 59 64 64 (.agg #[(.int .u8 0), (.int .u8 0), (.int .u8 0), (.int .u8 0), (.int .u8 0), (.int .u8 0), (.int .u8 0), (.int .u8 0), (.int .u8 0), (.int .u8 0), (.int .u8 0), (.int .u8 0), (.int .u8 0), (.int .u8 0), (.int .u8 0), (.int .u8 0), (.int .u8 0), (.int .u8 0), (.int .u8 0), (.int .u8 0), (.int .u8 0), (.int .u8 0), (.int .u8 0), (.int .u8 0), (.int .u8 0), (.int .u8 0), (.int .u8 0), (.int .u8 0), (.int .u8 0), (.int .u8 0), (.int .u8 0), (.int .u8 0), (.int .u8 0), (.int .u8 0), (.int .u8 0), (.int .u8 0), (.int .u8 0), (.int .u8 0), (.int .u8 0), (.int .u8 0), (.int .u8 0), (.int .u8 0), (.int .u8 0), (.int .u8 0), (.int .u8 0), (.int .u8 0), (.int .u8 0), (.int .u8 0), (.int .u8 0), (.int .u8 0), (.int .u8 0), (.int .u8 0), (.int .u8 0), (.int .u8 0), (.int .u8 0), (.int .u8 0), (.int .u8 0), (.int .u8 0), (.int .u8 0), (.int .u8 0), (.int .u8 0), (.int .u8 0), (.int .u8 0), (.int .u8 0)]) el54 [AV.int .u8 0, AV.int .u8 0, AV.int .u8 0, AV.int .u8 0, AV.int .u8 0, AV.int .u8 0, AV.int .u8 0, AV.int .u8 0, AV.int .u8 0, AV.int .u8 0, AV.int .u8 0, AV.int .u8 0, AV.int .u8 0, AV.int .u8 0, AV.int .u8 0, AV.int .u8 0, AV.int .u8 0, AV.int .u8 0, AV.int .u8 0, AV.int .u8 0, AV.int .u8 0, AV.int .u8 0, AV.int .u8 0, AV.int .u8 0, AV.int .u8 0, AV.int .u8 0, AV.int .u8 0, AV.int .u8 0, AV.int .u8 0, AV.int .u8 0, AV.int .u8 0, AV.int .u8 0, AV.int .u8 0, AV.int .u8 0, AV.int .u8 0, AV.int .u8 0, AV.int .u8 0, AV.int .u8 0, AV.int .u8 0, AV.int .u8 0, AV.int .u8 0, AV.int .u8 0, AV.int .u8 0, AV.int .u8 0, AV.int .u8 0, AV.int .u8 0, AV.int .u8 0, AV.int .u8 0, AV.int .u8 0, AV.int .u8 0, AV.int .u8 0, AV.int .u8 0, AV.int .u8 0, AV.int .u8 0, AV.int .u8 0, AV.int .u8 0, AV.int .u8 0, AV.int .u8 0, AV.int .u8 0, AV.int .u8 0, AV.int .u8 0, AV.int .u8 0, AV.int .u8 0, AV.int .u8 0] (by kernel_rfl) (by kernel_rfl) 54 "disk.go:34" #[{ on := 0, ground := Ground.data }, { on := 0, ground := Ground.data }]).op, none⟩,
    ⟨(opMakeMap (some 17) 55 55 "disk.go:34" #[]).op, none⟩,
    ⟨(opBuild (some 18) 58 #[(.slice none 0 0), (.map none), (.slice none 0 0)] [(0, 0, 1, (.tmp 16)), (1, 1, 1, (.tmp 17))] ze58 (by kernel_rfl) 58 "disk.go:34" #[{ on := 1, ground := Ground.data }, { on := 2, ground := Ground.data }]).op, none⟩,
    ⟨(MSim.ph (opBox (some 19) 58 (.tmp 18) 24 "disk.go:34" #[{ on := 3, ground := Ground.data }]) 1).op, none⟩,
    ⟨(opAssign (some 6) (.tmp 19) 24 "disk.go:34" #[{ on := 4, ground := Ground.data }, { on := 0, ground := Ground.phase }, { on := 1, ground := Ground.phase }, { on := 2, ground := Ground.phase }, { on := 3, ground := Ground.phase }, { on := 4, ground := Ground.phase }]).op, none⟩
  ] (by kernel_rfl)))
  (.seq (.seq (.live [0, 6, 24, 25] (.region 4 [
    ⟨(opMove (some 20) (.tmp 6) 24 "disk.go:35" #[]).op, none⟩,
    ⟨(opNilCheck (some 21) (.tmp 20) 0 "disk.go:35" #[{ on := 0, ground := Ground.data }]).op, none⟩,
    ⟨(opFieldAddr (some 22) 58 (.tmp 21) 0 0 1 false fl58_0 (by decide) 0 "disk.go:35" #[{ on := 1, ground := Ground.data }]).op, none⟩,
    ⟨(opLoadT (.one .any) (some 23) 54 (.tmp 22) (.slice 59) Try.underlying54 1 sz54 (by kernel_rfl) 54 "disk.go:35" #[{ on := 2, ground := Ground.data }]).op, none⟩,
    ⟨(opLen (some 24) (.tmp 23) 54 (.slice 59) Try.underlying54 3 "disk.go:35" #[{ on := 3, ground := Ground.data }]).op, none⟩,
    ⟨(opMove (some 25) (.const (Value.int IntKind.i64 0)) 3 "disk.go:35" #[]).op, none⟩
  ] (by kernel_rfl)))
  (.block 0 (.loop [0, 6, 24, 25] f10_l0)))
  f10_r0))))

noncomputable def f10 : Fun Try.prog where
  id := 10
  fn := Try.f10
  hf := Try.func10
  hname := by kernel_rfl
  body := f10_b
  hbody := by kernel_rfl
  res := [rTmp 4, rTmp 5]
  hres := by kernel_rfl
  n := 42
  hn := by kernel_rfl

/-! ### 25: (*interlock/disk.Disk).there (24, 3); results 4; slots: 0 d, 1 k, 2 d, 3 k -/
noncomputable def f25_b : Sim Try.prog :=
  (.seq (.live [0, 1] (.region 0 [
    ⟨(opAssign (some 4) (.const (Value.bool false)) 4 "disk.go:43" #[]).op, none⟩
  ] (by kernel_rfl)))
  (.seq (.live [4] (.region 1 [
    ⟨(opMove (some 5) (.tmp 1) 3 "disk.go:43" #[]).op, none⟩,
    ⟨(opBin (some 6) .geq 3 (.tmp 5) (.const (Value.int IntKind.i64 0)) 3 4 "disk.go:43" #[{ on := 0, ground := Ground.data }]).op, none⟩,
    ⟨(opMove (some 7) (.tmp 6) 4 "disk.go:43" #[{ on := 1, ground := Ground.data }]).op, none⟩,
    ⟨(opMove (some 8) (.tmp 1) 3 "disk.go:43" #[{ on := 2, ground := Ground.guard }]).op, (some (2, 7, true))⟩,
    ⟨(opMove (some 9) (.tmp 0) 24 "disk.go:43" #[{ on := 2, ground := Ground.guard }]).op, (some (2, 7, true))⟩,
    ⟨(opNilCheck (some 10) (.tmp 9) 0 "disk.go:43" #[{ on := 4, ground := Ground.data }, { on := 2, ground := Ground.guard }]).op, (some (2, 7, true))⟩,
    ⟨(opFieldAddr (some 11) 58 (.tmp 10) 0 0 1 false fl58_0 (by decide) 0 "disk.go:43" #[{ on := 5, ground := Ground.data }, { on := 2, ground := Ground.guard }]).op, (some (2, 7, true))⟩,
    ⟨(opLoadT (.one .any) (some 12) 54 (.tmp 11) (.slice 59) Try.underlying54 1 sz54 (by kernel_rfl) 54 "disk.go:43" #[{ on := 6, ground := Ground.data }, { on := 2, ground := Ground.guard }]).op, (some (2, 7, true))⟩,
    ⟨(opLen (some 13) (.tmp 12) 54 (.slice 59) Try.underlying54 3 "disk.go:43" #[{ on := 7, ground := Ground.data }, { on := 2, ground := Ground.guard }]).op, (some (2, 7, true))⟩,
    ⟨(opBin (some 14) .lss 3 (.tmp 8) (.tmp 13) 3 4 "disk.go:43" #[{ on := 3, ground := Ground.data }, { on := 8, ground := Ground.data }, { on := 2, ground := Ground.guard }]).op, (some (2, 7, true))⟩,
    ⟨(opPick (some 15) (.tmp 7) (.tmp 14) (.const (Value.bool false)) 4 "disk.go:43" #[{ on := 2, ground := Ground.data }, { on := 9, ground := Ground.data }]).op, none⟩,
    ⟨(opAssign (some 4) (.tmp 15) 4 "disk.go:43" #[{ on := 10, ground := Ground.data }, { on := 2, ground := Ground.chain }, { on := 0, ground := Ground.phase }, { on := 1, ground := Ground.phase }, { on := 2, ground := Ground.phase }, { on := 3, ground := Ground.phase }, { on := 4, ground := Ground.phase }, { on := 5, ground := Ground.phase }, { on := 6, ground := Ground.phase }, { on := 7, ground := Ground.phase }, { on := 8, ground := Ground.phase }, { on := 9, ground := Ground.phase }, { on := 10, ground := Ground.phase }]).op, none⟩
  ] (by kernel_rfl)))
  (.live [4] .ret)))

noncomputable def f25 : Fun Try.prog where
  id := 25
  fn := Try.f25
  hf := Try.func25
  hname := by kernel_rfl
  body := f25_b
  hbody := by kernel_rfl
  res := [rTmp 4]
  hres := by kernel_rfl
  n := 16
  hn := by kernel_rfl

/-! ### 27: slices.Clone[[]byte,byte] (22); results 2; slots: 0 s, 1 s -/
noncomputable def f27_b : Sim Try.prog :=
  (.seq (.live [0] (.region 0 [
    ⟨(opAssign (some 2) (.const (Value.slice none 0 0)) 22 "slices.go:355" #[]).op, none⟩
  ] (by kernel_rfl)))
  (.seq (.seq (.live [0, 4] (.region 1 [
    ⟨(opMove (some 3) (.tmp 0) 22 "slices.go:357" #[]).op, none⟩,
    ⟨(opEq (some 4) 22 (.slice 5) Try.underlying22 (.tmp 3) (.const (Value.slice none 0 0)) (.inl rfl) 22 4 "slices.go:357" #[{ on := 0, ground := Ground.data }]).op, none⟩
  ] (by kernel_rfl)))
  (.cond (.tmp 4)
    (.seq (.live [2] (.region 2 [
      ⟨(opAssign (some 2) (.const (Value.slice none 0 0)) 22 "slices.go:358" #[]).op, none⟩
    ] (by kernel_rfl)))
    (.live [2] .ret))
    .skip))
  (.seq (.live [2] (.region 3 [
    ⟨(opBuildSlice (some 5) 22 0 [] 5 1 1 (.int .u8 0) el22 (by kernel_rfl) (by decide) 22 "slices.go:362" #[]).op, none⟩,
    ⟨(opMove (some 6) (.tmp 0) 22 "slices.go:362" #[]).op, none⟩,
    ⟨(opAppendF (some 7) (.tmp 5) (.tmp 6) 22 22 5 1 1 (.int .u8 0) el22 (.slice 5) Try.underlying22 rfl 22 "slices.go:362" #[{ on := 0, ground := Ground.data }, { on := 1, ground := Ground.data }]).op, none⟩,
    ⟨(opAssign (some 2) (.tmp 7) 22 "slices.go:362" #[{ on := 2, ground := Ground.data }, { on := 2, ground := Ground.chain }, { on := 0, ground := Ground.phase }, { on := 1, ground := Ground.phase }, { on := 2, ground := Ground.phase }]).op, none⟩
  ] (by kernel_rfl)))
  (.live [2] .ret))))

noncomputable def f27 : Fun Try.prog where
  id := 27
  fn := Try.f27
  hf := Try.func27
  hname := by kernel_rfl
  body := f27_b
  hbody := by kernel_rfl
  res := [rTmp 2]
  hres := by kernel_rfl
  n := 8
  hn := by kernel_rfl

/-! ### 28: (*interlock/disk.Disk).Size (24); results 2; slots: 0 d, 1 d -/
noncomputable def f28_b : Sim Try.prog :=
  (.seq (.live [0] (.region 0 [
    ⟨(opAssign (some 2) (.const (Value.int IntKind.i64 0)) 3 "disk.go:96" #[]).op, none⟩
  ] (by kernel_rfl)))
  (.seq (.live [2] (.region 1 [
    ⟨(opMove (some 3) (.tmp 0) 24 "disk.go:96" #[]).op, none⟩,
    ⟨(opNilCheck (some 4) (.tmp 3) 0 "disk.go:96" #[{ on := 0, ground := Ground.data }]).op, none⟩,
    ⟨(opFieldAddr (some 5) 58 (.tmp 4) 0 0 1 false fl58_0 (by decide) 0 "disk.go:96" #[{ on := 1, ground := Ground.data }]).op, none⟩,
    ⟨(opLoadT (.one .any) (some 6) 54 (.tmp 5) (.slice 59) Try.underlying54 1 sz54 (by kernel_rfl) 54 "disk.go:96" #[{ on := 2, ground := Ground.data }]).op, none⟩,
    ⟨(opLen (some 7) (.tmp 6) 54 (.slice 59) Try.underlying54 3 "disk.go:96" #[{ on := 3, ground := Ground.data }]).op, none⟩,
    ⟨(opAssign (some 2) (.tmp 7) 3 "disk.go:96" #[{ on := 4, ground := Ground.data }, { on := 0, ground := Ground.phase }, { on := 1, ground := Ground.phase }, { on := 2, ground := Ground.phase }, { on := 3, ground := Ground.phase }, { on := 4, ground := Ground.phase }]).op, none⟩
  ] (by kernel_rfl)))
  (.live [2] .ret)))

noncomputable def f28 : Fun Try.prog where
  id := 28
  fn := Try.f28
  hf := Try.func28
  hname := by kernel_rfl
  body := f28_b
  hbody := by kernel_rfl
  res := [rTmp 2]
  hres := by kernel_rfl
  n := 8
  hn := by kernel_rfl

/-! ### 22: (*interlock/disk.Disk).Pending (24); results 2; slots: 0 d, 1 d -/
noncomputable def f22_b : Sim Try.prog :=
  (.seq (.live [0] (.region 0 [
    ⟨(opAssign (some 2) (.const (Value.int IntKind.i64 0)) 3 "disk.go:93" #[]).op, none⟩
  ] (by kernel_rfl)))
  (.seq (.live [2] (.region 1 [
    ⟨(opMove (some 3) (.tmp 0) 24 "disk.go:93" #[]).op, none⟩,
    ⟨(opNilCheck (some 4) (.tmp 3) 0 "disk.go:93" #[{ on := 0, ground := Ground.data }]).op, none⟩,
    ⟨(opFieldAddr (some 5) 58 (.tmp 4) 2 2 1 false fl58_2 (by decide) 0 "disk.go:93" #[{ on := 1, ground := Ground.data }]).op, none⟩,
    ⟨(opLoadT (.one .any) (some 6) 56 (.tmp 5) (.slice 62) Try.underlying56 1 sz56 (by kernel_rfl) 56 "disk.go:93" #[{ on := 2, ground := Ground.data }]).op, none⟩,
    ⟨(opLen (some 7) (.tmp 6) 56 (.slice 62) Try.underlying56 3 "disk.go:93" #[{ on := 3, ground := Ground.data }]).op, none⟩,
    ⟨(opAssign (some 2) (.tmp 7) 3 "disk.go:93" #[{ on := 4, ground := Ground.data }, { on := 0, ground := Ground.phase }, { on := 1, ground := Ground.phase }, { on := 2, ground := Ground.phase }, { on := 3, ground := Ground.phase }, { on := 4, ground := Ground.phase }]).op, none⟩
  ] (by kernel_rfl)))
  (.live [2] .ret)))

noncomputable def f22 : Fun Try.prog where
  id := 22
  fn := Try.f22
  hf := Try.func22
  hname := by kernel_rfl
  body := f22_b
  hbody := by kernel_rfl
  res := [rTmp 2]
  hres := by kernel_rfl
  n := 8
  hn := by kernel_rfl

/-! ### 17: interlock/interlockref00.SameBytes (22, 22); results 4; slots: 0 a, 1 b, 2 a, 3 b, 5 i -/
/-- A loop's round; at its head live: 0 a, 1 b, 5 i -/
noncomputable def f17_l0 : Sim Try.prog :=
  (.seq (.seq (.live [0, 1, 5, 14] (.region 4 [
    ⟨(opMove (some 11) (.tmp 5) 3 "ref.go:18" #[]).op, none⟩,
    ⟨(opMove (some 12) (.tmp 0) 22 "ref.go:18" #[]).op, none⟩,
    ⟨(opLen (some 13) (.tmp 12) 22 (.slice 5) Try.underlying22 3 "ref.go:18" #[{ on := 1, ground := Ground.data }]).op, none⟩,
    ⟨(opBin (some 14) .lss 3 (.tmp 11) (.tmp 13) 3 4 "ref.go:18" #[{ on := 0, ground := Ground.data }, { on := 2, ground := Ground.data }]).op, none⟩
  ] (by kernel_rfl)))
  (.cond (.tmp 14)
    .skip
    (.live [] (.exit 0))))
  (.seq (.block 1 (.seq (.live [0, 1, 5, 25] (.draw 6 [
      ⟨.p (opMove (some 17) (.tmp 0) 22 "ref.go:19" #[]), none⟩,
      ⟨.p (opMove (some 18) (.tmp 5) 3 "ref.go:19" #[]), none⟩,
      ⟨.pn (opIndexAddrT (some 19) 22 (.tmp 17) (.tmp 18) 5 1 Try.underlying22 sz5 0 "ref.go:19" #[{ on := 0, ground := Ground.data }, { on := 1, ground := Ground.data }]) opIndexAddrT_nat, none⟩,
      ⟨.qn (opLoadT (.one (.int .u8)) (some 20) 5 (.tmp 19) (.int .u8) Try.underlying5 1 sz5 (by kernel_rfl) 5 "ref.go:19" #[{ on := 2, ground := Ground.data }]) opLoadT_nat, none⟩,
      ⟨.p (opMove (some 21) (.tmp 1) 22 "ref.go:19" #[]), none⟩,
      ⟨.p (opMove (some 22) (.tmp 5) 3 "ref.go:19" #[]), none⟩,
      ⟨.pn (opIndexAddrT (some 23) 22 (.tmp 21) (.tmp 22) 5 1 Try.underlying22 sz5 0 "ref.go:19" #[{ on := 4, ground := Ground.data }, { on := 5, ground := Ground.data }]) opIndexAddrT_nat, none⟩,
      ⟨.qn (opLoadT (.one (.int .u8)) (some 24) 5 (.tmp 23) (.int .u8) Try.underlying5 1 sz5 (by kernel_rfl) 5 "ref.go:19" #[{ on := 6, ground := Ground.data }]) opLoadT_nat, none⟩,
      ⟨.pn (opBin (some 25) .neq 5 (.tmp 20) (.tmp 24) 5 4 "ref.go:19" #[{ on := 3, ground := Ground.data }, { on := 7, ground := Ground.data }]) opBin_nat, none⟩
    ] mixed (by kernel_rfl)))
    (.cond (.tmp 25)
      (.seq (.live [4] (.region 7 [
        ⟨(opAssign (some 4) (.const (Value.bool false)) 4 "ref.go:20" #[]).op, none⟩
      ] (by kernel_rfl)))
      (.live [4] .ret))
      .skip)))
  (.live [0, 1, 5] (.region 5 [
    ⟨(opMove (some 15) (.tmp 5) 3 "ref.go:18" #[]).op, none⟩,
    ⟨(opBin (some 16) .add 3 (.tmp 15) (.const (Value.int IntKind.i64 1)) 3 3 "ref.go:18" #[{ on := 0, ground := Ground.data }]).op, none⟩,
    ⟨(opAssign (some 5) (.tmp 16) 3 "ref.go:18" #[{ on := 1, ground := Ground.data }, { on := 0, ground := Ground.phase }, { on := 1, ground := Ground.phase }]).op, none⟩
  ] (by kernel_rfl)))))

/-- What follows a loop. -/
noncomputable def f17_r0 : Sim Try.prog :=
  (.seq (.live [4] (.region 8 [
    ⟨(opAssign (some 4) (.const (Value.bool true)) 4 "ref.go:23" #[]).op, none⟩
  ] (by kernel_rfl)))
  (.live [4] .ret))

noncomputable def f17_b : Sim Try.prog :=
  (.seq (.live [0, 1] (.region 0 [
    ⟨(opAssign (some 4) (.const (Value.bool false)) 4 "ref.go:14" #[]).op, none⟩
  ] (by kernel_rfl)))
  (.seq (.seq (.live [0, 1, 10] (.region 1 [
    ⟨(opMove (some 6) (.tmp 0) 22 "ref.go:15" #[]).op, none⟩,
    ⟨(opLen (some 7) (.tmp 6) 22 (.slice 5) Try.underlying22 3 "ref.go:15" #[{ on := 0, ground := Ground.data }]).op, none⟩,
    ⟨(opMove (some 8) (.tmp 1) 22 "ref.go:15" #[]).op, none⟩,
    ⟨(opLen (some 9) (.tmp 8) 22 (.slice 5) Try.underlying22 3 "ref.go:15" #[{ on := 2, ground := Ground.data }]).op, none⟩,
    ⟨(opBin (some 10) .neq 3 (.tmp 7) (.tmp 9) 3 4 "ref.go:15" #[{ on := 1, ground := Ground.data }, { on := 3, ground := Ground.data }]).op, none⟩
  ] (by kernel_rfl)))
  (.cond (.tmp 10)
    (.seq (.live [4] (.region 2 [
      ⟨(opAssign (some 4) (.const (Value.bool false)) 4 "ref.go:16" #[]).op, none⟩
    ] (by kernel_rfl)))
    (.live [4] .ret))
    .skip))
  (.seq (.seq (.live [0, 1, 5] (.region 3 [
    ⟨(opAssign (some 5) (.const (Value.int IntKind.i64 0)) 3 "ref.go:18" #[]).op, none⟩
  ] (by kernel_rfl)))
  (.block 0 (.loop [0, 1, 5] f17_l0)))
  f17_r0)))

noncomputable def f17 : Fun Try.prog where
  id := 17
  fn := Try.f17
  hf := Try.func17
  hname := by kernel_rfl
  body := f17_b
  hbody := by kernel_rfl
  res := [rTmp 4]
  hres := by kernel_rfl
  n := 26
  hn := by kernel_rfl

/-! ### 18: interlock/interlockref00.CopyBytes (22); results 2; slots: 0 b, 1 b, 3 out -/
noncomputable def f18_b : Sim Try.prog :=
  (.seq (.live [0] (.region 0 [
    ⟨(opAssign (some 2) (.const (Value.slice none 0 0)) 22 "ref.go:7" #[]).op, none⟩
  ] (by kernel_rfl)))
  (.seq (.live [0, 3] (.region 1 [
    ⟨(opBuildSlice (some 4) 22 0 [] 5 1 1 (.int .u8 0) el22 (by kernel_rfl) (by decide) 22 "ref.go:8" #[]).op, none⟩,
    ⟨(opAssign (some 3) (.tmp 4) 22 "ref.go:8" #[{ on := 0, ground := Ground.data }, { on := 0, ground := Ground.phase }]).op, none⟩
  ] (by kernel_rfl)))
  (.seq (.live [3] (.region 2 [
    ⟨(opMove (some 5) (.tmp 3) 22 "ref.go:9" #[]).op, none⟩,
    ⟨(opMove (some 6) (.tmp 0) 22 "ref.go:9" #[]).op, none⟩,
    ⟨(opAppendF (some 7) (.tmp 5) (.tmp 6) 22 22 5 1 1 (.int .u8 0) el22 (.slice 5) Try.underlying22 rfl 22 "ref.go:9" #[{ on := 0, ground := Ground.data }, { on := 1, ground := Ground.data }]).op, none⟩,
    ⟨(opAssign (some 3) (.tmp 7) 22 "ref.go:9" #[{ on := 2, ground := Ground.data }, { on := 2, ground := Ground.chain }, { on := 0, ground := Ground.phase }, { on := 1, ground := Ground.phase }, { on := 2, ground := Ground.phase }]).op, none⟩
  ] (by kernel_rfl)))
  (.seq (.live [2] (.region 3 [
    ⟨(opMove (some 8) (.tmp 3) 22 "ref.go:10" #[]).op, none⟩,
    ⟨(opAssign (some 2) (.tmp 8) 22 "ref.go:10" #[{ on := 0, ground := Ground.data }, { on := 0, ground := Ground.phase }]).op, none⟩
  ] (by kernel_rfl)))
  (.live [2] .ret)))))

noncomputable def f18 : Fun Try.prog where
  id := 18
  fn := Try.f18
  hf := Try.func18
  hname := by kernel_rfl
  body := f18_b
  hbody := by kernel_rfl
  res := [rTmp 2]
  hres := by kernel_rfl
  n := 9
  hn := by kernel_rfl

end Go.Proofs.Ytclghabbhpaafaa.V

/- What the functions' runs come to; the right sides were printed by a tool, Lean checks them. -/
set_option linter.unusedVariables false
set_option maxRecDepth 100000
namespace Go.Proofs.Ytclghabbhpaafaa.V
open Go Go.V Go.RowKit

theorem same_run (F : Nat) (z y : Bool) (l r : List (List AV)) (st : St) :
    (f17.run F [.ns z 1 l, .ns y 1 r] st : Ans) =
    branch (AV.bool ((↑l.length : Int) != (↑r.length : Int))) (some (Fin.ret (AV.bool false), st))
      (loopRun (f17_l0.run F) [0, 1, 5]
        (Cont.block 0 (Cont.then (f17_r0.run F (f17.leaveK Fun.done)) (f17.leaveK Fun.done))) F
        (Env.mk 26
          [(0, AV.ns z 1 l), (1, AV.ns y 1 r), (5, AV.int IntKind.i64 (0 : Int))])
        st) := by kernel_rfl

theorem same_round (F n : Nat) (K : Cont) (z y : Bool) (i : Int) (l r : List (List AV)) (st : St) :
    (loopRun (f17_l0.run F) [0, 1, 5] K n.succ (Env.mk 26 [(0, .ns z 1 l), (1, .ns y 1 r), (5, .int .i64 i)]) st : Ans) =
    branch (AV.bool (decide (i < (↑l.length : Int))))
      (branch (AV.bool (inR l i))
        (branch (AV.bool ((LD.one (LT.int IntKind.u8)).is (V.rowAt l i)))
          (branch (AV.bool (inR r i))
            (branch (AV.bool ((LD.one (LT.int IntKind.u8)).is (V.rowAt r i)))
              (branch (AV.bool (hdI (V.rowAt l i) != hdI (V.rowAt r i)))
                (K AX.ret (Env.mk 26 [(4, AV.bool false)]) st)
                (loopRun (f17_l0.run F) [0, 1, 5] K n
                  (Env.mk 26
                    [(0, AV.ns z 1 l), (1, AV.ns y 1 r),
                      (5, AV.int IntKind.i64 (IntKind.i64.wrap (i + (1 : Int))))])
                  st))
              none)
            none)
          none)
        none)
      (K (AX.exit 0) (Env.mk 26 []) st) := by kernel_rfl

theorem same_out (F : Nat) (st : St) :
    ((Cont.block 0 (Cont.then (f17_r0.run F (f17.leaveK Fun.done)) (f17.leaveK Fun.done))) (.exit 0) (Env.mk 26 []) st : Ans) =
    some (Fin.ret (AV.bool true), st) := by kernel_rfl

theorem same_ret (F : Nat) (st : St) :
    ((Cont.block 0 (Cont.then (f17_r0.run F (f17.leaveK Fun.done)) (f17.leaveK Fun.done))) .ret (Env.mk 26 [(4, .bool false)]) st : Ans) =
    some (Fin.ret (AV.bool false), st) := by kernel_rfl

theorem copy_run (F : Nat) (z : Bool) (l : List (List AV)) (st : St) :
    (f18.run F [.ns z 1 l] st : Ans) =
    branch (AV.bool (true && apOk l.length 1)) (some (Fin.ret (AV.sl 1 false l), st)) none := by kernel_rfl

theorem clone_run (F : Nat) (z : Bool) (l : List (List AV)) (st : St) :
    (f27.run F [.ns z 1 l] st : Ans) =
    branch (AV.bool z) (some (Fin.ret AV.nilsl, st))
      (branch (AV.bool (true && apOk l.length 1)) (some (Fin.ret (AV.sl 1 false l), st)) none) := by kernel_rfl

theorem load_run (F : Nat) (z : Bool) (l : List (List AV)) (n : Int) :
    (f10.run F [.ns z 1 l, .int .i64 n] ⟨[], []⟩ : Ans) =
    branch (AV.bool (decide (n < (1 : Int))))
      (some (Fin.ret (AV.tup [AV.nilptr, AV.int IntKind.i64 (41 : Int)]), St.mk [] []))
      (branch (AV.bool (decide (n > (65536 : Int))))
        (some (Fin.ret (AV.tup [AV.nilptr, AV.int IntKind.i64 (41 : Int)]), St.mk [] []))
        (branch (AV.bool (mkOk 64 n))
          (loopRun (f10_l0.run F) [0, 6, 24, 25]
            (Cont.block 0 (Cont.then (f10_r0.run F (f10.leaveK Fun.done)) (f10.leaveK Fun.done))) F
            (Env.mk 42
              [(0, AV.ns z 1 l), (6, AV.ptr 2 0),
                (24, AV.int IntKind.i64 (↑n.toNat : Int)), (25, AV.int IntKind.i64 (0 : Int))])
            (St.mk
              [Ob.cells
                  (zerC n.toNat
                    [AV.int IntKind.u8 (0 : Int), AV.int IntKind.u8 (0 : Int), AV.int IntKind.u8 (0 : Int),
                      AV.int IntKind.u8 (0 : Int), AV.int IntKind.u8 (0 : Int), AV.int IntKind.u8 (0 : Int),
                      AV.int IntKind.u8 (0 : Int), AV.int IntKind.u8 (0 : Int), AV.int IntKind.u8 (0 : Int),
                      AV.int IntKind.u8 (0 : Int), AV.int IntKind.u8 (0 : Int), AV.int IntKind.u8 (0 : Int),
                      AV.int IntKind.u8 (0 : Int), AV.int IntKind.u8 (0 : Int), AV.int IntKind.u8 (0 : Int),
                      AV.int IntKind.u8 (0 : Int), AV.int IntKind.u8 (0 : Int), AV.int IntKind.u8 (0 : Int),
                      AV.int IntKind.u8 (0 : Int), AV.int IntKind.u8 (0 : Int), AV.int IntKind.u8 (0 : Int),
                      AV.int IntKind.u8 (0 : Int), AV.int IntKind.u8 (0 : Int), AV.int IntKind.u8 (0 : Int),
                      AV.int IntKind.u8 (0 : Int), AV.int IntKind.u8 (0 : Int), AV.int IntKind.u8 (0 : Int),
                      AV.int IntKind.u8 (0 : Int), AV.int IntKind.u8 (0 : Int), AV.int IntKind.u8 (0 : Int),
                      AV.int IntKind.u8 (0 : Int), AV.int IntKind.u8 (0 : Int), AV.int IntKind.u8 (0 : Int),
                      AV.int IntKind.u8 (0 : Int), AV.int IntKind.u8 (0 : Int), AV.int IntKind.u8 (0 : Int),
                      AV.int IntKind.u8 (0 : Int), AV.int IntKind.u8 (0 : Int), AV.int IntKind.u8 (0 : Int),
                      AV.int IntKind.u8 (0 : Int), AV.int IntKind.u8 (0 : Int), AV.int IntKind.u8 (0 : Int),
                      AV.int IntKind.u8 (0 : Int), AV.int IntKind.u8 (0 : Int), AV.int IntKind.u8 (0 : Int),
                      AV.int IntKind.u8 (0 : Int), AV.int IntKind.u8 (0 : Int), AV.int IntKind.u8 (0 : Int),
                      AV.int IntKind.u8 (0 : Int), AV.int IntKind.u8 (0 : Int), AV.int IntKind.u8 (0 : Int),
                      AV.int IntKind.u8 (0 : Int), AV.int IntKind.u8 (0 : Int), AV.int IntKind.u8 (0 : Int),
                      AV.int IntKind.u8 (0 : Int), AV.int IntKind.u8 (0 : Int), AV.int IntKind.u8 (0 : Int),
                      AV.int IntKind.u8 (0 : Int), AV.int IntKind.u8 (0 : Int), AV.int IntKind.u8 (0 : Int),
                      AV.int IntKind.u8 (0 : Int), AV.int IntKind.u8 (0 : Int), AV.int IntKind.u8 (0 : Int),
                      AV.int IntKind.u8 (0 : Int)]),
                Ob.map [], Ob.cells [AV.ms 0 64 0 n.toNat n.toNat, AV.mp 1, AV.nilsl],
                Ob.nov 0]
              []))
          none)) := by kernel_rfl

theorem load_round (F m : Nat) (K : Cont) (z : Bool) (l : List (List AV)) (i e : Int) (N : Nat) (ls : List AV) :
    (loopRun (f10_l0.run F) [0, 6, 24, 25] K m.succ (Env.mk 42 [(0, .ns z 1 l), (6, .ptr 2 0), (24, .int .i64 e), (25, .int .i64 i)]) ⟨[.cells ls, .map [], .cells [.ms 0 64 0 N N, .mp 1, .nilsl], .nov 0], []⟩ : Ans) =
    branch (AV.bool (decide (i < e)))
      (if (0 : Int) ≤ i ∧ i < (↑N : Int) then
        branch (AV.bool (inC ls (0 + i.toNat * 64 + 0) (mulN (minN l.length 64) 1)))
          (if (0 : Int) ≤ (↑(minN l.length 64) : Int) ∧ (↑(minN l.length 64) : Int) ≤ (↑l.length : Int) then
            loopRun (f10_l0.run F) [0, 6, 24, 25] K m
              (Env.mk 42
                [(0,
                    AV.ns z 1 (List.drop (↑(minN l.length 64) : Int).toNat (List.take l.length l))),
                  (6, AV.ptr 2 0), (24, AV.int IntKind.i64 e),
                  (25, AV.int IntKind.i64 (IntKind.i64.wrap (i + (1 : Int))))])
              (St.mk
                [Ob.cells (setC ls (0 + i.toNat * 64 + 0) (flC l (minN l.length 64))),
                  Ob.map [], Ob.cells [AV.ms 0 64 0 N N, AV.mp 1, AV.nilsl],
                  Ob.nov 0]
                [])
          else none)
          none
      else none)
      (K (AX.exit 0) (Env.mk 42 [(6, AV.ptr 2 0)])
        (St.mk
          [Ob.cells ls, Ob.map [], Ob.cells [AV.ms 0 64 0 N N, AV.mp 1, AV.nilsl],
            Ob.nov 0]
          [])) := by kernel_rfl

theorem load_out (F : Nat) (K : Cont) (st : St) :
    ((Cont.block 0 (Cont.then (f10_r0.run F (f10.leaveK Fun.done)) (f10.leaveK Fun.done))) (.exit 0) (Env.mk 42 [(6, .ptr 2 0)]) st : Ans) =
    some (Fin.ret (AV.tup [AV.ptr 2 0, AV.int IntKind.i64 (0 : Int)]), st) := by kernel_rfl

theorem there_run (F N : Nat) (k : Int) (ls : List AV) (es : List (AV × AV)) (wr : AV) (W : Ob) :
    (f25.run F [.ptr 2 0, .int .i64 k] ⟨[.cells ls, .map es, .cells [.ms 0 64 0 N N, .mp 1, wr], W], []⟩ : Ans) =
    branch (AV.bool (decide (k ≥ (0 : Int))))
      (some
        (Fin.ret (AV.bool (decide (k < (↑N : Int)))),
          St.mk [Ob.cells ls, Ob.map es, Ob.cells [AV.ms 0 64 0 N N, AV.mp 1, wr], W] []))
      (some
        (Fin.ret (AV.bool false),
          St.mk [Ob.cells ls, Ob.map es, Ob.cells [AV.ms 0 64 0 N N, AV.mp 1, wr], W] [])) := by kernel_rfl

theorem size_run (F N : Nat) (ls : List AV) (es : List (AV × AV)) (wr : AV) (W : Ob) :
    (f28.run F [.ptr 2 0] ⟨[.cells ls, .map es, .cells [.ms 0 64 0 N N, .mp 1, wr], W], []⟩ : Ans) =
    some
      (Fin.ret (AV.int IntKind.i64 (↑N : Int)),
        St.mk [Ob.cells ls, Ob.map es, Ob.cells [AV.ms 0 64 0 N N, AV.mp 1, wr], W] []) := by kernel_rfl

theorem pend0_run (F N : Nat) (ls : List AV) (es : List (AV × AV)) (W : Ob) :
    (f22.run F [.ptr 2 0] ⟨[.cells ls, .map es, .cells [.ms 0 64 0 N N, .mp 1, .nilsl], W], []⟩ : Ans) =
    some
      (Fin.ret (AV.int IntKind.i64 (0 : Int)),
        St.mk [Ob.cells ls, Ob.map es, Ob.cells [AV.ms 0 64 0 N N, AV.mp 1, AV.nilsl], W]
          []) := by kernel_rfl

theorem pend_run (F N v n : Nat) (ls : List AV) (es : List (AV × AV)) (W : Ob) :
    (f22.run F [.ptr 2 0] ⟨[.cells ls, .map es, .cells [.ms 0 64 0 N N, .mp 1, .vs 3 v 65 n], W], []⟩ : Ans) =
    some
      (Fin.ret (AV.int IntKind.i64 (↑n : Int)),
        St.mk
          [Ob.cells ls, Ob.map es,
            Ob.cells [AV.ms 0 64 0 N N, AV.mp 1, AV.vs 3 v 65 n], W]
          []) := by kernel_rfl

end Go.Proofs.Ytclghabbhpaafaa.V

/- Disk: rounds enough for every loop of a callee. -/
set_option linter.unusedVariables false
namespace Go.Proofs.Ytclghabbhpaafaa.V
open Go Go.V Go.RowKit
noncomputable def bigF : Nat := opq 1000000
theorem bigF_eq : bigF = 1000000 := by rw [bigF, opq_eq]
end Go.Proofs.Ytclghabbhpaafaa.V

/- The functions' pieces, as told by gen.py. -/
set_option linter.unusedVariables false
set_option maxRecDepth 20000
namespace Go.Proofs.Ytclghabbhpaafaa.V
open Go Go.V Go.RowKit

theorem ze62 : (Try.prog.info? 62).bind (·.zero) = some (.agg #[(.int .i64 0), (.int .u8 0), (.int .u8 0), (.int .u8 0), (.int .u8 0), (.int .u8 0), (.int .u8 0), (.int .u8 0), (.int .u8 0), (.int .u8 0), (.int .u8 0), (.int .u8 0), (.int .u8 0), (.int .u8 0), (.int .u8 0), (.int .u8 0), (.int .u8 0), (.int .u8 0), (.int .u8 0), (.int .u8 0), (.int .u8 0), (.int .u8 0), (.int .u8 0), (.int .u8 0), (.int .u8 0), (.int .u8 0), (.int .u8 0), (.int .u8 0), (.int .u8 0), (.int .u8 0), (.int .u8 0), (.int .u8 0), (.int .u8 0), (.int .u8 0), (.int .u8 0), (.int .u8 0), (.int .u8 0), (.int .u8 0), (.int .u8 0), (.int .u8 0), (.int .u8 0), (.int .u8 0), (.int .u8 0), (.int .u8 0), (.int .u8 0), (.int .u8 0), (.int .u8 0), (.int .u8 0), (.int .u8 0), (.int .u8 0), (.int .u8 0), (.int .u8 0), (.int .u8 0), (.int .u8 0), (.int .u8 0), (.int .u8 0), (.int .u8 0), (.int .u8 0), (.int .u8 0), (.int .u8 0), (.int .u8 0), (.int .u8 0), (.int .u8 0), (.int .u8 0), (.int .u8 0)]) := by kernel_rfl
theorem sz62 : (Try.prog.info? 62).map (·.size) = some 65 := by kernel_rfl
noncomputable abbrev d62 : TypeDesc := (Try.prog.underlying 62).getD .bool
theorem ud62 : Try.prog.underlying 62 = some d62 := by kernel_rfl
theorem by62 : (Try.prog.info? 62).map (·.bytes) = some 72 := by kernel_rfl
theorem el56 : ElemOf Try.prog 56 62 65 72 (.agg #[(.int .i64 0), (.int .u8 0), (.int .u8 0), (.int .u8 0), (.int .u8 0), (.int .u8 0), (.int .u8 0), (.int .u8 0), (.int .u8 0), (.int .u8 0), (.int .u8 0), (.int .u8 0), (.int .u8 0), (.int .u8 0), (.int .u8 0), (.int .u8 0), (.int .u8 0), (.int .u8 0), (.int .u8 0), (.int .u8 0), (.int .u8 0), (.int .u8 0), (.int .u8 0), (.int .u8 0), (.int .u8 0), (.int .u8 0), (.int .u8 0), (.int .u8 0), (.int .u8 0), (.int .u8 0), (.int .u8 0), (.int .u8 0), (.int .u8 0), (.int .u8 0), (.int .u8 0), (.int .u8 0), (.int .u8 0), (.int .u8 0), (.int .u8 0), (.int .u8 0), (.int .u8 0), (.int .u8 0), (.int .u8 0), (.int .u8 0), (.int .u8 0), (.int .u8 0), (.int .u8 0), (.int .u8 0), (.int .u8 0), (.int .u8 0), (.int .u8 0), (.int .u8 0), (.int .u8 0), (.int .u8 0), (.int .u8 0), (.int .u8 0), (.int .u8 0), (.int .u8 0), (.int .u8 0), (.int .u8 0), (.int .u8 0), (.int .u8 0), (.int .u8 0), (.int .u8 0), (.int .u8 0)]) := ⟨Try.underlying56, sz62, by62, ze62, by kernel_rfl, by decide⟩
theorem fl58_1 : fieldB Try.prog 58 1 1 1 false = true := by kernel_rfl
theorem sz55 : (Try.prog.info? 55).map (·.size) = some 1 := by kernel_rfl
theorem fl62_1 : fieldB Try.prog 62 1 1 64 true = true := by kernel_rfl
theorem fl62_0 : fieldB Try.prog 62 0 0 1 false = true := by kernel_rfl
theorem sz3 : (Try.prog.info? 3).map (·.size) = some 1 := by kernel_rfl

/-! ### 11: (*interlock/disk.Disk).Write (24, 3, 22); results 6; slots: 0 d, 1 k, 2 b, 3 d, 4 k, 5 b, 7 w -/
noncomputable def f11_b : Sim Try.prog :=
  (.seq (.live [0, 1, 2] (.region 0 [
    ⟨(opAssign (some 6) (.const (Value.int IntKind.i64 0)) 25 "disk.go:58" #[]).op, none⟩
  ] (by kernel_rfl)))
  (.seq (.block 0 (.seq (.live [0, 1, 2, 8] (.region 1 [
      ⟨(opMove (some 9) (.tmp 0) 24 "disk.go:60" #[]).op, none⟩,
      ⟨(opMove (some 10) (.tmp 1) 3 "disk.go:60" #[]).op, none⟩,
      ⟨opCall (f25.orc 0) (some 11) [(.tmp 9), (.tmp 10)] #[24, 3] 4 "disk.go:60" #[{ on := 0, ground := Ground.data }, { on := 1, ground := Ground.data }], none⟩,
      ⟨(opNot (some 12) 4 (.tmp 11) 4 "disk.go:60" #[{ on := 2, ground := Ground.data }]).op, none⟩,
      ⟨(opAssign (some 8) (.tmp 12) 4 "disk.go:60" #[{ on := 3, ground := Ground.data }, { on := 2, ground := Ground.chain }]).op, none⟩
    ] (by kernel_rfl)))
    (.cond (.tmp 8)
      (.seq (.live [6] (.region 2 [
        ⟨(opAssign (some 6) (.const (Value.int IntKind.i64 40)) 25 "disk.go:61" #[]).op, none⟩
      ] (by kernel_rfl)))
      (.live [6] .ret))
      (.seq (.live [0, 1, 2, 13] (.region 3 [
        ⟨(opMove (some 14) (.tmp 2) 22 "disk.go:62" #[]).op, none⟩,
        ⟨(opLen (some 15) (.tmp 14) 22 (.slice 5) Try.underlying22 3 "disk.go:62" #[{ on := 0, ground := Ground.data }]).op, none⟩,
        ⟨(opBin (some 16) .neq 3 (.tmp 15) (.const (Value.int IntKind.i64 64)) 3 4 "disk.go:62" #[{ on := 1, ground := Ground.data }]).op, none⟩,
        ⟨(opAssign (some 13) (.tmp 16) 4 "disk.go:62" #[{ on := 2, ground := Ground.data }]).op, none⟩
      ] (by kernel_rfl)))
      (.cond (.tmp 13)
        (.seq (.live [6] (.region 4 [
          ⟨(opAssign (some 6) (.const (Value.int IntKind.i64 41)) 25 "disk.go:63" #[]).op, none⟩
        ] (by kernel_rfl)))
        (.live [6] .ret))
        .skip)))))
  (.seq (.live [0, 1, 7] (.items 5 [
    .one ((opMove (some 17) (.tmp 1) 3 "disk.go:65" #[]).op),
    .one ((opMove (some 18) (.tmp 2) 22 "disk.go:65" #[]).op),
    .one ((opArrPtr (some 19) 59 (.tmp 18) 64 5 1 Try.underlying59 (by decide) 0 "disk.go:65" #[{ on := 1, ground := Ground.data }]).op),
    .one ((opLoadA (some 20) 59 (.tmp 19) (.array 64 5) Try.underlying59 (by kernel_rfl) 64 sz59 59 "disk.go:65" #[{ on := 2, ground := Ground.data }]).op),
    .one ((opBuildC (some 21) 62 #[(.int .i64 0), (.int .u8 0), (.int .u8 0), (.int .u8 0), (.int .u8 0), (.int .u8 0), (.int .u8 0), (.int .u8 0), (.int .u8 0), (.int .u8 0), (.int .u8 0), (.int .u8 0), (.int .u8 0), (.int .u8 0), (.int .u8 0), (.int .u8 0), (.int .u8 0), (.int .u8 0), (.int .u8 0), (.int .u8 0), (.int .u8 0), (.int .u8 0), (.int .u8 0), (.int .u8 0), (.int .u8 0), (.int .u8 0), (.int .u8 0), (.int .u8 0), (.int .u8 0), (.int .u8 0), (.int .u8 0), (.int .u8 0), (.int .u8 0), (.int .u8 0), (.int .u8 0), (.int .u8 0), (.int .u8 0), (.int .u8 0), (.int .u8 0), (.int .u8 0), (.int .u8 0), (.int .u8 0), (.int .u8 0), (.int .u8 0), (.int .u8 0), (.int .u8 0), (.int .u8 0), (.int .u8 0), (.int .u8 0), (.int .u8 0), (.int .u8 0), (.int .u8 0), (.int .u8 0), (.int .u8 0), (.int .u8 0), (.int .u8 0), (.int .u8 0), (.int .u8 0), (.int .u8 0), (.int .u8 0), (.int .u8 0), (.int .u8 0), (.int .u8 0), (.int .u8 0), (.int .u8 0)] [(0, 0, 1, (.tmp 17)), (1, 1, 64, (.tmp 20))] ze62 (by kernel_rfl) 62 "disk.go:65" #[{ on := 0, ground := Ground.data }, { on := 3, ground := Ground.data }]).op),
    .two (op2Box 7 62 (.agg #[(.int .i64 0), (.int .u8 0), (.int .u8 0), (.int .u8 0), (.int .u8 0), (.int .u8 0), (.int .u8 0), (.int .u8 0), (.int .u8 0), (.int .u8 0), (.int .u8 0), (.int .u8 0), (.int .u8 0), (.int .u8 0), (.int .u8 0), (.int .u8 0), (.int .u8 0), (.int .u8 0), (.int .u8 0), (.int .u8 0), (.int .u8 0), (.int .u8 0), (.int .u8 0), (.int .u8 0), (.int .u8 0), (.int .u8 0), (.int .u8 0), (.int .u8 0), (.int .u8 0), (.int .u8 0), (.int .u8 0), (.int .u8 0), (.int .u8 0), (.int .u8 0), (.int .u8 0), (.int .u8 0), (.int .u8 0), (.int .u8 0), (.int .u8 0), (.int .u8 0), (.int .u8 0), (.int .u8 0), (.int .u8 0), (.int .u8 0), (.int .u8 0), (.int .u8 0), (.int .u8 0), (.int .u8 0), (.int .u8 0), (.int .u8 0), (.int .u8 0), (.int .u8 0), (.int .u8 0), (.int .u8 0), (.int .u8 0), (.int .u8 0), (.int .u8 0), (.int .u8 0), (.int .u8 0), (.int .u8 0), (.int .u8 0), (.int .u8 0), (.int .u8 0), (.int .u8 0), (.int .u8 0)]) ze62 (.tmp 21) (by rfl) 65 sz62 (by kernel_rfl) 39 (by rfl) 0 0 "disk.go:65" "disk.go:65" #[] #[{ on := 5, ground := Ground.data }, { on := 4, ground := Ground.data }, { on := 0, ground := Ground.phase }, { on := 1, ground := Ground.phase }, { on := 2, ground := Ground.phase }, { on := 3, ground := Ground.phase }, { on := 4, ground := Ground.phase }, { on := 5, ground := Ground.phase }])
  ]))
  (.seq (.live [0, 1, 7] (.draw 6 [
    ⟨.p (opMove (some 22) (.tmp 0) 24 "disk.go:66" #[]), none⟩,
    ⟨.p (opMove (some 23) (.tmp 0) 24 "disk.go:66" #[]), none⟩,
    ⟨.p (opNilCheck (some 24) (.tmp 23) 0 "disk.go:66" #[{ on := 1, ground := Ground.data }]), none⟩,
    ⟨.pn (opFieldAddr (some 25) 58 (.tmp 24) 2 2 1 false fl58_2 (by decide) 0 "disk.go:66" #[{ on := 2, ground := Ground.data }]) opFieldAddr_nat, none⟩,
    ⟨.qn (opLoadT (.one .any) (some 26) 56 (.tmp 25) (.slice 62) Try.underlying56 1 sz56 (by kernel_rfl) 56 "disk.go:66" #[{ on := 3, ground := Ground.data }]) opLoadT_nat, none⟩,
    ⟨.qn (opLoadA (some 27) 62 (.tmp 7) d62 ud62 (by kernel_rfl) 65 sz62 62 "disk.go:66" #[]) opLoadA_nat, none⟩,
    ⟨.pn (opBuildSlice1 (some 28) 56 (.tmp 27) 62 65 72 (.agg #[(.int .i64 0), (.int .u8 0), (.int .u8 0), (.int .u8 0), (.int .u8 0), (.int .u8 0), (.int .u8 0), (.int .u8 0), (.int .u8 0), (.int .u8 0), (.int .u8 0), (.int .u8 0), (.int .u8 0), (.int .u8 0), (.int .u8 0), (.int .u8 0), (.int .u8 0), (.int .u8 0), (.int .u8 0), (.int .u8 0), (.int .u8 0), (.int .u8 0), (.int .u8 0), (.int .u8 0), (.int .u8 0), (.int .u8 0), (.int .u8 0), (.int .u8 0), (.int .u8 0), (.int .u8 0), (.int .u8 0), (.int .u8 0), (.int .u8 0), (.int .u8 0), (.int .u8 0), (.int .u8 0), (.int .u8 0), (.int .u8 0), (.int .u8 0), (.int .u8 0), (.int .u8 0), (.int .u8 0), (.int .u8 0), (.int .u8 0), (.int .u8 0), (.int .u8 0), (.int .u8 0), (.int .u8 0), (.int .u8 0), (.int .u8 0), (.int .u8 0), (.int .u8 0), (.int .u8 0), (.int .u8 0), (.int .u8 0), (.int .u8 0), (.int .u8 0), (.int .u8 0), (.int .u8 0), (.int .u8 0), (.int .u8 0), (.int .u8 0), (.int .u8 0), (.int .u8 0), (.int .u8 0)]) el56 (by kernel_rfl) (by decide) 56 "disk.go:66" #[{ on := 5, ground := Ground.data }]) opBuildSlice1_nat, none⟩,
    ⟨.mn (opAppendR (some (.tmp 0)) 1 (some 29) (.tmp 26) (.tmp 28) 56 56 62 65 72 (.agg #[(.int .i64 0), (.int .u8 0), (.int .u8 0), (.int .u8 0), (.int .u8 0), (.int .u8 0), (.int .u8 0), (.int .u8 0), (.int .u8 0), (.int .u8 0), (.int .u8 0), (.int .u8 0), (.int .u8 0), (.int .u8 0), (.int .u8 0), (.int .u8 0), (.int .u8 0), (.int .u8 0), (.int .u8 0), (.int .u8 0), (.int .u8 0), (.int .u8 0), (.int .u8 0), (.int .u8 0), (.int .u8 0), (.int .u8 0), (.int .u8 0), (.int .u8 0), (.int .u8 0), (.int .u8 0), (.int .u8 0), (.int .u8 0), (.int .u8 0), (.int .u8 0), (.int .u8 0), (.int .u8 0), (.int .u8 0), (.int .u8 0), (.int .u8 0), (.int .u8 0), (.int .u8 0), (.int .u8 0), (.int .u8 0), (.int .u8 0), (.int .u8 0), (.int .u8 0), (.int .u8 0), (.int .u8 0), (.int .u8 0), (.int .u8 0), (.int .u8 0), (.int .u8 0), (.int .u8 0), (.int .u8 0), (.int .u8 0), (.int .u8 0), (.int .u8 0), (.int .u8 0), (.int .u8 0), (.int .u8 0), (.int .u8 0), (.int .u8 0), (.int .u8 0), (.int .u8 0), (.int .u8 0)]) el56 (.slice 62) Try.underlying56 rfl 56 "disk.go:66" #[{ on := 4, ground := Ground.data }, { on := 6, ground := Ground.data }]) opAppendR_nat, none⟩,
    ⟨.p (opNilCheck (some 30) (.tmp 22) 0 "disk.go:66" #[{ on := 0, ground := Ground.data }, { on := 0, ground := Ground.phase }, { on := 1, ground := Ground.phase }, { on := 2, ground := Ground.phase }, { on := 3, ground := Ground.phase }, { on := 4, ground := Ground.phase }, { on := 5, ground := Ground.phase }, { on := 6, ground := Ground.phase }, { on := 7, ground := Ground.phase }]), none⟩,
    ⟨.pn (opFieldAddr (some 31) 58 (.tmp 30) 2 2 1 false fl58_2 (by decide) 0 "disk.go:66" #[{ on := 8, ground := Ground.data }, { on := 0, ground := Ground.phase }, { on := 1, ground := Ground.phase }, { on := 2, ground := Ground.phase }, { on := 3, ground := Ground.phase }, { on := 4, ground := Ground.phase }, { on := 5, ground := Ground.phase }, { on := 6, ground := Ground.phase }, { on := 7, ground := Ground.phase }]) opFieldAddr_nat, none⟩,
    ⟨.m (opStore none 56 (.tmp 31) (.tmp 29) 1 sz56 0 "disk.go:66" #[{ on := 9, ground := Ground.data }, { on := 7, ground := Ground.data }, { on := 7, ground := Ground.chain }, { on := 0, ground := Ground.phase }, { on := 1, ground := Ground.phase }, { on := 2, ground := Ground.phase }, { on := 3, ground := Ground.phase }, { on := 4, ground := Ground.phase }, { on := 5, ground := Ground.phase }, { on := 6, ground := Ground.phase }, { on := 7, ground := Ground.phase }]), none⟩
  ] mixed (by kernel_rfl)))
  (.seq (.live [] (.draw 7 [
    ⟨.p (opMove (some 32) (.tmp 0) 24 "disk.go:67" #[]), none⟩,
    ⟨.p (opNilCheck (some 33) (.tmp 32) 0 "disk.go:67" #[{ on := 0, ground := Ground.data }]), none⟩,
    ⟨.pn (opFieldAddr (some 34) 58 (.tmp 33) 1 1 1 false fl58_1 (by decide) 0 "disk.go:67" #[{ on := 1, ground := Ground.data }]) opFieldAddr_nat, none⟩,
    ⟨.qn (opLoadT (.one .any) (some 35) 55 (.tmp 34) (.map 3 59) Try.underlying55 1 sz55 (by kernel_rfl) 55 "disk.go:67" #[{ on := 2, ground := Ground.data }]) opLoadT_nat, none⟩,
    ⟨.p (opMove (some 36) (.tmp 1) 3 "disk.go:67" #[]), none⟩,
    ⟨.pn (opFieldAddr (some 37) 62 (.tmp 7) 1 1 64 true fl62_1 (by decide) 0 "disk.go:67" #[]) opFieldAddr_nat, none⟩,
    ⟨.qn (opLoadA (some 38) 59 (.tmp 37) (.array 64 5) Try.underlying59 (by kernel_rfl) 64 sz59 59 "disk.go:67" #[{ on := 5, ground := Ground.data }]) opLoadA_nat, none⟩,
    ⟨.mn (opMapUpdate (.int .i64) none 55 (.tmp 35) (.tmp 36) (.tmp 38) 3 59 (.int .i64) Try.underlying55 Try.underlying3 (by decide) 0 "disk.go:67" #[{ on := 3, ground := Ground.data }, { on := 4, ground := Ground.data }, { on := 6, ground := Ground.data }, { on := 0, ground := Ground.phase }, { on := 1, ground := Ground.phase }, { on := 2, ground := Ground.phase }, { on := 3, ground := Ground.phase }, { on := 4, ground := Ground.phase }, { on := 5, ground := Ground.phase }, { on := 6, ground := Ground.phase }]) opMapUpdate_nat, none⟩
  ] mixed (by kernel_rfl)))
  (.seq (.live [6] (.region 8 [
    ⟨(opAssign (some 6) (.const (Value.int IntKind.i64 0)) 25 "disk.go:68" #[]).op, none⟩
  ] (by kernel_rfl)))
  (.live [6] .ret)))))))

noncomputable def f11 : Fun Try.prog where
  id := 11
  fn := Try.f11
  hf := Try.func11
  hname := by kernel_rfl
  body := f11_b
  hbody := by kernel_rfl
  res := [rTmp 6]
  hres := by kernel_rfl
  n := 39
  hn := by kernel_rfl

/-! ### 13: (*interlock/disk.Disk).Read (24, 3); results 4, 5; slots: 0 d, 1 k, 2 d, 3 k, 6 s, 7 ok -/
noncomputable def f13_b : Sim Try.prog :=
  (.seq (.live [0, 1] (.region 0 [
    ⟨(opAssign (some 4) (.const (Value.slice none 0 0)) 22 "disk.go:46" #[]).op, none⟩,
    ⟨(opAssign (some 5) (.const (Value.int IntKind.i64 0)) 25 "disk.go:46" #[{ on := 0, ground := Ground.chain }]).op, none⟩
  ] (by kernel_rfl)))
  (.seq (.seq (.live [0, 1, 11] (.region 1 [
    ⟨(opMove (some 8) (.tmp 0) 24 "disk.go:47" #[]).op, none⟩,
    ⟨(opMove (some 9) (.tmp 1) 3 "disk.go:47" #[]).op, none⟩,
    ⟨opCall (f25.orc 0) (some 10) [(.tmp 8), (.tmp 9)] #[24, 3] 4 "disk.go:47" #[{ on := 0, ground := Ground.data }, { on := 1, ground := Ground.data }], none⟩,
    ⟨(opNot (some 11) 4 (.tmp 10) 4 "disk.go:47" #[{ on := 2, ground := Ground.data }]).op, none⟩
  ] (by kernel_rfl)))
  (.cond (.tmp 11)
    (.seq (.live [4, 5] (.region 2 [
      ⟨(opAssign (some 4) (.const (Value.slice none 0 0)) 22 "disk.go:48" #[]).op, none⟩,
      ⟨(opAssign (some 5) (.const (Value.int IntKind.i64 40)) 25 "disk.go:48" #[{ on := 0, ground := Ground.chain }, { on := 0, ground := Ground.phase }]).op, none⟩
    ] (by kernel_rfl)))
    (.live [4, 5] .ret))
    .skip))
  (.seq (.live [0, 1, 6, 7] (.region 3 [
    ⟨(opMove (some 13) (.tmp 0) 24 "disk.go:50" #[]).op, none⟩,
    ⟨(opNilCheck (some 14) (.tmp 13) 0 "disk.go:50" #[{ on := 0, ground := Ground.data }]).op, none⟩,
    ⟨(opFieldAddr (some 15) 58 (.tmp 14) 1 1 1 false fl58_1 (by decide) 0 "disk.go:50" #[{ on := 1, ground := Ground.data }]).op, none⟩,
    ⟨(opLoadT (.one .any) (some 16) 55 (.tmp 15) (.map 3 59) Try.underlying55 1 sz55 (by kernel_rfl) 55 "disk.go:50" #[{ on := 2, ground := Ground.data }]).op, none⟩,
    ⟨(opMove (some 17) (.tmp 1) 3 "disk.go:50" #[]).op, none⟩,
    ⟨(opLookup (.int .i64) (.agg 64) (some 18) 55 (.tmp 16) (.tmp 17) true 3 59 (.int .i64) Try.underlying55 Try.underlying3 (by decide) (.agg #[(.int .u8 0), (.int .u8 0), (.int .u8 0), (.int .u8 0), (.int .u8 0), (.int .u8 0), (.int .u8 0), (.int .u8 0), (.int .u8 0), (.int .u8 0), (.int .u8 0), (.int .u8 0), (.int .u8 0), (.int .u8 0), (.int .u8 0), (.int .u8 0), (.int .u8 0), (.int .u8 0), (.int .u8 0), (.int .u8 0), (.int .u8 0), (.int .u8 0), (.int .u8 0), (.int .u8 0), (.int .u8 0), (.int .u8 0), (.int .u8 0), (.int .u8 0), (.int .u8 0), (.int .u8 0), (.int .u8 0), (.int .u8 0), (.int .u8 0), (.int .u8 0), (.int .u8 0), (.int .u8 0), (.int .u8 0), (.int .u8 0), (.int .u8 0), (.int .u8 0), (.int .u8 0), (.int .u8 0), (.int .u8 0), (.int .u8 0), (.int .u8 0), (.int .u8 0), (.int .u8 0), (.int .u8 0), (.int .u8 0), (.int .u8 0), (.int .u8 0), (.int .u8 0), (.int .u8 0), (.int .u8 0), (.int .u8 0), (.int .u8 0), (.int .u8 0), (.int .u8 0), (.int .u8 0), (.int .u8 0), (.int .u8 0), (.int .u8 0), (.int .u8 0), (.int .u8 0)]) ze59 63 "disk.go:50" #[{ on := 3, ground := Ground.data }, { on := 4, ground := Ground.data }]).op, none⟩,
    ⟨(opMove (some 12) (.tmp 18) 63 "disk.go:50" #[{ on := 5, ground := Ground.data }]).op, none⟩,
    ⟨(opExtract (some 19) (.tmp 12) 0 59 "disk.go:50" #[{ on := 6, ground := Ground.data }]).op, none⟩,
    ⟨(opExtract (some 20) (.tmp 12) 1 4 "disk.go:50" #[{ on := 6, ground := Ground.data }, { on := 10, ground := (Ground.gcOnly Departure.lateStores) }]).op, none⟩,
    ⟨(opAllocZ 64 (AV.int .u8 0) (some 6) 59 (.agg #[(.int .u8 0), (.int .u8 0), (.int .u8 0), (.int .u8 0), (.int .u8 0), (.int .u8 0), (.int .u8 0), (.int .u8 0), (.int .u8 0), (.int .u8 0), (.int .u8 0), (.int .u8 0), (.int .u8 0), (.int .u8 0), (.int .u8 0), (.int .u8 0), (.int .u8 0), (.int .u8 0), (.int .u8 0), (.int .u8 0), (.int .u8 0), (.int .u8 0), (.int .u8 0), (.int .u8 0), (.int .u8 0), (.int .u8 0), (.int .u8 0), (.int .u8 0), (.int .u8 0), (.int .u8 0), (.int .u8 0), (.int .u8 0), (.int .u8 0), (.int .u8 0), (.int .u8 0), (.int .u8 0), (.int .u8 0), (.int .u8 0), (.int .u8 0), (.int .u8 0), (.int .u8 0), (.int .u8 0), (.int .u8 0), (.int .u8 0), (.int .u8 0), (.int .u8 0), (.int .u8 0), (.int .u8 0), (.int .u8 0), (.int .u8 0), (.int .u8 0), (.int .u8 0), (.int .u8 0), (.int .u8 0), (.int .u8 0), (.int .u8 0), (.int .u8 0), (.int .u8 0), (.int .u8 0), (.int .u8 0), (.int .u8 0), (.int .u8 0), (.int .u8 0), (.int .u8 0)]) ze59 (by kernel_rfl) 0 "disk.go:50" #[]).op, none⟩,
    ⟨(opStoreC none 59 (.tmp 6) (.tmp 19) 64 sz59 0 "disk.go:50" #[{ on := 9, ground := Ground.data }, { on := 7, ground := Ground.data }, { on := 0, ground := Ground.phase }, { on := 1, ground := Ground.phase }, { on := 2, ground := Ground.phase }, { on := 3, ground := Ground.phase }, { on := 4, ground := Ground.phase }, { on := 5, ground := Ground.phase }, { on := 6, ground := Ground.phase }, { on := 7, ground := Ground.phase }, { on := 8, ground := (Ground.textOnly Departure.lateStores) }, { on := 9, ground := Ground.phase }]).op, none⟩,
    ⟨(opAssign (some 7) (.tmp 20) 4 "disk.go:50" #[{ on := 8, ground := Ground.data }, { on := 10, ground := Ground.chain }, { on := 0, ground := Ground.phase }, { on := 1, ground := Ground.phase }, { on := 2, ground := Ground.phase }, { on := 3, ground := Ground.phase }, { on := 4, ground := Ground.phase }, { on := 5, ground := Ground.phase }, { on := 6, ground := Ground.phase }, { on := 7, ground := Ground.phase }, { on := 8, ground := Ground.phase }, { on := 9, ground := Ground.phase }, { on := 10, ground := Ground.phase }]).op, none⟩
  ] (by kernel_rfl)))
  (.seq (.seq (.live [0, 1, 6, 22] (.region 4 [
    ⟨(opMove (some 21) (.tmp 7) 4 "disk.go:51" #[]).op, none⟩,
    ⟨(opNot (some 22) 4 (.tmp 21) 4 "disk.go:51" #[{ on := 0, ground := Ground.data }]).op, none⟩
  ] (by kernel_rfl)))
  (.cond (.tmp 22)
    (.live [6] (.region 5 [
      ⟨(opMove (some 23) (.tmp 0) 24 "disk.go:52" #[]).op, none⟩,
      ⟨(opNilCheck (some 24) (.tmp 23) 0 "disk.go:52" #[{ on := 0, ground := Ground.data }]).op, none⟩,
      ⟨(opFieldAddr (some 25) 58 (.tmp 24) 0 0 1 false fl58_0 (by decide) 0 "disk.go:52" #[{ on := 1, ground := Ground.data }]).op, none⟩,
      ⟨(opLoadT (.one .any) (some 26) 54 (.tmp 25) (.slice 59) Try.underlying54 1 sz54 (by kernel_rfl) 54 "disk.go:52" #[{ on := 2, ground := Ground.data }]).op, none⟩,
      ⟨(opMove (some 27) (.tmp 1) 3 "disk.go:52" #[]).op, none⟩,
      ⟨(opIndexAddrT (some 28) 54 (.tmp 26) (.tmp 27) 59 64 Try.underlying54 sz59 0 "disk.go:52" #[{ on := 3, ground := Ground.data }, { on := 4, ground := Ground.data }]).op, none⟩,
      ⟨(opLoadA (some 29) 59 (.tmp 28) (.array 64 5) Try.underlying59 (by kernel_rfl) 64 sz59 59 "disk.go:52" #[{ on := 5, ground := Ground.data }]).op, none⟩,
      ⟨(opStoreC none 59 (.tmp 6) (.tmp 29) 64 sz59 0 "disk.go:52" #[{ on := 6, ground := Ground.data }, { on := 0, ground := Ground.phase }, { on := 1, ground := Ground.phase }, { on := 2, ground := Ground.phase }, { on := 3, ground := Ground.phase }, { on := 4, ground := Ground.phase }, { on := 5, ground := Ground.phase }, { on := 6, ground := Ground.phase }]).op, none⟩
    ] (by kernel_rfl)))
    .skip))
  (.seq (.live [4, 5] (.region 6 [
    ⟨(opSliceB (some 30) 59 (.tmp 6) none none none 64 5 1 Try.underlying59 (by decide) sz5 22 "disk.go:54" #[]).op, none⟩,
    ⟨opCall (f27.orc 0) (some 31) [(.tmp 30)] #[22] 22 "disk.go:54" #[{ on := 0, ground := Ground.data }], none⟩,
    ⟨(opAssign (some 4) (.tmp 31) 22 "disk.go:54" #[{ on := 1, ground := Ground.data }, { on := 1, ground := Ground.chain }, { on := 0, ground := Ground.phase }, { on := 1, ground := Ground.phase }]).op, none⟩,
    ⟨(opAssign (some 5) (.const (Value.int IntKind.i64 0)) 25 "disk.go:54" #[{ on := 2, ground := Ground.chain }, { on := 0, ground := Ground.phase }, { on := 1, ground := Ground.phase }, { on := 2, ground := Ground.phase }]).op, none⟩
  ] (by kernel_rfl)))
  (.live [4, 5] .ret))))))

noncomputable def f13 : Fun Try.prog where
  id := 13
  fn := Try.f13
  hf := Try.func13
  hname := by kernel_rfl
  body := f13_b
  hbody := by kernel_rfl
  res := [rTmp 4, rTmp 5]
  hres := by kernel_rfl
  n := 32
  hn := by kernel_rfl

/-! ### 26: (*interlock/disk.Disk).settle (24, 3, 3); results ; slots: 0 d, 1 keep, 2 torn, 3 d, 4 keep, 5 torn, 6 _, 7 w, 8 w -/
/-- A loop's round; at its head live: 0 d, 1 keep, 2 torn, 14 , 15 , 16  -/
noncomputable def f26_l0 : Sim Try.prog :=
  (.seq (.live [0, 1, 2, 14, 15, 16, 17] (.region 1 [
    ⟨(opBin (some 17) .lss 3 (.tmp 16) (.tmp 15) 3 0 "disk.go:73" #[]).op, none⟩
  ] (by kernel_rfl)))
  (.seq (.cond (.tmp 17)
    .skip
    (.live [0, 1, 2] (.exit 0)))
  (.seq (.block 1 (.seq (.live [0, 1, 2, 7, 14, 15, 16] (.items 2 [
      .one ((opIndexAddrT (some 18) 56 (.tmp 14) (.tmp 16) 62 65 Try.underlying56 sz62 0 "disk.go:73" #[]).op),
      .one ((opLoadA (some 19) 62 (.tmp 18) d62 ud62 (by kernel_rfl) 65 sz62 62 "disk.go:73" #[{ on := 0, ground := Ground.data }]).op),
      .two (op2Box 7 62 (.agg #[(.int .i64 0), (.int .u8 0), (.int .u8 0), (.int .u8 0), (.int .u8 0), (.int .u8 0), (.int .u8 0), (.int .u8 0), (.int .u8 0), (.int .u8 0), (.int .u8 0), (.int .u8 0), (.int .u8 0), (.int .u8 0), (.int .u8 0), (.int .u8 0), (.int .u8 0), (.int .u8 0), (.int .u8 0), (.int .u8 0), (.int .u8 0), (.int .u8 0), (.int .u8 0), (.int .u8 0), (.int .u8 0), (.int .u8 0), (.int .u8 0), (.int .u8 0), (.int .u8 0), (.int .u8 0), (.int .u8 0), (.int .u8 0), (.int .u8 0), (.int .u8 0), (.int .u8 0), (.int .u8 0), (.int .u8 0), (.int .u8 0), (.int .u8 0), (.int .u8 0), (.int .u8 0), (.int .u8 0), (.int .u8 0), (.int .u8 0), (.int .u8 0), (.int .u8 0), (.int .u8 0), (.int .u8 0), (.int .u8 0), (.int .u8 0), (.int .u8 0), (.int .u8 0), (.int .u8 0), (.int .u8 0), (.int .u8 0), (.int .u8 0), (.int .u8 0), (.int .u8 0), (.int .u8 0), (.int .u8 0), (.int .u8 0), (.int .u8 0), (.int .u8 0), (.int .u8 0), (.int .u8 0)]) ze62 (.tmp 19) (by rfl) 65 sz62 (by kernel_rfl) 63 (by rfl) 0 0 "disk.go:73" "disk.go:73" #[] #[{ on := 2, ground := Ground.data }, { on := 1, ground := Ground.data }, { on := 0, ground := Ground.phase }, { on := 1, ground := Ground.phase }, { on := 2, ground := Ground.phase }])
    ]))
    (.live [0, 1, 2, 14, 15, 16] (.draw 3 [
      ⟨.p (opMove (some 20) (.tmp 0) 24 "disk.go:74" #[]), none⟩,
      ⟨.p (opNilCheck (some 21) (.tmp 20) 0 "disk.go:74" #[{ on := 0, ground := Ground.data }]), none⟩,
      ⟨.pn (opFieldAddr (some 22) 58 (.tmp 21) 0 0 1 false fl58_0 (by decide) 0 "disk.go:74" #[{ on := 1, ground := Ground.data }]) opFieldAddr_nat, none⟩,
      ⟨.qn (opLoadT (.one .any) (some 23) 54 (.tmp 22) (.slice 59) Try.underlying54 1 sz54 (by kernel_rfl) 54 "disk.go:74" #[{ on := 2, ground := Ground.data }]) opLoadT_nat, none⟩,
      ⟨.pn (opFieldAddr (some 24) 62 (.tmp 7) 0 0 1 false fl62_0 (by decide) 0 "disk.go:74" #[]) opFieldAddr_nat, none⟩,
      ⟨.qn (opLoadT (.one (.int .i64)) (some 25) 3 (.tmp 24) (.int .i64) Try.underlying3 1 sz3 (by kernel_rfl) 3 "disk.go:74" #[{ on := 4, ground := Ground.data }]) opLoadT_nat, none⟩,
      ⟨.pn (opFieldAddr (some 26) 62 (.tmp 7) 1 1 64 true fl62_1 (by decide) 0 "disk.go:74" #[]) opFieldAddr_nat, none⟩,
      ⟨.qn (opLoadA (some 27) 59 (.tmp 26) (.array 64 5) Try.underlying59 (by kernel_rfl) 64 sz59 59 "disk.go:74" #[{ on := 6, ground := Ground.data }]) opLoadA_nat, none⟩,
      ⟨.pn (opIndexAddrT (some 28) 54 (.tmp 23) (.tmp 25) 59 64 Try.underlying54 sz59 0 "disk.go:74" #[{ on := 3, ground := Ground.data }, { on := 5, ground := Ground.data }, { on := 0, ground := Ground.phase }, { on := 1, ground := Ground.phase }, { on := 2, ground := Ground.phase }, { on := 3, ground := Ground.phase }, { on := 4, ground := Ground.phase }, { on := 5, ground := Ground.phase }, { on := 6, ground := Ground.phase }, { on := 7, ground := Ground.phase }]) opIndexAddrT_nat, none⟩,
      ⟨.mn (opStoreC none 59 (.tmp 28) (.tmp 27) 64 sz59 0 "disk.go:74" #[{ on := 8, ground := Ground.data }, { on := 7, ground := Ground.data }, { on := 0, ground := Ground.phase }, { on := 1, ground := Ground.phase }, { on := 2, ground := Ground.phase }, { on := 3, ground := Ground.phase }, { on := 4, ground := Ground.phase }, { on := 5, ground := Ground.phase }, { on := 6, ground := Ground.phase }, { on := 7, ground := Ground.phase }]) opStoreC_nat, none⟩
    ] mixed (by kernel_rfl)))))
  (.live [0, 1, 2, 14, 15, 16] (.region 4 [
    ⟨(opBin (some 29) .add 3 (.tmp 16) (.const (Value.int IntKind.i64 1)) 3 3 "disk.go:73" #[]).op, none⟩,
    ⟨(opMove (some 16) (.tmp 29) 3 "disk.go:73" #[{ on := 0, ground := Ground.data }]).op, none⟩
  ] (by kernel_rfl))))))

/-- What follows a loop. -/
noncomputable def f26_r0 : Sim Try.prog :=
  (.seq (.seq (.live [0, 1, 2, 36] (.region 5 [
    ⟨(opMove (some 30) (.tmp 1) 3 "disk.go:76" #[]).op, none⟩,
    ⟨(opMove (some 31) (.tmp 0) 24 "disk.go:76" #[]).op, none⟩,
    ⟨(opNilCheck (some 32) (.tmp 31) 0 "disk.go:76" #[{ on := 1, ground := Ground.data }]).op, none⟩,
    ⟨(opFieldAddr (some 33) 58 (.tmp 32) 2 2 1 false fl58_2 (by decide) 0 "disk.go:76" #[{ on := 2, ground := Ground.data }]).op, none⟩,
    ⟨(opLoadT (.one .any) (some 34) 56 (.tmp 33) (.slice 62) Try.underlying56 1 sz56 (by kernel_rfl) 56 "disk.go:76" #[{ on := 3, ground := Ground.data }]).op, none⟩,
    ⟨(opLen (some 35) (.tmp 34) 56 (.slice 62) Try.underlying56 3 "disk.go:76" #[{ on := 4, ground := Ground.data }]).op, none⟩,
    ⟨(opBin (some 36) .lss 3 (.tmp 30) (.tmp 35) 3 4 "disk.go:76" #[{ on := 0, ground := Ground.data }, { on := 5, ground := Ground.data }]).op, none⟩
  ] (by kernel_rfl)))
  (.cond (.tmp 36)
    (.seq (.live [0, 2, 8] (.items 6 [
      .one ((opMove (some 37) (.tmp 0) 24 "disk.go:77" #[]).op),
      .one ((opNilCheck (some 38) (.tmp 37) 0 "disk.go:77" #[{ on := 0, ground := Ground.data }]).op),
      .one ((opFieldAddr (some 39) 58 (.tmp 38) 2 2 1 false fl58_2 (by decide) 0 "disk.go:77" #[{ on := 1, ground := Ground.data }]).op),
      .one ((opLoadT (.one .any) (some 40) 56 (.tmp 39) (.slice 62) Try.underlying56 1 sz56 (by kernel_rfl) 56 "disk.go:77" #[{ on := 2, ground := Ground.data }]).op),
      .one ((opMove (some 41) (.tmp 1) 3 "disk.go:77" #[]).op),
      .one ((opIndexAddrT (some 42) 56 (.tmp 40) (.tmp 41) 62 65 Try.underlying56 sz62 0 "disk.go:77" #[{ on := 3, ground := Ground.data }, { on := 4, ground := Ground.data }]).op),
      .one ((opLoadA (some 43) 62 (.tmp 42) d62 ud62 (by kernel_rfl) 65 sz62 62 "disk.go:77" #[{ on := 5, ground := Ground.data }]).op),
      .two (op2Box 8 62 (.agg #[(.int .i64 0), (.int .u8 0), (.int .u8 0), (.int .u8 0), (.int .u8 0), (.int .u8 0), (.int .u8 0), (.int .u8 0), (.int .u8 0), (.int .u8 0), (.int .u8 0), (.int .u8 0), (.int .u8 0), (.int .u8 0), (.int .u8 0), (.int .u8 0), (.int .u8 0), (.int .u8 0), (.int .u8 0), (.int .u8 0), (.int .u8 0), (.int .u8 0), (.int .u8 0), (.int .u8 0), (.int .u8 0), (.int .u8 0), (.int .u8 0), (.int .u8 0), (.int .u8 0), (.int .u8 0), (.int .u8 0), (.int .u8 0), (.int .u8 0), (.int .u8 0), (.int .u8 0), (.int .u8 0), (.int .u8 0), (.int .u8 0), (.int .u8 0), (.int .u8 0), (.int .u8 0), (.int .u8 0), (.int .u8 0), (.int .u8 0), (.int .u8 0), (.int .u8 0), (.int .u8 0), (.int .u8 0), (.int .u8 0), (.int .u8 0), (.int .u8 0), (.int .u8 0), (.int .u8 0), (.int .u8 0), (.int .u8 0), (.int .u8 0), (.int .u8 0), (.int .u8 0), (.int .u8 0), (.int .u8 0), (.int .u8 0), (.int .u8 0), (.int .u8 0), (.int .u8 0), (.int .u8 0)]) ze62 (.tmp 43) (by rfl) 65 sz62 (by kernel_rfl) 63 (by rfl) 0 0 "disk.go:77" "disk.go:77" #[] #[{ on := 7, ground := Ground.data }, { on := 6, ground := Ground.data }, { on := 0, ground := Ground.phase }, { on := 1, ground := Ground.phase }, { on := 2, ground := Ground.phase }, { on := 3, ground := Ground.phase }, { on := 4, ground := Ground.phase }, { on := 5, ground := Ground.phase }, { on := 6, ground := Ground.phase }, { on := 7, ground := Ground.phase }])
    ]))
    (.live [0] (.draw 7 [
      ⟨.p (opMove (some 44) (.tmp 0) 24 "disk.go:78" #[]), none⟩,
      ⟨.p (opNilCheck (some 45) (.tmp 44) 0 "disk.go:78" #[{ on := 0, ground := Ground.data }]), none⟩,
      ⟨.pn (opFieldAddr (some 46) 58 (.tmp 45) 0 0 1 false fl58_0 (by decide) 0 "disk.go:78" #[{ on := 1, ground := Ground.data }]) opFieldAddr_nat, none⟩,
      ⟨.qn (opLoadT (.one .any) (some 47) 54 (.tmp 46) (.slice 59) Try.underlying54 1 sz54 (by kernel_rfl) 54 "disk.go:78" #[{ on := 2, ground := Ground.data }]) opLoadT_nat, none⟩,
      ⟨.pn (opFieldAddr (some 48) 62 (.tmp 8) 0 0 1 false fl62_0 (by decide) 0 "disk.go:78" #[]) opFieldAddr_nat, none⟩,
      ⟨.qn (opLoadT (.one (.int .i64)) (some 49) 3 (.tmp 48) (.int .i64) Try.underlying3 1 sz3 (by kernel_rfl) 3 "disk.go:78" #[{ on := 4, ground := Ground.data }]) opLoadT_nat, none⟩,
      ⟨.pn (opIndexAddrT (some 50) 54 (.tmp 47) (.tmp 49) 59 64 Try.underlying54 sz59 0 "disk.go:78" #[{ on := 3, ground := Ground.data }, { on := 5, ground := Ground.data }]) opIndexAddrT_nat, none⟩,
      ⟨.qn (opSliceB (some 51) 59 (.tmp 50) none none none 64 5 1 Try.underlying59 (by decide) sz5 22 "disk.go:78" #[{ on := 6, ground := Ground.data }]) opSliceB_nat, none⟩,
      ⟨.pn (opFieldAddr (some 52) 62 (.tmp 8) 1 1 64 true fl62_1 (by decide) 0 "disk.go:78" #[]) opFieldAddr_nat, none⟩,
      ⟨.p (opMove (some 53) (.tmp 2) 3 "disk.go:78" #[]), none⟩,
      ⟨.qn (opSliceB (some 54) 59 (.tmp 52) none (some (.tmp 53)) none 64 5 1 Try.underlying59 (by decide) sz5 22 "disk.go:78" #[{ on := 8, ground := Ground.data }, { on := 9, ground := Ground.data }]) opSliceB_nat, none⟩,
      ⟨.mn (opCopyV (some 55) (.tmp 51) (.tmp 54) 22 22 5 1 Try.underlying22 sz5 3 "disk.go:78" #[{ on := 7, ground := Ground.data }, { on := 10, ground := Ground.data }]) opCopyV_nat, none⟩
    ] mixed (by kernel_rfl))))
    .skip))
  (.seq (.live [0] (.region 8 [
    ⟨(opMove (some 56) (.tmp 0) 24 "disk.go:80" #[]).op, none⟩,
    ⟨(opNilCheck (some 57) (.tmp 56) 0 "disk.go:80" #[{ on := 0, ground := Ground.data }, { on := 0, ground := Ground.phase }]).op, none⟩,
    ⟨(opFieldAddr (some 58) 58 (.tmp 57) 2 2 1 false fl58_2 (by decide) 0 "disk.go:80" #[{ on := 1, ground := Ground.data }, { on := 0, ground := Ground.phase }]).op, none⟩,
    ⟨(opStore none 56 (.tmp 58) (.const (Value.slice none 0 0)) 1 sz56 0 "disk.go:80" #[{ on := 2, ground := Ground.data }, { on := 0, ground := Ground.phase }]).op, none⟩
  ] (by kernel_rfl)))
  (.live [] (.region 9 [
    ⟨(opMove (some 59) (.tmp 0) 24 "disk.go:81" #[]).op, none⟩,
    ⟨(opNilCheck (some 60) (.tmp 59) 0 "disk.go:81" #[{ on := 0, ground := Ground.data }]).op, none⟩,
    ⟨(opFieldAddr (some 61) 58 (.tmp 60) 1 1 1 false fl58_1 (by decide) 0 "disk.go:81" #[{ on := 1, ground := Ground.data }]).op, none⟩,
    ⟨(opLoadT (.one .any) (some 62) 55 (.tmp 61) (.map 3 59) Try.underlying55 1 sz55 (by kernel_rfl) 55 "disk.go:81" #[{ on := 2, ground := Ground.data }]).op, none⟩,
    ⟨(opClearMap none (.tmp 62) 55 3 59 Try.underlying55 0 "disk.go:81" #[{ on := 3, ground := Ground.data }]).op, none⟩
  ] (by kernel_rfl)))))

noncomputable def f26_b : Sim Try.prog :=
  (.seq (.seq (.live [0, 1, 2, 14, 15, 16] (.region 0 [
    ⟨(opMove (some 9) (.tmp 0) 24 "disk.go:73" #[]).op, none⟩,
    ⟨(opNilCheck (some 10) (.tmp 9) 0 "disk.go:73" #[{ on := 0, ground := Ground.data }]).op, none⟩,
    ⟨(opFieldAddr (some 11) 58 (.tmp 10) 2 2 1 false fl58_2 (by decide) 0 "disk.go:73" #[{ on := 1, ground := Ground.data }]).op, none⟩,
    ⟨(opLoadT (.one .any) (some 12) 56 (.tmp 11) (.slice 62) Try.underlying56 1 sz56 (by kernel_rfl) 56 "disk.go:73" #[{ on := 2, ground := Ground.data }]).op, none⟩,
    ⟨(opMove (some 13) (.tmp 1) 3 "disk.go:73" #[]).op, none⟩,
    ⟨(opSlice (some 14) 56 (.tmp 12) none (some (.tmp 13)) none 62 65 Try.underlying56 sz62 56 "disk.go:73" #[{ on := 3, ground := Ground.data }, { on := 4, ground := Ground.data }]).op, none⟩,
    ⟨(opLen (some 15) (.tmp 14) 56 (.slice 62) Try.underlying56 3 "disk.go:73" #[{ on := 5, ground := Ground.data }]).op, none⟩,
    ⟨(opMove (some 16) (.const (Value.int IntKind.i64 0)) 3 "disk.go:73" #[]).op, none⟩
  ] (by kernel_rfl)))
  (.block 0 (.loop [0, 1, 2, 14, 15, 16] f26_l0)))
  f26_r0)

noncomputable def f26 : Fun Try.prog where
  id := 26
  fn := Try.f26
  hf := Try.func26
  hname := by kernel_rfl
  body := f26_b
  hbody := by kernel_rfl
  res := []
  hres := by kernel_rfl
  n := 63
  hn := by kernel_rfl

/-! ### 21: (*interlock/disk.Disk).Image (24); results 2; slots: 0 d, 1 d, 3 out, 4 _, 5 s -/
/-- A loop's round; at its head live: 3 out, 16 , 17 , 18  -/
noncomputable def f21_l0 : Sim Try.prog :=
  (.seq (.live [3, 16, 17, 18, 19] (.region 3 [
    ⟨(opBin (some 19) .lss 3 (.tmp 18) (.tmp 17) 3 0 "disk.go:101" #[]).op, none⟩
  ] (by kernel_rfl)))
  (.seq (.cond (.tmp 19)
    .skip
    (.live [3] (.exit 0)))
  (.seq (.block 1 (.seq (.live [3, 5, 16, 17, 18] (.items 4 [
      .one ((opIndexAddrT (some 20) 54 (.tmp 16) (.tmp 18) 59 64 Try.underlying54 sz59 0 "disk.go:101" #[]).op),
      .one ((opLoadA (some 21) 59 (.tmp 20) (.array 64 5) Try.underlying59 (by kernel_rfl) 64 sz59 59 "disk.go:101" #[{ on := 0, ground := Ground.data }]).op),
      .two (op2Box 5 59 (.agg #[(.int .u8 0), (.int .u8 0), (.int .u8 0), (.int .u8 0), (.int .u8 0), (.int .u8 0), (.int .u8 0), (.int .u8 0), (.int .u8 0), (.int .u8 0), (.int .u8 0), (.int .u8 0), (.int .u8 0), (.int .u8 0), (.int .u8 0), (.int .u8 0), (.int .u8 0), (.int .u8 0), (.int .u8 0), (.int .u8 0), (.int .u8 0), (.int .u8 0), (.int .u8 0), (.int .u8 0), (.int .u8 0), (.int .u8 0), (.int .u8 0), (.int .u8 0), (.int .u8 0), (.int .u8 0), (.int .u8 0), (.int .u8 0), (.int .u8 0), (.int .u8 0), (.int .u8 0), (.int .u8 0), (.int .u8 0), (.int .u8 0), (.int .u8 0), (.int .u8 0), (.int .u8 0), (.int .u8 0), (.int .u8 0), (.int .u8 0), (.int .u8 0), (.int .u8 0), (.int .u8 0), (.int .u8 0), (.int .u8 0), (.int .u8 0), (.int .u8 0), (.int .u8 0), (.int .u8 0), (.int .u8 0), (.int .u8 0), (.int .u8 0), (.int .u8 0), (.int .u8 0), (.int .u8 0), (.int .u8 0), (.int .u8 0), (.int .u8 0), (.int .u8 0), (.int .u8 0)]) ze59 (.tmp 21) (by rfl) 64 sz59 (by kernel_rfl) 27 (by rfl) 0 0 "disk.go:101" "disk.go:101" #[] #[{ on := 2, ground := Ground.data }, { on := 1, ground := Ground.data }, { on := 0, ground := Ground.phase }, { on := 1, ground := Ground.phase }, { on := 2, ground := Ground.phase }])
    ]))
    (.live [3, 16, 17, 18] (.region 5 [
      ⟨(opMove (some 22) (.tmp 3) 22 "disk.go:102" #[]).op, none⟩,
      ⟨(opSliceB (some 23) 59 (.tmp 5) none none none 64 5 1 Try.underlying59 (by decide) sz5 22 "disk.go:102" #[]).op, none⟩,
      ⟨(opAppendV (some 24) (.tmp 22) (.tmp 23) 22 22 5 1 1 (.int .u8 0) el22 (.slice 5) Try.underlying22 rfl 22 "disk.go:102" #[{ on := 0, ground := Ground.data }, { on := 1, ground := Ground.data }]).op, none⟩,
      ⟨(opAssign (some 3) (.tmp 24) 22 "disk.go:102" #[{ on := 2, ground := Ground.data }, { on := 2, ground := Ground.chain }, { on := 0, ground := Ground.phase }, { on := 1, ground := Ground.phase }, { on := 2, ground := Ground.phase }]).op, none⟩
    ] (by kernel_rfl)))))
  (.live [3, 16, 17, 18] (.region 6 [
    ⟨(opBin (some 25) .add 3 (.tmp 18) (.const (Value.int IntKind.i64 1)) 3 3 "disk.go:101" #[]).op, none⟩,
    ⟨(opMove (some 18) (.tmp 25) 3 "disk.go:101" #[{ on := 0, ground := Ground.data }]).op, none⟩
  ] (by kernel_rfl))))))

/-- What follows a loop. -/
noncomputable def f21_r0 : Sim Try.prog :=
  (.seq (.live [2] (.region 7 [
    ⟨(opMoveZ (some 26) (.tmp 3) 22 "disk.go:104" #[]).op, none⟩,
    ⟨(opAssign (some 2) (.tmp 26) 22 "disk.go:104" #[{ on := 0, ground := Ground.data }, { on := 0, ground := Ground.phase }]).op, none⟩
  ] (by kernel_rfl)))
  (.live [2] .ret))

noncomputable def f21_b : Sim Try.prog :=
  (.seq (.live [0] (.region 0 [
    ⟨(opAssign (some 2) (.const (Value.slice none 0 0)) 22 "disk.go:99" #[]).op, none⟩
  ] (by kernel_rfl)))
  (.seq (.live [0, 3] (.region 1 [
    ⟨(opMove (some 6) (.tmp 0) 24 "disk.go:100" #[]).op, none⟩,
    ⟨(opNilCheck (some 7) (.tmp 6) 0 "disk.go:100" #[{ on := 0, ground := Ground.data }]).op, none⟩,
    ⟨(opFieldAddr (some 8) 58 (.tmp 7) 0 0 1 false fl58_0 (by decide) 0 "disk.go:100" #[{ on := 1, ground := Ground.data }]).op, none⟩,
    ⟨(opLoadT (.one .any) (some 9) 54 (.tmp 8) (.slice 59) Try.underlying54 1 sz54 (by kernel_rfl) 54 "disk.go:100" #[{ on := 2, ground := Ground.data }]).op, none⟩,
    ⟨(opLen (some 10) (.tmp 9) 54 (.slice 59) Try.underlying54 3 "disk.go:100" #[{ on := 3, ground := Ground.data }]).op, none⟩,
    ⟨(opBin (some 11) .mul 3 (.tmp 10) (.const (Value.int IntKind.i64 64)) 3 3 "disk.go:100" #[{ on := 4, ground := Ground.data }]).op, none⟩,
    ⟨(opMakeG true none 0 (some 12) 22 (.const (Value.int IntKind.i64 0)) (.tmp 11) 5 1 1 (.int .u8 0) el22 22 "disk.go:100" #[{ on := 5, ground := Ground.data }]).op, none⟩,
    ⟨(opAssign (some 3) (.tmp 12) 22 "disk.go:100" #[{ on := 6, ground := Ground.data }, { on := 0, ground := Ground.phase }, { on := 1, ground := Ground.phase }, { on := 2, ground := Ground.phase }, { on := 3, ground := Ground.phase }, { on := 4, ground := Ground.phase }, { on := 5, ground := Ground.phase }, { on := 6, ground := Ground.phase }]).op, none⟩
  ] (by kernel_rfl)))
  (.seq (.seq (.live [3, 16, 17, 18] (.region 2 [
    ⟨(opMove (some 13) (.tmp 0) 24 "disk.go:101" #[]).op, none⟩,
    ⟨(opNilCheck (some 14) (.tmp 13) 0 "disk.go:101" #[{ on := 0, ground := Ground.data }]).op, none⟩,
    ⟨(opFieldAddr (some 15) 58 (.tmp 14) 0 0 1 false fl58_0 (by decide) 0 "disk.go:101" #[{ on := 1, ground := Ground.data }]).op, none⟩,
    ⟨(opLoadT (.one .any) (some 16) 54 (.tmp 15) (.slice 59) Try.underlying54 1 sz54 (by kernel_rfl) 54 "disk.go:101" #[{ on := 2, ground := Ground.data }]).op, none⟩,
    ⟨(opLen (some 17) (.tmp 16) 54 (.slice 59) Try.underlying54 3 "disk.go:101" #[{ on := 3, ground := Ground.data }]).op, none⟩,
    ⟨(opMove (some 18) (.const (Value.int IntKind.i64 0)) 3 "disk.go:101" #[]).op, none⟩
  ] (by kernel_rfl)))
  (.block 0 (.loop [3, 16, 17, 18] f21_l0)))
  f21_r0)))

noncomputable def f21 : Fun Try.prog where
  id := 21
  fn := Try.f21
  hf := Try.func21
  hname := by kernel_rfl
  body := f21_b
  hbody := by kernel_rfl
  res := [rTmp 2]
  hres := by kernel_rfl
  n := 27
  hn := by kernel_rfl

end Go.Proofs.Ytclghabbhpaafaa.V

/- What the functions' runs come to; the right sides were printed by a tool, Lean checks them. -/
set_option linter.unusedVariables false
set_option maxRecDepth 100000
namespace Go.Proofs.Ytclghabbhpaafaa.V
open Go Go.V Go.RowKit

theorem write0_run (F N : Nat) (k : Int) (z : Bool) (l : List (List AV)) (ls : List AV) (es : List (AV × AV)) (v : Nat) :
    (f11.run F [.ptr 2 0, .int .i64 k, .ns z 1 l] ⟨[.cells ls, .map es, .cells [.ms 0 64 0 N N, .mp 1, .nilsl], .nov v], []⟩ : Ans) =
    branch (AV.bool (decide (k ≥ (0 : Int))))
      (branch (AV.bool !decide (k < (↑N : Int)))
        (some
          (Fin.ret (AV.int IntKind.i64 (40 : Int)),
            St.mk
              [Ob.cells ls, Ob.map es, Ob.cells [AV.ms 0 64 0 N N, AV.mp 1, AV.nilsl],
                Ob.nov v]
              []))
        (branch (AV.bool ((↑l.length : Int) != (64 : Int)))
          (some
            (Fin.ret (AV.int IntKind.i64 (41 : Int)),
              St.mk
                [Ob.cells ls, Ob.map es, Ob.cells [AV.ms 0 64 0 N N, AV.mp 1, AV.nilsl],
                  Ob.nov v]
                []))
          (branch (AV.bool (true && Nat.ble 64 l.length))
            (branch (AV.bool (inC (flC l 64) 0 64))
              (branch (AV.bool ((subC (flC l 64) 0 64).length.beq 64 && true))
                (branch
                  (AV.bool ((AV.int IntKind.i64 k :: subC (flC l 64) 0 64).length.beq 65))
                  (branch
                    (AV.bool
                      (inC (AV.int IntKind.i64 k :: subC (flC l 64) 0 64) 0 65))
                    (branch
                      (AV.bool
                        ((List.map frz.frz1
                                (subC (AV.int IntKind.i64 k :: subC (flC l 64) 0 64) 0
                                  65)).length.beq
                          65))
                      (branch (AV.bool (apOk 1 72))
                        (branch
                          (AV.bool
                            (inC
                              (List.drop 1 (AV.int IntKind.i64 k :: subC (flC l 64) 0 64))
                              0 64))
                          (branch (AV.bool (true && keysOk (LT.int IntKind.i64) es))
                            (some
                              (Fin.ret (AV.int IntKind.i64 (0 : Int)),
                                St.mk
                                  [Ob.cells ls,
                                    Ob.map
                                      (putK es (AV.int IntKind.i64 k)
                                        (AV.agg
                                          (subC
                                            (List.drop 1
                                              (AV.int IntKind.i64 k :: subC (flC l 64) 0 64))
                                            0 64))),
                                    Ob.cells
                                      [AV.ms 0 64 0 N N, AV.mp 1,
                                        AV.vs 3 (v + 1) 65 1],
                                    Ob.vec (v + 1)
                                      (catC [] 0
                                        [List.map frz.frz1
                                            (subC (AV.int IntKind.i64 k :: subC (flC l 64) 0 64)
                                              0 65)])]
                                  []))
                            none)
                          none)
                        none)
                      none)
                    none)
                  none)
                none)
              none)
            none)))
      (some
        (Fin.ret (AV.int IntKind.i64 (40 : Int)),
          St.mk
            [Ob.cells ls, Ob.map es, Ob.cells [AV.ms 0 64 0 N N, AV.mp 1, AV.nilsl],
              Ob.nov v]
            [])) := by kernel_rfl

theorem write1_run (F N : Nat) (k : Int) (z : Bool) (l : List (List AV)) (ls : List AV) (es : List (AV × AV)) (v : Nat) (cs : List AV) :
    (f11.run F [.ptr 2 0, .int .i64 k, .ns z 1 l] ⟨[.cells ls, .map es, .cells [.ms 0 64 0 N N, .mp 1, .nilsl], .vec v cs], []⟩ : Ans) =
    branch (AV.bool (decide (k ≥ (0 : Int))))
      (branch (AV.bool !decide (k < (↑N : Int)))
        (some
          (Fin.ret (AV.int IntKind.i64 (40 : Int)),
            St.mk
              [Ob.cells ls, Ob.map es, Ob.cells [AV.ms 0 64 0 N N, AV.mp 1, AV.nilsl],
                Ob.vec v cs]
              []))
        (branch (AV.bool ((↑l.length : Int) != (64 : Int)))
          (some
            (Fin.ret (AV.int IntKind.i64 (41 : Int)),
              St.mk
                [Ob.cells ls, Ob.map es, Ob.cells [AV.ms 0 64 0 N N, AV.mp 1, AV.nilsl],
                  Ob.vec v cs]
                []))
          (branch (AV.bool (true && Nat.ble 64 l.length))
            (branch (AV.bool (inC (flC l 64) 0 64))
              (branch (AV.bool ((subC (flC l 64) 0 64).length.beq 64 && true))
                (branch
                  (AV.bool ((AV.int IntKind.i64 k :: subC (flC l 64) 0 64).length.beq 65))
                  (branch
                    (AV.bool
                      (inC (AV.int IntKind.i64 k :: subC (flC l 64) 0 64) 0 65))
                    (branch
                      (AV.bool
                        ((List.map frz.frz1
                                (subC (AV.int IntKind.i64 k :: subC (flC l 64) 0 64) 0
                                  65)).length.beq
                          65))
                      (branch (AV.bool (apOk 1 72))
                        (branch
                          (AV.bool
                            (inC
                              (List.drop 1 (AV.int IntKind.i64 k :: subC (flC l 64) 0 64))
                              0 64))
                          (branch (AV.bool (true && keysOk (LT.int IntKind.i64) es))
                            (some
                              (Fin.ret (AV.int IntKind.i64 (0 : Int)),
                                St.mk
                                  [Ob.cells ls,
                                    Ob.map
                                      (putK es (AV.int IntKind.i64 k)
                                        (AV.agg
                                          (subC
                                            (List.drop 1
                                              (AV.int IntKind.i64 k :: subC (flC l 64) 0 64))
                                            0 64))),
                                    Ob.cells
                                      [AV.ms 0 64 0 N N, AV.mp 1,
                                        AV.vs 3 (v + 1) 65 1],
                                    Ob.vec (v + 1)
                                      (catC [] 0
                                        [List.map frz.frz1
                                            (subC (AV.int IntKind.i64 k :: subC (flC l 64) 0 64)
                                              0 65)])]
                                  []))
                            none)
                          none)
                        none)
                      none)
                    none)
                  none)
                none)
              none)
            none)))
      (some
        (Fin.ret (AV.int IntKind.i64 (40 : Int)),
          St.mk
            [Ob.cells ls, Ob.map es, Ob.cells [AV.ms 0 64 0 N N, AV.mp 1, AV.nilsl],
              Ob.vec v cs]
            [])) := by kernel_rfl

theorem write2_run (F N : Nat) (k : Int) (z : Bool) (l : List (List AV)) (ls : List AV) (es : List (AV × AV)) (v n : Nat) (cs : List AV) :
    (f11.run F [.ptr 2 0, .int .i64 k, .ns z 1 l] ⟨[.cells ls, .map es, .cells [.ms 0 64 0 N N, .mp 1, .vs 3 v 65 n], .vec v cs], []⟩ : Ans) =
    branch (AV.bool (decide (k ≥ (0 : Int))))
      (branch (AV.bool !decide (k < (↑N : Int)))
        (some
          (Fin.ret (AV.int IntKind.i64 (40 : Int)),
            St.mk
              [Ob.cells ls, Ob.map es,
                Ob.cells [AV.ms 0 64 0 N N, AV.mp 1, AV.vs 3 v 65 n],
                Ob.vec v cs]
              []))
        (branch (AV.bool ((↑l.length : Int) != (64 : Int)))
          (some
            (Fin.ret (AV.int IntKind.i64 (41 : Int)),
              St.mk
                [Ob.cells ls, Ob.map es,
                  Ob.cells [AV.ms 0 64 0 N N, AV.mp 1, AV.vs 3 v 65 n],
                  Ob.vec v cs]
                []))
          (branch (AV.bool (true && Nat.ble 64 l.length))
            (branch (AV.bool (inC (flC l 64) 0 64))
              (branch (AV.bool ((subC (flC l 64) 0 64).length.beq 64 && true))
                (branch
                  (AV.bool ((AV.int IntKind.i64 k :: subC (flC l 64) 0 64).length.beq 65))
                  (branch
                    (AV.bool
                      (inC (AV.int IntKind.i64 k :: subC (flC l 64) 0 64) 0 65))
                    (branch
                      (AV.bool
                        ((List.map frz.frz1
                                (subC (AV.int IntKind.i64 k :: subC (flC l 64) 0 64) 0
                                  65)).length.beq
                          65))
                      (branch
                        (AV.bool (v.beq v && (inC cs 0 (mulN n 65) && apOk (n + 1) 72)))
                        (branch
                          (AV.bool
                            (inC
                              (List.drop 1 (AV.int IntKind.i64 k :: subC (flC l 64) 0 64))
                              0 64))
                          (branch (AV.bool (true && keysOk (LT.int IntKind.i64) es))
                            (some
                              (Fin.ret (AV.int IntKind.i64 (0 : Int)),
                                St.mk
                                  [Ob.cells ls,
                                    Ob.map
                                      (putK es (AV.int IntKind.i64 k)
                                        (AV.agg
                                          (subC
                                            (List.drop 1
                                              (AV.int IntKind.i64 k :: subC (flC l 64) 0 64))
                                            0 64))),
                                    Ob.cells
                                      [AV.ms 0 64 0 N N, AV.mp 1,
                                        AV.vs 3 (v + 1) 65 (n + 1)],
                                    Ob.vec (v + 1)
                                      (catC cs (mulN n 65)
                                        [List.map frz.frz1
                                            (subC (AV.int IntKind.i64 k :: subC (flC l 64) 0 64)
                                              0 65)])]
                                  []))
                            none)
                          none)
                        none)
                      none)
                    none)
                  none)
                none)
              none)
            none)))
      (some
        (Fin.ret (AV.int IntKind.i64 (40 : Int)),
          St.mk
            [Ob.cells ls, Ob.map es,
              Ob.cells [AV.ms 0 64 0 N N, AV.mp 1, AV.vs 3 v 65 n],
              Ob.vec v cs]
            [])) := by kernel_rfl

theorem read_run (F N : Nat) (k : Int) (ls : List AV) (es : List (AV × AV)) (wr : AV) (W : Ob) :
    (f13.run F [.ptr 2 0, .int .i64 k] ⟨[.cells ls, .map es, .cells [.ms 0 64 0 N N, .mp 1, wr], W], []⟩ : Ans) =
    branch (AV.bool (decide (k ≥ (0 : Int))))
      (branch (AV.bool !decide (k < (↑N : Int)))
        (some
          (Fin.ret (AV.tup [AV.nilsl, AV.int IntKind.i64 (40 : Int)]),
            St.mk [Ob.cells ls, Ob.map es, Ob.cells [AV.ms 0 64 0 N N, AV.mp 1, wr], W] []))
        (branch (AV.bool (true && keysOk (LT.int IntKind.i64) es))
          (branch (AV.bool (hasK es (AV.int IntKind.i64 k)))
            (branch (AV.bool ((LK.agg 64).is (valK es (AV.int IntKind.i64 k))))
              (branch
                (AV.bool
                  ((aggL (valK es (AV.int IntKind.i64 k))).length.beq 64 &&
                    inC (zAr 64 (AV.int IntKind.u8 (0 : Int))) 0 64))
                (onSome
                  (rowsT 1 (AV.ms 4 1 0 64 64)
                    (St.mk
                      [Ob.cells ls, Ob.map es, Ob.cells [AV.ms 0 64 0 N N, AV.mp 1, wr], W,
                        Ob.cells
                          (setC (zAr 64 (AV.int IntKind.u8 (0 : Int))) 0
                            (aggL (valK es (AV.int IntKind.i64 k))))]
                      []))
                  none fun (o : List (List AV)) =>
                  branch (AV.bool (true && apOk o.length 1))
                    (some
                      (Fin.ret (AV.tup [AV.sl 1 false o, AV.int IntKind.i64 (0 : Int)]),
                        St.mk
                          [Ob.cells ls, Ob.map es, Ob.cells [AV.ms 0 64 0 N N, AV.mp 1, wr],
                            W,
                            Ob.cells
                              (setC (zAr 64 (AV.int IntKind.u8 (0 : Int))) 0
                                (aggL (valK es (AV.int IntKind.i64 k))))]
                          []))
                    none)
                none)
              none)
            (branch (AV.bool (true && inC (zAr 64 (AV.int IntKind.u8 (0 : Int))) 0 64))
              (if (0 : Int) ≤ k ∧ k < (↑N : Int) then
                branch (AV.bool (inC ls (0 + k.toNat * 64) 64))
                  (branch
                    (AV.bool
                      ((subC ls (0 + k.toNat * 64) 64).length.beq 64 &&
                        inC
                          (setC (zAr 64 (AV.int IntKind.u8 (0 : Int))) 0
                            [AV.int IntKind.u8 (0 : Int), AV.int IntKind.u8 (0 : Int), AV.int IntKind.u8 (0 : Int),
                              AV.int IntKind.u8 (0 : Int), AV.int IntKind.u8 (0 : Int), AV.int IntKind.u8 (0 : Int),
                              AV.int IntKind.u8 (0 : Int), AV.int IntKind.u8 (0 : Int), AV.int IntKind.u8 (0 : Int),
                              AV.int IntKind.u8 (0 : Int), AV.int IntKind.u8 (0 : Int), AV.int IntKind.u8 (0 : Int),
                              AV.int IntKind.u8 (0 : Int), AV.int IntKind.u8 (0 : Int), AV.int IntKind.u8 (0 : Int),
                              AV.int IntKind.u8 (0 : Int), AV.int IntKind.u8 (0 : Int), AV.int IntKind.u8 (0 : Int),
                              AV.int IntKind.u8 (0 : Int), AV.int IntKind.u8 (0 : Int), AV.int IntKind.u8 (0 : Int),
                              AV.int IntKind.u8 (0 : Int), AV.int IntKind.u8 (0 : Int), AV.int IntKind.u8 (0 : Int),
                              AV.int IntKind.u8 (0 : Int), AV.int IntKind.u8 (0 : Int), AV.int IntKind.u8 (0 : Int),
                              AV.int IntKind.u8 (0 : Int), AV.int IntKind.u8 (0 : Int), AV.int IntKind.u8 (0 : Int),
                              AV.int IntKind.u8 (0 : Int), AV.int IntKind.u8 (0 : Int), AV.int IntKind.u8 (0 : Int),
                              AV.int IntKind.u8 (0 : Int), AV.int IntKind.u8 (0 : Int), AV.int IntKind.u8 (0 : Int),
                              AV.int IntKind.u8 (0 : Int), AV.int IntKind.u8 (0 : Int), AV.int IntKind.u8 (0 : Int),
                              AV.int IntKind.u8 (0 : Int), AV.int IntKind.u8 (0 : Int), AV.int IntKind.u8 (0 : Int),
                              AV.int IntKind.u8 (0 : Int), AV.int IntKind.u8 (0 : Int), AV.int IntKind.u8 (0 : Int),
                              AV.int IntKind.u8 (0 : Int), AV.int IntKind.u8 (0 : Int), AV.int IntKind.u8 (0 : Int),
                              AV.int IntKind.u8 (0 : Int), AV.int IntKind.u8 (0 : Int), AV.int IntKind.u8 (0 : Int),
                              AV.int IntKind.u8 (0 : Int), AV.int IntKind.u8 (0 : Int), AV.int IntKind.u8 (0 : Int),
                              AV.int IntKind.u8 (0 : Int), AV.int IntKind.u8 (0 : Int), AV.int IntKind.u8 (0 : Int),
                              AV.int IntKind.u8 (0 : Int), AV.int IntKind.u8 (0 : Int), AV.int IntKind.u8 (0 : Int),
                              AV.int IntKind.u8 (0 : Int), AV.int IntKind.u8 (0 : Int), AV.int IntKind.u8 (0 : Int),
                              AV.int IntKind.u8 (0 : Int)])
                          0 64))
                    (onSome
                      (rowsT 1 (AV.ms 4 1 0 64 64)
                        (St.mk
                          [Ob.cells ls, Ob.map es, Ob.cells [AV.ms 0 64 0 N N, AV.mp 1, wr],
                            W,
                            Ob.cells
                              (setC
                                (setC (zAr 64 (AV.int IntKind.u8 (0 : Int))) 0
                                  [AV.int IntKind.u8 (0 : Int), AV.int IntKind.u8 (0 : Int), AV.int IntKind.u8 (0 : Int),
                                    AV.int IntKind.u8 (0 : Int), AV.int IntKind.u8 (0 : Int), AV.int IntKind.u8 (0 : Int),
                                    AV.int IntKind.u8 (0 : Int), AV.int IntKind.u8 (0 : Int), AV.int IntKind.u8 (0 : Int),
                                    AV.int IntKind.u8 (0 : Int), AV.int IntKind.u8 (0 : Int), AV.int IntKind.u8 (0 : Int),
                                    AV.int IntKind.u8 (0 : Int), AV.int IntKind.u8 (0 : Int), AV.int IntKind.u8 (0 : Int),
                                    AV.int IntKind.u8 (0 : Int), AV.int IntKind.u8 (0 : Int), AV.int IntKind.u8 (0 : Int),
                                    AV.int IntKind.u8 (0 : Int), AV.int IntKind.u8 (0 : Int), AV.int IntKind.u8 (0 : Int),
                                    AV.int IntKind.u8 (0 : Int), AV.int IntKind.u8 (0 : Int), AV.int IntKind.u8 (0 : Int),
                                    AV.int IntKind.u8 (0 : Int), AV.int IntKind.u8 (0 : Int), AV.int IntKind.u8 (0 : Int),
                                    AV.int IntKind.u8 (0 : Int), AV.int IntKind.u8 (0 : Int), AV.int IntKind.u8 (0 : Int),
                                    AV.int IntKind.u8 (0 : Int), AV.int IntKind.u8 (0 : Int), AV.int IntKind.u8 (0 : Int),
                                    AV.int IntKind.u8 (0 : Int), AV.int IntKind.u8 (0 : Int), AV.int IntKind.u8 (0 : Int),
                                    AV.int IntKind.u8 (0 : Int), AV.int IntKind.u8 (0 : Int), AV.int IntKind.u8 (0 : Int),
                                    AV.int IntKind.u8 (0 : Int), AV.int IntKind.u8 (0 : Int), AV.int IntKind.u8 (0 : Int),
                                    AV.int IntKind.u8 (0 : Int), AV.int IntKind.u8 (0 : Int), AV.int IntKind.u8 (0 : Int),
                                    AV.int IntKind.u8 (0 : Int), AV.int IntKind.u8 (0 : Int), AV.int IntKind.u8 (0 : Int),
                                    AV.int IntKind.u8 (0 : Int), AV.int IntKind.u8 (0 : Int), AV.int IntKind.u8 (0 : Int),
                                    AV.int IntKind.u8 (0 : Int), AV.int IntKind.u8 (0 : Int), AV.int IntKind.u8 (0 : Int),
                                    AV.int IntKind.u8 (0 : Int), AV.int IntKind.u8 (0 : Int), AV.int IntKind.u8 (0 : Int),
                                    AV.int IntKind.u8 (0 : Int), AV.int IntKind.u8 (0 : Int), AV.int IntKind.u8 (0 : Int),
                                    AV.int IntKind.u8 (0 : Int), AV.int IntKind.u8 (0 : Int), AV.int IntKind.u8 (0 : Int),
                                    AV.int IntKind.u8 (0 : Int)])
                                0 (subC ls (0 + k.toNat * 64) 64))]
                          []))
                      none fun (o : List (List AV)) =>
                      branch (AV.bool (true && apOk o.length 1))
                        (some
                          (Fin.ret (AV.tup [AV.sl 1 false o, AV.int IntKind.i64 (0 : Int)]),
                            St.mk
                              [Ob.cells ls, Ob.map es,
                                Ob.cells [AV.ms 0 64 0 N N, AV.mp 1, wr], W,
                                Ob.cells
                                  (setC
                                    (setC (zAr 64 (AV.int IntKind.u8 (0 : Int))) 0
                                      [AV.int IntKind.u8 (0 : Int), AV.int IntKind.u8 (0 : Int),
                                        AV.int IntKind.u8 (0 : Int), AV.int IntKind.u8 (0 : Int),
                                        AV.int IntKind.u8 (0 : Int), AV.int IntKind.u8 (0 : Int),
                                        AV.int IntKind.u8 (0 : Int), AV.int IntKind.u8 (0 : Int),
                                        AV.int IntKind.u8 (0 : Int), AV.int IntKind.u8 (0 : Int),
                                        AV.int IntKind.u8 (0 : Int), AV.int IntKind.u8 (0 : Int),
                                        AV.int IntKind.u8 (0 : Int), AV.int IntKind.u8 (0 : Int),
                                        AV.int IntKind.u8 (0 : Int), AV.int IntKind.u8 (0 : Int),
                                        AV.int IntKind.u8 (0 : Int), AV.int IntKind.u8 (0 : Int),
                                        AV.int IntKind.u8 (0 : Int), AV.int IntKind.u8 (0 : Int),
                                        AV.int IntKind.u8 (0 : Int), AV.int IntKind.u8 (0 : Int),
                                        AV.int IntKind.u8 (0 : Int), AV.int IntKind.u8 (0 : Int),
                                        AV.int IntKind.u8 (0 : Int), AV.int IntKind.u8 (0 : Int),
                                        AV.int IntKind.u8 (0 : Int), AV.int IntKind.u8 (0 : Int),
                                        AV.int IntKind.u8 (0 : Int), AV.int IntKind.u8 (0 : Int),
                                        AV.int IntKind.u8 (0 : Int), AV.int IntKind.u8 (0 : Int),
                                        AV.int IntKind.u8 (0 : Int), AV.int IntKind.u8 (0 : Int),
                                        AV.int IntKind.u8 (0 : Int), AV.int IntKind.u8 (0 : Int),
                                        AV.int IntKind.u8 (0 : Int), AV.int IntKind.u8 (0 : Int),
                                        AV.int IntKind.u8 (0 : Int), AV.int IntKind.u8 (0 : Int),
                                        AV.int IntKind.u8 (0 : Int), AV.int IntKind.u8 (0 : Int),
                                        AV.int IntKind.u8 (0 : Int), AV.int IntKind.u8 (0 : Int),
                                        AV.int IntKind.u8 (0 : Int), AV.int IntKind.u8 (0 : Int),
                                        AV.int IntKind.u8 (0 : Int), AV.int IntKind.u8 (0 : Int),
                                        AV.int IntKind.u8 (0 : Int), AV.int IntKind.u8 (0 : Int),
                                        AV.int IntKind.u8 (0 : Int), AV.int IntKind.u8 (0 : Int),
                                        AV.int IntKind.u8 (0 : Int), AV.int IntKind.u8 (0 : Int),
                                        AV.int IntKind.u8 (0 : Int), AV.int IntKind.u8 (0 : Int),
                                        AV.int IntKind.u8 (0 : Int), AV.int IntKind.u8 (0 : Int),
                                        AV.int IntKind.u8 (0 : Int), AV.int IntKind.u8 (0 : Int),
                                        AV.int IntKind.u8 (0 : Int), AV.int IntKind.u8 (0 : Int),
                                        AV.int IntKind.u8 (0 : Int), AV.int IntKind.u8 (0 : Int)])
                                    0 (subC ls (0 + k.toNat * 64) 64))]
                              []))
                        none)
                    none)
                  none
              else none)
              none))
          none))
      (some
        (Fin.ret (AV.tup [AV.nilsl, AV.int IntKind.i64 (40 : Int)]),
          St.mk [Ob.cells ls, Ob.map es, Ob.cells [AV.ms 0 64 0 N N, AV.mp 1, wr], W] [])) := by kernel_rfl

theorem settle0_run (F N : Nat) (keep torn : Int) (ls : List AV) (es : List (AV × AV)) (W : Ob) (K : Fin → St → Ans) :
    (f26.runK F [.ptr 2 0, .int .i64 keep, .int .i64 torn] ⟨[.cells ls, .map es, .cells [.ms 0 64 0 N N, .mp 1, .nilsl], W], []⟩ K : Ans) =
    if (0 : Int) ≤ keep ∧ keep ≤ (0 : Int) then
      loopRun (f26_l0.run F) [0, 1, 2, 14, 15, 16]
        (Cont.block 0 (Cont.then (f26_r0.run F (f26.leaveK K)) (f26.leaveK K))) F
        (Env.mk 63
          [(0, AV.ptr 2 0), (1, AV.int IntKind.i64 keep),
            (2, AV.int IntKind.i64 torn), (14, AV.nilsl), (15, AV.int IntKind.i64 (0 : Int)),
            (16, AV.int IntKind.i64 (0 : Int))])
        (St.mk [Ob.cells ls, Ob.map es, Ob.cells [AV.ms 0 64 0 N N, AV.mp 1, AV.nilsl], W]
          [])
    else none := by kernel_rfl

theorem settle_run (F N v n : Nat) (keep torn : Int) (ls : List AV) (es : List (AV × AV)) (W : Ob) (K : Fin → St → Ans) :
    (f26.runK F [.ptr 2 0, .int .i64 keep, .int .i64 torn] ⟨[.cells ls, .map es, .cells [.ms 0 64 0 N N, .mp 1, .vs 3 v 65 n], W], []⟩ K : Ans) =
    if (0 : Int) ≤ keep ∧ keep ≤ (↑n : Int) then
      loopRun (f26_l0.run F) [0, 1, 2, 14, 15, 16]
        (Cont.block 0 (Cont.then (f26_r0.run F (f26.leaveK K)) (f26.leaveK K))) F
        (Env.mk 63
          [(0, AV.ptr 2 0), (1, AV.int IntKind.i64 keep),
            (2, AV.int IntKind.i64 torn), (14, AV.vs 3 v 65 keep.toNat),
            (15, AV.int IntKind.i64 (↑keep.toNat : Int)), (16, AV.int IntKind.i64 (0 : Int))])
        (St.mk
          [Ob.cells ls, Ob.map es,
            Ob.cells [AV.ms 0 64 0 N N, AV.mp 1, AV.vs 3 v 65 n], W]
          [])
    else none := by kernel_rfl

theorem settle_round (F m N v n j : Nat) (i e keep torn : Int) (ls : List AV) (es : List (AV × AV)) (cs : List AV) (K : Cont) :
    (loopRun (f26_l0.run F) [0, 1, 2, 14, 15, 16] K m.succ (Env.mk 63 [(0, .ptr 2 0), (1, .int .i64 keep), (2, .int .i64 torn), (14, .vs 3 v 65 j), (15, .int .i64 e), (16, .int .i64 i)]) ⟨[.cells ls, .map es, .cells [.ms 0 64 0 N N, .mp 1, .vs 3 v 65 n], .vec v cs], []⟩ : Ans) =
    branch (AV.bool (decide (i < e)))
      (if (0 : Int) ≤ i ∧ i < (↑j : Int) then
        branch (AV.bool (v.beq v && inC cs (i.toNat * 65) 65))
          (branch (AV.bool ((subC cs (i.toNat * 65) 65).length.beq 65))
            (branch
              (AV.bool ((LD.one (LT.int IntKind.i64)).is (List.drop 0 (subC cs (i.toNat * 65) 65))))
              (branch (AV.bool (inC (List.drop 1 (subC cs (i.toNat * 65) 65)) 0 64))
                (if
                    (0 : Int) ≤ hdI (List.drop 0 (subC cs (i.toNat * 65) 65)) ∧
                      hdI (List.drop 0 (subC cs (i.toNat * 65) 65)) < (↑N : Int) then
                  branch
                    (AV.bool
                      ((subC (List.drop 1 (subC cs (i.toNat * 65) 65)) 0
                                64).length.beq
                          64 &&
                        inC ls
                          (0 +
                            (hdI (List.drop 0 (subC cs (i.toNat * 65) 65))).toNat * 64)
                          64))
                    (loopRun (f26_l0.run F) [0, 1, 2, 14, 15, 16] K m
                      (Env.mk 63
                        [(0, AV.ptr 2 0), (1, AV.int IntKind.i64 keep),
                          (2, AV.int IntKind.i64 torn), (14, AV.vs 3 v 65 j),
                          (15, AV.int IntKind.i64 e),
                          (16, AV.int IntKind.i64 (IntKind.i64.wrap (i + (1 : Int))))])
                      (St.mk
                        [Ob.cells
                            (setC ls
                              (0 +
                                (hdI (List.drop 0 (subC cs (i.toNat * 65) 65))).toNat * 64)
                              (subC (List.drop 1 (subC cs (i.toNat * 65) 65)) 0
                                64)),
                          Ob.map es,
                          Ob.cells
                            [AV.ms 0 64 0 N N, AV.mp 1, AV.vs 3 v 65 n],
                          Ob.vec v cs]
                        []))
                    none
                else none)
                none)
              none)
            none)
          none
      else none)
      (K (AX.exit 0)
        (Env.mk 63
          [(0, AV.ptr 2 0), (1, AV.int IntKind.i64 keep),
            (2, AV.int IntKind.i64 torn)])
        (St.mk
          [Ob.cells ls, Ob.map es,
            Ob.cells [AV.ms 0 64 0 N N, AV.mp 1, AV.vs 3 v 65 n],
            Ob.vec v cs]
          [])) := by kernel_rfl

theorem settle_out (F N v n : Nat) (keep torn : Int) (ls : List AV) (es : List (AV × AV)) (cs : List AV) (K : Fin → St → Ans) :
    ((Cont.block 0 (Cont.then (f26_r0.run F (f26.leaveK K)) (f26.leaveK K))) (.exit 0) (Env.mk 63 [(0, .ptr 2 0), (1, .int .i64 keep), (2, .int .i64 torn)]) ⟨[.cells ls, .map es, .cells [.ms 0 64 0 N N, .mp 1, .vs 3 v 65 n], .vec v cs], []⟩ : Ans) =
    branch (AV.bool (decide (keep < (↑n : Int))))
      (if (0 : Int) ≤ keep ∧ keep < (↑n : Int) then
        branch (AV.bool (v.beq v && inC cs (keep.toNat * 65) 65))
          (branch (AV.bool ((subC cs (keep.toNat * 65) 65).length.beq 65))
            (branch
              (AV.bool
                ((LD.one (LT.int IntKind.i64)).is (List.drop 0 (subC cs (keep.toNat * 65) 65))))
              (if
                  (0 : Int) ≤ hdI (List.drop 0 (subC cs (keep.toNat * 65) 65)) ∧
                    hdI (List.drop 0 (subC cs (keep.toNat * 65) 65)) < (↑N : Int) then
                if (0 : Int) ≤ torn ∧ torn ≤ (64 : Int) then
                  branch
                    (AV.bool
                      (inC (List.drop 1 (subC cs (keep.toNat * 65) 65)) 0
                        (mulN (torn.toNat - 0) 1)))
                    (branch
                      (AV.bool
                        (inC ls
                          (0 +
                              (hdI (List.drop 0 (subC cs (keep.toNat * 65) 65))).toNat *
                                64 +
                            0)
                          (mulN
                            (minN
                              (rowsC 1 (torn.toNat - 0)
                                  (List.drop 1 (subC cs (keep.toNat * 65) 65)) 0).length
                              64)
                            1)))
                      (K (Fin.ret (AV.tup []))
                        (St.mk
                          [Ob.cells
                              (setC ls
                                (0 +
                                    (hdI (List.drop 0 (subC cs (keep.toNat * 65) 65))).toNat *
                                      64 +
                                  0)
                                (flC
                                  (rowsC 1 (torn.toNat - 0)
                                    (List.drop 1 (subC cs (keep.toNat * 65) 65)) 0)
                                  (minN
                                    (rowsC 1 (torn.toNat - 0)
                                        (List.drop 1 (subC cs (keep.toNat * 65) 65))
                                        0).length
                                    64))),
                            Ob.map [], Ob.cells [AV.ms 0 64 0 N N, AV.mp 1, AV.nilsl],
                            Ob.vec v cs]
                          []))
                      none)
                    none
                else none
              else none)
              none)
            none)
          none
      else none)
      (K (Fin.ret (AV.tup []))
        (St.mk
          [Ob.cells ls, Ob.map [], Ob.cells [AV.ms 0 64 0 N N, AV.mp 1, AV.nilsl],
            Ob.vec v cs]
          [])) := by kernel_rfl

theorem image_run (F N : Nat) (ls : List AV) (es : List (AV × AV)) (wr : AV) (W : Ob) :
    (f21.run F [.ptr 2 0] ⟨[.cells ls, .map es, .cells [.ms 0 64 0 N N, .mp 1, wr], W], []⟩ : Ans) =
    branch (AV.bool (true && amakeG.mkOkC 1 (IntKind.i64.wrap ((↑N : Int) * (64 : Int)))))
      (loopRun (f21_l0.run F) [3, 16, 17, 18]
        (Cont.block 0 (Cont.then (f21_r0.run F (f21.leaveK Fun.done)) (f21.leaveK Fun.done))) F
        (Env.mk 27
          [(3, AV.vs 4 0 1 0),
            (16, AV.ms 0 64 0 N N), (17, AV.int IntKind.i64 (↑N : Int)),
            (18, AV.int IntKind.i64 (0 : Int))])
        (St.mk
          [Ob.cells ls, Ob.map es, Ob.cells [AV.ms 0 64 0 N N, AV.mp 1, wr], W,
            Ob.vec 0 []]
          []))
      none := by kernel_rfl

theorem image_round (F m N v n : Nat) (i e : Int) (ls : List AV) (es : List (AV × AV)) (wr : AV) (W : Ob) (cs : List AV) (K : Cont) :
    (loopRun (f21_l0.run F) [3, 16, 17, 18] K m.succ (Env.mk 27 [(3, .vs 4 v 1 n), (16, .ms 0 64 0 N N), (17, .int .i64 e), (18, .int .i64 i)]) ⟨[.cells ls, .map es, .cells [.ms 0 64 0 N N, .mp 1, wr], W, .vec v cs], []⟩ : Ans) =
    branch (AV.bool (decide (i < e)))
      (if (0 : Int) ≤ i ∧ i < (↑N : Int) then
        branch (AV.bool (inC ls (0 + i.toNat * 64) 64))
          (branch (AV.bool ((subC ls (0 + i.toNat * 64) 64).length.beq 64))
            (branch
              (AV.bool (inC (subC ls (0 + i.toNat * 64) 64) 0 (mulN 64 1)))
              (branch
                (AV.bool
                  (v.beq v &&
                    (inC cs 0 (mulN n 1) &&
                      apOk
                        (n +
                          (rowsC 1 64 (subC ls (0 + i.toNat * 64) 64)
                              0).length)
                        1)))
                (loopRun (f21_l0.run F) [3, 16, 17, 18] K m
                  (Env.mk 27
                    [(3,
                        AV.vs 4 (v + 1) 1
                          (n +
                            (rowsC 1 64 (subC ls (0 + i.toNat * 64) 64)
                                0).length)),
                      (16, AV.ms 0 64 0 N N), (17, AV.int IntKind.i64 e),
                      (18, AV.int IntKind.i64 (IntKind.i64.wrap (i + (1 : Int))))])
                  (St.mk
                    [Ob.cells ls, Ob.map es, Ob.cells [AV.ms 0 64 0 N N, AV.mp 1, wr], W,
                      Ob.vec (v + 1)
                        (catC cs (mulN n 1)
                          (rowsC 1 64 (subC ls (0 + i.toNat * 64) 64) 0))]
                    []))
                none)
              none)
            none)
          none
      else none)
      (K (AX.exit 0) (Env.mk 27 [(3, AV.vs 4 v 1 n)])
        (St.mk
          [Ob.cells ls, Ob.map es, Ob.cells [AV.ms 0 64 0 N N, AV.mp 1, wr], W, Ob.vec v cs]
          [])) := by kernel_rfl

theorem image_out (F N v n : Nat) (ls : List AV) (es : List (AV × AV)) (wr : AV) (W : Ob) (cs : List AV) :
    ((Cont.block 0 (Cont.then (f21_r0.run F (f21.leaveK Fun.done)) (f21.leaveK Fun.done))) (.exit 0) (Env.mk 27 [(3, .vs 4 v 1 n)]) ⟨[.cells ls, .map es, .cells [.ms 0 64 0 N N, .mp 1, wr], W, .vec v cs], []⟩ : Ans) =
    branch (AV.bool (v.beq v && inC cs 0 (mulN n 1)))
      (some
        (Fin.ret (AV.ns false 1 (rowsC 1 n cs 0)),
          St.mk
            [Ob.cells ls, Ob.map es, Ob.cells [AV.ms 0 64 0 N N, AV.mp 1, wr], W,
              Ob.nov (v + 1)]
            []))
      none := by kernel_rfl

theorem settle0_round (F m N : Nat) (keep torn : Int) (ls : List AV) (es : List (AV × AV)) (W : Ob) (K : Cont) :
    (loopRun (f26_l0.run F) [0, 1, 2, 14, 15, 16] K m.succ (Env.mk 63 [(0, .ptr 2 0), (1, .int .i64 keep), (2, .int .i64 torn), (14, .nilsl), (15, .int .i64 0), (16, .int .i64 0)]) ⟨[.cells ls, .map es, .cells [.ms 0 64 0 N N, .mp 1, .nilsl], W], []⟩ : Ans) =
    K (AX.exit 0)
      (Env.mk 63
        [(0, AV.ptr 2 0), (1, AV.int IntKind.i64 keep),
          (2, AV.int IntKind.i64 torn)])
      (St.mk [Ob.cells ls, Ob.map es, Ob.cells [AV.ms 0 64 0 N N, AV.mp 1, AV.nilsl], W] []) := by kernel_rfl

theorem settle0_out (F N : Nat) (torn : Int) (ls : List AV) (es : List (AV × AV)) (W : Ob) (K : Fin → St → Ans) :
    ((Cont.block 0 (Cont.then (f26_r0.run F (f26.leaveK K)) (f26.leaveK K))) (.exit 0) (Env.mk 63 [(0, .ptr 2 0), (1, .int .i64 0), (2, .int .i64 torn)]) ⟨[.cells ls, .map es, .cells [.ms 0 64 0 N N, .mp 1, .nilsl], W], []⟩ : Ans) =
    K (Fin.ret (AV.tup []))
      (St.mk [Ob.cells ls, Ob.map [], Ob.cells [AV.ms 0 64 0 N N, AV.mp 1, AV.nilsl], W] []) := by kernel_rfl

end Go.Proofs.Ytclghabbhpaafaa.V

/- Disk: the model, and what its functions come to (plain). -/
set_option linter.unusedVariables false
namespace Go.Proofs.Ytclghabbhpaafaa.V
open Go Go.V Go.RowKit

/-! ### Cells -/
theorem bC_append (a b : List Nat) : bC (a ++ b) = bC a ++ bC b := by simp [bC]
theorem bC_take (a : List Nat) (n : Nat) : (bC a).take n = bC (a.take n) := by simp [bC]
theorem setC_all {cs xs : List AV} (h : xs.length = cs.length) : setC cs 0 xs = xs := by
  rw [setC, opq_eq, ← cutIn_eq _ _ _ (by omega)]
  rw [show cutIn cs 0 xs.length xs = endB xs (cs.drop xs.length) by cases cs <;> rfl, endB_eq, List.drop_eq_nil_of_le (by omega)]
  simp
theorem subC_bC (b : List Nat) (o n : Nat) : subC (bC b) o n = bC ((b.drop o).take n) := by rw [subC, opq_eq, bC_drop, bC_take]
theorem flC_bR (b : List Nat) (n : Nat) : flC (bR b) n = bC (b.take n) := by rw [flC, opq_eq, bR_take, bR_flat]
theorem inC_bC {b : List Nat} {o n : Nat} (h : o + n ≤ b.length) : inC (bC b) o n = true := by rw [inC_iff, bC_length]; exact h
theorem frz_bC (b : List Nat) : (bC b).map frz.frz1 = bC b := by
  simp only [bC, List.map_map]
  apply List.map_congr_left
  intro x _; rfl

/-! ### Writes -/
def wrow (w : Nat × List Nat) : List AV := .int .i64 (w.1 : Int) :: bC w.2
def wC (ws : List (Nat × List Nat)) : List AV := ws.flatMap wrow
theorem wC_append (a b : List (Nat × List Nat)) : wC (a ++ b) = wC a ++ wC b := by simp [wC]
theorem wC_length : ∀ {ws : List (Nat × List Nat)}, (∀ w ∈ ws, w.2.length = 64) → (wC ws).length = ws.length * 65
  | [], _ => rfl
  | w :: ws, h => by
    have ih := wC_length (ws := ws) fun x hx => h x (List.mem_cons_of_mem _ hx)
    have h1 := h w List.mem_cons_self
    simp only [wC, List.flatMap_cons, List.length_append, wrow, List.length_cons, bC_length] at ih ⊢
    omega
theorem wC_at : ∀ {ws : List (Nat × List Nat)} {j : Nat} (hj : j < ws.length), (∀ w ∈ ws, w.2.length = 64) → subC (wC ws) (j * 65) 65 = wrow ws[j]
  | w :: ws, 0, hj, h => by
    have h1 := h w List.mem_cons_self
    have h2 : (wrow w).length = 65 := by simp [wrow, bC_length, h1]
    rw [subC, opq_eq]
    simp only [wC, List.flatMap_cons, Nat.zero_mul, List.drop_zero, List.getElem_cons_zero]
    rw [← h2, List.take_left]
  | w :: ws, j + 1, hj, h => by
    have ih := wC_at (ws := ws) (j := j) (by simpa using hj) fun x hx => h x (List.mem_cons_of_mem _ hx)
    have h1 := h w List.mem_cons_self
    have h2 : (wrow w).length = 65 := by simp [wrow, bC_length, h1]
    rw [subC, opq_eq] at ih ⊢
    simp only [wC, List.flatMap_cons, List.getElem_cons_succ] at ih ⊢
    rw [show (j + 1) * 65 = (wrow w).length + j * 65 by omega, ← List.drop_drop, List.drop_left]
    exact ih
/-- The last write to a sector. -/
def lastW (ws : List (Nat × List Nat)) (k : Nat) : Option (List Nat) := (ws.reverse.find? fun w => w.1 == k).map (·.2)
theorem lastW_append (ws : List (Nat × List Nat)) (a : Nat) (b : List Nat) (k : Nat) : lastW (ws ++ [(a, b)]) k = if a = k then some b else lastW ws k := by
  rw [lastW, List.reverse_append, List.reverse_singleton, List.singleton_append, List.find?_cons]
  by_cases h : a = k
  · simp [h]
  · have : (a == k) = false := by simp [h]
    simp [this, h, lastW]
theorem lastW_mem {ws : List (Nat × List Nat)} {k : Nat} {b : List Nat} (h : lastW ws k = some b) : (k, b) ∈ ws := by
  rw [lastW, Option.map_eq_some_iff] at h
  obtain ⟨w, h1, rfl⟩ := h
  have h2 := List.find?_some h1
  have h3 := List.mem_of_find?_eq_some h1
  simp at h2 h3
  rw [← h2]; exact h3
theorem find_put {k k' : Int} {x : AV} : ∀ es : List (AV × AV), keysOk (.int .i64) es = true → findK (putK es (.int .i64 k) x) (.int .i64 k') = if k = k' then some x else findK es (.int .i64 k')
  | [], _ => by
    show (match eqK (.int .i64 k') (.int .i64 k) with | true => some x | false => none) = _
    by_cases h : k = k'
    · subst h; simp [eqK]
    · have : eqK (.int .i64 k') (.int .i64 k) = false := by simp [eqK]; exact fun e => h e.symm
      rw [this]; simp [h]; rfl
  | e :: es, hk => by
    simp only [keysOk, List.all_cons, Bool.and_eq_true] at hk
    have ih := find_put (k := k) (k' := k') (x := x) es hk.2
    have he : ∃ j, e.1 = .int .i64 j := by
      have h1 := hk.1
      simp only [keyIs] at h1
      split at h1
      · simp only [decide_eq_true_eq] at h1; subst h1; rename_i h; exact ⟨_, h⟩
      · cases h1
    obtain ⟨j, hj⟩ := he
    simp only [putK, findK, hj]
    by_cases h1 : k = j
    · subst h1
      have : eqK (.int .i64 k) (.int .i64 k) = true := by simp [eqK]
      simp only [this]
      by_cases h : k = k'
      · subst h; simp [findK, eqK]
      · have : eqK (.int .i64 k') (.int .i64 k) = false := by simp [eqK]; exact fun e => h e.symm
        simp only [findK, this, if_neg h]
    · have h2 : eqK (.int .i64 k) (.int .i64 j) = false := by simp [eqK, h1]
      simp only [h2, findK, hj]
      by_cases h : k' = j
      · subst h
        have : eqK (.int .i64 k') (.int .i64 k') = true := by simp [eqK]
        simp only [this]
        rw [if_neg h1]
      · have h3 : eqK (.int .i64 k') (.int .i64 j) = false := by simp [eqK, h]
        simp only [h3, ih]
theorem keys_put {k : Int} {x : AV} : ∀ es : List (AV × AV), keysOk (.int .i64) es = true → keysOk (.int .i64) (putK es (.int .i64 k) x) = true
  | [], _ => rfl
  | e :: es, hk => by
    have ih := keys_put (k := k) (x := x) es (by simp only [keysOk, List.all_cons, Bool.and_eq_true] at hk; exact hk.2)
    simp only [keysOk, List.all_cons, Bool.and_eq_true] at hk ih ⊢
    simp only [putK]
    split
    · simp only [List.all_cons, Bool.and_eq_true]; exact ⟨rfl, hk.2⟩
    · simp only [List.all_cons, Bool.and_eq_true]; exact ⟨hk.1, ih⟩
theorem mem_put {k x : AV} : ∀ {es : List (AV × AV)} {e : AV × AV}, e ∈ putK es k x → e = (k, x) ∨ e ∈ es
  | [], e, h => by simp [putK] at h; exact .inl h
  | e0 :: es, e, h => by
    simp only [putK] at h
    split at h
    · rcases List.mem_cons.mp h with h | h
      · exact .inl h
      · exact .inr (List.mem_cons_of_mem _ h)
    · rcases List.mem_cons.mp h with h | h
      · exact .inr (h ▸ List.mem_cons_self)
      · rcases mem_put h with h | h
        · exact .inl h
        · exact .inr (List.mem_cons_of_mem _ h)

/-! ### The model -/
structure Dk where
  n : Nat
  ls : List Nat
  ws : List (Nat × List Nat)
  es : List (AV × AV)
  W : Ob
  v : Nat
def Dk.wr (X : Dk) : AV :=
  match X.ws with
  | [] => .nilsl
  | _ :: _ => .vs 3 X.v 65 X.ws.length
def Dk.obs (X : Dk) : List Ob := [.cells (bC X.ls), .map X.es, .cells [.ms 0 64 0 X.n X.n, .mp 1, X.wr], X.W]
structure Dk.Ok (X : Dk) : Prop where
  n1 : X.n ≤ 65536
  len : X.ls.length = X.n * 64
  byte : ∀ x ∈ X.ls, x < 256
  ws : ∀ w ∈ X.ws, w.1 < X.n ∧ w.2.length = 64 ∧ ∀ x ∈ w.2, x < 256
  keys : keysOk (.int .i64) X.es = true
  esf : ∀ e ∈ X.es, ∃ b, e.2 = .agg (bC b)
  map : ∀ k : Nat, findK X.es (.int .i64 k) = (lastW X.ws k).map fun b => .agg (bC b)
  W0 : X.ws = [] → (∃ cs, X.W = .vec X.v cs ∧ ∀ c ∈ cs, Flat c) ∨ X.W = .nov X.v
  W1 : X.ws ≠ [] → X.W = .vec X.v (wC X.ws)
/-- A write more. -/
def Dk.put (X : Dk) (k : Nat) (b : List Nat) : Dk := { X with ws := X.ws ++ [(k, b)], es := putK X.es (.int .i64 k) (.agg (bC b)), v := X.v + 1, W := .vec (X.v + 1) (wC (X.ws ++ [(k, b)])) }
def Dk.wrE (X : Dk) (k : Int) (len : Nat) : Int := if 0 ≤ k ∧ k < X.n then (if len = 64 then 0 else 41) else 40
def Dk.wrX (X : Dk) (k : Int) (b : List Nat) : Dk := if 0 ≤ k ∧ k < X.n ∧ b.length = 64 then X.put k.toNat b else X
theorem Dk.Ok.put {X : Dk} (h : X.Ok) {k : Nat} {b : List Nat} (hk : k < X.n) (hb : b.length = 64) (hx : ∀ x ∈ b, x < 256) : (X.put k b).Ok where
  n1 := h.n1
  len := h.len
  byte := h.byte
  ws := fun w hw => by
    rcases List.mem_append.mp hw with hw | hw
    · exact h.ws w hw
    · simp at hw; subst hw; exact ⟨hk, hb, hx⟩
  keys := keys_put _ h.keys
  esf := fun e he => by
    rcases mem_put he with rfl | he
    · exact ⟨b, rfl⟩
    · exact h.esf e he
  map := fun j => by
    show findK (putK X.es (.int .i64 (k : Int)) _) (.int .i64 (j : Int)) = (lastW (X.ws ++ [(k, b)]) j).map _
    rw [find_put _ h.keys, lastW_append, h.map j]
    by_cases e : k = j
    · subst e; simp
    · rw [if_neg (by omega), if_neg e]
  W0 := fun e => by simp [Dk.put] at e
  W1 := fun _ => rfl
theorem Dk.wr_put (X : Dk) (k : Nat) (b : List Nat) : (X.put k b).wr = .vs 3 (X.v + 1) 65 (X.ws.length + 1) := by
  unfold Dk.wr
  have : (X.put k b).ws = X.ws ++ [(k, b)] := rfl
  split
  · rename_i e; rw [this] at e; simp at e
  · rw [this]; simp [Dk.put]

theorem write_can {F : Nat} {X : Dk} (h : X.Ok) (hw : X.ws.length < 999999) (z : Bool) (l : List (List AV)) (hl : byOk l = true) (k : Int) :
    f11.run F [.ptr 2 0, .int .i64 k, .ns z 1 l] ⟨X.obs, []⟩ = some (.ret (.int .i64 (X.wrE k l.length)), ⟨(X.wrX k (nR l)).obs, []⟩) := by
  have hr := okR_rows (byOk_iff.mp hl).1
  have hlt : ∀ x ∈ nR l, x < 256 := fun x hx => okR_lt (byOk_iff.mp hl).1 hx
  generalize hb : nR l = b at hr hlt
  subst hr
  rw [bR_length]
  have wl := wC_length fun w hw => (h.ws w hw).2.1
  by_cases hk : 0 ≤ k ∧ k < X.n
  · have hk1 : decide (k ≥ 0) = true := by simpa using hk.1
    have hk2 : (!decide (k < (X.n : Int))) = false := by simpa using hk.2
    by_cases h64 : b.length = 64
    · obtain ⟨j, rfl⟩ := Int.eq_ofNat_of_zero_le hk.1
      have hX : X.wrX (j : Int) b = X.put j b := by rw [Dk.wrX, if_pos ⟨hk.1, hk.2, h64⟩, Int.toNat_natCast]
      have hE : X.wrE (j : Int) b.length = 0 := by rw [Dk.wrE, if_pos hk, if_pos h64]
      have c1 : ((((bR b).length : Nat) : Int) != 64) = false := by rw [bR_length, h64]; rfl
      have c2 : (true && Nat.ble 64 (bR b).length) = true := by rw [bR_length, h64]; rfl
      have f1 : flC (bR b) 64 = bC b := by rw [flC_bR, List.take_of_length_le (by omega)]
      have f2 : subC (bC b) 0 64 = bC b := by rw [subC_bC, List.drop_zero, List.take_of_length_le (by omega)]
      have f3 : (AV.int .i64 (j : Int) :: bC b) = wrow (j, b) := rfl
      have f4 : (wrow (j, b)).length = 65 := by simp [wrow, bC_length, h64]
      have f5 : subC (wrow (j, b)) 0 65 = wrow (j, b) := by rw [subC, opq_eq, List.drop_zero, List.take_of_length_le (by omega)]
      have f6 : (wrow (j, b)).map frz.frz1 = wrow (j, b) := by simp only [wrow, List.map_cons, frz_bC]; rfl
      have f7 : List.drop 1 (wrow (j, b)) = bC b := rfl
      have d1 : inC (bC b) 0 64 = true := inC_bC (by omega)
      have d2 : ((bC b).length.beq 64 && true) = true := by rw [bC_length, h64]; rfl
      have d3 : (wrow (j, b)).length.beq 65 = true := by rw [f4]; rfl
      have d4 : inC (wrow (j, b)) 0 65 = true := by rw [inC_iff]; omega
      have d5 : (true && keysOk (.int .i64) X.es) = true := by rw [h.keys]; rfl
      have hput : (X.put j b).obs = [.cells (bC X.ls), .map (putK X.es (.int .i64 (j : Int)) (.agg (bC b))), .cells [.ms 0 64 0 X.n X.n, .mp 1, .vs 3 (X.v + 1) 65 (X.ws.length + 1)], .vec (X.v + 1) (wC (X.ws ++ [(j, b)]))] := by
        rw [Dk.obs, Dk.wr_put]; rfl
      rw [hX, hE, hput]
      cases hws : X.ws with
      | nil =>
        have e0 : X.wr = .nilsl := by rw [Dk.wr, hws]
        have a1 : apOk 1 72 = true := by rw [apOk_iff]; decide
        have cc : catC [] 0 [wrow (j, b)] = wC ([] ++ [(j, b)]) := by rw [catC_nil]; simp [wC]
        rcases h.W0 hws with ⟨cs, hW, _⟩ | hW
        · rw [Dk.obs, e0, hW, write1_run, branch_of hk1, branch_not hk2, branch_not c1, branch_of c2, f1, branch_of d1, f2, branch_of d2, f3, branch_of d3, branch_of d4, f5, f6, branch_of d3, branch_of a1, f7, branch_of d1, branch_of d5, f2, cc]
          rfl
        · rw [Dk.obs, e0, hW, write0_run, branch_of hk1, branch_not hk2, branch_not c1, branch_of c2, f1, branch_of d1, f2, branch_of d2, f3, branch_of d3, branch_of d4, f5, f6, branch_of d3, branch_of a1, f7, branch_of d1, branch_of d5, f2, cc]
          rfl
      | cons w0 ws0 =>
        have hne : X.ws ≠ [] := by rw [hws]; simp
        have e0 : X.wr = .vs 3 X.v 65 X.ws.length := by unfold Dk.wr; split <;> simp_all
        have a1 : (X.v.beq X.v && (inC (wC X.ws) 0 (mulN X.ws.length 65) && apOk (X.ws.length + 1) 72)) = true := by
          rw [Nat.beq_refl, show inC (wC X.ws) 0 (mulN X.ws.length 65) = true by rw [inC_iff, mulN, opq_eq]; omega, show apOk (X.ws.length + 1) 72 = true by rw [apOk_iff]; omega]; rfl
        have cc : catC (wC X.ws) (mulN X.ws.length 65) [wrow (j, b)] = wC (X.ws ++ [(j, b)]) := by
          rw [catC, opq_eq, mulN, opq_eq, List.take_of_length_le (by omega), wC_append]; simp [wC]
        rw [← hws, Dk.obs, e0, h.W1 hne, write2_run, branch_of hk1, branch_not hk2, branch_not c1, branch_of c2, f1, branch_of d1, f2, branch_of d2, f3, branch_of d3, branch_of d4, f5, f6, branch_of d3, branch_of a1, f7, branch_of d1, branch_of d5, f2, cc]
    · have hX : X.wrX k b = X := by rw [Dk.wrX, if_neg (fun e => h64 e.2.2)]
      have hE : X.wrE k b.length = 41 := by rw [Dk.wrE, if_pos hk, if_neg h64]
      have c1 : ((((bR b).length : Nat) : Int) != 64) = true := by rw [bR_length]; simp; omega
      rw [hX, hE]
      cases hws : X.ws with
      | nil =>
        have e0 : X.wr = .nilsl := by rw [Dk.wr, hws]
        rcases h.W0 hws with ⟨cs, hW, _⟩ | hW
        · rw [Dk.obs, e0, hW, write1_run, branch_of hk1, branch_not hk2, branch_of c1]
        · rw [Dk.obs, e0, hW, write0_run, branch_of hk1, branch_not hk2, branch_of c1]
      | cons w0 ws0 =>
        have hne : X.ws ≠ [] := by rw [hws]; simp
        have e0 : X.wr = .vs 3 X.v 65 X.ws.length := by unfold Dk.wr; split <;> simp_all
        rw [Dk.obs, e0, h.W1 hne, write2_run, branch_of hk1, branch_not hk2, branch_of c1]
  · have hX : X.wrX k b = X := by rw [Dk.wrX, if_neg (fun e => hk ⟨e.1, e.2.1⟩)]
    have hE : X.wrE k b.length = 40 := by rw [Dk.wrE, if_neg hk]
    rw [hX, hE]
    have key : ∀ {a c : Ans}, branch (.bool (decide (k ≥ 0))) (branch (.bool !decide (k < (X.n : Int))) a c) a = a := by
      intro a c
      by_cases h0 : 0 ≤ k
      · rw [branch_of (by simpa using h0), branch_of (by simp; omega)]
      · rw [branch_not (by simpa using h0)]
    cases hws : X.ws with
    | nil =>
      have e0 : X.wr = .nilsl := by rw [Dk.wr, hws]
      rcases h.W0 hws with ⟨cs, hW, _⟩ | hW
      · rw [Dk.obs, e0, hW, write1_run, key]
      · rw [Dk.obs, e0, hW, write0_run, key]
    | cons w0 ws0 =>
      have hne : X.ws ≠ [] := by rw [hws]; simp
      have e0 : X.wr = .vs 3 X.v 65 X.ws.length := by unfold Dk.wr; split <;> simp_all
      rw [Dk.obs, e0, h.W1 hne, write2_run, key]
end Go.Proofs.Ytclghabbhpaafaa.V

/- Disk: what Read, settle, Image and Load come to (plain). -/
set_option linter.unusedVariables false
namespace Go.Proofs.Ytclghabbhpaafaa.V
open Go Go.V Go.RowKit

theorem setC_all' {cs xs : List AV} {m : Nat} (h : xs.length = cs.length) : setC cs 0 xs = xs := setC_all h
theorem zAr_length (n : Nat) (x : AV) : (zAr n x).length = n := by rw [zAr, opq_eq, List.length_replicate]
theorem setC_length (cs : List AV) (o : Nat) (xs : List AV) : (setC cs o xs).length = cs.length := by rw [setC, opq_eq, length_setAt]
theorem rowsT_ms4 {a b c d : Ob} {cs : List AV} (h : inC cs 0 (mulN 64 1) = true) : rowsT 1 (.ms 4 1 0 64 64) ⟨[a, b, c, d, .cells cs], []⟩ = some (rowsC 1 64 cs 0) := by
  show (match inC cs 0 (mulN 64 1) with | true => some (rowsC 1 64 cs 0) | false => none) = _
  rw [h]
theorem mulN_one (n : Nat) : mulN n 1 = n := by rw [mulN, opq_eq, Nat.mul_one]
/-- A sector's bytes. -/
def Dk.sector (X : Dk) (k : Nat) : List Nat := (lastW X.ws k).getD ((X.ls.drop (k * 64)).take 64)
theorem Dk.Ok.sector_len {X : Dk} (h : X.Ok) {k : Nat} (hk : k < X.n) : (X.sector k).length = 64 ∧ ∀ x ∈ X.sector k, x < 256 := by
  unfold Dk.sector
  cases hl : lastW X.ws k with
  | some b =>
    have := h.ws _ (lastW_mem hl)
    exact ⟨this.2.1, this.2.2⟩
  | none =>
    refine ⟨?_, fun x hx => h.byte x (List.mem_of_mem_drop (List.mem_of_mem_take hx))⟩
    simp only [Option.getD_none, List.length_take, List.length_drop, h.len]; omega
theorem read_can {F : Nat} {X : Dk} (h : X.Ok) (k : Int) : ∃ xs, f13.run F [.ptr 2 0, .int .i64 k] ⟨X.obs, []⟩ = some (.ret (if 0 ≤ k ∧ k < X.n then .tup [.sl 1 false (bR (X.sector k.toNat)), .int .i64 0] else .tup [.nilsl, .int .i64 40]), ⟨X.obs ++ xs, []⟩) := by
  by_cases hk : 0 ≤ k ∧ k < X.n
  · rw [if_pos hk]
    have hk1 : decide (k ≥ 0) = true := by simpa using hk.1
    have hk2 : (!decide (k < (X.n : Int))) = false := by simpa using hk.2
    obtain ⟨j, rfl⟩ := Int.eq_ofNat_of_zero_le hk.1
    have hj : j < X.n := by omega
    rw [Int.toNat_natCast]
    have d5 : (true && keysOk (.int .i64) X.es) = true := by rw [h.keys]; rfl
    have hm := h.map j
    have key : ∀ {b : List Nat} (z : List AV), b.length = 64 → z.length = 64 →
        onSome (rowsT 1 (.ms 4 1 0 64 64) ⟨[.cells (bC X.ls), .map X.es, .cells [.ms 0 64 0 X.n X.n, .mp 1, X.wr], X.W, .cells (setC z 0 (bC b))], []⟩) none (fun (o : List (List AV)) => branch (.bool (true && apOk o.length 1)) (some (.ret (.tup [.sl 1 false o, .int .i64 0]), ⟨[.cells (bC X.ls), .map X.es, .cells [.ms 0 64 0 X.n X.n, .mp 1, X.wr], X.W, .cells (setC z 0 (bC b))], []⟩)) none) =
          some (.ret (.tup [.sl 1 false (bR b), .int .i64 0]), ⟨X.obs ++ [.cells (bC b)], []⟩) := by
      intro b z h1 h2
      rw [setC_all (by rw [bC_length, h1, h2]), rowsT_ms4 (by rw [mulN_one]; exact inC_bC (by omega)), rowsC_bC (by omega), List.drop_zero, List.take_of_length_le (by omega)]
      show branch (.bool (true && apOk (bR b).length 1)) _ _ = _
      rw [branch_of (show (true && apOk (bR b).length 1) = true by rw [show apOk (bR b).length 1 = true by rw [apOk_iff, bR_length]; omega]; rfl)]
      rfl
    cases hl : lastW X.ws j with
    | some b =>
      have hb := (h.ws _ (lastW_mem hl)).2.1
      rw [hl] at hm
      have s : X.sector j = b := by rw [Dk.sector, hl]; rfl
      have m1 : hasK X.es (.int .i64 (j : Int)) = true := by rw [hasK, hm]; rfl
      have m2 : valK X.es (.int .i64 (j : Int)) = .agg (bC b) := by rw [valK, hm]; rfl
      refine ⟨[.cells (bC b)], ?_⟩
      rw [s, Dk.obs, read_run, branch_of hk1, branch_not hk2, branch_of d5, branch_of m1, m2, branch_of (show (LK.agg 64).is (.agg (bC b)) = true by show Nat.beq (bC b).length 64 = true; rw [bC_length, hb]; rfl)]
      show branch (.bool ((bC b).length.beq 64 && inC (zAr 64 (.int .u8 0)) 0 64)) (onSome (rowsT 1 (.ms 4 1 0 64 64) ⟨[.cells (bC X.ls), .map X.es, .cells [.ms 0 64 0 X.n X.n, .mp 1, X.wr], X.W, .cells (setC (zAr 64 (.int .u8 0)) 0 (bC b))], []⟩) none _) _ = _
      rw [branch_of (show ((bC b).length.beq 64 && inC (zAr 64 (.int .u8 0)) 0 64) = true by rw [bC_length, hb, show inC (zAr 64 (.int .u8 0)) 0 64 = true by rw [inC_iff, zAr_length]; omega]; rfl)]
      exact key _ hb (zAr_length _ _)
    | none =>
      rw [hl] at hm
      have hsl : ((X.ls.drop (j * 64)).take 64).length = 64 := by simp [h.len]; omega
      have s : X.sector j = (X.ls.drop (j * 64)).take 64 := by rw [Dk.sector, hl]; rfl
      have m1 : hasK X.es (.int .i64 (j : Int)) = false := by rw [hasK, hm]; rfl
      have z1 : inC (zAr 64 (.int .u8 0)) 0 64 = true := by rw [inC_iff, zAr_length]; omega
      have e1 : subC (bC X.ls) (0 + (j : Int).toNat * 64) 64 = bC ((X.ls.drop (j * 64)).take 64) := by rw [subC_bC, Nat.zero_add, Int.toNat_natCast]
      refine ⟨[.cells (bC ((X.ls.drop (j * 64)).take 64))], ?_⟩
      rw [s, Dk.obs, read_run, branch_of hk1, branch_not hk2, branch_of d5, branch_not m1, branch_of (show (true && inC (zAr 64 (.int .u8 0)) 0 64) = true by rw [z1]; rfl), if_pos hk, branch_of (show inC (bC X.ls) (0 + (j : Int).toNat * 64) 64 = true by rw [inC_iff, bC_length, h.len, Int.toNat_natCast]; omega), e1]
      generalize hz : setC (zAr 64 (.int .u8 0)) 0 _ = zz
      have hzl : zz.length = 64 := by rw [← hz, setC_length, zAr_length]
      rw [branch_of (show ((bC ((X.ls.drop (j * 64)).take 64)).length.beq 64 && inC zz 0 64) = true by rw [bC_length, hsl, show inC zz 0 64 = true by rw [inC_iff]; omega]; rfl)]
      exact key _ hsl hzl
  · rw [if_neg hk]
    refine ⟨[], ?_⟩
    rw [List.append_nil, Dk.obs, read_run]
    by_cases h0 : 0 ≤ k
    · rw [branch_of (by simpa using h0), branch_of (by simp; omega)]
    · rw [branch_not (by simpa using h0)]

/-! ### Crashes -/
def app1 (ls : List Nat) (w : Nat × List Nat) : List Nat := putN ls (w.1 * 64) w.2
/-- All writes, one behind the other. -/
def appW (ls : List Nat) (ws : List (Nat × List Nat)) : List Nat := ws.foldl app1 ls
def tornL (ls : List Nat) (w : Option (Nat × List Nat)) (t : Nat) : List Nat :=
  match w with
  | some w => putN ls (w.1 * 64) (w.2.take t)
  | none => ls
def Dk.settle (X : Dk) (keep torn : Nat) : Dk := { X with ls := tornL (appW X.ls (X.ws.take keep)) X.ws[keep]? torn, ws := [], es := [] }
theorem app1_ok {n : Nat} {ls : List Nat} (hl : ls.length = n * 64) (hb : ∀ x ∈ ls, x < 256) {w : Nat × List Nat} {t : Nat} (hw : w.1 < n ∧ w.2.length = 64 ∧ ∀ x ∈ w.2, x < 256) : (putN ls (w.1 * 64) (w.2.take t)).length = n * 64 ∧ ∀ x ∈ putN ls (w.1 * 64) (w.2.take t), x < 256 := by
  refine ⟨by rw [putN_length (by rw [List.length_take]; omega), hl], fun x hx => ?_⟩
  rcases mem_putN hx with hx | hx
  · exact hb x hx
  · exact hw.2.2 x (List.mem_of_mem_take hx)
theorem appW_ok {n : Nat} : ∀ {ws : List (Nat × List Nat)} {ls : List Nat}, ls.length = n * 64 → (∀ x ∈ ls, x < 256) → (∀ w ∈ ws, w.1 < n ∧ w.2.length = 64 ∧ ∀ x ∈ w.2, x < 256) → (appW ls ws).length = n * 64 ∧ ∀ x ∈ appW ls ws, x < 256
  | [], ls, h1, h2, _ => ⟨h1, h2⟩
  | w :: ws, ls, h1, h2, h3 => by
    have hw := h3 w List.mem_cons_self
    have := app1_ok (t := 64) h1 h2 hw
    rw [List.take_of_length_le (by omega)] at this
    exact appW_ok (ws := ws) this.1 this.2 fun x hx => h3 x (List.mem_cons_of_mem _ hx)
theorem Dk.Ok.settle {X : Dk} (h : X.Ok) (keep torn : Nat) : (X.settle keep torn).Ok := by
  obtain ⟨a1, a2⟩ := appW_ok h.len h.byte (ws := X.ws.take keep) fun w hw => h.ws w (List.mem_of_mem_take hw)
  have b : (tornL (appW X.ls (X.ws.take keep)) X.ws[keep]? torn).length = X.n * 64 ∧ ∀ x ∈ tornL (appW X.ls (X.ws.take keep)) X.ws[keep]? torn, x < 256 := by
    cases hw : X.ws[keep]? with
    | none => exact ⟨a1, a2⟩
    | some w => exact app1_ok a1 a2 (h.ws w (List.mem_of_getElem? hw))
  refine ⟨h.n1, b.1, b.2, fun w hw => (by cases hw), rfl, fun e he => (by cases he), fun k => rfl, fun _ => ?_, fun e => absurd rfl e⟩
  show (∃ cs, X.W = _ ∧ _) ∨ X.W = _
  by_cases hws : X.ws = []
  · exact h.W0 hws
  · refine .inl ⟨wC X.ws, h.W1 hws, fun c hc => ?_⟩
    simp only [wC, List.mem_flatMap, wrow] at hc
    obtain ⟨w, _, hc⟩ := hc
    rcases List.mem_cons.mp hc with rfl | hc
    · trivial
    · simp only [bC, List.mem_map] at hc
      obtain ⟨x, _, rfl⟩ := hc
      trivial
theorem wr_ne {X : Dk} (hws : X.ws ≠ []) : X.wr = .vs 3 X.v 65 X.ws.length := by
  unfold Dk.wr; split <;> simp_all
theorem is_wrow (w : Nat × List Nat) : (LD.one (LT.int .i64)).is (List.drop 0 (wrow w)) = true := rfl
theorem hd_wrow (w : Nat × List Nat) : hdI (List.drop 0 (wrow w)) = (w.1 : Int) := rfl
theorem dr_wrow (w : Nat × List Nat) : List.drop 1 (wrow w) = bC w.2 := rfl
theorem settle_loop {F : Nat} {X : Dk} (h : X.Ok) (hws : X.ws ≠ []) (hw : X.ws.length < 1000000) (keep torn : Nat) (hk : keep ≤ X.ws.length) (K : Cont) : ∀ (d m i : Nat), i + d = keep → d < m →
    loopRun (f26_l0.run F) [0, 1, 2, 14, 15, 16] K m (Env.mk 63 [(0, .ptr 2 0), (1, .int .i64 (keep : Int)), (2, .int .i64 (torn : Int)), (14, .vs 3 X.v 65 keep), (15, .int .i64 (keep : Int)), (16, .int .i64 (i : Int))]) ⟨[.cells (bC (appW X.ls (X.ws.take i))), .map X.es, .cells [.ms 0 64 0 X.n X.n, .mp 1, .vs 3 X.v 65 X.ws.length], .vec X.v (wC X.ws)], []⟩ =
      K (.exit 0) (Env.mk 63 [(0, .ptr 2 0), (1, .int .i64 (keep : Int)), (2, .int .i64 (torn : Int))]) ⟨[.cells (bC (appW X.ls (X.ws.take keep))), .map X.es, .cells [.ms 0 64 0 X.n X.n, .mp 1, .vs 3 X.v 65 X.ws.length], .vec X.v (wC X.ws)], []⟩
  | d, 0, i, hi, hm => by omega
  | 0, m + 1, i, hi, hm => by
    obtain rfl : i = keep := by omega
    rw [show m + 1 = m.succ from rfl, settle_round, branch_not (by simp)]
  | d + 1, m + 1, i, hi, hm => by
    have h1 : i < X.ws.length := by omega
    have hwi := h.ws X.ws[i] (List.getElem_mem h1)
    have h64 : ∀ w ∈ X.ws, w.2.length = 64 := fun w hw => (h.ws w hw).2.1
    obtain ⟨a1, a2⟩ := appW_ok h.len h.byte (ws := X.ws.take i) fun w hw => h.ws w (List.mem_of_mem_take hw)
    have e1 : subC (wC X.ws) ((i : Int).toNat * 65) 65 = wrow X.ws[i] := by rw [Int.toNat_natCast]; exact wC_at h1 h64
    have e2 : subC (bC X.ws[i].2) 0 64 = bC X.ws[i].2 := by rw [subC_bC, List.drop_zero, List.take_of_length_le (by omega)]
    have w0 : IntKind.i64.wrap ((i : Int) + 1) = ((i + 1 : Nat) : Int) := wrap_succ (by omega)
    have hwl := wC_length h64
    rw [show m + 1 = m.succ from rfl, settle_round, branch_of (by simp; omega), if_pos ⟨by omega, by omega⟩, branch_of (show (X.v.beq X.v && inC (wC X.ws) ((i : Int).toNat * 65) 65) = true by rw [Nat.beq_refl, show inC (wC X.ws) ((i : Int).toNat * 65) 65 = true by rw [inC_iff, hwl, Int.toNat_natCast]; omega]; rfl), e1,
      branch_of (show (wrow X.ws[i]).length.beq 65 = true by rw [show (wrow X.ws[i]).length = 65 by simp [wrow, bC_length, hwi.2.1]]; rfl), branch_of (is_wrow _), dr_wrow, branch_of (show inC (bC X.ws[i].2) 0 64 = true from inC_bC (by omega)), hd_wrow, if_pos ⟨by omega, by omega⟩, e2, Nat.zero_add, Int.toNat_natCast,
      branch_of (show ((bC X.ws[i].2).length.beq 64 && inC (bC (appW X.ls (X.ws.take i))) (X.ws[i].1 * 64) 64) = true by rw [bC_length, hwi.2.1, show inC (bC (appW X.ls (X.ws.take i))) (X.ws[i].1 * 64) 64 = true from inC_bC (by rw [a1]; omega)]; rfl),
      setC_bC (by rw [a1, hwi.2.1]; omega), w0]
    have step : appW X.ls (X.ws.take (i + 1)) = putN (appW X.ls (X.ws.take i)) (X.ws[i].1 * 64) X.ws[i].2 := by
      rw [List.take_succ_eq_append_getElem h1, appW, List.foldl_append]; rfl
    rw [← step]
    exact settle_loop h hws hw keep torn hk K d m (i + 1) (by omega) (by omega)
theorem settle_can {F : Nat} {X : Dk} (h : X.Ok) (hw : X.ws.length < 1000000) (hF : X.ws.length < F) (keep torn : Nat) (hk : keep ≤ X.ws.length) (ht : torn ≤ 64) (K : Fin → St → Ans) :
    f26.runK F [.ptr 2 0, .int .i64 (keep : Int), .int .i64 (torn : Int)] ⟨X.obs, []⟩ K = K (.ret (.tup [])) ⟨(X.settle keep torn).obs, []⟩ := by
  by_cases hws : X.ws = []
  · have e0 : X.wr = .nilsl := by rw [Dk.wr, hws]
    have hk0 : keep = 0 := by rw [hws] at hk; simpa using hk
    subst hk0
    obtain ⟨m, rfl⟩ : ∃ m, F = m.succ := ⟨F - 1, by omega⟩
    have e1 : (X.settle 0 torn).obs = [.cells (bC X.ls), .map [], .cells [.ms 0 64 0 X.n X.n, .mp 1, .nilsl], X.W] := by
      simp only [Dk.obs, Dk.settle, hws]; rfl
    rw [Dk.obs, e0, settle0_run, if_pos ⟨by omega, by omega⟩, settle0_round, show ((0 : Nat) : Int) = 0 from rfl, settle0_out, e1]
  · have h64 : ∀ w ∈ X.ws, w.2.length = 64 := fun w hw => (h.ws w hw).2.1
    have hwl := wC_length h64
    obtain ⟨a1, a2⟩ := appW_ok h.len h.byte (ws := X.ws.take keep) fun w hw => h.ws w (List.mem_of_mem_take hw)
    have e1 : (X.settle keep torn).obs = [.cells (bC (tornL (appW X.ls (X.ws.take keep)) X.ws[keep]? torn)), .map [], .cells [.ms 0 64 0 X.n X.n, .mp 1, .nilsl], .vec X.v (wC X.ws)] := by
      rw [← h.W1 hws]; rfl
    have hl := settle_loop (F := F) h hws hw keep torn hk (Cont.block 0 (Cont.then (f26_r0.run F (f26.leaveK K)) (f26.leaveK K))) keep F 0 (by omega) (by omega)
    rw [Dk.obs, wr_ne hws, h.W1 hws, settle_run, if_pos ⟨by omega, by omega⟩, Int.toNat_natCast]
    refine Eq.trans hl ?_
    rw [settle_out, e1]
    by_cases hkl : keep < X.ws.length
    · have hwi := h.ws X.ws[keep] (List.getElem_mem hkl)
      have e2 : subC (wC X.ws) ((keep : Int).toNat * 65) 65 = wrow X.ws[keep] := by rw [Int.toNat_natCast]; exact wC_at hkl h64
      have e3 : rowsC 1 ((torn : Int).toNat - 0) (bC X.ws[keep].2) 0 = bR (X.ws[keep].2.take torn) := by rw [Int.toNat_natCast, Nat.sub_zero, rowsC_bC (by omega), List.drop_zero]
      have e4 : minN (bR (X.ws[keep].2.take torn)).length 64 = torn := by rw [minN, opq_eq, bR_length, List.length_take]; omega
      have e5 : flC (bR (X.ws[keep].2.take torn)) torn = bC (X.ws[keep].2.take torn) := by rw [flC_bR, List.take_take, Nat.min_self]
      have e6 : X.ws[keep]? = some X.ws[keep] := List.getElem?_eq_getElem hkl
      rw [branch_of (by simpa using hkl), if_pos ⟨by omega, by omega⟩, branch_of (show (X.v.beq X.v && inC (wC X.ws) ((keep : Int).toNat * 65) 65) = true by rw [Nat.beq_refl, show inC (wC X.ws) ((keep : Int).toNat * 65) 65 = true by rw [inC_iff, hwl, Int.toNat_natCast]; omega]; rfl), e2,
        branch_of (show (wrow X.ws[keep]).length.beq 65 = true by rw [show (wrow X.ws[keep]).length = 65 by simp [wrow, bC_length, hwi.2.1]]; rfl), branch_of (is_wrow _), dr_wrow, hd_wrow, if_pos ⟨by omega, by omega⟩, if_pos ⟨by omega, by omega⟩, e3, e4, e5, mulN_one, mulN_one, Nat.zero_add, Nat.add_zero, Int.toNat_natCast, Int.toNat_natCast,
        branch_of (show inC (bC X.ws[keep].2) 0 (torn - 0) = true from inC_bC (by omega)), branch_of (show inC (bC (appW X.ls (X.ws.take keep))) (X.ws[keep].1 * 64) torn = true from inC_bC (by rw [a1]; omega)), setC_bC (by rw [a1, List.length_take]; omega), e6]
      rfl
    · have e6 : X.ws[keep]? = none := List.getElem?_eq_none (by omega)
      rw [branch_not (by simpa using hkl), e6]
      rfl
end Go.Proofs.Ytclghabbhpaafaa.V

/- Disk: a disk among a state's objects. -/
set_option linter.unusedVariables false
namespace Go.Proofs.Ytclghabbhpaafaa.V
open Go Go.V Go.RowKit

/-! ### The objects tell the disk -/
theorem bC_inj : ∀ {a b : List Nat}, bC a = bC b → a = b
  | [], [], _ => rfl
  | [], _ :: _, h => by simp [bC] at h
  | _ :: _, [], h => by simp [bC] at h
  | x :: a, y :: b, h => by
    simp only [bC, List.map_cons, List.cons.injEq, AV.int.injEq, true_and] at h
    obtain ⟨h1, h2⟩ := h
    rw [bC_inj (a := a) (b := b) h2, Int.ofNat.inj h1]
theorem wC_inj : ∀ {a b : List (Nat × List Nat)}, (∀ w ∈ a, w.2.length = 64) → (∀ w ∈ b, w.2.length = 64) → wC a = wC b → a = b
  | [], [], _, _, _ => rfl
  | [], w :: _, _, _, h => by simp [wC, wrow] at h
  | w :: _, [], _, _, h => by simp [wC, wrow] at h
  | x :: a, y :: b, ha, hb, h => by
    have h1 := ha x List.mem_cons_self
    have h2 := hb y List.mem_cons_self
    simp only [wC, List.flatMap_cons] at h
    obtain ⟨h3, h4⟩ := List.append_inj h (by simp [wrow, bC_length, h1, h2])
    simp only [wrow, List.cons.injEq, AV.int.injEq, true_and] at h3
    obtain ⟨h5, h6⟩ := h3
    have := wC_inj (a := a) (b := b) (fun w hw => ha w (List.mem_cons_of_mem _ hw)) (fun w hw => hb w (List.mem_cons_of_mem _ hw)) h4
    rw [this]
    have h7 := bC_inj h6
    have h8 := Int.ofNat.inj h5
    obtain ⟨x1, x2⟩ := x
    obtain ⟨y1, y2⟩ := y
    simp at h7 h8
    rw [h7, h8]
def Dk.wrAt (X : Dk) (i : Nat) : AV :=
  match X.ws with
  | [] => .nilsl
  | _ :: _ => .vs (i + 3) X.v 65 X.ws.length
/-- The disk's objects, at a place. -/
def Dk.at0 (X : Dk) : Ob := .cells (bC X.ls)
def Dk.at1 (X : Dk) : Ob := .map X.es
def Dk.at2 (X : Dk) (i : Nat) : Ob := .cells [.ms i 64 0 X.n X.n, .mp (i + 1), X.wrAt i]
theorem wrAt_nil {X : Dk} {i : Nat} (h : X.ws = []) : X.wrAt i = .nilsl := by rw [Dk.wrAt, h]
theorem wrAt_ne {X : Dk} {i : Nat} (h : X.ws ≠ []) : X.wrAt i = .vs (i + 3) X.v 65 X.ws.length := by unfold Dk.wrAt; split <;> simp_all
theorem obs_inj {X Y : Dk} (hX : X.Ok) (hY : Y.Ok) {i : Nat} (h0 : X.at0 = Y.at0) (h1 : X.at1 = Y.at1) (h2 : X.at2 i = Y.at2 i) (h3 : X.W = Y.W) : X = Y := by
  have e0 : X.ls = Y.ls := bC_inj (by simpa [Dk.at0] using h0)
  have e1 : X.es = Y.es := by simpa [Dk.at1] using h1
  simp only [Dk.at2, Ob.cells.injEq, List.cons.injEq, AV.ms.injEq, true_and, and_true] at h2
  obtain ⟨⟨e2, _⟩, e3⟩ := h2
  have e4 : X.ws = Y.ws ∧ X.v = Y.v := by
    by_cases hx : X.ws = []
    · rw [wrAt_nil hx] at e3
      have hy : Y.ws = [] := by
        by_cases hy : Y.ws = []
        · exact hy
        · rw [wrAt_ne hy] at e3; cases e3
      refine ⟨by rw [hx, hy], ?_⟩
      rcases hX.W0 hx with ⟨cs, h, _⟩ | h <;> rcases hY.W0 hy with ⟨ds, k, _⟩ | k <;> rw [h, k] at h3
      · simp only [Ob.vec.injEq] at h3; exact h3.1
      · cases h3
      · cases h3
      · simp only [Ob.nov.injEq] at h3; exact h3
    · rw [wrAt_ne hx] at e3
      have hy : Y.ws ≠ [] := by intro hy; rw [wrAt_nil hy] at e3; cases e3
      rw [wrAt_ne hy] at e3
      simp only [AV.vs.injEq] at e3
      refine ⟨?_, e3.2.1⟩
      have h5 := h3
      rw [hX.W1 hx, hY.W1 hy] at h5
      simp only [Ob.vec.injEq] at h5
      exact wC_inj (fun w hw => (hX.ws w hw).2.1) (fun w hw => (hY.ws w hw).2.1) h5.2
  obtain ⟨n, ls, ws, es, W, v⟩ := X
  obtain ⟨n', ls', ws', es', W', v'⟩ := Y
  simp only at e0 e1 e2 e4 h3
  obtain ⟨e4, e5⟩ := e4
  subst e0; subst e1; subst e2; subst e4; subst e5; subst h3
  rfl
def isD (i : Nat) (a b c d : Ob) (X : Dk) : Prop := X.Ok ∧ X.ws.length < 999999 ∧ X.at0 = a ∧ X.at1 = b ∧ X.at2 i = c ∧ X.W = d
open Classical in
noncomputable def dkG (i : Nat) (a b c d : Ob) : Option Dk := opq (if h : ∃ X, isD i a b c d X then some (Classical.choose h) else none)
theorem dkG_spec {i : Nat} {a b c d : Ob} {X : Dk} (h : dkG i a b c d = some X) : isD i a b c d X := by
  rw [dkG, opq_eq] at h
  split at h
  · rename_i hx; cases h; exact Classical.choose_spec hx
  · cases h
theorem dkG_of {i : Nat} {a b c d : Ob} {X : Dk} (h : isD i a b c d X) : dkG i a b c d = some X := by
  have hx : ∃ X, isD i a b c d X := ⟨X, h⟩
  rw [dkG, opq_eq, dif_pos hx]
  obtain ⟨h1, _, h2, h3, h4, h5⟩ := Classical.choose_spec hx
  obtain ⟨k1, _, k2, k3, k4, k5⟩ := h
  congr 1
  exact obs_inj (i := i) h1 k1 (h2.trans k2.symm) (h3.trans k3.symm) (h4.trans k4.symm) (h5.trans k5.symm)
theorem onSome_some {α : Type} (x : α) (n : Ans) (k : α → Ans) : onSome (some x) n k = k x := rfl
noncomputable def dk0 (X : Dk) : Ob := opq X.at0
noncomputable def dk1 (X : Dk) : Ob := opq X.at1
noncomputable def dk2 (i : Nat) (X : Dk) : Ob := opq (X.at2 i)
noncomputable def dk3 (X : Dk) : Ob := opq X.W
theorem isD_of {X : Dk} (h : X.Ok) (hw : X.ws.length < 999999) (i : Nat) : isD i (dk0 X) (dk1 X) (dk2 i X) (dk3 X) X := ⟨h, hw, by rw [dk0, opq_eq], by rw [dk1, opq_eq], by rw [dk2, opq_eq], by rw [dk3, opq_eq]⟩
/-- A disk in a state: where it is, what it is. -/
noncomputable def onD (x : AV) (st : St) (k : Nat → Dk → Ans) : Ans :=
  match x with
  | .ptr j o => match Nat.beq o 0 with
    | true => match j with
      | i + 2 => match st.objs[i]? with
        | some a => match st.objs[i + 1]? with
          | some b => match st.objs[i + 2]? with
            | some c => match st.objs[i + 3]? with
              | some d => onSome (dkG i a b c d) none fun X => k i X
              | none => none
            | none => none
          | none => none
        | none => none
      | _ => none
    | false => none
  | _ => none
noncomputable def plD (st : St) (i : Nat) (X : Dk) : St := ⟨(((st.objs.set i (dk0 X)).set (i + 1) (dk1 X)).set (i + 2) (dk2 i X)).set (i + 3) (dk3 X), st.tk⟩
theorem onD_spec {x : AV} {st : St} {k : Nat → Dk → Ans} {fin : Fin × St} (h : onD x st k = some fin) : ∃ i a b c d X, x = .ptr (i + 2) 0 ∧ st.objs[i]? = some a ∧ st.objs[i + 1]? = some b ∧ st.objs[i + 2]? = some c ∧ st.objs[i + 3]? = some d ∧ isD i a b c d X ∧ k i X = some fin := by
  unfold onD at h
  split at h
  · rename_i j o
    split at h
    · rename_i ho
      obtain rfl := Nat.eq_of_beq_eq_true ho
      split at h
      · rename_i i
        split at h
        · split at h
          · split at h
            · split at h
              · unfold onSome at h
                split at h
                · cases h
                · rename_i hd
                  exact ⟨i, _, _, _, _, _, rfl, by assumption, by assumption, by assumption, by assumption, dkG_spec hd, h⟩
              · cases h
            · cases h
          · cases h
        · cases h
      · cases h
    · cases h
  · cases h

/-! ### Where it lies doesn't matter -/
theorem flat_near {n : Nat} : ∀ {cs : List AV}, (∀ c ∈ cs, Flat c) → NearL n cs
  | [], _ => trivial
  | c :: cs, h => ⟨by have := h c List.mem_cons_self; revert this; cases c <;> simp [Flat, Near], flat_near fun x hx => h x (List.mem_cons_of_mem _ hx)⟩
theorem flat_ren (ρ : Nat → Nat) : ∀ {cs : List AV}, (∀ c ∈ cs, Flat c) → renL ρ cs = cs
  | [], _ => rfl
  | c :: cs, h => by
    have h1 := h c List.mem_cons_self
    rw [renL, flat_ren ρ fun x hx => h x (List.mem_cons_of_mem _ hx)]
    revert h1
    cases c <;> simp [Flat, ren]
theorem flat_bC (b : List Nat) : ∀ c ∈ bC b, Flat c := fun c hc => by
  simp only [bC, List.mem_map] at hc
  obtain ⟨x, _, rfl⟩ := hc; trivial
theorem flat_wC (ws : List (Nat × List Nat)) : ∀ c ∈ wC ws, Flat c := fun c hc => by
  simp only [wC, List.mem_flatMap, wrow] at hc
  obtain ⟨w, _, hc⟩ := hc
  rcases List.mem_cons.mp hc with rfl | hc
  · trivial
  · exact flat_bC _ c hc
theorem Dk.Ok.flatW {X : Dk} (h : X.Ok) : (∃ v cs, X.W = .vec v cs ∧ ∀ c ∈ cs, Flat c) ∨ ∃ v, X.W = .nov v := by
  by_cases hws : X.ws = []
  · rcases h.W0 hws with ⟨cs, h1, h2⟩ | h1
    · exact .inl ⟨_, cs, h1, h2⟩
    · exact .inr ⟨_, h1⟩
  · exact .inl ⟨_, _, h.W1 hws, flat_wC _⟩
theorem Dk.Ok.nearW {X : Dk} (h : X.Ok) (n : Nat) : NearO n X.W := by
  rcases h.flatW with ⟨v, cs, h1, h2⟩ | ⟨v, h1⟩
  · rw [h1]; exact flat_near h2
  · rw [h1]; trivial
theorem Dk.Ok.renW {X : Dk} (h : X.Ok) (ρ : Nat → Nat) : renO ρ X.W = X.W := by
  rcases h.flatW with ⟨v, cs, h1, h2⟩ | ⟨v, h1⟩
  · rw [h1]; show Ob.vec v (renL ρ cs) = _; rw [flat_ren ρ h2]
  · rw [h1]; rfl
theorem keys_flat : ∀ {es : List (AV × AV)}, keysOk (.int .i64) es = true → ∀ e ∈ es, Flat e.1 := fun hk e he => by
  have := List.all_eq_true.mp hk e he
  simp only [keyIs] at this
  split at this
  · rename_i h; rw [h]; trivial
  · cases this
theorem Dk.Ok.ren1 {X : Dk} (h : X.Ok) (ρ : Nat → Nat) : renO ρ X.at1 = X.at1 := by
  show Ob.map (X.es.map fun e => (ren ρ e.1, ren ρ e.2)) = .map X.es
  congr 1
  have : ∀ e ∈ X.es, (ren ρ e.1, ren ρ e.2) = e := fun e he => by
    obtain ⟨b, hb⟩ := h.esf e he
    have h1 : ren ρ e.1 = e.1 := by have := flat_ren ρ (cs := [e.1]) (by simpa using keys_flat h.keys e he); simpa [renL] using this
    have h2 : ren ρ e.2 = e.2 := by rw [hb]; show AV.agg (renL ρ (bC b)) = _; rw [flat_ren ρ (flat_bC b)]
    rw [h1, h2]
  conv => rhs; rw [← List.map_id X.es]
  exact List.map_congr_left this
theorem Dk.Ok.near1 {X : Dk} (h : X.Ok) (n : Nat) : NearO n X.at1 := by
  refine ⟨flat_near fun c hc => ?_, ?_⟩
  · obtain ⟨e, he, rfl⟩ := List.mem_map.mp hc
    exact keys_flat h.keys e he
  · have : ∀ (es : List (AV × AV)), (∀ e ∈ es, ∃ b, e.2 = .agg (bC b)) → NearL n (es.map (·.2)) := by
      intro es
      induction es with
      | nil => intro _; trivial
      | cons e es ih =>
        intro hh
        obtain ⟨b, hb⟩ := hh e List.mem_cons_self
        refine ⟨?_, ih fun x hx => hh x (List.mem_cons_of_mem _ hx)⟩
        show Near n e.2
        rw [hb]; exact flat_near (flat_bC b)
    exact this X.es h.esf

def rho (i j : Nat) : Nat := i + j
def invD (i k : Nat) : Option Nat := if i ≤ k ∧ k < i + 4 then some (k - i) else none
theorem inv_rho (i : Nat) : Inv (rho i) 4 (invD i) := by
  refine ⟨fun j hj => ?_, fun k j h => ?_⟩
  · show (if i ≤ i + j ∧ i + j < i + 4 then some (i + j - i) else none) = some j
    rw [if_pos (by omega), Nat.add_sub_cancel_left]
  · simp only [invD] at h
    split at h
    · cases h; exact ⟨by omega, by show i + (k - i) = k; omega⟩
    · cases h
theorem at2_ren {X : Dk} {τ : Nat → Nat} {i : Nat} (h0 : τ 0 = i) (h1 : τ 1 = i + 1) (h3 : τ 3 = i + 3) : renO τ (.cells [.ms 0 64 0 X.n X.n, .mp 1, X.wr]) = X.at2 i := by
  have : ren τ X.wr = X.wrAt i := by
    by_cases hws : X.ws = []
    · rw [wrAt_nil hws, show X.wr = .nilsl by rw [Dk.wr, hws]]; rfl
    · rw [wrAt_ne hws, wr_ne hws]
      show AV.vs (τ 3) _ _ _ = _; rw [h3]
  show Ob.cells [.ms (τ 0) 64 0 X.n X.n, .mp (τ 1), ren τ X.wr] = _
  rw [this, h0, h1]; rfl
theorem at0_ren (X : Dk) (τ : Nat → Nat) : renO τ (.cells (bC X.ls)) = X.at0 := by
  show Ob.cells (renL τ (bC X.ls)) = _; rw [flat_ren τ (flat_bC _)]; rfl
theorem near2 (X : Dk) : NearO 4 (.cells [.ms 0 64 0 X.n X.n, .mp 1, X.wr]) := by
  refine ⟨by show 0 < 4; omega, by show 1 < 4; omega, ?_, trivial⟩
  unfold Dk.wr
  split
  · trivial
  · show 3 < 4; omega
theorem obs_near {X : Dk} (h : X.Ok) : ∀ o ∈ X.obs, NearO 4 o := by
  intro o ho
  simp only [Dk.obs, List.mem_cons, List.not_mem_nil, or_false] at ho
  rcases ho with rfl | rfl | rfl | rfl
  · exact flat_near (flat_bC _)
  · exact h.near1 4
  · exact near2 X
  · exact h.nearW 4
theorem isD_at {X : Dk} {i : Nat} {a b c d : Ob} (h : isD i a b c d X) {st : St} (h0 : st.objs[i]? = some a) (h1 : st.objs[i + 1]? = some b) (h2 : st.objs[i + 2]? = some c) (h3 : st.objs[i + 3]? = some d) : Lies st X.obs (rho i) 4 (invD i) := by
  obtain ⟨hX, _, e0, e1, e2, e3⟩ := h
  refine ⟨rfl, inv_rho i, fun j o ho => ?_, obs_near hX⟩
  match j, ho with
  | 0, ho =>
    cases ho
    rw [at0_ren, e0]; exact h0
  | 1, ho =>
    cases ho
    rw [show renO (rho i) (.map X.es) = X.at1 from hX.ren1 _, e1]; exact h1
  | 2, ho =>
    cases ho
    rw [at2_ren (τ := rho i) (i := i) rfl rfl rfl, e2]; exact h2
  | 3, ho =>
    cases ho
    rw [hX.renW, e3]; exact h3
  | j + 4, ho => simp [Dk.obs] at ho
theorem plD_length (st : St) (i : Nat) (Y : Dk) : (plD st i Y).objs.length = st.objs.length := by simp [plD]
theorem dk_placed {f : Fun Try.prog} {F : Nat} {X Y : Dk} {args0 : List AV} {r : AV} {xs : List Ob} (hrun : f.run F args0 ⟨X.obs, []⟩ = some (.ret r, ⟨Y.obs ++ xs, []⟩)) (hY : Y.Ok) (ha : NearL 4 args0) (hr : Near 4 (frz r))
    {st : St} {i : Nat} {a b c d : Ob} (hd : isD i a b c d X) (h0 : st.objs[i]? = some a) (h1 : st.objs[i + 1]? = some b) (h2 : st.objs[i + 2]? = some c) (h3 : st.objs[i + 3]? = some d) :
    CallsTo Try.prog f.id (renL (rho i) args0) st (.ret (ren (nx (rho i) 4 st.objs.length) (frz r)), plD st i Y) := by
  have hl := getElem?_lt h3
  have n4 : ∀ j, j < 4 → nx (rho i) 4 st.objs.length j = i + j := fun j hj => by rw [nx, if_pos hj]; rfl
  refine placed (f.sound hrun) (Nat.le_refl 4) (by simp [Dk.obs]) ha hr (fun j o hj ho => ?_) (isD_at hd h0 h1 h2 h3) rfl (by rw [plD_length]; omega) (fun j o hj ho => ?_) (fun k hk hi => ?_)
  · rw [List.getElem?_append_left (by simpa [Dk.obs] using hj)] at ho
    exact obs_near hY o (List.mem_of_getElem? ho)
  · rw [List.getElem?_append_left (by simpa [Dk.obs] using hj)] at ho
    rw [n4 j hj]
    match j, hj, ho with
    | 0, _, ho =>
      cases ho
      rw [at0_ren, plD]
      simp only [Nat.add_zero]
      rw [List.getElem?_set_ne (by omega), List.getElem?_set_ne (by omega), List.getElem?_set_ne (by omega), List.getElem?_set_self (by omega), dk0, opq_eq]
    | 1, _, ho =>
      cases ho
      rw [show renO _ (Ob.map Y.es) = Y.at1 from hY.ren1 _, plD]
      simp only
      rw [List.getElem?_set_ne (by omega), List.getElem?_set_ne (by omega), List.getElem?_set_self (by simp; omega), dk1, opq_eq]
    | 2, _, ho =>
      cases ho
      rw [at2_ren (i := i) (n4 0 (by omega)) (n4 1 (by omega)) (n4 3 (by omega)), plD]
      simp only
      rw [List.getElem?_set_ne (by omega), List.getElem?_set_self (by simp; omega), dk2, opq_eq]
    | 3, _, ho =>
      cases ho
      rw [hY.renW, plD]
      simp only
      rw [List.getElem?_set_self (by simp; omega), dk3, opq_eq]
    | j + 4, hj, _ => omega
  · have hn : ¬ (i ≤ k ∧ k < i + 4) := by
      intro e
      simp only [invD] at hi
      rw [if_pos e] at hi; cases hi
    rw [plD]
    simp only
    rw [List.getElem?_set_ne (by omega), List.getElem?_set_ne (by omega), List.getElem?_set_ne (by omega), List.getElem?_set_ne (by omega)]

/-! ### The disk's functions, as callees -/
theorem calls_wk {id : FuncId} {args args' : List AV} {st : St} {fin : Fin × St} (h : CallsTo Try.prog id args' st fin) (hw : ∀ g w vs, RelAll g w args vs → RelAll g w args' vs) : CallsTo Try.prog id args st fin := fun g w vals hv hs => h g w vals (hw g w _ hv) hs
theorem wr_len {X : Dk} {k : Int} {b : List Nat} : (X.wrX k b).ws.length ≤ X.ws.length + 1 := by
  unfold Dk.wrX; split
  · simp [Dk.put]
  · omega
theorem Dk.Ok.wrX {X : Dk} (h : X.Ok) {k : Int} {b : List Nat} (hx : ∀ x ∈ b, x < 256) : (X.wrX k b).Ok := by
  unfold Dk.wrX; split
  · rename_i hc; exact h.put (by omega) hc.2.2 hx
  · exact h
noncomputable def s11 : OrcS Try.prog := f11.by'
  (fun args st k => match args with
    | [x, n, y] => onD x st fun i X => onInt n fun kd n => ifT (decide (kd = .i64)) (onNs 1 y fun _ l => ifT (byOk l) (k (.ret (.int .i64 (X.wrE n l.length))) (plD st i (X.wrX n (nR l)))))
    | _ => none)
  fun args st k fin h => by
    split at h
    · rename_i x n y
      obtain ⟨i, a, b, c, d, X, rfl, h0, h1, h2, h3, hd, g1⟩ := onD_spec h
      obtain ⟨kd, n, g2, rfl⟩ := onInt_spec g1
      obtain ⟨hk, g3⟩ := ifT_spec g2
      obtain rfl := of_decide_eq_true hk
      obtain ⟨z, l, g4, hy⟩ := onNs_spec g3
      obtain ⟨hl, g5⟩ := ifT_spec g4
      have hok := byOk_iff.mp hl
      have hrun := write_can (F := 0) hd.1 hd.2.1 z l hl n
      have := dk_placed (f := f11) (r := .int .i64 (X.wrE n l.length)) (args0 := [.ptr 2 0, .int .i64 n, .ns z 1 l]) (xs := []) (by rw [List.append_nil]; exact hrun) (hd.1.wrX fun x hx => okR_lt hok.1 hx) ⟨by show 2 < 4; omega, trivial, okR_scoped hok.1, trivial⟩ trivial hd h0 h1 h2 h3
      refine ⟨_, _, g5, calls_wk this fun g w vs ⟨v1, r1, e1, k1, v2, r2, e2, k2, v3, r3, e3, k3, k4⟩ => ⟨v1, r1, e1, k1, v2, r2, e2, k2, v3, r3, e3, hy g w v3 k3, k4⟩⟩
    · cases h
end Go.Proofs.Ytclghabbhpaafaa.V

/- Disk: its functions, as callees. -/
set_option linter.unusedVariables false
namespace Go.Proofs.Ytclghabbhpaafaa.V
open Go Go.V Go.RowKit

theorem calls_wkR {id : FuncId} {args : List AV} {st st' : St} {r r' : AV} (h : CallsTo Try.prog id args st (.ret r, st')) (hw : ∀ g w v, Rel g w r v → Rel g w r' v) : CallsTo Try.prog id args st (.ret r', st') := by
  intro g w vals hv hs
  refine (h g w vals hv hs).mono fun e w' ⟨g', k1, k2, k3⟩ => ?_
  obtain ⟨v, rfl, hv'⟩ := k1
  exact ⟨g', ⟨v, rfl, hw _ _ _ hv'⟩, k2, k3⟩
theorem settle_ws (X : Dk) (k t : Nat) : (X.settle k t).ws.length = 0 := rfl
noncomputable def s26 : OrcS Try.prog := f26.by'
  (fun args st k => match args with
    | [x, n, y] => onD x st fun i X => onInt n fun kd n => onInt y fun kd' t => ifT (decide (kd = .i64) && (decide (kd' = .i64) && (decide (0 ≤ n ∧ n ≤ X.ws.length) && decide (0 ≤ t ∧ t ≤ 64)))) (k (.ret (.tup [])) (plD st i (X.settle n.toNat t.toNat)))
    | _ => none)
  fun args st k fin h => by
    split at h
    · rename_i x n y
      obtain ⟨i, a, b, c, d, X, rfl, h0, h1, h2, h3, hd, g1⟩ := onD_spec h
      obtain ⟨kd, n, g2, rfl⟩ := onInt_spec g1
      obtain ⟨kd', t, g3, rfl⟩ := onInt_spec g2
      obtain ⟨hk, g4⟩ := ifT_spec g3
      simp only [Bool.and_eq_true, decide_eq_true_eq] at hk
      obtain ⟨rfl, rfl, ⟨n0, n1⟩, t0, t1⟩ := hk
      obtain ⟨n, rfl⟩ := Int.eq_ofNat_of_zero_le n0
      obtain ⟨t, rfl⟩ := Int.eq_ofNat_of_zero_le t0
      have hrun := settle_can (F := 1000000) hd.1 (by have := hd.2.1; omega) (by have := hd.2.1; omega) n t (by omega) (by omega) Fun.done
      have := dk_placed (f := f26) (F := 1000000) (r := .tup []) (args0 := [.ptr 2 0, .int .i64 (n : Int), .int .i64 (t : Int)]) (xs := []) (by rw [List.append_nil]; exact hrun) (hd.1.settle n t) ⟨by show 2 < 4; omega, trivial, trivial, trivial⟩ trivial hd h0 h1 h2 h3
      exact ⟨_, _, g4, this⟩
    · cases h
def Dk.inD (X : Dk) (k : Int) : Bool := decide (0 ≤ k ∧ k < X.n)
def Dk.rdB (X : Dk) (k : Int) : List Nat := bif X.inD k then X.sector k.toNat else []
def Dk.rdE (X : Dk) (k : Int) : Int := bif X.inD k then 0 else 40
theorem same_plD {st : St} {i : Nat} {X : Dk} {a b c d : Ob} (hd : isD i a b c d X) (h0 : st.objs[i]? = some a) (h1 : st.objs[i + 1]? = some b) (h2 : st.objs[i + 2]? = some c) (h3 : st.objs[i + 3]? = some d) : plD st i X = st := by
  obtain ⟨_, _, e0, e1, e2, e3⟩ := hd
  have key : ∀ (l : List Ob) (j : Nat) (o : Ob), l[j]? = some o → l.set j o = l := by
    intro l j o h
    apply List.ext_getElem?
    intro m
    rw [List.getElem?_set]
    split
    · rename_i e; subst e; rw [if_pos (getElem?_lt h), h]
    · rfl
  rw [plD, dk0, opq_eq, dk1, opq_eq, dk2, opq_eq, dk3, opq_eq, e0, e1, e2, e3, key _ _ _ h0, key _ _ _ h1, key _ _ _ h2, key _ _ _ h3]
noncomputable def s13 : OrcS Try.prog := f13.by'
  (fun args st k => match args with
    | [x, n] => onD x st fun i X => onInt n fun kd n => ifT (decide (kd = .i64)) (k (.ret (.tup [.ns (!X.inD n) 1 (bR (X.rdB n)), .int .i64 (X.rdE n)])) st)
    | _ => none)
  fun args st k fin h => by
    split at h
    · rename_i x n
      obtain ⟨i, a, b, c, d, X, rfl, h0, h1, h2, h3, hd, g1⟩ := onD_spec h
      obtain ⟨kd, n, g2, rfl⟩ := onInt_spec g1
      obtain ⟨hk, g3⟩ := ifT_spec g2
      obtain rfl := of_decide_eq_true hk
      obtain ⟨xs, hrun⟩ := read_can (F := 0) hd.1 n
      refine ⟨_, _, g3, ?_⟩
      have hs := same_plD hd h0 h1 h2 h3
      by_cases hn : 0 ≤ n ∧ n < X.n
      · rw [if_pos hn] at hrun
        have := dk_placed (f := f13) (r := .tup [.sl 1 false (bR (X.sector n.toNat)), .int .i64 0]) (args0 := [.ptr 2 0, .int .i64 n]) hrun hd.1 ⟨by show 2 < 4; omega, trivial, trivial⟩ ⟨bR_scoped _, trivial, trivial⟩ hd h0 h1 h2 h3
        rw [hs] at this
        have e1 : X.inD n = true := by rw [Dk.inD]; simpa using hn
        rw [Dk.rdB, Dk.rdE, e1]
        refine calls_wkR this fun g w v ⟨vs, e, v1, r1, q1, q2, q3⟩ => ⟨vs, e, v1, r1, q1, ?_, q3⟩
        obtain ⟨b', o, sp, cap, p1, p2, _, p3, p4⟩ := q2
        exact .inr ⟨rfl, b', o, sp, cap, p1, p2, p3, p4⟩
      · rw [if_neg hn] at hrun
        have := dk_placed (f := f13) (r := .tup [.nilsl, .int .i64 40]) (args0 := [.ptr 2 0, .int .i64 n]) hrun hd.1 ⟨by show 2 < 4; omega, trivial, trivial⟩ ⟨trivial, trivial, trivial⟩ hd h0 h1 h2 h3
        rw [hs] at this
        have e1 : X.inD n = false := by rw [Dk.inD]; simpa using hn
        rw [Dk.rdB, Dk.rdE, e1]
        exact calls_wkR this fun g w v ⟨vs, e, v1, r1, q1, q2, q3⟩ => ⟨vs, e, v1, r1, q1, .inl ⟨rfl, rfl, q2⟩, q3⟩
    · cases h
noncomputable def s28 : OrcS Try.prog := f28.by'
  (fun args st k => match args with
    | [x] => onD x st fun i X => k (.ret (.int .i64 (X.n : Int))) st
    | _ => none)
  fun args st k fin h => by
    split at h
    · rename_i x
      obtain ⟨i, a, b, c, d, X, rfl, h0, h1, h2, h3, hd, g1⟩ := onD_spec h
      have := dk_placed (f := f28) (r := .int .i64 (X.n : Int)) (args0 := [.ptr 2 0]) (xs := []) (X := X) (Y := X) (F := 0) (by rw [List.append_nil]; exact size_run _ _ _ _ _ _) hd.1 ⟨by show 2 < 4; omega, trivial⟩ trivial hd h0 h1 h2 h3
      rw [same_plD hd h0 h1 h2 h3] at this
      exact ⟨_, _, g1, this⟩
    · cases h
theorem pend_can {F : Nat} (X : Dk) : f22.run F [.ptr 2 0] ⟨X.obs, []⟩ = some (.ret (.int .i64 (X.ws.length : Int)), ⟨X.obs, []⟩) := by
  by_cases hws : X.ws = []
  · have e0 : X.wr = .nilsl := by rw [Dk.wr, hws]
    rw [Dk.obs, e0, pend0_run, hws]; rfl
  · rw [Dk.obs, wr_ne hws, pend_run]
noncomputable def s22 : OrcS Try.prog := f22.by'
  (fun args st k => match args with
    | [x] => onD x st fun i X => k (.ret (.int .i64 (X.ws.length : Int))) st
    | _ => none)
  fun args st k fin h => by
    split at h
    · rename_i x
      obtain ⟨i, a, b, c, d, X, rfl, h0, h1, h2, h3, hd, g1⟩ := onD_spec h
      have := dk_placed (f := f22) (r := .int .i64 (X.ws.length : Int)) (args0 := [.ptr 2 0]) (xs := []) (X := X) (Y := X) (F := 0) (by rw [List.append_nil]; exact pend_can _) hd.1 ⟨by show 2 < 4; omega, trivial⟩ trivial hd h0 h1 h2 h3
      rw [same_plD hd h0 h1 h2 h3] at this
      exact ⟨_, _, g1, this⟩
    · cases h

/-! ### Image -/
theorem image_loop {F : Nat} {X : Dk} (h : X.Ok) : ∀ (d m i v : Nat), i + d = X.n → d < m → ∃ v',
    loopRun (f21_l0.run F) [3, 16, 17, 18] (Cont.block 0 (Cont.then (f21_r0.run F (f21.leaveK Fun.done)) (f21.leaveK Fun.done))) m (Env.mk 27 [(3, .vs 4 v 1 (i * 64)), (16, .ms 0 64 0 X.n X.n), (17, .int .i64 (X.n : Int)), (18, .int .i64 (i : Int))]) ⟨[.cells (bC X.ls), .map X.es, .cells [.ms 0 64 0 X.n X.n, .mp 1, X.wr], X.W, .vec v (bC (X.ls.take (i * 64)))], []⟩ =
      some (.ret (.ns false 1 (bR X.ls)), ⟨X.obs ++ [.nov v'], []⟩)
  | d, 0, i, v, hi, hm => by omega
  | 0, m + 1, i, v, hi, hm => by
    obtain rfl : i = X.n := by omega
    have e1 : X.ls.take (X.n * 64) = X.ls := List.take_of_length_le (by rw [h.len]; exact Nat.le_refl _)
    refine ⟨v + 1, ?_⟩
    rw [show m + 1 = m.succ from rfl, image_round, branch_not (by simp), image_out, e1, mulN_one, branch_of (show (v.beq v && inC (bC X.ls) 0 (X.n * 64)) = true by rw [Nat.beq_refl, show inC (bC X.ls) 0 (X.n * 64) = true from inC_bC (by rw [h.len]; omega)]; rfl), rowsC_bC (by rw [h.len]; omega), List.drop_zero, e1]
    rfl
  | d + 1, m + 1, i, v, hi, hm => by
    have h1 : i < X.n := by omega
    have hn := h.n1
    have hsl : ((X.ls.drop (i * 64)).take 64).length = 64 := by simp [h.len]; omega
    have e1 : subC (bC X.ls) (0 + (i : Int).toNat * 64) 64 = bC ((X.ls.drop (i * 64)).take 64) := by rw [subC_bC, Nat.zero_add, Int.toNat_natCast]
    have e2 : rowsC 1 64 (bC ((X.ls.drop (i * 64)).take 64)) 0 = bR ((X.ls.drop (i * 64)).take 64) := by rw [rowsC_bC (by omega), List.drop_zero, List.take_of_length_le (by omega)]
    have e3 : catC (bC (X.ls.take (i * 64))) (i * 64) (bR ((X.ls.drop (i * 64)).take 64)) = bC (X.ls.take ((i + 1) * 64)) := by
      rw [catC, opq_eq, bR_flat, bC_take, List.take_take, Nat.min_self, ← bC_append, Nat.add_mul, Nat.one_mul, List.take_add]
    have w0 : IntKind.i64.wrap ((i : Int) + 1) = ((i + 1 : Nat) : Int) := wrap_succ (by omega)
    obtain ⟨v', ih⟩ := image_loop h d m (i + 1) (v + 1) (by omega) (by omega)
    refine ⟨v', ?_⟩
    rw [show m + 1 = m.succ from rfl, image_round, branch_of (by simp; omega), if_pos ⟨by omega, by omega⟩, branch_of (show inC (bC X.ls) (0 + (i : Int).toNat * 64) 64 = true by rw [inC_iff, bC_length, h.len, Int.toNat_natCast]; omega), e1,
      branch_of (show (bC ((X.ls.drop (i * 64)).take 64)).length.beq 64 = true by rw [bC_length, hsl]; rfl), mulN_one, mulN_one, branch_of (show inC (bC ((X.ls.drop (i * 64)).take 64)) 0 64 = true from inC_bC (by omega)), e2, bR_length, hsl,
      branch_of (show (v.beq v && (inC (bC (X.ls.take (i * 64))) 0 (i * 64) && apOk (i * 64 + 64) 1)) = true by rw [Nat.beq_refl, show inC (bC (X.ls.take (i * 64))) 0 (i * 64) = true from inC_bC (by rw [List.length_take, h.len]; omega), show apOk (i * 64 + 64) 1 = true by rw [apOk_iff]; omega]; rfl), e3, w0, show i * 64 + 64 = (i + 1) * 64 by omega]
    exact ih
theorem image_can {X : Dk} (h : X.Ok) : ∃ v, f21.run (X.n + 1) [.ptr 2 0] ⟨X.obs, []⟩ = some (.ret (.ns false 1 (bR X.ls)), ⟨X.obs ++ [.nov v], []⟩) := by
  have hn := h.n1
  obtain ⟨v, hl⟩ := image_loop (F := X.n + 1) h X.n (X.n + 1) 0 0 (by omega) (by omega)
  refine ⟨v, ?_⟩
  have hw : IntKind.i64.wrap ((X.n : Int) * 64) = (X.n : Int) * 64 := wrapS (by omega) (by omega)
  rw [Dk.obs, image_run, hw, branch_of (show (true && amakeG.mkOkC 1 ((X.n : Int) * 64)) = true by simp [amakeG.mkOkC]; omega)]
  rw [Nat.zero_mul, List.take_zero] at hl
  exact hl
noncomputable def s21 : OrcS Try.prog := f21.by'
  (fun args st k => match args with
    | [x] => onD x st fun i X => k (.ret (.ns false 1 (bR X.ls))) st
    | _ => none)
  fun args st k fin h => by
    split at h
    · rename_i x
      obtain ⟨i, a, b, c, d, X, rfl, h0, h1, h2, h3, hd, g1⟩ := onD_spec h
      obtain ⟨v, hrun⟩ := image_can hd.1
      have := dk_placed (f := f21) (r := .ns false 1 (bR X.ls)) (args0 := [.ptr 2 0]) hrun hd.1 ⟨by show 2 < 4; omega, trivial⟩ (bR_scoped _) hd h0 h1 h2 h3
      rw [same_plD hd h0 h1 h2 h3] at this
      exact ⟨_, _, g1, this⟩
    · cases h
end Go.Proofs.Ytclghabbhpaafaa.V

/- Disk: Load, as a callee. -/
set_option linter.unusedVariables false
namespace Go.Proofs.Ytclghabbhpaafaa.V
open Go Go.V Go.RowKit

def imgAt (n : Nat) (img : List Nat) (i : Nat) : List Nat := img.take (i * 64) ++ List.replicate (n * 64 - (img.take (i * 64)).length) 0
theorem imgAt_length {n i : Nat} {img : List Nat} (h : i ≤ n) : (imgAt n img i).length = n * 64 := by
  rw [imgAt, List.length_append, List.length_replicate, List.length_take]; omega
theorem putN_app (A Z r : List Nat) : putN (A ++ Z) A.length r = A ++ r ++ Z.drop r.length := by
  rw [putN, List.take_left, ← List.drop_drop, List.drop_left]
theorem imgAt_succ {n i : Nat} {img : List Nat} (h : i < n) : putN (imgAt n img i) (i * 64) ((img.drop (i * 64)).take (min (img.drop (i * 64)).length 64)) = imgAt n img (i + 1) := by
  by_cases hl : i * 64 ≤ img.length
  · have h1 : (img.take (i * 64)).length = i * 64 := by rw [List.length_take]; omega
    have e1 : (img.drop (i * 64)).take (min (img.drop (i * 64)).length 64) = (img.drop (i * 64)).take 64 := by
      rcases Nat.le_total (img.drop (i * 64)).length 64 with h' | h'
      · rw [Nat.min_eq_left h', List.take_of_length_le (Nat.le_refl _), List.take_of_length_le h']
      · rw [Nat.min_eq_right h']
    have e2 : img.take ((i + 1) * 64) = img.take (i * 64) ++ (img.drop (i * 64)).take 64 := by rw [Nat.add_mul, Nat.one_mul, List.take_add]
    rw [e1]
    generalize hr : (img.drop (i * 64)).take 64 = r at e2
    have h2 : r.length ≤ 64 := by rw [← hr, List.length_take]; omega
    rw [imgAt, imgAt, e2]
    generalize img.take (i * 64) = A at h1 ⊢
    rw [show i * 64 = A.length from h1.symm, putN_app, List.length_append, List.append_assoc, List.append_assoc, List.drop_replicate]
    congr 3
    omega
  · have h1 : img.drop (i * 64) = [] := List.drop_eq_nil_of_le (by omega)
    rw [h1, List.take_nil, putN_nil, imgAt, imgAt, List.take_of_length_le (by omega), List.take_of_length_le (by omega)]
theorem zer64 (n : Nat) : zerC n (bC (List.replicate 64 0)) = bC (List.replicate (n * 64) 0) := by
  rw [zerC, opq_eq]
  induction n with
  | zero => rfl
  | succ n ih => rw [List.replicate_succ, List.flatten_cons, ih, ← bC_append, List.replicate_append_replicate]; congr 2; omega
theorem load_loop {F : Nat} {n : Nat} (hn : n ≤ 65536) (img : List Nat) (hi : img.length < 4611686018427387904) (z : Bool) : ∀ (d m i : Nat), i + d = n → d < m →
    loopRun (f10_l0.run F) [0, 6, 24, 25] (Cont.block 0 (Cont.then (f10_r0.run F (f10.leaveK Fun.done)) (f10.leaveK Fun.done))) m (Env.mk 42 [(0, .ns z 1 (bR (img.drop (i * 64)))), (6, .ptr 2 0), (24, .int .i64 (n : Int)), (25, .int .i64 (i : Int))]) ⟨[.cells (bC (imgAt n img i)), .map [], .cells [.ms 0 64 0 n n, .mp 1, .nilsl], .nov 0], []⟩ =
      some (.ret (.tup [.ptr 2 0, .int .i64 0]), ⟨[.cells (bC (imgAt n img n)), .map [], .cells [.ms 0 64 0 n n, .mp 1, .nilsl], .nov 0], []⟩)
  | d, 0, i, h, hm => by omega
  | 0, m + 1, i, h, hm => by
    obtain rfl : i = n := by omega
    rw [show m + 1 = m.succ from rfl, load_round, branch_not (by simp), load_out F fun _ _ _ => none]
  | d + 1, m + 1, i, h, hm => by
    have h1 : i < n := by omega
    have ih := load_loop (F := F) hn img hi z d m (i + 1) (by omega) (by omega)
    have hs := imgAt_succ (img := img) h1
    have hil := imgAt_length (img := img) (Nat.le_of_lt h1)
    have e3 : ∀ k : Nat, k = min (img.drop (i * 64)).length 64 → List.drop k (List.take (bR (img.drop (i * 64))).length (bR (img.drop (i * 64)))) = bR (img.drop ((i + 1) * 64)) := by
      intro k hk
      rw [List.take_of_length_le (Nat.le_refl _), bR_drop, List.drop_drop]
      congr 1
      rw [List.length_drop] at hk
      rcases Nat.le_total (img.length - i * 64) 64 with h' | h'
      · rw [List.drop_eq_nil_of_le (by omega), List.drop_eq_nil_of_le (by omega)]
      · congr 1; omega
    have hml : min (img.drop (i * 64)).length 64 ≤ 64 := Nat.min_le_right _ _
    have hml2 : min (img.drop (i * 64)).length 64 ≤ (img.drop (i * 64)).length := Nat.min_le_left _ _
    have w0 : IntKind.i64.wrap ((i : Int) + 1) = ((i + 1 : Nat) : Int) := wrap_succ (by omega)
    rw [show m + 1 = m.succ from rfl, load_round, branch_of (by simp; omega), if_pos ⟨by omega, by omega⟩, minN, opq_eq, mulN_one]
    rw [e3 _ (by rw [Int.toNat_natCast, bR_length]), bR_length]
    generalize hk : min (img.drop (i * 64)).length 64 = k at *
    rw [show 0 + (i : Int).toNat * 64 + 0 = i * 64 by rw [Int.toNat_natCast]; omega, branch_of (show inC (bC (imgAt n img i)) (i * 64) k = true by rw [inC_iff, bC_length, hil]; omega), if_pos ⟨by omega, by omega⟩, flC_bR, setC_bC (by rw [hil, List.length_take]; omega), hs, w0]
    exact ih
/-- A new disk. -/
def Dk.new (n : Nat) (img : List Nat) : Dk := ⟨n, imgAt n img n, [], [], .nov 0, 0⟩
theorem new_ok {n : Nat} {img : List Nat} (hn : n ≤ 65536) (hi : ∀ x ∈ img, x < 256) : (Dk.new n img).Ok where
  n1 := hn
  len := imgAt_length (Nat.le_refl _)
  byte := fun x hx => by
    rcases List.mem_append.mp hx with hx | hx
    · exact hi x (List.mem_of_mem_take hx)
    · rw [List.eq_of_mem_replicate hx]; omega
  ws := fun w hw => by cases hw
  keys := rfl
  esf := fun e he => by cases he
  map := fun k => rfl
  W0 := fun _ => .inr rfl
  W1 := fun e => absurd rfl e
theorem load_can (z : Bool) (l : List (List AV)) (hl : byOk l = true) (n : Nat) (h1 : 1 ≤ n) (hn : n ≤ 65536) : f10.run (n + 1) [.ns z 1 l, .int .i64 (n : Int)] ⟨[], []⟩ = some (.ret (.tup [.ptr 2 0, .int .i64 0]), ⟨(Dk.new n (nR l)).obs, []⟩) := by
  have hok := byOk_iff.mp hl
  rw [load_run, branch_not (by simp; omega), branch_not (by simp; omega), branch_of (by rw [mkOk_iff]; omega), Int.toNat_natCast]
  have := load_loop (F := n + 1) hn (nR l) (by rw [nR_length]; exact hok.2) z n (n + 1) 0 (by omega) (by omega)
  rw [Nat.zero_mul, List.drop_zero, ← okR_rows hok.1] at this
  have e : imgAt n (nR l) 0 = List.replicate (n * 64) 0 := by simp [imgAt]
  rw [e, ← zer64] at this
  exact this
theorem load_bad {F : Nat} (z : Bool) (l : List (List AV)) (n : Int) (h : ¬ (1 ≤ n ∧ n ≤ 65536)) : f10.run F [.ns z 1 l, .int .i64 n] ⟨[], []⟩ = some (.ret (.tup [.nilptr, .int .i64 41]), ⟨[], []⟩) := by
  rw [load_run]
  by_cases h0 : n < 1
  · rw [branch_of (by simpa using h0)]
  · rw [branch_not (by simpa using h0), branch_of (by simp; omega)]
noncomputable def addD (st : St) (X : Dk) : St := ⟨st.objs ++ [dk0 X, dk1 X, dk2 st.objs.length X, dk3 X], st.tk⟩
theorem dk_new {f : Fun Try.prog} {F : Nat} {X : Dk} {args0 : List AV} {r : AV} (hrun : f.run F args0 ⟨[], []⟩ = some (.ret r, ⟨X.obs, []⟩)) (hX : X.Ok) (ha : NearL 0 args0) (hr : Near 4 (frz r)) (st : St) :
    CallsTo Try.prog f.id (renL (fun _ => 0) args0) st (.ret (ren (nx (fun _ => 0) 0 st.objs.length) (frz r)), addD st X) := by
  have n4 : ∀ j, nx (fun _ => 0) 0 st.objs.length j = st.objs.length + j := fun j => by rw [nx, if_neg (by omega)]; omega
  refine placed (f.sound hrun) (Nat.zero_le 4) (by simp [Dk.obs]) ha hr (fun j o hj ho => obs_near hX o (List.mem_of_getElem? ho)) (inv := fun _ => none) ⟨rfl, ⟨fun i hi => (by omega), fun k i h => (by cases h)⟩, fun i o h => (by simp at h), fun o h => (by simp at h)⟩ rfl (by simp [addD]) (fun j o hj ho => ?_) (fun k hk hi => ?_)
  · rw [n4 j, addD]
    simp only
    rw [List.getElem?_append_right (by omega), Nat.add_sub_cancel_left]
    match j, hj, ho with
    | 0, _, ho => cases ho; rw [at0_ren]; simp [dk0, opq_eq]
    | 1, _, ho => cases ho; rw [show renO _ (Ob.map X.es) = X.at1 from hX.ren1 _]; simp [dk1, opq_eq]
    | 2, _, ho => cases ho; rw [at2_ren (i := st.objs.length) (n4 0) (n4 1) (n4 3)]; simp [dk2, opq_eq]
    | 3, _, ho => cases ho; rw [hX.renW]; simp [dk3, opq_eq]
    | j + 4, hj, _ => omega
  · rw [addD]
    simp only
    rw [List.getElem?_append_left hk]
noncomputable def s10 : OrcS Try.prog := f10.by'
  (fun args st k => match args with
    | [y, n] => onNs 1 y fun _ l => onInt n fun kd n => ifT (byOk l && decide (kd = .i64)) (match decide (1 ≤ n) && decide (n ≤ 65536) with
      | true => k (.ret (.tup [.ptr (st.objs.length + 2) 0, .int .i64 0])) (addD st (Dk.new n.toNat (nR l)))
      | false => k (.ret (.tup [.nilptr, .int .i64 41])) st)
    | _ => none)
  fun args st k fin h => by
    split at h
    · rename_i y n
      obtain ⟨z, l, g1, hy⟩ := onNs_spec h
      obtain ⟨kd, n, g2, rfl⟩ := onInt_spec g1
      obtain ⟨hk, g3⟩ := ifT_spec g2
      rw [Bool.and_eq_true, decide_eq_true_eq] at hk
      obtain ⟨hl, rfl⟩ := hk
      have hok := byOk_iff.mp hl
      have wk : ∀ g w vs, RelAll g w [y, .int .i64 n] vs → RelAll g w [.ns z 1 l, .int .i64 n] vs := fun g w vs ⟨v1, r1, e1, k1, k2⟩ => ⟨v1, r1, e1, hy g w v1 k1, k2⟩
      split at g3
      · rename_i hc
        simp only [Bool.and_eq_true, decide_eq_true_eq] at hc
        obtain ⟨m, rfl⟩ := Int.eq_ofNat_of_zero_le (show 0 ≤ n by omega)
        rw [Int.toNat_natCast] at g3
        have := dk_new (f := f10) (r := .tup [.ptr 2 0, .int .i64 0]) (args0 := [.ns z 1 l, .int .i64 (m : Int)]) (load_can z l hl m (by omega) (by omega)) (new_ok (by omega) fun x hx => okR_lt hok.1 hx) ⟨okR_scoped hok.1, trivial, trivial⟩ ⟨by show 2 < 4; omega, trivial, trivial⟩ st
        exact ⟨_, _, g3, calls_wk this wk⟩
      · rename_i hc
        have hbad : ¬ (1 ≤ n ∧ n ≤ 65536) := by
          intro e
          rw [decide_eq_true e.1, decide_eq_true e.2] at hc
          cases hc
        have := framed (f10.sound (load_bad (F := 0) z l n hbad)) ⟨okR_scoped hok.1, trivial, trivial⟩ ⟨trivial, trivial, trivial⟩ st
        exact ⟨_, _, g3, calls_wk this wk⟩
    · cases h
end Go.Proofs.Ytclghabbhpaafaa.V

/- The functions' pieces, as told by gen.py. -/
set_option linter.unusedVariables false
set_option maxRecDepth 20000
namespace Go.Proofs.Ytclghabbhpaafaa.V
open Go Go.V Go.RowKit


/-! ### 12: (*interlock/disk.Disk).Crash (24, 3, 3); results ; slots: 0 d, 1 keep, 2 torn, 3 d, 4 keep, 5 torn -/
noncomputable def f12_b : Sim Try.prog :=
  (.live [] (.region 0 [
    ⟨(opMove (some 6) (.tmp 0) 24 "disk.go:89" #[]).op, none⟩,
    ⟨(opMove (some 7) (.tmp 1) 3 "disk.go:89" #[]).op, none⟩,
    ⟨(opMinMax (some 8) true (.tmp 7) [(.const (Value.int IntKind.i64 0))] #[3, 3] 3 "disk.go:89" #[{ on := 1, ground := Ground.data }]).op, none⟩,
    ⟨(opMove (some 9) (.tmp 0) 24 "disk.go:89" #[]).op, none⟩,
    ⟨(opNilCheck (some 10) (.tmp 9) 0 "disk.go:89" #[{ on := 3, ground := Ground.data }]).op, none⟩,
    ⟨(opFieldAddr (some 11) 58 (.tmp 10) 2 2 1 false fl58_2 (by decide) 0 "disk.go:89" #[{ on := 4, ground := Ground.data }]).op, none⟩,
    ⟨(opLoadT (.one .any) (some 12) 56 (.tmp 11) (.slice 62) Try.underlying56 1 sz56 (by kernel_rfl) 56 "disk.go:89" #[{ on := 5, ground := Ground.data }]).op, none⟩,
    ⟨(opLen (some 13) (.tmp 12) 56 (.slice 62) Try.underlying56 3 "disk.go:89" #[{ on := 6, ground := Ground.data }]).op, none⟩,
    ⟨(opMinMax (some 14) false (.tmp 8) [(.tmp 13)] #[3, 3] 3 "disk.go:89" #[{ on := 2, ground := Ground.data }, { on := 7, ground := Ground.data }]).op, none⟩,
    ⟨(opMove (some 15) (.tmp 2) 3 "disk.go:89" #[]).op, none⟩,
    ⟨(opMinMax (some 16) true (.tmp 15) [(.const (Value.int IntKind.i64 0))] #[3, 3] 3 "disk.go:89" #[{ on := 9, ground := Ground.data }]).op, none⟩,
    ⟨(opMinMax (some 17) false (.tmp 16) [(.const (Value.int IntKind.i64 64))] #[3, 3] 3 "disk.go:89" #[{ on := 10, ground := Ground.data }]).op, none⟩,
    ⟨opCall (s26).orc (some 18) [(.tmp 6), (.tmp 14), (.tmp 17)] #[24, 3, 3] 0 "disk.go:89" #[{ on := 0, ground := Ground.data }, { on := 8, ground := Ground.data }, { on := 11, ground := Ground.data }], none⟩
  ] (by kernel_rfl)))

noncomputable def f12 : Fun Try.prog where
  id := 12
  fn := Try.f12
  hf := Try.func12
  hname := by kernel_rfl
  body := f12_b
  hbody := by kernel_rfl
  res := []
  hres := by kernel_rfl
  n := 19
  hn := by kernel_rfl

/-! ### 16: (*interlock/disk.Disk).Flush (24); results ; slots: 0 d, 1 d -/
noncomputable def f16_b : Sim Try.prog :=
  (.live [] (.region 0 [
    ⟨(opMove (some 2) (.tmp 0) 24 "disk.go:85" #[]).op, none⟩,
    ⟨(opMove (some 3) (.tmp 0) 24 "disk.go:85" #[]).op, none⟩,
    ⟨(opNilCheck (some 4) (.tmp 3) 0 "disk.go:85" #[{ on := 1, ground := Ground.data }]).op, none⟩,
    ⟨(opFieldAddr (some 5) 58 (.tmp 4) 2 2 1 false fl58_2 (by decide) 0 "disk.go:85" #[{ on := 2, ground := Ground.data }]).op, none⟩,
    ⟨(opLoadT (.one .any) (some 6) 56 (.tmp 5) (.slice 62) Try.underlying56 1 sz56 (by kernel_rfl) 56 "disk.go:85" #[{ on := 3, ground := Ground.data }]).op, none⟩,
    ⟨(opLen (some 7) (.tmp 6) 56 (.slice 62) Try.underlying56 3 "disk.go:85" #[{ on := 4, ground := Ground.data }]).op, none⟩,
    ⟨opCall (s26).orc (some 8) [(.tmp 2), (.tmp 7), (.const (Value.int IntKind.i64 0))] #[24, 3, 3] 0 "disk.go:85" #[{ on := 0, ground := Ground.data }, { on := 5, ground := Ground.data }], none⟩
  ] (by kernel_rfl)))

noncomputable def f16 : Fun Try.prog where
  id := 16
  fn := Try.f16
  hf := Try.func16
  hname := by kernel_rfl
  body := f16_b
  hbody := by kernel_rfl
  res := []
  hres := by kernel_rfl
  n := 9
  hn := by kernel_rfl

/-! ### 15: interlock/disk.New (3); results 2, 3; slots: 0 sectors, 1 sectors -/
noncomputable def f15_b : Sim Try.prog :=
  (.seq (.live [0] (.region 0 [
    ⟨(opAssign (some 2) (.const (Value.pointer none)) 24 "disk.go:27" #[]).op, none⟩,
    ⟨(opAssign (some 3) (.const (Value.int IntKind.i64 0)) 25 "disk.go:27" #[{ on := 0, ground := Ground.chain }]).op, none⟩
  ] (by kernel_rfl)))
  (.seq (.live [2, 3] (.region 1 [
    ⟨(opMove (some 4) (.tmp 0) 3 "disk.go:27" #[]).op, none⟩,
    ⟨opCall (s10).orc (some 5) [(.const (Value.slice none 0 0)), (.tmp 4)] #[22, 3] 26 "disk.go:27" #[{ on := 0, ground := Ground.data }], none⟩,
    ⟨(opExtract (some 6) (.tmp 5) 0 24 "disk.go:27" #[{ on := 1, ground := Ground.data }]).op, none⟩,
    ⟨(opExtract (some 7) (.tmp 5) 1 25 "disk.go:27" #[{ on := 1, ground := Ground.data }]).op, none⟩,
    ⟨(opAssign (some 2) (.tmp 6) 24 "disk.go:27" #[{ on := 2, ground := Ground.data }, { on := 1, ground := Ground.chain }, { on := 0, ground := Ground.phase }, { on := 1, ground := Ground.phase }, { on := 2, ground := Ground.phase }, { on := 3, ground := Ground.phase }]).op, none⟩,
    ⟨(opAssign (some 3) (.tmp 7) 25 "disk.go:27" #[{ on := 3, ground := Ground.data }, { on := 4, ground := Ground.chain }, { on := 0, ground := Ground.phase }, { on := 1, ground := Ground.phase }, { on := 2, ground := Ground.phase }, { on := 3, ground := Ground.phase }, { on := 4, ground := Ground.phase }]).op, none⟩
  ] (by kernel_rfl)))
  (.live [2, 3] .ret)))

noncomputable def f15 : Fun Try.prog where
  id := 15
  fn := Try.f15
  hf := Try.func15
  hname := by kernel_rfl
  body := f15_b
  hbody := by kernel_rfl
  res := [rTmp 2, rTmp 3]
  hres := by kernel_rfl
  n := 8
  hn := by kernel_rfl

end Go.Proofs.Ytclghabbhpaafaa.V

/- What the functions' runs come to; the right sides were printed by a tool, Lean checks them. -/
set_option linter.unusedVariables false
set_option maxRecDepth 100000
namespace Go.Proofs.Ytclghabbhpaafaa.V
open Go Go.V Go.RowKit

theorem crash0_run (F N : Nat) (keep torn : Int) (ls : List AV) (es : List (AV × AV)) (W : Ob) :
    (f12.run F [.ptr 2 0, .int .i64 keep, .int .i64 torn] ⟨[.cells ls, .map es, .cells [.ms 0 64 0 N N, .mp 1, .nilsl], W], []⟩ : Ans) =
    onSome
      (dkG 0 (Ob.cells ls) (Ob.map es)
        (Ob.cells [AV.ms 0 64 0 N N, AV.mp 1, AV.nilsl]) W)
      none fun (o : Dk) =>
      branch
        (AV.bool
          (true &&
            (true &&
              (decide
                  ((0 : Int) ≤ leastI false (leastI true keep (0 : Int)) (0 : Int) ∧
                    leastI false (leastI true keep (0 : Int)) (0 : Int) ≤ (↑o.ws.length : Int)) &&
                decide
                  ((0 : Int) ≤ leastI false (leastI true torn (0 : Int)) (64 : Int) ∧
                    leastI false (leastI true torn (0 : Int)) (64 : Int) ≤ (64 : Int))))))
        (some
          (Fin.ret (AV.tup []),
            St.mk
              [dk0
                  (o.settle (leastI false (leastI true keep (0 : Int)) (0 : Int)).toNat
                    (leastI false (leastI true torn (0 : Int)) (64 : Int)).toNat),
                dk1
                  (o.settle (leastI false (leastI true keep (0 : Int)) (0 : Int)).toNat
                    (leastI false (leastI true torn (0 : Int)) (64 : Int)).toNat),
                dk2 0
                  (o.settle (leastI false (leastI true keep (0 : Int)) (0 : Int)).toNat
                    (leastI false (leastI true torn (0 : Int)) (64 : Int)).toNat),
                dk3
                  (o.settle (leastI false (leastI true keep (0 : Int)) (0 : Int)).toNat
                    (leastI false (leastI true torn (0 : Int)) (64 : Int)).toNat)]
              []))
        none := by kernel_rfl

theorem crash_run (F N v n : Nat) (keep torn : Int) (ls : List AV) (es : List (AV × AV)) (W : Ob) :
    (f12.run F [.ptr 2 0, .int .i64 keep, .int .i64 torn] ⟨[.cells ls, .map es, .cells [.ms 0 64 0 N N, .mp 1, .vs 3 v 65 n], W], []⟩ : Ans) =
    onSome
      (dkG 0 (Ob.cells ls) (Ob.map es)
        (Ob.cells [AV.ms 0 64 0 N N, AV.mp 1, AV.vs 3 v 65 n]) W)
      none fun (o : Dk) =>
      branch
        (AV.bool
          (true &&
            (true &&
              (decide
                  ((0 : Int) ≤ leastI false (leastI true keep (0 : Int)) (↑n : Int) ∧
                    leastI false (leastI true keep (0 : Int)) (↑n : Int) ≤ (↑o.ws.length : Int)) &&
                decide
                  ((0 : Int) ≤ leastI false (leastI true torn (0 : Int)) (64 : Int) ∧
                    leastI false (leastI true torn (0 : Int)) (64 : Int) ≤ (64 : Int))))))
        (some
          (Fin.ret (AV.tup []),
            St.mk
              [dk0
                  (o.settle (leastI false (leastI true keep (0 : Int)) (↑n : Int)).toNat
                    (leastI false (leastI true torn (0 : Int)) (64 : Int)).toNat),
                dk1
                  (o.settle (leastI false (leastI true keep (0 : Int)) (↑n : Int)).toNat
                    (leastI false (leastI true torn (0 : Int)) (64 : Int)).toNat),
                dk2 0
                  (o.settle (leastI false (leastI true keep (0 : Int)) (↑n : Int)).toNat
                    (leastI false (leastI true torn (0 : Int)) (64 : Int)).toNat),
                dk3
                  (o.settle (leastI false (leastI true keep (0 : Int)) (↑n : Int)).toNat
                    (leastI false (leastI true torn (0 : Int)) (64 : Int)).toNat)]
              []))
        none := by kernel_rfl

theorem flush0_run (F N : Nat) (ls : List AV) (es : List (AV × AV)) (W : Ob) :
    (f16.run F [.ptr 2 0] ⟨[.cells ls, .map es, .cells [.ms 0 64 0 N N, .mp 1, .nilsl], W], []⟩ : Ans) =
    onSome
      (dkG 0 (Ob.cells ls) (Ob.map es)
        (Ob.cells [AV.ms 0 64 0 N N, AV.mp 1, AV.nilsl]) W)
      none fun (o : Dk) =>
      some
        (Fin.ret (AV.tup []),
          St.mk
            [dk0 (o.settle (Int.toNat (0 : Int)) (Int.toNat (0 : Int))),
              dk1 (o.settle (Int.toNat (0 : Int)) (Int.toNat (0 : Int))),
              dk2 0 (o.settle (Int.toNat (0 : Int)) (Int.toNat (0 : Int))),
              dk3 (o.settle (Int.toNat (0 : Int)) (Int.toNat (0 : Int)))]
            []) := by kernel_rfl

theorem flush_run (F N v n : Nat) (ls : List AV) (es : List (AV × AV)) (W : Ob) :
    (f16.run F [.ptr 2 0] ⟨[.cells ls, .map es, .cells [.ms 0 64 0 N N, .mp 1, .vs 3 v 65 n], W], []⟩ : Ans) =
    onSome
      (dkG 0 (Ob.cells ls) (Ob.map es)
        (Ob.cells [AV.ms 0 64 0 N N, AV.mp 1, AV.vs 3 v 65 n]) W)
      none fun (o : Dk) =>
      branch (AV.bool (true && (true && (decide ((0 : Int) ≤ (↑n : Int) ∧ (↑n : Int) ≤ (↑o.ws.length : Int)) && true))))
        (some
          (Fin.ret (AV.tup []),
            St.mk
              [dk0 (o.settle (↑n : Int).toNat (Int.toNat (0 : Int))), dk1 (o.settle (↑n : Int).toNat (Int.toNat (0 : Int))),
                dk2 0 (o.settle (↑n : Int).toNat (Int.toNat (0 : Int))),
                dk3 (o.settle (↑n : Int).toNat (Int.toNat (0 : Int)))]
              []))
        none := by kernel_rfl

theorem new_run (F : Nat) (n : Int) :
    (f15.run F [.int .i64 n] ⟨[], []⟩ : Ans) =
    branch (AV.bool (byOk [] && true))
      (branch (AV.bool (decide ((1 : Int) ≤ n) && decide (n ≤ (65536 : Int))))
        (some
          (Fin.ret (AV.tup [AV.ptr 2 0, AV.int IntKind.i64 (0 : Int)]),
            St.mk
              [dk0 (Dk.new n.toNat (nR [])), dk1 (Dk.new n.toNat (nR [])), dk2 0 (Dk.new n.toNat (nR [])),
                dk3 (Dk.new n.toNat (nR []))]
              []))
        (some (Fin.ret (AV.tup [AV.nilptr, AV.int IntKind.i64 (41 : Int)]), St.mk [] [])))
      none := by kernel_rfl

end Go.Proofs.Ytclghabbhpaafaa.V

/- Disk: crashes, as callees. -/
set_option linter.unusedVariables false
namespace Go.Proofs.Ytclghabbhpaafaa.V
open Go Go.V Go.RowKit

theorem wr_at0 (Y : Dk) : Y.wrAt 0 = Y.wr := by
  by_cases hws : Y.ws = []
  · rw [wrAt_nil hws, Dk.wr, hws]
  · rw [wrAt_ne hws, wr_ne hws]
theorem obs_dk (Y : Dk) : [dk0 Y, dk1 Y, dk2 0 Y, dk3 Y] = Y.obs := by
  have := wr_at0 Y
  rw [dk0, opq_eq, dk1, opq_eq, dk2, opq_eq, dk3, opq_eq, Dk.at2, this]; rfl
theorem isD_obs {X : Dk} (h : X.Ok) (hw : X.ws.length < 999999) {wr : AV} (e : X.wr = wr) : isD 0 (.cells (bC X.ls)) (.map X.es) (.cells [.ms 0 64 0 X.n X.n, .mp 1, wr]) X.W X := by
  have := wr_at0 X
  refine ⟨h, hw, rfl, rfl, ?_, rfl⟩
  rw [Dk.at2, this, e]
/-- How many writes a crash keeps, how many bytes. -/
def clip (k m : Int) : Int := leastI false (leastI true k 0) m
theorem clip_eq (k m : Int) (hm : 0 ≤ m) : clip k m = if k ≤ 0 then 0 else if k ≤ m then k else m := by
  simp only [clip, leastI]
  split <;> split <;> simp_all <;> omega
theorem clip_ok (k m : Int) (hm : 0 ≤ m) : 0 ≤ clip k m ∧ clip k m ≤ m := by
  rw [clip_eq k m hm]; split
  · omega
  · split <;> omega
def Dk.crash (X : Dk) (k t : Int) : Dk := X.settle (clip k X.ws.length).toNat (clip t 64).toNat
theorem crash_can {F : Nat} {X : Dk} (h : X.Ok) (hw : X.ws.length < 999999) (k t : Int) : f12.run F [.ptr 2 0, .int .i64 k, .int .i64 t] ⟨X.obs, []⟩ = some (.ret (.tup []), ⟨(X.crash k t).obs, []⟩) := by
  obtain ⟨k1, k2⟩ := clip_ok k X.ws.length (by omega)
  obtain ⟨t1, t2⟩ := clip_ok t 64 (by omega)
  by_cases hws : X.ws = []
  · have e0 : X.wr = .nilsl := by rw [Dk.wr, hws]
    have hd := isD_obs h hw e0
    have hv : dkG (nat_lit 0) (.cells (bC X.ls)) (.map X.es) (.cells [.ms 0 64 0 X.n X.n, .mp 1, .nilsl]) X.W = some X := dkG_of hd
    have hl : X.ws.length = 0 := by rw [hws]; rfl
    rw [Dk.obs, e0, crash0_run, hv, onSome_some, obs_dk, Dk.crash]
    rw [hl] at k1 k2 ⊢
    exact branch_of (by
      show (true && (true && (decide (0 ≤ clip k 0 ∧ clip k 0 ≤ ((0 : Nat) : Int)) && decide (0 ≤ clip t 64 ∧ clip t 64 ≤ 64)))) = true
      simp only [Bool.true_and, Bool.and_eq_true, decide_eq_true_eq]
      exact ⟨⟨k1, k2⟩, t1, t2⟩)
  · have e0 := wr_ne hws
    have hd := isD_obs h hw e0
    have hv : dkG (nat_lit 0) (.cells (bC X.ls)) (.map X.es) (.cells [.ms 0 64 0 X.n X.n, .mp 1, .vs 3 X.v 65 X.ws.length]) X.W = some X := dkG_of hd
    rw [Dk.obs, e0, crash_run, hv, onSome_some, obs_dk, Dk.crash]
    exact branch_of (by
      show (true && (true && (decide (0 ≤ clip k X.ws.length ∧ clip k X.ws.length ≤ (X.ws.length : Int)) && decide (0 ≤ clip t 64 ∧ clip t 64 ≤ 64)))) = true
      simp only [Bool.true_and, Bool.and_eq_true, decide_eq_true_eq]
      exact ⟨⟨k1, k2⟩, t1, t2⟩)
def Dk.flush (X : Dk) : Dk := X.settle X.ws.length 0
theorem flush_can {F : Nat} {X : Dk} (h : X.Ok) (hw : X.ws.length < 999999) : f16.run F [.ptr 2 0] ⟨X.obs, []⟩ = some (.ret (.tup []), ⟨X.flush.obs, []⟩) := by
  by_cases hws : X.ws = []
  · have e0 : X.wr = .nilsl := by rw [Dk.wr, hws]
    have hd := isD_obs h hw e0
    have hv : dkG (nat_lit 0) (.cells (bC X.ls)) (.map X.es) (.cells [.ms 0 64 0 X.n X.n, .mp 1, .nilsl]) X.W = some X := dkG_of hd
    have hl : X.ws.length = 0 := by rw [hws]; rfl
    rw [Dk.obs, e0, flush0_run, hv, onSome_some, obs_dk, Dk.flush, hl]
    rfl
  · have e0 := wr_ne hws
    have hd := isD_obs h hw e0
    have hv : dkG (nat_lit 0) (.cells (bC X.ls)) (.map X.es) (.cells [.ms 0 64 0 X.n X.n, .mp 1, .vs 3 X.v 65 X.ws.length]) X.W = some X := dkG_of hd
    rw [Dk.obs, e0, flush_run, hv, onSome_some, obs_dk, Dk.flush]
    exact branch_of (by simp)
noncomputable def s12 : OrcS Try.prog := f12.by'
  (fun args st k => match args with
    | [x, n, y] => onD x st fun i X => onInt n fun kd n => onInt y fun kd' t => ifT (decide (kd = .i64) && decide (kd' = .i64)) (k (.ret (.tup [])) (plD st i (X.crash n t)))
    | _ => none)
  fun args st k fin h => by
    split at h
    · rename_i x n y
      obtain ⟨i, a, b, c, d, X, rfl, h0, h1, h2, h3, hd, g1⟩ := onD_spec h
      obtain ⟨kd, n, g2, rfl⟩ := onInt_spec g1
      obtain ⟨kd', t, g3, rfl⟩ := onInt_spec g2
      obtain ⟨hk, g4⟩ := ifT_spec g3
      simp only [Bool.and_eq_true, decide_eq_true_eq] at hk
      obtain ⟨rfl, rfl⟩ := hk
      have hrun := crash_can (F := 0) hd.1 hd.2.1 n t
      have := dk_placed (f := f12) (F := 0) (r := .tup []) (args0 := [.ptr 2 0, .int .i64 n, .int .i64 t]) (xs := []) (by rw [List.append_nil]; exact hrun) (hd.1.settle _ _) ⟨by show 2 < 4; omega, trivial, trivial, trivial⟩ trivial hd h0 h1 h2 h3
      exact ⟨_, _, g4, this⟩
    · cases h
noncomputable def s16 : OrcS Try.prog := f16.by'
  (fun args st k => match args with
    | [x] => onD x st fun i X => k (.ret (.tup [])) (plD st i X.flush)
    | _ => none)
  fun args st k fin h => by
    split at h
    · rename_i x
      obtain ⟨i, a, b, c, d, X, rfl, h0, h1, h2, h3, hd, g1⟩ := onD_spec h
      have hrun := flush_can (F := 0) hd.1 hd.2.1
      have := dk_placed (f := f16) (F := 0) (r := .tup []) (args0 := [.ptr 2 0]) (xs := []) (by rw [List.append_nil]; exact hrun) (hd.1.settle _ _) ⟨by show 2 < 4; omega, trivial⟩ trivial hd h0 h1 h2 h3
      exact ⟨_, _, g1, this⟩
    · cases h
end Go.Proofs.Ytclghabbhpaafaa.V

/- Disk: bytes compared and copied, as callees. -/
set_option linter.unusedVariables false
namespace Go.Proofs.Ytclghabbhpaafaa.V
open Go Go.V Go.RowKit

/-! ### Bytes, compared -/
theorem same_loop (F : Nat) (z y : Bool) (l r : List (List AV)) (hl : byOk l = true) (hr : byOk r = true) (hlen : l.length = r.length) (st : St) : ∀ (k n i : Nat), l.length - i = k → i ≤ l.length → k < n →
    loopRun (f17_l0.run F) [0, 1, 5] (Cont.block 0 (Cont.then (f17_r0.run F (f17.leaveK Fun.done)) (f17.leaveK Fun.done))) n (Env.mk 26 [(0, .ns z 1 l), (1, .ns y 1 r), (5, .int .i64 (i : Int))]) st
      = some (.ret (.bool ((nR l).drop i == (nR r).drop i)), st)
  | k, 0, i, hk, hi, hn => by omega
  | 0, n + 1, i, hk, hi, hn => by
    rw [show n + 1 = n.succ from rfl, same_round, branch_not (by simp; omega), same_out]
    rw [List.drop_eq_nil_of_le (by rw [nR_length]; omega), List.drop_eq_nil_of_le (by rw [nR_length]; omega)]
    rfl
  | k + 1, n + 1, i, hk, hi, hn => by
    rw [byOk_iff] at hl hr
    have h1 : i < l.length := by omega
    have h2 : i < r.length := by omega
    obtain ⟨l1, l2⟩ := okR_at hl.1 h1
    obtain ⟨r1, r2⟩ := okR_at hr.1 h2
    rw [show n + 1 = n.succ from rfl, same_round, branch_of (by simp; omega), branch_of (inR_nat h1), branch_of l1, branch_of (inR_nat h2), branch_of r1, l2, r2]
    rw [beq_drop (by rw [nR_length]; exact h1) (by rw [nR_length]; exact h2)]
    by_cases hb : (nR l)[i]'(by rw [nR_length]; exact h1) = (nR r)[i]'(by rw [nR_length]; exact h2)
    · rw [branch_not (by rw [hb]; simp), wrap_succ (by omega), same_loop F z y l r (byOk_iff.mpr hl) (byOk_iff.mpr hr) hlen st k n (i + 1) (by omega) (by omega) (by omega), hb]
      simp
    · rw [branch_of (by simpa using fun e => hb (Int.ofNat.inj e)), same_ret]
      simp [hb]
theorem same_all (z y : Bool) (l r : List (List AV)) (hl : byOk l = true) (hr : byOk r = true) (st : St) : f17.run (l.length + 1) [.ns z 1 l, .ns y 1 r] st = some (.ret (.bool (nR l == nR r)), st) := by
  rw [same_run]
  by_cases h : l.length = r.length
  · rw [branch_not (by simp [h])]
    exact same_loop _ z y l r hl hr h st l.length _ 0 (by omega) (by omega) (by omega)
  · rw [branch_of (by simp; omega)]
    have : (nR l == nR r) = false := by
      simp only [beq_eq_false_iff_ne, ne_eq]
      intro e
      exact h (by rw [← nR_length l, ← nR_length r, e])
    rw [this]
noncomputable def p17 : POrc Try.prog := f17.farN
  (fun args k => match args with
    | [x, y] => onNs 1 x fun _ l => onNs 1 y fun _ r => ifT (byOk l && byOk r) (k (.bool (nR l == nR r)))
    | _ => none)
  fun args k fin h => by
    split at h
    · rename_i x y
      obtain ⟨z, l, h, hx⟩ := onNs_spec h
      obtain ⟨z', r, h, hy⟩ := onNs_spec h
      obtain ⟨h1, h⟩ := ifT_spec h
      simp only [Bool.and_eq_true] at h1
      exact ⟨_, _, h, .cons hx (.cons hy .nil), ⟨okR_scoped (byOk_iff.mp h1.1).1, okR_scoped (byOk_iff.mp h1.2).1, trivial⟩, trivial, _, .bool _, ⟨[], []⟩, rfl, same_all z z' l r h1.1 h1.2 _⟩
    · cases h
theorem p17_nat : p17.Nat := by
  intro args k
  show (match args with | [x, y] => _ | _ => _) = thenA (match args with | [x, y] => _ | _ => _) k
  split
  · exact onNs_nat fun _ _ => onNs_nat fun _ _ => ifT_nat rfl
  · rfl

noncomputable def p18 : POrc Try.prog := f18.farN
  (fun args k => match args with
    | [x] => onNs 1 x fun _ l => ifT (byOk l && apOk l.length 1) (k (.sl 1 false l))
    | _ => none)
  fun args k fin h => by
    split at h
    · rename_i x
      obtain ⟨z, l, h, hx⟩ := onNs_spec h
      obtain ⟨h1, h⟩ := ifT_spec h
      simp only [Bool.and_eq_true] at h1
      have hs := okR_scoped (n := 0) (m := 0) (byOk_iff.mp h1.1).1
      exact ⟨_, _, h, .cons hx .nil, ⟨hs, trivial⟩, hs, 0, _, _, hard_id _ _ hs, (copy_run 0 z l _).trans (branch_of (by simpa using h1.2))⟩
    · cases h
theorem p18_nat : p18.Nat := by
  intro args k
  show (match args with | [x] => _ | _ => _) = thenA (match args with | [x] => _ | _ => _) k
  split
  · exact onNs_nat fun _ _ => ifT_nat rfl
  · rfl
end Go.Proofs.Ytclghabbhpaafaa.V

/- The functions' pieces, as told by gen.py. -/
set_option linter.unusedVariables false
set_option maxRecDepth 20000
namespace Go.Proofs.Ytclghabbhpaafaa.V
open Go Go.V Go.RowKit

theorem sz38 : (Try.prog.info? 38).map (·.size) = some 4 := by kernel_rfl
theorem fl38_3 : fieldB Try.prog 38 3 3 1 false = true := by kernel_rfl
theorem sz22 : (Try.prog.info? 22).map (·.size) = some 1 := by kernel_rfl

/-! ### 9: interlock/interlocklaw02.alive (); results 0; slots: 1 d, 2 e, 3 one, 4 two, 5 i, 6 b -/
/-- A loop's round; at its head live: 1 d, 3 one, 4 two, 5 i -/
noncomputable def f9_l0 : Sim Try.prog :=
  (.seq (.seq (.live [1, 3, 4, 5, 20] (.region 7 [
    ⟨(opMove (some 19) (.tmp 5) 3 "law.go:25" #[]).op, none⟩,
    ⟨(opBin (some 20) .lss 3 (.tmp 19) (.const (Value.int IntKind.i64 64)) 3 4 "law.go:25" #[{ on := 0, ground := Ground.data }]).op, none⟩
  ] (by kernel_rfl)))
  (.cond (.tmp 20)
    .skip
    (.live [1, 3, 4] (.exit 0))))
  (.seq (.block 1 (.seq (.live [1, 3, 4, 5] (.region 9 [
      ⟨(opMove (some 23) (.tmp 3) 22 "law.go:26" #[]).op, none⟩,
      ⟨(opMove (some 24) (.tmp 5) 3 "law.go:26" #[]).op, none⟩,
      ⟨(opIndexAddrT (some 25) 22 (.tmp 23) (.tmp 24) 5 1 Try.underlying22 sz5 0 "law.go:26" #[{ on := 0, ground := Ground.data }, { on := 1, ground := Ground.data }, { on := 0, ground := Ground.phase }, { on := 1, ground := Ground.phase }]).op, none⟩,
      ⟨(opStoreC none 5 (.tmp 25) (.const (Value.int IntKind.u8 1)) 1 sz5 0 "law.go:26" #[{ on := 2, ground := Ground.data }, { on := 0, ground := Ground.phase }, { on := 1, ground := Ground.phase }]).op, none⟩
    ] (by kernel_rfl)))
    (.live [1, 3, 4, 5] (.region 10 [
      ⟨(opMove (some 26) (.tmp 4) 22 "law.go:27" #[]).op, none⟩,
      ⟨(opMove (some 27) (.tmp 5) 3 "law.go:27" #[]).op, none⟩,
      ⟨(opIndexAddrT (some 28) 22 (.tmp 26) (.tmp 27) 5 1 Try.underlying22 sz5 0 "law.go:27" #[{ on := 0, ground := Ground.data }, { on := 1, ground := Ground.data }, { on := 0, ground := Ground.phase }, { on := 1, ground := Ground.phase }]).op, none⟩,
      ⟨(opStoreC none 5 (.tmp 28) (.const (Value.int IntKind.u8 2)) 1 sz5 0 "law.go:27" #[{ on := 2, ground := Ground.data }, { on := 0, ground := Ground.phase }, { on := 1, ground := Ground.phase }]).op, none⟩
    ] (by kernel_rfl)))))
  (.live [1, 3, 4, 5] (.region 8 [
    ⟨(opMove (some 21) (.tmp 5) 3 "law.go:25" #[]).op, none⟩,
    ⟨(opBin (some 22) .add 3 (.tmp 21) (.const (Value.int IntKind.i64 1)) 3 3 "law.go:25" #[{ on := 0, ground := Ground.data }]).op, none⟩,
    ⟨(opAssign (some 5) (.tmp 22) 3 "law.go:25" #[{ on := 1, ground := Ground.data }, { on := 0, ground := Ground.phase }, { on := 1, ground := Ground.phase }]).op, none⟩
  ] (by kernel_rfl)))))

/-- What follows a loop. -/
noncomputable def f9_r0 : Sim Try.prog :=
  (.seq (.seq (.live [1, 43] (.region 11 [
    ⟨(opMove (some 29) (.tmp 1) 24 "law.go:29" #[]).op, none⟩,
    ⟨(opMoveZ (some 30) (.tmp 3) 22 "law.go:29" #[]).op, none⟩,
    ⟨opCall (s11).orc (some 31) [(.tmp 29), (.const (Value.int IntKind.i64 3)), (.tmp 30)] #[24, 3, 22] 25 "law.go:29" #[{ on := 0, ground := Ground.data }, { on := 1, ground := Ground.data }], none⟩,
    ⟨(opBin (some 32) .neq 25 (.tmp 31) (.const (Value.int IntKind.i64 0)) 25 4 "law.go:29" #[{ on := 2, ground := Ground.data }]).op, none⟩,
    ⟨(opMove (some 33) (.tmp 32) 4 "law.go:29" #[{ on := 3, ground := Ground.data }, { on := 2, ground := Ground.chain }]).op, none⟩,
    ⟨(opMove (some 34) (.tmp 1) 24 "law.go:29" #[{ on := 4, ground := Ground.guard }]).op, (some (4, 33, false))⟩,
    ⟨(opMoveZ (some 35) (.tmp 4) 22 "law.go:29" #[{ on := 4, ground := Ground.guard }]).op, (some (4, 33, false))⟩,
    ⟨opCall (s11).orc (some 36) [(.tmp 34), (.const (Value.int IntKind.i64 3)), (.tmp 35)] #[24, 3, 22] 25 "law.go:29" #[{ on := 5, ground := Ground.data }, { on := 6, ground := Ground.data }, { on := 4, ground := Ground.chain }, { on := 4, ground := Ground.guard }], (some (4, 33, false))⟩,
    ⟨(opBin (some 37) .neq 25 (.tmp 36) (.const (Value.int IntKind.i64 0)) 25 4 "law.go:29" #[{ on := 7, ground := Ground.data }, { on := 4, ground := Ground.guard }]).op, (some (4, 33, false))⟩,
    ⟨(opPick (some 38) (.tmp 33) (.const (Value.bool true)) (.tmp 37) 4 "law.go:29" #[{ on := 4, ground := Ground.data }, { on := 8, ground := Ground.data }]).op, none⟩,
    ⟨(opMove (some 39) (.tmp 38) 4 "law.go:29" #[{ on := 9, ground := Ground.data }, { on := 7, ground := Ground.chain }]).op, none⟩,
    ⟨(opMove (some 40) (.tmp 1) 24 "law.go:29" #[{ on := 10, ground := Ground.guard }]).op, (some (10, 39, false))⟩,
    ⟨opCall (s22).orc (some 41) [(.tmp 40)] #[24] 3 "law.go:29" #[{ on := 11, ground := Ground.data }, { on := 10, ground := Ground.chain }, { on := 10, ground := Ground.guard }], (some (10, 39, false))⟩,
    ⟨(opBin (some 42) .neq 3 (.tmp 41) (.const (Value.int IntKind.i64 2)) 3 4 "law.go:29" #[{ on := 12, ground := Ground.data }, { on := 10, ground := Ground.guard }]).op, (some (10, 39, false))⟩,
    ⟨(opPick (some 43) (.tmp 39) (.const (Value.bool true)) (.tmp 42) 4 "law.go:29" #[{ on := 10, ground := Ground.data }, { on := 13, ground := Ground.data }]).op, none⟩
  ] (by kernel_rfl)))
  (.cond (.tmp 43)
    (.seq (.live [0] (.region 12 [
      ⟨(opAssign (some 0) (.const (Value.bool false)) 4 "law.go:30" #[]).op, none⟩
    ] (by kernel_rfl)))
    (.live [0] .ret))
    .skip))
  (.seq (.live [1] (.region 13 [
    ⟨(opMove (some 44) (.tmp 1) 24 "law.go:32" #[]).op, none⟩,
    ⟨opCall (s12).orc (some 45) [(.tmp 44), (.const (Value.int IntKind.i64 1)), (.const (Value.int IntKind.i64 2))] #[24, 3, 3] 0 "law.go:32" #[{ on := 0, ground := Ground.data }], none⟩
  ] (by kernel_rfl)))
  (.seq (.live [1, 2, 6] (.region 14 [
    ⟨(opMove (some 47) (.tmp 1) 24 "law.go:33" #[]).op, none⟩,
    ⟨opCall (s13).orc (some 48) [(.tmp 47), (.const (Value.int IntKind.i64 3))] #[24, 3] 30 "law.go:33" #[{ on := 0, ground := Ground.data }], none⟩,
    ⟨(opMove (some 46) (.tmp 48) 30 "law.go:33" #[{ on := 1, ground := Ground.data }]).op, none⟩,
    ⟨(opExtract (some 49) (.tmp 46) 0 22 "law.go:33" #[{ on := 2, ground := Ground.data }]).op, none⟩,
    ⟨(opExtract (some 50) (.tmp 46) 1 25 "law.go:33" #[{ on := 2, ground := Ground.data }, { on := 5, ground := (Ground.gcOnly Departure.lateStores) }]).op, none⟩,
    ⟨(opAssign (some 6) (.tmp 49) 22 "law.go:33" #[{ on := 3, ground := Ground.data }, { on := 1, ground := Ground.chain }, { on := 0, ground := Ground.phase }, { on := 1, ground := Ground.phase }, { on := 2, ground := Ground.phase }, { on := 3, ground := Ground.phase }, { on := 4, ground := (Ground.textOnly Departure.lateStores) }]).op, none⟩,
    ⟨(opAssign (some 2) (.tmp 50) 25 "law.go:33" #[{ on := 4, ground := Ground.data }, { on := 5, ground := Ground.chain }, { on := 0, ground := Ground.phase }, { on := 1, ground := Ground.phase }, { on := 2, ground := Ground.phase }, { on := 3, ground := Ground.phase }, { on := 4, ground := Ground.phase }, { on := 5, ground := Ground.phase }]).op, none⟩
  ] (by kernel_rfl)))
  (.seq (.live [0] (.region 15 [
    ⟨(opMove (some 51) (.tmp 2) 25 "law.go:34" #[]).op, none⟩,
    ⟨(opBin (some 52) .eql 25 (.tmp 51) (.const (Value.int IntKind.i64 0)) 25 4 "law.go:34" #[{ on := 0, ground := Ground.data }]).op, none⟩,
    ⟨(opMove (some 53) (.tmp 52) 4 "law.go:34" #[{ on := 1, ground := Ground.data }]).op, none⟩,
    ⟨(opMove (some 54) (.tmp 6) 22 "law.go:34" #[{ on := 2, ground := Ground.guard }]).op, (some (2, 53, true))⟩,
    ⟨(opLen (some 55) (.tmp 54) 22 (.slice 5) Try.underlying22 3 "law.go:34" #[{ on := 3, ground := Ground.data }, { on := 2, ground := Ground.guard }]).op, (some (2, 53, true))⟩,
    ⟨(opBin (some 56) .eql 3 (.tmp 55) (.const (Value.int IntKind.i64 64)) 3 4 "law.go:34" #[{ on := 4, ground := Ground.data }, { on := 2, ground := Ground.guard }]).op, (some (2, 53, true))⟩,
    ⟨(opPick (some 57) (.tmp 53) (.tmp 56) (.const (Value.bool false)) 4 "law.go:34" #[{ on := 2, ground := Ground.data }, { on := 5, ground := Ground.data }]).op, none⟩,
    ⟨(opMove (some 58) (.tmp 57) 4 "law.go:34" #[{ on := 6, ground := Ground.data }, { on := 2, ground := Ground.chain }]).op, none⟩,
    ⟨(opMove (some 59) (.tmp 6) 22 "law.go:34" #[{ on := 7, ground := Ground.guard }]).op, (some (7, 58, true))⟩,
    ⟨(opIndexAddrT (some 60) 22 (.tmp 59) (.const (Value.int IntKind.i64 1)) 5 1 Try.underlying22 sz5 0 "law.go:34" #[{ on := 8, ground := Ground.data }, { on := 7, ground := Ground.guard }]).op, (some (7, 58, true))⟩,
    ⟨(opLoadT (.one (.int .u8)) (some 61) 5 (.tmp 60) (.int .u8) Try.underlying5 1 sz5 (by kernel_rfl) 5 "law.go:34" #[{ on := 9, ground := Ground.data }, { on := 7, ground := Ground.guard }]).op, (some (7, 58, true))⟩,
    ⟨(opBin (some 62) .eql 5 (.tmp 61) (.const (Value.int IntKind.u8 2)) 5 4 "law.go:34" #[{ on := 10, ground := Ground.data }, { on := 7, ground := Ground.guard }]).op, (some (7, 58, true))⟩,
    ⟨(opPick (some 63) (.tmp 58) (.tmp 62) (.const (Value.bool false)) 4 "law.go:34" #[{ on := 7, ground := Ground.data }, { on := 11, ground := Ground.data }]).op, none⟩,
    ⟨(opMove (some 64) (.tmp 63) 4 "law.go:34" #[{ on := 12, ground := Ground.data }, { on := 7, ground := Ground.chain }]).op, none⟩,
    ⟨(opMove (some 65) (.tmp 6) 22 "law.go:34" #[{ on := 13, ground := Ground.guard }]).op, (some (13, 64, true))⟩,
    ⟨(opIndexAddrT (some 66) 22 (.tmp 65) (.const (Value.int IntKind.i64 2)) 5 1 Try.underlying22 sz5 0 "law.go:34" #[{ on := 14, ground := Ground.data }, { on := 13, ground := Ground.guard }]).op, (some (13, 64, true))⟩,
    ⟨(opLoadT (.one (.int .u8)) (some 67) 5 (.tmp 66) (.int .u8) Try.underlying5 1 sz5 (by kernel_rfl) 5 "law.go:34" #[{ on := 15, ground := Ground.data }, { on := 13, ground := Ground.guard }]).op, (some (13, 64, true))⟩,
    ⟨(opBin (some 68) .eql 5 (.tmp 67) (.const (Value.int IntKind.u8 1)) 5 4 "law.go:34" #[{ on := 16, ground := Ground.data }, { on := 13, ground := Ground.guard }]).op, (some (13, 64, true))⟩,
    ⟨(opPick (some 69) (.tmp 64) (.tmp 68) (.const (Value.bool false)) 4 "law.go:34" #[{ on := 13, ground := Ground.data }, { on := 17, ground := Ground.data }]).op, none⟩,
    ⟨(opMove (some 70) (.tmp 69) 4 "law.go:34" #[{ on := 18, ground := Ground.data }, { on := 13, ground := Ground.chain }]).op, none⟩,
    ⟨(opMove (some 71) (.tmp 1) 24 "law.go:34" #[{ on := 19, ground := Ground.guard }]).op, (some (19, 70, true))⟩,
    ⟨opCall (s22).orc (some 72) [(.tmp 71)] #[24] 3 "law.go:34" #[{ on := 20, ground := Ground.data }, { on := 19, ground := Ground.chain }, { on := 19, ground := Ground.guard }], (some (19, 70, true))⟩,
    ⟨(opBin (some 73) .eql 3 (.tmp 72) (.const (Value.int IntKind.i64 0)) 3 4 "law.go:34" #[{ on := 21, ground := Ground.data }, { on := 19, ground := Ground.guard }]).op, (some (19, 70, true))⟩,
    ⟨(opPick (some 74) (.tmp 70) (.tmp 73) (.const (Value.bool false)) 4 "law.go:34" #[{ on := 19, ground := Ground.data }, { on := 22, ground := Ground.data }]).op, none⟩,
    ⟨(opAssign (some 0) (.tmp 74) 4 "law.go:34" #[{ on := 23, ground := Ground.data }, { on := 21, ground := Ground.chain }, { on := 0, ground := Ground.phase }, { on := 1, ground := Ground.phase }, { on := 2, ground := Ground.phase }, { on := 3, ground := Ground.phase }, { on := 4, ground := Ground.phase }, { on := 5, ground := Ground.phase }, { on := 6, ground := Ground.phase }, { on := 7, ground := Ground.phase }, { on := 8, ground := Ground.phase }, { on := 9, ground := Ground.phase }, { on := 10, ground := Ground.phase }, { on := 11, ground := Ground.phase }, { on := 12, ground := Ground.phase }, { on := 13, ground := Ground.phase }, { on := 14, ground := Ground.phase }, { on := 15, ground := Ground.phase }, { on := 16, ground := Ground.phase }, { on := 17, ground := Ground.phase }, { on := 18, ground := Ground.phase }, { on := 19, ground := Ground.phase }, { on := 20, ground := Ground.phase }, { on := 21, ground := Ground.phase }, { on := 22, ground := Ground.phase }, { on := 23, ground := Ground.phase }]).op, none⟩
  ] (by kernel_rfl)))
  (.live [0] .ret)))))

noncomputable def f9_b : Sim Try.prog :=
  (.seq (.live [] (.region 0 [
    ⟨(opAssign (some 0) (.const (Value.bool false)) 4 "law.go:18" #[]).op, none⟩
  ] (by kernel_rfl)))
  (.seq (.live [1, 2] (.region 1 [
    ⟨opCall (f15.orc 0) (some 8) [(.const (Value.int IntKind.i64 4))] #[3] 26 "law.go:19" #[], none⟩,
    ⟨(opMove (some 7) (.tmp 8) 26 "law.go:19" #[{ on := 0, ground := Ground.data }]).op, none⟩,
    ⟨(opExtract (some 9) (.tmp 7) 0 24 "law.go:19" #[{ on := 1, ground := Ground.data }]).op, none⟩,
    ⟨(opExtract (some 10) (.tmp 7) 1 25 "law.go:19" #[{ on := 1, ground := Ground.data }, { on := 4, ground := (Ground.gcOnly Departure.lateStores) }]).op, none⟩,
    ⟨(opAssign (some 1) (.tmp 9) 24 "law.go:19" #[{ on := 2, ground := Ground.data }, { on := 0, ground := Ground.chain }, { on := 0, ground := Ground.phase }, { on := 1, ground := Ground.phase }, { on := 2, ground := Ground.phase }, { on := 3, ground := (Ground.textOnly Departure.lateStores) }]).op, none⟩,
    ⟨(opAssign (some 2) (.tmp 10) 25 "law.go:19" #[{ on := 3, ground := Ground.data }, { on := 4, ground := Ground.chain }, { on := 0, ground := Ground.phase }, { on := 1, ground := Ground.phase }, { on := 2, ground := Ground.phase }, { on := 3, ground := Ground.phase }, { on := 4, ground := Ground.phase }]).op, none⟩
  ] (by kernel_rfl)))
  (.seq (.seq (.live [1, 16] (.region 2 [
    ⟨(opMove (some 11) (.tmp 2) 25 "law.go:20" #[]).op, none⟩,
    ⟨(opBin (some 12) .neq 25 (.tmp 11) (.const (Value.int IntKind.i64 0)) 25 4 "law.go:20" #[{ on := 0, ground := Ground.data }]).op, none⟩,
    ⟨(opMove (some 13) (.tmp 12) 4 "law.go:20" #[{ on := 1, ground := Ground.data }]).op, none⟩,
    ⟨(opMove (some 14) (.tmp 1) 24 "law.go:20" #[{ on := 2, ground := Ground.guard }]).op, (some (2, 13, false))⟩,
    ⟨(opEq (some 15) 24 (.pointer 58) Try.underlying24 (.tmp 14) (.const (Value.pointer none)) (.inl rfl) 24 4 "law.go:20" #[{ on := 3, ground := Ground.data }, { on := 2, ground := Ground.guard }]).op, (some (2, 13, false))⟩,
    ⟨(opPick (some 16) (.tmp 13) (.const (Value.bool true)) (.tmp 15) 4 "law.go:20" #[{ on := 2, ground := Ground.data }, { on := 4, ground := Ground.data }]).op, none⟩
  ] (by kernel_rfl)))
  (.cond (.tmp 16)
    (.seq (.live [0] (.region 3 [
      ⟨(opAssign (some 0) (.const (Value.bool false)) 4 "law.go:21" #[]).op, none⟩
    ] (by kernel_rfl)))
    (.live [0] .ret))
    .skip))
  (.seq (.live [1, 3] (.region 4 [
    ⟨(opMakeC (some 17) 22 (.const (Value.int IntKind.i64 64)) 5 1 1 (.int .u8 0) el22 [AV.int .u8 0] (by kernel_rfl) (by kernel_rfl) 22 "law.go:23" #[]).op, none⟩,
    ⟨(opAssign (some 3) (.tmp 17) 22 "law.go:23" #[{ on := 0, ground := Ground.data }, { on := 0, ground := Ground.phase }]).op, none⟩
  ] (by kernel_rfl)))
  (.seq (.live [1, 3, 4] (.region 5 [
    ⟨(opMakeC (some 18) 22 (.const (Value.int IntKind.i64 64)) 5 1 1 (.int .u8 0) el22 [AV.int .u8 0] (by kernel_rfl) (by kernel_rfl) 22 "law.go:24" #[]).op, none⟩,
    ⟨(opAssign (some 4) (.tmp 18) 22 "law.go:24" #[{ on := 0, ground := Ground.data }, { on := 0, ground := Ground.phase }]).op, none⟩
  ] (by kernel_rfl)))
  (.seq (.seq (.live [1, 3, 4, 5] (.region 6 [
    ⟨(opAssign (some 5) (.const (Value.int IntKind.i64 0)) 3 "law.go:25" #[]).op, none⟩
  ] (by kernel_rfl)))
  (.block 0 (.loop [1, 3, 4, 5] f9_l0)))
  f9_r0))))))

noncomputable def f9 : Fun Try.prog where
  id := 9
  fn := Try.f9
  hf := Try.func9
  hname := by kernel_rfl
  body := f9_b
  hbody := by kernel_rfl
  res := [rTmp 0]
  hres := by kernel_rfl
  n := 75
  hn := by kernel_rfl

/-! ### 14: interlock/interlocklaw02.great (33); results 2; slots: 0 calls, 1 calls, 3 n, 4 i -/
/-- A loop's round; at its head live: 0 calls, 3 n, 4 i -/
noncomputable def f14_l0 : Sim Try.prog :=
  (.seq (.seq (.live [0, 3, 4, 11] (.region 5 [
    ⟨(opMove (some 8) (.tmp 4) 3 "law.go:42" #[]).op, none⟩,
    ⟨(opMove (some 9) (.tmp 0) 33 "law.go:42" #[]).op, none⟩,
    ⟨(opLen (some 10) (.tmp 9) 33 (.slice 38) Try.underlying33 3 "law.go:42" #[{ on := 1, ground := Ground.data }]).op, none⟩,
    ⟨(opBin (some 11) .lss 3 (.tmp 8) (.tmp 10) 3 4 "law.go:42" #[{ on := 0, ground := Ground.data }, { on := 2, ground := Ground.data }]).op, none⟩
  ] (by kernel_rfl)))
  (.cond (.tmp 11)
    .skip
    (.live [] (.exit 0))))
  (.seq (.block 1 (.seq (.live [0, 3, 4] (.region 7 [
      ⟨(opMove (some 14) (.tmp 3) 3 "law.go:43" #[]).op, none⟩,
      ⟨(opMove (some 15) (.tmp 0) 33 "law.go:43" #[]).op, none⟩,
      ⟨(opMove (some 16) (.tmp 4) 3 "law.go:43" #[]).op, none⟩,
      ⟨(opIndexAddrT (some 17) 33 (.tmp 15) (.tmp 16) 38 4 Try.underlying33 sz38 0 "law.go:43" #[{ on := 1, ground := Ground.data }, { on := 2, ground := Ground.data }]).op, none⟩,
      ⟨(opFieldAddr (some 18) 38 (.tmp 17) 3 3 1 false fl38_3 (by decide) 0 "law.go:43" #[{ on := 3, ground := Ground.data }]).op, none⟩,
      ⟨(opLoadT (.one (.ns 1)) (some 19) 22 (.tmp 18) (.slice 5) Try.underlying22 1 sz22 (by kernel_rfl) 22 "law.go:43" #[{ on := 4, ground := Ground.data }]).op, none⟩,
      ⟨(opLen (some 20) (.tmp 19) 22 (.slice 5) Try.underlying22 3 "law.go:43" #[{ on := 5, ground := Ground.data }]).op, none⟩,
      ⟨(opBin (some 21) .add 3 (.tmp 14) (.tmp 20) 3 3 "law.go:43" #[{ on := 0, ground := Ground.data }, { on := 6, ground := Ground.data }]).op, none⟩,
      ⟨(opAssign (some 3) (.tmp 21) 3 "law.go:43" #[{ on := 7, ground := Ground.data }, { on := 0, ground := Ground.phase }, { on := 1, ground := Ground.phase }, { on := 2, ground := Ground.phase }, { on := 3, ground := Ground.phase }, { on := 4, ground := Ground.phase }, { on := 5, ground := Ground.phase }, { on := 6, ground := Ground.phase }, { on := 7, ground := Ground.phase }]).op, none⟩
    ] (by kernel_rfl)))
    (.seq (.live [0, 3, 4, 23] (.region 8 [
      ⟨(opMove (some 22) (.tmp 3) 3 "law.go:44" #[]).op, none⟩,
      ⟨(opBin (some 23) .gtr 3 (.tmp 22) (.const (Value.int IntKind.i64 20000)) 3 4 "law.go:44" #[{ on := 0, ground := Ground.data }]).op, none⟩
    ] (by kernel_rfl)))
    (.cond (.tmp 23)
      (.seq (.live [2] (.region 9 [
        ⟨(opAssign (some 2) (.const (Value.bool true)) 4 "law.go:45" #[]).op, none⟩
      ] (by kernel_rfl)))
      (.live [2] .ret))
      .skip))))
  (.live [0, 3, 4] (.region 6 [
    ⟨(opMove (some 12) (.tmp 4) 3 "law.go:42" #[]).op, none⟩,
    ⟨(opBin (some 13) .add 3 (.tmp 12) (.const (Value.int IntKind.i64 1)) 3 3 "law.go:42" #[{ on := 0, ground := Ground.data }]).op, none⟩,
    ⟨(opAssign (some 4) (.tmp 13) 3 "law.go:42" #[{ on := 1, ground := Ground.data }, { on := 0, ground := Ground.phase }, { on := 1, ground := Ground.phase }]).op, none⟩
  ] (by kernel_rfl)))))

/-- What follows a loop. -/
noncomputable def f14_r0 : Sim Try.prog :=
  (.seq (.live [2] (.region 10 [
    ⟨(opAssign (some 2) (.const (Value.bool false)) 4 "law.go:48" #[]).op, none⟩
  ] (by kernel_rfl)))
  (.live [2] .ret))

noncomputable def f14_b : Sim Try.prog :=
  (.seq (.live [0] (.region 0 [
    ⟨(opAssign (some 2) (.const (Value.bool false)) 4 "law.go:37" #[]).op, none⟩
  ] (by kernel_rfl)))
  (.seq (.seq (.live [0, 7] (.region 1 [
    ⟨(opMove (some 5) (.tmp 0) 33 "law.go:38" #[]).op, none⟩,
    ⟨(opLen (some 6) (.tmp 5) 33 (.slice 38) Try.underlying33 3 "law.go:38" #[{ on := 0, ground := Ground.data }]).op, none⟩,
    ⟨(opBin (some 7) .gtr 3 (.tmp 6) (.const (Value.int IntKind.i64 200)) 3 4 "law.go:38" #[{ on := 1, ground := Ground.data }]).op, none⟩
  ] (by kernel_rfl)))
  (.cond (.tmp 7)
    (.seq (.live [2] (.region 2 [
      ⟨(opAssign (some 2) (.const (Value.bool true)) 4 "law.go:39" #[]).op, none⟩
    ] (by kernel_rfl)))
    (.live [2] .ret))
    .skip))
  (.seq (.live [0, 3] (.region 3 [
    ⟨(opAssign (some 3) (.const (Value.int IntKind.i64 0)) 3 "law.go:41" #[]).op, none⟩
  ] (by kernel_rfl)))
  (.seq (.seq (.live [0, 3, 4] (.region 4 [
    ⟨(opAssign (some 4) (.const (Value.int IntKind.i64 0)) 3 "law.go:42" #[]).op, none⟩
  ] (by kernel_rfl)))
  (.block 0 (.loop [0, 3, 4] f14_l0)))
  f14_r0))))

noncomputable def f14 : Fun Try.prog where
  id := 14
  fn := Try.f14
  hf := Try.func14
  hname := by kernel_rfl
  body := f14_b
  hbody := by kernel_rfl
  res := [rTmp 2]
  hres := by kernel_rfl
  n := 24
  hn := by kernel_rfl

end Go.Proofs.Ytclghabbhpaafaa.V
