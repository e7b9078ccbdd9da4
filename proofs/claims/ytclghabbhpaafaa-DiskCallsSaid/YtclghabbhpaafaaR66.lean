/- Merged out of 14 texts: what the claim's code comes to, and why. -/
import Derived.Test.YtclghabbhpaafaaR65
/- The functions' pieces, as told by gen.py. -/
set_option linter.unusedVariables false
set_option maxRecDepth 20000
namespace Go.Proofs.Ytclghabbhpaafaa.V
open Go Go.V Go.RowKit

theorem ze67 : (Try.prog.info? 67).bind (·.zero) = some (.agg #[(.slice none 0 0), (.slice none 0 0)]) := by kernel_rfl
theorem fl67_0 : fieldB Try.prog 67 0 0 1 false = true := by kernel_rfl
theorem sz64 : (Try.prog.info? 64).map (·.size) = some 1 := by kernel_rfl
theorem by22 : (Try.prog.info? 22).map (·.bytes) = some 24 := by kernel_rfl
theorem el64 : ElemOf Try.prog 64 22 1 24 (.slice none 0 0) := ⟨Try.underlying64, sz22, by22, ze22, by kernel_rfl, by decide⟩
theorem fl67_1 : fieldB Try.prog 67 1 1 1 false = true := by kernel_rfl
theorem sz65 : (Try.prog.info? 65).map (·.size) = some 1 := by kernel_rfl
theorem sz69 : (Try.prog.info? 69).map (·.size) = some 2 := by kernel_rfl
theorem fl69_0 : fieldB Try.prog 69 0 0 1 false = true := by kernel_rfl
theorem fl69_1 : fieldB Try.prog 69 1 1 1 false = true := by kernel_rfl
theorem ze69 : (Try.prog.info? 69).bind (·.zero) = some (.agg #[(.int .i64 0), (.slice none 0 0)]) := by kernel_rfl
theorem by69 : (Try.prog.info? 69).map (·.bytes) = some 32 := by kernel_rfl
theorem el65 : ElemOf Try.prog 65 69 2 32 (.agg #[(.int .i64 0), (.slice none 0 0)]) := ⟨Try.underlying65, sz69, by69, ze69, by kernel_rfl, by decide⟩

/-! ### 19: interlock/interlockref02.Load (22, 3); results 4, 5; slots: 0 image, 1 sectors, 2 image, 3 sectors, 6 d, 7 i, 8 b -/
/-- A loop's round; at its head live: 0 image, 1 sectors, 6 d, 7 i -/
noncomputable def f19_l0 : Sim Try.prog :=
  (.seq (.seq (.live [0, 1, 6, 7, 19] (.region 5 [
    ⟨(opMove (some 17) (.tmp 7) 3 "ref.go:30" #[]).op, none⟩,
    ⟨(opMove (some 18) (.tmp 1) 3 "ref.go:30" #[]).op, none⟩,
    ⟨(opBin (some 19) .lss 3 (.tmp 17) (.tmp 18) 3 4 "ref.go:30" #[{ on := 0, ground := Ground.data }, { on := 1, ground := Ground.data }]).op, none⟩
  ] (by kernel_rfl)))
  (.cond (.tmp 19)
    .skip
    (.live [6] (.exit 0))))
  (.seq (.block 1 (.seq (.live [0, 1, 6, 7, 8] (.region 7 [
      ⟨(opMakeR (some (.tmp 6)) 3 (some 22) 22 (.const (Value.int IntKind.i64 64)) 5 1 1 (.int .u8 0) el22 [AV.int .u8 0] (by kernel_rfl) (by kernel_rfl) 22 "ref.go:31" #[]).op, none⟩,
      ⟨(opAssign (some 8) (.tmp 22) 22 "ref.go:31" #[{ on := 0, ground := Ground.data }, { on := 0, ground := Ground.phase }]).op, none⟩
    ] (by kernel_rfl)))
    (.seq (.seq (.live [0, 1, 6, 7, 8, 27] (.region 8 [
      ⟨(opMove (some 23) (.tmp 7) 3 "ref.go:32" #[]).op, none⟩,
      ⟨(opBin (some 24) .mul 3 (.const (Value.int IntKind.i64 64)) (.tmp 23) 3 3 "ref.go:32" #[{ on := 0, ground := Ground.data }]).op, none⟩,
      ⟨(opMove (some 25) (.tmp 0) 22 "ref.go:32" #[]).op, none⟩,
      ⟨(opLen (some 26) (.tmp 25) 22 (.slice 5) Try.underlying22 3 "ref.go:32" #[{ on := 2, ground := Ground.data }]).op, none⟩,
      ⟨(opBin (some 27) .lss 3 (.tmp 24) (.tmp 26) 3 4 "ref.go:32" #[{ on := 1, ground := Ground.data }, { on := 3, ground := Ground.data }]).op, none⟩
    ] (by kernel_rfl)))
    (.cond (.tmp 27)
      (.live [0, 1, 6, 7, 8] (.region 9 [
        ⟨(opMove (some 28) (.tmp 8) 22 "ref.go:33" #[]).op, none⟩,
        ⟨(opMove (some 29) (.tmp 0) 22 "ref.go:33" #[]).op, none⟩,
        ⟨(opMove (some 30) (.tmp 7) 3 "ref.go:33" #[]).op, none⟩,
        ⟨(opBin (some 31) .mul 3 (.const (Value.int IntKind.i64 64)) (.tmp 30) 3 3 "ref.go:33" #[{ on := 2, ground := Ground.data }]).op, none⟩,
        ⟨(opSlice (some 32) 22 (.tmp 29) (some (.tmp 31)) none none 5 1 Try.underlying22 sz5 22 "ref.go:33" #[{ on := 1, ground := Ground.data }, { on := 3, ground := Ground.data }]).op, none⟩,
        ⟨(opCopyV (some 33) (.tmp 28) (.tmp 32) 22 22 5 1 Try.underlying22 sz5 3 "ref.go:33" #[{ on := 0, ground := Ground.data }, { on := 4, ground := Ground.data }]).op, none⟩
      ] (by kernel_rfl)))
      .skip))
    (.live [0, 1, 6, 7] (.region 10 [
      ⟨(opMove (some 34) (.tmp 6) 42 "ref.go:35" #[]).op, none⟩,
      ⟨(opMove (some 35) (.tmp 6) 42 "ref.go:35" #[]).op, none⟩,
      ⟨(opNilCheck (some 36) (.tmp 35) 0 "ref.go:35" #[{ on := 1, ground := Ground.data }]).op, none⟩,
      ⟨(opFieldAddr (some 37) 67 (.tmp 36) 0 0 1 false fl67_0 (by decide) 0 "ref.go:35" #[{ on := 2, ground := Ground.data }]).op, none⟩,
      ⟨(opLoadT (.one .any) (some 38) 64 (.tmp 37) (.slice 22) Try.underlying64 1 sz64 (by kernel_rfl) 64 "ref.go:35" #[{ on := 3, ground := Ground.data }]).op, none⟩,
      ⟨(opMoveZ (some 39) (.tmp 8) 22 "ref.go:35" #[]).op, none⟩,
      ⟨(opBuildSlice (some 40) 64 1 [(0, (.tmp 39))] 22 1 24 (.slice none 0 0) el64 (by kernel_rfl) (by decide) 64 "ref.go:35" #[{ on := 5, ground := Ground.data }]).op, none⟩,
      ⟨(opAppendR (some (.tmp 6)) 1 (some 41) (.tmp 38) (.tmp 40) 64 64 22 1 24 (.slice none 0 0) el64 (.slice 22) Try.underlying64 rfl 64 "ref.go:35" #[{ on := 4, ground := Ground.data }, { on := 6, ground := Ground.data }]).op, none⟩,
      ⟨(opNilCheck (some 42) (.tmp 34) 0 "ref.go:35" #[{ on := 0, ground := Ground.data }, { on := 0, ground := Ground.phase }, { on := 1, ground := Ground.phase }, { on := 2, ground := Ground.phase }, { on := 3, ground := Ground.phase }, { on := 4, ground := Ground.phase }, { on := 5, ground := Ground.phase }, { on := 6, ground := Ground.phase }, { on := 7, ground := Ground.phase }]).op, none⟩,
      ⟨(opFieldAddr (some 43) 67 (.tmp 42) 0 0 1 false fl67_0 (by decide) 0 "ref.go:35" #[{ on := 8, ground := Ground.data }, { on := 0, ground := Ground.phase }, { on := 1, ground := Ground.phase }, { on := 2, ground := Ground.phase }, { on := 3, ground := Ground.phase }, { on := 4, ground := Ground.phase }, { on := 5, ground := Ground.phase }, { on := 6, ground := Ground.phase }, { on := 7, ground := Ground.phase }]).op, none⟩,
      ⟨(opStore none 64 (.tmp 43) (.tmp 41) 1 sz64 0 "ref.go:35" #[{ on := 9, ground := Ground.data }, { on := 7, ground := Ground.data }, { on := 7, ground := Ground.chain }, { on := 0, ground := Ground.phase }, { on := 1, ground := Ground.phase }, { on := 2, ground := Ground.phase }, { on := 3, ground := Ground.phase }, { on := 4, ground := Ground.phase }, { on := 5, ground := Ground.phase }, { on := 6, ground := Ground.phase }, { on := 7, ground := Ground.phase }]).op, none⟩
    ] (by kernel_rfl))))))
  (.live [0, 1, 6, 7] (.region 6 [
    ⟨(opMove (some 20) (.tmp 7) 3 "ref.go:30" #[]).op, none⟩,
    ⟨(opBin (some 21) .add 3 (.tmp 20) (.const (Value.int IntKind.i64 1)) 3 3 "ref.go:30" #[{ on := 0, ground := Ground.data }]).op, none⟩,
    ⟨(opAssign (some 7) (.tmp 21) 3 "ref.go:30" #[{ on := 1, ground := Ground.data }, { on := 0, ground := Ground.phase }, { on := 1, ground := Ground.phase }]).op, none⟩
  ] (by kernel_rfl)))))

/-- What follows a loop. -/
noncomputable def f19_r0 : Sim Try.prog :=
  (.seq (.live [4, 5] (.region 11 [
    ⟨(opMove (some 44) (.tmp 6) 42 "ref.go:37" #[]).op, none⟩,
    ⟨(opAssign (some 4) (.tmp 44) 42 "ref.go:37" #[{ on := 0, ground := Ground.data }, { on := 0, ground := Ground.phase }]).op, none⟩,
    ⟨(opAssign (some 5) (.const (Value.int IntKind.i64 0)) 25 "ref.go:37" #[{ on := 1, ground := Ground.chain }, { on := 0, ground := Ground.phase }, { on := 1, ground := Ground.phase }]).op, none⟩
  ] (by kernel_rfl)))
  (.live [4, 5] .ret))

noncomputable def f19_b : Sim Try.prog :=
  (.seq (.live [0, 1] (.region 0 [
    ⟨(opAssign (some 4) (.const (Value.pointer none)) 42 "ref.go:25" #[]).op, none⟩,
    ⟨(opAssign (some 5) (.const (Value.int IntKind.i64 0)) 25 "ref.go:25" #[{ on := 0, ground := Ground.chain }]).op, none⟩
  ] (by kernel_rfl)))
  (.seq (.seq (.live [0, 1, 14] (.region 1 [
    ⟨(opMove (some 9) (.tmp 1) 3 "ref.go:26" #[]).op, none⟩,
    ⟨(opBin (some 10) .lss 3 (.tmp 9) (.const (Value.int IntKind.i64 1)) 3 4 "ref.go:26" #[{ on := 0, ground := Ground.data }]).op, none⟩,
    ⟨(opMove (some 11) (.tmp 10) 4 "ref.go:26" #[{ on := 1, ground := Ground.data }]).op, none⟩,
    ⟨(opMove (some 12) (.tmp 1) 3 "ref.go:26" #[{ on := 2, ground := Ground.guard }]).op, (some (2, 11, false))⟩,
    ⟨(opBin (some 13) .gtr 3 (.tmp 12) (.const (Value.int IntKind.i64 65536)) 3 4 "ref.go:26" #[{ on := 3, ground := Ground.data }, { on := 2, ground := Ground.guard }]).op, (some (2, 11, false))⟩,
    ⟨(opPick (some 14) (.tmp 11) (.const (Value.bool true)) (.tmp 13) 4 "ref.go:26" #[{ on := 2, ground := Ground.data }, { on := 4, ground := Ground.data }]).op, none⟩
  ] (by kernel_rfl)))
  (.cond (.tmp 14)
    (.seq (.live [4, 5] (.region 2 [
      ⟨(opAssign (some 4) (.const (Value.pointer none)) 42 "ref.go:27" #[]).op, none⟩,
      ⟨(opAssign (some 5) (.const (Value.int IntKind.i64 41)) 25 "ref.go:27" #[{ on := 0, ground := Ground.chain }, { on := 0, ground := Ground.phase }]).op, none⟩
    ] (by kernel_rfl)))
    (.live [4, 5] .ret))
    .skip))
  (.seq (.live [0, 1, 6] (.region 3 [
    ⟨(opBuild (some 15) 67 #[(.slice none 0 0), (.slice none 0 0)] [] ze67 (by kernel_rfl) 67 "ref.go:29" #[]).op, none⟩,
    ⟨(MSim.ph (opBox (some 16) 67 (.tmp 15) 42 "ref.go:29" #[{ on := 0, ground := Ground.data }]) 3).op, none⟩,
    ⟨(opAssign (some 6) (.tmp 16) 42 "ref.go:29" #[{ on := 1, ground := Ground.data }, { on := 0, ground := Ground.phase }, { on := 1, ground := Ground.phase }]).op, none⟩
  ] (by kernel_rfl)))
  (.seq (.seq (.live [0, 1, 6, 7] (.region 4 [
    ⟨(opAssign (some 7) (.const (Value.int IntKind.i64 0)) 3 "ref.go:30" #[]).op, none⟩
  ] (by kernel_rfl)))
  (.block 0 (.loop [0, 1, 6, 7] f19_l0)))
  f19_r0))))

noncomputable def f19 : Fun Try.prog where
  id := 19
  fn := Try.f19
  hf := Try.func19
  hname := by kernel_rfl
  body := f19_b
  hbody := by kernel_rfl
  res := [rTmp 4, rTmp 5]
  hres := by kernel_rfl
  n := 45
  hn := by kernel_rfl

/-! ### 29: (*interlock/interlockref02.Disk).Image (42); results 2; slots: 0 d, 1 d, 3 out, 4 i -/
/-- A loop's round; at its head live: 0 d, 3 out, 4 i -/
noncomputable def f29_l0 : Sim Try.prog :=
  (.seq (.seq (.live [0, 3, 4, 12] (.region 3 [
    ⟨(opMove (some 6) (.tmp 4) 3 "ref.go:88" #[]).op, none⟩,
    ⟨(opMove (some 7) (.tmp 0) 42 "ref.go:88" #[]).op, none⟩,
    ⟨(opNilCheck (some 8) (.tmp 7) 0 "ref.go:88" #[{ on := 1, ground := Ground.data }]).op, none⟩,
    ⟨(opFieldAddr (some 9) 67 (.tmp 8) 0 0 1 false fl67_0 (by decide) 0 "ref.go:88" #[{ on := 2, ground := Ground.data }]).op, none⟩,
    ⟨(opLoadT (.one .any) (some 10) 64 (.tmp 9) (.slice 22) Try.underlying64 1 sz64 (by kernel_rfl) 64 "ref.go:88" #[{ on := 3, ground := Ground.data }]).op, none⟩,
    ⟨(opLen (some 11) (.tmp 10) 64 (.slice 22) Try.underlying64 3 "ref.go:88" #[{ on := 4, ground := Ground.data }]).op, none⟩,
    ⟨(opBin (some 12) .lss 3 (.tmp 6) (.tmp 11) 3 4 "ref.go:88" #[{ on := 0, ground := Ground.data }, { on := 5, ground := Ground.data }]).op, none⟩
  ] (by kernel_rfl)))
  (.cond (.tmp 12)
    .skip
    (.live [3] (.exit 0))))
  (.seq (.block 1 (.live [0, 3, 4] (.region 5 [
      ⟨(opMove (some 15) (.tmp 3) 22 "ref.go:89" #[]).op, none⟩,
      ⟨(opMove (some 16) (.tmp 0) 42 "ref.go:89" #[]).op, none⟩,
      ⟨(opNilCheck (some 17) (.tmp 16) 0 "ref.go:89" #[{ on := 1, ground := Ground.data }]).op, none⟩,
      ⟨(opFieldAddr (some 18) 67 (.tmp 17) 0 0 1 false fl67_0 (by decide) 0 "ref.go:89" #[{ on := 2, ground := Ground.data }]).op, none⟩,
      ⟨(opLoadT (.one .any) (some 19) 64 (.tmp 18) (.slice 22) Try.underlying64 1 sz64 (by kernel_rfl) 64 "ref.go:89" #[{ on := 3, ground := Ground.data }]).op, none⟩,
      ⟨(opMove (some 20) (.tmp 4) 3 "ref.go:89" #[]).op, none⟩,
      ⟨(opIndexAddrT (some 21) 64 (.tmp 19) (.tmp 20) 22 1 Try.underlying64 sz22 0 "ref.go:89" #[{ on := 4, ground := Ground.data }, { on := 5, ground := Ground.data }]).op, none⟩,
      ⟨(opLoadT (.one (.ns 1)) (some 22) 22 (.tmp 21) (.slice 5) Try.underlying22 1 sz22 (by kernel_rfl) 22 "ref.go:89" #[{ on := 6, ground := Ground.data }]).op, none⟩,
      ⟨(opAppendV (some 23) (.tmp 15) (.tmp 22) 22 22 5 1 1 (.int .u8 0) el22 (.slice 5) Try.underlying22 rfl 22 "ref.go:89" #[{ on := 0, ground := Ground.data }, { on := 7, ground := Ground.data }]).op, none⟩,
      ⟨(opAssign (some 3) (.tmp 23) 22 "ref.go:89" #[{ on := 8, ground := Ground.data }, { on := 8, ground := Ground.chain }, { on := 0, ground := Ground.phase }, { on := 1, ground := Ground.phase }, { on := 2, ground := Ground.phase }, { on := 3, ground := Ground.phase }, { on := 4, ground := Ground.phase }, { on := 5, ground := Ground.phase }, { on := 6, ground := Ground.phase }, { on := 7, ground := Ground.phase }, { on := 8, ground := Ground.phase }]).op, none⟩
    ] (by kernel_rfl))))
  (.live [0, 3, 4] (.region 4 [
    ⟨(opMove (some 13) (.tmp 4) 3 "ref.go:88" #[]).op, none⟩,
    ⟨(opBin (some 14) .add 3 (.tmp 13) (.const (Value.int IntKind.i64 1)) 3 3 "ref.go:88" #[{ on := 0, ground := Ground.data }]).op, none⟩,
    ⟨(opAssign (some 4) (.tmp 14) 3 "ref.go:88" #[{ on := 1, ground := Ground.data }, { on := 0, ground := Ground.phase }, { on := 1, ground := Ground.phase }]).op, none⟩
  ] (by kernel_rfl)))))

/-- What follows a loop. -/
noncomputable def f29_r0 : Sim Try.prog :=
  (.seq (.live [2] (.region 6 [
    ⟨(opMoveZ (some 24) (.tmp 3) 22 "ref.go:91" #[]).op, none⟩,
    ⟨(opAssign (some 2) (.tmp 24) 22 "ref.go:91" #[{ on := 0, ground := Ground.data }, { on := 0, ground := Ground.phase }]).op, none⟩
  ] (by kernel_rfl)))
  (.live [2] .ret))

noncomputable def f29_b : Sim Try.prog :=
  (.seq (.live [0] (.region 0 [
    ⟨(opAssign (some 2) (.const (Value.slice none 0 0)) 22 "ref.go:86" #[]).op, none⟩
  ] (by kernel_rfl)))
  (.seq (.live [0, 3] (.region 1 [
    ⟨(opBuildSlice (some 5) 22 0 [] 5 1 1 (.int .u8 0) el22 (by kernel_rfl) (by decide) 22 "ref.go:87" #[]).op, none⟩,
    ⟨(opAssign (some 3) (.tmp 5) 22 "ref.go:87" #[{ on := 0, ground := Ground.data }, { on := 0, ground := Ground.phase }]).op, none⟩
  ] (by kernel_rfl)))
  (.seq (.seq (.live [0, 3, 4] (.region 2 [
    ⟨(opAssign (some 4) (.const (Value.int IntKind.i64 0)) 3 "ref.go:88" #[]).op, none⟩
  ] (by kernel_rfl)))
  (.block 0 (.loop [0, 3, 4] f29_l0)))
  f29_r0)))

noncomputable def f29 : Fun Try.prog where
  id := 29
  fn := Try.f29
  hf := Try.func29
  hname := by kernel_rfl
  body := f29_b
  hbody := by kernel_rfl
  res := [rTmp 2]
  hres := by kernel_rfl
  n := 25
  hn := by kernel_rfl

/-! ### 30: (*interlock/interlockref02.Disk).Read (42, 3); results 4, 5; slots: 0 d, 1 sector, 2 d, 3 sector, 6 b, 7 i -/
/-- A loop's round; at its head live: 0 d, 1 sector, 6 b, 7 i -/
noncomputable def f30_l0 : Sim Try.prog :=
  (.seq (.seq (.live [0, 1, 6, 7, 33] (.region 5 [
    ⟨(opMove (some 27) (.tmp 7) 3 "ref.go:46" #[]).op, none⟩,
    ⟨(opMove (some 28) (.tmp 0) 42 "ref.go:46" #[]).op, none⟩,
    ⟨(opNilCheck (some 29) (.tmp 28) 0 "ref.go:46" #[{ on := 1, ground := Ground.data }]).op, none⟩,
    ⟨(opFieldAddr (some 30) 67 (.tmp 29) 1 1 1 false fl67_1 (by decide) 0 "ref.go:46" #[{ on := 2, ground := Ground.data }]).op, none⟩,
    ⟨(opLoadT (.one .any) (some 31) 65 (.tmp 30) (.slice 69) Try.underlying65 1 sz65 (by kernel_rfl) 65 "ref.go:46" #[{ on := 3, ground := Ground.data }]).op, none⟩,
    ⟨(opLen (some 32) (.tmp 31) 65 (.slice 69) Try.underlying65 3 "ref.go:46" #[{ on := 4, ground := Ground.data }]).op, none⟩,
    ⟨(opBin (some 33) .lss 3 (.tmp 27) (.tmp 32) 3 4 "ref.go:46" #[{ on := 0, ground := Ground.data }, { on := 5, ground := Ground.data }]).op, none⟩
  ] (by kernel_rfl)))
  (.cond (.tmp 33)
    .skip
    (.live [6] (.exit 0))))
  (.seq (.block 1 (.seq (.live [0, 1, 6, 7, 45] (.region 7 [
      ⟨(opMove (some 36) (.tmp 0) 42 "ref.go:47" #[]).op, none⟩,
      ⟨(opNilCheck (some 37) (.tmp 36) 0 "ref.go:47" #[{ on := 0, ground := Ground.data }]).op, none⟩,
      ⟨(opFieldAddr (some 38) 67 (.tmp 37) 1 1 1 false fl67_1 (by decide) 0 "ref.go:47" #[{ on := 1, ground := Ground.data }]).op, none⟩,
      ⟨(opLoadT (.one .any) (some 39) 65 (.tmp 38) (.slice 69) Try.underlying65 1 sz65 (by kernel_rfl) 65 "ref.go:47" #[{ on := 2, ground := Ground.data }]).op, none⟩,
      ⟨(opMove (some 40) (.tmp 7) 3 "ref.go:47" #[]).op, none⟩,
      ⟨(opIndexAddrT (some 41) 65 (.tmp 39) (.tmp 40) 69 2 Try.underlying65 sz69 0 "ref.go:47" #[{ on := 3, ground := Ground.data }, { on := 4, ground := Ground.data }]).op, none⟩,
      ⟨(opFieldAddr (some 42) 69 (.tmp 41) 0 0 1 false fl69_0 (by decide) 0 "ref.go:47" #[{ on := 5, ground := Ground.data }]).op, none⟩,
      ⟨(opLoadT (.one (.int .i64)) (some 43) 3 (.tmp 42) (.int .i64) Try.underlying3 1 sz3 (by kernel_rfl) 3 "ref.go:47" #[{ on := 6, ground := Ground.data }]).op, none⟩,
      ⟨(opMove (some 44) (.tmp 1) 3 "ref.go:47" #[]).op, none⟩,
      ⟨(opBin (some 45) .eql 3 (.tmp 43) (.tmp 44) 3 4 "ref.go:47" #[{ on := 7, ground := Ground.data }, { on := 8, ground := Ground.data }]).op, none⟩
    ] (by kernel_rfl)))
    (.cond (.tmp 45)
      (.live [0, 1, 6, 7] (.region 8 [
        ⟨(opMove (some 46) (.tmp 0) 42 "ref.go:48" #[]).op, none⟩,
        ⟨(opNilCheck (some 47) (.tmp 46) 0 "ref.go:48" #[{ on := 0, ground := Ground.data }]).op, none⟩,
        ⟨(opFieldAddr (some 48) 67 (.tmp 47) 1 1 1 false fl67_1 (by decide) 0 "ref.go:48" #[{ on := 1, ground := Ground.data }]).op, none⟩,
        ⟨(opLoadT (.one .any) (some 49) 65 (.tmp 48) (.slice 69) Try.underlying65 1 sz65 (by kernel_rfl) 65 "ref.go:48" #[{ on := 2, ground := Ground.data }]).op, none⟩,
        ⟨(opMove (some 50) (.tmp 7) 3 "ref.go:48" #[]).op, none⟩,
        ⟨(opIndexAddrT (some 51) 65 (.tmp 49) (.tmp 50) 69 2 Try.underlying65 sz69 0 "ref.go:48" #[{ on := 3, ground := Ground.data }, { on := 4, ground := Ground.data }]).op, none⟩,
        ⟨(opFieldAddr (some 52) 69 (.tmp 51) 1 1 1 false fl69_1 (by decide) 0 "ref.go:48" #[{ on := 5, ground := Ground.data }]).op, none⟩,
        ⟨(opLoadT (.one (.ns 1)) (some 53) 22 (.tmp 52) (.slice 5) Try.underlying22 1 sz22 (by kernel_rfl) 22 "ref.go:48" #[{ on := 6, ground := Ground.data }]).op, none⟩,
        ⟨(opCallP p18 (some 54) [(.tmp 53)] #[22] 22 "ref.go:48" #[{ on := 7, ground := Ground.data }]).op, none⟩,
        ⟨(opAssign (some 6) (.tmp 54) 22 "ref.go:48" #[{ on := 8, ground := Ground.data }, { on := 8, ground := Ground.chain }, { on := 0, ground := Ground.phase }, { on := 1, ground := Ground.phase }, { on := 2, ground := Ground.phase }, { on := 3, ground := Ground.phase }, { on := 4, ground := Ground.phase }, { on := 5, ground := Ground.phase }, { on := 6, ground := Ground.phase }, { on := 7, ground := Ground.phase }, { on := 8, ground := Ground.phase }]).op, none⟩
      ] (by kernel_rfl)))
      .skip)))
  (.live [0, 1, 6, 7] (.region 6 [
    ⟨(opMove (some 34) (.tmp 7) 3 "ref.go:46" #[]).op, none⟩,
    ⟨(opBin (some 35) .add 3 (.tmp 34) (.const (Value.int IntKind.i64 1)) 3 3 "ref.go:46" #[{ on := 0, ground := Ground.data }]).op, none⟩,
    ⟨(opAssign (some 7) (.tmp 35) 3 "ref.go:46" #[{ on := 1, ground := Ground.data }, { on := 0, ground := Ground.phase }, { on := 1, ground := Ground.phase }]).op, none⟩
  ] (by kernel_rfl)))))

/-- What follows a loop. -/
noncomputable def f30_r0 : Sim Try.prog :=
  (.seq (.live [4, 5] (.region 9 [
    ⟨(opMove (some 55) (.tmp 6) 22 "ref.go:51" #[]).op, none⟩,
    ⟨(opAssign (some 4) (.tmp 55) 22 "ref.go:51" #[{ on := 0, ground := Ground.data }, { on := 0, ground := Ground.phase }]).op, none⟩,
    ⟨(opAssign (some 5) (.const (Value.int IntKind.i64 0)) 25 "ref.go:51" #[{ on := 1, ground := Ground.chain }, { on := 0, ground := Ground.phase }, { on := 1, ground := Ground.phase }]).op, none⟩
  ] (by kernel_rfl)))
  (.live [4, 5] .ret))

noncomputable def f30_b : Sim Try.prog :=
  (.seq (.live [0, 1] (.region 0 [
    ⟨(opAssign (some 4) (.const (Value.slice none 0 0)) 22 "ref.go:41" #[]).op, none⟩,
    ⟨(opAssign (some 5) (.const (Value.int IntKind.i64 0)) 25 "ref.go:41" #[{ on := 0, ground := Ground.chain }]).op, none⟩
  ] (by kernel_rfl)))
  (.seq (.seq (.live [0, 1, 18] (.region 1 [
    ⟨(opMove (some 8) (.tmp 1) 3 "ref.go:42" #[]).op, none⟩,
    ⟨(opBin (some 9) .lss 3 (.tmp 8) (.const (Value.int IntKind.i64 0)) 3 4 "ref.go:42" #[{ on := 0, ground := Ground.data }]).op, none⟩,
    ⟨(opMove (some 10) (.tmp 9) 4 "ref.go:42" #[{ on := 1, ground := Ground.data }]).op, none⟩,
    ⟨(opMove (some 11) (.tmp 1) 3 "ref.go:42" #[{ on := 2, ground := Ground.guard }]).op, (some (2, 10, false))⟩,
    ⟨(opMove (some 12) (.tmp 0) 42 "ref.go:42" #[{ on := 2, ground := Ground.guard }]).op, (some (2, 10, false))⟩,
    ⟨(opNilCheck (some 13) (.tmp 12) 0 "ref.go:42" #[{ on := 4, ground := Ground.data }, { on := 2, ground := Ground.guard }]).op, (some (2, 10, false))⟩,
    ⟨(opFieldAddr (some 14) 67 (.tmp 13) 0 0 1 false fl67_0 (by decide) 0 "ref.go:42" #[{ on := 5, ground := Ground.data }, { on := 2, ground := Ground.guard }]).op, (some (2, 10, false))⟩,
    ⟨(opLoadT (.one .any) (some 15) 64 (.tmp 14) (.slice 22) Try.underlying64 1 sz64 (by kernel_rfl) 64 "ref.go:42" #[{ on := 6, ground := Ground.data }, { on := 2, ground := Ground.guard }]).op, (some (2, 10, false))⟩,
    ⟨(opLen (some 16) (.tmp 15) 64 (.slice 22) Try.underlying64 3 "ref.go:42" #[{ on := 7, ground := Ground.data }, { on := 2, ground := Ground.guard }]).op, (some (2, 10, false))⟩,
    ⟨(opBin (some 17) .geq 3 (.tmp 11) (.tmp 16) 3 4 "ref.go:42" #[{ on := 3, ground := Ground.data }, { on := 8, ground := Ground.data }, { on := 2, ground := Ground.guard }]).op, (some (2, 10, false))⟩,
    ⟨(opPick (some 18) (.tmp 10) (.const (Value.bool true)) (.tmp 17) 4 "ref.go:42" #[{ on := 2, ground := Ground.data }, { on := 9, ground := Ground.data }]).op, none⟩
  ] (by kernel_rfl)))
  (.cond (.tmp 18)
    (.seq (.live [4, 5] (.region 2 [
      ⟨(opAssign (some 4) (.const (Value.slice none 0 0)) 22 "ref.go:43" #[]).op, none⟩,
      ⟨(opAssign (some 5) (.const (Value.int IntKind.i64 40)) 25 "ref.go:43" #[{ on := 0, ground := Ground.chain }, { on := 0, ground := Ground.phase }]).op, none⟩
    ] (by kernel_rfl)))
    (.live [4, 5] .ret))
    .skip))
  (.seq (.live [0, 1, 6] (.region 3 [
    ⟨(opMove (some 19) (.tmp 0) 42 "ref.go:45" #[]).op, none⟩,
    ⟨(opNilCheck (some 20) (.tmp 19) 0 "ref.go:45" #[{ on := 0, ground := Ground.data }]).op, none⟩,
    ⟨(opFieldAddr (some 21) 67 (.tmp 20) 0 0 1 false fl67_0 (by decide) 0 "ref.go:45" #[{ on := 1, ground := Ground.data }]).op, none⟩,
    ⟨(opLoadT (.one .any) (some 22) 64 (.tmp 21) (.slice 22) Try.underlying64 1 sz64 (by kernel_rfl) 64 "ref.go:45" #[{ on := 2, ground := Ground.data }]).op, none⟩,
    ⟨(opMove (some 23) (.tmp 1) 3 "ref.go:45" #[]).op, none⟩,
    ⟨(opIndexAddrT (some 24) 64 (.tmp 22) (.tmp 23) 22 1 Try.underlying64 sz22 0 "ref.go:45" #[{ on := 3, ground := Ground.data }, { on := 4, ground := Ground.data }]).op, none⟩,
    ⟨(opLoadT (.one (.ns 1)) (some 25) 22 (.tmp 24) (.slice 5) Try.underlying22 1 sz22 (by kernel_rfl) 22 "ref.go:45" #[{ on := 5, ground := Ground.data }]).op, none⟩,
    ⟨(opCallP p18 (some 26) [(.tmp 25)] #[22] 22 "ref.go:45" #[{ on := 6, ground := Ground.data }]).op, none⟩,
    ⟨(opAssign (some 6) (.tmp 26) 22 "ref.go:45" #[{ on := 7, ground := Ground.data }, { on := 7, ground := Ground.chain }, { on := 0, ground := Ground.phase }, { on := 1, ground := Ground.phase }, { on := 2, ground := Ground.phase }, { on := 3, ground := Ground.phase }, { on := 4, ground := Ground.phase }, { on := 5, ground := Ground.phase }, { on := 6, ground := Ground.phase }, { on := 7, ground := Ground.phase }]).op, none⟩
  ] (by kernel_rfl)))
  (.seq (.seq (.live [0, 1, 6, 7] (.region 4 [
    ⟨(opAssign (some 7) (.const (Value.int IntKind.i64 0)) 3 "ref.go:46" #[]).op, none⟩
  ] (by kernel_rfl)))
  (.block 0 (.loop [0, 1, 6, 7] f30_l0)))
  f30_r0))))

noncomputable def f30 : Fun Try.prog where
  id := 30
  fn := Try.f30
  hf := Try.func30
  hname := by kernel_rfl
  body := f30_b
  hbody := by kernel_rfl
  res := [rTmp 4, rTmp 5]
  hres := by kernel_rfl
  n := 56
  hn := by kernel_rfl

/-! ### 31: (*interlock/interlockref02.Disk).Write (42, 3, 22); results 6; slots: 0 d, 1 sector, 2 b, 3 d, 4 sector, 5 b -/
noncomputable def f31_b : Sim Try.prog :=
  (.seq (.live [0, 1, 2] (.region 0 [
    ⟨(opAssign (some 6) (.const (Value.int IntKind.i64 0)) 25 "ref.go:55" #[]).op, none⟩
  ] (by kernel_rfl)))
  (.seq (.seq (.live [0, 1, 2, 17] (.region 1 [
    ⟨(opMove (some 7) (.tmp 1) 3 "ref.go:56" #[]).op, none⟩,
    ⟨(opBin (some 8) .lss 3 (.tmp 7) (.const (Value.int IntKind.i64 0)) 3 4 "ref.go:56" #[{ on := 0, ground := Ground.data }]).op, none⟩,
    ⟨(opMove (some 9) (.tmp 8) 4 "ref.go:56" #[{ on := 1, ground := Ground.data }]).op, none⟩,
    ⟨(opMove (some 10) (.tmp 1) 3 "ref.go:56" #[{ on := 2, ground := Ground.guard }]).op, (some (2, 9, false))⟩,
    ⟨(opMove (some 11) (.tmp 0) 42 "ref.go:56" #[{ on := 2, ground := Ground.guard }]).op, (some (2, 9, false))⟩,
    ⟨(opNilCheck (some 12) (.tmp 11) 0 "ref.go:56" #[{ on := 4, ground := Ground.data }, { on := 2, ground := Ground.guard }]).op, (some (2, 9, false))⟩,
    ⟨(opFieldAddr (some 13) 67 (.tmp 12) 0 0 1 false fl67_0 (by decide) 0 "ref.go:56" #[{ on := 5, ground := Ground.data }, { on := 2, ground := Ground.guard }]).op, (some (2, 9, false))⟩,
    ⟨(opLoadT (.one .any) (some 14) 64 (.tmp 13) (.slice 22) Try.underlying64 1 sz64 (by kernel_rfl) 64 "ref.go:56" #[{ on := 6, ground := Ground.data }, { on := 2, ground := Ground.guard }]).op, (some (2, 9, false))⟩,
    ⟨(opLen (some 15) (.tmp 14) 64 (.slice 22) Try.underlying64 3 "ref.go:56" #[{ on := 7, ground := Ground.data }, { on := 2, ground := Ground.guard }]).op, (some (2, 9, false))⟩,
    ⟨(opBin (some 16) .geq 3 (.tmp 10) (.tmp 15) 3 4 "ref.go:56" #[{ on := 3, ground := Ground.data }, { on := 8, ground := Ground.data }, { on := 2, ground := Ground.guard }]).op, (some (2, 9, false))⟩,
    ⟨(opPick (some 17) (.tmp 9) (.const (Value.bool true)) (.tmp 16) 4 "ref.go:56" #[{ on := 2, ground := Ground.data }, { on := 9, ground := Ground.data }]).op, none⟩
  ] (by kernel_rfl)))
  (.cond (.tmp 17)
    (.seq (.live [6] (.region 2 [
      ⟨(opAssign (some 6) (.const (Value.int IntKind.i64 40)) 25 "ref.go:57" #[]).op, none⟩
    ] (by kernel_rfl)))
    (.live [6] .ret))
    .skip))
  (.seq (.seq (.live [0, 1, 2, 20] (.region 3 [
    ⟨(opMove (some 18) (.tmp 2) 22 "ref.go:59" #[]).op, none⟩,
    ⟨(opLen (some 19) (.tmp 18) 22 (.slice 5) Try.underlying22 3 "ref.go:59" #[{ on := 0, ground := Ground.data }]).op, none⟩,
    ⟨(opBin (some 20) .neq 3 (.tmp 19) (.const (Value.int IntKind.i64 64)) 3 4 "ref.go:59" #[{ on := 1, ground := Ground.data }]).op, none⟩
  ] (by kernel_rfl)))
  (.cond (.tmp 20)
    (.seq (.live [6] (.region 4 [
      ⟨(opAssign (some 6) (.const (Value.int IntKind.i64 41)) 25 "ref.go:60" #[]).op, none⟩
    ] (by kernel_rfl)))
    (.live [6] .ret))
    .skip))
  (.seq (.live [] (.draw 5 [
    ⟨.p (opMove (some 21) (.tmp 0) 42 "ref.go:62" #[]), none⟩,
    ⟨.p (opMove (some 22) (.tmp 0) 42 "ref.go:62" #[]), none⟩,
    ⟨.p (opNilCheck (some 23) (.tmp 22) 0 "ref.go:62" #[{ on := 1, ground := Ground.data }]), none⟩,
    ⟨.pn (opFieldAddr (some 24) 67 (.tmp 23) 1 1 1 false fl67_1 (by decide) 0 "ref.go:62" #[{ on := 2, ground := Ground.data }]) opFieldAddr_nat, none⟩,
    ⟨.qn (opLoadT (.one .any) (some 25) 65 (.tmp 24) (.slice 69) Try.underlying65 1 sz65 (by kernel_rfl) 65 "ref.go:62" #[{ on := 3, ground := Ground.data }]) opLoadT_nat, none⟩,
    ⟨.p (opMove (some 26) (.tmp 1) 3 "ref.go:62" #[]), none⟩,
    ⟨.p (opMove (some 27) (.tmp 2) 22 "ref.go:62" #[]), none⟩,
    ⟨.pn (opCallP p18 (some 28) [(.tmp 27)] #[22] 22 "ref.go:62" #[{ on := 6, ground := Ground.data }]) (opCallP_nat p18_nat), none⟩,
    ⟨.p (opBuild (some 29) 69 #[(.int .i64 0), (.slice none 0 0)] [(0, 0, 1, (.tmp 26)), (1, 1, 1, (.tmp 28))] ze69 (by kernel_rfl) 69 "ref.go:62" #[{ on := 5, ground := Ground.data }, { on := 7, ground := Ground.data }]), none⟩,
    ⟨.p (opBuildSlice (some 30) 65 1 [(0, (.tmp 29))] 69 2 32 (.agg #[(.int .i64 0), (.slice none 0 0)]) el65 (by kernel_rfl) (by decide) 65 "ref.go:62" #[{ on := 8, ground := Ground.data }]), none⟩,
    ⟨.mn (opAppendR (some (.tmp 0)) 2 (some 31) (.tmp 25) (.tmp 30) 65 65 69 2 32 (.agg #[(.int .i64 0), (.slice none 0 0)]) el65 (.slice 69) Try.underlying65 rfl 65 "ref.go:62" #[{ on := 4, ground := Ground.data }, { on := 9, ground := Ground.data }, { on := 7, ground := Ground.chain }]) opAppendR_nat, none⟩,
    ⟨.p (opNilCheck (some 32) (.tmp 21) 0 "ref.go:62" #[{ on := 0, ground := Ground.data }, { on := 0, ground := Ground.phase }, { on := 1, ground := Ground.phase }, { on := 2, ground := Ground.phase }, { on := 3, ground := Ground.phase }, { on := 4, ground := Ground.phase }, { on := 5, ground := Ground.phase }, { on := 6, ground := Ground.phase }, { on := 7, ground := Ground.phase }, { on := 8, ground := Ground.phase }, { on := 9, ground := Ground.phase }, { on := 10, ground := Ground.phase }]), none⟩,
    ⟨.pn (opFieldAddr (some 33) 67 (.tmp 32) 1 1 1 false fl67_1 (by decide) 0 "ref.go:62" #[{ on := 11, ground := Ground.data }, { on := 0, ground := Ground.phase }, { on := 1, ground := Ground.phase }, { on := 2, ground := Ground.phase }, { on := 3, ground := Ground.phase }, { on := 4, ground := Ground.phase }, { on := 5, ground := Ground.phase }, { on := 6, ground := Ground.phase }, { on := 7, ground := Ground.phase }, { on := 8, ground := Ground.phase }, { on := 9, ground := Ground.phase }, { on := 10, ground := Ground.phase }]) opFieldAddr_nat, none⟩,
    ⟨.m (opStore none 65 (.tmp 33) (.tmp 31) 1 sz65 0 "ref.go:62" #[{ on := 12, ground := Ground.data }, { on := 10, ground := Ground.data }, { on := 10, ground := Ground.chain }, { on := 0, ground := Ground.phase }, { on := 1, ground := Ground.phase }, { on := 2, ground := Ground.phase }, { on := 3, ground := Ground.phase }, { on := 4, ground := Ground.phase }, { on := 5, ground := Ground.phase }, { on := 6, ground := Ground.phase }, { on := 7, ground := Ground.phase }, { on := 8, ground := Ground.phase }, { on := 9, ground := Ground.phase }, { on := 10, ground := Ground.phase }]), none⟩
  ] mixed (by kernel_rfl)))
  (.seq (.live [6] (.region 6 [
    ⟨(opAssign (some 6) (.const (Value.int IntKind.i64 0)) 25 "ref.go:63" #[]).op, none⟩
  ] (by kernel_rfl)))
  (.live [6] .ret))))))

noncomputable def f31 : Fun Try.prog where
  id := 31
  fn := Try.f31
  hf := Try.func31
  hname := by kernel_rfl
  body := f31_b
  hbody := by kernel_rfl
  res := [rTmp 6]
  hres := by kernel_rfl
  n := 34
  hn := by kernel_rfl

end Go.Proofs.Ytclghabbhpaafaa.V

/- What the functions' runs come to; the right sides were printed by a tool, Lean checks them. -/
set_option linter.unusedVariables false
set_option maxRecDepth 100000
namespace Go.Proofs.Ytclghabbhpaafaa.V
open Go Go.V Go.RowKit

theorem copyv_run (F : Nat) (z : Bool) (l : List (List AV)) :
    (g18.run F [.ns z 1 l] ⟨[], []⟩ : Ans) =
    branch (AV.bool (true && apOk (0 + l.length) 1))
      (branch (AV.bool (l.length.beq 0)) (some (Fin.ret (AV.sl 1 true []), St.mk [] []))
        (some
          (Fin.ret (AV.vs 0 0 1 (0 + l.length)),
            St.mk [Ob.vec 0 (catC (catC [] 0 []) (mulN 0 1) l)] [])))
      none := by kernel_rfl

theorem rload_run (F : Nat) (z : Bool) (l : List (List AV)) (n : Int) :
    (f19.run F [.ns z 1 l, .int .i64 n] ⟨[], []⟩ : Ans) =
    branch (AV.bool (decide (n < (1 : Int))))
      (some (Fin.ret (AV.tup [AV.nilptr, AV.int IntKind.i64 (41 : Int)]), St.mk [] []))
      (branch (AV.bool (decide (n > (65536 : Int))))
        (some (Fin.ret (AV.tup [AV.nilptr, AV.int IntKind.i64 (41 : Int)]), St.mk [] []))
        (loopRun (f19_l0.run F) [0, 1, 6, 7]
          (Cont.block 0 (Cont.then (f19_r0.run F (f19.leaveK Fun.done)) (f19.leaveK Fun.done))) F
          (Env.mk 45
            [(0, AV.ns z 1 l), (1, AV.int IntKind.i64 n), (6, AV.ptr 0 0),
              (7, AV.int IntKind.i64 (0 : Int))])
          (St.mk [Ob.cells [AV.nilsl, AV.nilsl], Ob.nov 0, Ob.nov 0, Ob.nov 0] []))) := by kernel_rfl

theorem rload_round0 (F m : Nat) (K : Cont) (z : Bool) (l : List (List AV)) (n i : Int) :
    (loopRun (f19_l0.run F) [0, 1, 6, 7] K m.succ (Env.mk 45 [(0, .ns z 1 l), (1, .int .i64 n), (6, .ptr 0 0), (7, .int .i64 i)]) ⟨[.cells [.nilsl, .nilsl], .nov 0, .nov 0, .nov 0], []⟩ : Ans) =
    branch (AV.bool (decide (i < n)))
      (branch (AV.bool (mkOk 1 (64 : Int)))
        (branch (AV.bool (decide (IntKind.i64.wrap ((64 : Int) * i) < (↑l.length : Int))))
          (if (0 : Int) ≤ IntKind.i64.wrap ((64 : Int) * i) ∧ IntKind.i64.wrap ((64 : Int) * i) ≤ (↑l.length : Int) then
            branch
              (AV.bool
                (true &&
                  inC (zerC 64 [AV.int IntKind.u8 (0 : Int)]) 0
                    (mulN
                      (minN (List.drop (IntKind.i64.wrap ((64 : Int) * i)).toNat (List.take l.length l)).length 64)
                      1)))
              (branch
                (AV.bool
                  (true &&
                    inC
                      (setC (zerC 64 [AV.int IntKind.u8 (0 : Int)]) 0
                        (flC (List.drop (IntKind.i64.wrap ((64 : Int) * i)).toNat (List.take l.length l))
                          (minN (List.drop (IntKind.i64.wrap ((64 : Int) * i)).toNat (List.take l.length l)).length
                            64)))
                      0 (mulN 64 1)))
                (branch (AV.bool (apOk 1 24))
                  (loopRun (f19_l0.run F) [0, 1, 6, 7] K m
                    (Env.mk 45
                      [(0, AV.ns z 1 l), (1, AV.int IntKind.i64 n),
                        (6, AV.ptr 0 0),
                        (7, AV.int IntKind.i64 (IntKind.i64.wrap (i + (1 : Int))))])
                    (St.mk
                      [Ob.cells [AV.vs 1 1 1 1, AV.nilsl],
                        Ob.vec 1
                          (catC [] 0
                            [[AV.ns false 1
                                  (rowsC 1 64
                                    (setC (zerC 64 [AV.int IntKind.u8 (0 : Int)]) 0
                                      (flC (List.drop (IntKind.i64.wrap ((64 : Int) * i)).toNat (List.take l.length l))
                                        (minN
                                          (List.drop (IntKind.i64.wrap ((64 : Int) * i)).toNat
                                              (List.take l.length l)).length
                                          64)))
                                    0)]]),
                        Ob.nov 0, Ob.nov 2]
                      []))
                  none)
                none)
              none
          else none)
          (branch
            (AV.bool (true && inC (zerC 64 [AV.int IntKind.u8 (0 : Int)]) 0 (mulN 64 1)))
            (branch (AV.bool (apOk 1 24))
              (loopRun (f19_l0.run F) [0, 1, 6, 7] K m
                (Env.mk 45
                  [(0, AV.ns z 1 l), (1, AV.int IntKind.i64 n),
                    (6, AV.ptr 0 0),
                    (7, AV.int IntKind.i64 (IntKind.i64.wrap (i + (1 : Int))))])
                (St.mk
                  [Ob.cells [AV.vs 1 1 1 1, AV.nilsl],
                    Ob.vec 1
                      (catC [] 0
                        [[AV.ns false 1
                              (rowsC 1 64 (zerC 64 [AV.int IntKind.u8 (0 : Int)]) 0)]]),
                    Ob.nov 0, Ob.nov 2]
                  []))
              none)
            none))
        none)
      (K (AX.exit 0) (Env.mk 45 [(6, AV.ptr 0 0)])
        (St.mk [Ob.cells [AV.nilsl, AV.nilsl], Ob.nov 0, Ob.nov 0, Ob.nov 0] [])) := by kernel_rfl

theorem rload_round (F m : Nat) (K : Cont) (z : Bool) (l : List (List AV)) (n i : Int) (v k u : Nat) (cs : List AV) :
    (loopRun (f19_l0.run F) [0, 1, 6, 7] K m.succ (Env.mk 45 [(0, .ns z 1 l), (1, .int .i64 n), (6, .ptr 0 0), (7, .int .i64 i)]) ⟨[.cells [.vs 1 v 1 k, .nilsl], .vec v cs, .nov 0, .nov u], []⟩ : Ans) =
    branch (AV.bool (decide (i < n)))
      (branch (AV.bool (mkOk 1 (64 : Int)))
        (branch (AV.bool (decide (IntKind.i64.wrap ((64 : Int) * i) < (↑l.length : Int))))
          (if (0 : Int) ≤ IntKind.i64.wrap ((64 : Int) * i) ∧ IntKind.i64.wrap ((64 : Int) * i) ≤ (↑l.length : Int) then
            branch
              (AV.bool
                ((u + 1).beq (u + 1) &&
                  inC (zerC 64 [AV.int IntKind.u8 (0 : Int)]) 0
                    (mulN
                      (minN (List.drop (IntKind.i64.wrap ((64 : Int) * i)).toNat (List.take l.length l)).length 64)
                      1)))
              (branch
                (AV.bool
                  ((u + 1).beq (u + 1) &&
                    inC
                      (setC (zerC 64 [AV.int IntKind.u8 (0 : Int)]) 0
                        (flC (List.drop (IntKind.i64.wrap ((64 : Int) * i)).toNat (List.take l.length l))
                          (minN (List.drop (IntKind.i64.wrap ((64 : Int) * i)).toNat (List.take l.length l)).length
                            64)))
                      0 (mulN 64 1)))
                (branch (AV.bool (v.beq v && (inC cs 0 (mulN k 1) && apOk (k + 1) 24)))
                  (loopRun (f19_l0.run F) [0, 1, 6, 7] K m
                    (Env.mk 45
                      [(0, AV.ns z 1 l), (1, AV.int IntKind.i64 n),
                        (6, AV.ptr 0 0),
                        (7, AV.int IntKind.i64 (IntKind.i64.wrap (i + (1 : Int))))])
                    (St.mk
                      [Ob.cells [AV.vs 1 (v + 1) 1 (k + 1), AV.nilsl],
                        Ob.vec (v + 1)
                          (catC cs (mulN k 1)
                            [[AV.ns false 1
                                  (rowsC 1 64
                                    (setC (zerC 64 [AV.int IntKind.u8 (0 : Int)]) 0
                                      (flC (List.drop (IntKind.i64.wrap ((64 : Int) * i)).toNat (List.take l.length l))
                                        (minN
                                          (List.drop (IntKind.i64.wrap ((64 : Int) * i)).toNat
                                              (List.take l.length l)).length
                                          64)))
                                    0)]]),
                        Ob.nov 0, Ob.nov (u + 1 + 1)]
                      []))
                  none)
                none)
              none
          else none)
          (branch
            (AV.bool
              ((u + 1).beq (u + 1) &&
                inC (zerC 64 [AV.int IntKind.u8 (0 : Int)]) 0 (mulN 64 1)))
            (branch (AV.bool (v.beq v && (inC cs 0 (mulN k 1) && apOk (k + 1) 24)))
              (loopRun (f19_l0.run F) [0, 1, 6, 7] K m
                (Env.mk 45
                  [(0, AV.ns z 1 l), (1, AV.int IntKind.i64 n),
                    (6, AV.ptr 0 0),
                    (7, AV.int IntKind.i64 (IntKind.i64.wrap (i + (1 : Int))))])
                (St.mk
                  [Ob.cells [AV.vs 1 (v + 1) 1 (k + 1), AV.nilsl],
                    Ob.vec (v + 1)
                      (catC cs (mulN k 1)
                        [[AV.ns false 1
                              (rowsC 1 64 (zerC 64 [AV.int IntKind.u8 (0 : Int)]) 0)]]),
                    Ob.nov 0, Ob.nov (u + 1 + 1)]
                  []))
              none)
            none))
        none)
      (K (AX.exit 0) (Env.mk 45 [(6, AV.ptr 0 0)])
        (St.mk [Ob.cells [AV.vs 1 v 1 k, AV.nilsl], Ob.vec v cs, Ob.nov 0, Ob.nov u] [])) := by kernel_rfl

theorem rload_out (F : Nat) (st : St) :
    ((Cont.block 0 (Cont.then (f19_r0.run F (f19.leaveK Fun.done)) (f19.leaveK Fun.done))) (.exit 0) (Env.mk 45 [(6, .ptr 0 0)]) st : Ans) =
    some (Fin.ret (AV.tup [AV.ptr 0 0, AV.int IntKind.i64 (0 : Int)]), st) := by kernel_rfl

theorem rimage_run (F : Nat) (a b c d : Ob) :
    (f29.run F [.ptr 0 0] ⟨[a, b, c, d], []⟩ : Ans) =
    loopRun (f29_l0.run F) [0, 3, 4]
      (Cont.block 0 (Cont.then (f29_r0.run F (f29.leaveK Fun.done)) (f29.leaveK Fun.done))) F
      (Env.mk 25
        [(0, AV.ptr 0 0), (3, AV.sl 1 true []),
          (4, AV.int IntKind.i64 (0 : Int))])
      (St.mk [a, b, c, d] []) := by kernel_rfl

theorem rimage_round0 (F m : Nat) (K : Cont) (i : Int) (v k : Nat) (cs : List AV) (x : AV) (c d : Ob) :
    (loopRun (f29_l0.run F) [0, 3, 4] K m.succ (Env.mk 25 [(0, .ptr 0 0), (3, .sl 1 true []), (4, .int .i64 i)]) ⟨[.cells [.vs 1 v 1 k, x], .vec v cs, c, d], []⟩ : Ans) =
    branch (AV.bool (decide (i < (↑k : Int))))
      (if (0 : Int) ≤ i ∧ i < (↑k : Int) then
        branch (AV.bool (v.beq v))
          (branch (AV.bool ((LD.one (LT.ns 1)).is (List.drop (i.toNat * 1) cs)))
            (branch (AV.bool (true && apOk (0 + (rwA (List.drop (i.toNat * 1) cs)).length) 1))
              (branch (AV.bool ((rwA (List.drop (i.toNat * 1) cs)).length.beq 0))
                (loopRun (f29_l0.run F) [0, 3, 4] K m
                  (Env.mk 25
                    [(0, AV.ptr 0 0), (3, AV.sl 1 true []),
                      (4, AV.int IntKind.i64 (IntKind.i64.wrap (i + (1 : Int))))])
                  (St.mk [Ob.cells [AV.vs 1 v 1 k, x], Ob.vec v cs, c, d] []))
                (loopRun (f29_l0.run F) [0, 3, 4] K m
                  (Env.mk 25
                    [(0, AV.ptr 0 0),
                      (3,
                        AV.vs 4 0 1
                          (0 + (rwA (List.drop (i.toNat * 1) cs)).length)),
                      (4, AV.int IntKind.i64 (IntKind.i64.wrap (i + (1 : Int))))])
                  (St.mk
                    [Ob.cells [AV.vs 1 v 1 k, x], Ob.vec v cs, c, d,
                      Ob.vec 0
                        (catC (catC [] 0 []) (mulN 0 1) (rwA (List.drop (i.toNat * 1) cs)))]
                    [])))
              none)
            none)
          none
      else none)
      (K (AX.exit 0) (Env.mk 25 [(3, AV.sl 1 true [])])
        (St.mk [Ob.cells [AV.vs 1 v 1 k, x], Ob.vec v cs, c, d] [])) := by kernel_rfl

theorem rimage_round (F m : Nat) (K : Cont) (i : Int) (v k u q : Nat) (cs ds : List AV) (x : AV) (c d : Ob) :
    (loopRun (f29_l0.run F) [0, 3, 4] K m.succ (Env.mk 25 [(0, .ptr 0 0), (3, .vs 4 u 1 q), (4, .int .i64 i)]) ⟨[.cells [.vs 1 v 1 k, x], .vec v cs, c, d, .vec u ds], []⟩ : Ans) =
    branch (AV.bool (decide (i < (↑k : Int))))
      (if (0 : Int) ≤ i ∧ i < (↑k : Int) then
        branch (AV.bool (v.beq v))
          (branch (AV.bool ((LD.one (LT.ns 1)).is (List.drop (i.toNat * 1) cs)))
            (branch
              (AV.bool
                (u.beq u &&
                  (inC ds 0 (mulN q 1) &&
                    apOk (q + (rwA (List.drop (i.toNat * 1) cs)).length) 1)))
              (loopRun (f29_l0.run F) [0, 3, 4] K m
                (Env.mk 25
                  [(0, AV.ptr 0 0),
                    (3,
                      AV.vs 4 (u + 1) 1 (q + (rwA (List.drop (i.toNat * 1) cs)).length)),
                    (4, AV.int IntKind.i64 (IntKind.i64.wrap (i + (1 : Int))))])
                (St.mk
                  [Ob.cells [AV.vs 1 v 1 k, x], Ob.vec v cs, c, d,
                    Ob.vec (u + 1) (catC ds (mulN q 1) (rwA (List.drop (i.toNat * 1) cs)))]
                  []))
              none)
            none)
          none
      else none)
      (K (AX.exit 0) (Env.mk 25 [(3, AV.vs 4 u 1 q)])
        (St.mk [Ob.cells [AV.vs 1 v 1 k, x], Ob.vec v cs, c, d, Ob.vec u ds] [])) := by kernel_rfl

theorem rimage_out (F : Nat) (a b c d : Ob) (u q : Nat) (ds : List AV) :
    ((Cont.block 0 (Cont.then (f29_r0.run F (f29.leaveK Fun.done)) (f29.leaveK Fun.done))) (.exit 0) (Env.mk 25 [(3, .vs 4 u 1 q)]) ⟨[a, b, c, d, .vec u ds], []⟩ : Ans) =
    branch (AV.bool (u.beq u && inC ds 0 (mulN q 1)))
      (some
        (Fin.ret (AV.ns false 1 (rowsC 1 q ds 0)), St.mk [a, b, c, d, Ob.nov (u + 1)] []))
      none := by kernel_rfl

theorem rread_run (F : Nat) (k : Int) (v n : Nat) (cs : List AV) (x : AV) (c d : Ob) :
    (f30.run F [.ptr 0 0, .int .i64 k] ⟨[.cells [.vs 1 v 1 n, x], .vec v cs, c, d], []⟩ : Ans) =
    branch (AV.bool (decide (k < (0 : Int))))
      (some
        (Fin.ret (AV.tup [AV.nilsl, AV.int IntKind.i64 (40 : Int)]),
          St.mk [Ob.cells [AV.vs 1 v 1 n, x], Ob.vec v cs, c, d] []))
      (branch (AV.bool (decide (k ≥ (↑n : Int))))
        (some
          (Fin.ret (AV.tup [AV.nilsl, AV.int IntKind.i64 (40 : Int)]),
            St.mk [Ob.cells [AV.vs 1 v 1 n, x], Ob.vec v cs, c, d] []))
        (if (0 : Int) ≤ k ∧ k < (↑n : Int) then
          branch (AV.bool (v.beq v))
            (branch (AV.bool ((LD.one (LT.ns 1)).is (List.drop (k.toNat * 1) cs)))
              (branch
                (AV.bool
                  (byOk (rwA (List.drop (k.toNat * 1) cs)) &&
                    apOk (rwA (List.drop (k.toNat * 1) cs)).length 1))
                (loopRun (f30_l0.run F) [0, 1, 6, 7]
                  (Cont.block 0 (Cont.then (f30_r0.run F (f30.leaveK Fun.done)) (f30.leaveK Fun.done))) F
                  (Env.mk 56
                    [(0, AV.ptr 0 0), (1, AV.int IntKind.i64 k),
                      (6, AV.sl 1 false (rwA (List.drop (k.toNat * 1) cs))),
                      (7, AV.int IntKind.i64 (0 : Int))])
                  (St.mk [Ob.cells [AV.vs 1 v 1 n, x], Ob.vec v cs, c, d] []))
                none)
              none)
            none
        else none)) := by kernel_rfl

theorem rread_round (F m : Nat) (K : Cont) (k i : Int) (y x : AV) (v n : Nat) (cs : List AV) (b d : Ob) :
    (loopRun (f30_l0.run F) [0, 1, 6, 7] K m.succ (Env.mk 56 [(0, .ptr 0 0), (1, .int .i64 k), (6, y), (7, .int .i64 i)]) ⟨[.cells [x, .vs 2 v 2 n], b, .vec v cs, d], []⟩ : Ans) =
    branch (AV.bool (decide (i < (↑n : Int))))
      (if (0 : Int) ≤ i ∧ i < (↑n : Int) then
        branch (AV.bool (v.beq v))
          (branch (AV.bool ((LD.one (LT.int IntKind.i64)).is (List.drop (i.toNat * 2 + 0) cs)))
            (branch (AV.bool (hdI (List.drop (i.toNat * 2 + 0) cs) == k))
              (if (0 : Int) ≤ i ∧ i < (↑n : Int) then
                branch (AV.bool (v.beq v))
                  (branch (AV.bool ((LD.one (LT.ns 1)).is (List.drop (i.toNat * 2 + 1) cs)))
                    (branch
                      (AV.bool
                        (byOk (rwA (List.drop (i.toNat * 2 + 1) cs)) &&
                          apOk (rwA (List.drop (i.toNat * 2 + 1) cs)).length 1))
                      (loopRun (f30_l0.run F) [0, 1, 6, 7] K m
                        (Env.mk 56
                          [(0, AV.ptr 0 0), (1, AV.int IntKind.i64 k),
                            (6, AV.sl 1 false (rwA (List.drop (i.toNat * 2 + 1) cs))),
                            (7, AV.int IntKind.i64 (IntKind.i64.wrap (i + (1 : Int))))])
                        (St.mk [Ob.cells [x, AV.vs 2 v 2 n], b, Ob.vec v cs, d] []))
                      none)
                    none)
                  none
              else none)
              (loopRun (f30_l0.run F) [0, 1, 6, 7] K m
                (Env.mk 56
                  [(0, AV.ptr 0 0), (1, AV.int IntKind.i64 k), (6, y),
                    (7, AV.int IntKind.i64 (IntKind.i64.wrap (i + (1 : Int))))])
                (St.mk [Ob.cells [x, AV.vs 2 v 2 n], b, Ob.vec v cs, d] [])))
            none)
          none
      else none)
      (K (AX.exit 0) (Env.mk 56 [(6, y)])
        (St.mk [Ob.cells [x, AV.vs 2 v 2 n], b, Ob.vec v cs, d] [])) := by kernel_rfl

theorem rread_round0 (F m : Nat) (K : Cont) (k i : Int) (y x : AV) (b c d : Ob) :
    (loopRun (f30_l0.run F) [0, 1, 6, 7] K m.succ (Env.mk 56 [(0, .ptr 0 0), (1, .int .i64 k), (6, y), (7, .int .i64 i)]) ⟨[.cells [x, .nilsl], b, c, d], []⟩ : Ans) =
    branch (AV.bool (decide (i < (0 : Int)))) none
      (K (AX.exit 0) (Env.mk 56 [(6, y)]) (St.mk [Ob.cells [x, AV.nilsl], b, c, d] [])) := by kernel_rfl

theorem rread_out (F : Nat) (y : AV) (st : St) :
    ((Cont.block 0 (Cont.then (f30_r0.run F (f30.leaveK Fun.done)) (f30.leaveK Fun.done))) (.exit 0) (Env.mk 56 [(6, y)]) st : Ans) =
    some (Fin.ret (AV.tup [y, AV.int IntKind.i64 (0 : Int)]), st) := by kernel_rfl

theorem rwrite_run (F : Nat) (k : Int) (z : Bool) (l : List (List AV)) (v n w m : Nat) (cs ds : List AV) (b d : Ob) :
    (f31.run F [.ptr 0 0, .int .i64 k, .ns z 1 l] ⟨[.cells [.vs 1 v 1 n, .vs 2 w 2 m], b, .vec w ds, d], []⟩ : Ans) =
    branch (AV.bool (decide (k < (0 : Int))))
      (some
        (Fin.ret (AV.int IntKind.i64 (40 : Int)),
          St.mk [Ob.cells [AV.vs 1 v 1 n, AV.vs 2 w 2 m], b, Ob.vec w ds, d] []))
      (branch (AV.bool (decide (k ≥ (↑n : Int))))
        (some
          (Fin.ret (AV.int IntKind.i64 (40 : Int)),
            St.mk [Ob.cells [AV.vs 1 v 1 n, AV.vs 2 w 2 m], b, Ob.vec w ds, d] []))
        (branch (AV.bool ((↑l.length : Int) != (64 : Int)))
          (some
            (Fin.ret (AV.int IntKind.i64 (41 : Int)),
              St.mk [Ob.cells [AV.vs 1 v 1 n, AV.vs 2 w 2 m], b, Ob.vec w ds, d] []))
          (branch (AV.bool (byOk l && apOk l.length 1))
            (branch (AV.bool (w.beq w && (inC ds 0 (mulN m 2) && apOk (m + 1) 32)))
              (some
                (Fin.ret (AV.int IntKind.i64 (0 : Int)),
                  St.mk
                    [Ob.cells [AV.vs 1 v 1 n, AV.vs 2 (w + 1) 2 (m + 1)], b,
                      Ob.vec (w + 1) (catC ds (mulN m 2) [[AV.int IntKind.i64 k, AV.sl 1 false l]]),
                      d]
                    []))
              none)
            none))) := by kernel_rfl

theorem rwrite_run0 (F : Nat) (k : Int) (z : Bool) (l : List (List AV)) (v n w : Nat) (cs ds : List AV) (b d : Ob) :
    (f31.run F [.ptr 0 0, .int .i64 k, .ns z 1 l] ⟨[.cells [.vs 1 v 1 n, .nilsl], b, .nov w, d], []⟩ : Ans) =
    branch (AV.bool (decide (k < (0 : Int))))
      (some
        (Fin.ret (AV.int IntKind.i64 (40 : Int)),
          St.mk [Ob.cells [AV.vs 1 v 1 n, AV.nilsl], b, Ob.nov w, d] []))
      (branch (AV.bool (decide (k ≥ (↑n : Int))))
        (some
          (Fin.ret (AV.int IntKind.i64 (40 : Int)),
            St.mk [Ob.cells [AV.vs 1 v 1 n, AV.nilsl], b, Ob.nov w, d] []))
        (branch (AV.bool ((↑l.length : Int) != (64 : Int)))
          (some
            (Fin.ret (AV.int IntKind.i64 (41 : Int)),
              St.mk [Ob.cells [AV.vs 1 v 1 n, AV.nilsl], b, Ob.nov w, d] []))
          (branch (AV.bool (byOk l && apOk l.length 1))
            (branch (AV.bool (apOk 1 32))
              (some
                (Fin.ret (AV.int IntKind.i64 (0 : Int)),
                  St.mk
                    [Ob.cells [AV.vs 1 v 1 n, AV.vs 2 (w + 1) 2 1], b,
                      Ob.vec (w + 1) (catC [] 0 [[AV.int IntKind.i64 k, AV.sl 1 false l]]), d]
                    []))
              none)
            none))) := by kernel_rfl

theorem rwrite_run1 (F : Nat) (k : Int) (z : Bool) (l : List (List AV)) (v n w : Nat) (cs ds : List AV) (b d : Ob) :
    (f31.run F [.ptr 0 0, .int .i64 k, .ns z 1 l] ⟨[.cells [.vs 1 v 1 n, .nilsl], b, .vec w ds, d], []⟩ : Ans) =
    branch (AV.bool (decide (k < (0 : Int))))
      (some
        (Fin.ret (AV.int IntKind.i64 (40 : Int)),
          St.mk [Ob.cells [AV.vs 1 v 1 n, AV.nilsl], b, Ob.vec w ds, d] []))
      (branch (AV.bool (decide (k ≥ (↑n : Int))))
        (some
          (Fin.ret (AV.int IntKind.i64 (40 : Int)),
            St.mk [Ob.cells [AV.vs 1 v 1 n, AV.nilsl], b, Ob.vec w ds, d] []))
        (branch (AV.bool ((↑l.length : Int) != (64 : Int)))
          (some
            (Fin.ret (AV.int IntKind.i64 (41 : Int)),
              St.mk [Ob.cells [AV.vs 1 v 1 n, AV.nilsl], b, Ob.vec w ds, d] []))
          (branch (AV.bool (byOk l && apOk l.length 1))
            (branch (AV.bool (apOk 1 32))
              (some
                (Fin.ret (AV.int IntKind.i64 (0 : Int)),
                  St.mk
                    [Ob.cells [AV.vs 1 v 1 n, AV.vs 2 (w + 1) 2 1], b,
                      Ob.vec (w + 1) (catC [] 0 [[AV.int IntKind.i64 k, AV.sl 1 false l]]), d]
                    []))
              none)
            none))) := by kernel_rfl

end Go.Proofs.Ytclghabbhpaafaa.V

/- Disk: the reference's disk, plain. -/
set_option linter.unusedVariables false
namespace Go.Proofs.Ytclghabbhpaafaa.V
open Go Go.V Go.RowKit

/-! ### Cells that are sectors -/
def cellB (c : AV) : List Nat := nR (rwA [c])
def cellOk (c : AV) : Prop := ∃ b : List Nat, b.length = 64 ∧ (∀ x ∈ b, x < 256) ∧ (c = .sl 1 false (bR b) ∨ c = .ns false 1 (bR b))
theorem cellB_sl (b : List Nat) : cellB (.sl 1 false (bR b)) = b := nR_bR b
theorem cellB_ns (b : List Nat) : cellB (.ns false 1 (bR b)) = b := nR_bR b
theorem cellOk.spec {c : AV} (h : cellOk c) : (LD.one (.ns 1)).is [c] = true ∧ rwA [c] = bR (cellB c) ∧ (cellB c).length = 64 ∧ (∀ x ∈ cellB c, x < 256) ∧ (∀ n, Near n c) ∧ frz c = c := by
  obtain ⟨b, h1, h2, rfl | rfl⟩ := h
  · rw [cellB_sl]; exact ⟨rfl, rfl, h1, h2, fun n => bR_scoped b, rfl⟩
  · rw [cellB_ns]; exact ⟨rfl, rfl, h1, h2, fun n => bR_scoped b, rfl⟩
theorem cellOk_sl {b : List Nat} (h1 : b.length = 64) (h2 : ∀ x ∈ b, x < 256) : cellOk (.sl 1 false (bR b)) := ⟨b, h1, h2, .inl rfl⟩
theorem cellOk_ns {b : List Nat} (h1 : b.length = 64) (h2 : ∀ x ∈ b, x < 256) : cellOk (.ns false 1 (bR b)) := ⟨b, h1, h2, .inr rfl⟩
def rrow (w : Nat × AV) : List AV := [.int .i64 (w.1 : Int), w.2]
def rC (ws : List (Nat × AV)) : List AV := ws.flatMap rrow
theorem rC_length : ∀ ws : List (Nat × AV), (rC ws).length = ws.length * 2
  | [] => rfl
  | w :: ws => by
    have ih := rC_length ws
    simp only [rC, List.flatMap_cons, List.length_append, rrow, List.length_cons, List.length_nil] at ih ⊢
    omega
theorem rC_append (a b : List (Nat × AV)) : rC (a ++ b) = rC a ++ rC b := by simp [rC]
theorem rC_drop : ∀ {ws : List (Nat × AV)} {i : Nat} (h : i < ws.length), (rC ws).drop (i * 2) = .int .i64 (ws[i].1 : Int) :: ws[i].2 :: (rC ws).drop ((i + 1) * 2)
  | w :: ws, 0, h => by simp [rC, rrow]
  | w :: ws, i + 1, h => by
    have ih := rC_drop (ws := ws) (i := i) (by simpa using h)
    have e : ∀ k, (rC (w :: ws)).drop ((k + 1) * 2) = (rC ws).drop (k * 2) := fun k => by
      rw [show (k + 1) * 2 = 2 + k * 2 by omega, ← List.drop_drop]; rfl
    rw [e, e, ih]; rfl
theorem rC_inj : ∀ {a b : List (Nat × AV)}, rC a = rC b → a = b
  | [], [], _ => rfl
  | [], w :: _, h => by simp [rC, rrow] at h
  | w :: _, [], h => by simp [rC, rrow] at h
  | x :: a, y :: b, h => by
    simp only [rC, List.flatMap_cons, rrow, List.cons_append, List.nil_append, List.cons.injEq, AV.int.injEq, true_and] at h
    obtain ⟨h1, h2, h3⟩ := h
    rw [rC_inj (a := a) (b := b) h3]
    obtain ⟨x1, x2⟩ := x
    obtain ⟨y1, y2⟩ := y
    have h1 := Int.ofNat.inj h1
    simp only at h1 h2
    rw [h1, h2]

/-! ### The model -/
structure Rf where
  ls : List AV
  v : Nat
  ws : List (Nat × AV)
  W : Ob
  w : Nat
  u : Nat
def Rf.wr (Y : Rf) : AV :=
  match Y.ws with
  | [] => .nilsl
  | _ :: _ => .vs 2 Y.w 2 Y.ws.length
theorem Rf.wr_nil {Y : Rf} (h : Y.ws = []) : Y.wr = .nilsl := by rw [Rf.wr, h]
theorem Rf.wr_ne {Y : Rf} (h : Y.ws ≠ []) : Y.wr = .vs 2 Y.w 2 Y.ws.length := by unfold Rf.wr; split <;> simp_all
def Rf.obs (Y : Rf) : List Ob := [.cells [.vs 1 Y.v 1 Y.ls.length, Y.wr], .vec Y.v Y.ls, Y.W, .nov Y.u]
def Cok (c : AV) : Prop := (∃ k n, c = .int k n) ∨ cellOk c
structure Rf.Ok (Y : Rf) : Prop where
  n0 : 1 ≤ Y.ls.length
  n1 : Y.ls.length ≤ 65536
  w1 : Y.ws.length < 999999
  ls : ∀ c ∈ Y.ls, cellOk c
  ws : ∀ w ∈ Y.ws, w.1 < Y.ls.length ∧ cellOk w.2
  W0 : Y.ws = [] → (∃ ds, Y.W = .vec Y.w ds ∧ ∀ c ∈ ds, Cok c) ∨ Y.W = .nov Y.w
  W1 : Y.ws ≠ [] → Y.W = .vec Y.w (rC Y.ws)
theorem Cok_near {n : Nat} : ∀ {l : List AV}, (∀ c ∈ l, Cok c) → NearL n l
  | [], _ => trivial
  | c :: l, h => ⟨by
    rcases h c List.mem_cons_self with ⟨k, m, rfl⟩ | h
    · trivial
    · exact h.spec.2.2.2.2.1 n, Cok_near fun x hx => h x (List.mem_cons_of_mem _ hx)⟩
theorem rC_ok {ws : List (Nat × AV)} (h : ∀ w ∈ ws, cellOk w.2) : ∀ c ∈ rC ws, Cok c := fun c hc => by
  simp only [rC, List.mem_flatMap, rrow] at hc
  obtain ⟨w, hw, hc⟩ := hc
  rcases List.mem_cons.mp hc with rfl | hc
  · exact .inl ⟨_, _, rfl⟩
  · rcases List.mem_cons.mp hc with rfl | hc
    · exact .inr (h w hw)
    · cases hc
theorem Rf.near {Y : Rf} (h : Y.Ok) : ∀ o ∈ Y.obs, NearO 4 o := by
  intro o ho
  simp only [Rf.obs, List.mem_cons, List.not_mem_nil, or_false] at ho
  rcases ho with rfl | rfl | rfl | rfl
  · refine ⟨by show 1 < 4; omega, ?_, trivial⟩
    unfold Rf.wr; split
    · trivial
    · show 2 < 4; omega
  · exact Cok_near fun c hc => .inr (h.ls c hc)
  · by_cases e : Y.ws = []
    · rcases h.W0 e with ⟨ds, h1, h2⟩ | h1
      · rw [h1]; exact Cok_near h2
      · rw [h1]; trivial
    · rw [h.W1 e]; exact Cok_near (rC_ok fun w hw => (h.ws w hw).2)
  · trivial
theorem Rf.inj {X Y : Rf} (hX : X.Ok) (hY : Y.Ok) (h : X.obs = Y.obs) : X = Y := by
  simp only [Rf.obs, List.cons.injEq, Ob.cells.injEq, Ob.vec.injEq, Ob.nov.injEq, and_true] at h
  obtain ⟨⟨_, e3⟩, ⟨e1, e2⟩, e4, e5⟩ := h
  have e6 : X.ws = Y.ws ∧ X.w = Y.w := by
    by_cases hx : X.ws = []
    · rw [Rf.wr_nil hx] at e3
      have hy : Y.ws = [] := by
        by_cases hy : Y.ws = []
        · exact hy
        · rw [Rf.wr_ne hy] at e3; cases e3
      refine ⟨by rw [hx, hy], ?_⟩
      rcases hX.W0 hx with ⟨cs, h, _⟩ | h <;> rcases hY.W0 hy with ⟨ds, k, _⟩ | k <;> rw [h, k] at e4
      · simp only [Ob.vec.injEq] at e4; exact e4.1
      · cases e4
      · cases e4
      · simp only [Ob.nov.injEq] at e4; exact e4
    · rw [Rf.wr_ne hx] at e3
      have hy : Y.ws ≠ [] := by intro hy; rw [Rf.wr_nil hy] at e3; cases e3
      rw [Rf.wr_ne hy] at e3
      simp only [AV.vs.injEq] at e3
      refine ⟨?_, e3.2.1⟩
      rw [hX.W1 hx, hY.W1 hy] at e4
      simp only [Ob.vec.injEq] at e4
      exact rC_inj e4.2
  obtain ⟨x1, x2, x3, x4, x5, x6⟩ := X
  obtain ⟨y1, y2, y3, y4, y5, y6⟩ := Y
  simp only at e1 e2 e4 e5 e6
  obtain ⟨e6, e7⟩ := e6
  subst e1; subst e2; subst e4; subst e5; subst e6; subst e7
  rfl
/-- The reference's disk, as data. -/
def rfA : ADT Rf where
  m := 4
  p := 0
  hp := by decide
  obs := Rf.obs
  Ok := Rf.Ok
  len := fun _ => rfl
  near := fun _ h => Rf.near h
  inj := fun _ _ h k e => Rf.inj h k e

/-! ### Load -/
def secI (img : List Nat) (i : Nat) : List Nat := ((img.drop (i * 64)).take 64) ++ List.replicate (64 - ((img.drop (i * 64)).take 64).length) 0
theorem secI_len (img : List Nat) (i : Nat) : (secI img i).length = 64 := by
  rw [secI, List.length_append, List.length_replicate]
  have : ((img.drop (i * 64)).take 64).length ≤ 64 := by rw [List.length_take]; omega
  omega
theorem secI_byte {img : List Nat} (h : ∀ x ∈ img, x < 256) (i : Nat) : ∀ x ∈ secI img i, x < 256 := fun x hx => by
  rcases List.mem_append.mp hx with hx | hx
  · exact h x (List.mem_of_mem_drop (List.mem_of_mem_take hx))
  · rw [List.eq_of_mem_replicate hx]; omega
theorem sec_img {n i : Nat} {img : List Nat} (h : i < n) : sec (imgAt n img n) i = secI img i := by
  apply List.ext_getElem?
  intro j
  rw [sec_get, secI]
  by_cases hj : j < 64
  · rw [if_pos hj, imgAt]
    by_cases h1 : i * 64 + j < img.length
    · rw [List.getElem?_append_left (by rw [List.length_take]; omega), List.getElem?_take, if_pos (by omega), List.getElem?_append_left (by rw [List.length_take, List.length_drop]; omega), List.getElem?_take, if_pos hj, List.getElem?_drop]
    · rw [List.getElem?_append_right (by rw [List.length_take]; omega), List.getElem?_append_right (by rw [List.length_take, List.length_drop]; omega), List.getElem?_replicate, List.getElem?_replicate, if_pos (by rw [List.length_take]; omega), if_pos (by rw [List.length_take, List.length_drop]; omega)]
  · rw [if_neg hj, List.getElem?_eq_none (by rw [← secI, secI_len]; omega)]
def lC (img : List Nat) (k : Nat) : List AV := (List.range k).map fun i => .ns false 1 (bR (secI img i))
theorem lC_length (img : List Nat) (k : Nat) : (lC img k).length = k := by simp [lC]
theorem lC_succ (img : List Nat) (k : Nat) : lC img k ++ [.ns false 1 (bR (secI img k))] = lC img (k + 1) := by
  rw [lC, lC, List.range_succ, List.map_append]; rfl
theorem lC_ok {img : List Nat} (h : ∀ x ∈ img, x < 256) (k : Nat) : ∀ c ∈ lC img k, cellOk c := fun c hc => by
  simp only [lC, List.mem_map] at hc
  obtain ⟨i, _, rfl⟩ := hc
  exact cellOk_ns (secI_len img i) (secI_byte h i)
theorem zeros64 : zerC 64 [.int .u8 0] = bC (List.replicate 64 0) := zerC_byte 64
theorem row_zero {img : List Nat} {i : Nat} (h : img.length ≤ i * 64) : rowsC 1 64 (zerC 64 [.int .u8 0]) 0 = bR (secI img i) := by
  rw [zeros64, rowsC_bC (by simp), List.drop_zero, List.take_of_length_le (by simp), secI, List.drop_eq_nil_of_le h]; rfl
theorem row_img {img : List Nat} {i : Nat} : rowsC 1 64 (setC (zerC 64 [.int .u8 0]) 0 (flC (List.drop (i * 64) (List.take (bR img).length (bR img))) (minN (List.drop (i * 64) (List.take (bR img).length (bR img))).length 64))) 0 = bR (secI img i) ∧
    inC (zerC 64 [.int .u8 0]) 0 (mulN (minN (List.drop (i * 64) (List.take (bR img).length (bR img))).length 64) 1) = true ∧
    inC (setC (zerC 64 [.int .u8 0]) 0 (flC (List.drop (i * 64) (List.take (bR img).length (bR img))) (minN (List.drop (i * 64) (List.take (bR img).length (bR img))).length 64))) 0 (mulN 64 1) = true := by
  have e1 : List.drop (i * 64) (List.take (bR img).length (bR img)) = bR (img.drop (i * 64)) := by rw [List.take_of_length_le (Nat.le_refl _), bR_drop]
  have e2 : minN (bR (img.drop (i * 64))).length 64 = min (img.drop (i * 64)).length 64 := by rw [minN, opq_eq, bR_length]
  have e3 : (img.drop (i * 64)).take (min (img.drop (i * 64)).length 64) = (img.drop (i * 64)).take 64 := by
    rcases Nat.le_total (img.drop (i * 64)).length 64 with h' | h'
    · rw [Nat.min_eq_left h', List.take_of_length_le (Nat.le_refl _), List.take_of_length_le h']
    · rw [Nat.min_eq_right h']
  have hl : ((img.drop (i * 64)).take 64).length ≤ 64 := by rw [List.length_take]; omega
  rw [e1, e2, flC_bR, e3, zeros64, setC_bC (by rw [List.length_replicate]; omega), mulN_one, mulN_one]
  have e4 : putN (List.replicate 64 0) 0 ((img.drop (i * 64)).take 64) = secI img i := by
    rw [putN, List.take_zero, List.nil_append, Nat.zero_add, List.drop_replicate, secI]
  rw [e4]
  refine ⟨?_, inC_bC (by rw [List.length_replicate]; omega), inC_bC (by rw [secI_len]; omega)⟩
  rw [rowsC_bC (by rw [secI_len]; omega), List.drop_zero, List.take_of_length_le (by rw [secI_len]; omega)]
theorem rload_loop {F n : Nat} (hn : n ≤ 65536) (z : Bool) (img : List Nat) (hi : img.length < 4611686018427387904) : ∀ (d m i v u v' u' : Nat), i + d = n → d < m → v' = v + d → u' = u + 2 * d →
    loopRun (f19_l0.run F) [0, 1, 6, 7] (Cont.block 0 (Cont.then (f19_r0.run F (f19.leaveK Fun.done)) (f19.leaveK Fun.done))) m (Env.mk 45 [(0, .ns z 1 (bR img)), (1, .int .i64 (n : Int)), (6, .ptr 0 0), (7, .int .i64 (i : Int))]) ⟨[.cells [.vs 1 v 1 i, .nilsl], .vec v (lC img i), .nov 0, .nov u], []⟩ =
      some (.ret (.tup [.ptr 0 0, .int .i64 0]), ⟨[.cells [.vs 1 v' 1 n, .nilsl], .vec v' (lC img n), .nov 0, .nov u'], []⟩)
  | d, 0, i, v, u, v', u', h, hm, _, _ => by omega
  | 0, m + 1, i, v, u, v', u', h, hm, hv, hu => by
    obtain rfl : i = n := by omega
    obtain rfl : v' = v := hv
    obtain rfl : u' = u := hu
    rw [show m + 1 = m.succ from rfl, rload_round, branch_not (by simp), rload_out]
  | d + 1, m + 1, i, v, u, v', u', h, hm, hv, hu => by
    have ih := rload_loop (F := F) hn z img hi d m (i + 1) (v + 1) (u + 2) v' u' (by omega) (by omega) (by omega) (by omega)
    have w1 : IntKind.i64.wrap ((64 : Int) * (i : Int)) = ((i * 64 : Nat) : Int) := by rw [wrapS (by omega) (by omega)]; omega
    have w0 : IntKind.i64.wrap ((i : Int) + 1) = ((i + 1 : Nat) : Int) := wrap_succ (by omega)
    have hmk : mkOk 1 (64 : Int) = true := by rw [mkOk_iff]; decide
    have hap : (v.beq v && (inC (lC img i) 0 (mulN i 1) && apOk (i + 1) 24)) = true := by
      rw [Nat.beq_refl, mulN_one, show inC (lC img i) 0 i = true by rw [inC_iff, lC_length]; omega, show apOk (i + 1) 24 = true by rw [apOk_iff]; omega]; rfl
    have hcat : ∀ c, c = bR (secI img i) → catC (lC img i) (mulN i 1) [[.ns false 1 c]] = lC img (i + 1) := fun c hc => by
      rw [hc, catC_one (lC_length img i).symm, lC_succ]
    obtain ⟨r1, r2, r3⟩ := row_img (img := img) (i := i)
    rw [show m + 1 = m.succ from rfl, rload_round, branch_of (by simp; omega), branch_of hmk, w1, w0, bR_length]
    by_cases hlt : i * 64 < img.length
    · rw [branch_of (by rw [decide_eq_true_eq]; omega), if_pos ⟨by omega, by omega⟩, Int.toNat_natCast]
      rw [bR_length] at r1 r2 r3
      rw [branch_of (by rw [Nat.beq_refl, r2]; rfl), branch_of (by rw [Nat.beq_refl, r3]; rfl), branch_of hap, hcat _ r1]
      exact ih
    · rw [branch_not (by rw [decide_eq_false_iff_not]; omega), branch_of (by rw [Nat.beq_refl, zeros64, mulN_one, inC_bC (by simp)]; rfl), branch_of hap, hcat _ (row_zero (by omega))]
      exact ih
/-- A new one. -/
def Rf.new (n : Nat) (img : List Nat) : Rf := ⟨lC img n, n, [], .nov 0, 0, 2 * n⟩
theorem rnew_ok {n : Nat} {img : List Nat} (h0 : 1 ≤ n) (hn : n ≤ 65536) (hi : ∀ x ∈ img, x < 256) : (Rf.new n img).Ok where
  n0 := by show 1 ≤ (lC img n).length; rw [lC_length]; exact h0
  n1 := by show (lC img n).length ≤ _; rw [lC_length]; exact hn
  w1 := by show 0 < 999999; decide
  ls := lC_ok hi n
  ws := fun w hw => by cases hw
  W0 := fun _ => .inr rfl
  W1 := fun e => absurd rfl e
theorem rload_can (z : Bool) (l : List (List AV)) (hl : byOk l = true) (n : Nat) (h1 : 1 ≤ n) (hn : n ≤ 65536) : f19.run (n + 1) [.ns z 1 l, .int .i64 (n : Int)] ⟨[], []⟩ = some (.ret (.tup [.ptr 0 0, .int .i64 0]), ⟨(Rf.new n (nR l)).obs, []⟩) := by
  have hok := byOk_iff.mp hl
  have hil : (nR l).length < 4611686018427387904 := by rw [nR_length]; exact hok.2
  have ih := rload_loop (F := n + 1) hn z (nR l) hil (n - 1) n 1 1 2 n (2 * n) (by omega) (by omega) (by omega) (by omega)
  rw [rload_run, branch_not (by simp; omega), branch_not (by simp; omega)]
  have hr := okR_rows hok.1
  rw [← hr] at ih
  have hmk : mkOk 1 (64 : Int) = true := by rw [mkOk_iff]; decide
  have hap : apOk 1 24 = true := by rw [apOk_iff]; decide
  have w1 : IntKind.i64.wrap ((64 : Int) * (0 : Int)) = ((0 * 64 : Nat) : Int) := by decide
  have w0 : IntKind.i64.wrap ((0 : Int) + 1) = ((1 : Nat) : Int) := by decide
  have hcat : ∀ c, c = bR (secI (nR l) 0) → catC [] 0 [[.ns false 1 c]] = lC (nR l) 1 := fun c hc => by rw [hc, catC_nil]; rfl
  obtain ⟨r1, r2, r3⟩ := row_img (img := nR l) (i := 0)
  rw [← hr] at r1 r2 r3
  rw [show loopRun (f19_l0.run (n + 1)) [0, 1, 6, 7] (Cont.block 0 (Cont.then (f19_r0.run (n + 1) (f19.leaveK Fun.done)) (f19.leaveK Fun.done))) (n + 1) = loopRun (f19_l0.run (n + 1)) [0, 1, 6, 7] (Cont.block 0 (Cont.then (f19_r0.run (n + 1) (f19.leaveK Fun.done)) (f19.leaveK Fun.done))) n.succ from rfl, rload_round0, branch_of (by simp; omega), branch_of hmk, w1, w0]
  have hnew : (Rf.new n (nR l)).obs = [.cells [.vs 1 n 1 n, .nilsl], .vec n (lC (nR l) n), .nov 0, .nov (2 * n)] := by
    simp only [Rf.obs, Rf.new, lC_length, Rf.wr]
  rw [hnew, ← ih]
  by_cases hlt : 0 < l.length
  · rw [branch_of (by simpa using hlt), if_pos ⟨by omega, by omega⟩, Int.toNat_natCast]
    rw [branch_of (by rw [r2]; rfl), branch_of (by rw [r3]; rfl), branch_of hap, hcat _ r1]
  · rw [branch_not (by simpa using hlt), branch_of (by rw [zeros64, mulN_one, inC_bC (by simp)]; rfl), branch_of hap, hcat _ (row_zero (by rw [nR_length]; omega))]
theorem rload_bad {F : Nat} (z : Bool) (l : List (List AV)) (n : Int) (h : ¬ (1 ≤ n ∧ n ≤ 65536)) : f19.run F [.ns z 1 l, .int .i64 n] ⟨[], []⟩ = some (.ret (.tup [.nilptr, .int .i64 41]), ⟨[], []⟩) := by
  rw [rload_run]
  by_cases h0 : n < 1
  · rw [branch_of (by simpa using h0)]
  · rw [branch_not (by simpa using h0), branch_of (by simp; omega)]
end Go.Proofs.Ytclghabbhpaafaa.V

/- Disk: the reference's disk read, written, told as an image. -/
set_option linter.unusedVariables false
namespace Go.Proofs.Ytclghabbhpaafaa.V
open Go Go.V Go.RowKit

/-- Its writes, as bytes. -/
def Rf.wl (Y : Rf) : List (Nat × List Nat) := Y.ws.map fun w => (w.1, cellB w.2)
def Rf.at_ (Y : Rf) (k : Nat) : List Nat := cellB (Y.ls.getD k .nilsl)
def Rf.sector (Y : Rf) (k : Nat) : List Nat := (lastW Y.wl k).getD (Y.at_ k)
def Rf.inD (Y : Rf) (k : Int) : Bool := decide (0 ≤ k ∧ k < Y.ls.length)
def Rf.rdV (Y : Rf) (k : Int) : AV := bif Y.inD k then .sl 1 false (bR (Y.sector k.toNat)) else .nilsl
def Rf.rdB (Y : Rf) (k : Int) : List Nat := bif Y.inD k then Y.sector k.toNat else []
def Rf.rdE (Y : Rf) (k : Int) : Int := bif Y.inD k then 0 else 40
theorem Rf.Ok.at_cell {Y : Rf} (h : Y.Ok) {k : Nat} (hk : k < Y.ls.length) : cellOk Y.ls[k] ∧ Y.at_ k = cellB Y.ls[k] := by
  refine ⟨h.ls _ (List.getElem_mem hk), ?_⟩
  rw [Rf.at_, List.getD_eq_getElem?_getD, List.getElem?_eq_getElem hk]; rfl
theorem Rf.Ok.wl {Y : Rf} (h : Y.Ok) : ∀ w ∈ Y.wl, w.1 < Y.ls.length ∧ w.2.length = 64 ∧ ∀ x ∈ w.2, x < 256 := fun w hw => by
  simp only [Rf.wl, List.mem_map] at hw
  obtain ⟨y, hy, rfl⟩ := hw
  obtain ⟨h1, h2⟩ := h.ws y hy
  exact ⟨h1, h2.spec.2.2.1, h2.spec.2.2.2.1⟩
theorem cells_at {cs : List AV} {i : Nat} (hi : i < cs.length) (h : cellOk cs[i]) : (LD.one (.ns 1)).is (List.drop (i * 1) cs) = true ∧ rwA (List.drop (i * 1) cs) = bR (cellB cs[i]) ∧ byOk (bR (cellB cs[i])) = true := by
  rw [Nat.mul_one, is_at hi, rwA_at hi]
  have := h.spec
  exact ⟨this.1, this.2.1, byOk_bR this.2.2.2.1 (by omega)⟩
theorem rows_at {ws : List (Nat × AV)} {i : Nat} (hi : i < ws.length) (h : cellOk ws[i].2) : (LD.one (.int .i64)).is (List.drop (i * 2 + 0) (rC ws)) = true ∧ hdI (List.drop (i * 2 + 0) (rC ws)) = (ws[i].1 : Int) ∧
    (LD.one (.ns 1)).is (List.drop (i * 2 + 1) (rC ws)) = true ∧ rwA (List.drop (i * 2 + 1) (rC ws)) = bR (cellB ws[i].2) ∧ byOk (bR (cellB ws[i].2)) = true := by
  have e1 := rC_drop hi
  have e2 : List.drop (i * 2 + 1) (rC ws) = ws[i].2 :: (rC ws).drop ((i + 1) * 2) := by rw [← List.drop_drop, e1]; rfl
  have := h.spec
  rw [Nat.add_zero, e1, e2, rwA_head]
  refine ⟨rfl, rfl, ?_, this.2.1, byOk_bR this.2.2.2.1 (by omega)⟩
  show isLT (.ns 1) _ = true
  rw [isLT_head]; exact this.1
theorem ap64 {b : List Nat} (h : b.length = 64) : apOk (bR b).length 1 = true := by rw [bR_length, h, apOk_iff]; decide

/-! ### Read -/
theorem rread_loop (F : Nat) {Y : Rf} (h : Y.Ok) (hne : Y.ws ≠ []) (k : Nat) (x : AV) (b d : Ob) (B : List Nat) : ∀ (c m i : Nat), i + c = Y.ws.length → c < m →
    loopRun (f30_l0.run F) [0, 1, 6, 7] (Cont.block 0 (Cont.then (f30_r0.run F (f30.leaveK Fun.done)) (f30.leaveK Fun.done))) m (Env.mk 56 [(0, .ptr 0 0), (1, .int .i64 (k : Int)), (6, .sl 1 false (bR ((lastW (Y.wl.take i) k).getD B))), (7, .int .i64 (i : Int))]) ⟨[.cells [x, .vs 2 Y.w 2 Y.ws.length], b, .vec Y.w (rC Y.ws), d], []⟩ =
      some (.ret (.tup [.sl 1 false (bR ((lastW Y.wl k).getD B)), .int .i64 0]), ⟨[.cells [x, .vs 2 Y.w 2 Y.ws.length], b, .vec Y.w (rC Y.ws), d], []⟩)
  | c, 0, i, hi, hm => by omega
  | 0, m + 1, i, hi, hm => by
    have e : Y.wl.take i = Y.wl := List.take_of_length_le (by rw [Rf.wl, List.length_map]; omega)
    rw [show m + 1 = m.succ from rfl, rread_round, branch_not (by simp; omega), rread_out, e]
  | c + 1, m + 1, i, hi, hm => by
    have ih := rread_loop F h hne k x b d B c m (i + 1) (by omega) (by omega)
    have h1 : i < Y.ws.length := by omega
    have hw := h.ws _ (List.getElem_mem h1)
    obtain ⟨a1, a2, a3, a4, a5⟩ := rows_at h1 hw.2
    have w1 := h.w1
    have h2 : i < Y.wl.length := by rw [Rf.wl, List.length_map]; exact h1
    have e : Y.wl.take (i + 1) = Y.wl.take i ++ [(Y.ws[i].1, cellB Y.ws[i].2)] := by
      rw [List.take_succ_eq_append_getElem h2]
      simp only [Rf.wl, List.getElem_map]
    rw [e, lastW_append] at ih
    rw [show m + 1 = m.succ from rfl, rread_round, branch_of (by simp; omega), if_pos ⟨by omega, by omega⟩, branch_of (Nat.beq_refl _), Int.toNat_natCast, branch_of a1, a2, wrap_succ (by omega)]
    by_cases hk : Y.ws[i].1 = k
    · rw [if_pos hk] at ih
      rw [branch_of (by rw [hk]; simp), if_pos ⟨by omega, by omega⟩, branch_of (Nat.beq_refl _), branch_of a3, a4, branch_of (by rw [a5, ap64 hw.2.spec.2.2.1]; rfl)]
      exact ih
    · rw [if_neg hk] at ih
      rw [branch_not (by rw [beq_eq_false_iff_ne]; omega)]
      exact ih
theorem rread_can {Y : Rf} (h : Y.Ok) (k : Int) : f30.run 1000000 [.ptr 0 0, .int .i64 k] ⟨Y.obs, []⟩ = some (.ret (.tup [Y.rdV k, .int .i64 (Y.rdE k)]), ⟨Y.obs, []⟩) := by
  rw [Rf.obs, rread_run]
  by_cases hk : 0 ≤ k ∧ k < Y.ls.length
  · have e : Y.inD k = true := by rw [Rf.inD, decide_eq_true_eq]; exact hk
    obtain ⟨j, rfl⟩ := Int.eq_ofNat_of_zero_le hk.1
    have hj : j < Y.ls.length := by omega
    obtain ⟨c1, c2⟩ := h.at_cell hj
    obtain ⟨a1, a2, a3⟩ := cells_at hj c1
    rw [Rf.rdV, Rf.rdE, e, branch_not (by simp), branch_not (by simp; omega), if_pos hk, branch_of (Nat.beq_refl _), Int.toNat_natCast, branch_of a1, a2, branch_of (by rw [a3, ap64 c1.spec.2.2.1]; rfl)]
    rw [Rf.sector, c2]
    by_cases hne : Y.ws = []
    · rw [Rf.wr_nil hne, show loopRun (f30_l0.run 1000000) [0, 1, 6, 7] (Cont.block 0 (Cont.then (f30_r0.run 1000000 (f30.leaveK Fun.done)) (f30.leaveK Fun.done))) 1000000 = loopRun (f30_l0.run 1000000) [0, 1, 6, 7] (Cont.block 0 (Cont.then (f30_r0.run 1000000 (f30.leaveK Fun.done)) (f30.leaveK Fun.done))) (Nat.succ 999999) from rfl, rread_round0, branch_not (by rfl), rread_out, Rf.wl, hne]
      rfl
    · rw [Rf.wr_ne hne, h.W1 hne]
      have := h.w1
      exact rread_loop 1000000 h hne j _ _ _ (cellB Y.ls[j]) Y.ws.length 1000000 0 (by omega) (by omega)
  · have e : Y.inD k = false := by rw [Rf.inD, decide_eq_false_iff_not]; exact hk
    rw [Rf.rdV, Rf.rdE, e]
    by_cases h0 : k < 0
    · rw [branch_of (by simpa using h0)]; rfl
    · rw [branch_not (by simpa using h0), branch_of (by simp; omega)]; rfl
theorem rdV_near {Y : Rf} (k : Int) (n : Nat) : Near n (Y.rdV k) ∧ frz (Y.rdV k) = Y.rdV k ∧ ∀ ρ, ren ρ (Y.rdV k) = Y.rdV k := by
  unfold Rf.rdV
  cases Y.inD k
  · exact ⟨trivial, rfl, fun _ => rfl⟩
  · exact ⟨bR_scoped _, rfl, fun _ => rfl⟩
noncomputable def s30 : OrcS Try.prog := f30.by'
  (fun args st k => match args with
    | [x, n] => rfA.on x st fun i Y => onInt n fun kd n => ifT (decide (kd = .i64)) (k (.ret (.tup [.ns (!Y.inD n) 1 (bR (Y.rdB n)), .int .i64 (Y.rdE n)])) st)
    | _ => none)
  fun args st k fin h => by
    split at h
    · rename_i x n
      obtain ⟨i, Y, rfl, hd, g1⟩ := ADT.on_spec h
      obtain ⟨kd, n, g2, rfl⟩ := onInt_spec g1
      obtain ⟨hk, g3⟩ := ifT_spec g2
      obtain rfl := of_decide_eq_true hk
      obtain ⟨n1, n2, n3⟩ := rdV_near (Y := Y) n 4
      refine ⟨_, _, g3, ?_⟩
      have hfr : frz (.tup [Y.rdV n, .int .i64 (Y.rdE n)]) = .tup [Y.rdV n, .int .i64 (Y.rdE n)] := by
        unfold Rf.rdV
        cases Y.inD n <;> rfl
      have := ADT.placed (A := rfA) (f := f30) (args0 := [.ptr 0 0, .int .i64 n]) (r := .tup [Y.rdV n, .int .i64 (Y.rdE n)]) (xs := []) (by rw [List.append_nil]; exact rread_can hd.ok n) hd.ok ⟨by show 0 < 4; omega, trivial, trivial⟩ (by rw [hfr]; exact ⟨n1, trivial, trivial⟩) hd
      rw [hd.same, hfr] at this
      refine this.wkR fun g w v ⟨vs, e, v1, r1, q1, q2, q3⟩ => ⟨vs, e, v1, r1, q1, ?_, q3⟩
      rw [n3] at q2
      unfold Rf.rdV at q2
      unfold Rf.rdB
      cases hin : Y.inD n with
      | false => rw [hin] at q2; exact .inl ⟨rfl, rfl, q2⟩
      | true =>
        rw [hin] at q2
        obtain ⟨b', o, sp, cap, p1, p2, _, p3, p4⟩ := q2
        exact .inr ⟨rfl, b', o, sp, cap, p1, p2, p3, p4⟩
    · cases h

/-! ### Write -/
def Rf.put (Y : Rf) (k : Nat) (b : List Nat) : Rf := { Y with ws := Y.ws ++ [(k, .sl 1 false (bR b))], w := Y.w + 1, W := .vec (Y.w + 1) (rC (Y.ws ++ [(k, .sl 1 false (bR b))])) }
def Rf.wrE (Y : Rf) (k : Int) (len : Nat) : Int := if 0 ≤ k ∧ k < Y.ls.length then (if len = 64 then 0 else 41) else 40
def Rf.wrX (Y : Rf) (k : Int) (b : List Nat) : Rf := if 0 ≤ k ∧ k < Y.ls.length ∧ b.length = 64 then Y.put k.toNat b else Y
theorem Rf.Ok.put {Y : Rf} (h : Y.Ok) (hw : Y.ws.length < 99999) {k : Nat} {b : List Nat} (hk : k < Y.ls.length) (hb : b.length = 64) (hx : ∀ x ∈ b, x < 256) : (Y.put k b).Ok where
  n0 := h.n0
  n1 := h.n1
  w1 := by show (Y.ws ++ [_]).length < _; simp; omega
  ls := h.ls
  ws := fun w hw => by
    rcases List.mem_append.mp hw with hw | hw
    · exact h.ws w hw
    · simp at hw; subst hw; exact ⟨hk, cellOk_sl hb hx⟩
  W0 := fun e => by simp [Rf.put] at e
  W1 := fun _ => rfl
theorem Rf.Ok.wrX {Y : Rf} (h : Y.Ok) (hw : Y.ws.length < 99999) {k : Int} {b : List Nat} (hx : ∀ x ∈ b, x < 256) : (Y.wrX k b).Ok := by
  unfold Rf.wrX; split
  · rename_i hc; exact h.put hw (by omega) hc.2.2 hx
  · exact h
theorem Rf.wr_put (Y : Rf) (k : Nat) (b : List Nat) : (Y.put k b).wr = .vs 2 (Y.w + 1) 2 (Y.ws.length + 1) := by
  rw [Rf.wr_ne (by simp [Rf.put])]; simp [Rf.put]
theorem rwrite_can {F : Nat} {Y : Rf} (h : Y.Ok) (hw : Y.ws.length < 99999) (z : Bool) (l : List (List AV)) (hl : byOk l = true) (k : Int) :
    f31.run F [.ptr 0 0, .int .i64 k, .ns z 1 l] ⟨Y.obs, []⟩ = some (.ret (.int .i64 (Y.wrE k l.length)), ⟨(Y.wrX k (nR l)).obs, []⟩) := by
  have hr := okR_rows (byOk_iff.mp hl).1
  have hbl := hl
  generalize hb : nR l = b at hr
  subst hr
  rw [bR_length]
  have key : ∀ {R R' : Ans} (a c : Ans), (¬ (0 ≤ k ∧ k < Y.ls.length) → R' = a) → (0 ≤ k ∧ k < Y.ls.length → R' = c) → R' = branch (.bool (decide (k < 0))) a (branch (.bool (decide (k ≥ (Y.ls.length : Int)))) a c) := by
    intro R R' a c h1 h2
    by_cases h0 : k < 0
    · rw [branch_of (by simpa using h0)]; exact h1 (by omega)
    · rw [branch_not (by simpa using h0)]
      by_cases h3 : k ≥ (Y.ls.length : Int)
      · rw [branch_of (by simpa using h3)]; exact h1 (by omega)
      · rw [branch_not (by simpa using h3)]; exact h2 (by omega)
  by_cases hk : 0 ≤ k ∧ k < Y.ls.length
  · have hk1 : decide (k < 0) = false := by simpa using hk.1
    have hk2 : decide (k ≥ (Y.ls.length : Int)) = false := by simpa using hk.2
    by_cases h64 : b.length = 64
    · obtain ⟨j, rfl⟩ := Int.eq_ofNat_of_zero_le hk.1
      have hX : Y.wrX (j : Int) b = Y.put j b := by rw [Rf.wrX, if_pos ⟨hk.1, hk.2, h64⟩, Int.toNat_natCast]
      have hE : Y.wrE (j : Int) b.length = 0 := by rw [Rf.wrE, if_pos hk, if_pos h64]
      have c1 : ((((bR b).length : Nat) : Int) != 64) = false := by rw [bR_length, h64]; rfl
      have c2 : (byOk (bR b) && apOk (bR b).length 1) = true := by rw [hbl, ap64 h64]; rfl
      have hput : (Y.put j b).obs = [.cells [.vs 1 Y.v 1 Y.ls.length, .vs 2 (Y.w + 1) 2 (Y.ws.length + 1)], .vec Y.v Y.ls, .vec (Y.w + 1) (rC (Y.ws ++ [(j, .sl 1 false (bR b))])), .nov Y.u] := by
        rw [Rf.obs, Rf.wr_put]; rfl
      have a1 : apOk 1 32 = true := by rw [apOk_iff]; decide
      rw [hX, hE, hput, Rf.obs]
      by_cases hne : Y.ws = []
      · have cc : catC [] 0 [[.int .i64 (j : Int), .sl 1 false (bR b)]] = rC ([] ++ [(j, .sl 1 false (bR b))]) := by rw [catC_nil]; simp [rC, rrow]
        rw [Rf.wr_nil hne, hne]
        rcases h.W0 hne with ⟨cs, hW, _⟩ | hW
        · rw [hW, rwrite_run1 (cs := []), branch_not hk1, branch_not hk2, branch_not c1, branch_of c2, branch_of a1, cc]; rfl
        · rw [hW, rwrite_run0 (cs := []) (ds := []), branch_not hk1, branch_not hk2, branch_not c1, branch_of c2, branch_of a1, cc]; rfl
      · have hl2 := rC_length Y.ws
        have a2 : (Y.w.beq Y.w && (inC (rC Y.ws) 0 (mulN Y.ws.length 2) && apOk (Y.ws.length + 1) 32)) = true := by
          rw [Nat.beq_refl, show inC (rC Y.ws) 0 (mulN Y.ws.length 2) = true by rw [inC_iff, mulN, opq_eq]; omega, show apOk (Y.ws.length + 1) 32 = true by rw [apOk_iff]; omega]; rfl
        have cc : catC (rC Y.ws) (mulN Y.ws.length 2) [[.int .i64 (j : Int), .sl 1 false (bR b)]] = rC (Y.ws ++ [(j, .sl 1 false (bR b))]) := by
          rw [catC, opq_eq, mulN, opq_eq, List.take_of_length_le (by omega), rC_append]; simp [rC, rrow]
        rw [Rf.wr_ne hne, h.W1 hne, rwrite_run (cs := []), branch_not hk1, branch_not hk2, branch_not c1, branch_of c2, branch_of a2, cc]
    · have hX : Y.wrX k b = Y := by rw [Rf.wrX, if_neg (fun e => h64 e.2.2)]
      have hE : Y.wrE k b.length = 41 := by rw [Rf.wrE, if_pos hk, if_neg h64]
      have c1 : ((((bR b).length : Nat) : Int) != 64) = true := by rw [bR_length]; simp; omega
      rw [hX, hE, Rf.obs]
      by_cases hne : Y.ws = []
      · rw [Rf.wr_nil hne]
        rcases h.W0 hne with ⟨cs, hW, _⟩ | hW
        · rw [hW, rwrite_run1 (cs := []), branch_not hk1, branch_not hk2, branch_of c1]
        · rw [hW, rwrite_run0 (cs := []) (ds := []), branch_not hk1, branch_not hk2, branch_of c1]
      · rw [Rf.wr_ne hne, h.W1 hne, rwrite_run (cs := []), branch_not hk1, branch_not hk2, branch_of c1]
  · have hX : Y.wrX k b = Y := by rw [Rf.wrX, if_neg (fun e => hk ⟨e.1, e.2.1⟩)]
    have hE : Y.wrE k b.length = 40 := by rw [Rf.wrE, if_neg hk]
    rw [hX, hE, Rf.obs]
    by_cases hne : Y.ws = []
    · rw [Rf.wr_nil hne]
      rcases h.W0 hne with ⟨cs, hW, _⟩ | hW
      · rw [hW, rwrite_run1 (cs := [])]; exact (key (R := none) _ _ (fun _ => rfl) fun e => absurd e hk).symm
      · rw [hW, rwrite_run0 (cs := []) (ds := [])]; exact (key (R := none) _ _ (fun _ => rfl) fun e => absurd e hk).symm
    · rw [Rf.wr_ne hne, h.W1 hne, rwrite_run (cs := [])]; exact (key (R := none) _ _ (fun _ => rfl) fun e => absurd e hk).symm
noncomputable def s31 : OrcS Try.prog := f31.by'
  (fun args st k => match args with
    | [x, n, y] => rfA.on x st fun i Y => onInt n fun kd n => ifT (decide (kd = .i64) && decide (Y.ws.length < 99999)) (onNs 1 y fun _ l => ifT (byOk l) (k (.ret (.int .i64 (Y.wrE n l.length))) (rfA.pl st i (Y.wrX n (nR l)))))
    | _ => none)
  fun args st k fin h => by
    split at h
    · rename_i x n y
      obtain ⟨i, Y, rfl, hd, g1⟩ := ADT.on_spec h
      obtain ⟨kd, n, g2, rfl⟩ := onInt_spec g1
      obtain ⟨hk, g3⟩ := ifT_spec g2
      rw [Bool.and_eq_true, decide_eq_true_eq, decide_eq_true_eq] at hk
      obtain ⟨rfl, hw⟩ := hk
      obtain ⟨z, l, g4, hy⟩ := onNs_spec g3
      obtain ⟨hl, g5⟩ := ifT_spec g4
      have hok := byOk_iff.mp hl
      have := ADT.placed (A := rfA) (f := f31) (F := 0) (args0 := [.ptr 0 0, .int .i64 n, .ns z 1 l]) (r := .int .i64 (Y.wrE n l.length)) (xs := []) (by rw [List.append_nil]; exact rwrite_can hd.ok hw z l hl n) (hd.ok.wrX hw fun x hx => okR_lt hok.1 hx) ⟨by show 0 < 4; omega, trivial, okR_scoped hok.1, trivial⟩ trivial hd
      refine ⟨_, _, g5, this.wk fun g w vs ⟨v1, r1, e1, k1, v2, r2, e2, k2, v3, r3, e3, k3, k4⟩ => ⟨v1, r1, e1, k1, v2, r2, e2, k2, v3, r3, e3, hy g w v3 k3, k4⟩⟩
    · cases h

/-! ### Image -/
def Rf.img (Y : Rf) (k : Nat) : List Nat := (Y.ls.take k).flatMap cellB
theorem Rf.Ok.img_succ {Y : Rf} (h : Y.Ok) {k : Nat} (hk : k < Y.ls.length) : Y.img (k + 1) = Y.img k ++ cellB Y.ls[k] ∧ (Y.img k).length = k * 64 := by
  refine ⟨?_, ?_⟩
  · rw [Rf.img, List.take_succ_eq_append_getElem hk, List.flatMap_append]; simp [Rf.img]
  · have : ∀ l : List AV, (∀ c ∈ l, cellOk c) → (l.flatMap cellB).length = l.length * 64 := by
      intro l
      induction l with
      | nil => intro _; rfl
      | cons c l ih =>
        intro hh
        rw [List.flatMap_cons, List.length_append, ih fun x hx => hh x (List.mem_cons_of_mem _ hx), (hh c List.mem_cons_self).spec.2.2.1, List.length_cons]; omega
    rw [Rf.img, this _ fun c hc => h.ls c (List.mem_of_mem_take hc), List.length_take]
    congr 1; omega
theorem Rf.Ok.img_len {Y : Rf} (h : Y.Ok) : (Y.img Y.ls.length).length = Y.ls.length * 64 := by
  have h0 := h.n0
  have h1 : Y.ls.length - 1 < Y.ls.length := by omega
  obtain ⟨a1, a2⟩ := h.img_succ h1
  rw [show Y.ls.length - 1 + 1 = Y.ls.length by omega] at a1
  rw [a1, List.length_append, a2, (h.at_cell h1).1.spec.2.2.1]; omega
theorem Rf.Ok.img_byte {Y : Rf} (h : Y.Ok) (k : Nat) : ∀ x ∈ Y.img k, x < 256 := fun x hx => by
  simp only [Rf.img, List.mem_flatMap] at hx
  obtain ⟨c, hc, hx⟩ := hx
  exact (h.ls c (List.mem_of_mem_take hc)).spec.2.2.2.1 x hx
theorem rimage_loop (F : Nat) {Y : Rf} (h : Y.Ok) (x : AV) (c d : Ob) : ∀ (r m i u : Nat), i + r = Y.ls.length → r < m → ∃ u',
    loopRun (f29_l0.run F) [0, 3, 4] (Cont.block 0 (Cont.then (f29_r0.run F (f29.leaveK Fun.done)) (f29.leaveK Fun.done))) m (Env.mk 25 [(0, .ptr 0 0), (3, .vs 4 u 1 (i * 64)), (4, .int .i64 (i : Int))]) ⟨[.cells [.vs 1 Y.v 1 Y.ls.length, x], .vec Y.v Y.ls, c, d, .vec u (bC (Y.img i))], []⟩ =
      some (.ret (.ns false 1 (bR (Y.img Y.ls.length))), ⟨[.cells [.vs 1 Y.v 1 Y.ls.length, x], .vec Y.v Y.ls, c, d, .nov u'], []⟩)
  | r, 0, i, u, hi, hm => by omega
  | 0, m + 1, i, u, hi, hm => by
    obtain rfl : i = Y.ls.length := by omega
    have hl := h.img_len
    refine ⟨u + 1, ?_⟩
    rw [show m + 1 = m.succ from rfl, rimage_round, branch_not (by simp), rimage_out, mulN_one, branch_of (by rw [Nat.beq_refl, inC_bC (by omega)]; rfl), rowsC_bC (by omega), List.drop_zero, List.take_of_length_le (by omega)]
  | r + 1, m + 1, i, u, hi, hm => by
    have h1 : i < Y.ls.length := by omega
    obtain ⟨u', ih⟩ := rimage_loop F h x c d r m (i + 1) (u + 1) (by omega) (by omega)
    obtain ⟨c1, c2⟩ := h.at_cell h1
    obtain ⟨a1, a2, a3⟩ := cells_at h1 c1
    obtain ⟨b1, b2⟩ := h.img_succ h1
    have hn := h.n1
    have hc := c1.spec.2.2.1
    refine ⟨u', ?_⟩
    have e3 : catC (bC (Y.img i)) (i * 64) (bR (cellB Y.ls[i])) = bC (Y.img (i + 1)) := by
      rw [catC, opq_eq, List.take_of_length_le (by rw [bC_length]; omega), bR_flat, ← bC_append, b1]
    rw [show m + 1 = m.succ from rfl, rimage_round, branch_of (by simp; omega), if_pos ⟨by omega, by omega⟩, branch_of (Nat.beq_refl _), Int.toNat_natCast, branch_of a1, a2, mulN_one, bR_length, hc, branch_of (by rw [Nat.beq_refl, inC_bC (by omega), show apOk (i * 64 + 64) 1 = true by rw [apOk_iff]; omega]; rfl), e3, wrap_succ (by omega), show i * 64 + 64 = (i + 1) * 64 by omega]
    exact ih
theorem rimage_can {Y : Rf} (h : Y.Ok) : ∃ u, f29.run (Y.ls.length + 1) [.ptr 0 0] ⟨Y.obs, []⟩ = some (.ret (.ns false 1 (bR (Y.img Y.ls.length))), ⟨Y.obs ++ [.nov u], []⟩) := by
  have h1 : 0 < Y.ls.length := h.n0
  obtain ⟨u', ih⟩ := rimage_loop (Y.ls.length + 1) h Y.wr Y.W (.nov Y.u) (Y.ls.length - 1) Y.ls.length 1 0 (by omega) (by omega)
  refine ⟨u', ?_⟩
  obtain ⟨c1, c2⟩ := h.at_cell h1
  obtain ⟨a1, a2, a3⟩ := cells_at h1 c1
  have hc := c1.spec.2.2.1
  have e3 : catC (catC [] 0 []) (mulN 0 1) (bR (cellB Y.ls[0])) = bC (Y.img 1) := by
    rw [catC_nil, mulN_one, show ([] : List (List AV)).flatten = [] from rfl, catC_nil, bR_flat, (h.img_succ h1).1]; rfl
  rw [Rf.obs, rimage_run, show loopRun (f29_l0.run (Y.ls.length + 1)) [0, 3, 4] (Cont.block 0 (Cont.then (f29_r0.run (Y.ls.length + 1) (f29.leaveK Fun.done)) (f29.leaveK Fun.done))) (Y.ls.length + 1) = loopRun (f29_l0.run (Y.ls.length + 1)) [0, 3, 4] (Cont.block 0 (Cont.then (f29_r0.run (Y.ls.length + 1) (f29.leaveK Fun.done)) (f29.leaveK Fun.done))) Y.ls.length.succ from rfl,
    rimage_round0, branch_of (by simp; omega), if_pos ⟨by omega, by omega⟩, branch_of (Nat.beq_refl _), show (0 : Int).toNat = 0 from rfl, branch_of a1, a2, bR_length, hc, branch_of (show (true && apOk (0 + 64) 1) = true by rw [show apOk (0 + 64) 1 = true by rw [apOk_iff]; decide]; rfl), branch_not (by rfl), e3, show IntKind.i64.wrap ((0 : Int) + 1) = ((1 : Nat) : Int) by decide]
  exact ih
noncomputable def s29 : OrcS Try.prog := f29.by'
  (fun args st k => match args with
    | [x] => rfA.on x st fun i Y => k (.ret (.ns false 1 (bR (Y.img Y.ls.length)))) st
    | _ => none)
  fun args st k fin h => by
    split at h
    · rename_i x
      obtain ⟨i, Y, rfl, hd, g1⟩ := ADT.on_spec h
      obtain ⟨u, hrun⟩ := rimage_can hd.ok
      have := ADT.placed (A := rfA) (f := f29) (args0 := [.ptr 0 0]) hrun hd.ok ⟨by show 0 < 4; omega, trivial⟩ (bR_scoped _) hd
      rw [hd.same] at this
      exact ⟨_, _, g1, this⟩
    · cases h

/-! ### Load, New -/
noncomputable def s19 : OrcS Try.prog := f19.by'
  (fun args st k => match args with
    | [y, n] => onNs 1 y fun _ l => onInt n fun kd n => ifT (byOk l && decide (kd = .i64)) (match decide (1 ≤ n) && decide (n ≤ 65536) with
      | true => k (.ret (.tup [.ptr st.objs.length 0, .int .i64 0])) (rfA.add st (Rf.new n.toNat (nR l)))
      | false => k (.ret (.tup [.nilptr, .int .i64 41])) st)
    | _ => none)
  fun args st k fin h => by
    split at h
    · rename_i y n
      obtain ⟨z, l, g1, hy⟩ := onNs_spec h
      obtain ⟨kd, n, g2, rfl⟩ := onInt_spec g1
      obtain ⟨hk, g3⟩ := ifT_spec g2
      rw [Bool.and_eq_true, decide_eq_true_eq] at hk
      obtain ⟨hl, rfl⟩ := hk
      have hok := byOk_iff.mp hl
      have wk : ∀ g w vs, RelAll g w [y, .int .i64 n] vs → RelAll g w [.ns z 1 l, .int .i64 n] vs := fun g w vs ⟨v1, r1, e1, k1, k2⟩ => ⟨v1, r1, e1, hy g w v1 k1, k2⟩
      split at g3
      · rename_i hc
        simp only [Bool.and_eq_true, decide_eq_true_eq] at hc
        obtain ⟨m, rfl⟩ := Int.eq_ofNat_of_zero_le (show 0 ≤ n by omega)
        rw [Int.toNat_natCast] at g3
        have := ADT.fresh (A := rfA) (f := f19) (r := .tup [.ptr 0 0, .int .i64 0]) (args0 := [.ns z 1 l, .int .i64 (m : Int)]) (xs := []) (by rw [List.append_nil]; exact rload_can z l hl m (by omega) (by omega)) (rnew_ok (by omega) (by omega) fun x hx => okR_lt hok.1 hx) ⟨okR_scoped hok.1, trivial, trivial⟩ ⟨by show 0 < 4; omega, trivial, trivial⟩ st
        exact ⟨_, _, g3, this.wk wk⟩
      · rename_i hc
        have hbad : ¬ (1 ≤ n ∧ n ≤ 65536) := by
          intro e
          rw [decide_eq_true e.1, decide_eq_true e.2] at hc
          cases hc
        have := framed (f19.sound (rload_bad (F := 0) z l n hbad)) ⟨okR_scoped hok.1, trivial, trivial⟩ ⟨trivial, trivial, trivial⟩ st
        exact ⟨_, _, g3, this.wk wk⟩
    · cases h
/-- Bytes copied, to be written. -/
noncomputable def s18v : OrcS Try.prog := g18.by'
  (fun args st k => match args with
    | [y] => onNs 1 y fun _ l => ifT (byOk l && Nat.beq l.length 64) (k (.ret (.vs st.objs.length 0 1 64)) ⟨st.objs ++ [.vec 0 (bC (nR l))], st.tk⟩)
    | _ => none)
  fun args st k fin h => by
    split at h
    · rename_i y
      obtain ⟨z, l, g1, hy⟩ := onNs_spec h
      obtain ⟨hk, g2⟩ := ifT_spec g1
      rw [Bool.and_eq_true] at hk
      obtain ⟨hl, h64⟩ := hk
      have h64 := Nat.eq_of_beq_eq_true h64
      have hok := byOk_iff.mp hl
      have hrun : g18.run 0 [.ns z 1 l] ⟨[], []⟩ = some (.ret (.vs 0 0 1 64), ⟨[.vec 0 (bC (nR l))], []⟩) := by
        have hr := okR_rows hok.1
        rw [copyv_run, h64, branch_of (by rw [show apOk (0 + 64) 1 = true by rw [apOk_iff]; decide]; rfl), branch_not (by rfl), catC_nil, mulN_one, show ([] : List (List AV)).flatten = [] from rfl, catC_nil]
        have : l.flatten = bC (nR l) := by rw [← bR_flat, ← hr]
        rw [this]
      have n1 : nx (fun _ => 0) 0 st.objs.length 0 = st.objs.length := by rw [nx, if_neg (by omega)]; omega
      have := V.placed (ρ := fun _ => 0) (g18.sound hrun) (n := 0) (p := 1) (by omega) (by simp) ⟨okR_scoped hok.1, trivial⟩ (by show 0 < 1; omega) (fun j o hj ho => by
        obtain rfl : j = 0 := by omega
        cases ho
        exact flat_near (flat_bC _)) (inv := fun _ => none) (st := st) (st' := ⟨st.objs ++ [.vec 0 (bC (nR l))], st.tk⟩) ⟨rfl, ⟨fun i hi => (by omega), fun k i h => (by cases h)⟩, fun i o h => (by simp at h), fun o h => (by simp at h)⟩ rfl (by simp) (fun j o hj ho => by
        obtain rfl : j = 0 := by omega
        cases ho
        rw [n1, List.getElem?_append_right (by omega), Nat.sub_self]
        show some (Ob.vec 0 (bC (nR l))) = some (.vec 0 (renL _ (bC (nR l))))
        rw [flat_ren _ (flat_bC _)]) (fun k hk hi => by simp only; rw [List.getElem?_append_left hk])
      have e : ren (nx (fun _ => 0) 0 st.objs.length) (frz (.vs 0 0 1 64)) = .vs st.objs.length 0 1 64 := by
        show AV.vs (nx (fun _ => 0) 0 st.objs.length 0) 0 1 64 = _
        rw [n1]
      rw [e] at this
      exact ⟨_, _, g2, this.wk fun g w vs ⟨v1, r1, e1, k1, k2⟩ => ⟨v1, r1, e1, hy g w v1 k1, k2⟩⟩
    · cases h
theorem s18v_nat : s18v.NatS := by
  intro args st k
  show s18v.sem args st k = thS (s18v.sem args st (fun r st' => some (r, st'))) k
  simp only [s18v, Fun.by']
  split
  · exact onNs_th fun z l => ifT_th rfl
  · rfl
end Go.Proofs.Ytclghabbhpaafaa.V

/- The functions' pieces, as told by gen.py. -/
set_option linter.unusedVariables false
set_option maxRecDepth 20000
namespace Go.Proofs.Ytclghabbhpaafaa.V
open Go Go.V Go.RowKit

noncomputable abbrev d69 : TypeDesc := (Try.prog.underlying 69).getD .bool
theorem ud69 : Try.prog.underlying 69 = some d69 := by kernel_rfl

/-! ### 33: (*interlock/interlockref02.Disk).Crash (42, 3, 3); results ; slots: 0 d, 1 keep, 2 torn, 3 d, 4 keep, 5 torn, 6 i, 7 w, 8 b -/
/-- A loop's round; at its head live: 0 d, 1 keep, 2 torn, 6 i -/
noncomputable def f33_l0 : Sim Try.prog :=
  (.seq (.seq (.live [0, 1, 2, 6, 22] (.region 3 [
    ⟨(opMove (some 20) (.tmp 6) 3 "ref.go:70" #[]).op, none⟩,
    ⟨(opMove (some 21) (.tmp 1) 3 "ref.go:70" #[]).op, none⟩,
    ⟨(opBin (some 22) .lss 3 (.tmp 20) (.tmp 21) 3 4 "ref.go:70" #[{ on := 0, ground := Ground.data }, { on := 1, ground := Ground.data }]).op, none⟩
  ] (by kernel_rfl)))
  (.cond (.tmp 22)
    .skip
    (.live [0, 1, 2] (.exit 0))))
  (.seq (.block 1 (.live [0, 1, 2, 6] (.draw 5 [
      ⟨.p (opMove (some 25) (.tmp 0) 42 "ref.go:71" #[]), none⟩,
      ⟨.p (opNilCheck (some 26) (.tmp 25) 0 "ref.go:71" #[{ on := 0, ground := Ground.data }]), none⟩,
      ⟨.pn (opFieldAddr (some 27) 67 (.tmp 26) 0 0 1 false fl67_0 (by decide) 0 "ref.go:71" #[{ on := 1, ground := Ground.data }]) opFieldAddr_nat, none⟩,
      ⟨.qn (opLoadT (.one .any) (some 28) 64 (.tmp 27) (.slice 22) Try.underlying64 1 sz64 (by kernel_rfl) 64 "ref.go:71" #[{ on := 2, ground := Ground.data }]) opLoadT_nat, none⟩,
      ⟨.p (opMove (some 29) (.tmp 0) 42 "ref.go:71" #[]), none⟩,
      ⟨.p (opNilCheck (some 30) (.tmp 29) 0 "ref.go:71" #[{ on := 4, ground := Ground.data }]), none⟩,
      ⟨.pn (opFieldAddr (some 31) 67 (.tmp 30) 1 1 1 false fl67_1 (by decide) 0 "ref.go:71" #[{ on := 5, ground := Ground.data }]) opFieldAddr_nat, none⟩,
      ⟨.qn (opLoadT (.one .any) (some 32) 65 (.tmp 31) (.slice 69) Try.underlying65 1 sz65 (by kernel_rfl) 65 "ref.go:71" #[{ on := 6, ground := Ground.data }]) opLoadT_nat, none⟩,
      ⟨.p (opMove (some 33) (.tmp 6) 3 "ref.go:71" #[]), none⟩,
      ⟨.pn (opIndexAddrT (some 34) 65 (.tmp 32) (.tmp 33) 69 2 Try.underlying65 sz69 0 "ref.go:71" #[{ on := 7, ground := Ground.data }, { on := 8, ground := Ground.data }]) opIndexAddrT_nat, none⟩,
      ⟨.pn (opFieldAddr (some 35) 69 (.tmp 34) 0 0 1 false fl69_0 (by decide) 0 "ref.go:71" #[{ on := 9, ground := Ground.data }]) opFieldAddr_nat, none⟩,
      ⟨.qn (opLoadT (.one (.int .i64)) (some 36) 3 (.tmp 35) (.int .i64) Try.underlying3 1 sz3 (by kernel_rfl) 3 "ref.go:71" #[{ on := 10, ground := Ground.data }]) opLoadT_nat, none⟩,
      ⟨.p (opMove (some 37) (.tmp 0) 42 "ref.go:71" #[]), none⟩,
      ⟨.p (opNilCheck (some 38) (.tmp 37) 0 "ref.go:71" #[{ on := 12, ground := Ground.data }]), none⟩,
      ⟨.pn (opFieldAddr (some 39) 67 (.tmp 38) 1 1 1 false fl67_1 (by decide) 0 "ref.go:71" #[{ on := 13, ground := Ground.data }]) opFieldAddr_nat, none⟩,
      ⟨.qn (opLoadT (.one .any) (some 40) 65 (.tmp 39) (.slice 69) Try.underlying65 1 sz65 (by kernel_rfl) 65 "ref.go:71" #[{ on := 14, ground := Ground.data }]) opLoadT_nat, none⟩,
      ⟨.p (opMove (some 41) (.tmp 6) 3 "ref.go:71" #[]), none⟩,
      ⟨.pn (opIndexAddrT (some 42) 65 (.tmp 40) (.tmp 41) 69 2 Try.underlying65 sz69 0 "ref.go:71" #[{ on := 15, ground := Ground.data }, { on := 16, ground := Ground.data }]) opIndexAddrT_nat, none⟩,
      ⟨.pn (opFieldAddr (some 43) 69 (.tmp 42) 1 1 1 false fl69_1 (by decide) 0 "ref.go:71" #[{ on := 17, ground := Ground.data }]) opFieldAddr_nat, none⟩,
      ⟨.qn (opLoadT (.one (.ns 1)) (some 44) 22 (.tmp 43) (.slice 5) Try.underlying22 1 sz22 (by kernel_rfl) 22 "ref.go:71" #[{ on := 18, ground := Ground.data }]) opLoadT_nat, none⟩,
      ⟨.pn (opIndexAddrT (some 45) 64 (.tmp 28) (.tmp 36) 22 1 Try.underlying64 sz22 0 "ref.go:71" #[{ on := 3, ground := Ground.data }, { on := 11, ground := Ground.data }, { on := 0, ground := Ground.phase }, { on := 1, ground := Ground.phase }, { on := 2, ground := Ground.phase }, { on := 3, ground := Ground.phase }, { on := 4, ground := Ground.phase }, { on := 5, ground := Ground.phase }, { on := 6, ground := Ground.phase }, { on := 7, ground := Ground.phase }, { on := 8, ground := Ground.phase }, { on := 9, ground := Ground.phase }, { on := 10, ground := Ground.phase }, { on := 11, ground := Ground.phase }, { on := 12, ground := Ground.phase }, { on := 13, ground := Ground.phase }, { on := 14, ground := Ground.phase }, { on := 15, ground := Ground.phase }, { on := 16, ground := Ground.phase }, { on := 17, ground := Ground.phase }, { on := 18, ground := Ground.phase }, { on := 19, ground := Ground.phase }]) opIndexAddrT_nat, none⟩,
      ⟨.mn (opStoreC none 22 (.tmp 45) (.tmp 44) 1 sz22 0 "ref.go:71" #[{ on := 20, ground := Ground.data }, { on := 19, ground := Ground.data }, { on := 0, ground := Ground.phase }, { on := 1, ground := Ground.phase }, { on := 2, ground := Ground.phase }, { on := 3, ground := Ground.phase }, { on := 4, ground := Ground.phase }, { on := 5, ground := Ground.phase }, { on := 6, ground := Ground.phase }, { on := 7, ground := Ground.phase }, { on := 8, ground := Ground.phase }, { on := 9, ground := Ground.phase }, { on := 10, ground := Ground.phase }, { on := 11, ground := Ground.phase }, { on := 12, ground := Ground.phase }, { on := 13, ground := Ground.phase }, { on := 14, ground := Ground.phase }, { on := 15, ground := Ground.phase }, { on := 16, ground := Ground.phase }, { on := 17, ground := Ground.phase }, { on := 18, ground := Ground.phase }, { on := 19, ground := Ground.phase }]) opStoreC_nat, none⟩
    ] mixed (by kernel_rfl))))
  (.live [0, 1, 2, 6] (.region 4 [
    ⟨(opMove (some 23) (.tmp 6) 3 "ref.go:70" #[]).op, none⟩,
    ⟨(opBin (some 24) .add 3 (.tmp 23) (.const (Value.int IntKind.i64 1)) 3 3 "ref.go:70" #[{ on := 0, ground := Ground.data }]).op, none⟩,
    ⟨(opAssign (some 6) (.tmp 24) 3 "ref.go:70" #[{ on := 1, ground := Ground.data }, { on := 0, ground := Ground.phase }, { on := 1, ground := Ground.phase }]).op, none⟩
  ] (by kernel_rfl)))))

/-- What follows a loop. -/
noncomputable def f33_r0 : Sim Try.prog :=
  (.seq (.seq (.live [0, 1, 2, 52] (.region 6 [
    ⟨(opMove (some 46) (.tmp 1) 3 "ref.go:73" #[]).op, none⟩,
    ⟨(opMove (some 47) (.tmp 0) 42 "ref.go:73" #[]).op, none⟩,
    ⟨(opNilCheck (some 48) (.tmp 47) 0 "ref.go:73" #[{ on := 1, ground := Ground.data }]).op, none⟩,
    ⟨(opFieldAddr (some 49) 67 (.tmp 48) 1 1 1 false fl67_1 (by decide) 0 "ref.go:73" #[{ on := 2, ground := Ground.data }]).op, none⟩,
    ⟨(opLoadT (.one .any) (some 50) 65 (.tmp 49) (.slice 69) Try.underlying65 1 sz65 (by kernel_rfl) 65 "ref.go:73" #[{ on := 3, ground := Ground.data }]).op, none⟩,
    ⟨(opLen (some 51) (.tmp 50) 65 (.slice 69) Try.underlying65 3 "ref.go:73" #[{ on := 4, ground := Ground.data }]).op, none⟩,
    ⟨(opBin (some 52) .lss 3 (.tmp 46) (.tmp 51) 3 4 "ref.go:73" #[{ on := 0, ground := Ground.data }, { on := 5, ground := Ground.data }]).op, none⟩
  ] (by kernel_rfl)))
  (.cond (.tmp 52)
    (.seq (.live [0, 2, 7] (.items 7 [
      .one ((opMove (some 53) (.tmp 0) 42 "ref.go:74" #[]).op),
      .one ((opNilCheck (some 54) (.tmp 53) 0 "ref.go:74" #[{ on := 0, ground := Ground.data }]).op),
      .one ((opFieldAddr (some 55) 67 (.tmp 54) 1 1 1 false fl67_1 (by decide) 0 "ref.go:74" #[{ on := 1, ground := Ground.data }]).op),
      .one ((opLoadT (.one .any) (some 56) 65 (.tmp 55) (.slice 69) Try.underlying65 1 sz65 (by kernel_rfl) 65 "ref.go:74" #[{ on := 2, ground := Ground.data }]).op),
      .one ((opMove (some 57) (.tmp 1) 3 "ref.go:74" #[]).op),
      .one ((opIndexAddrT (some 58) 65 (.tmp 56) (.tmp 57) 69 2 Try.underlying65 sz69 0 "ref.go:74" #[{ on := 3, ground := Ground.data }, { on := 4, ground := Ground.data }]).op),
      .one ((opLoadT (.agg [(.int .i64), (.ns 1)]) (some 59) 69 (.tmp 58) d69 ud69 2 sz69 (by kernel_rfl) 69 "ref.go:74" #[{ on := 5, ground := Ground.data }]).op),
      .two (op2Box 7 69 (.agg #[(.int .i64 0), (.slice none 0 0)]) ze69 (.tmp 59) (by rfl) 2 sz69 (by kernel_rfl) 86 (by rfl) 0 0 "ref.go:74" "ref.go:74" #[] #[{ on := 7, ground := Ground.data }, { on := 6, ground := Ground.data }, { on := 0, ground := Ground.phase }, { on := 1, ground := Ground.phase }, { on := 2, ground := Ground.phase }, { on := 3, ground := Ground.phase }, { on := 4, ground := Ground.phase }, { on := 5, ground := Ground.phase }, { on := 6, ground := Ground.phase }, { on := 7, ground := Ground.phase }])
    ]))
    (.seq (.live [0, 2, 7, 8] (.draw 8 [
      ⟨.p (opMove (some 60) (.tmp 0) 42 "ref.go:75" #[]), none⟩,
      ⟨.p (opNilCheck (some 61) (.tmp 60) 0 "ref.go:75" #[{ on := 0, ground := Ground.data }]), none⟩,
      ⟨.pn (opFieldAddr (some 62) 67 (.tmp 61) 0 0 1 false fl67_0 (by decide) 0 "ref.go:75" #[{ on := 1, ground := Ground.data }]) opFieldAddr_nat, none⟩,
      ⟨.qn (opLoadT (.one .any) (some 63) 64 (.tmp 62) (.slice 22) Try.underlying64 1 sz64 (by kernel_rfl) 64 "ref.go:75" #[{ on := 2, ground := Ground.data }]) opLoadT_nat, none⟩,
      ⟨.pn (opFieldAddr (some 64) 69 (.tmp 7) 0 0 1 false fl69_0 (by decide) 0 "ref.go:75" #[]) opFieldAddr_nat, none⟩,
      ⟨.qn (opLoadT (.one (.int .i64)) (some 65) 3 (.tmp 64) (.int .i64) Try.underlying3 1 sz3 (by kernel_rfl) 3 "ref.go:75" #[{ on := 4, ground := Ground.data }]) opLoadT_nat, none⟩,
      ⟨.pn (opIndexAddrT (some 66) 64 (.tmp 63) (.tmp 65) 22 1 Try.underlying64 sz22 0 "ref.go:75" #[{ on := 3, ground := Ground.data }, { on := 5, ground := Ground.data }]) opIndexAddrT_nat, none⟩,
      ⟨.qn (opLoadT (.one (.ns 1)) (some 67) 22 (.tmp 66) (.slice 5) Try.underlying22 1 sz22 (by kernel_rfl) 22 "ref.go:75" #[{ on := 6, ground := Ground.data }]) opLoadT_nat, none⟩,
      ⟨.mn (opCallM (s18v) (some 68) [(.tmp 67)] #[22] 22 "ref.go:75" #[{ on := 7, ground := Ground.data }]) (opCallM_nat s18v_nat), none⟩,
      ⟨.p (opAssign (some 8) (.tmp 68) 22 "ref.go:75" #[{ on := 8, ground := Ground.data }, { on := 8, ground := Ground.chain }, { on := 0, ground := Ground.phase }, { on := 1, ground := Ground.phase }, { on := 2, ground := Ground.phase }, { on := 3, ground := Ground.phase }, { on := 4, ground := Ground.phase }, { on := 5, ground := Ground.phase }, { on := 6, ground := Ground.phase }, { on := 7, ground := Ground.phase }, { on := 8, ground := Ground.phase }]), none⟩
    ] mixed (by kernel_rfl)))
    (.seq (.live [0, 7, 8] (.region 9 [
      ⟨(opMove (some 69) (.tmp 8) 22 "ref.go:76" #[]).op, none⟩,
      ⟨(opFieldAddr (some 70) 69 (.tmp 7) 1 1 1 false fl69_1 (by decide) 0 "ref.go:76" #[]).op, none⟩,
      ⟨(opLoadT (.one .any) (some 71) 22 (.tmp 70) (.slice 5) Try.underlying22 1 sz22 (by kernel_rfl) 22 "ref.go:76" #[{ on := 1, ground := Ground.data }]).op, none⟩,
      ⟨(opMove (some 72) (.tmp 2) 3 "ref.go:76" #[]).op, none⟩,
      ⟨(opSlice (some 73) 22 (.tmp 71) none (some (.tmp 72)) none 5 1 Try.underlying22 sz5 22 "ref.go:76" #[{ on := 2, ground := Ground.data }, { on := 3, ground := Ground.data }]).op, none⟩,
      ⟨(opCopyV (some 74) (.tmp 69) (.tmp 73) 22 22 5 1 Try.underlying22 sz5 3 "ref.go:76" #[{ on := 0, ground := Ground.data }, { on := 4, ground := Ground.data }]).op, none⟩
    ] (by kernel_rfl)))
    (.live [0] (.draw 10 [
      ⟨.p (opMove (some 75) (.tmp 0) 42 "ref.go:77" #[]), none⟩,
      ⟨.p (opNilCheck (some 76) (.tmp 75) 0 "ref.go:77" #[{ on := 0, ground := Ground.data }]), none⟩,
      ⟨.pn (opFieldAddr (some 77) 67 (.tmp 76) 0 0 1 false fl67_0 (by decide) 0 "ref.go:77" #[{ on := 1, ground := Ground.data }]) opFieldAddr_nat, none⟩,
      ⟨.qn (opLoadT (.one .any) (some 78) 64 (.tmp 77) (.slice 22) Try.underlying64 1 sz64 (by kernel_rfl) 64 "ref.go:77" #[{ on := 2, ground := Ground.data }]) opLoadT_nat, none⟩,
      ⟨.pn (opFieldAddr (some 79) 69 (.tmp 7) 0 0 1 false fl69_0 (by decide) 0 "ref.go:77" #[]) opFieldAddr_nat, none⟩,
      ⟨.qn (opLoadT (.one (.int .i64)) (some 80) 3 (.tmp 79) (.int .i64) Try.underlying3 1 sz3 (by kernel_rfl) 3 "ref.go:77" #[{ on := 4, ground := Ground.data }]) opLoadT_nat, none⟩,
      ⟨.p (opMove (some 81) (.tmp 8) 22 "ref.go:77" #[]), none⟩,
      ⟨.pn (opIndexAddrT (some 82) 64 (.tmp 78) (.tmp 80) 22 1 Try.underlying64 sz22 0 "ref.go:77" #[{ on := 3, ground := Ground.data }, { on := 5, ground := Ground.data }, { on := 0, ground := Ground.phase }, { on := 1, ground := Ground.phase }, { on := 2, ground := Ground.phase }, { on := 3, ground := Ground.phase }, { on := 4, ground := Ground.phase }, { on := 5, ground := Ground.phase }, { on := 6, ground := Ground.phase }]) opIndexAddrT_nat, none⟩,
      ⟨.mn (MSim.fz (opStoreC none 22 (.tmp 82) (.tmp 81) 1 sz22 0 "ref.go:77" #[{ on := 7, ground := Ground.data }, { on := 6, ground := Ground.data }, { on := 0, ground := Ground.phase }, { on := 1, ground := Ground.phase }, { on := 2, ground := Ground.phase }, { on := 3, ground := Ground.phase }, { on := 4, ground := Ground.phase }, { on := 5, ground := Ground.phase }, { on := 6, ground := Ground.phase }]) 81) (MSim.fz_nat opStoreC_nat), none⟩
    ] mixed (by kernel_rfl))))))
    .skip))
  (.live [] (.region 11 [
    ⟨(opMove (some 83) (.tmp 0) 42 "ref.go:79" #[]).op, none⟩,
    ⟨(opNilCheck (some 84) (.tmp 83) 0 "ref.go:79" #[{ on := 0, ground := Ground.data }, { on := 0, ground := Ground.phase }]).op, none⟩,
    ⟨(opFieldAddr (some 85) 67 (.tmp 84) 1 1 1 false fl67_1 (by decide) 0 "ref.go:79" #[{ on := 1, ground := Ground.data }, { on := 0, ground := Ground.phase }]).op, none⟩,
    ⟨(opStore none 65 (.tmp 85) (.const (Value.slice none 0 0)) 1 sz65 0 "ref.go:79" #[{ on := 2, ground := Ground.data }, { on := 0, ground := Ground.phase }]).op, none⟩
  ] (by kernel_rfl))))

noncomputable def f33_b : Sim Try.prog :=
  (.seq (.live [0, 1, 2] (.region 0 [
    ⟨(opMove (some 9) (.tmp 1) 3 "ref.go:68" #[]).op, none⟩,
    ⟨(opMinMax (some 10) true (.tmp 9) [(.const (Value.int IntKind.i64 0))] #[3, 3] 3 "ref.go:68" #[{ on := 0, ground := Ground.data }]).op, none⟩,
    ⟨(opMove (some 11) (.tmp 0) 42 "ref.go:68" #[]).op, none⟩,
    ⟨(opNilCheck (some 12) (.tmp 11) 0 "ref.go:68" #[{ on := 2, ground := Ground.data }]).op, none⟩,
    ⟨(opFieldAddr (some 13) 67 (.tmp 12) 1 1 1 false fl67_1 (by decide) 0 "ref.go:68" #[{ on := 3, ground := Ground.data }]).op, none⟩,
    ⟨(opLoadT (.one .any) (some 14) 65 (.tmp 13) (.slice 69) Try.underlying65 1 sz65 (by kernel_rfl) 65 "ref.go:68" #[{ on := 4, ground := Ground.data }]).op, none⟩,
    ⟨(opLen (some 15) (.tmp 14) 65 (.slice 69) Try.underlying65 3 "ref.go:68" #[{ on := 5, ground := Ground.data }]).op, none⟩,
    ⟨(opMinMax (some 16) false (.tmp 10) [(.tmp 15)] #[3, 3] 3 "ref.go:68" #[{ on := 1, ground := Ground.data }, { on := 6, ground := Ground.data }]).op, none⟩,
    ⟨(opAssign (some 1) (.tmp 16) 3 "ref.go:68" #[{ on := 7, ground := Ground.data }, { on := 0, ground := Ground.phase }, { on := 1, ground := Ground.phase }, { on := 2, ground := Ground.phase }, { on := 3, ground := Ground.phase }, { on := 4, ground := Ground.phase }, { on := 5, ground := Ground.phase }, { on := 6, ground := Ground.phase }, { on := 7, ground := Ground.phase }]).op, none⟩
  ] (by kernel_rfl)))
  (.seq (.live [0, 1, 2] (.region 1 [
    ⟨(opMove (some 17) (.tmp 2) 3 "ref.go:69" #[]).op, none⟩,
    ⟨(opMinMax (some 18) true (.tmp 17) [(.const (Value.int IntKind.i64 0))] #[3, 3] 3 "ref.go:69" #[{ on := 0, ground := Ground.data }]).op, none⟩,
    ⟨(opMinMax (some 19) false (.tmp 18) [(.const (Value.int IntKind.i64 64))] #[3, 3] 3 "ref.go:69" #[{ on := 1, ground := Ground.data }]).op, none⟩,
    ⟨(opAssign (some 2) (.tmp 19) 3 "ref.go:69" #[{ on := 2, ground := Ground.data }, { on := 0, ground := Ground.phase }, { on := 1, ground := Ground.phase }, { on := 2, ground := Ground.phase }]).op, none⟩
  ] (by kernel_rfl)))
  (.seq (.seq (.live [0, 1, 2, 6] (.region 2 [
    ⟨(opAssign (some 6) (.const (Value.int IntKind.i64 0)) 3 "ref.go:70" #[]).op, none⟩
  ] (by kernel_rfl)))
  (.block 0 (.loop [0, 1, 2, 6] f33_l0)))
  f33_r0)))

noncomputable def f33 : Fun Try.prog where
  id := 33
  fn := Try.f33
  hf := Try.func33
  hname := by kernel_rfl
  body := f33_b
  hbody := by kernel_rfl
  res := []
  hres := by kernel_rfl
  n := 86
  hn := by kernel_rfl

end Go.Proofs.Ytclghabbhpaafaa.V

/- What the functions' runs come to; the right sides were printed by a tool, Lean checks them. -/
set_option linter.unusedVariables false
set_option maxRecDepth 100000
namespace Go.Proofs.Ytclghabbhpaafaa.V
open Go Go.V Go.RowKit

theorem rcrash_run (F : Nat) (k t : Int) (v n w m : Nat) (b c d : Ob) :
    (f33.run F [.ptr 0 0, .int .i64 k, .int .i64 t] ⟨[.cells [.vs 1 v 1 n, .vs 2 w 2 m], b, c, d], []⟩ : Ans) =
    loopRun (f33_l0.run F) [0, 1, 2, 6]
      (Cont.block 0 (Cont.then (f33_r0.run F (f33.leaveK Fun.done)) (f33.leaveK Fun.done))) F
      (Env.mk 86
        [(0, AV.ptr 0 0),
          (1, AV.int IntKind.i64 (leastI false (leastI true k (0 : Int)) (↑m : Int))),
          (2, AV.int IntKind.i64 (leastI false (leastI true t (0 : Int)) (64 : Int))),
          (6, AV.int IntKind.i64 (0 : Int))])
      (St.mk [Ob.cells [AV.vs 1 v 1 n, AV.vs 2 w 2 m], b, c, d] []) := by kernel_rfl

theorem rcrash_run0 (F : Nat) (k t : Int) (v n : Nat) (b c d : Ob) :
    (f33.run F [.ptr 0 0, .int .i64 k, .int .i64 t] ⟨[.cells [.vs 1 v 1 n, .nilsl], b, c, d], []⟩ : Ans) =
    loopRun (f33_l0.run F) [0, 1, 2, 6]
      (Cont.block 0 (Cont.then (f33_r0.run F (f33.leaveK Fun.done)) (f33.leaveK Fun.done))) F
      (Env.mk 86
        [(0, AV.ptr 0 0),
          (1, AV.int IntKind.i64 (leastI false (leastI true k (0 : Int)) (0 : Int))),
          (2, AV.int IntKind.i64 (leastI false (leastI true t (0 : Int)) (64 : Int))),
          (6, AV.int IntKind.i64 (0 : Int))])
      (St.mk [Ob.cells [AV.vs 1 v 1 n, AV.nilsl], b, c, d] []) := by kernel_rfl

theorem rcrash_round (F mm : Nat) (K : Cont) (k t i : Int) (v n w m : Nat) (cs ds : List AV) (d : Ob) :
    (loopRun (f33_l0.run F) [0, 1, 2, 6] K mm.succ (Env.mk 86 [(0, .ptr 0 0), (1, .int .i64 k), (2, .int .i64 t), (6, .int .i64 i)]) ⟨[.cells [.vs 1 v 1 n, .vs 2 w 2 m], .vec v cs, .vec w ds, d], []⟩ : Ans) =
    branch (AV.bool (decide (i < k)))
      (if (0 : Int) ≤ i ∧ i < (↑m : Int) then
        branch (AV.bool (w.beq w))
          (branch (AV.bool ((LD.one (LT.int IntKind.i64)).is (List.drop (i.toNat * 2 + 0) ds)))
            (if (0 : Int) ≤ i ∧ i < (↑m : Int) then
              branch (AV.bool (w.beq w))
                (branch (AV.bool ((LD.one (LT.ns 1)).is (List.drop (i.toNat * 2 + 1) ds)))
                  (if
                      (0 : Int) ≤ hdI (List.drop (i.toNat * 2 + 0) ds) ∧
                        hdI (List.drop (i.toNat * 2 + 0) ds) < (↑n : Int) then
                    branch
                      (AV.bool
                        (v.beq v &&
                          (true &&
                            inC cs ((hdI (List.drop (i.toNat * 2 + 0) ds)).toNat * 1) 1)))
                      (loopRun (f33_l0.run F) [0, 1, 2, 6] K mm
                        (Env.mk 86
                          [(0, AV.ptr 0 0), (1, AV.int IntKind.i64 k),
                            (2, AV.int IntKind.i64 t),
                            (6, AV.int IntKind.i64 (IntKind.i64.wrap (i + (1 : Int))))])
                        (St.mk
                          [Ob.cells [AV.vs 1 v 1 n, AV.vs 2 w 2 m],
                            Ob.vec v
                              (setC cs ((hdI (List.drop (i.toNat * 2 + 0) ds)).toNat * 1)
                                [AV.ns (nilA (List.drop (i.toNat * 2 + 1) ds)) 1
                                    (rwA (List.drop (i.toNat * 2 + 1) ds))]),
                            Ob.vec w ds, d]
                          []))
                      none
                  else none)
                  none)
                none
            else none)
            none)
          none
      else none)
      (K (AX.exit 0)
        (Env.mk 86
          [(0, AV.ptr 0 0), (1, AV.int IntKind.i64 k), (2, AV.int IntKind.i64 t)])
        (St.mk [Ob.cells [AV.vs 1 v 1 n, AV.vs 2 w 2 m], Ob.vec v cs, Ob.vec w ds, d] [])) := by kernel_rfl

theorem rcrash_end (F mm : Nat) (K : Cont) (k t i : Int) (v n : Nat) (b c d : Ob) :
    (loopRun (f33_l0.run F) [0, 1, 2, 6] K mm.succ (Env.mk 86 [(0, .ptr 0 0), (1, .int .i64 k), (2, .int .i64 t), (6, .int .i64 i)]) ⟨[.cells [.vs 1 v 1 n, .nilsl], b, c, d], []⟩ : Ans) =
    branch (AV.bool (decide (i < k))) none
      (K (AX.exit 0)
        (Env.mk 86
          [(0, AV.ptr 0 0), (1, AV.int IntKind.i64 k), (2, AV.int IntKind.i64 t)])
        (St.mk [Ob.cells [AV.vs 1 v 1 n, AV.nilsl], b, c, d] [])) := by kernel_rfl

theorem rcrash_out0 (F : Nat) (k t : Int) (v n : Nat) (b c d : Ob) :
    ((Cont.block 0 (Cont.then (f33_r0.run F (f33.leaveK Fun.done)) (f33.leaveK Fun.done))) (.exit 0) (Env.mk 86 [(0, .ptr 0 0), (1, .int .i64 k), (2, .int .i64 t)]) ⟨[.cells [.vs 1 v 1 n, .nilsl], b, c, d], []⟩ : Ans) =
    branch (AV.bool (decide (k < (0 : Int)))) none
      (some (Fin.ret (AV.tup []), St.mk [Ob.cells [AV.vs 1 v 1 n, AV.nilsl], b, c, d] [])) := by kernel_rfl

theorem rcrash_out (F : Nat) (k t : Int) (v n w m : Nat) (cs ds : List AV) (d : Ob) :
    ((Cont.block 0 (Cont.then (f33_r0.run F (f33.leaveK Fun.done)) (f33.leaveK Fun.done))) (.exit 0) (Env.mk 86 [(0, .ptr 0 0), (1, .int .i64 k), (2, .int .i64 t)]) ⟨[.cells [.vs 1 v 1 n, .vs 2 w 2 m], .vec v cs, .vec w ds, d], []⟩ : Ans) =
    branch (AV.bool (decide (k < (↑m : Int))))
      (if (0 : Int) ≤ k ∧ k < (↑m : Int) then
        branch (AV.bool (w.beq w))
          (branch (AV.bool ((LD.agg [LT.int IntKind.i64, LT.ns 1]).is (List.drop (k.toNat * 2) ds)))
            (if
                (0 : Int) ≤ hdI (List.drop (k.toNat * 2) ds) ∧
                  hdI (List.drop (k.toNat * 2) ds) < (↑n : Int) then
              branch (AV.bool (v.beq v))
                (branch
                  (AV.bool
                    ((LD.one (LT.ns 1)).is
                      (List.drop ((hdI (List.drop (k.toNat * 2) ds)).toNat * 1) cs)))
                  (branch
                    (AV.bool
                      (byOk (rwA (List.drop ((hdI (List.drop (k.toNat * 2) ds)).toNat * 1) cs)) &&
                        (rwA (List.drop ((hdI (List.drop (k.toNat * 2) ds)).toNat * 1) cs)).length.beq
                          64))
                    (if (0 : Int) ≤ t ∧ t ≤ (↑(rwA (List.drop (k.toNat * 2) ds).tail).length : Int) then
                      branch
                        (AV.bool
                          (true &&
                            inC
                              (bC (nR (rwA (List.drop ((hdI (List.drop (k.toNat * 2) ds)).toNat * 1) cs))))
                              0
                              (mulN
                                (minN
                                  (List.drop 0
                                      (List.take t.toNat (rwA (List.drop (k.toNat * 2) ds).tail))).length
                                  64)
                                1)))
                        (if
                            (0 : Int) ≤ hdI (List.drop (k.toNat * 2) ds) ∧
                              hdI (List.drop (k.toNat * 2) ds) < (↑n : Int) then
                          branch
                            (AV.bool
                              (true &&
                                inC
                                  (setC
                                    (bC
                                      (nR
                                        (rwA
                                          (List.drop ((hdI (List.drop (k.toNat * 2) ds)).toNat * 1) cs))))
                                    0
                                    (flC
                                      (List.drop 0
                                        (List.take t.toNat (rwA (List.drop (k.toNat * 2) ds).tail)))
                                      (minN
                                        (List.drop 0
                                            (List.take t.toNat (rwA (List.drop (k.toNat * 2) ds).tail))).length
                                        64)))
                                  0 (mulN 64 1)))
                            (branch
                              (AV.bool
                                (v.beq v &&
                                  (true &&
                                    inC cs ((hdI (List.drop (k.toNat * 2) ds)).toNat * 1) 1)))
                              (some
                                (Fin.ret (AV.tup []),
                                  St.mk
                                    [Ob.cells [AV.vs 1 v 1 n, AV.nilsl],
                                      Ob.vec v
                                        (setC cs ((hdI (List.drop (k.toNat * 2) ds)).toNat * 1)
                                          [AV.ns false 1
                                              (rowsC 1 64
                                                (setC
                                                  (bC
                                                    (nR
                                                      (rwA
                                                        (List.drop
                                                          ((hdI (List.drop (k.toNat * 2) ds)).toNat * 1)
                                                          cs))))
                                                  0
                                                  (flC
                                                    (List.drop 0
                                                      (List.take t.toNat (rwA (List.drop (k.toNat * 2) ds).tail)))
                                                    (minN
                                                      (List.drop 0
                                                          (List.take t.toNat
                                                            (rwA (List.drop (k.toNat * 2) ds).tail))).length
                                                      64)))
                                                0)]),
                                      Ob.vec w ds, d, Ob.nov 1]
                                    []))
                              none)
                            none
                        else none)
                        none
                    else none)
                    none)
                  none)
                none
            else none)
            none)
          none
      else none)
      (some
        (Fin.ret (AV.tup []), St.mk [Ob.cells [AV.vs 1 v 1 n, AV.nilsl], Ob.vec v cs, Ob.vec w ds, d] [])) := by kernel_rfl

end Go.Proofs.Ytclghabbhpaafaa.V

/- Disk: the reference's crash, as a callee. -/
set_option linter.unusedVariables false
namespace Go.Proofs.Ytclghabbhpaafaa.V
open Go Go.V Go.RowKit

theorem cellOk.nilA {c : AV} (h : cellOk c) : nilA [c] = false := by
  obtain ⟨b, _, _, rfl | rfl⟩ := h <;> rfl
def nsB (b : List Nat) : AV := .ns false 1 (bR b)
def setW (ls : List AV) (ws : List (Nat × AV)) : List AV := ws.foldl (fun l w => l.set w.1 (nsB (cellB w.2))) ls
theorem setW_ok {n : Nat} : ∀ {ws : List (Nat × AV)} {ls : List AV}, ls.length = n → (∀ c ∈ ls, cellOk c) → (∀ w ∈ ws, w.1 < n ∧ cellOk w.2) → (setW ls ws).length = n ∧ ∀ c ∈ setW ls ws, cellOk c
  | [], ls, h1, h2, h3 => ⟨h1, h2⟩
  | w :: ws, ls, h1, h2, h3 => by
    have hw := h3 w List.mem_cons_self
    refine setW_ok (ws := ws) (ls := ls.set w.1 (nsB (cellB w.2))) (by rw [List.length_set, h1]) (fun c hc => ?_) fun x hx => h3 x (List.mem_cons_of_mem _ hx)
    rcases List.mem_or_eq_of_mem_set hc with hc | hc
    · exact h2 c hc
    · rw [hc]; exact cellOk_ns hw.2.spec.2.2.1 hw.2.spec.2.2.2.1
def tornC (ls : List AV) (w : Option (Nat × AV)) (t : Nat) : List AV :=
  match w with
  | some w => ls.set w.1 (nsB (putN (cellB (ls.getD w.1 .nilsl)) 0 ((cellB w.2).take t)))
  | none => ls
def Rf.settle (Y : Rf) (keep torn : Nat) : Rf := { Y with ls := tornC (setW Y.ls (Y.ws.take keep)) Y.ws[keep]? torn, ws := [] }
def Rf.crash (Y : Rf) (k t : Int) : Rf := Y.settle (clip k Y.ws.length).toNat (clip t 64).toNat
theorem putN_lt {a r : List Nat} (ha : ∀ x ∈ a, x < 256) (hr : ∀ x ∈ r, x < 256) (o : Nat) : ∀ x ∈ putN a o r, x < 256 := fun x hx => by
  rcases mem_putN hx with hx | hx
  · exact ha x hx
  · exact hr x hx
theorem Rf.Ok.take_ok {Y : Rf} (h : Y.Ok) (keep : Nat) : (setW Y.ls (Y.ws.take keep)).length = Y.ls.length ∧ ∀ c ∈ setW Y.ls (Y.ws.take keep), cellOk c := setW_ok rfl h.ls fun w hw => h.ws w (List.mem_of_mem_take hw)
theorem tornC_ok {n : Nat} {ls : List AV} (h1 : ls.length = n) (h2 : ∀ c ∈ ls, cellOk c) {w : Option (Nat × AV)} (hw : ∀ x, w = some x → x.1 < n ∧ cellOk x.2) (t : Nat) : (tornC ls w t).length = n ∧ ∀ c ∈ tornC ls w t, cellOk c := by
  cases w with
  | none => exact ⟨h1, h2⟩
  | some x =>
    obtain ⟨a1, a2⟩ := hw x rfl
    have hl : x.1 < ls.length := by omega
    have hc := h2 _ (List.getElem_mem hl)
    have hg : ls.getD x.1 .nilsl = ls[x.1] := by rw [List.getD_eq_getElem?_getD, List.getElem?_eq_getElem hl]; rfl
    refine ⟨by simp [tornC, h1], fun c hm => ?_⟩
    rcases List.mem_or_eq_of_mem_set hm with hm | hm
    · exact h2 c hm
    · rw [hm, hg]
      refine cellOk_ns ?_ (putN_lt hc.spec.2.2.2.1 (fun y hy => a2.spec.2.2.2.1 y (List.mem_of_mem_take hy)) 0)
      rw [putN_length (by rw [List.length_take, hc.spec.2.2.1, a2.spec.2.2.1]; omega), hc.spec.2.2.1]
theorem Rf.Ok.settle {Y : Rf} (h : Y.Ok) (keep torn : Nat) : (Y.settle keep torn).Ok := by
  obtain ⟨a1, a2⟩ := h.take_ok keep
  obtain ⟨b1, b2⟩ := tornC_ok a1 a2 (w := Y.ws[keep]?) (fun x hx => h.ws x (List.mem_of_getElem? hx)) torn
  have e : (Y.settle keep torn).ls.length = Y.ls.length := b1
  exact ⟨by rw [e]; exact h.n0, by rw [e]; exact h.n1, by show 0 < 999999; decide, b2, fun w hw => (by cases hw), fun _ => by
    by_cases hne : Y.ws = []
    · exact h.W0 hne
    · exact .inl ⟨rC Y.ws, h.W1 hne, rC_ok fun w hw => (h.ws w hw).2⟩, fun e => absurd rfl e⟩
theorem rcrash_loop (F : Nat) {Y : Rf} (h : Y.Ok) (keep t : Nat) (hk : keep ≤ Y.ws.length) (d : Ob) (K : Cont) : ∀ (r m i : Nat), i + r = keep → r < m →
    loopRun (f33_l0.run F) [0, 1, 2, 6] K m (Env.mk 86 [(0, .ptr 0 0), (1, .int .i64 (keep : Int)), (2, .int .i64 (t : Int)), (6, .int .i64 (i : Int))]) ⟨[.cells [.vs 1 Y.v 1 Y.ls.length, .vs 2 Y.w 2 Y.ws.length], .vec Y.v (setW Y.ls (Y.ws.take i)), .vec Y.w (rC Y.ws), d], []⟩ =
      K (.exit 0) (Env.mk 86 [(0, .ptr 0 0), (1, .int .i64 (keep : Int)), (2, .int .i64 (t : Int))]) ⟨[.cells [.vs 1 Y.v 1 Y.ls.length, .vs 2 Y.w 2 Y.ws.length], .vec Y.v (setW Y.ls (Y.ws.take keep)), .vec Y.w (rC Y.ws), d], []⟩
  | r, 0, i, hi, hm => by omega
  | 0, m + 1, i, hi, hm => by
    obtain rfl : i = keep := by omega
    rw [show m + 1 = m.succ from rfl, rcrash_round, branch_not (by simp)]
  | r + 1, m + 1, i, hi, hm => by
    have ih := rcrash_loop F h keep t hk d K r m (i + 1) (by omega) (by omega)
    have h1 : i < Y.ws.length := by omega
    have hw := h.ws _ (List.getElem_mem h1)
    obtain ⟨a1, a2, a3, a4, a5⟩ := rows_at h1 hw.2
    have w1 := h.w1
    obtain ⟨b1, b2⟩ := h.take_ok i
    have en : nilA (List.drop (i * 2 + 1) (rC Y.ws)) = false := by
      rw [← List.drop_drop, rC_drop h1]
      show nilA (Y.ws[i].2 :: _) = false
      rw [nilA_head]; exact hw.2.nilA
    have es : setW Y.ls (Y.ws.take (i + 1)) = (setW Y.ls (Y.ws.take i)).set Y.ws[i].1 (nsB (cellB Y.ws[i].2)) := by
      rw [List.take_succ_eq_append_getElem h1, setW, List.foldl_append]; rfl
    rw [es] at ih
    rw [show m + 1 = m.succ from rfl, rcrash_round, branch_of (by simp; omega), if_pos ⟨by omega, by omega⟩, branch_of (Nat.beq_refl _), Int.toNat_natCast, branch_of a1, if_pos ⟨by omega, by omega⟩, branch_of (Nat.beq_refl _), branch_of a3, a2, if_pos ⟨by omega, by omega⟩, Int.toNat_natCast, Nat.mul_one, branch_of (by rw [Nat.beq_refl, show inC (setW Y.ls (Y.ws.take i)) Y.ws[i].1 1 = true by rw [inC_iff]; omega]; rfl), wrap_succ (by omega), en, a4, setC_one (by omega)]
    exact ih
theorem rcrash_can {Y : Rf} (h : Y.Ok) (k t : Int) : ∃ xs, f33.run 1000000 [.ptr 0 0, .int .i64 k, .int .i64 t] ⟨Y.obs, []⟩ = some (.ret (.tup []), ⟨(Y.crash k t).obs ++ xs, []⟩) := by
  obtain ⟨k1, k2⟩ := clip_ok k Y.ws.length (by omega)
  obtain ⟨t1, t2⟩ := clip_ok t 64 (by omega)
  have hw1 := h.w1
  by_cases hne : Y.ws = []
  · have hl : Y.ws.length = 0 := by rw [hne]; rfl
    have hc0 : clip k 0 = 0 := by rw [hl] at k1 k2; exact Int.le_antisymm k2 k1
    refine ⟨[], ?_⟩
    have e : Y.crash k t = { Y with ws := [] } := by
      rw [Rf.crash, Rf.settle, hne]; simp [tornC, setW]
    rw [e, Rf.obs, Rf.obs, Rf.wr_nil hne, rcrash_run0, show loopRun (f33_l0.run 1000000) [0, 1, 2, 6] (Cont.block 0 (Cont.then (f33_r0.run 1000000 (f33.leaveK Fun.done)) (f33.leaveK Fun.done))) 1000000 = loopRun (f33_l0.run 1000000) [0, 1, 2, 6] (Cont.block 0 (Cont.then (f33_r0.run 1000000 (f33.leaveK Fun.done)) (f33.leaveK Fun.done))) (Nat.succ 999999) from rfl, rcrash_end, show leastI false (leastI true k 0) 0 = clip k 0 from rfl, hc0, branch_not (by rfl), rcrash_out0, branch_not (by rfl)]
    rfl
  · obtain ⟨keep, hk⟩ := Int.eq_ofNat_of_zero_le k1
    obtain ⟨torn, ht⟩ := Int.eq_ofNat_of_zero_le t1
    have hk2 : keep ≤ Y.ws.length := by omega
    have ht2 : torn ≤ 64 := by omega
    have hcr : Y.crash k t = Y.settle keep torn := by rw [Rf.crash, hk, ht]; rfl
    obtain ⟨b1, b2⟩ := h.take_ok keep
    have lp := rcrash_loop 1000000 h keep torn hk2 (.nov Y.u) (Cont.block 0 (Cont.then (f33_r0.run 1000000 (f33.leaveK Fun.done)) (f33.leaveK Fun.done))) keep 1000000 0 (by omega) (by omega)
    rw [List.take_zero] at lp
    rw [hcr, Rf.obs, Rf.wr_ne hne, h.W1 hne, rcrash_run, show leastI false (leastI true k 0) (Y.ws.length : Int) = clip k Y.ws.length from rfl, show leastI false (leastI true t 0) 64 = clip t 64 from rfl, hk, ht]
    have lp2 : ∀ R, Cont.block 0 (Cont.then (f33_r0.run 1000000 (f33.leaveK Fun.done)) (f33.leaveK Fun.done)) (.exit 0) (Env.mk 86 [(0, .ptr 0 0), (1, .int .i64 (keep : Int)), (2, .int .i64 (torn : Int))]) ⟨[.cells [.vs 1 Y.v 1 Y.ls.length, .vs 2 Y.w 2 Y.ws.length], .vec Y.v (setW Y.ls (Y.ws.take keep)), .vec Y.w (rC Y.ws), .nov Y.u], []⟩ = R →
        loopRun (f33_l0.run 1000000) [0, 1, 2, 6] (Cont.block 0 (Cont.then (f33_r0.run 1000000 (f33.leaveK Fun.done)) (f33.leaveK Fun.done))) 1000000 (Env.mk 86 [(0, .ptr 0 0), (1, .int .i64 (keep : Int)), (2, .int .i64 (torn : Int)), (6, .int .i64 0)]) ⟨[.cells [.vs 1 Y.v 1 Y.ls.length, .vs 2 Y.w 2 Y.ws.length], .vec Y.v Y.ls, .vec Y.w (rC Y.ws), .nov Y.u], []⟩ = R := fun R hR => lp.trans hR
    have hset : ∀ xs, ⟨(Y.settle keep torn).obs ++ xs, []⟩ = (⟨[.cells [.vs 1 Y.v 1 Y.ls.length, .nilsl], .vec Y.v (tornC (setW Y.ls (Y.ws.take keep)) Y.ws[keep]? torn), .vec Y.w (rC Y.ws), .nov Y.u] ++ xs, []⟩ : St) := by
      intro xs
      obtain ⟨c1, _⟩ := tornC_ok b1 b2 (w := Y.ws[keep]?) (fun x hx => h.ws x (List.mem_of_getElem? hx)) torn
      rw [Rf.obs, show (Y.settle keep torn).ls.length = Y.ls.length from c1, ← h.W1 hne]; rfl
    by_cases hlt : keep < Y.ws.length
    · have hw := h.ws _ (List.getElem_mem hlt)
      obtain ⟨a1, a2, a3, a4, a5⟩ := rows_at hlt hw.2
      rw [Nat.add_zero] at a1 a2
      have e0 := rC_drop hlt
      have hsp := hw.2.spec
      have eag : (LD.agg [LT.int IntKind.i64, LT.ns 1]).is (List.drop (keep * 2) (rC Y.ws)) = true := by
        rw [e0]
        show (true && (isLT (.ns 1) (Y.ws[keep].2 :: _) && true)) = true
        rw [isLT_head]
        rw [show isLT (.ns 1) [Y.ws[keep].2] = true from hsp.1]; rfl
      have etl : rwA (List.drop (keep * 2) (rC Y.ws)).tail = bR (cellB Y.ws[keep].2) := by
        rw [e0]; show rwA (Y.ws[keep].2 :: _) = _; rw [rwA_head]; exact hsp.2.1
      have hl : Y.ws[keep].1 < (setW Y.ls (Y.ws.take keep)).length := by omega
      have hc := b2 _ (List.getElem_mem hl)
      obtain ⟨d1, d2, d3⟩ := cells_at hl hc
      have hcs := hc.spec
      generalize hB : cellB (setW Y.ls (Y.ws.take keep))[Y.ws[keep].1] = B at d2 d3 hcs
      have hBl : B.length = 64 := hcs.2.2.1
      generalize hD : cellB Y.ws[keep].2 = D at etl hsp
      have hDl : D.length = 64 := hsp.2.2.1
      have emin : minN (List.drop 0 (List.take (torn : Int).toNat (bR D))).length 64 = torn := by
        rw [minN, opq_eq, List.drop_zero, Int.toNat_natCast, bR_take, bR_length, List.length_take]; omega
      have efl : flC (List.drop 0 (List.take (torn : Int).toNat (bR D))) torn = bC (D.take torn) := by
        rw [List.drop_zero, Int.toNat_natCast, bR_take, flC_bR, List.take_take, Nat.min_self]
      have eput : (putN B 0 (D.take torn)).length = 64 := by rw [putN_length (by rw [List.length_take]; omega), hBl]
      have eset : setC (bC B) 0 (bC (D.take torn)) = bC (putN B 0 (D.take torn)) := setC_bC (by rw [List.length_take]; omega)
      refine ⟨[.nov 1], ?_⟩
      rw [hset]
      refine lp2 _ ?_
      rw [rcrash_out, branch_of (by simp; omega), if_pos ⟨by omega, by omega⟩, branch_of (Nat.beq_refl _), Int.toNat_natCast, branch_of eag, a2, if_pos ⟨by omega, by omega⟩, branch_of (Nat.beq_refl _), Int.toNat_natCast, branch_of d1, d2, branch_of (by rw [d3, bR_length, hBl]; rfl), etl, bR_length, if_pos ⟨by omega, by omega⟩, emin, nR_bR, mulN_one, branch_of (show (true && inC (bC B) 0 torn) = true by rw [inC_bC (by omega)]; rfl), if_pos ⟨by omega, by omega⟩, efl, eset, mulN_one, branch_of (show (true && inC (bC (putN B 0 (D.take torn))) 0 64) = true by rw [inC_bC (by omega)]; rfl), Nat.mul_one,
        branch_of (by rw [Nat.beq_refl, show inC (setW Y.ls (Y.ws.take keep)) Y.ws[keep].1 1 = true by rw [inC_iff]; omega]; rfl), rowsC_bC (by omega), List.drop_zero, List.take_of_length_le (l := putN B 0 (D.take torn)) (by omega), setC_one (by omega)]
      have : tornC (setW Y.ls (Y.ws.take keep)) Y.ws[keep]? torn = (setW Y.ls (Y.ws.take keep)).set Y.ws[keep].1 (.ns false 1 (bR (putN B 0 (D.take torn)))) := by
        rw [List.getElem?_eq_getElem hlt]
        show (setW Y.ls (Y.ws.take keep)).set _ (nsB (putN (cellB ((setW Y.ls (Y.ws.take keep)).getD _ .nilsl)) 0 ((cellB _).take torn))) = _
        rw [List.getD_eq_getElem?_getD, List.getElem?_eq_getElem hl, Option.getD_some, hB, hD]; rfl
      rw [this]; rfl
    · have e : Y.ws[keep]? = none := List.getElem?_eq_none (by omega)
      refine ⟨[], ?_⟩
      rw [hset, e]
      refine lp2 _ ?_
      rw [rcrash_out, branch_not (by simp; omega)]; rfl
theorem Rf.Ok.crash {Y : Rf} (h : Y.Ok) (k t : Int) : (Y.crash k t).Ok := h.settle _ _
noncomputable def s33 : OrcS Try.prog := f33.by'
  (fun args st k => match args with
    | [x, n, y] => rfA.on x st fun i Y => onInt n fun kd n => onInt y fun kd' t => ifT (decide (kd = .i64) && decide (kd' = .i64)) (k (.ret (.tup [])) (rfA.pl st i (Y.crash n t)))
    | _ => none)
  fun args st k fin h => by
    split at h
    · rename_i x n y
      obtain ⟨i, Y, rfl, hd, g1⟩ := ADT.on_spec h
      obtain ⟨kd, n, g2, rfl⟩ := onInt_spec g1
      obtain ⟨kd', t, g3, rfl⟩ := onInt_spec g2
      obtain ⟨hk, g4⟩ := ifT_spec g3
      simp only [Bool.and_eq_true, decide_eq_true_eq] at hk
      obtain ⟨rfl, rfl⟩ := hk
      obtain ⟨xs, hrun⟩ := rcrash_can hd.ok n t
      have := ADT.placed (A := rfA) (f := f33) (F := 1000000) (args0 := [.ptr 0 0, .int .i64 n, .int .i64 t]) (r := .tup []) hrun (hd.ok.crash n t) ⟨by show 0 < 4; omega, trivial, trivial, trivial⟩ trivial hd
      exact ⟨_, _, g4, this⟩
    · cases h
end Go.Proofs.Ytclghabbhpaafaa.V

/- The functions' pieces, as told by gen.py. -/
set_option linter.unusedVariables false
set_option maxRecDepth 20000
namespace Go.Proofs.Ytclghabbhpaafaa.V
open Go Go.V Go.RowKit


/-! ### 32: (*interlock/interlockref02.Disk).Flush (42); results ; slots: 0 d, 1 d -/
noncomputable def f32_b : Sim Try.prog :=
  (.live [] (.region 0 [
    ⟨(opMove (some 2) (.tmp 0) 42 "ref.go:83" #[]).op, none⟩,
    ⟨(opMove (some 3) (.tmp 0) 42 "ref.go:83" #[]).op, none⟩,
    ⟨(opNilCheck (some 4) (.tmp 3) 0 "ref.go:83" #[{ on := 1, ground := Ground.data }]).op, none⟩,
    ⟨(opFieldAddr (some 5) 67 (.tmp 4) 1 1 1 false fl67_1 (by decide) 0 "ref.go:83" #[{ on := 2, ground := Ground.data }]).op, none⟩,
    ⟨(opLoadT (.one .any) (some 6) 65 (.tmp 5) (.slice 69) Try.underlying65 1 sz65 (by kernel_rfl) 65 "ref.go:83" #[{ on := 3, ground := Ground.data }]).op, none⟩,
    ⟨(opLen (some 7) (.tmp 6) 65 (.slice 69) Try.underlying65 3 "ref.go:83" #[{ on := 4, ground := Ground.data }]).op, none⟩,
    ⟨opCall (s33).orc (some 8) [(.tmp 2), (.tmp 7), (.const (Value.int IntKind.i64 0))] #[42, 3, 3] 0 "ref.go:83" #[{ on := 0, ground := Ground.data }, { on := 5, ground := Ground.data }], none⟩
  ] (by kernel_rfl)))

noncomputable def f32 : Fun Try.prog where
  id := 32
  fn := Try.f32
  hf := Try.func32
  hname := by kernel_rfl
  body := f32_b
  hbody := by kernel_rfl
  res := []
  hres := by kernel_rfl
  n := 9
  hn := by kernel_rfl

end Go.Proofs.Ytclghabbhpaafaa.V

/- What the functions' runs come to; the right sides were printed by a tool, Lean checks them. -/
set_option linter.unusedVariables false
set_option maxRecDepth 100000
namespace Go.Proofs.Ytclghabbhpaafaa.V
open Go Go.V Go.RowKit

theorem rflush_run0 (F : Nat) (v n : Nat) (b c d : Ob) :
    (f32.run F [.ptr 0 0] ⟨[.cells [.vs 1 v 1 n, .nilsl], b, c, d], []⟩ : Ans) =
    onSome (rfA.G 0 [Ob.cells [AV.vs 1 v 1 n, AV.nilsl], b, c, d]) none fun (o : Rf) =>
      some
        (Fin.ret (AV.tup []),
          St.mk
            [rfA.ob 0 (o.crash (0 : Int) (0 : Int)) 0,
              rfA.ob 0 (o.crash (0 : Int) (0 : Int)) 1,
              rfA.ob 0 (o.crash (0 : Int) (0 : Int)) 2,
              rfA.ob 0 (o.crash (0 : Int) (0 : Int)) 3]
            []) := by kernel_rfl

theorem rflush_run (F : Nat) (v n w m : Nat) (b c d : Ob) :
    (f32.run F [.ptr 0 0] ⟨[.cells [.vs 1 v 1 n, .vs 2 w 2 m], b, c, d], []⟩ : Ans) =
    onSome (rfA.G 0 [Ob.cells [AV.vs 1 v 1 n, AV.vs 2 w 2 m], b, c, d]) none
      fun (o : Rf) =>
      some
        (Fin.ret (AV.tup []),
          St.mk
            [rfA.ob 0 (o.crash (↑m : Int) (0 : Int)) 0,
              rfA.ob 0 (o.crash (↑m : Int) (0 : Int)) 1,
              rfA.ob 0 (o.crash (↑m : Int) (0 : Int)) 2,
              rfA.ob 0 (o.crash (↑m : Int) (0 : Int)) 3]
            []) := by kernel_rfl

end Go.Proofs.Ytclghabbhpaafaa.V

/- Disk: the reference's flush, as a callee. -/
set_option linter.unusedVariables false
namespace Go.Proofs.Ytclghabbhpaafaa.V
open Go Go.V Go.RowKit

def Rf.flush (Y : Rf) : Rf := Y.crash (Y.ws.length : Int) 0
theorem rfl_obs (Y : Rf) (h : Y.Ok) : [rfA.ob 0 Y 0, rfA.ob 0 Y 1, rfA.ob 0 Y 2, rfA.ob 0 Y 3] = Y.obs := rfA.obl_zero h
theorem rflush_can {F : Nat} {Y : Rf} (h : Y.Ok) : f32.run F [.ptr 0 0] ⟨Y.obs, []⟩ = some (.ret (.tup []), ⟨Y.flush.obs, []⟩) := by
  have hg : rfA.G 0 Y.obs = some Y := by
    have := rfA.G_obl h 0
    rwa [rfA.obl_zero h] at this
  by_cases hne : Y.ws = []
  · have hl : Y.ws.length = 0 := by rw [hne]; rfl
    have ho := rfl_obs (Y.crash 0 0) (h.crash _ _)
    rw [Rf.obs, Rf.wr_nil hne] at hg ⊢
    rw [rflush_run0, hg, onSome_some, ho, Rf.flush, hl]; rfl
  · have ho := rfl_obs (Y.crash (Y.ws.length : Int) 0) (h.crash _ _)
    rw [Rf.obs, Rf.wr_ne hne] at hg ⊢
    rw [rflush_run, hg, onSome_some, ho, Rf.flush]
noncomputable def s32 : OrcS Try.prog := f32.by'
  (fun args st k => match args with
    | [x] => rfA.on x st fun i Y => k (.ret (.tup [])) (rfA.pl st i Y.flush)
    | _ => none)
  fun args st k fin h => by
    split at h
    · rename_i x
      obtain ⟨i, Y, rfl, hd, g1⟩ := ADT.on_spec h
      have := ADT.placed (A := rfA) (f := f32) (F := 0) (args0 := [.ptr 0 0]) (r := .tup []) (xs := []) (by rw [List.append_nil]; exact rflush_can hd.ok) (hd.ok.crash _ _) ⟨by show 0 < 4; omega, trivial⟩ trivial hd
      exact ⟨_, _, g1, this⟩
    · cases h
theorem s31_nat : s31.NatS := by
  intro args st k
  show s31.sem args st k = thS (s31.sem args st (fun r st' => some (r, st'))) k
  simp only [s31, Fun.by']
  split
  · exact ADT.on_th fun i Y => onInt_th fun kd n => ifT_th (onNs_th fun z l => ifT_th rfl)
  · rfl
theorem onD_nat {x : AV} {st : St} {s s' : Nat → Dk → Ans} {K : AV → Ans} (h : ∀ i X, s i X = thenA (s' i X) K) : onD x st s = thenA (onD x st s') K := by
  unfold onD
  split
  · split
    · split
      · split
        · split
          · split
            · split
              · unfold onSome
                split
                · rfl
                · exact h _ _
              · rfl
            · rfl
          · rfl
        · rfl
      · rfl
    · rfl
  · rfl
noncomputable def q28 : OrcQ Try.prog := f28.byQ
  (fun args st k => match args with
    | [x] => onD x st fun i X => k (.int .i64 (X.n : Int))
    | _ => none)
  fun args st k fin h => by
    split at h
    · rename_i x
      obtain ⟨i, a, b, c, d, X, rfl, h0, h1, h2, h3, hd, g1⟩ := onD_spec h
      have := dk_placed (f := f28) (r := .int .i64 (X.n : Int)) (args0 := [.ptr 2 0]) (xs := []) (X := X) (Y := X) (F := 0) (by rw [List.append_nil]; exact size_run _ _ _ _ _ _) hd.1 ⟨by show 2 < 4; omega, trivial⟩ trivial hd h0 h1 h2 h3
      rw [same_plD hd h0 h1 h2 h3] at this
      exact ⟨_, g1, this⟩
    · cases h
theorem q28_nat : q28.NatQ := by
  intro args st k
  simp only [q28, Fun.byQ]
  split
  · exact onD_nat fun i Y => rfl
  · rfl
noncomputable def q22 : OrcQ Try.prog := f22.byQ
  (fun args st k => match args with
    | [x] => onD x st fun i X => k (.int .i64 (X.ws.length : Int))
    | _ => none)
  fun args st k fin h => by
    split at h
    · rename_i x
      obtain ⟨i, a, b, c, d, X, rfl, h0, h1, h2, h3, hd, g1⟩ := onD_spec h
      have := dk_placed (f := f22) (r := .int .i64 (X.ws.length : Int)) (args0 := [.ptr 2 0]) (xs := []) (X := X) (Y := X) (F := 0) (by rw [List.append_nil]; exact pend_can _) hd.1 ⟨by show 2 < 4; omega, trivial⟩ trivial hd h0 h1 h2 h3
      rw [same_plD hd h0 h1 h2 h3] at this
      exact ⟨_, g1, this⟩
    · cases h
theorem q22_nat : q22.NatQ := by
  intro args st k
  simp only [q22, Fun.byQ]
  split
  · exact onD_nat fun i Y => rfl
  · rfl
noncomputable def q21 : OrcQ Try.prog := f21.byQ
  (fun args st k => match args with
    | [x] => onD x st fun i X => k (.ns false 1 (bR X.ls))
    | _ => none)
  fun args st k fin h => by
    split at h
    · rename_i x
      obtain ⟨i, a, b, c, d, X, rfl, h0, h1, h2, h3, hd, g1⟩ := onD_spec h
      obtain ⟨v, hrun⟩ := image_can hd.1
      have := dk_placed (f := f21) (r := .ns false 1 (bR X.ls)) (args0 := [.ptr 2 0]) hrun hd.1 ⟨by show 2 < 4; omega, trivial⟩ (bR_scoped _) hd h0 h1 h2 h3
      rw [same_plD hd h0 h1 h2 h3] at this
      exact ⟨_, g1, this⟩
    · cases h
theorem q21_nat : q21.NatQ := by
  intro args st k
  simp only [q21, Fun.byQ]
  split
  · exact onD_nat fun i Y => rfl
  · rfl
noncomputable def q29 : OrcQ Try.prog := f29.byQ
  (fun args st k => match args with
    | [x] => rfA.on x st fun i Y => k (.ns false 1 (bR (Y.img Y.ls.length)))
    | _ => none)
  fun args st k fin h => by
    split at h
    · rename_i x
      obtain ⟨i, Y, rfl, hd, g1⟩ := ADT.on_spec h
      obtain ⟨u, hrun⟩ := rimage_can hd.ok
      have := ADT.placed (A := rfA) (f := f29) (args0 := [.ptr 0 0]) hrun hd.ok ⟨by show 0 < 4; omega, trivial⟩ (bR_scoped _) hd
      rw [hd.same] at this
      exact ⟨_, g1, this⟩
    · cases h
theorem q29_nat : q29.NatQ := by
  intro args st k
  simp only [q29, Fun.byQ]
  split
  · exact ADT.on_nat fun i Y => rfl
  · rfl
end Go.Proofs.Ytclghabbhpaafaa.V

/- The functions' pieces, as told by gen.py. -/
set_option linter.unusedVariables false
set_option maxRecDepth 20000
namespace Go.Proofs.Ytclghabbhpaafaa.V
open Go Go.V Go.RowKit


/-! ### 20: interlock/interlocklaw02.same (24, 42); results 4; slots: 0 d, 1 r, 2 d, 3 r, 5 k, 6 a, 7 e, 8 b, 9 f -/
/-- A loop's round; at its head live: 0 d, 1 r, 5 k -/
noncomputable def f20_l0 : Sim Try.prog :=
  (.seq (.seq (.live [0, 1, 5, 39] (.region 4 [
    ⟨(opMove (some 36) (.tmp 5) 3 "law.go:56" #[]).op, none⟩,
    ⟨(opMove (some 37) (.tmp 0) 24 "law.go:56" #[]).op, none⟩,
    ⟨(opCallQ q28 (some 38) [(.tmp 37)] #[24] 3 "law.go:56" #[{ on := 1, ground := Ground.data }]).op, none⟩,
    ⟨(opBin (some 39) .lss 3 (.tmp 36) (.tmp 38) 3 4 "law.go:56" #[{ on := 0, ground := Ground.data }, { on := 2, ground := Ground.data }]).op, none⟩
  ] (by kernel_rfl)))
  (.cond (.tmp 39)
    .skip
    (.live [] (.exit 0))))
  (.seq (.block 1 (.seq (.live [0, 1, 5, 6, 7] (.region 6 [
      ⟨(opMove (some 43) (.tmp 0) 24 "law.go:57" #[]).op, none⟩,
      ⟨(opMove (some 44) (.tmp 5) 3 "law.go:57" #[]).op, none⟩,
      ⟨opCall (s13).orc (some 45) [(.tmp 43), (.tmp 44)] #[24, 3] 30 "law.go:57" #[{ on := 0, ground := Ground.data }, { on := 1, ground := Ground.data }], none⟩,
      ⟨(opMove (some 42) (.tmp 45) 30 "law.go:57" #[{ on := 2, ground := Ground.data }]).op, none⟩,
      ⟨(opExtract (some 46) (.tmp 42) 0 22 "law.go:57" #[{ on := 3, ground := Ground.data }]).op, none⟩,
      ⟨(opExtract (some 47) (.tmp 42) 1 25 "law.go:57" #[{ on := 3, ground := Ground.data }, { on := 6, ground := (Ground.gcOnly Departure.lateStores) }]).op, none⟩,
      ⟨(opAssign (some 6) (.tmp 46) 22 "law.go:57" #[{ on := 4, ground := Ground.data }, { on := 2, ground := Ground.chain }, { on := 0, ground := Ground.phase }, { on := 1, ground := Ground.phase }, { on := 2, ground := Ground.phase }, { on := 3, ground := Ground.phase }, { on := 4, ground := Ground.phase }, { on := 5, ground := (Ground.textOnly Departure.lateStores) }]).op, none⟩,
      ⟨(opAssign (some 7) (.tmp 47) 25 "law.go:57" #[{ on := 5, ground := Ground.data }, { on := 6, ground := Ground.chain }, { on := 0, ground := Ground.phase }, { on := 1, ground := Ground.phase }, { on := 2, ground := Ground.phase }, { on := 3, ground := Ground.phase }, { on := 4, ground := Ground.phase }, { on := 5, ground := Ground.phase }, { on := 6, ground := Ground.phase }]).op, none⟩
    ] (by kernel_rfl)))
    (.seq (.live [0, 1, 5, 6, 7, 8, 9] (.region 7 [
      ⟨(opMove (some 49) (.tmp 1) 42 "law.go:58" #[]).op, none⟩,
      ⟨(opMove (some 50) (.tmp 5) 3 "law.go:58" #[]).op, none⟩,
      ⟨opCall (s30).orc (some 51) [(.tmp 49), (.tmp 50)] #[42, 3] 30 "law.go:58" #[{ on := 0, ground := Ground.data }, { on := 1, ground := Ground.data }], none⟩,
      ⟨(opMove (some 48) (.tmp 51) 30 "law.go:58" #[{ on := 2, ground := Ground.data }]).op, none⟩,
      ⟨(opExtract (some 52) (.tmp 48) 0 22 "law.go:58" #[{ on := 3, ground := Ground.data }]).op, none⟩,
      ⟨(opExtract (some 53) (.tmp 48) 1 25 "law.go:58" #[{ on := 3, ground := Ground.data }, { on := 6, ground := (Ground.gcOnly Departure.lateStores) }]).op, none⟩,
      ⟨(opAssign (some 8) (.tmp 52) 22 "law.go:58" #[{ on := 4, ground := Ground.data }, { on := 2, ground := Ground.chain }, { on := 0, ground := Ground.phase }, { on := 1, ground := Ground.phase }, { on := 2, ground := Ground.phase }, { on := 3, ground := Ground.phase }, { on := 4, ground := Ground.phase }, { on := 5, ground := (Ground.textOnly Departure.lateStores) }]).op, none⟩,
      ⟨(opAssign (some 9) (.tmp 53) 25 "law.go:58" #[{ on := 5, ground := Ground.data }, { on := 6, ground := Ground.chain }, { on := 0, ground := Ground.phase }, { on := 1, ground := Ground.phase }, { on := 2, ground := Ground.phase }, { on := 3, ground := Ground.phase }, { on := 4, ground := Ground.phase }, { on := 5, ground := Ground.phase }, { on := 6, ground := Ground.phase }]).op, none⟩
    ] (by kernel_rfl)))
    (.seq (.live [0, 1, 5, 62] (.region 8 [
      ⟨(opMove (some 54) (.tmp 6) 22 "law.go:59" #[]).op, none⟩,
      ⟨(opMove (some 55) (.tmp 8) 22 "law.go:59" #[]).op, none⟩,
      ⟨(opCallQ q17 (some 56) [(.tmp 54), (.tmp 55)] #[22, 22] 4 "law.go:59" #[{ on := 0, ground := Ground.data }, { on := 1, ground := Ground.data }]).op, none⟩,
      ⟨(opNot (some 57) 4 (.tmp 56) 4 "law.go:59" #[{ on := 2, ground := Ground.data }]).op, none⟩,
      ⟨(opMove (some 58) (.tmp 57) 4 "law.go:59" #[{ on := 3, ground := Ground.data }, { on := 2, ground := Ground.chain }]).op, none⟩,
      ⟨(opMove (some 59) (.tmp 7) 25 "law.go:59" #[{ on := 4, ground := Ground.guard }]).op, (some (4, 58, false))⟩,
      ⟨(opMove (some 60) (.tmp 9) 25 "law.go:59" #[{ on := 4, ground := Ground.guard }]).op, (some (4, 58, false))⟩,
      ⟨(opBin (some 61) .neq 25 (.tmp 59) (.tmp 60) 25 4 "law.go:59" #[{ on := 5, ground := Ground.data }, { on := 6, ground := Ground.data }, { on := 4, ground := Ground.guard }]).op, (some (4, 58, false))⟩,
      ⟨(opPick (some 62) (.tmp 58) (.const (Value.bool true)) (.tmp 61) 4 "law.go:59" #[{ on := 4, ground := Ground.data }, { on := 7, ground := Ground.data }]).op, none⟩
    ] (by kernel_rfl)))
    (.cond (.tmp 62)
      (.seq (.live [4] (.region 9 [
        ⟨(opAssign (some 4) (.const (Value.bool false)) 4 "law.go:60" #[]).op, none⟩
      ] (by kernel_rfl)))
      (.live [4] .ret))
      .skip)))))
  (.live [0, 1, 5] (.region 5 [
    ⟨(opMove (some 40) (.tmp 5) 3 "law.go:56" #[]).op, none⟩,
    ⟨(opBin (some 41) .add 3 (.tmp 40) (.const (Value.int IntKind.i64 1)) 3 3 "law.go:56" #[{ on := 0, ground := Ground.data }]).op, none⟩,
    ⟨(opAssign (some 5) (.tmp 41) 3 "law.go:56" #[{ on := 1, ground := Ground.data }, { on := 0, ground := Ground.phase }, { on := 1, ground := Ground.phase }]).op, none⟩
  ] (by kernel_rfl)))))

/-- What follows a loop. -/
noncomputable def f20_r0 : Sim Try.prog :=
  (.seq (.live [4] (.region 10 [
    ⟨(opAssign (some 4) (.const (Value.bool true)) 4 "law.go:63" #[]).op, none⟩
  ] (by kernel_rfl)))
  (.live [4] .ret))

noncomputable def f20_b : Sim Try.prog :=
  (.seq (.live [0, 1] (.region 0 [
    ⟨(opAssign (some 4) (.const (Value.bool false)) 4 "law.go:52" #[]).op, none⟩
  ] (by kernel_rfl)))
  (.seq (.seq (.live [0, 1, 35] (.draw 1 [
    ⟨.p (opMove (some 10) (.tmp 0) 24 "law.go:53" #[]), none⟩,
    ⟨.qn (opCallQ q28 (some 11) [(.tmp 10)] #[24] 3 "law.go:53" #[{ on := 0, ground := Ground.data }]) (opCallQ_nat q28_nat), none⟩,
    ⟨.p (opMove (some 12) (.tmp 1) 42 "law.go:53" #[]), none⟩,
    ⟨.p (opNilCheck (some 13) (.tmp 12) 0 "law.go:53" #[{ on := 2, ground := Ground.data }]), none⟩,
    ⟨.pn (opFieldAddr (some 14) 67 (.tmp 13) 0 0 1 false fl67_0 (by decide) 0 "law.go:53" #[{ on := 3, ground := Ground.data }]) opFieldAddr_nat, none⟩,
    ⟨.qn (opLoadT (.one .any) (some 15) 64 (.tmp 14) (.slice 22) Try.underlying64 1 sz64 (by kernel_rfl) 64 "law.go:53" #[{ on := 4, ground := Ground.data }]) opLoadT_nat, none⟩,
    ⟨.p (opLen (some 16) (.tmp 15) 64 (.slice 22) Try.underlying64 3 "law.go:53" #[{ on := 5, ground := Ground.data }]), none⟩,
    ⟨.pn (opBin (some 17) .neq 3 (.tmp 11) (.tmp 16) 3 4 "law.go:53" #[{ on := 1, ground := Ground.data }, { on := 6, ground := Ground.data }]) opBin_nat, none⟩,
    ⟨.p (opMove (some 18) (.tmp 17) 4 "law.go:53" #[{ on := 7, ground := Ground.data }, { on := 1, ground := Ground.chain }]), none⟩,
    ⟨.p (opMove (some 19) (.tmp 0) 24 "law.go:53" #[{ on := 8, ground := Ground.guard }]), (some (8, 18, false))⟩,
    ⟨.qn (opCallQ q22 (some 20) [(.tmp 19)] #[24] 3 "law.go:53" #[{ on := 9, ground := Ground.data }, { on := 8, ground := Ground.chain }, { on := 8, ground := Ground.guard }]) (opCallQ_nat q22_nat), (some (8, 18, false))⟩,
    ⟨.p (opMove (some 21) (.tmp 1) 42 "law.go:53" #[{ on := 8, ground := Ground.guard }]), (some (8, 18, false))⟩,
    ⟨.p (opNilCheck (some 22) (.tmp 21) 0 "law.go:53" #[{ on := 11, ground := Ground.data }, { on := 8, ground := Ground.guard }]), (some (8, 18, false))⟩,
    ⟨.pn (opFieldAddr (some 23) 67 (.tmp 22) 1 1 1 false fl67_1 (by decide) 0 "law.go:53" #[{ on := 12, ground := Ground.data }, { on := 8, ground := Ground.guard }]) opFieldAddr_nat, (some (8, 18, false))⟩,
    ⟨.qn (opLoadT (.one .any) (some 24) 65 (.tmp 23) (.slice 69) Try.underlying65 1 sz65 (by kernel_rfl) 65 "law.go:53" #[{ on := 13, ground := Ground.data }, { on := 8, ground := Ground.guard }]) opLoadT_nat, (some (8, 18, false))⟩,
    ⟨.p (opLen (some 25) (.tmp 24) 65 (.slice 69) Try.underlying65 3 "law.go:53" #[{ on := 14, ground := Ground.data }, { on := 8, ground := Ground.guard }]), (some (8, 18, false))⟩,
    ⟨.pn (opBin (some 26) .neq 3 (.tmp 20) (.tmp 25) 3 4 "law.go:53" #[{ on := 10, ground := Ground.data }, { on := 15, ground := Ground.data }, { on := 8, ground := Ground.guard }]) opBin_nat, (some (8, 18, false))⟩,
    ⟨.p (opPick (some 27) (.tmp 18) (.const (Value.bool true)) (.tmp 26) 4 "law.go:53" #[{ on := 8, ground := Ground.data }, { on := 16, ground := Ground.data }]), none⟩,
    ⟨.p (opMove (some 28) (.tmp 27) 4 "law.go:53" #[{ on := 17, ground := Ground.data }, { on := 10, ground := Ground.chain }]), none⟩,
    ⟨.p (opMove (some 29) (.tmp 0) 24 "law.go:53" #[{ on := 18, ground := Ground.guard }]), (some (18, 28, false))⟩,
    ⟨.qn (opCallQ q21 (some 30) [(.tmp 29)] #[24] 22 "law.go:53" #[{ on := 19, ground := Ground.data }, { on := 18, ground := Ground.chain }, { on := 18, ground := Ground.guard }]) (opCallQ_nat q21_nat), (some (18, 28, false))⟩,
    ⟨.p (opMove (some 31) (.tmp 1) 42 "law.go:53" #[{ on := 18, ground := Ground.guard }]), (some (18, 28, false))⟩,
    ⟨.qn (opCallQ q29 (some 32) [(.tmp 31)] #[42] 22 "law.go:53" #[{ on := 21, ground := Ground.data }, { on := 20, ground := Ground.chain }, { on := 18, ground := Ground.guard }]) (opCallQ_nat q29_nat), (some (18, 28, false))⟩,
    ⟨.qn (opCallQ q17 (some 33) [(.tmp 30), (.tmp 32)] #[22, 22] 4 "law.go:53" #[{ on := 20, ground := Ground.data }, { on := 22, ground := Ground.data }, { on := 22, ground := Ground.chain }, { on := 18, ground := Ground.guard }]) (opCallQ_nat q17_nat), (some (18, 28, false))⟩,
    ⟨.p (opNot (some 34) 4 (.tmp 33) 4 "law.go:53" #[{ on := 23, ground := Ground.data }, { on := 18, ground := Ground.guard }]), (some (18, 28, false))⟩,
    ⟨.p (opPick (some 35) (.tmp 28) (.const (Value.bool true)) (.tmp 34) 4 "law.go:53" #[{ on := 18, ground := Ground.data }, { on := 24, ground := Ground.data }]), none⟩
  ] mixed (by kernel_rfl)))
  (.cond (.tmp 35)
    (.seq (.live [4] (.region 2 [
      ⟨(opAssign (some 4) (.const (Value.bool false)) 4 "law.go:54" #[]).op, none⟩
    ] (by kernel_rfl)))
    (.live [4] .ret))
    .skip))
  (.seq (.seq (.live [0, 1, 5] (.region 3 [
    ⟨(opAssign (some 5) (.const (Value.int IntKind.i64 0)) 3 "law.go:56" #[]).op, none⟩
  ] (by kernel_rfl)))
  (.block 0 (.loop [0, 1, 5] f20_l0)))
  f20_r0)))

noncomputable def f20 : Fun Try.prog where
  id := 20
  fn := Try.f20
  hf := Try.func20
  hname := by kernel_rfl
  body := f20_b
  hbody := by kernel_rfl
  res := [rTmp 4]
  hres := by kernel_rfl
  n := 63
  hn := by kernel_rfl

end Go.Proofs.Ytclghabbhpaafaa.V

/- What the functions' runs come to; the right sides were printed by a tool, Lean checks them. -/
set_option linter.unusedVariables false
set_option maxRecDepth 100000
namespace Go.Proofs.Ytclghabbhpaafaa.V
open Go Go.V Go.RowKit

theorem same20_run0 (F : Nat) (a b c d f g h : Ob) (v n : Nat) :
    (f20.run F [.ptr 2 0, .ptr 4 0] ⟨[a, b, c, d, .cells [.vs 5 v 1 n, .nilsl], f, g, h], []⟩ : Ans) =
    onSome (dkG 0 a b c d) none fun (o : Dk) =>
      branch (AV.bool ((↑o.n : Int) != (↑n : Int)))
        (some (Fin.ret (AV.bool false), St.mk [a, b, c, d, Ob.cells [AV.vs 5 v 1 n, AV.nilsl], f, g, h] []))
        (onSome (dkG 0 a b c d) none fun (o : Dk) =>
          branch (AV.bool ((↑o.ws.length : Int) != (0 : Int)))
            (some
              (Fin.ret (AV.bool false), St.mk [a, b, c, d, Ob.cells [AV.vs 5 v 1 n, AV.nilsl], f, g, h] []))
            (onSome (dkG 0 a b c d) none fun (o : Dk) =>
              onSome (rfA.G 4 [Ob.cells [AV.vs 5 v 1 n, AV.nilsl], f, g, h]) none fun (o_1 : Rf) =>
                branch (AV.bool (byOk (bR o.ls) && byOk (bR (o_1.img o_1.ls.length))))
                  (branch (AV.bool !nR (bR o.ls) == nR (bR (o_1.img o_1.ls.length)))
                    (some
                      (Fin.ret (AV.bool false),
                        St.mk [a, b, c, d, Ob.cells [AV.vs 5 v 1 n, AV.nilsl], f, g, h] []))
                    (loopRun (f20_l0.run F) [0, 1, 5]
                      (Cont.block 0 (Cont.then (f20_r0.run F (f20.leaveK Fun.done)) (f20.leaveK Fun.done))) F
                      (Env.mk 63
                        [(0, AV.ptr 2 0), (1, AV.ptr 4 0),
                          (5, AV.int IntKind.i64 (0 : Int))])
                      (St.mk [a, b, c, d, Ob.cells [AV.vs 5 v 1 n, AV.nilsl], f, g, h] [])))
                  none)) := by kernel_rfl

theorem same20_run (F : Nat) (a b c d f g h : Ob) (v n w m : Nat) :
    (f20.run F [.ptr 2 0, .ptr 4 0] ⟨[a, b, c, d, .cells [.vs 5 v 1 n, .vs 6 w 2 m], f, g, h], []⟩ : Ans) =
    onSome (dkG 0 a b c d) none fun (o : Dk) =>
      branch (AV.bool ((↑o.n : Int) != (↑n : Int)))
        (some
          (Fin.ret (AV.bool false),
            St.mk [a, b, c, d, Ob.cells [AV.vs 5 v 1 n, AV.vs 6 w 2 m], f, g, h] []))
        (onSome (dkG 0 a b c d) none fun (o : Dk) =>
          branch (AV.bool ((↑o.ws.length : Int) != (↑m : Int)))
            (some
              (Fin.ret (AV.bool false),
                St.mk [a, b, c, d, Ob.cells [AV.vs 5 v 1 n, AV.vs 6 w 2 m], f, g, h] []))
            (onSome (dkG 0 a b c d) none fun (o : Dk) =>
              onSome (rfA.G 4 [Ob.cells [AV.vs 5 v 1 n, AV.vs 6 w 2 m], f, g, h])
                none fun (o_1 : Rf) =>
                branch (AV.bool (byOk (bR o.ls) && byOk (bR (o_1.img o_1.ls.length))))
                  (branch (AV.bool !nR (bR o.ls) == nR (bR (o_1.img o_1.ls.length)))
                    (some
                      (Fin.ret (AV.bool false),
                        St.mk [a, b, c, d, Ob.cells [AV.vs 5 v 1 n, AV.vs 6 w 2 m], f, g, h]
                          []))
                    (loopRun (f20_l0.run F) [0, 1, 5]
                      (Cont.block 0 (Cont.then (f20_r0.run F (f20.leaveK Fun.done)) (f20.leaveK Fun.done))) F
                      (Env.mk 63
                        [(0, AV.ptr 2 0), (1, AV.ptr 4 0),
                          (5, AV.int IntKind.i64 (0 : Int))])
                      (St.mk [a, b, c, d, Ob.cells [AV.vs 5 v 1 n, AV.vs 6 w 2 m], f, g, h]
                        [])))
                  none)) := by kernel_rfl

theorem same20_round (F m : Nat) (K : Cont) (i : Int) (a b c d e f g h : Ob) :
    (loopRun (f20_l0.run F) [0, 1, 5] K m.succ (Env.mk 63 [(0, .ptr 2 0), (1, .ptr 4 0), (5, .int .i64 i)]) ⟨[a, b, c, d, e, f, g, h], []⟩ : Ans) =
    onSome (dkG 0 a b c d) none fun (o : Dk) =>
      branch (AV.bool (decide (i < (↑o.n : Int))))
        (onSome (dkG 0 a b c d) none fun (o : Dk) =>
          onSome (rfA.G 4 [e, f, g, h]) none fun (o_1 : Rf) =>
            branch (AV.bool (byOk (bR (o.rdB i)) && byOk (bR (o_1.rdB i))))
              (branch (AV.bool !nR (bR (o.rdB i)) == nR (bR (o_1.rdB i)))
                (K AX.ret (Env.mk 63 [(4, AV.bool false)]) (St.mk [a, b, c, d, e, f, g, h] []))
                (branch (AV.bool (o.rdE i != o_1.rdE i))
                  (K AX.ret (Env.mk 63 [(4, AV.bool false)]) (St.mk [a, b, c, d, e, f, g, h] []))
                  (loopRun (f20_l0.run F) [0, 1, 5] K m
                    (Env.mk 63
                      [(0, AV.ptr 2 0), (1, AV.ptr 4 0),
                        (5, AV.int IntKind.i64 (IntKind.i64.wrap (i + (1 : Int))))])
                    (St.mk [a, b, c, d, e, f, g, h] []))))
              none)
        (K (AX.exit 0) (Env.mk 63 []) (St.mk [a, b, c, d, e, f, g, h] [])) := by kernel_rfl

end Go.Proofs.Ytclghabbhpaafaa.V

/- Disk: a disk is as the reference's. -/
set_option linter.unusedVariables false
namespace Go.Proofs.Ytclghabbhpaafaa.V
open Go Go.V Go.RowKit

/-! ### A disk as data -/
theorem dk_inj {X Y : Dk} (hX : X.Ok) (hY : Y.Ok) (h : X.obs = Y.obs) : X = Y := by
  simp only [Dk.obs, List.cons.injEq, and_true] at h
  obtain ⟨h0, h1, h2, h3⟩ := h
  refine obs_inj (i := 0) hX hY h0 h1 ?_ h3
  have e := fun Z : Dk => wr_at0 Z
  rw [Dk.at2, Dk.at2, e, e]; exact h2
def dkA : ADT Dk where
  m := 4
  p := 2
  hp := by decide
  obs := Dk.obs
  Ok := fun X => X.Ok ∧ X.ws.length < 999999
  len := fun _ => rfl
  near := fun _ h => obs_near h.1
  inj := fun _ _ h k e => dk_inj h.1 k.1 e
theorem dk_at {X : Dk} (h : X.Ok) (i : Nat) : dkA.at_ i X = [X.at0, X.at1, X.at2 i, X.W] := by
  have e1 := at0_ren X (sh i)
  have e2 : renO (sh i) (.map X.es) = X.at1 := h.ren1 _
  have e3 := at2_ren (X := X) (τ := sh i) (i := i) rfl rfl rfl
  have e4 := h.renW (sh i)
  show [renO (sh i) (.cells (bC X.ls)), renO (sh i) (.map X.es), renO (sh i) (.cells [.ms 0 64 0 X.n X.n, .mp 1, X.wr]), renO (sh i) X.W] = _
  rw [e1, e2, e3, e4]
theorem take4 {l : List Ob} {i : Nat} {a b c d : Ob} (h0 : l[i]? = some a) (h1 : l[i + 1]? = some b) (h2 : l[i + 2]? = some c) (h3 : l[i + 3]? = some d) : i + 4 ≤ l.length ∧ (l.drop i).take 4 = [a, b, c, d] := by
  have hl := getElem?_lt h3
  refine ⟨by omega, ?_⟩
  apply List.ext_getElem?
  intro k
  rw [List.getElem?_take, List.getElem?_drop]
  match k with
  | 0 => rw [if_pos (by omega)]; exact h0
  | 1 => rw [if_pos (by omega)]; exact h1
  | 2 => rw [if_pos (by omega)]; exact h2
  | 3 => rw [if_pos (by omega)]; exact h3
  | k + 4 => rw [if_neg (by omega)]; rfl
theorem dk_here {i : Nat} {a b c d : Ob} {X : Dk} {st : St} (hd : isD i a b c d X) (h0 : st.objs[i]? = some a) (h1 : st.objs[i + 1]? = some b) (h2 : st.objs[i + 2]? = some c) (h3 : st.objs[i + 3]? = some d) : dkA.Here st i X := by
  obtain ⟨q1, q2⟩ := take4 h0 h1 h2 h3
  obtain ⟨p0, p1, p2, p3, p4, p5⟩ := hd
  refine ⟨⟨p0, p1⟩, q1, ?_⟩
  rw [dk_at p0, p2, p3, p4, p5]; exact q2

/-! ### As the reference's -/
structure Same (X : Dk) (Y : Rf) : Prop where
  n : X.n = Y.ls.length
  at_ : ∀ k, k < X.n → sec X.ls k = Y.at_ k
  ws : X.ws = Y.wl
theorem Same.sector {X : Dk} {Y : Rf} (h : Same X Y) {k : Nat} (hk : k < X.n) : X.sector k = Y.sector k := by
  rw [Dk.sector, Rf.sector, h.ws, ← h.at_ k hk]; rfl
theorem Same.rd {X : Dk} {Y : Rf} (h : Same X Y) (k : Int) : X.rdB k = Y.rdB k ∧ X.rdE k = Y.rdE k := by
  have e : X.inD k = Y.inD k := by rw [Dk.inD, Rf.inD, h.n]
  rw [Dk.rdB, Rf.rdB, Dk.rdE, Rf.rdE, e]
  refine ⟨?_, rfl⟩
  cases hi : Y.inD k with
  | false => rfl
  | true =>
    rw [Rf.inD, decide_eq_true_eq] at hi
    exact h.sector (by have := h.n; omega)
theorem Same.len {X : Dk} {Y : Rf} (h : Same X Y) : X.ws.length = Y.ws.length := by rw [h.ws, Rf.wl, List.length_map]
theorem img_at {Y : Rf} (hY : Y.Ok) {l : List Nat} : ∀ k, k ≤ Y.ls.length → (∀ j, j < Y.ls.length → sec l j = Y.at_ j) → l.take (k * 64) = Y.img k
  | 0, _, _ => by rw [Nat.zero_mul, List.take_zero]; rfl
  | k + 1, hk, h => by
    have ih := img_at hY (l := l) k (by omega) h
    have h1 : k < Y.ls.length := by omega
    rw [← sec_all, ih, h k h1, (hY.img_succ h1).1, (hY.at_cell h1).2]
theorem Same.img {X : Dk} {Y : Rf} (h : Same X Y) (hX : X.Ok) (hY : Y.Ok) : X.ls = Y.img Y.ls.length := by
  have e := img_at hY (l := X.ls) Y.ls.length (Nat.le_refl _) fun j hj => h.at_ j (by rw [h.n]; exact hj)
  rw [← e, List.take_of_length_le (by rw [hX.len, h.n]; exact Nat.le_refl _)]
theorem rd_byte {X : Dk} (h : X.Ok) (k : Int) : byOk (bR (X.rdB k)) = true := by
  rw [Dk.rdB]
  cases hi : X.inD k with
  | false => exact byOk_bR (by simp) (by simp)
  | true =>
    rw [Dk.inD, decide_eq_true_eq] at hi
    obtain ⟨h1, h2⟩ := h.sector_len (k := k.toNat) (by omega)
    exact byOk_bR h2 (by rw [cond_true]; omega)

theorem rf_at {Y : Rf} {i : Nat} (hY : Y.Ok) : rfA.at_ i Y = [.cells [.vs (i + 1) Y.v 1 Y.ls.length, ren (sh i) Y.wr], .vec Y.v Y.ls, Y.W, .nov Y.u] := by
  have near0 : ∀ o, NearO 0 o → renO (sh i) o = o := fun o h => by
    rw [renO_near (n := 0) (ρ := sh i) (τ := fun k => k) (fun k hk => by omega) o h, renO_id]
  have hW : NearO 0 Y.W := by
    by_cases e : Y.ws = []
    · rcases hY.W0 e with ⟨ds, h1, h2⟩ | h1
      · rw [h1]; exact Cok_near h2
      · rw [h1]; trivial
    · rw [hY.W1 e]; exact Cok_near (rC_ok fun w hw => (hY.ws w hw).2)
  have hL : NearO 0 (.vec Y.v Y.ls) := Cok_near fun c hc => .inr (hY.ls c hc)
  show [renO (sh i) (.cells [.vs 1 Y.v 1 Y.ls.length, Y.wr]), renO (sh i) (.vec Y.v Y.ls), renO (sh i) Y.W, renO (sh i) (.nov Y.u)] = _
  rw [near0 _ hW, near0 _ hL]; rfl
theorem same20_loop (F : Nat) {X : Dk} {Y : Rf} (hX : X.Ok) (hw : X.ws.length < 999999) (hY : Y.Ok) (h : Same X Y) {e f g o : Ob} (he : [e, f, g, o] = rfA.at_ 4 Y) : ∀ (r m i : Nat), i + r = X.n → r < m →
    loopRun (f20_l0.run F) [0, 1, 5] (Cont.block 0 (Cont.then (f20_r0.run F (f20.leaveK Fun.done)) (f20.leaveK Fun.done))) m (Env.mk 63 [(0, .ptr 2 0), (1, .ptr 4 0), (5, .int .i64 (i : Int))]) ⟨[.cells (bC X.ls), .map X.es, .cells [.ms 0 64 0 X.n X.n, .mp 1, X.wr], X.W, e, f, g, o], []⟩ =
      some (.ret (.bool true), ⟨[.cells (bC X.ls), .map X.es, .cells [.ms 0 64 0 X.n X.n, .mp 1, X.wr], X.W, e, f, g, o], []⟩)
  | r, 0, i, hi, hm => by omega
  | r, m + 1, i, hi, hm => by
    have g1 : dkG 0 (.cells (bC X.ls)) (.map X.es) (.cells [.ms 0 64 0 X.n X.n, .mp 1, X.wr]) X.W = some X := dkG_of (isD_obs hX hw rfl)
    have g2 : rfA.G 4 [e, f, g, o] = some Y := ADT.G_of ⟨hY, he.symm⟩
    rw [show m + 1 = m.succ from rfl, same20_round, g1, onSome_some]
    by_cases hr : i < X.n
    · obtain ⟨e1, e2⟩ := h.rd (i : Int)
      have ih := same20_loop F hX hw hY h he (r - 1) m (i + 1) (by omega) (by omega)
      have n1 := hX.n1
      rw [branch_of (by simp; omega), onSome_some, g2, onSome_some, ← e1, ← e2, branch_of (by rw [rd_byte hX]; rfl), branch_not (by simp), branch_not (by simp), wrap_succ (by omega)]
      exact ih
    · rw [branch_not (by simp; omega)]; rfl
theorem same20_can {X : Dk} {Y : Rf} (hX : X.Ok) (hw : X.ws.length < 999999) (hY : Y.Ok) (h : Same X Y) : f20.run 65537 [.ptr 2 0, .ptr 4 0] ⟨X.obs ++ rfA.at_ 4 Y, []⟩ = some (.ret (.bool true), ⟨X.obs ++ rfA.at_ 4 Y, []⟩) := by
  have g1 : dkG 0 (.cells (bC X.ls)) (.map X.es) (.cells [.ms 0 64 0 X.n X.n, .mp 1, X.wr]) X.W = some X := dkG_of (isD_obs hX hw rfl)
  have hn := hX.n1
  have ei := h.img hX hY
  have hb : byOk (bR X.ls) = true := byOk_bR hX.byte (by rw [hX.len]; omega)
  have hat := rf_at (i := 4) hY
  have lp := fun e f g o he => same20_loop 65537 hX hw hY h (e := e) (f := f) (g := g) (o := o) he X.n 65537 0 (by omega) (by omega)
  by_cases hne : Y.ws = []
  · rw [Rf.wr_nil hne, show ren (sh 4) .nilsl = .nilsl from rfl] at hat
    have hl := h.len
    rw [hne] at hl
    have g2 : rfA.G 4 [.cells [.vs (4 + 1) Y.v 1 Y.ls.length, .nilsl], .vec Y.v Y.ls, Y.W, .nov Y.u] = some Y := ADT.G_of ⟨hY, hat⟩
    rw [hat]
    refine Eq.trans (same20_run0 65537 (.cells (bC X.ls)) (.map X.es) (.cells [.ms 0 64 0 X.n X.n, .mp 1, X.wr]) X.W (.vec Y.v Y.ls) Y.W (.nov Y.u) Y.v Y.ls.length) ?_
    rw [g1, onSome_some, branch_not (by rw [h.n]; simp), onSome_some, branch_not (by rw [hl]; rfl), onSome_some, g2, onSome_some, ← ei, branch_of (by rw [hb]; rfl), branch_not (by simp)]
    exact lp _ _ _ _ hat.symm
  · rw [Rf.wr_ne hne, show ren (sh 4) (.vs 2 Y.w 2 Y.ws.length) = .vs 6 Y.w 2 Y.ws.length from rfl] at hat
    have hl := h.len
    have g2 : rfA.G 4 [.cells [.vs (4 + 1) Y.v 1 Y.ls.length, .vs 6 Y.w 2 Y.ws.length], .vec Y.v Y.ls, Y.W, .nov Y.u] = some Y := ADT.G_of ⟨hY, hat⟩
    rw [hat]
    refine Eq.trans (same20_run 65537 (.cells (bC X.ls)) (.map X.es) (.cells [.ms 0 64 0 X.n X.n, .mp 1, X.wr]) X.W (.vec Y.v Y.ls) Y.W (.nov Y.u) Y.v Y.ls.length Y.w Y.ws.length) ?_
    rw [g1, onSome_some, branch_not (by rw [h.n]; simp), onSome_some, branch_not (by rw [hl]; simp), onSome_some, g2, onSome_some, ← ei, branch_of (by rw [hb]; rfl), branch_not (by simp)]
    exact lp _ _ _ _ hat.symm
noncomputable def s20 : OrcS Try.prog := f20.by'
  (fun args st k => match args with
    | [x, y] => onD x st fun i X => rfA.on y st fun j Y => ifT (cdec (Same X Y) && (Nat.ble (i + 4) j || Nat.ble (j + 4) i)) (k (.ret (.bool true)) st)
    | _ => none)
  fun args st k fin h => by
    split at h
    · rename_i x y
      obtain ⟨i, a, b, c, d, X, rfl, h0, h1, h2, h3, hd, g1⟩ := onD_spec h
      obtain ⟨j, Y, rfl, hy, g2⟩ := ADT.on_spec g1
      obtain ⟨hk, g3⟩ := ifT_spec g2
      rw [Bool.and_eq_true, cdec_iff, Bool.or_eq_true] at hk
      obtain ⟨hsame, hdis⟩ := hk
      have hx := dk_here hd h0 h1 h2 h3
      have := ADT.placed2 (A := dkA) (B := rfA) (f := f20) (F := 65537) (args0 := [.ptr 2 0, .ptr 4 0]) (r := .bool true) (xs := []) (by rw [List.append_nil]; exact same20_can hd.1 hd.2.1 hy.ok hsame) hx.ok hy.ok ⟨by show 2 < 8; omega, by show 4 < 8; omega, trivial⟩ trivial hx hy (by
        rcases hdis with e | e
        · exact .inl (Nat.le_of_ble_eq_true e)
        · exact .inr (Nat.le_of_ble_eq_true e))
      rw [hx.same, hy.same] at this
      exact ⟨_, _, g3, this⟩
    · cases h
end Go.Proofs.Ytclghabbhpaafaa.V

/- The functions' pieces, as told by gen.py. -/
set_option linter.unusedVariables false
set_option maxRecDepth 20000
namespace Go.Proofs.Ytclghabbhpaafaa.V
open Go Go.V Go.RowKit

theorem fl38_2 : fieldB Try.prog 38 2 2 1 false = true := by kernel_rfl

/-! ### 24: interlock/interlocklaw02.told (24, 42, 38); results 6; slots: 0 d, 1 r, 2 c, 3 d, 4 r, 5 c, 7 a, 8 e, 9 b, 10 f, 11 own -/
noncomputable def f24_b : Sim Try.prog :=
  (.seq (.live [0, 1, 5] (.region 0 [
    ⟨(opBoxF (some 5) 38 (.tmp 2) 0 "law.go:67" #[]).op, none⟩,
    ⟨(opAssign (some 6) (.const (Value.bool false)) 4 "law.go:67" #[]).op, none⟩
  ] (by kernel_rfl)))
  (.seq (.seq (.live [0, 1, 5, 13] (.region 1 [
    ⟨(opFieldAddr (some 12) 38 (.tmp 5) 0 0 1 false fl38_0 (by decide) 0 "law.go:68" #[]).op, none⟩,
    ⟨(opLoadT (.one (.int .i64)) (some 13) 3 (.tmp 12) (.int .i64) Try.underlying3 1 sz3 (by kernel_rfl) 3 "law.go:68" #[{ on := 0, ground := Ground.data }]).op, none⟩
  ] (by kernel_rfl)))
  (.block 0 (.seq (.live [0, 1, 5, 13, 14] (.region 2 [
      ⟨(opBin (some 15) .eql 3 (.tmp 13) (.const (Value.int IntKind.i64 0)) 3 4 "law.go:69" #[]).op, none⟩,
      ⟨(opAssign (some 14) (.tmp 15) 4 "law.go:69" #[{ on := 0, ground := Ground.data }]).op, none⟩
    ] (by kernel_rfl)))
    (.cond (.tmp 14)
      (.seq (.live [1, 5, 7, 8] (.region 3 [
        ⟨(opMove (some 17) (.tmp 0) 24 "law.go:70" #[]).op, none⟩,
        ⟨(opFieldAddr (some 18) 38 (.tmp 5) 1 1 1 false fl38_1 (by decide) 0 "law.go:70" #[]).op, none⟩,
        ⟨(opLoadT (.one (.int .i64)) (some 19) 3 (.tmp 18) (.int .i64) Try.underlying3 1 sz3 (by kernel_rfl) 3 "law.go:70" #[{ on := 1, ground := Ground.data }]).op, none⟩,
        ⟨opCall (s13).orc (some 20) [(.tmp 17), (.tmp 19)] #[24, 3] 30 "law.go:70" #[{ on := 0, ground := Ground.data }, { on := 2, ground := Ground.data }], none⟩,
        ⟨(opMove (some 16) (.tmp 20) 30 "law.go:70" #[{ on := 3, ground := Ground.data }]).op, none⟩,
        ⟨(opExtract (some 21) (.tmp 16) 0 22 "law.go:70" #[{ on := 4, ground := Ground.data }]).op, none⟩,
        ⟨(opExtract (some 22) (.tmp 16) 1 25 "law.go:70" #[{ on := 4, ground := Ground.data }, { on := 7, ground := (Ground.gcOnly Departure.lateStores) }]).op, none⟩,
        ⟨(opAssign (some 7) (.tmp 21) 22 "law.go:70" #[{ on := 5, ground := Ground.data }, { on := 3, ground := Ground.chain }, { on := 0, ground := Ground.phase }, { on := 1, ground := Ground.phase }, { on := 2, ground := Ground.phase }, { on := 3, ground := Ground.phase }, { on := 4, ground := Ground.phase }, { on := 5, ground := Ground.phase }, { on := 6, ground := (Ground.textOnly Departure.lateStores) }]).op, none⟩,
        ⟨(opAssign (some 8) (.tmp 22) 25 "law.go:70" #[{ on := 6, ground := Ground.data }, { on := 7, ground := Ground.chain }, { on := 0, ground := Ground.phase }, { on := 1, ground := Ground.phase }, { on := 2, ground := Ground.phase }, { on := 3, ground := Ground.phase }, { on := 4, ground := Ground.phase }, { on := 5, ground := Ground.phase }, { on := 6, ground := Ground.phase }, { on := 7, ground := Ground.phase }]).op, none⟩
      ] (by kernel_rfl)))
      (.seq (.live [7, 8, 9, 10] (.region 4 [
        ⟨(opMove (some 24) (.tmp 1) 42 "law.go:71" #[]).op, none⟩,
        ⟨(opFieldAddr (some 25) 38 (.tmp 5) 1 1 1 false fl38_1 (by decide) 0 "law.go:71" #[]).op, none⟩,
        ⟨(opLoadT (.one (.int .i64)) (some 26) 3 (.tmp 25) (.int .i64) Try.underlying3 1 sz3 (by kernel_rfl) 3 "law.go:71" #[{ on := 1, ground := Ground.data }]).op, none⟩,
        ⟨opCall (s30).orc (some 27) [(.tmp 24), (.tmp 26)] #[42, 3] 30 "law.go:71" #[{ on := 0, ground := Ground.data }, { on := 2, ground := Ground.data }], none⟩,
        ⟨(opMove (some 23) (.tmp 27) 30 "law.go:71" #[{ on := 3, ground := Ground.data }]).op, none⟩,
        ⟨(opExtract (some 28) (.tmp 23) 0 22 "law.go:71" #[{ on := 4, ground := Ground.data }]).op, none⟩,
        ⟨(opExtract (some 29) (.tmp 23) 1 25 "law.go:71" #[{ on := 4, ground := Ground.data }, { on := 7, ground := (Ground.gcOnly Departure.lateStores) }]).op, none⟩,
        ⟨(opAssign (some 9) (.tmp 28) 22 "law.go:71" #[{ on := 5, ground := Ground.data }, { on := 3, ground := Ground.chain }, { on := 0, ground := Ground.phase }, { on := 1, ground := Ground.phase }, { on := 2, ground := Ground.phase }, { on := 3, ground := Ground.phase }, { on := 4, ground := Ground.phase }, { on := 5, ground := Ground.phase }, { on := 6, ground := (Ground.textOnly Departure.lateStores) }]).op, none⟩,
        ⟨(opAssign (some 10) (.tmp 29) 25 "law.go:71" #[{ on := 6, ground := Ground.data }, { on := 7, ground := Ground.chain }, { on := 0, ground := Ground.phase }, { on := 1, ground := Ground.phase }, { on := 2, ground := Ground.phase }, { on := 3, ground := Ground.phase }, { on := 4, ground := Ground.phase }, { on := 5, ground := Ground.phase }, { on := 6, ground := Ground.phase }, { on := 7, ground := Ground.phase }]).op, none⟩
      ] (by kernel_rfl)))
      (.seq (.live [6] (.region 5 [
        ⟨(opMove (some 30) (.tmp 7) 22 "law.go:72" #[]).op, none⟩,
        ⟨(opMove (some 31) (.tmp 9) 22 "law.go:72" #[]).op, none⟩,
        ⟨(opCallQ q17 (some 32) [(.tmp 30), (.tmp 31)] #[22, 22] 4 "law.go:72" #[{ on := 0, ground := Ground.data }, { on := 1, ground := Ground.data }]).op, none⟩,
        ⟨(opMove (some 33) (.tmp 32) 4 "law.go:72" #[{ on := 2, ground := Ground.data }, { on := 2, ground := Ground.chain }]).op, none⟩,
        ⟨(opMove (some 34) (.tmp 8) 25 "law.go:72" #[{ on := 3, ground := Ground.guard }]).op, (some (3, 33, true))⟩,
        ⟨(opMove (some 35) (.tmp 10) 25 "law.go:72" #[{ on := 3, ground := Ground.guard }]).op, (some (3, 33, true))⟩,
        ⟨(opBin (some 36) .eql 25 (.tmp 34) (.tmp 35) 25 4 "law.go:72" #[{ on := 4, ground := Ground.data }, { on := 5, ground := Ground.data }, { on := 3, ground := Ground.guard }]).op, (some (3, 33, true))⟩,
        ⟨(opPick (some 37) (.tmp 33) (.tmp 36) (.const (Value.bool false)) 4 "law.go:72" #[{ on := 3, ground := Ground.data }, { on := 6, ground := Ground.data }]).op, none⟩,
        ⟨(opAssign (some 6) (.tmp 37) 4 "law.go:72" #[{ on := 7, ground := Ground.data }, { on := 3, ground := Ground.chain }, { on := 0, ground := Ground.phase }, { on := 1, ground := Ground.phase }, { on := 2, ground := Ground.phase }, { on := 3, ground := Ground.phase }, { on := 4, ground := Ground.phase }, { on := 5, ground := Ground.phase }, { on := 6, ground := Ground.phase }, { on := 7, ground := Ground.phase }]).op, none⟩
      ] (by kernel_rfl)))
      (.live [6] .ret))))
      (.seq (.live [0, 1, 5, 13, 38] (.region 6 [
        ⟨(opBin (some 39) .eql 3 (.tmp 13) (.const (Value.int IntKind.i64 1)) 3 4 "law.go:73" #[]).op, none⟩,
        ⟨(opAssign (some 38) (.tmp 39) 4 "law.go:73" #[{ on := 0, ground := Ground.data }]).op, none⟩
      ] (by kernel_rfl)))
      (.cond (.tmp 38)
        (.seq (.live [0, 1, 5, 11] (.region 7 [
          ⟨(opFieldAddr (some 40) 38 (.tmp 5) 3 3 1 false fl38_3 (by decide) 0 "law.go:74" #[]).op, none⟩,
          ⟨(opLoadT (.one .any) (some 41) 22 (.tmp 40) (.slice 5) Try.underlying22 1 sz22 (by kernel_rfl) 22 "law.go:74" #[{ on := 0, ground := Ground.data }]).op, none⟩,
          ⟨(opCallP p18 (some 42) [(.tmp 41)] #[22] 22 "law.go:74" #[{ on := 1, ground := Ground.data }]).op, none⟩,
          ⟨(opAssign (some 11) (.tmp 42) 22 "law.go:74" #[{ on := 2, ground := Ground.data }, { on := 2, ground := Ground.chain }, { on := 0, ground := Ground.phase }, { on := 1, ground := Ground.phase }, { on := 2, ground := Ground.phase }]).op, none⟩
        ] (by kernel_rfl)))
        (.seq (.live [6] (.draw 8 [
          ⟨.p (opMove (some 43) (.tmp 0) 24 "law.go:75" #[]), none⟩,
          ⟨.pn (opFieldAddr (some 44) 38 (.tmp 5) 1 1 1 false fl38_1 (by decide) 0 "law.go:75" #[]) opFieldAddr_nat, none⟩,
          ⟨.pn (opLoadTF (.one (.int .i64)) (some 45) 3 (.tmp 44) (.int .i64) Try.underlying3 1 sz3 (by kernel_rfl) 3 "law.go:75" #[{ on := 1, ground := Ground.data }]) opLoadTF_nat, none⟩,
          ⟨.p (opMove (some 46) (.tmp 11) 22 "law.go:75" #[]), none⟩,
          ⟨.mn (opCallM (s11) (some 47) [(.tmp 43), (.tmp 45), (.tmp 46)] #[24, 3, 22] 25 "law.go:75" #[{ on := 0, ground := Ground.data }, { on := 2, ground := Ground.data }, { on := 3, ground := Ground.data }]) (opCallM_nat s11_nat), none⟩,
          ⟨.p (opMove (some 48) (.tmp 1) 42 "law.go:75" #[]), none⟩,
          ⟨.pn (opFieldAddr (some 49) 38 (.tmp 5) 1 1 1 false fl38_1 (by decide) 0 "law.go:75" #[]) opFieldAddr_nat, none⟩,
          ⟨.pn (opLoadTF (.one (.int .i64)) (some 50) 3 (.tmp 49) (.int .i64) Try.underlying3 1 sz3 (by kernel_rfl) 3 "law.go:75" #[{ on := 6, ground := Ground.data }]) opLoadTF_nat, none⟩,
          ⟨.pn (opFieldAddr (some 51) 38 (.tmp 5) 3 3 1 false fl38_3 (by decide) 0 "law.go:75" #[]) opFieldAddr_nat, none⟩,
          ⟨.pn (opLoadTF (.one .any) (some 52) 22 (.tmp 51) (.slice 5) Try.underlying22 1 sz22 (by kernel_rfl) 22 "law.go:75" #[{ on := 8, ground := Ground.data }]) opLoadTF_nat, none⟩,
          ⟨.mn (opCallM (s31) (some 53) [(.tmp 48), (.tmp 50), (.tmp 52)] #[42, 3, 22] 25 "law.go:75" #[{ on := 5, ground := Ground.data }, { on := 7, ground := Ground.data }, { on := 9, ground := Ground.data }, { on := 4, ground := Ground.chain }]) (opCallM_nat s31_nat), none⟩,
          ⟨.pn (opBin (some 54) .eql 25 (.tmp 47) (.tmp 53) 25 4 "law.go:75" #[{ on := 4, ground := Ground.data }, { on := 10, ground := Ground.data }]) opBin_nat, none⟩,
          ⟨.p (opMove (some 55) (.tmp 54) 4 "law.go:75" #[{ on := 11, ground := Ground.data }, { on := 10, ground := Ground.chain }]), none⟩,
          ⟨.p (opMove (some 56) (.tmp 11) 22 "law.go:75" #[{ on := 12, ground := Ground.guard }]), (some (12, 55, true))⟩,
          ⟨.pn (opFieldAddr (some 57) 38 (.tmp 5) 3 3 1 false fl38_3 (by decide) 0 "law.go:75" #[{ on := 12, ground := Ground.guard }]) opFieldAddr_nat, (some (12, 55, true))⟩,
          ⟨.pn (opLoadTF (.one .any) (some 58) 22 (.tmp 57) (.slice 5) Try.underlying22 1 sz22 (by kernel_rfl) 22 "law.go:75" #[{ on := 14, ground := Ground.data }, { on := 12, ground := Ground.guard }]) opLoadTF_nat, (some (12, 55, true))⟩,
          ⟨.qn (opCallQ q17 (some 59) [(.tmp 56), (.tmp 58)] #[22, 22] 4 "law.go:75" #[{ on := 13, ground := Ground.data }, { on := 15, ground := Ground.data }, { on := 12, ground := Ground.chain }, { on := 12, ground := Ground.guard }]) (opCallQ_nat q17_nat), (some (12, 55, true))⟩,
          ⟨.p (opPick (some 60) (.tmp 55) (.tmp 59) (.const (Value.bool false)) 4 "law.go:75" #[{ on := 12, ground := Ground.data }, { on := 16, ground := Ground.data }]), none⟩,
          ⟨.p (opAssign (some 6) (.tmp 60) 4 "law.go:75" #[{ on := 17, ground := Ground.data }, { on := 16, ground := Ground.chain }, { on := 0, ground := Ground.phase }, { on := 1, ground := Ground.phase }, { on := 2, ground := Ground.phase }, { on := 3, ground := Ground.phase }, { on := 4, ground := Ground.phase }, { on := 5, ground := Ground.phase }, { on := 6, ground := Ground.phase }, { on := 7, ground := Ground.phase }, { on := 8, ground := Ground.phase }, { on := 9, ground := Ground.phase }, { on := 10, ground := Ground.phase }, { on := 11, ground := Ground.phase }, { on := 12, ground := Ground.phase }, { on := 13, ground := Ground.phase }, { on := 14, ground := Ground.phase }, { on := 15, ground := Ground.phase }, { on := 16, ground := Ground.phase }, { on := 17, ground := Ground.phase }]), none⟩
        ] mixed (by kernel_rfl)))
        (.live [6] .ret)))
        (.seq (.live [0, 1, 5, 13, 61] (.region 9 [
          ⟨(opBin (some 62) .eql 3 (.tmp 13) (.const (Value.int IntKind.i64 2)) 3 4 "law.go:76" #[]).op, none⟩,
          ⟨(opAssign (some 61) (.tmp 62) 4 "law.go:76" #[{ on := 0, ground := Ground.data }]).op, none⟩
        ] (by kernel_rfl)))
        (.cond (.tmp 61)
          (.seq (.live [1] (.region 10 [
            ⟨(opMove (some 63) (.tmp 0) 24 "law.go:77" #[]).op, none⟩,
            ⟨opCall (s16).orc (some 64) [(.tmp 63)] #[24] 0 "law.go:77" #[{ on := 0, ground := Ground.data }], none⟩
          ] (by kernel_rfl)))
          (.live [] (.region 11 [
            ⟨(opMove (some 65) (.tmp 1) 42 "law.go:78" #[]).op, none⟩,
            ⟨opCall (s32).orc (some 66) [(.tmp 65)] #[42] 0 "law.go:78" #[{ on := 0, ground := Ground.data }], none⟩
          ] (by kernel_rfl))))
          (.seq (.live [0, 1, 5, 67] (.region 12 [
            ⟨(opBin (some 68) .eql 3 (.tmp 13) (.const (Value.int IntKind.i64 3)) 3 4 "law.go:79" #[]).op, none⟩,
            ⟨(opAssign (some 67) (.tmp 68) 4 "law.go:79" #[{ on := 0, ground := Ground.data }]).op, none⟩
          ] (by kernel_rfl)))
          (.cond (.tmp 67)
            (.seq (.live [1, 5] (.region 13 [
              ⟨(opMove (some 69) (.tmp 0) 24 "law.go:80" #[]).op, none⟩,
              ⟨(opFieldAddr (some 70) 38 (.tmp 5) 1 1 1 false fl38_1 (by decide) 0 "law.go:80" #[]).op, none⟩,
              ⟨(opLoadT (.one (.int .i64)) (some 71) 3 (.tmp 70) (.int .i64) Try.underlying3 1 sz3 (by kernel_rfl) 3 "law.go:80" #[{ on := 1, ground := Ground.data }]).op, none⟩,
              ⟨(opFieldAddr (some 72) 38 (.tmp 5) 2 2 1 false fl38_2 (by decide) 0 "law.go:80" #[]).op, none⟩,
              ⟨(opLoadT (.one (.int .i64)) (some 73) 3 (.tmp 72) (.int .i64) Try.underlying3 1 sz3 (by kernel_rfl) 3 "law.go:80" #[{ on := 3, ground := Ground.data }]).op, none⟩,
              ⟨opCall (s12).orc (some 74) [(.tmp 69), (.tmp 71), (.tmp 73)] #[24, 3, 3] 0 "law.go:80" #[{ on := 0, ground := Ground.data }, { on := 2, ground := Ground.data }, { on := 4, ground := Ground.data }], none⟩
            ] (by kernel_rfl)))
            (.live [] (.region 14 [
              ⟨(opMove (some 75) (.tmp 1) 42 "law.go:81" #[]).op, none⟩,
              ⟨(opFieldAddr (some 76) 38 (.tmp 5) 1 1 1 false fl38_1 (by decide) 0 "law.go:81" #[]).op, none⟩,
              ⟨(opLoadT (.one (.int .i64)) (some 77) 3 (.tmp 76) (.int .i64) Try.underlying3 1 sz3 (by kernel_rfl) 3 "law.go:81" #[{ on := 1, ground := Ground.data }]).op, none⟩,
              ⟨(opFieldAddr (some 78) 38 (.tmp 5) 2 2 1 false fl38_2 (by decide) 0 "law.go:81" #[]).op, none⟩,
              ⟨(opLoadT (.one (.int .i64)) (some 79) 3 (.tmp 78) (.int .i64) Try.underlying3 1 sz3 (by kernel_rfl) 3 "law.go:81" #[{ on := 3, ground := Ground.data }]).op, none⟩,
              ⟨opCall (s33).orc (some 80) [(.tmp 75), (.tmp 77), (.tmp 79)] #[42, 3, 3] 0 "law.go:81" #[{ on := 0, ground := Ground.data }, { on := 2, ground := Ground.data }, { on := 4, ground := Ground.data }], none⟩
            ] (by kernel_rfl))))
            .skip))))))))))
  (.seq (.live [6] (.region 15 [
    ⟨(opAssign (some 6) (.const (Value.bool true)) 4 "law.go:83" #[]).op, none⟩
  ] (by kernel_rfl)))
  (.live [6] .ret))))

noncomputable def f24 : Fun Try.prog where
  id := 24
  fn := Try.f24
  hf := Try.func24
  hname := by kernel_rfl
  body := f24_b
  hbody := by kernel_rfl
  res := [rTmp 6]
  hres := by kernel_rfl
  n := 81
  hn := by kernel_rfl

/-! ### 23: interlock/interlockref02.New (3); results 2, 3; slots: 0 sectors, 1 sectors -/
noncomputable def f23_b : Sim Try.prog :=
  (.seq (.live [0] (.region 0 [
    ⟨(opAssign (some 2) (.const (Value.pointer none)) 42 "ref.go:22" #[]).op, none⟩,
    ⟨(opAssign (some 3) (.const (Value.int IntKind.i64 0)) 25 "ref.go:22" #[{ on := 0, ground := Ground.chain }]).op, none⟩
  ] (by kernel_rfl)))
  (.seq (.live [2, 3] (.region 1 [
    ⟨(opMove (some 4) (.tmp 0) 3 "ref.go:22" #[]).op, none⟩,
    ⟨opCall (s19).orc (some 5) [(.const (Value.slice none 0 0)), (.tmp 4)] #[22, 3] 43 "ref.go:22" #[{ on := 0, ground := Ground.data }], none⟩,
    ⟨(opExtract (some 6) (.tmp 5) 0 42 "ref.go:22" #[{ on := 1, ground := Ground.data }]).op, none⟩,
    ⟨(opExtract (some 7) (.tmp 5) 1 25 "ref.go:22" #[{ on := 1, ground := Ground.data }]).op, none⟩,
    ⟨(opAssign (some 2) (.tmp 6) 42 "ref.go:22" #[{ on := 2, ground := Ground.data }, { on := 1, ground := Ground.chain }, { on := 0, ground := Ground.phase }, { on := 1, ground := Ground.phase }, { on := 2, ground := Ground.phase }, { on := 3, ground := Ground.phase }]).op, none⟩,
    ⟨(opAssign (some 3) (.tmp 7) 25 "ref.go:22" #[{ on := 3, ground := Ground.data }, { on := 4, ground := Ground.chain }, { on := 0, ground := Ground.phase }, { on := 1, ground := Ground.phase }, { on := 2, ground := Ground.phase }, { on := 3, ground := Ground.phase }, { on := 4, ground := Ground.phase }]).op, none⟩
  ] (by kernel_rfl)))
  (.live [2, 3] .ret)))

noncomputable def f23 : Fun Try.prog where
  id := 23
  fn := Try.f23
  hf := Try.func23
  hname := by kernel_rfl
  body := f23_b
  hbody := by kernel_rfl
  res := [rTmp 2, rTmp 3]
  hres := by kernel_rfl
  n := 8
  hn := by kernel_rfl

/-! ### 5: interlock/interlocklaw02.DiskLoads (22, 3); results 4; slots: 0 image, 1 sectors, 2 image, 3 sectors, 5 own, 6 d, 7 e, 8 r, 9 f -/
noncomputable def f5_b : Sim Try.prog :=
  (.seq (.live [0, 1] (.region 0 [
    ⟨(opAssign (some 4) (.const (Value.bool false)) 4 "law.go:111" #[]).op, none⟩
  ] (by kernel_rfl)))
  (.seq (.seq (.live [0, 1, 11] (.region 1 [
    ⟨(opCallP p9 (some 10) [] #[] 4 "law.go:112" #[]).op, none⟩,
    ⟨(opNot (some 11) 4 (.tmp 10) 4 "law.go:112" #[{ on := 0, ground := Ground.data }]).op, none⟩
  ] (by kernel_rfl)))
  (.cond (.tmp 11)
    (.seq (.live [4] (.region 2 [
      ⟨(opAssign (some 4) (.const (Value.bool false)) 4 "law.go:113" #[]).op, none⟩
    ] (by kernel_rfl)))
    (.live [4] .ret))
    .skip))
  (.seq (.seq (.live [0, 1, 22] (.region 3 [
    ⟨(opMove (some 12) (.tmp 0) 22 "law.go:115" #[]).op, none⟩,
    ⟨(opLen (some 13) (.tmp 12) 22 (.slice 5) Try.underlying22 3 "law.go:115" #[{ on := 0, ground := Ground.data }]).op, none⟩,
    ⟨(opBin (some 14) .gtr 3 (.tmp 13) (.const (Value.int IntKind.i64 20000)) 3 4 "law.go:115" #[{ on := 1, ground := Ground.data }]).op, none⟩,
    ⟨(opMove (some 15) (.tmp 14) 4 "law.go:115" #[{ on := 2, ground := Ground.data }]).op, none⟩,
    ⟨(opMove (some 16) (.tmp 1) 3 "law.go:115" #[{ on := 3, ground := Ground.guard }]).op, (some (3, 15, false))⟩,
    ⟨(opBin (some 17) .gtr 3 (.tmp 16) (.const (Value.int IntKind.i64 100)) 3 4 "law.go:115" #[{ on := 4, ground := Ground.data }, { on := 3, ground := Ground.guard }]).op, (some (3, 15, false))⟩,
    ⟨(opMove (some 18) (.tmp 17) 4 "law.go:115" #[{ on := 5, ground := Ground.data }, { on := 3, ground := Ground.chain }, { on := 3, ground := Ground.guard }]).op, (some (3, 15, false))⟩,
    ⟨(opMove (some 19) (.tmp 1) 3 "law.go:115" #[{ on := 6, ground := Ground.guard }]).op, (some (6, 18, true))⟩,
    ⟨(opBin (some 20) .leq 3 (.tmp 19) (.const (Value.int IntKind.i64 65536)) 3 4 "law.go:115" #[{ on := 7, ground := Ground.data }, { on := 6, ground := Ground.guard }]).op, (some (6, 18, true))⟩,
    ⟨(opPick (some 21) (.tmp 18) (.tmp 20) (.const (Value.bool false)) 4 "law.go:115" #[{ on := 6, ground := Ground.data }, { on := 8, ground := Ground.data }, { on := 3, ground := Ground.guard }]).op, (some (3, 15, false))⟩,
    ⟨(opPick (some 22) (.tmp 15) (.const (Value.bool true)) (.tmp 21) 4 "law.go:115" #[{ on := 3, ground := Ground.data }, { on := 9, ground := Ground.data }]).op, none⟩
  ] (by kernel_rfl)))
  (.cond (.tmp 22)
    (.seq (.live [4] (.region 4 [
      ⟨(opAssign (some 4) (.const (Value.bool true)) 4 "law.go:116" #[]).op, none⟩
    ] (by kernel_rfl)))
    (.live [4] .ret))
    .skip))
  (.seq (.live [0, 1, 5] (.region 5 [
    ⟨(opMove (some 23) (.tmp 0) 22 "law.go:118" #[]).op, none⟩,
    ⟨(opCallP p18 (some 24) [(.tmp 23)] #[22] 22 "law.go:118" #[{ on := 0, ground := Ground.data }]).op, none⟩,
    ⟨(opAssign (some 5) (.tmp 24) 22 "law.go:118" #[{ on := 1, ground := Ground.data }, { on := 1, ground := Ground.chain }, { on := 0, ground := Ground.phase }, { on := 1, ground := Ground.phase }]).op, none⟩
  ] (by kernel_rfl)))
  (.seq (.live [0, 1, 5, 6, 7] (.region 6 [
    ⟨(opMove (some 26) (.tmp 5) 22 "law.go:119" #[]).op, none⟩,
    ⟨(opMove (some 27) (.tmp 1) 3 "law.go:119" #[]).op, none⟩,
    ⟨opCall (s10).orc (some 28) [(.tmp 26), (.tmp 27)] #[22, 3] 26 "law.go:119" #[{ on := 0, ground := Ground.data }, { on := 1, ground := Ground.data }], none⟩,
    ⟨(opMove (some 25) (.tmp 28) 26 "law.go:119" #[{ on := 2, ground := Ground.data }]).op, none⟩,
    ⟨(opExtract (some 29) (.tmp 25) 0 24 "law.go:119" #[{ on := 3, ground := Ground.data }]).op, none⟩,
    ⟨(opExtract (some 30) (.tmp 25) 1 25 "law.go:119" #[{ on := 3, ground := Ground.data }, { on := 6, ground := (Ground.gcOnly Departure.lateStores) }]).op, none⟩,
    ⟨(opAssign (some 6) (.tmp 29) 24 "law.go:119" #[{ on := 4, ground := Ground.data }, { on := 2, ground := Ground.chain }, { on := 0, ground := Ground.phase }, { on := 1, ground := Ground.phase }, { on := 2, ground := Ground.phase }, { on := 3, ground := Ground.phase }, { on := 4, ground := Ground.phase }, { on := 5, ground := (Ground.textOnly Departure.lateStores) }]).op, none⟩,
    ⟨(opAssign (some 7) (.tmp 30) 25 "law.go:119" #[{ on := 5, ground := Ground.data }, { on := 6, ground := Ground.chain }, { on := 0, ground := Ground.phase }, { on := 1, ground := Ground.phase }, { on := 2, ground := Ground.phase }, { on := 3, ground := Ground.phase }, { on := 4, ground := Ground.phase }, { on := 5, ground := Ground.phase }, { on := 6, ground := Ground.phase }]).op, none⟩
  ] (by kernel_rfl)))
  (.seq (.live [0, 5, 6, 7, 8, 9] (.region 7 [
    ⟨(opMove (some 32) (.tmp 0) 22 "law.go:120" #[]).op, none⟩,
    ⟨(opMove (some 33) (.tmp 1) 3 "law.go:120" #[]).op, none⟩,
    ⟨opCall (s19).orc (some 34) [(.tmp 32), (.tmp 33)] #[22, 3] 43 "law.go:120" #[{ on := 0, ground := Ground.data }, { on := 1, ground := Ground.data }], none⟩,
    ⟨(opMove (some 31) (.tmp 34) 43 "law.go:120" #[{ on := 2, ground := Ground.data }]).op, none⟩,
    ⟨(opExtract (some 35) (.tmp 31) 0 42 "law.go:120" #[{ on := 3, ground := Ground.data }]).op, none⟩,
    ⟨(opExtract (some 36) (.tmp 31) 1 25 "law.go:120" #[{ on := 3, ground := Ground.data }, { on := 6, ground := (Ground.gcOnly Departure.lateStores) }]).op, none⟩,
    ⟨(opAssign (some 8) (.tmp 35) 42 "law.go:120" #[{ on := 4, ground := Ground.data }, { on := 2, ground := Ground.chain }, { on := 0, ground := Ground.phase }, { on := 1, ground := Ground.phase }, { on := 2, ground := Ground.phase }, { on := 3, ground := Ground.phase }, { on := 4, ground := Ground.phase }, { on := 5, ground := (Ground.textOnly Departure.lateStores) }]).op, none⟩,
    ⟨(opAssign (some 9) (.tmp 36) 25 "law.go:120" #[{ on := 5, ground := Ground.data }, { on := 6, ground := Ground.chain }, { on := 0, ground := Ground.phase }, { on := 1, ground := Ground.phase }, { on := 2, ground := Ground.phase }, { on := 3, ground := Ground.phase }, { on := 4, ground := Ground.phase }, { on := 5, ground := Ground.phase }, { on := 6, ground := Ground.phase }]).op, none⟩
  ] (by kernel_rfl)))
  (.seq (.seq (.live [6, 8, 52] (.region 8 [
    ⟨(opMove (some 37) (.tmp 7) 25 "law.go:121" #[]).op, none⟩,
    ⟨(opMove (some 38) (.tmp 9) 25 "law.go:121" #[]).op, none⟩,
    ⟨(opBin (some 39) .neq 25 (.tmp 37) (.tmp 38) 25 4 "law.go:121" #[{ on := 0, ground := Ground.data }, { on := 1, ground := Ground.data }]).op, none⟩,
    ⟨(opMove (some 40) (.tmp 39) 4 "law.go:121" #[{ on := 2, ground := Ground.data }]).op, none⟩,
    ⟨(opMove (some 41) (.tmp 6) 24 "law.go:121" #[{ on := 3, ground := Ground.guard }]).op, (some (3, 40, false))⟩,
    ⟨(opEq (some 42) 24 (.pointer 58) Try.underlying24 (.tmp 41) (.const (Value.pointer none)) (.inl rfl) 24 4 "law.go:121" #[{ on := 4, ground := Ground.data }, { on := 3, ground := Ground.guard }]).op, (some (3, 40, false))⟩,
    ⟨(opMove (some 43) (.tmp 7) 25 "law.go:121" #[{ on := 3, ground := Ground.guard }]).op, (some (3, 40, false))⟩,
    ⟨(opBin (some 44) .neq 25 (.tmp 43) (.const (Value.int IntKind.i64 0)) 25 4 "law.go:121" #[{ on := 6, ground := Ground.data }, { on := 3, ground := Ground.guard }]).op, (some (3, 40, false))⟩,
    ⟨(opNe (some 45) 4 .bool Try.underlying4 (.tmp 42) (.tmp 44) (.inr rfl) 4 4 "law.go:121" #[{ on := 5, ground := Ground.data }, { on := 7, ground := Ground.data }, { on := 3, ground := Ground.guard }]).op, (some (3, 40, false))⟩,
    ⟨(opPick (some 46) (.tmp 40) (.const (Value.bool true)) (.tmp 45) 4 "law.go:121" #[{ on := 3, ground := Ground.data }, { on := 8, ground := Ground.data }]).op, none⟩,
    ⟨(opMove (some 47) (.tmp 46) 4 "law.go:121" #[{ on := 9, ground := Ground.data }, { on := 3, ground := Ground.chain }]).op, none⟩,
    ⟨(opMove (some 48) (.tmp 5) 22 "law.go:121" #[{ on := 10, ground := Ground.guard }]).op, (some (10, 47, false))⟩,
    ⟨(opMove (some 49) (.tmp 0) 22 "law.go:121" #[{ on := 10, ground := Ground.guard }]).op, (some (10, 47, false))⟩,
    ⟨(opCallQ q17 (some 50) [(.tmp 48), (.tmp 49)] #[22, 22] 4 "law.go:121" #[{ on := 11, ground := Ground.data }, { on := 12, ground := Ground.data }, { on := 10, ground := Ground.chain }, { on := 10, ground := Ground.guard }]).op, (some (10, 47, false))⟩,
    ⟨(opNot (some 51) 4 (.tmp 50) 4 "law.go:121" #[{ on := 13, ground := Ground.data }, { on := 10, ground := Ground.guard }]).op, (some (10, 47, false))⟩,
    ⟨(opPick (some 52) (.tmp 47) (.const (Value.bool true)) (.tmp 51) 4 "law.go:121" #[{ on := 10, ground := Ground.data }, { on := 14, ground := Ground.data }]).op, none⟩
  ] (by kernel_rfl)))
  (.cond (.tmp 52)
    (.seq (.live [4] (.region 9 [
      ⟨(opAssign (some 4) (.const (Value.bool false)) 4 "law.go:122" #[]).op, none⟩
    ] (by kernel_rfl)))
    (.live [4] .ret))
    .skip))
  (.seq (.live [4] (.region 10 [
    ⟨(opMove (some 53) (.tmp 6) 24 "law.go:124" #[]).op, none⟩,
    ⟨(opEq (some 54) 24 (.pointer 58) Try.underlying24 (.tmp 53) (.const (Value.pointer none)) (.inl rfl) 24 4 "law.go:124" #[{ on := 0, ground := Ground.data }]).op, none⟩,
    ⟨(opMove (some 55) (.tmp 54) 4 "law.go:124" #[{ on := 1, ground := Ground.data }]).op, none⟩,
    ⟨(opMove (some 56) (.tmp 8) 42 "law.go:124" #[{ on := 2, ground := Ground.guard }]).op, (some (2, 55, false))⟩,
    ⟨(opEq (some 57) 42 (.pointer 67) Try.underlying42 (.tmp 56) (.const (Value.pointer none)) (.inl rfl) 42 4 "law.go:124" #[{ on := 3, ground := Ground.data }, { on := 2, ground := Ground.guard }]).op, (some (2, 55, false))⟩,
    ⟨(opPick (some 58) (.tmp 55) (.const (Value.bool true)) (.tmp 57) 4 "law.go:124" #[{ on := 2, ground := Ground.data }, { on := 4, ground := Ground.data }]).op, none⟩,
    ⟨(opMove (some 59) (.tmp 58) 4 "law.go:124" #[{ on := 5, ground := Ground.data }, { on := 2, ground := Ground.chain }]).op, none⟩,
    ⟨(opMove (some 60) (.tmp 6) 24 "law.go:124" #[{ on := 6, ground := Ground.guard }]).op, (some (6, 59, false))⟩,
    ⟨(opMove (some 61) (.tmp 8) 42 "law.go:124" #[{ on := 6, ground := Ground.guard }]).op, (some (6, 59, false))⟩,
    ⟨opCall (s20).orc (some 62) [(.tmp 60), (.tmp 61)] #[24, 42] 4 "law.go:124" #[{ on := 7, ground := Ground.data }, { on := 8, ground := Ground.data }, { on := 6, ground := Ground.chain }, { on := 6, ground := Ground.guard }], (some (6, 59, false))⟩,
    ⟨(opPick (some 63) (.tmp 59) (.const (Value.bool true)) (.tmp 62) 4 "law.go:124" #[{ on := 6, ground := Ground.data }, { on := 9, ground := Ground.data }]).op, none⟩,
    ⟨(opAssign (some 4) (.tmp 63) 4 "law.go:124" #[{ on := 10, ground := Ground.data }, { on := 9, ground := Ground.chain }, { on := 0, ground := Ground.phase }, { on := 1, ground := Ground.phase }, { on := 2, ground := Ground.phase }, { on := 3, ground := Ground.phase }, { on := 4, ground := Ground.phase }, { on := 5, ground := Ground.phase }, { on := 6, ground := Ground.phase }, { on := 7, ground := Ground.phase }, { on := 8, ground := Ground.phase }, { on := 9, ground := Ground.phase }, { on := 10, ground := Ground.phase }]).op, none⟩
  ] (by kernel_rfl)))
  (.live [4] .ret)))))))))

noncomputable def f5 : Fun Try.prog where
  id := 5
  fn := Try.f5
  hf := Try.func5
  hname := by kernel_rfl
  body := f5_b
  hbody := by kernel_rfl
  res := [rTmp 4]
  hres := by kernel_rfl
  n := 64
  hn := by kernel_rfl

/-! ### 8: interlock/interlocklaw02.DiskCalls (3, 33); results 4; slots: 0 sectors, 1 calls, 2 sectors, 3 calls, 5 d, 6 e, 7 r, 8 f, 9 i -/
/-- A loop's round; at its head live: 1 calls, 5 d, 7 r, 9 i -/
noncomputable def f8_l0 : Sim Try.prog :=
  (.seq (.seq (.live [1, 5, 7, 9, 51] (.region 12 [
    ⟨(opMove (some 48) (.tmp 9) 3 "law.go:102" #[]).op, none⟩,
    ⟨(opMove (some 49) (.tmp 1) 33 "law.go:102" #[]).op, none⟩,
    ⟨(opLen (some 50) (.tmp 49) 33 (.slice 38) Try.underlying33 3 "law.go:102" #[{ on := 1, ground := Ground.data }]).op, none⟩,
    ⟨(opBin (some 51) .lss 3 (.tmp 48) (.tmp 50) 3 4 "law.go:102" #[{ on := 0, ground := Ground.data }, { on := 2, ground := Ground.data }]).op, none⟩
  ] (by kernel_rfl)))
  (.cond (.tmp 51)
    .skip
    (.live [5, 7] (.exit 0))))
  (.seq (.block 1 (.seq (.live [1, 5, 7, 9, 61] (.region 14 [
      ⟨(opMove (some 54) (.tmp 5) 24 "law.go:103" #[]).op, none⟩,
      ⟨(opMove (some 55) (.tmp 7) 42 "law.go:103" #[]).op, none⟩,
      ⟨(opMove (some 56) (.tmp 1) 33 "law.go:103" #[]).op, none⟩,
      ⟨(opMove (some 57) (.tmp 9) 3 "law.go:103" #[]).op, none⟩,
      ⟨(opIndexAddrT (some 58) 33 (.tmp 56) (.tmp 57) 38 4 Try.underlying33 sz38 0 "law.go:103" #[{ on := 2, ground := Ground.data }, { on := 3, ground := Ground.data }]).op, none⟩,
      ⟨(opLoadT (.agg [(.int .i64), (.int .i64), (.int .i64), (.ns 1)]) (some 59) 38 (.tmp 58) d38 ud38 4 sz38 (by kernel_rfl) 38 "law.go:103" #[{ on := 4, ground := Ground.data }]).op, none⟩,
      ⟨opCall (f24.orc 0) (some 60) [(.tmp 54), (.tmp 55), (.tmp 59)] #[24, 42, 38] 4 "law.go:103" #[{ on := 0, ground := Ground.data }, { on := 1, ground := Ground.data }, { on := 5, ground := Ground.data }], none⟩,
      ⟨(opNot (some 61) 4 (.tmp 60) 4 "law.go:103" #[{ on := 6, ground := Ground.data }]).op, none⟩
    ] (by kernel_rfl)))
    (.cond (.tmp 61)
      (.seq (.live [4] (.region 15 [
        ⟨(opAssign (some 4) (.const (Value.bool false)) 4 "law.go:104" #[]).op, none⟩
      ] (by kernel_rfl)))
      (.live [4] .ret))
      .skip)))
  (.live [1, 5, 7, 9] (.region 13 [
    ⟨(opMove (some 52) (.tmp 9) 3 "law.go:102" #[]).op, none⟩,
    ⟨(opBin (some 53) .add 3 (.tmp 52) (.const (Value.int IntKind.i64 1)) 3 3 "law.go:102" #[{ on := 0, ground := Ground.data }]).op, none⟩,
    ⟨(opAssign (some 9) (.tmp 53) 3 "law.go:102" #[{ on := 1, ground := Ground.data }, { on := 0, ground := Ground.phase }, { on := 1, ground := Ground.phase }]).op, none⟩
  ] (by kernel_rfl)))))

/-- What follows a loop. -/
noncomputable def f8_r0 : Sim Try.prog :=
  (.seq (.live [4] (.region 16 [
    ⟨(opMove (some 62) (.tmp 5) 24 "law.go:107" #[]).op, none⟩,
    ⟨(opMove (some 63) (.tmp 7) 42 "law.go:107" #[]).op, none⟩,
    ⟨opCall (s20).orc (some 64) [(.tmp 62), (.tmp 63)] #[24, 42] 4 "law.go:107" #[{ on := 0, ground := Ground.data }, { on := 1, ground := Ground.data }], none⟩,
    ⟨(opAssign (some 4) (.tmp 64) 4 "law.go:107" #[{ on := 2, ground := Ground.data }, { on := 2, ground := Ground.chain }, { on := 0, ground := Ground.phase }, { on := 1, ground := Ground.phase }, { on := 2, ground := Ground.phase }]).op, none⟩
  ] (by kernel_rfl)))
  (.live [4] .ret))

noncomputable def f8_b : Sim Try.prog :=
  (.seq (.live [0, 1] (.region 0 [
    ⟨(opAssign (some 4) (.const (Value.bool false)) 4 "law.go:87" #[]).op, none⟩
  ] (by kernel_rfl)))
  (.seq (.seq (.live [0, 1, 11] (.region 1 [
    ⟨(opCallP p9 (some 10) [] #[] 4 "law.go:88" #[]).op, none⟩,
    ⟨(opNot (some 11) 4 (.tmp 10) 4 "law.go:88" #[{ on := 0, ground := Ground.data }]).op, none⟩
  ] (by kernel_rfl)))
  (.cond (.tmp 11)
    (.seq (.live [4] (.region 2 [
      ⟨(opAssign (some 4) (.const (Value.bool false)) 4 "law.go:89" #[]).op, none⟩
    ] (by kernel_rfl)))
    (.live [4] .ret))
    .skip))
  (.seq (.seq (.live [0, 1, 21] (.region 3 [
    ⟨(opMove (some 12) (.tmp 1) 33 "law.go:91" #[]).op, none⟩,
    ⟨(opCallP p14 (some 13) [(.tmp 12)] #[33] 4 "law.go:91" #[{ on := 0, ground := Ground.data }]).op, none⟩,
    ⟨(opMove (some 14) (.tmp 13) 4 "law.go:91" #[{ on := 1, ground := Ground.data }, { on := 1, ground := Ground.chain }]).op, none⟩,
    ⟨(opMove (some 15) (.tmp 0) 3 "law.go:91" #[{ on := 2, ground := Ground.guard }]).op, (some (2, 14, false))⟩,
    ⟨(opBin (some 16) .gtr 3 (.tmp 15) (.const (Value.int IntKind.i64 100)) 3 4 "law.go:91" #[{ on := 3, ground := Ground.data }, { on := 2, ground := Ground.guard }]).op, (some (2, 14, false))⟩,
    ⟨(opMove (some 17) (.tmp 16) 4 "law.go:91" #[{ on := 4, ground := Ground.data }, { on := 2, ground := Ground.chain }, { on := 2, ground := Ground.guard }]).op, (some (2, 14, false))⟩,
    ⟨(opMove (some 18) (.tmp 0) 3 "law.go:91" #[{ on := 5, ground := Ground.guard }]).op, (some (5, 17, true))⟩,
    ⟨(opBin (some 19) .leq 3 (.tmp 18) (.const (Value.int IntKind.i64 65536)) 3 4 "law.go:91" #[{ on := 6, ground := Ground.data }, { on := 5, ground := Ground.guard }]).op, (some (5, 17, true))⟩,
    ⟨(opPick (some 20) (.tmp 17) (.tmp 19) (.const (Value.bool false)) 4 "law.go:91" #[{ on := 5, ground := Ground.data }, { on := 7, ground := Ground.data }, { on := 2, ground := Ground.guard }]).op, (some (2, 14, false))⟩,
    ⟨(opPick (some 21) (.tmp 14) (.const (Value.bool true)) (.tmp 20) 4 "law.go:91" #[{ on := 2, ground := Ground.data }, { on := 8, ground := Ground.data }]).op, none⟩
  ] (by kernel_rfl)))
  (.cond (.tmp 21)
    (.seq (.live [4] (.region 4 [
      ⟨(opAssign (some 4) (.const (Value.bool true)) 4 "law.go:92" #[]).op, none⟩
    ] (by kernel_rfl)))
    (.live [4] .ret))
    .skip))
  (.seq (.live [0, 1, 5, 6] (.region 5 [
    ⟨(opMove (some 23) (.tmp 0) 3 "law.go:94" #[]).op, none⟩,
    ⟨opCall (f15.orc 0) (some 24) [(.tmp 23)] #[3] 26 "law.go:94" #[{ on := 0, ground := Ground.data }], none⟩,
    ⟨(opMove (some 22) (.tmp 24) 26 "law.go:94" #[{ on := 1, ground := Ground.data }]).op, none⟩,
    ⟨(opExtract (some 25) (.tmp 22) 0 24 "law.go:94" #[{ on := 2, ground := Ground.data }]).op, none⟩,
    ⟨(opExtract (some 26) (.tmp 22) 1 25 "law.go:94" #[{ on := 2, ground := Ground.data }, { on := 5, ground := (Ground.gcOnly Departure.lateStores) }]).op, none⟩,
    ⟨(opAssign (some 5) (.tmp 25) 24 "law.go:94" #[{ on := 3, ground := Ground.data }, { on := 1, ground := Ground.chain }, { on := 0, ground := Ground.phase }, { on := 1, ground := Ground.phase }, { on := 2, ground := Ground.phase }, { on := 3, ground := Ground.phase }, { on := 4, ground := (Ground.textOnly Departure.lateStores) }]).op, none⟩,
    ⟨(opAssign (some 6) (.tmp 26) 25 "law.go:94" #[{ on := 4, ground := Ground.data }, { on := 5, ground := Ground.chain }, { on := 0, ground := Ground.phase }, { on := 1, ground := Ground.phase }, { on := 2, ground := Ground.phase }, { on := 3, ground := Ground.phase }, { on := 4, ground := Ground.phase }, { on := 5, ground := Ground.phase }]).op, none⟩
  ] (by kernel_rfl)))
  (.seq (.live [1, 5, 6, 7, 8] (.region 6 [
    ⟨(opMove (some 28) (.tmp 0) 3 "law.go:95" #[]).op, none⟩,
    ⟨opCall (f23.orc 0) (some 29) [(.tmp 28)] #[3] 43 "law.go:95" #[{ on := 0, ground := Ground.data }], none⟩,
    ⟨(opMove (some 27) (.tmp 29) 43 "law.go:95" #[{ on := 1, ground := Ground.data }]).op, none⟩,
    ⟨(opExtract (some 30) (.tmp 27) 0 42 "law.go:95" #[{ on := 2, ground := Ground.data }]).op, none⟩,
    ⟨(opExtract (some 31) (.tmp 27) 1 25 "law.go:95" #[{ on := 2, ground := Ground.data }, { on := 5, ground := (Ground.gcOnly Departure.lateStores) }]).op, none⟩,
    ⟨(opAssign (some 7) (.tmp 30) 42 "law.go:95" #[{ on := 3, ground := Ground.data }, { on := 1, ground := Ground.chain }, { on := 0, ground := Ground.phase }, { on := 1, ground := Ground.phase }, { on := 2, ground := Ground.phase }, { on := 3, ground := Ground.phase }, { on := 4, ground := (Ground.textOnly Departure.lateStores) }]).op, none⟩,
    ⟨(opAssign (some 8) (.tmp 31) 25 "law.go:95" #[{ on := 4, ground := Ground.data }, { on := 5, ground := Ground.chain }, { on := 0, ground := Ground.phase }, { on := 1, ground := Ground.phase }, { on := 2, ground := Ground.phase }, { on := 3, ground := Ground.phase }, { on := 4, ground := Ground.phase }, { on := 5, ground := Ground.phase }]).op, none⟩
  ] (by kernel_rfl)))
  (.seq (.seq (.live [1, 5, 7, 41] (.region 7 [
    ⟨(opMove (some 32) (.tmp 6) 25 "law.go:96" #[]).op, none⟩,
    ⟨(opMove (some 33) (.tmp 8) 25 "law.go:96" #[]).op, none⟩,
    ⟨(opBin (some 34) .neq 25 (.tmp 32) (.tmp 33) 25 4 "law.go:96" #[{ on := 0, ground := Ground.data }, { on := 1, ground := Ground.data }]).op, none⟩,
    ⟨(opMove (some 35) (.tmp 34) 4 "law.go:96" #[{ on := 2, ground := Ground.data }]).op, none⟩,
    ⟨(opMove (some 36) (.tmp 5) 24 "law.go:96" #[{ on := 3, ground := Ground.guard }]).op, (some (3, 35, false))⟩,
    ⟨(opEq (some 37) 24 (.pointer 58) Try.underlying24 (.tmp 36) (.const (Value.pointer none)) (.inl rfl) 24 4 "law.go:96" #[{ on := 4, ground := Ground.data }, { on := 3, ground := Ground.guard }]).op, (some (3, 35, false))⟩,
    ⟨(opMove (some 38) (.tmp 6) 25 "law.go:96" #[{ on := 3, ground := Ground.guard }]).op, (some (3, 35, false))⟩,
    ⟨(opBin (some 39) .neq 25 (.tmp 38) (.const (Value.int IntKind.i64 0)) 25 4 "law.go:96" #[{ on := 6, ground := Ground.data }, { on := 3, ground := Ground.guard }]).op, (some (3, 35, false))⟩,
    ⟨(opNe (some 40) 4 .bool Try.underlying4 (.tmp 37) (.tmp 39) (.inr rfl) 4 4 "law.go:96" #[{ on := 5, ground := Ground.data }, { on := 7, ground := Ground.data }, { on := 3, ground := Ground.guard }]).op, (some (3, 35, false))⟩,
    ⟨(opPick (some 41) (.tmp 35) (.const (Value.bool true)) (.tmp 40) 4 "law.go:96" #[{ on := 3, ground := Ground.data }, { on := 8, ground := Ground.data }]).op, none⟩
  ] (by kernel_rfl)))
  (.cond (.tmp 41)
    (.seq (.live [4] (.region 8 [
      ⟨(opAssign (some 4) (.const (Value.bool false)) 4 "law.go:97" #[]).op, none⟩
    ] (by kernel_rfl)))
    (.live [4] .ret))
    .skip))
  (.seq (.seq (.live [1, 5, 7, 47] (.region 9 [
    ⟨(opMove (some 42) (.tmp 5) 24 "law.go:99" #[]).op, none⟩,
    ⟨(opEq (some 43) 24 (.pointer 58) Try.underlying24 (.tmp 42) (.const (Value.pointer none)) (.inl rfl) 24 4 "law.go:99" #[{ on := 0, ground := Ground.data }]).op, none⟩,
    ⟨(opMove (some 44) (.tmp 43) 4 "law.go:99" #[{ on := 1, ground := Ground.data }]).op, none⟩,
    ⟨(opMove (some 45) (.tmp 7) 42 "law.go:99" #[{ on := 2, ground := Ground.guard }]).op, (some (2, 44, false))⟩,
    ⟨(opEq (some 46) 42 (.pointer 67) Try.underlying42 (.tmp 45) (.const (Value.pointer none)) (.inl rfl) 42 4 "law.go:99" #[{ on := 3, ground := Ground.data }, { on := 2, ground := Ground.guard }]).op, (some (2, 44, false))⟩,
    ⟨(opPick (some 47) (.tmp 44) (.const (Value.bool true)) (.tmp 46) 4 "law.go:99" #[{ on := 2, ground := Ground.data }, { on := 4, ground := Ground.data }]).op, none⟩
  ] (by kernel_rfl)))
  (.cond (.tmp 47)
    (.seq (.live [4] (.region 10 [
      ⟨(opAssign (some 4) (.const (Value.bool true)) 4 "law.go:100" #[]).op, none⟩
    ] (by kernel_rfl)))
    (.live [4] .ret))
    .skip))
  (.seq (.seq (.live [1, 5, 7, 9] (.region 11 [
    ⟨(opAssign (some 9) (.const (Value.int IntKind.i64 0)) 3 "law.go:102" #[]).op, none⟩
  ] (by kernel_rfl)))
  (.block 0 (.loop [1, 5, 7, 9] f8_l0)))
  f8_r0))))))))

noncomputable def f8 : Fun Try.prog where
  id := 8
  fn := Try.f8
  hf := Try.func8
  hname := by kernel_rfl
  body := f8_b
  hbody := by kernel_rfl
  res := [rTmp 4]
  hres := by kernel_rfl
  n := 65
  hn := by kernel_rfl

end Go.Proofs.Ytclghabbhpaafaa.V
