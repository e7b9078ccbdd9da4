/- The functions' pieces, as told by gen.py. -/
import Derived.Test.YtfifiepbfnkelaaVB
import Derived.Test.YtfifiepbfnkelaaRows
set_option linter.unusedVariables false
set_option maxRecDepth 20000
namespace Go.Proofs.Ytfifiepbfnkelaa.V
open Go Go.V Go.RowKit

theorem sz3 : (Try.prog.info? 3).map (·.size) = some 1 := by kernel_rfl
theorem ze3 : (Try.prog.info? 3).bind (·.zero) = some (.int .i64 0) := by kernel_rfl
theorem by3 : (Try.prog.info? 3).map (·.bytes) = some 8 := by kernel_rfl
theorem el36 : ElemOf Try.prog 36 3 1 8 (.int .i64 0) := ⟨Try.underlying36, sz3, by3, ze3, by kernel_rfl, by decide⟩
theorem fl27_0 : fieldB Try.prog 27 0 0 1 false = true := by kernel_rfl
theorem fl27_1 : fieldB Try.prog 27 1 1 1 false = true := by kernel_rfl
theorem sz9 : (Try.prog.info? 9).map (·.size) = some 1 := by kernel_rfl
theorem fl27_2 : fieldB Try.prog 27 2 2 1 false = true := by kernel_rfl
theorem mixed : Try.prog.follows .mixedOrders = true := by kernel_rfl

/-! ### 9: interlock/modes.Right (3); results 2; slots: 0 m, 1 m -/
noncomputable def f9_b : Sim Try.prog :=
  (.seq (.live [0, 6, 7] (.region 0 [
    ⟨(opAssign (some 2) (.const (Value.bool false)) 4 "modes.go:49" #[]).op, none⟩
  ] (by kernel_rfl)))
  (.seq (.live [2] (.region 1 [
    ⟨(opMove (some 3) (.tmp 0) 3 "modes.go:49" #[]).op, none⟩,
    ⟨(opBin (some 4) .geq 3 (.tmp 3) (.const (Value.int IntKind.i64 1)) 3 4 "modes.go:49" #[{ on := 0, ground := Ground.data }]).op, none⟩,
    ⟨(opMove (some 5) (.tmp 4) 4 "modes.go:49" #[{ on := 1, ground := Ground.data }]).op, none⟩,
    ⟨(opMove (some 6) (.tmp 0) 3 "modes.go:49" #[{ on := 2, ground := Ground.guard }]).op, (some (2, 5, true))⟩,
    ⟨(opBin (some 7) .leq 3 (.tmp 6) (.const (Value.int IntKind.i64 8)) 3 4 "modes.go:49" #[{ on := 3, ground := Ground.data }, { on := 2, ground := Ground.guard }]).op, (some (2, 5, true))⟩,
    ⟨(opPick (some 8) (.tmp 5) (.tmp 7) (.const (Value.bool false)) 4 "modes.go:49" #[{ on := 2, ground := Ground.data }, { on := 4, ground := Ground.data }]).op, none⟩,
    ⟨(opAssign (some 2) (.tmp 8) 4 "modes.go:49" #[{ on := 5, ground := Ground.data }, { on := 2, ground := Ground.chain }, { on := 0, ground := Ground.phase }, { on := 1, ground := Ground.phase }, { on := 2, ground := Ground.phase }, { on := 3, ground := Ground.phase }, { on := 4, ground := Ground.phase }, { on := 5, ground := Ground.phase }]).op, none⟩
  ] (by kernel_rfl)))
  (.live [2] .ret)))

noncomputable def f9 : Fun Try.prog where
  id := 9
  fn := Try.f9
  hf := Try.func9
  hname := by kernel_rfl
  body := f9_b
  hbody := by kernel_rfl
  res := [rTmp 2]
  hres := by kernel_rfl
  n := 9
  hn := by kernel_rfl

/-! ### 21: interlock/modes.of (36); results 2; slots: 0 list, 1 list, 3 s, 4 _, 5 m -/
/-- A loop's round; at its head live: 3 s, 6 , 7 , 8  -/
noncomputable def f21_l0 : Sim Try.prog :=
  (.seq (.live [3, 6, 7, 8, 9] (.region 3 [
    ⟨(opBin (some 9) .lss 3 (.tmp 8) (.tmp 7) 3 0 "modes.go:18" #[]).op, none⟩
  ] (by kernel_rfl)))
  (.seq (.cond (.tmp 9)
    .skip
    (.live [3] (.exit 0)))
  (.seq (.block 1 (.seq (.live [3, 5, 6, 7, 8] (.region 4 [
      ⟨(opIndexAddr (some 10) 36 (.tmp 6) (.tmp 8) 3 1 Try.underlying36 sz3 0 "modes.go:18" #[]).op, none⟩,
      ⟨(opLoad (some 11) 3 (.tmp 10) (.int .i64) Try.underlying3 1 sz3 3 "modes.go:18" #[{ on := 0, ground := Ground.data }]).op, none⟩,
      ⟨(opAssign (some 5) (.tmp 11) 3 "modes.go:18" #[{ on := 1, ground := Ground.data }, { on := 0, ground := Ground.phase }, { on := 1, ground := Ground.phase }]).op, none⟩
    ] (by kernel_rfl)))
    (.live [3, 6, 7, 8] (.region 5 [
      ⟨(opMove (some 12) (.tmp 3) 33 "modes.go:19" #[]).op, none⟩,
      ⟨(opMove (some 13) (.tmp 5) 3 "modes.go:19" #[]).op, none⟩,
      ⟨(opBin (some 14) .shl 33 (.const (Value.int IntKind.u16 1)) (.tmp 13) 3 33 "modes.go:19" #[{ on := 1, ground := Ground.data }]).op, none⟩,
      ⟨(opBin (some 15) .or 33 (.tmp 12) (.tmp 14) 33 33 "modes.go:19" #[{ on := 0, ground := Ground.data }, { on := 2, ground := Ground.data }]).op, none⟩,
      ⟨(opAssign (some 3) (.tmp 15) 33 "modes.go:19" #[{ on := 3, ground := Ground.data }, { on := 0, ground := Ground.phase }, { on := 1, ground := Ground.phase }, { on := 2, ground := Ground.phase }, { on := 3, ground := Ground.phase }]).op, none⟩
    ] (by kernel_rfl)))))
  (.live [3, 6, 7, 8] (.region 6 [
    ⟨(opBin (some 16) .add 3 (.tmp 8) (.const (Value.int IntKind.i64 1)) 3 3 "modes.go:18" #[]).op, none⟩,
    ⟨(opMove (some 8) (.tmp 16) 3 "modes.go:18" #[{ on := 0, ground := Ground.data }]).op, none⟩
  ] (by kernel_rfl))))))

/-- What follows a loop. -/
noncomputable def f21_r0 : Sim Try.prog :=
  (.seq (.live [2] (.region 7 [
    ⟨(opMove (some 17) (.tmp 3) 33 "modes.go:21" #[]).op, none⟩,
    ⟨(opAssign (some 2) (.tmp 17) 33 "modes.go:21" #[{ on := 0, ground := Ground.data }, { on := 0, ground := Ground.phase }]).op, none⟩
  ] (by kernel_rfl)))
  (.live [2] .ret))

noncomputable def f21_b : Sim Try.prog :=
  (.seq (.live [0] (.region 0 [
    ⟨(opAssign (some 2) (.const (Value.int IntKind.u16 0)) 33 "modes.go:16" #[]).op, none⟩
  ] (by kernel_rfl)))
  (.seq (.live [0, 3] (.region 1 [
    ⟨(opAssign (some 3) (.const (Value.int IntKind.u16 0)) 33 "modes.go:17" #[]).op, none⟩
  ] (by kernel_rfl)))
  (.seq (.seq (.live [3, 6, 7, 8] (.region 2 [
    ⟨(opMove (some 6) (.tmp 0) 36 "modes.go:18" #[]).op, none⟩,
    ⟨(opLen (some 7) (.tmp 6) 36 (.slice 3) Try.underlying36 3 "modes.go:18" #[{ on := 0, ground := Ground.data }]).op, none⟩,
    ⟨(opMove (some 8) (.const (Value.int IntKind.i64 0)) 3 "modes.go:18" #[]).op, none⟩
  ] (by kernel_rfl)))
  (.block 0 (.loop [3, 6, 7, 8] f21_l0)))
  f21_r0)))

noncomputable def f21 : Fun Try.prog where
  id := 21
  fn := Try.f21
  hf := Try.func21
  hname := by kernel_rfl
  body := f21_b
  hbody := by kernel_rfl
  res := [rTmp 2]
  hres := by kernel_rfl
  n := 18
  hn := by kernel_rfl

/-! ### 25: math/bits.OnesCount16 (32); results 2; slots: 0 x, 1 x -/
noncomputable def f25_b : Sim Try.prog :=
  (.seq (.live [0] (.region 0 [
    ⟨(opAssign (some 2) (.const (Value.int IntKind.i64 0)) 3 "bits.go:130" #[]).op, none⟩
  ] (by kernel_rfl)))
  (.seq (.live [2] (.draw 1 [
    ⟨.p (opMove (some 3) (.tmp 0) 32 "bits.go:131" #[]), none⟩,
    ⟨.p (opBin (some 4) .shr 32 (.tmp 3) (.const (Value.int IntKind.u64 8)) 40 32 "bits.go:131" #[{ on := 0, ground := Ground.data }]), none⟩,
    ⟨.p (opIndexStr (some 5) 9 (.const (Value.string { data := (.append #[0, 1, 1, 2, 1, 2, 2, 3, 1, 2, 2, 3, 2, 3, 3, 4, 1, 2, 2, 3, 2, 3, 3, 4, 2, 3, 3, 4, 3, 4, 4, 5, 1, 2, 2, 3, 2, 3, 3, 4, 2, 3, 3, 4, 3, 4, 4, 5, 2, 3, 3, 4, 3, 4, 4, 5, 3, 4, 4, 5, 4, 5, 5, 6, 1, 2, 2, 3, 2, 3, 3, 4, 2, 3, 3, 4, 3, 4, 4, 5, 2, 3, 3, 4, 3, 4, 4, 5, 3, 4, 4, 5, 4, 5, 5, 6, 2, 3, 3, 4, 3, 4, 4, 5, 3, 4, 4, 5, 4, 5, 5, 6, 3, 4, 4, 5, 4, 5, 5, 6, 4, 5, 5, 6, 5, 6, 6, 7] #[1, 2, 2, 3, 2, 3, 3, 4, 2, 3, 3, 4, 3, 4, 4, 5, 2, 3, 3, 4, 3, 4, 4, 5, 3, 4, 4, 5, 4, 5, 5, 6, 2, 3, 3, 4, 3, 4, 4, 5, 3, 4, 4, 5, 4, 5, 5, 6, 3, 4, 4, 5, 4, 5, 5, 6, 4, 5, 5, 6, 5, 6, 6, 7, 2, 3, 3, 4, 3, 4, 4, 5, 3, 4, 4, 5, 4, 5, 5, 6, 3, 4, 4, 5, 4, 5, 5, 6, 4, 5, 5, 6, 5, 6, 6, 7, 3, 4, 4, 5, 4, 5, 5, 6, 4, 5, 5, 6, 5, 6, 6, 7, 4, 5, 5, 6, 5, 6, 6, 7, 5, 6, 6, 7, 6, 7, 7, 8]) })) (.tmp 4) Try.underlying9 5 "bits.go:131" #[{ on := 1, ground := Ground.data }]), none⟩,
    ⟨.p (opMove (some 6) (.tmp 0) 32 "bits.go:131" #[]), none⟩,
    ⟨.p (opBin (some 7) .and 32 (.tmp 6) (.const (Value.int IntKind.u16 255)) 32 32 "bits.go:131" #[{ on := 3, ground := Ground.data }]), none⟩,
    ⟨.p (opIndexStr (some 8) 9 (.const (Value.string { data := (.append #[0, 1, 1, 2, 1, 2, 2, 3, 1, 2, 2, 3, 2, 3, 3, 4, 1, 2, 2, 3, 2, 3, 3, 4, 2, 3, 3, 4, 3, 4, 4, 5, 1, 2, 2, 3, 2, 3, 3, 4, 2, 3, 3, 4, 3, 4, 4, 5, 2, 3, 3, 4, 3, 4, 4, 5, 3, 4, 4, 5, 4, 5, 5, 6, 1, 2, 2, 3, 2, 3, 3, 4, 2, 3, 3, 4, 3, 4, 4, 5, 2, 3, 3, 4, 3, 4, 4, 5, 3, 4, 4, 5, 4, 5, 5, 6, 2, 3, 3, 4, 3, 4, 4, 5, 3, 4, 4, 5, 4, 5, 5, 6, 3, 4, 4, 5, 4, 5, 5, 6, 4, 5, 5, 6, 5, 6, 6, 7] #[1, 2, 2, 3, 2, 3, 3, 4, 2, 3, 3, 4, 3, 4, 4, 5, 2, 3, 3, 4, 3, 4, 4, 5, 3, 4, 4, 5, 4, 5, 5, 6, 2, 3, 3, 4, 3, 4, 4, 5, 3, 4, 4, 5, 4, 5, 5, 6, 3, 4, 4, 5, 4, 5, 5, 6, 4, 5, 5, 6, 5, 6, 6, 7, 2, 3, 3, 4, 3, 4, 4, 5, 3, 4, 4, 5, 4, 5, 5, 6, 3, 4, 4, 5, 4, 5, 5, 6, 4, 5, 5, 6, 5, 6, 6, 7, 3, 4, 4, 5, 4, 5, 5, 6, 4, 5, 5, 6, 5, 6, 6, 7, 4, 5, 5, 6, 5, 6, 6, 7, 5, 6, 6, 7, 6, 7, 7, 8]) })) (.tmp 7) Try.underlying9 5 "bits.go:131" #[{ on := 4, ground := Ground.data }]), none⟩,
    ⟨.p (opBin (some 9) .add 5 (.tmp 5) (.tmp 8) 5 5 "bits.go:131" #[{ on := 2, ground := Ground.data }, { on := 5, ground := Ground.data }]), none⟩,
    ⟨.p (opConvInt (some 10) 5 3 (.tmp 9) (.int .u8) Try.underlying5 .i64 Try.underlying3 3 "bits.go:131" #[{ on := 6, ground := Ground.data }]), none⟩,
    ⟨.p (opAssign (some 2) (.tmp 10) 3 "bits.go:131" #[{ on := 7, ground := Ground.data }, { on := 0, ground := Ground.phase }, { on := 1, ground := Ground.phase }, { on := 2, ground := Ground.phase }, { on := 3, ground := Ground.phase }, { on := 4, ground := Ground.phase }, { on := 5, ground := Ground.phase }, { on := 6, ground := Ground.phase }, { on := 7, ground := Ground.phase }]), none⟩
  ] mixed (by kernel_rfl)))
  (.live [2] .ret)))

noncomputable def f25 : Fun Try.prog where
  id := 25
  fn := Try.f25
  hf := Try.func25
  hname := by kernel_rfl
  body := f25_b
  hbody := by kernel_rfl
  res := [rTmp 2]
  hres := by kernel_rfl
  n := 11
  hn := by kernel_rfl

/-! ### 22: interlock/interlockref10.row (3); results 2; slots: 0 m, 1 m -/
noncomputable def f22_b : Sim Try.prog :=
  (.seq (.live [0] (.region 0 [
    ⟨(opAssign (some 2) (.const (Value.slice none 0 0)) 36 "ref.go:7" #[]).op, none⟩
  ] (by kernel_rfl)))
  (.seq (.seq (.live [3] (.region 1 [
    ⟨(opMove (some 3) (.tmp 0) 3 "ref.go:8" #[]).op, none⟩
  ] (by kernel_rfl)))
  (.block 0 (.seq (.live [3, 4] (.region 2 [
      ⟨(opBin (some 5) .eql 3 (.tmp 3) (.const (Value.int IntKind.i64 1)) 3 4 "ref.go:9" #[]).op, none⟩,
      ⟨(opAssign (some 4) (.tmp 5) 4 "ref.go:9" #[{ on := 0, ground := Ground.data }]).op, none⟩
    ] (by kernel_rfl)))
    (.cond (.tmp 4)
      (.seq (.live [2] (.region 3 [
        ⟨(opBuildSlice (some 6) 36 2 [(0, (.const (Value.int IntKind.i64 6))), (1, (.const (Value.int IntKind.i64 8)))] 3 1 8 (.int .i64 0) el36 (by kernel_rfl) (by decide) 36 "ref.go:10" #[]).op, none⟩,
        ⟨(opAssign (some 2) (.tmp 6) 36 "ref.go:10" #[{ on := 0, ground := Ground.data }, { on := 0, ground := Ground.phase }]).op, none⟩
      ] (by kernel_rfl)))
      (.live [2] .ret))
      (.seq (.live [3, 7] (.region 4 [
        ⟨(opBin (some 8) .eql 3 (.tmp 3) (.const (Value.int IntKind.i64 2)) 3 4 "ref.go:11" #[]).op, none⟩,
        ⟨(opAssign (some 7) (.tmp 8) 4 "ref.go:11" #[{ on := 0, ground := Ground.data }]).op, none⟩
      ] (by kernel_rfl)))
      (.cond (.tmp 7)
        (.seq (.live [2] (.region 5 [
          ⟨(opBuildSlice (some 9) 36 4 [(0, (.const (Value.int IntKind.i64 3))), (1, (.const (Value.int IntKind.i64 5))), (2, (.const (Value.int IntKind.i64 6))), (3, (.const (Value.int IntKind.i64 8)))] 3 1 8 (.int .i64 0) el36 (by kernel_rfl) (by decide) 36 "ref.go:12" #[]).op, none⟩,
          ⟨(opAssign (some 2) (.tmp 9) 36 "ref.go:12" #[{ on := 0, ground := Ground.data }, { on := 0, ground := Ground.phase }]).op, none⟩
        ] (by kernel_rfl)))
        (.live [2] .ret))
        (.seq (.live [3, 10] (.region 6 [
          ⟨(opBin (some 11) .eql 3 (.tmp 3) (.const (Value.int IntKind.i64 3)) 3 4 "ref.go:13" #[]).op, none⟩,
          ⟨(opAssign (some 10) (.tmp 11) 4 "ref.go:13" #[{ on := 0, ground := Ground.data }]).op, none⟩
        ] (by kernel_rfl)))
        (.cond (.tmp 10)
          (.seq (.live [2] (.region 7 [
            ⟨(opBuildSlice (some 12) 36 4 [(0, (.const (Value.int IntKind.i64 2))), (1, (.const (Value.int IntKind.i64 5))), (2, (.const (Value.int IntKind.i64 6))), (3, (.const (Value.int IntKind.i64 8)))] 3 1 8 (.int .i64 0) el36 (by kernel_rfl) (by decide) 36 "ref.go:14" #[]).op, none⟩,
            ⟨(opAssign (some 2) (.tmp 12) 36 "ref.go:14" #[{ on := 0, ground := Ground.data }, { on := 0, ground := Ground.phase }]).op, none⟩
          ] (by kernel_rfl)))
          (.live [2] .ret))
          (.seq (.live [3, 13] (.region 8 [
            ⟨(opBin (some 14) .eql 3 (.tmp 3) (.const (Value.int IntKind.i64 4)) 3 4 "ref.go:15" #[]).op, none⟩,
            ⟨(opAssign (some 13) (.tmp 14) 4 "ref.go:15" #[{ on := 0, ground := Ground.data }]).op, none⟩
          ] (by kernel_rfl)))
          (.cond (.tmp 13)
            (.seq (.live [2] (.region 9 [
              ⟨(opBuildSlice (some 15) 36 3 [(0, (.const (Value.int IntKind.i64 4))), (1, (.const (Value.int IntKind.i64 6))), (2, (.const (Value.int IntKind.i64 8)))] 3 1 8 (.int .i64 0) el36 (by kernel_rfl) (by decide) 36 "ref.go:16" #[]).op, none⟩,
              ⟨(opAssign (some 2) (.tmp 15) 36 "ref.go:16" #[{ on := 0, ground := Ground.data }, { on := 0, ground := Ground.phase }]).op, none⟩
            ] (by kernel_rfl)))
            (.live [2] .ret))
            (.seq (.live [3, 16] (.region 10 [
              ⟨(opBin (some 17) .eql 3 (.tmp 3) (.const (Value.int IntKind.i64 5)) 3 4 "ref.go:17" #[]).op, none⟩,
              ⟨(opAssign (some 16) (.tmp 17) 4 "ref.go:17" #[{ on := 0, ground := Ground.data }]).op, none⟩
            ] (by kernel_rfl)))
            (.cond (.tmp 16)
              (.seq (.live [2] (.region 11 [
                ⟨(opBuildSlice (some 18) 36 5 [(0, (.const (Value.int IntKind.i64 2))), (1, (.const (Value.int IntKind.i64 3))), (2, (.const (Value.int IntKind.i64 5))), (3, (.const (Value.int IntKind.i64 6))), (4, (.const (Value.int IntKind.i64 8)))] 3 1 8 (.int .i64 0) el36 (by kernel_rfl) (by decide) 36 "ref.go:18" #[]).op, none⟩,
                ⟨(opAssign (some 2) (.tmp 18) 36 "ref.go:18" #[{ on := 0, ground := Ground.data }, { on := 0, ground := Ground.phase }]).op, none⟩
              ] (by kernel_rfl)))
              (.live [2] .ret))
              (.seq (.live [3, 19] (.region 12 [
                ⟨(opBin (some 20) .eql 3 (.tmp 3) (.const (Value.int IntKind.i64 6)) 3 4 "ref.go:19" #[]).op, none⟩,
                ⟨(opAssign (some 19) (.tmp 20) 4 "ref.go:19" #[{ on := 0, ground := Ground.data }]).op, none⟩
              ] (by kernel_rfl)))
              (.cond (.tmp 19)
                (.seq (.live [2] (.region 13 [
                  ⟨(opBuildSlice (some 21) 36 7 [(0, (.const (Value.int IntKind.i64 1))), (1, (.const (Value.int IntKind.i64 2))), (2, (.const (Value.int IntKind.i64 3))), (3, (.const (Value.int IntKind.i64 4))), (4, (.const (Value.int IntKind.i64 5))), (5, (.const (Value.int IntKind.i64 6))), (6, (.const (Value.int IntKind.i64 8)))] 3 1 8 (.int .i64 0) el36 (by kernel_rfl) (by decide) 36 "ref.go:20" #[]).op, none⟩,
                  ⟨(opAssign (some 2) (.tmp 21) 36 "ref.go:20" #[{ on := 0, ground := Ground.data }, { on := 0, ground := Ground.phase }]).op, none⟩
                ] (by kernel_rfl)))
                (.live [2] .ret))
                (.seq (.live [3, 22] (.region 14 [
                  ⟨(opBin (some 23) .eql 3 (.tmp 3) (.const (Value.int IntKind.i64 7)) 3 4 "ref.go:21" #[]).op, none⟩,
                  ⟨(opAssign (some 22) (.tmp 23) 4 "ref.go:21" #[{ on := 0, ground := Ground.data }]).op, none⟩
                ] (by kernel_rfl)))
                (.cond (.tmp 22)
                  (.seq (.live [2] (.region 15 [
                    ⟨(opBuildSlice (some 24) 36 1 [(0, (.const (Value.int IntKind.i64 8)))] 3 1 8 (.int .i64 0) el36 (by kernel_rfl) (by decide) 36 "ref.go:22" #[]).op, none⟩,
                    ⟨(opAssign (some 2) (.tmp 24) 36 "ref.go:22" #[{ on := 0, ground := Ground.data }, { on := 0, ground := Ground.phase }]).op, none⟩
                  ] (by kernel_rfl)))
                  (.live [2] .ret))
                  (.seq (.live [25] (.region 16 [
                    ⟨(opBin (some 26) .eql 3 (.tmp 3) (.const (Value.int IntKind.i64 8)) 3 4 "ref.go:23" #[]).op, none⟩,
                    ⟨(opAssign (some 25) (.tmp 26) 4 "ref.go:23" #[{ on := 0, ground := Ground.data }]).op, none⟩
                  ] (by kernel_rfl)))
                  (.cond (.tmp 25)
                    (.seq (.live [2] (.region 17 [
                      ⟨(opBuildSlice (some 27) 36 8 [(0, (.const (Value.int IntKind.i64 1))), (1, (.const (Value.int IntKind.i64 2))), (2, (.const (Value.int IntKind.i64 3))), (3, (.const (Value.int IntKind.i64 4))), (4, (.const (Value.int IntKind.i64 5))), (5, (.const (Value.int IntKind.i64 6))), (6, (.const (Value.int IntKind.i64 7))), (7, (.const (Value.int IntKind.i64 8)))] 3 1 8 (.int .i64 0) el36 (by kernel_rfl) (by decide) 36 "ref.go:24" #[]).op, none⟩,
                      ⟨(opAssign (some 2) (.tmp 27) 36 "ref.go:24" #[{ on := 0, ground := Ground.data }, { on := 0, ground := Ground.phase }]).op, none⟩
                    ] (by kernel_rfl)))
                    (.live [2] .ret))
                    .skip))))))))))))))))))
  (.seq (.live [2] (.region 18 [
    ⟨(opAssign (some 2) (.const (Value.slice none 0 0)) 36 "ref.go:26" #[]).op, none⟩
  ] (by kernel_rfl)))
  (.live [2] .ret))))

noncomputable def f22 : Fun Try.prog where
  id := 22
  fn := Try.f22
  hf := Try.func22
  hname := by kernel_rfl
  body := f22_b
  hbody := by kernel_rfl
  res := [rTmp 2]
  hres := by kernel_rfl
  n := 28
  hn := by kernel_rfl

/-! ### 23: interlock/interlockref10.right (3); results 2; slots: 0 m, 1 m -/
noncomputable def f23_b : Sim Try.prog :=
  (.seq (.live [0, 6, 7] (.region 0 [
    ⟨(opAssign (some 2) (.const (Value.bool false)) 4 "ref.go:40" #[]).op, none⟩
  ] (by kernel_rfl)))
  (.seq (.live [2] (.region 1 [
    ⟨(opMove (some 3) (.tmp 0) 3 "ref.go:40" #[]).op, none⟩,
    ⟨(opBin (some 4) .geq 3 (.tmp 3) (.const (Value.int IntKind.i64 1)) 3 4 "ref.go:40" #[{ on := 0, ground := Ground.data }]).op, none⟩,
    ⟨(opMove (some 5) (.tmp 4) 4 "ref.go:40" #[{ on := 1, ground := Ground.data }]).op, none⟩,
    ⟨(opMove (some 6) (.tmp 0) 3 "ref.go:40" #[{ on := 2, ground := Ground.guard }]).op, (some (2, 5, true))⟩,
    ⟨(opBin (some 7) .leq 3 (.tmp 6) (.const (Value.int IntKind.i64 8)) 3 4 "ref.go:40" #[{ on := 3, ground := Ground.data }, { on := 2, ground := Ground.guard }]).op, (some (2, 5, true))⟩,
    ⟨(opPick (some 8) (.tmp 5) (.tmp 7) (.const (Value.bool false)) 4 "ref.go:40" #[{ on := 2, ground := Ground.data }, { on := 4, ground := Ground.data }]).op, none⟩,
    ⟨(opAssign (some 2) (.tmp 8) 4 "ref.go:40" #[{ on := 5, ground := Ground.data }, { on := 2, ground := Ground.chain }, { on := 0, ground := Ground.phase }, { on := 1, ground := Ground.phase }, { on := 2, ground := Ground.phase }, { on := 3, ground := Ground.phase }, { on := 4, ground := Ground.phase }, { on := 5, ground := Ground.phase }]).op, none⟩
  ] (by kernel_rfl)))
  (.live [2] .ret)))

noncomputable def f23 : Fun Try.prog where
  id := 23
  fn := Try.f23
  hf := Try.func23
  hname := by kernel_rfl
  body := f23_b
  hbody := by kernel_rfl
  res := [rTmp 2]
  hres := by kernel_rfl
  n := 9
  hn := by kernel_rfl

/-! ### 18: interlock/modes.Fits (27); results 2; slots: 0 t, 1 t -/
noncomputable def f18_b : Sim Try.prog :=
  (.seq (.live [1, 12, 13, 14] (.region 0 [
    ⟨(opBoxF (some 1) 27 (.tmp 0) 0 "modes.go:72" #[]).op, none⟩,
    ⟨(opAssign (some 2) (.const (Value.bool false)) 4 "modes.go:72" #[]).op, none⟩
  ] (by kernel_rfl)))
  (.seq (.seq (.live [1, 4, 12, 13, 14] (.region 1 [
    ⟨(opFieldAddr (some 3) 27 (.tmp 1) 0 0 1 false fl27_0 (by decide) 0 "modes.go:73" #[]).op, none⟩,
    ⟨(opLoad (some 4) 3 (.tmp 3) (.int .i64) Try.underlying3 1 sz3 3 "modes.go:73" #[{ on := 0, ground := Ground.data }]).op, none⟩
  ] (by kernel_rfl)))
  (.block 0 (.seq (.seq (.live [1, 4, 5, 12, 13, 14] (.region 2 [
      ⟨(opBin (some 6) .eql 3 (.tmp 4) (.const (Value.int IntKind.i64 1)) 3 4 "modes.go:74" #[]).op, none⟩,
      ⟨(opAssign (some 5) (.tmp 6) 4 "modes.go:74" #[{ on := 0, ground := Ground.data }]).op, none⟩
    ] (by kernel_rfl)))
    (.cond (.tmp 5)
      .skip
      (.live [1, 4, 5, 12, 13, 14] (.region 3 [
        ⟨(opBin (some 7) .eql 3 (.tmp 4) (.const (Value.int IntKind.i64 2)) 3 4 "modes.go:74" #[]).op, none⟩,
        ⟨(opAssign (some 5) (.tmp 7) 4 "modes.go:74" #[{ on := 0, ground := Ground.data }]).op, none⟩
      ] (by kernel_rfl)))))
    (.cond (.tmp 5)
      (.seq (.live [2] (.region 4 [
        ⟨(opFieldAddr (some 8) 27 (.tmp 1) 1 1 1 false fl27_1 (by decide) 0 "modes.go:75" #[]).op, none⟩,
        ⟨(opLoad (some 9) 9 (.tmp 8) .string Try.underlying9 1 sz9 9 "modes.go:75" #[{ on := 0, ground := Ground.data }]).op, none⟩,
        ⟨(opBin (some 10) .eql 9 (.tmp 9) (.const (Value.string { data := #[] })) 9 4 "modes.go:75" #[{ on := 1, ground := Ground.data }]).op, none⟩,
        ⟨(opMove (some 11) (.tmp 10) 4 "modes.go:75" #[{ on := 2, ground := Ground.data }]).op, none⟩,
        ⟨(opFieldAddr (some 12) 27 (.tmp 1) 2 2 1 false fl27_2 (by decide) 0 "modes.go:75" #[{ on := 3, ground := Ground.guard }]).op, (some (3, 11, true))⟩,
        ⟨(opLoad (some 13) 9 (.tmp 12) .string Try.underlying9 1 sz9 9 "modes.go:75" #[{ on := 4, ground := Ground.data }, { on := 3, ground := Ground.guard }]).op, (some (3, 11, true))⟩,
        ⟨(opBin (some 14) .eql 9 (.tmp 13) (.const (Value.string { data := #[] })) 9 4 "modes.go:75" #[{ on := 5, ground := Ground.data }, { on := 3, ground := Ground.guard }]).op, (some (3, 11, true))⟩,
        ⟨(opPick (some 15) (.tmp 11) (.tmp 14) (.const (Value.bool false)) 4 "modes.go:75" #[{ on := 3, ground := Ground.data }, { on := 6, ground := Ground.data }]).op, none⟩,
        ⟨(opAssign (some 2) (.tmp 15) 4 "modes.go:75" #[{ on := 7, ground := Ground.data }, { on := 3, ground := Ground.chain }, { on := 0, ground := Ground.phase }, { on := 1, ground := Ground.phase }, { on := 2, ground := Ground.phase }, { on := 3, ground := Ground.phase }, { on := 4, ground := Ground.phase }, { on := 5, ground := Ground.phase }, { on := 6, ground := Ground.phase }, { on := 7, ground := Ground.phase }]).op, none⟩
      ] (by kernel_rfl)))
      (.live [2] .ret))
      (.seq (.live [1, 16] (.region 5 [
        ⟨(opBin (some 17) .eql 3 (.tmp 4) (.const (Value.int IntKind.i64 3)) 3 4 "modes.go:76" #[]).op, none⟩,
        ⟨(opAssign (some 16) (.tmp 17) 4 "modes.go:76" #[{ on := 0, ground := Ground.data }]).op, none⟩
      ] (by kernel_rfl)))
      (.cond (.tmp 16)
        (.seq (.live [2] (.region 6 [
          ⟨(opFieldAddr (some 18) 27 (.tmp 1) 2 2 1 false fl27_2 (by decide) 0 "modes.go:77" #[]).op, none⟩,
          ⟨(opLoad (some 19) 9 (.tmp 18) .string Try.underlying9 1 sz9 9 "modes.go:77" #[{ on := 0, ground := Ground.data }]).op, none⟩,
          ⟨(opBin (some 20) .eql 9 (.tmp 19) (.const (Value.string { data := #[] })) 9 4 "modes.go:77" #[{ on := 1, ground := Ground.data }]).op, none⟩,
          ⟨(opAssign (some 2) (.tmp 20) 4 "modes.go:77" #[{ on := 2, ground := Ground.data }, { on := 0, ground := Ground.phase }, { on := 1, ground := Ground.phase }, { on := 2, ground := Ground.phase }]).op, none⟩
        ] (by kernel_rfl)))
        (.live [2] .ret))
        .skip))))))
  (.seq (.live [2] (.region 7 [
    ⟨(opFieldAddr (some 21) 27 (.tmp 1) 0 0 1 false fl27_0 (by decide) 0 "modes.go:79" #[]).op, none⟩,
    ⟨(opLoad (some 22) 3 (.tmp 21) (.int .i64) Try.underlying3 1 sz3 3 "modes.go:79" #[{ on := 0, ground := Ground.data }]).op, none⟩,
    ⟨(opBin (some 23) .eql 3 (.tmp 22) (.const (Value.int IntKind.i64 4)) 3 4 "modes.go:79" #[{ on := 1, ground := Ground.data }]).op, none⟩,
    ⟨(opAssign (some 2) (.tmp 23) 4 "modes.go:79" #[{ on := 2, ground := Ground.data }, { on := 0, ground := Ground.phase }, { on := 1, ground := Ground.phase }, { on := 2, ground := Ground.phase }]).op, none⟩
  ] (by kernel_rfl)))
  (.live [2] .ret))))

noncomputable def f18 : Fun Try.prog where
  id := 18
  fn := Try.f18
  hf := Try.func18
  hname := by kernel_rfl
  body := f18_b
  hbody := by kernel_rfl
  res := [rTmp 2]
  hres := by kernel_rfl
  n := 24
  hn := by kernel_rfl

/-! ### 19: interlock/interlockref10.Fits (27); results 2; slots: 0 t, 1 t -/
noncomputable def f19_b : Sim Try.prog :=
  (.seq (.live [1, 12, 13, 14] (.region 0 [
    ⟨(opBoxF (some 1) 27 (.tmp 0) 0 "ref.go:67" #[]).op, none⟩,
    ⟨(opAssign (some 2) (.const (Value.bool false)) 4 "ref.go:67" #[]).op, none⟩
  ] (by kernel_rfl)))
  (.seq (.seq (.live [1, 4, 12, 13, 14] (.region 1 [
    ⟨(opFieldAddr (some 3) 27 (.tmp 1) 0 0 1 false fl27_0 (by decide) 0 "ref.go:68" #[]).op, none⟩,
    ⟨(opLoad (some 4) 3 (.tmp 3) (.int .i64) Try.underlying3 1 sz3 3 "ref.go:68" #[{ on := 0, ground := Ground.data }]).op, none⟩
  ] (by kernel_rfl)))
  (.block 0 (.seq (.seq (.live [1, 4, 5, 12, 13, 14] (.region 2 [
      ⟨(opBin (some 6) .eql 3 (.tmp 4) (.const (Value.int IntKind.i64 1)) 3 4 "ref.go:69" #[]).op, none⟩,
      ⟨(opAssign (some 5) (.tmp 6) 4 "ref.go:69" #[{ on := 0, ground := Ground.data }]).op, none⟩
    ] (by kernel_rfl)))
    (.cond (.tmp 5)
      .skip
      (.live [1, 4, 5, 12, 13, 14] (.region 3 [
        ⟨(opBin (some 7) .eql 3 (.tmp 4) (.const (Value.int IntKind.i64 2)) 3 4 "ref.go:69" #[]).op, none⟩,
        ⟨(opAssign (some 5) (.tmp 7) 4 "ref.go:69" #[{ on := 0, ground := Ground.data }]).op, none⟩
      ] (by kernel_rfl)))))
    (.cond (.tmp 5)
      (.seq (.live [2] (.region 4 [
        ⟨(opFieldAddr (some 8) 27 (.tmp 1) 1 1 1 false fl27_1 (by decide) 0 "ref.go:70" #[]).op, none⟩,
        ⟨(opLoad (some 9) 9 (.tmp 8) .string Try.underlying9 1 sz9 9 "ref.go:70" #[{ on := 0, ground := Ground.data }]).op, none⟩,
        ⟨(opBin (some 10) .eql 9 (.tmp 9) (.const (Value.string { data := #[] })) 9 4 "ref.go:70" #[{ on := 1, ground := Ground.data }]).op, none⟩,
        ⟨(opMove (some 11) (.tmp 10) 4 "ref.go:70" #[{ on := 2, ground := Ground.data }]).op, none⟩,
        ⟨(opFieldAddr (some 12) 27 (.tmp 1) 2 2 1 false fl27_2 (by decide) 0 "ref.go:70" #[{ on := 3, ground := Ground.guard }]).op, (some (3, 11, true))⟩,
        ⟨(opLoad (some 13) 9 (.tmp 12) .string Try.underlying9 1 sz9 9 "ref.go:70" #[{ on := 4, ground := Ground.data }, { on := 3, ground := Ground.guard }]).op, (some (3, 11, true))⟩,
        ⟨(opBin (some 14) .eql 9 (.tmp 13) (.const (Value.string { data := #[] })) 9 4 "ref.go:70" #[{ on := 5, ground := Ground.data }, { on := 3, ground := Ground.guard }]).op, (some (3, 11, true))⟩,
        ⟨(opPick (some 15) (.tmp 11) (.tmp 14) (.const (Value.bool false)) 4 "ref.go:70" #[{ on := 3, ground := Ground.data }, { on := 6, ground := Ground.data }]).op, none⟩,
        ⟨(opAssign (some 2) (.tmp 15) 4 "ref.go:70" #[{ on := 7, ground := Ground.data }, { on := 3, ground := Ground.chain }, { on := 0, ground := Ground.phase }, { on := 1, ground := Ground.phase }, { on := 2, ground := Ground.phase }, { on := 3, ground := Ground.phase }, { on := 4, ground := Ground.phase }, { on := 5, ground := Ground.phase }, { on := 6, ground := Ground.phase }, { on := 7, ground := Ground.phase }]).op, none⟩
      ] (by kernel_rfl)))
      (.live [2] .ret))
      (.seq (.live [1, 16] (.region 5 [
        ⟨(opBin (some 17) .eql 3 (.tmp 4) (.const (Value.int IntKind.i64 3)) 3 4 "ref.go:71" #[]).op, none⟩,
        ⟨(opAssign (some 16) (.tmp 17) 4 "ref.go:71" #[{ on := 0, ground := Ground.data }]).op, none⟩
      ] (by kernel_rfl)))
      (.cond (.tmp 16)
        (.seq (.live [2] (.region 6 [
          ⟨(opFieldAddr (some 18) 27 (.tmp 1) 2 2 1 false fl27_2 (by decide) 0 "ref.go:72" #[]).op, none⟩,
          ⟨(opLoad (some 19) 9 (.tmp 18) .string Try.underlying9 1 sz9 9 "ref.go:72" #[{ on := 0, ground := Ground.data }]).op, none⟩,
          ⟨(opBin (some 20) .eql 9 (.tmp 19) (.const (Value.string { data := #[] })) 9 4 "ref.go:72" #[{ on := 1, ground := Ground.data }]).op, none⟩,
          ⟨(opAssign (some 2) (.tmp 20) 4 "ref.go:72" #[{ on := 2, ground := Ground.data }, { on := 0, ground := Ground.phase }, { on := 1, ground := Ground.phase }, { on := 2, ground := Ground.phase }]).op, none⟩
        ] (by kernel_rfl)))
        (.live [2] .ret))
        .skip))))))
  (.seq (.live [2] (.region 7 [
    ⟨(opFieldAddr (some 21) 27 (.tmp 1) 0 0 1 false fl27_0 (by decide) 0 "ref.go:74" #[]).op, none⟩,
    ⟨(opLoad (some 22) 3 (.tmp 21) (.int .i64) Try.underlying3 1 sz3 3 "ref.go:74" #[{ on := 0, ground := Ground.data }]).op, none⟩,
    ⟨(opBin (some 23) .eql 3 (.tmp 22) (.const (Value.int IntKind.i64 4)) 3 4 "ref.go:74" #[{ on := 1, ground := Ground.data }]).op, none⟩,
    ⟨(opAssign (some 2) (.tmp 23) 4 "ref.go:74" #[{ on := 2, ground := Ground.data }, { on := 0, ground := Ground.phase }, { on := 1, ground := Ground.phase }, { on := 2, ground := Ground.phase }]).op, none⟩
  ] (by kernel_rfl)))
  (.live [2] .ret))))

noncomputable def f19 : Fun Try.prog where
  id := 19
  fn := Try.f19
  hf := Try.func19
  hname := by kernel_rfl
  body := f19_b
  hbody := by kernel_rfl
  res := [rTmp 2]
  hres := by kernel_rfl
  n := 24
  hn := by kernel_rfl

/-! ### 20: interlock/modes.conflicts (3); results 2; slots: 0 m, 1 m, 3 intents -/
noncomputable def f20_b : Sim Try.prog :=
  (.seq (.live [0] (.region 0 [
    ⟨(opAssign (some 2) (.const (Value.int IntKind.u16 0)) 33 "modes.go:25" #[]).op, none⟩
  ] (by kernel_rfl)))
  (.seq (.live [0, 3] (.region 1 [
    ⟨(opBuildSlice (some 4) 36 2 [(0, (.const (Value.int IntKind.i64 6))), (1, (.const (Value.int IntKind.i64 8)))] 3 1 8 (.int .i64 0) el36 (by kernel_rfl) (by decide) 36 "modes.go:26" #[]).op, none⟩,
    ⟨opCall (f21.orc 12) (some 5) [(.tmp 4)] #[36] 33 "modes.go:26" #[{ on := 0, ground := Ground.data }], none⟩,
    ⟨(opAssign (some 3) (.tmp 5) 33 "modes.go:26" #[{ on := 1, ground := Ground.data }, { on := 1, ground := Ground.chain }, { on := 0, ground := Ground.phase }, { on := 1, ground := Ground.phase }]).op, none⟩
  ] (by kernel_rfl)))
  (.seq (.seq (.live [3, 6] (.region 2 [
    ⟨(opMove (some 6) (.tmp 0) 3 "modes.go:27" #[]).op, none⟩
  ] (by kernel_rfl)))
  (.block 0 (.seq (.live [3, 6, 7] (.region 3 [
      ⟨(opBin (some 8) .eql 3 (.tmp 6) (.const (Value.int IntKind.i64 1)) 3 4 "modes.go:28" #[]).op, none⟩,
      ⟨(opAssign (some 7) (.tmp 8) 4 "modes.go:28" #[{ on := 0, ground := Ground.data }]).op, none⟩
    ] (by kernel_rfl)))
    (.cond (.tmp 7)
      (.seq (.live [2] (.region 4 [
        ⟨(opMove (some 9) (.tmp 3) 33 "modes.go:29" #[]).op, none⟩,
        ⟨(opAssign (some 2) (.tmp 9) 33 "modes.go:29" #[{ on := 0, ground := Ground.data }, { on := 0, ground := Ground.phase }]).op, none⟩
      ] (by kernel_rfl)))
      (.live [2] .ret))
      (.seq (.live [3, 6, 10] (.region 5 [
        ⟨(opBin (some 11) .eql 3 (.tmp 6) (.const (Value.int IntKind.i64 2)) 3 4 "modes.go:30" #[]).op, none⟩,
        ⟨(opAssign (some 10) (.tmp 11) 4 "modes.go:30" #[{ on := 0, ground := Ground.data }]).op, none⟩
      ] (by kernel_rfl)))
      (.cond (.tmp 10)
        (.seq (.live [2] (.region 6 [
          ⟨(opMove (some 12) (.tmp 3) 33 "modes.go:31" #[]).op, none⟩,
          ⟨(opBuildSlice (some 13) 36 2 [(0, (.const (Value.int IntKind.i64 3))), (1, (.const (Value.int IntKind.i64 5)))] 3 1 8 (.int .i64 0) el36 (by kernel_rfl) (by decide) 36 "modes.go:31" #[]).op, none⟩,
          ⟨opCall (f21.orc 12) (some 14) [(.tmp 13)] #[36] 33 "modes.go:31" #[{ on := 1, ground := Ground.data }], none⟩,
          ⟨(opBin (some 15) .or 33 (.tmp 12) (.tmp 14) 33 33 "modes.go:31" #[{ on := 0, ground := Ground.data }, { on := 2, ground := Ground.data }]).op, none⟩,
          ⟨(opAssign (some 2) (.tmp 15) 33 "modes.go:31" #[{ on := 3, ground := Ground.data }, { on := 2, ground := Ground.chain }, { on := 0, ground := Ground.phase }, { on := 1, ground := Ground.phase }, { on := 2, ground := Ground.phase }, { on := 3, ground := Ground.phase }]).op, none⟩
        ] (by kernel_rfl)))
        (.live [2] .ret))
        (.seq (.live [3, 6, 16] (.region 7 [
          ⟨(opBin (some 17) .eql 3 (.tmp 6) (.const (Value.int IntKind.i64 3)) 3 4 "modes.go:32" #[]).op, none⟩,
          ⟨(opAssign (some 16) (.tmp 17) 4 "modes.go:32" #[{ on := 0, ground := Ground.data }]).op, none⟩
        ] (by kernel_rfl)))
        (.cond (.tmp 16)
          (.seq (.live [2] (.region 8 [
            ⟨(opMove (some 18) (.tmp 3) 33 "modes.go:33" #[]).op, none⟩,
            ⟨(opBuildSlice (some 19) 36 2 [(0, (.const (Value.int IntKind.i64 2))), (1, (.const (Value.int IntKind.i64 5)))] 3 1 8 (.int .i64 0) el36 (by kernel_rfl) (by decide) 36 "modes.go:33" #[]).op, none⟩,
            ⟨opCall (f21.orc 12) (some 20) [(.tmp 19)] #[36] 33 "modes.go:33" #[{ on := 1, ground := Ground.data }], none⟩,
            ⟨(opBin (some 21) .or 33 (.tmp 18) (.tmp 20) 33 33 "modes.go:33" #[{ on := 0, ground := Ground.data }, { on := 2, ground := Ground.data }]).op, none⟩,
            ⟨(opAssign (some 2) (.tmp 21) 33 "modes.go:33" #[{ on := 3, ground := Ground.data }, { on := 2, ground := Ground.chain }, { on := 0, ground := Ground.phase }, { on := 1, ground := Ground.phase }, { on := 2, ground := Ground.phase }, { on := 3, ground := Ground.phase }]).op, none⟩
          ] (by kernel_rfl)))
          (.live [2] .ret))
          (.seq (.live [3, 6, 22] (.region 9 [
            ⟨(opBin (some 23) .eql 3 (.tmp 6) (.const (Value.int IntKind.i64 4)) 3 4 "modes.go:34" #[]).op, none⟩,
            ⟨(opAssign (some 22) (.tmp 23) 4 "modes.go:34" #[{ on := 0, ground := Ground.data }]).op, none⟩
          ] (by kernel_rfl)))
          (.cond (.tmp 22)
            (.seq (.live [2] (.region 10 [
              ⟨(opMove (some 24) (.tmp 3) 33 "modes.go:35" #[]).op, none⟩,
              ⟨(opBuildSlice (some 25) 36 1 [(0, (.const (Value.int IntKind.i64 4)))] 3 1 8 (.int .i64 0) el36 (by kernel_rfl) (by decide) 36 "modes.go:35" #[]).op, none⟩,
              ⟨opCall (f21.orc 12) (some 26) [(.tmp 25)] #[36] 33 "modes.go:35" #[{ on := 1, ground := Ground.data }], none⟩,
              ⟨(opBin (some 27) .or 33 (.tmp 24) (.tmp 26) 33 33 "modes.go:35" #[{ on := 0, ground := Ground.data }, { on := 2, ground := Ground.data }]).op, none⟩,
              ⟨(opAssign (some 2) (.tmp 27) 33 "modes.go:35" #[{ on := 3, ground := Ground.data }, { on := 2, ground := Ground.chain }, { on := 0, ground := Ground.phase }, { on := 1, ground := Ground.phase }, { on := 2, ground := Ground.phase }, { on := 3, ground := Ground.phase }]).op, none⟩
            ] (by kernel_rfl)))
            (.live [2] .ret))
            (.seq (.live [3, 6, 28] (.region 11 [
              ⟨(opBin (some 29) .eql 3 (.tmp 6) (.const (Value.int IntKind.i64 5)) 3 4 "modes.go:36" #[]).op, none⟩,
              ⟨(opAssign (some 28) (.tmp 29) 4 "modes.go:36" #[{ on := 0, ground := Ground.data }]).op, none⟩
            ] (by kernel_rfl)))
            (.cond (.tmp 28)
              (.seq (.live [2] (.region 12 [
                ⟨(opMove (some 30) (.tmp 3) 33 "modes.go:37" #[]).op, none⟩,
                ⟨(opBuildSlice (some 31) 36 3 [(0, (.const (Value.int IntKind.i64 2))), (1, (.const (Value.int IntKind.i64 3))), (2, (.const (Value.int IntKind.i64 5)))] 3 1 8 (.int .i64 0) el36 (by kernel_rfl) (by decide) 36 "modes.go:37" #[]).op, none⟩,
                ⟨opCall (f21.orc 12) (some 32) [(.tmp 31)] #[36] 33 "modes.go:37" #[{ on := 1, ground := Ground.data }], none⟩,
                ⟨(opBin (some 33) .or 33 (.tmp 30) (.tmp 32) 33 33 "modes.go:37" #[{ on := 0, ground := Ground.data }, { on := 2, ground := Ground.data }]).op, none⟩,
                ⟨(opAssign (some 2) (.tmp 33) 33 "modes.go:37" #[{ on := 3, ground := Ground.data }, { on := 2, ground := Ground.chain }, { on := 0, ground := Ground.phase }, { on := 1, ground := Ground.phase }, { on := 2, ground := Ground.phase }, { on := 3, ground := Ground.phase }]).op, none⟩
              ] (by kernel_rfl)))
              (.live [2] .ret))
              (.seq (.live [3, 6, 34] (.region 13 [
                ⟨(opBin (some 35) .eql 3 (.tmp 6) (.const (Value.int IntKind.i64 6)) 3 4 "modes.go:38" #[]).op, none⟩,
                ⟨(opAssign (some 34) (.tmp 35) 4 "modes.go:38" #[{ on := 0, ground := Ground.data }]).op, none⟩
              ] (by kernel_rfl)))
              (.cond (.tmp 34)
                (.seq (.live [2] (.region 14 [
                  ⟨(opMove (some 36) (.tmp 3) 33 "modes.go:39" #[]).op, none⟩,
                  ⟨(opBuildSlice (some 37) 36 5 [(0, (.const (Value.int IntKind.i64 1))), (1, (.const (Value.int IntKind.i64 2))), (2, (.const (Value.int IntKind.i64 3))), (3, (.const (Value.int IntKind.i64 4))), (4, (.const (Value.int IntKind.i64 5)))] 3 1 8 (.int .i64 0) el36 (by kernel_rfl) (by decide) 36 "modes.go:39" #[]).op, none⟩,
                  ⟨opCall (f21.orc 12) (some 38) [(.tmp 37)] #[36] 33 "modes.go:39" #[{ on := 1, ground := Ground.data }], none⟩,
                  ⟨(opBin (some 39) .or 33 (.tmp 36) (.tmp 38) 33 33 "modes.go:39" #[{ on := 0, ground := Ground.data }, { on := 2, ground := Ground.data }]).op, none⟩,
                  ⟨(opAssign (some 2) (.tmp 39) 33 "modes.go:39" #[{ on := 3, ground := Ground.data }, { on := 2, ground := Ground.chain }, { on := 0, ground := Ground.phase }, { on := 1, ground := Ground.phase }, { on := 2, ground := Ground.phase }, { on := 3, ground := Ground.phase }]).op, none⟩
                ] (by kernel_rfl)))
                (.live [2] .ret))
                (.seq (.live [3, 6, 40] (.region 15 [
                  ⟨(opBin (some 41) .eql 3 (.tmp 6) (.const (Value.int IntKind.i64 7)) 3 4 "modes.go:40" #[]).op, none⟩,
                  ⟨(opAssign (some 40) (.tmp 41) 4 "modes.go:40" #[{ on := 0, ground := Ground.data }]).op, none⟩
                ] (by kernel_rfl)))
                (.cond (.tmp 40)
                  (.seq (.live [2] (.region 16 [
                    ⟨(opBuildSlice (some 42) 36 1 [(0, (.const (Value.int IntKind.i64 8)))] 3 1 8 (.int .i64 0) el36 (by kernel_rfl) (by decide) 36 "modes.go:41" #[]).op, none⟩,
                    ⟨opCall (f21.orc 12) (some 43) [(.tmp 42)] #[36] 33 "modes.go:41" #[{ on := 0, ground := Ground.data }], none⟩,
                    ⟨(opAssign (some 2) (.tmp 43) 33 "modes.go:41" #[{ on := 1, ground := Ground.data }, { on := 1, ground := Ground.chain }, { on := 0, ground := Ground.phase }, { on := 1, ground := Ground.phase }]).op, none⟩
                  ] (by kernel_rfl)))
                  (.live [2] .ret))
                  (.seq (.live [3, 44] (.region 17 [
                    ⟨(opBin (some 45) .eql 3 (.tmp 6) (.const (Value.int IntKind.i64 8)) 3 4 "modes.go:42" #[]).op, none⟩,
                    ⟨(opAssign (some 44) (.tmp 45) 4 "modes.go:42" #[{ on := 0, ground := Ground.data }]).op, none⟩
                  ] (by kernel_rfl)))
                  (.cond (.tmp 44)
                    (.seq (.live [2] (.region 18 [
                      ⟨(opMove (some 46) (.tmp 3) 33 "modes.go:43" #[]).op, none⟩,
                      ⟨(opBuildSlice (some 47) 36 6 [(0, (.const (Value.int IntKind.i64 1))), (1, (.const (Value.int IntKind.i64 2))), (2, (.const (Value.int IntKind.i64 3))), (3, (.const (Value.int IntKind.i64 4))), (4, (.const (Value.int IntKind.i64 5))), (5, (.const (Value.int IntKind.i64 7)))] 3 1 8 (.int .i64 0) el36 (by kernel_rfl) (by decide) 36 "modes.go:43" #[]).op, none⟩,
                      ⟨opCall (f21.orc 12) (some 48) [(.tmp 47)] #[36] 33 "modes.go:43" #[{ on := 1, ground := Ground.data }], none⟩,
                      ⟨(opBin (some 49) .or 33 (.tmp 46) (.tmp 48) 33 33 "modes.go:43" #[{ on := 0, ground := Ground.data }, { on := 2, ground := Ground.data }]).op, none⟩,
                      ⟨(opAssign (some 2) (.tmp 49) 33 "modes.go:43" #[{ on := 3, ground := Ground.data }, { on := 2, ground := Ground.chain }, { on := 0, ground := Ground.phase }, { on := 1, ground := Ground.phase }, { on := 2, ground := Ground.phase }, { on := 3, ground := Ground.phase }]).op, none⟩
                    ] (by kernel_rfl)))
                    (.live [2] .ret))
                    .skip))))))))))))))))))
  (.seq (.live [2] (.region 19 [
    ⟨(opAssign (some 2) (.const (Value.int IntKind.u16 0)) 33 "modes.go:45" #[]).op, none⟩
  ] (by kernel_rfl)))
  (.live [2] .ret)))))

noncomputable def f20 : Fun Try.prog where
  id := 20
  fn := Try.f20
  hf := Try.func20
  hname := by kernel_rfl
  body := f20_b
  hbody := by kernel_rfl
  res := [rTmp 2]
  hres := by kernel_rfl
  n := 50
  hn := by kernel_rfl

/-! ### 24: interlock/modes.size (3); results 2; slots: 0 m, 1 m -/
noncomputable def f24_b : Sim Try.prog :=
  (.seq (.live [0] (.region 0 [
    ⟨(opAssign (some 2) (.const (Value.int IntKind.i64 0)) 3 "modes.go:69" #[]).op, none⟩
  ] (by kernel_rfl)))
  (.seq (.live [2] (.region 1 [
    ⟨(opMove (some 3) (.tmp 0) 3 "modes.go:69" #[]).op, none⟩,
    ⟨opCall (f20.orc 12) (some 4) [(.tmp 3)] #[3] 33 "modes.go:69" #[{ on := 0, ground := Ground.data }], none⟩,
    ⟨opCall (f25.orc 0) (some 5) [(.tmp 4)] #[32] 3 "modes.go:69" #[{ on := 1, ground := Ground.data }, { on := 1, ground := Ground.chain }], none⟩,
    ⟨(opAssign (some 2) (.tmp 5) 3 "modes.go:69" #[{ on := 2, ground := Ground.data }, { on := 2, ground := Ground.chain }, { on := 0, ground := Ground.phase }, { on := 1, ground := Ground.phase }, { on := 2, ground := Ground.phase }]).op, none⟩
  ] (by kernel_rfl)))
  (.live [2] .ret)))

noncomputable def f24 : Fun Try.prog where
  id := 24
  fn := Try.f24
  hf := Try.func24
  hname := by kernel_rfl
  body := f24_b
  hbody := by kernel_rfl
  res := [rTmp 2]
  hres := by kernel_rfl
  n := 6
  hn := by kernel_rfl

/-! ### 11: interlock/interlockref10.Conflict (3, 3); results 4; slots: 0 a, 1 b, 2 a, 3 b, 5 l, 6 i -/
/-- A loop's round; at its head live: 1 b, 5 l, 6 i -/
noncomputable def f11_l0 : Sim Try.prog :=
  (.seq (.seq (.live [1, 5, 6, 12] (.region 3 [
    ⟨(opMove (some 9) (.tmp 6) 3 "ref.go:32" #[]).op, none⟩,
    ⟨(opMove (some 10) (.tmp 5) 36 "ref.go:32" #[]).op, none⟩,
    ⟨(opLen (some 11) (.tmp 10) 36 (.slice 3) Try.underlying36 3 "ref.go:32" #[{ on := 1, ground := Ground.data }]).op, none⟩,
    ⟨(opBin (some 12) .lss 3 (.tmp 9) (.tmp 11) 3 4 "ref.go:32" #[{ on := 0, ground := Ground.data }, { on := 2, ground := Ground.data }]).op, none⟩
  ] (by kernel_rfl)))
  (.cond (.tmp 12)
    .skip
    (.live [] (.exit 0))))
  (.seq (.block 1 (.seq (.live [1, 5, 6, 20] (.region 5 [
      ⟨(opMove (some 15) (.tmp 5) 36 "ref.go:33" #[]).op, none⟩,
      ⟨(opMove (some 16) (.tmp 6) 3 "ref.go:33" #[]).op, none⟩,
      ⟨(opIndexAddr (some 17) 36 (.tmp 15) (.tmp 16) 3 1 Try.underlying36 sz3 0 "ref.go:33" #[{ on := 0, ground := Ground.data }, { on := 1, ground := Ground.data }]).op, none⟩,
      ⟨(opLoad (some 18) 3 (.tmp 17) (.int .i64) Try.underlying3 1 sz3 3 "ref.go:33" #[{ on := 2, ground := Ground.data }]).op, none⟩,
      ⟨(opMove (some 19) (.tmp 1) 3 "ref.go:33" #[]).op, none⟩,
      ⟨(opBin (some 20) .eql 3 (.tmp 18) (.tmp 19) 3 4 "ref.go:33" #[{ on := 3, ground := Ground.data }, { on := 4, ground := Ground.data }]).op, none⟩
    ] (by kernel_rfl)))
    (.cond (.tmp 20)
      (.seq (.live [4] (.region 6 [
        ⟨(opAssign (some 4) (.const (Value.bool true)) 4 "ref.go:34" #[]).op, none⟩
      ] (by kernel_rfl)))
      (.live [4] .ret))
      .skip)))
  (.live [1, 5, 6] (.region 4 [
    ⟨(opMove (some 13) (.tmp 6) 3 "ref.go:32" #[]).op, none⟩,
    ⟨(opBin (some 14) .add 3 (.tmp 13) (.const (Value.int IntKind.i64 1)) 3 3 "ref.go:32" #[{ on := 0, ground := Ground.data }]).op, none⟩,
    ⟨(opAssign (some 6) (.tmp 14) 3 "ref.go:32" #[{ on := 1, ground := Ground.data }, { on := 0, ground := Ground.phase }, { on := 1, ground := Ground.phase }]).op, none⟩
  ] (by kernel_rfl)))))

/-- What follows a loop. -/
noncomputable def f11_r0 : Sim Try.prog :=
  (.seq (.live [4] (.region 7 [
    ⟨(opAssign (some 4) (.const (Value.bool false)) 4 "ref.go:37" #[]).op, none⟩
  ] (by kernel_rfl)))
  (.live [4] .ret))

noncomputable def f11_b : Sim Try.prog :=
  (.seq (.live [0, 1] (.region 0 [
    ⟨(opAssign (some 4) (.const (Value.bool false)) 4 "ref.go:30" #[]).op, none⟩
  ] (by kernel_rfl)))
  (.seq (.live [1, 5] (.region 1 [
    ⟨(opMove (some 7) (.tmp 0) 3 "ref.go:31" #[]).op, none⟩,
    ⟨opCall (f22.orc 0) (some 8) [(.tmp 7)] #[3] 36 "ref.go:31" #[{ on := 0, ground := Ground.data }], none⟩,
    ⟨(opAssign (some 5) (.tmp 8) 36 "ref.go:31" #[{ on := 1, ground := Ground.data }, { on := 1, ground := Ground.chain }, { on := 0, ground := Ground.phase }, { on := 1, ground := Ground.phase }]).op, none⟩
  ] (by kernel_rfl)))
  (.seq (.seq (.live [1, 5, 6] (.region 2 [
    ⟨(opAssign (some 6) (.const (Value.int IntKind.i64 0)) 3 "ref.go:32" #[]).op, none⟩
  ] (by kernel_rfl)))
  (.block 0 (.loop [1, 5, 6] f11_l0)))
  f11_r0)))

noncomputable def f11 : Fun Try.prog where
  id := 11
  fn := Try.f11
  hf := Try.func11
  hname := by kernel_rfl
  body := f11_b
  hbody := by kernel_rfl
  res := [rTmp 4]
  hres := by kernel_rfl
  n := 21
  hn := by kernel_rfl

end Go.Proofs.Ytfifiepbfnkelaa.V
