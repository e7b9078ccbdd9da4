/- The functions' pieces, as told by gen.py. -/
import Derived.Test.YtjdpfblmhahfkaaBO
set_option linter.unusedVariables false
set_option maxRecDepth 20000
namespace Go.Proofs.Ytjdpfblmhahfkaa.V
open Go Go.V Go.RowKit

theorem sz9 : (Try.prog.info? 9).map (·.size) = some 1 := by kernel_rfl

/-! ### 20: interlock/bits.Texts (33); results 2; slots: 0 list, 1 list, 3 out, 4 _, 5 s -/
/-- A loop's round; at its head live: 3 out, 9 , 10 , 11  -/
noncomputable def f20_l0 : Sim Try.prog :=
  (.seq (.live [3, 9, 10, 11, 12] (.region 3 [
    ⟨(opBin (some 12) .lss 3 (.tmp 11) (.tmp 10) 3 0 "bits.go:34" #[]).op, none⟩
  ] (by kernel_rfl)))
  (.seq (.cond (.tmp 12)
    .skip
    (.live [3] (.exit 0)))
  (.seq (.block 1 (.seq (.live [3, 5, 9, 10, 11] (.region 4 [
      ⟨(opIndexAddr (some 13) 33 (.tmp 9) (.tmp 11) 9 1 Try.underlying33 sz9 0 "bits.go:34" #[]).op, none⟩,
      ⟨(opLoad (some 14) 9 (.tmp 13) .string Try.underlying9 1 sz9 9 "bits.go:34" #[{ on := 0, ground := Ground.data }]).op, none⟩,
      ⟨(opAssign (some 5) (.tmp 14) 9 "bits.go:34" #[{ on := 1, ground := Ground.data }, { on := 0, ground := Ground.phase }, { on := 1, ground := Ground.phase }]).op, none⟩
    ] (by kernel_rfl)))
    (.live [3, 9, 10, 11] (.region 5 [
      ⟨(opMove (some 15) (.tmp 3) 22 "bits.go:35" #[]).op, none⟩,
      ⟨(opMove (some 16) (.tmp 5) 9 "bits.go:35" #[]).op, none⟩,
      ⟨opCall (q16).orc (some 17) [(.tmp 16)] #[9] 22 "bits.go:35" #[{ on := 1, ground := Ground.data }], none⟩,
      ⟨(opAppend (some 18) (.tmp 15) (.tmp 17) 22 22 5 1 1 (.int .u8 0) el22 (.slice 5) Try.underlying22 rfl 22 "bits.go:35" #[{ on := 0, ground := Ground.data }, { on := 2, ground := Ground.data }, { on := 2, ground := Ground.chain }]).op, none⟩,
      ⟨(opAssign (some 3) (.tmp 18) 22 "bits.go:35" #[{ on := 3, ground := Ground.data }, { on := 3, ground := Ground.chain }, { on := 0, ground := Ground.phase }, { on := 1, ground := Ground.phase }, { on := 2, ground := Ground.phase }, { on := 3, ground := Ground.phase }]).op, none⟩
    ] (by kernel_rfl)))))
  (.live [3, 9, 10, 11] (.region 6 [
    ⟨(opBin (some 19) .add 3 (.tmp 11) (.const (Value.int IntKind.i64 1)) 3 3 "bits.go:34" #[]).op, none⟩,
    ⟨(opMove (some 11) (.tmp 19) 3 "bits.go:34" #[{ on := 0, ground := Ground.data }]).op, none⟩
  ] (by kernel_rfl))))))

/-- What follows a loop. -/
noncomputable def f20_r0 : Sim Try.prog :=
  (.seq (.live [2] (.region 7 [
    ⟨(opMove (some 20) (.tmp 3) 22 "bits.go:37" #[]).op, none⟩,
    ⟨(opAssign (some 2) (.tmp 20) 22 "bits.go:37" #[{ on := 0, ground := Ground.data }, { on := 0, ground := Ground.phase }]).op, none⟩
  ] (by kernel_rfl)))
  (.live [2] .ret))

noncomputable def f20_b : Sim Try.prog :=
  (.seq (.live [0] (.region 0 [
    ⟨(opAssign (some 2) (.const (Value.slice none 0 0)) 22 "bits.go:32" #[]).op, none⟩
  ] (by kernel_rfl)))
  (.seq (.live [0, 3] (.region 1 [
    ⟨(opMove (some 6) (.tmp 0) 33 "bits.go:33" #[]).op, none⟩,
    ⟨(opLen (some 7) (.tmp 6) 33 (.slice 9) Try.underlying33 3 "bits.go:33" #[{ on := 0, ground := Ground.data }]).op, none⟩,
    ⟨opCall (q15).orc (some 8) [(.tmp 7)] #[3] 22 "bits.go:33" #[{ on := 1, ground := Ground.data }], none⟩,
    ⟨(opAssign (some 3) (.tmp 8) 22 "bits.go:33" #[{ on := 2, ground := Ground.data }, { on := 2, ground := Ground.chain }, { on := 0, ground := Ground.phase }, { on := 1, ground := Ground.phase }, { on := 2, ground := Ground.phase }]).op, none⟩
  ] (by kernel_rfl)))
  (.seq (.seq (.live [3, 9, 10, 11] (.region 2 [
    ⟨(opMove (some 9) (.tmp 0) 33 "bits.go:34" #[]).op, none⟩,
    ⟨(opLen (some 10) (.tmp 9) 33 (.slice 9) Try.underlying33 3 "bits.go:34" #[{ on := 0, ground := Ground.data }]).op, none⟩,
    ⟨(opMove (some 11) (.const (Value.int IntKind.i64 0)) 3 "bits.go:34" #[]).op, none⟩
  ] (by kernel_rfl)))
  (.block 0 (.loop [3, 9, 10, 11] f20_l0)))
  f20_r0)))

noncomputable def f20 : Fun Try.prog where
  id := 20
  fn := Try.f20
  hf := Try.func20
  hname := by kernel_rfl
  body := f20_b
  hbody := by kernel_rfl
  res := [rTmp 2]
  hres := by kernel_rfl
  n := 21
  hn := by kernel_rfl

/-! ### 21: interlock/interlockref01.Texts (33); results 2; slots: 0 list, 1 list, 3 out, 4 i -/
/-- A loop's round; at its head live: 0 list, 3 out, 4 i -/
noncomputable def f21_l0 : Sim Try.prog :=
  (.seq (.seq (.live [0, 3, 4, 11] (.region 3 [
    ⟨(opMove (some 8) (.tmp 4) 3 "ref.go:26" #[]).op, none⟩,
    ⟨(opMove (some 9) (.tmp 0) 33 "ref.go:26" #[]).op, none⟩,
    ⟨(opLen (some 10) (.tmp 9) 33 (.slice 9) Try.underlying33 3 "ref.go:26" #[{ on := 1, ground := Ground.data }]).op, none⟩,
    ⟨(opBin (some 11) .lss 3 (.tmp 8) (.tmp 10) 3 4 "ref.go:26" #[{ on := 0, ground := Ground.data }, { on := 2, ground := Ground.data }]).op, none⟩
  ] (by kernel_rfl)))
  (.cond (.tmp 11)
    .skip
    (.live [3] (.exit 0))))
  (.seq (.block 1 (.live [0, 3, 4] (.region 5 [
      ⟨(opMove (some 14) (.tmp 3) 22 "ref.go:27" #[]).op, none⟩,
      ⟨(opMove (some 15) (.tmp 0) 33 "ref.go:27" #[]).op, none⟩,
      ⟨(opMove (some 16) (.tmp 4) 3 "ref.go:27" #[]).op, none⟩,
      ⟨(opIndexAddr (some 17) 33 (.tmp 15) (.tmp 16) 9 1 Try.underlying33 sz9 0 "ref.go:27" #[{ on := 1, ground := Ground.data }, { on := 2, ground := Ground.data }]).op, none⟩,
      ⟨(opLoad (some 18) 9 (.tmp 17) .string Try.underlying9 1 sz9 9 "ref.go:27" #[{ on := 3, ground := Ground.data }]).op, none⟩,
      ⟨opCall (q19).orc (some 19) [(.tmp 18)] #[9] 22 "ref.go:27" #[{ on := 4, ground := Ground.data }], none⟩,
      ⟨(opAppend (some 20) (.tmp 14) (.tmp 19) 22 22 5 1 1 (.int .u8 0) el22 (.slice 5) Try.underlying22 rfl 22 "ref.go:27" #[{ on := 0, ground := Ground.data }, { on := 5, ground := Ground.data }, { on := 5, ground := Ground.chain }]).op, none⟩,
      ⟨(opAssign (some 3) (.tmp 20) 22 "ref.go:27" #[{ on := 6, ground := Ground.data }, { on := 6, ground := Ground.chain }, { on := 0, ground := Ground.phase }, { on := 1, ground := Ground.phase }, { on := 2, ground := Ground.phase }, { on := 3, ground := Ground.phase }, { on := 4, ground := Ground.phase }, { on := 5, ground := Ground.phase }, { on := 6, ground := Ground.phase }]).op, none⟩
    ] (by kernel_rfl))))
  (.live [0, 3, 4] (.region 4 [
    ⟨(opMove (some 12) (.tmp 4) 3 "ref.go:26" #[]).op, none⟩,
    ⟨(opBin (some 13) .add 3 (.tmp 12) (.const (Value.int IntKind.i64 1)) 3 3 "ref.go:26" #[{ on := 0, ground := Ground.data }]).op, none⟩,
    ⟨(opAssign (some 4) (.tmp 13) 3 "ref.go:26" #[{ on := 1, ground := Ground.data }, { on := 0, ground := Ground.phase }, { on := 1, ground := Ground.phase }]).op, none⟩
  ] (by kernel_rfl)))))

/-- What follows a loop. -/
noncomputable def f21_r0 : Sim Try.prog :=
  (.seq (.live [2] (.region 6 [
    ⟨(opMove (some 21) (.tmp 3) 22 "ref.go:29" #[]).op, none⟩,
    ⟨(opAssign (some 2) (.tmp 21) 22 "ref.go:29" #[{ on := 0, ground := Ground.data }, { on := 0, ground := Ground.phase }]).op, none⟩
  ] (by kernel_rfl)))
  (.live [2] .ret))

noncomputable def f21_b : Sim Try.prog :=
  (.seq (.live [0] (.region 0 [
    ⟨(opAssign (some 2) (.const (Value.slice none 0 0)) 22 "ref.go:24" #[]).op, none⟩
  ] (by kernel_rfl)))
  (.seq (.live [0, 3] (.region 1 [
    ⟨(opMove (some 5) (.tmp 0) 33 "ref.go:25" #[]).op, none⟩,
    ⟨(opLen (some 6) (.tmp 5) 33 (.slice 9) Try.underlying33 3 "ref.go:25" #[{ on := 0, ground := Ground.data }]).op, none⟩,
    ⟨opCall (q18).orc (some 7) [(.tmp 6)] #[3] 22 "ref.go:25" #[{ on := 1, ground := Ground.data }], none⟩,
    ⟨(opAssign (some 3) (.tmp 7) 22 "ref.go:25" #[{ on := 2, ground := Ground.data }, { on := 2, ground := Ground.chain }, { on := 0, ground := Ground.phase }, { on := 1, ground := Ground.phase }, { on := 2, ground := Ground.phase }]).op, none⟩
  ] (by kernel_rfl)))
  (.seq (.seq (.live [0, 3, 4] (.region 2 [
    ⟨(opAssign (some 4) (.const (Value.int IntKind.i64 0)) 3 "ref.go:26" #[]).op, none⟩
  ] (by kernel_rfl)))
  (.block 0 (.loop [0, 3, 4] f21_l0)))
  f21_r0)))

noncomputable def f21 : Fun Try.prog where
  id := 21
  fn := Try.f21
  hf := Try.func21
  hname := by kernel_rfl
  body := f21_b
  hbody := by kernel_rfl
  res := [rTmp 2]
  hres := by kernel_rfl
  n := 22
  hn := by kernel_rfl

/-! ### 9: interlock/interlocklaw01.alive (); results 0; slots: 1 r -/
noncomputable def f9_b : Sim Try.prog :=
  (.seq (.live [] (.region 0 [
    ⟨(opAssign (some 0) (.const (Value.bool false)) 4 "law.go:11" #[]).op, none⟩
  ] (by kernel_rfl)))
  (.seq (.live [1] (.region 1 [
    ⟨(opBuildSlice (some 2) 22 5 [(0, (.const (Value.int IntKind.u8 128))), (1, (.const (Value.int IntKind.u8 1))), (2, (.const (Value.int IntKind.u8 2))), (3, (.const (Value.int IntKind.u8 97))), (4, (.const (Value.int IntKind.u8 98)))] 5 1 1 (.int .u8 0) el22 (by kernel_rfl) (by decide) 22 "law.go:12" #[]).op, none⟩,
    ⟨opCall (f10.orc 0) (some 3) [(.tmp 2)] #[22] 24 "law.go:12" #[{ on := 0, ground := Ground.data }], none⟩,
    ⟨(opAssign (some 1) (.tmp 3) 24 "law.go:12" #[{ on := 1, ground := Ground.data }, { on := 1, ground := Ground.chain }, { on := 0, ground := Ground.phase }, { on := 1, ground := Ground.phase }]).op, none⟩
  ] (by kernel_rfl)))
  (.seq (.live [0] (.region 2 [
    ⟨(opMove (some 4) (.tmp 1) 24 "law.go:13" #[]).op, none⟩,
    ⟨(opNe (some 5) 24 (.pointer 48) Try.underlying24 (.tmp 4) (.const (Value.pointer none)) (.inl rfl) 24 4 "law.go:13" #[{ on := 0, ground := Ground.data }]).op, none⟩,
    ⟨(opMove (some 6) (.tmp 5) 4 "law.go:13" #[{ on := 1, ground := Ground.data }]).op, none⟩,
    ⟨opCall (q15).orc (some 7) [(.const (Value.int IntKind.i64 (-1)))] #[3] 22 "law.go:13" #[{ on := 2, ground := Ground.chain }, { on := 2, ground := Ground.guard }], (some (2, 6, true))⟩,
    ⟨(opBuildSlice (some 8) 22 1 [(0, (.const (Value.int IntKind.u8 1)))] 5 1 1 (.int .u8 0) el22 (by kernel_rfl) (by decide) 22 "law.go:13" #[{ on := 2, ground := Ground.guard }]).op, (some (2, 6, true))⟩,
    ⟨(opCallP r14 (some 9) [(.tmp 7), (.tmp 8)] #[22, 22] 4 "law.go:13" #[{ on := 3, ground := Ground.data }, { on := 4, ground := Ground.data }, { on := 3, ground := Ground.chain }, { on := 2, ground := Ground.guard }]).op, (some (2, 6, true))⟩,
    ⟨(opPick (some 10) (.tmp 6) (.tmp 9) (.const (Value.bool false)) 4 "law.go:13" #[{ on := 2, ground := Ground.data }, { on := 5, ground := Ground.data }]).op, none⟩,
    ⟨(opMove (some 11) (.tmp 10) 4 "law.go:13" #[{ on := 6, ground := Ground.data }, { on := 5, ground := Ground.chain }]).op, none⟩,
    ⟨opCall (q15).orc (some 12) [(.const (Value.int IntKind.i64 64))] #[3] 22 "law.go:13" #[{ on := 7, ground := Ground.chain }, { on := 7, ground := Ground.guard }], (some (7, 11, true))⟩,
    ⟨(opBuildSlice (some 13) 22 2 [(0, (.const (Value.int IntKind.u8 128))), (1, (.const (Value.int IntKind.u8 1)))] 5 1 1 (.int .u8 0) el22 (by kernel_rfl) (by decide) 22 "law.go:13" #[{ on := 7, ground := Ground.guard }]).op, (some (7, 11, true))⟩,
    ⟨(opCallP r14 (some 14) [(.tmp 12), (.tmp 13)] #[22, 22] 4 "law.go:13" #[{ on := 8, ground := Ground.data }, { on := 9, ground := Ground.data }, { on := 8, ground := Ground.chain }, { on := 7, ground := Ground.guard }]).op, (some (7, 11, true))⟩,
    ⟨(opPick (some 15) (.tmp 11) (.tmp 14) (.const (Value.bool false)) 4 "law.go:13" #[{ on := 7, ground := Ground.data }, { on := 10, ground := Ground.data }]).op, none⟩,
    ⟨(opMove (some 16) (.tmp 15) 4 "law.go:13" #[{ on := 11, ground := Ground.data }, { on := 10, ground := Ground.chain }]).op, none⟩,
    ⟨(opMove (some 17) (.tmp 1) 24 "law.go:13" #[{ on := 12, ground := Ground.guard }]).op, (some (12, 16, true))⟩,
    ⟨opCall (q11).orc (some 18) [(.tmp 17)] #[24] 3 "law.go:13" #[{ on := 13, ground := Ground.data }, { on := 12, ground := Ground.chain }, { on := 12, ground := Ground.guard }], (some (12, 16, true))⟩,
    ⟨(opBin (some 19) .eql 3 (.tmp 18) (.const (Value.int IntKind.i64 64)) 3 4 "law.go:13" #[{ on := 14, ground := Ground.data }, { on := 12, ground := Ground.guard }]).op, (some (12, 16, true))⟩,
    ⟨(opPick (some 20) (.tmp 16) (.tmp 19) (.const (Value.bool false)) 4 "law.go:13" #[{ on := 12, ground := Ground.data }, { on := 15, ground := Ground.data }]).op, none⟩,
    ⟨(opMove (some 21) (.tmp 20) 4 "law.go:13" #[{ on := 16, ground := Ground.data }, { on := 14, ground := Ground.chain }]).op, none⟩,
    ⟨(opMove (some 22) (.tmp 1) 24 "law.go:13" #[{ on := 17, ground := Ground.guard }]).op, (some (17, 21, true))⟩,
    ⟨opCall (q17).orc (some 23) [(.tmp 22)] #[24] 9 "law.go:13" #[{ on := 18, ground := Ground.data }, { on := 17, ground := Ground.chain }, { on := 17, ground := Ground.guard }], (some (17, 21, true))⟩,
    ⟨(opBinS (some 24) .eql 9 (.tmp 23) (.const (Value.string { data := #[97] })) 9 4 "law.go:13" #[{ on := 19, ground := Ground.data }, { on := 17, ground := Ground.guard }]).op, (some (17, 21, true))⟩,
    ⟨(opPick (some 25) (.tmp 21) (.tmp 24) (.const (Value.bool false)) 4 "law.go:13" #[{ on := 17, ground := Ground.data }, { on := 20, ground := Ground.data }]).op, none⟩,
    ⟨(opMove (some 26) (.tmp 25) 4 "law.go:13" #[{ on := 21, ground := Ground.data }, { on := 19, ground := Ground.chain }]).op, none⟩,
    ⟨(opMove (some 27) (.tmp 1) 24 "law.go:13" #[{ on := 22, ground := Ground.guard }]).op, (some (22, 26, true))⟩,
    ⟨opCall (f12.orc 0) (some 28) [(.tmp 27)] #[24] 4 "law.go:13" #[{ on := 23, ground := Ground.data }, { on := 22, ground := Ground.chain }, { on := 22, ground := Ground.guard }], (some (22, 26, true))⟩,
    ⟨(opNot (some 29) 4 (.tmp 28) 4 "law.go:13" #[{ on := 24, ground := Ground.data }, { on := 22, ground := Ground.guard }]).op, (some (22, 26, true))⟩,
    ⟨(opPick (some 30) (.tmp 26) (.tmp 29) (.const (Value.bool false)) 4 "law.go:13" #[{ on := 22, ground := Ground.data }, { on := 25, ground := Ground.data }]).op, none⟩,
    ⟨(opAssign (some 0) (.tmp 30) 4 "law.go:13" #[{ on := 26, ground := Ground.data }, { on := 24, ground := Ground.chain }, { on := 0, ground := Ground.phase }, { on := 1, ground := Ground.phase }, { on := 2, ground := Ground.phase }, { on := 3, ground := Ground.phase }, { on := 4, ground := Ground.phase }, { on := 5, ground := Ground.phase }, { on := 6, ground := Ground.phase }, { on := 7, ground := Ground.phase }, { on := 8, ground := Ground.phase }, { on := 9, ground := Ground.phase }, { on := 10, ground := Ground.phase }, { on := 11, ground := Ground.phase }, { on := 12, ground := Ground.phase }, { on := 13, ground := Ground.phase }, { on := 14, ground := Ground.phase }, { on := 15, ground := Ground.phase }, { on := 16, ground := Ground.phase }, { on := 17, ground := Ground.phase }, { on := 18, ground := Ground.phase }, { on := 19, ground := Ground.phase }, { on := 20, ground := Ground.phase }, { on := 21, ground := Ground.phase }, { on := 22, ground := Ground.phase }, { on := 23, ground := Ground.phase }, { on := 24, ground := Ground.phase }, { on := 25, ground := Ground.phase }, { on := 26, ground := Ground.phase }]).op, none⟩
  ] (by kernel_rfl)))
  (.live [0] .ret))))

noncomputable def f9 : Fun Try.prog where
  id := 9
  fn := Try.f9
  hf := Try.func9
  hname := by kernel_rfl
  body := f9_b
  hbody := by kernel_rfl
  res := [rTmp 0]
  hres := by kernel_rfl
  n := 31
  hn := by kernel_rfl

end Go.Proofs.Ytjdpfblmhahfkaa.V
