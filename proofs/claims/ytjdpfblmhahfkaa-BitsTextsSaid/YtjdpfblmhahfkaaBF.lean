/- The functions' pieces, as told by gen.py. -/
import Derived.Test.YtjdpfblmhahfkaaBE
set_option linter.unusedVariables false
set_option maxRecDepth 20000
namespace Go.Proofs.Ytjdpfblmhahfkaa.V
open Go Go.V Go.RowKit


/-! ### 3: interlock/interlocklaw01.BitsOne (22); results 2; slots: 0 b, 1 b, 3 r, 4 n -/
noncomputable def f3_b : Sim Try.prog :=
  (.seq (.live [0] (.region 0 [
    ⟨(opAssign (some 2) (.const (Value.bool false)) 4 "law.go:109" #[]).op, none⟩
  ] (by kernel_rfl)))
  (.seq (.seq (.live [0, 6] (.region 1 [
    ⟨(opCallP p9 (some 5) [] #[] 4 "law.go:110" #[]).op, none⟩,
    ⟨(opNot (some 6) 4 (.tmp 5) 4 "law.go:110" #[{ on := 0, ground := Ground.data }]).op, none⟩
  ] (by kernel_rfl)))
  (.cond (.tmp 6)
    (.seq (.live [2] (.region 2 [
      ⟨(opAssign (some 2) (.const (Value.bool false)) 4 "law.go:111" #[]).op, none⟩
    ] (by kernel_rfl)))
    (.live [2] .ret))
    .skip))
  (.seq (.seq (.live [0, 9] (.region 3 [
    ⟨(opMove (some 7) (.tmp 0) 22 "law.go:113" #[]).op, none⟩,
    ⟨(opLen (some 8) (.tmp 7) 22 (.slice 5) Try.underlying22 3 "law.go:113" #[{ on := 0, ground := Ground.data }]).op, none⟩,
    ⟨(opBin (some 9) .gtr 3 (.tmp 8) (.const (Value.int IntKind.i64 500)) 3 4 "law.go:113" #[{ on := 1, ground := Ground.data }]).op, none⟩
  ] (by kernel_rfl)))
  (.cond (.tmp 9)
    (.seq (.live [2] (.region 4 [
      ⟨(opAssign (some 2) (.const (Value.bool true)) 4 "law.go:114" #[]).op, none⟩
    ] (by kernel_rfl)))
    (.live [2] .ret))
    .skip))
  (.seq (.live [0, 3] (.region 5 [
    ⟨(opMove (some 10) (.tmp 0) 22 "law.go:116" #[]).op, none⟩,
    ⟨opCall (f10.orc 0) (some 11) [(.tmp 10)] #[22] 24 "law.go:116" #[{ on := 0, ground := Ground.data }], none⟩,
    ⟨(opAssign (some 3) (.tmp 11) 24 "law.go:116" #[{ on := 1, ground := Ground.data }, { on := 1, ground := Ground.chain }, { on := 0, ground := Ground.phase }, { on := 1, ground := Ground.phase }]).op, none⟩
  ] (by kernel_rfl)))
  (.seq (.seq (.live [0, 3, 13] (.region 6 [
    ⟨(opMove (some 12) (.tmp 3) 24 "law.go:117" #[]).op, none⟩,
    ⟨(opEq (some 13) 24 (.pointer 48) Try.underlying24 (.tmp 12) (.const (Value.pointer none)) (.inl rfl) 24 4 "law.go:117" #[{ on := 0, ground := Ground.data }]).op, none⟩
  ] (by kernel_rfl)))
  (.cond (.tmp 13)
    (.seq (.live [2] (.region 7 [
      ⟨(opAssign (some 2) (.const (Value.bool false)) 4 "law.go:118" #[]).op, none⟩
    ] (by kernel_rfl)))
    (.live [2] .ret))
    .skip))
  (.seq (.live [0, 3, 4] (.region 8 [
    ⟨(opMove (some 14) (.tmp 3) 24 "law.go:120" #[]).op, none⟩,
    ⟨opCall (q11).orc (some 15) [(.tmp 14)] #[24] 3 "law.go:120" #[{ on := 0, ground := Ground.data }], none⟩,
    ⟨(opAssign (some 4) (.tmp 15) 3 "law.go:120" #[{ on := 1, ground := Ground.data }, { on := 1, ground := Ground.chain }, { on := 0, ground := Ground.phase }, { on := 1, ground := Ground.phase }]).op, none⟩
  ] (by kernel_rfl)))
  (.seq (.seq (.live [0, 3, 4, 17] (.region 9 [
    ⟨(opMove (some 16) (.tmp 3) 24 "law.go:121" #[]).op, none⟩,
    ⟨opCall (f12.orc 0) (some 17) [(.tmp 16)] #[24] 4 "law.go:121" #[{ on := 0, ground := Ground.data }], none⟩
  ] (by kernel_rfl)))
  (.cond (.tmp 17)
    (.seq (.live [2] (.region 10 [
      ⟨(opMove (some 18) (.tmp 4) 3 "law.go:122" #[]).op, none⟩,
      ⟨(opBin (some 19) .eql 3 (.tmp 18) (.const (Value.int IntKind.i64 0)) 3 4 "law.go:122" #[{ on := 0, ground := Ground.data }]).op, none⟩,
      ⟨(opMove (some 20) (.tmp 19) 4 "law.go:122" #[{ on := 1, ground := Ground.data }]).op, none⟩,
      ⟨(opMove (some 21) (.tmp 3) 24 "law.go:122" #[{ on := 2, ground := Ground.guard }]).op, (some (2, 20, true))⟩,
      ⟨opCall (f13.orc 0) (some 22) [(.tmp 21)] #[24] 3 "law.go:122" #[{ on := 3, ground := Ground.data }, { on := 2, ground := Ground.chain }, { on := 2, ground := Ground.guard }], (some (2, 20, true))⟩,
      ⟨(opBin (some 23) .eql 3 (.tmp 22) (.const (Value.int IntKind.i64 0)) 3 4 "law.go:122" #[{ on := 4, ground := Ground.data }, { on := 2, ground := Ground.guard }]).op, (some (2, 20, true))⟩,
      ⟨(opPick (some 24) (.tmp 20) (.tmp 23) (.const (Value.bool false)) 4 "law.go:122" #[{ on := 2, ground := Ground.data }, { on := 5, ground := Ground.data }]).op, none⟩,
      ⟨(opAssign (some 2) (.tmp 24) 4 "law.go:122" #[{ on := 6, ground := Ground.data }, { on := 4, ground := Ground.chain }, { on := 0, ground := Ground.phase }, { on := 1, ground := Ground.phase }, { on := 2, ground := Ground.phase }, { on := 3, ground := Ground.phase }, { on := 4, ground := Ground.phase }, { on := 5, ground := Ground.phase }, { on := 6, ground := Ground.phase }]).op, none⟩
    ] (by kernel_rfl)))
    (.live [2] .ret))
    .skip))
  (.seq (.live [2] (.region 11 [
    ⟨(opMove (some 25) (.tmp 4) 3 "law.go:124" #[]).op, none⟩,
    ⟨opCall (q15).orc (some 26) [(.tmp 25)] #[3] 22 "law.go:124" #[{ on := 0, ground := Ground.data }], none⟩,
    ⟨(opMove (some 27) (.tmp 0) 22 "law.go:124" #[]).op, none⟩,
    ⟨(opMove (some 28) (.tmp 0) 22 "law.go:124" #[]).op, none⟩,
    ⟨(opLen (some 29) (.tmp 28) 22 (.slice 5) Try.underlying22 3 "law.go:124" #[{ on := 3, ground := Ground.data }]).op, none⟩,
    ⟨(opMove (some 30) (.tmp 3) 24 "law.go:124" #[]).op, none⟩,
    ⟨opCall (f13.orc 0) (some 31) [(.tmp 30)] #[24] 3 "law.go:124" #[{ on := 5, ground := Ground.data }, { on := 1, ground := Ground.chain }], none⟩,
    ⟨(opBin (some 32) .sub 3 (.tmp 29) (.tmp 31) 3 3 "law.go:124" #[{ on := 4, ground := Ground.data }, { on := 6, ground := Ground.data }]).op, none⟩,
    ⟨(opSlice (some 33) 22 (.tmp 27) none (some (.tmp 32)) none 5 1 Try.underlying22 sz5 22 "law.go:124" #[{ on := 2, ground := Ground.data }, { on := 7, ground := Ground.data }]).op, none⟩,
    ⟨(opCallP r14 (some 34) [(.tmp 26), (.tmp 33)] #[22, 22] 4 "law.go:124" #[{ on := 1, ground := Ground.data }, { on := 8, ground := Ground.data }, { on := 6, ground := Ground.chain }]).op, none⟩,
    ⟨(opAssign (some 2) (.tmp 34) 4 "law.go:124" #[{ on := 9, ground := Ground.data }, { on := 9, ground := Ground.chain }, { on := 0, ground := Ground.phase }, { on := 1, ground := Ground.phase }, { on := 2, ground := Ground.phase }, { on := 3, ground := Ground.phase }, { on := 4, ground := Ground.phase }, { on := 5, ground := Ground.phase }, { on := 6, ground := Ground.phase }, { on := 7, ground := Ground.phase }, { on := 8, ground := Ground.phase }, { on := 9, ground := Ground.phase }]).op, none⟩
  ] (by kernel_rfl)))
  (.live [2] .ret)))))))))

noncomputable def f3 : Fun Try.prog where
  id := 3
  fn := Try.f3
  hf := Try.func3
  hname := by kernel_rfl
  body := f3_b
  hbody := by kernel_rfl
  res := [rTmp 2]
  hres := by kernel_rfl
  n := 35
  hn := by kernel_rfl

/-! ### 4: interlock/interlocklaw01.BitsShort (3, 9, 3); results 6; slots: 0 n, 1 s, 2 cut, 3 n, 4 s, 5 cut, 7 a, 8 b, 9 r, 10 r -/
noncomputable def f4_b : Sim Try.prog :=
  (.seq (.live [0, 1, 2] (.region 0 [
    ⟨(opAssign (some 6) (.const (Value.bool false)) 4 "law.go:128" #[]).op, none⟩
  ] (by kernel_rfl)))
  (.seq (.seq (.live [0, 1, 2, 12] (.region 1 [
    ⟨(opCallP p9 (some 11) [] #[] 4 "law.go:129" #[]).op, none⟩,
    ⟨(opNot (some 12) 4 (.tmp 11) 4 "law.go:129" #[{ on := 0, ground := Ground.data }]).op, none⟩
  ] (by kernel_rfl)))
  (.cond (.tmp 12)
    (.seq (.live [6] (.region 2 [
      ⟨(opAssign (some 6) (.const (Value.bool false)) 4 "law.go:130" #[]).op, none⟩
    ] (by kernel_rfl)))
    (.live [6] .ret))
    .skip))
  (.seq (.seq (.live [0, 1, 2, 19] (.region 3 [
    ⟨(opMove (some 13) (.tmp 1) 9 "law.go:132" #[]).op, none⟩,
    ⟨(opLen (some 14) (.tmp 13) 9 .string Try.underlying9 3 "law.go:132" #[{ on := 0, ground := Ground.data }]).op, none⟩,
    ⟨(opBin (some 15) .gtr 3 (.tmp 14) (.const (Value.int IntKind.i64 1000)) 3 4 "law.go:132" #[{ on := 1, ground := Ground.data }]).op, none⟩,
    ⟨(opMove (some 16) (.tmp 15) 4 "law.go:132" #[{ on := 2, ground := Ground.data }]).op, none⟩,
    ⟨(opMove (some 17) (.tmp 2) 3 "law.go:132" #[{ on := 3, ground := Ground.guard }]).op, (some (3, 16, false))⟩,
    ⟨(opBin (some 18) .lss 3 (.tmp 17) (.const (Value.int IntKind.i64 0)) 3 4 "law.go:132" #[{ on := 4, ground := Ground.data }, { on := 3, ground := Ground.guard }]).op, (some (3, 16, false))⟩,
    ⟨(opPick (some 19) (.tmp 16) (.const (Value.bool true)) (.tmp 18) 4 "law.go:132" #[{ on := 3, ground := Ground.data }, { on := 5, ground := Ground.data }]).op, none⟩
  ] (by kernel_rfl)))
  (.cond (.tmp 19)
    (.seq (.live [6] (.region 4 [
      ⟨(opAssign (some 6) (.const (Value.bool true)) 4 "law.go:133" #[]).op, none⟩
    ] (by kernel_rfl)))
    (.live [6] .ret))
    .skip))
  (.seq (.live [1, 2, 7] (.region 5 [
    ⟨(opMove (some 20) (.tmp 0) 3 "law.go:135" #[]).op, none⟩,
    ⟨opCall (q15).orc (some 21) [(.tmp 20)] #[3] 22 "law.go:135" #[{ on := 0, ground := Ground.data }], none⟩,
    ⟨(opAssign (some 7) (.tmp 21) 22 "law.go:135" #[{ on := 1, ground := Ground.data }, { on := 1, ground := Ground.chain }, { on := 0, ground := Ground.phase }, { on := 1, ground := Ground.phase }]).op, none⟩
  ] (by kernel_rfl)))
  (.seq (.live [2, 7, 8] (.region 6 [
    ⟨(opMove (some 22) (.tmp 1) 9 "law.go:136" #[]).op, none⟩,
    ⟨opCall (q16).orc (some 23) [(.tmp 22)] #[9] 22 "law.go:136" #[{ on := 0, ground := Ground.data }], none⟩,
    ⟨(opAssign (some 8) (.tmp 23) 22 "law.go:136" #[{ on := 1, ground := Ground.data }, { on := 1, ground := Ground.chain }, { on := 0, ground := Ground.phase }, { on := 1, ground := Ground.phase }]).op, none⟩
  ] (by kernel_rfl)))
  (.seq (.seq (.live [2, 7, 8, 27] (.region 7 [
    ⟨(opMove (some 24) (.tmp 2) 3 "law.go:137" #[]).op, none⟩,
    ⟨(opMove (some 25) (.tmp 7) 22 "law.go:137" #[]).op, none⟩,
    ⟨(opLen (some 26) (.tmp 25) 22 (.slice 5) Try.underlying22 3 "law.go:137" #[{ on := 1, ground := Ground.data }]).op, none⟩,
    ⟨(opBin (some 27) .lss 3 (.tmp 24) (.tmp 26) 3 4 "law.go:137" #[{ on := 0, ground := Ground.data }, { on := 2, ground := Ground.data }]).op, none⟩
  ] (by kernel_rfl)))
  (.cond (.tmp 27)
    (.seq (.live [2, 8, 9] (.region 8 [
      ⟨(opMove (some 28) (.tmp 7) 22 "law.go:138" #[]).op, none⟩,
      ⟨(opMove (some 29) (.tmp 2) 3 "law.go:138" #[]).op, none⟩,
      ⟨(opSlice (some 30) 22 (.tmp 28) none (some (.tmp 29)) none 5 1 Try.underlying22 sz5 22 "law.go:138" #[{ on := 0, ground := Ground.data }, { on := 1, ground := Ground.data }]).op, none⟩,
      ⟨opCall (f10.orc 0) (some 31) [(.tmp 30)] #[22] 24 "law.go:138" #[{ on := 2, ground := Ground.data }], none⟩,
      ⟨(opAssign (some 9) (.tmp 31) 24 "law.go:138" #[{ on := 3, ground := Ground.data }, { on := 3, ground := Ground.chain }, { on := 0, ground := Ground.phase }, { on := 1, ground := Ground.phase }, { on := 2, ground := Ground.phase }, { on := 3, ground := Ground.phase }]).op, none⟩
    ] (by kernel_rfl)))
    (.seq (.live [2, 8, 43] (.region 9 [
      ⟨(opMove (some 32) (.tmp 9) 24 "law.go:139" #[]).op, none⟩,
      ⟨(opEq (some 33) 24 (.pointer 48) Try.underlying24 (.tmp 32) (.const (Value.pointer none)) (.inl rfl) 24 4 "law.go:139" #[{ on := 0, ground := Ground.data }]).op, none⟩,
      ⟨(opMove (some 34) (.tmp 33) 4 "law.go:139" #[{ on := 1, ground := Ground.data }]).op, none⟩,
      ⟨(opMove (some 35) (.tmp 9) 24 "law.go:139" #[{ on := 2, ground := Ground.guard }]).op, (some (2, 34, false))⟩,
      ⟨opCall (q11).orc (some 36) [(.tmp 35)] #[24] 3 "law.go:139" #[{ on := 3, ground := Ground.data }, { on := 2, ground := Ground.chain }, { on := 2, ground := Ground.guard }], (some (2, 34, false))⟩,
      ⟨(opBin (some 37) .neq 3 (.tmp 36) (.const (Value.int IntKind.i64 0)) 3 4 "law.go:139" #[{ on := 4, ground := Ground.data }, { on := 2, ground := Ground.guard }]).op, (some (2, 34, false))⟩,
      ⟨(opPick (some 38) (.tmp 34) (.const (Value.bool true)) (.tmp 37) 4 "law.go:139" #[{ on := 2, ground := Ground.data }, { on := 5, ground := Ground.data }]).op, none⟩,
      ⟨(opMove (some 39) (.tmp 38) 4 "law.go:139" #[{ on := 6, ground := Ground.data }, { on := 4, ground := Ground.chain }]).op, none⟩,
      ⟨(opMove (some 40) (.tmp 9) 24 "law.go:139" #[{ on := 7, ground := Ground.guard }]).op, (some (7, 39, false))⟩,
      ⟨opCall (f12.orc 0) (some 41) [(.tmp 40)] #[24] 4 "law.go:139" #[{ on := 8, ground := Ground.data }, { on := 7, ground := Ground.chain }, { on := 7, ground := Ground.guard }], (some (7, 39, false))⟩,
      ⟨(opNot (some 42) 4 (.tmp 41) 4 "law.go:139" #[{ on := 9, ground := Ground.data }, { on := 7, ground := Ground.guard }]).op, (some (7, 39, false))⟩,
      ⟨(opPick (some 43) (.tmp 39) (.const (Value.bool true)) (.tmp 42) 4 "law.go:139" #[{ on := 7, ground := Ground.data }, { on := 10, ground := Ground.data }]).op, none⟩
    ] (by kernel_rfl)))
    (.cond (.tmp 43)
      (.seq (.live [6] (.region 10 [
        ⟨(opAssign (some 6) (.const (Value.bool false)) 4 "law.go:140" #[]).op, none⟩
      ] (by kernel_rfl)))
      (.live [6] .ret))
      .skip)))
    .skip))
  (.seq (.seq (.live [2, 8, 47] (.region 11 [
    ⟨(opMove (some 44) (.tmp 2) 3 "law.go:143" #[]).op, none⟩,
    ⟨(opMove (some 45) (.tmp 8) 22 "law.go:143" #[]).op, none⟩,
    ⟨(opLen (some 46) (.tmp 45) 22 (.slice 5) Try.underlying22 3 "law.go:143" #[{ on := 1, ground := Ground.data }]).op, none⟩,
    ⟨(opBin (some 47) .lss 3 (.tmp 44) (.tmp 46) 3 4 "law.go:143" #[{ on := 0, ground := Ground.data }, { on := 2, ground := Ground.data }]).op, none⟩
  ] (by kernel_rfl)))
  (.cond (.tmp 47)
    (.seq (.live [10] (.region 12 [
      ⟨(opMove (some 48) (.tmp 8) 22 "law.go:144" #[]).op, none⟩,
      ⟨(opMove (some 49) (.tmp 2) 3 "law.go:144" #[]).op, none⟩,
      ⟨(opSlice (some 50) 22 (.tmp 48) none (some (.tmp 49)) none 5 1 Try.underlying22 sz5 22 "law.go:144" #[{ on := 0, ground := Ground.data }, { on := 1, ground := Ground.data }]).op, none⟩,
      ⟨opCall (f10.orc 0) (some 51) [(.tmp 50)] #[22] 24 "law.go:144" #[{ on := 2, ground := Ground.data }], none⟩,
      ⟨(opAssign (some 10) (.tmp 51) 24 "law.go:144" #[{ on := 3, ground := Ground.data }, { on := 3, ground := Ground.chain }, { on := 0, ground := Ground.phase }, { on := 1, ground := Ground.phase }, { on := 2, ground := Ground.phase }, { on := 3, ground := Ground.phase }]).op, none⟩
    ] (by kernel_rfl)))
    (.seq (.live [73] (.region 13 [
      ⟨(opMove (some 52) (.tmp 10) 24 "law.go:145" #[]).op, none⟩,
      ⟨(opEq (some 53) 24 (.pointer 48) Try.underlying24 (.tmp 52) (.const (Value.pointer none)) (.inl rfl) 24 4 "law.go:145" #[{ on := 0, ground := Ground.data }]).op, none⟩,
      ⟨(opMove (some 54) (.tmp 53) 4 "law.go:145" #[{ on := 1, ground := Ground.data }]).op, none⟩,
      ⟨(opMove (some 55) (.tmp 10) 24 "law.go:145" #[{ on := 2, ground := Ground.guard }]).op, (some (2, 54, false))⟩,
      ⟨opCall (q17).orc (some 56) [(.tmp 55)] #[24] 9 "law.go:145" #[{ on := 3, ground := Ground.data }, { on := 2, ground := Ground.chain }, { on := 2, ground := Ground.guard }], (some (2, 54, false))⟩,
      ⟨(opBinS (some 57) .neq 9 (.tmp 56) (.const (Value.string { data := #[] })) 9 4 "law.go:145" #[{ on := 4, ground := Ground.data }, { on := 2, ground := Ground.guard }]).op, (some (2, 54, false))⟩,
      ⟨(opPick (some 58) (.tmp 54) (.const (Value.bool true)) (.tmp 57) 4 "law.go:145" #[{ on := 2, ground := Ground.data }, { on := 5, ground := Ground.data }]).op, none⟩,
      ⟨(opMove (some 59) (.tmp 58) 4 "law.go:145" #[{ on := 6, ground := Ground.data }, { on := 4, ground := Ground.chain }]).op, none⟩,
      ⟨(opMove (some 60) (.tmp 10) 24 "law.go:145" #[{ on := 7, ground := Ground.guard }]).op, (some (7, 59, false))⟩,
      ⟨opCall (f12.orc 0) (some 61) [(.tmp 60)] #[24] 4 "law.go:145" #[{ on := 8, ground := Ground.data }, { on := 7, ground := Ground.chain }, { on := 7, ground := Ground.guard }], (some (7, 59, false))⟩,
      ⟨(opNot (some 62) 4 (.tmp 61) 4 "law.go:145" #[{ on := 9, ground := Ground.data }, { on := 7, ground := Ground.guard }]).op, (some (7, 59, false))⟩,
      ⟨(opPick (some 63) (.tmp 59) (.const (Value.bool true)) (.tmp 62) 4 "law.go:145" #[{ on := 7, ground := Ground.data }, { on := 10, ground := Ground.data }]).op, none⟩,
      ⟨(opMove (some 64) (.tmp 63) 4 "law.go:145" #[{ on := 11, ground := Ground.data }, { on := 9, ground := Ground.chain }]).op, none⟩,
      ⟨(opMove (some 65) (.tmp 10) 24 "law.go:145" #[{ on := 12, ground := Ground.guard }]).op, (some (12, 64, false))⟩,
      ⟨opCall (q17).orc (some 66) [(.tmp 65)] #[24] 9 "law.go:145" #[{ on := 13, ground := Ground.data }, { on := 12, ground := Ground.chain }, { on := 12, ground := Ground.guard }], (some (12, 64, false))⟩,
      ⟨(opBinS (some 67) .neq 9 (.tmp 66) (.const (Value.string { data := #[] })) 9 4 "law.go:145" #[{ on := 14, ground := Ground.data }, { on := 12, ground := Ground.guard }]).op, (some (12, 64, false))⟩,
      ⟨(opPick (some 68) (.tmp 64) (.const (Value.bool true)) (.tmp 67) 4 "law.go:145" #[{ on := 12, ground := Ground.data }, { on := 15, ground := Ground.data }]).op, none⟩,
      ⟨(opMove (some 69) (.tmp 68) 4 "law.go:145" #[{ on := 16, ground := Ground.data }, { on := 14, ground := Ground.chain }]).op, none⟩,
      ⟨(opMove (some 70) (.tmp 10) 24 "law.go:145" #[{ on := 17, ground := Ground.guard }]).op, (some (17, 69, false))⟩,
      ⟨opCall (q11).orc (some 71) [(.tmp 70)] #[24] 3 "law.go:145" #[{ on := 18, ground := Ground.data }, { on := 17, ground := Ground.chain }, { on := 17, ground := Ground.guard }], (some (17, 69, false))⟩,
      ⟨(opBin (some 72) .neq 3 (.tmp 71) (.const (Value.int IntKind.i64 0)) 3 4 "law.go:145" #[{ on := 19, ground := Ground.data }, { on := 17, ground := Ground.guard }]).op, (some (17, 69, false))⟩,
      ⟨(opPick (some 73) (.tmp 69) (.const (Value.bool true)) (.tmp 72) 4 "law.go:145" #[{ on := 17, ground := Ground.data }, { on := 20, ground := Ground.data }]).op, none⟩
    ] (by kernel_rfl)))
    (.cond (.tmp 73)
      (.seq (.live [6] (.region 14 [
        ⟨(opAssign (some 6) (.const (Value.bool false)) 4 "law.go:146" #[]).op, none⟩
      ] (by kernel_rfl)))
      (.live [6] .ret))
      .skip)))
    .skip))
  (.seq (.live [6] (.region 15 [
    ⟨(opAssign (some 6) (.const (Value.bool true)) 4 "law.go:149" #[]).op, none⟩
  ] (by kernel_rfl)))
  (.live [6] .ret)))))))))

noncomputable def f4 : Fun Try.prog where
  id := 4
  fn := Try.f4
  hf := Try.func4
  hname := by kernel_rfl
  body := f4_b
  hbody := by kernel_rfl
  res := [rTmp 6]
  hres := by kernel_rfl
  n := 74
  hn := by kernel_rfl

end Go.Proofs.Ytjdpfblmhahfkaa.V
