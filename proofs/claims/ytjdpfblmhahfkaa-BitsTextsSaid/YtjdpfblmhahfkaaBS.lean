/- The functions' pieces, as told by gen.py. -/
import Derived.Test.YtjdpfblmhahfkaaBR
set_option linter.unusedVariables false
set_option maxRecDepth 20000
namespace Go.Proofs.Ytjdpfblmhahfkaa.V
open Go Go.V Go.RowKit


/-! ### 5: interlock/interlocklaw01.BitsWrites (3, 9, 33); results 6; slots: 0 n, 1 s, 2 list, 3 n, 4 s, 5 list, 7 i -/
/-- A loop's round; at its head live: 0 n, 1 s, 2 list, 7 i -/
noncomputable def f5_l0 : Sim Try.prog :=
  (.seq (.seq (.live [0, 1, 2, 7, 21] (.region 6 [
    ⟨(opMove (some 18) (.tmp 7) 3 "law.go:24" #[]).op, none⟩,
    ⟨(opMove (some 19) (.tmp 2) 33 "law.go:24" #[]).op, none⟩,
    ⟨(opLen (some 20) (.tmp 19) 33 (.slice 9) Try.underlying33 3 "law.go:24" #[{ on := 1, ground := Ground.data }]).op, none⟩,
    ⟨(opBin (some 21) .lss 3 (.tmp 18) (.tmp 20) 3 4 "law.go:24" #[{ on := 0, ground := Ground.data }, { on := 2, ground := Ground.data }]).op, none⟩
  ] (by kernel_rfl)))
  (.cond (.tmp 21)
    .skip
    (.live [0, 1, 2] (.exit 0))))
  (.seq (.block 1 (.seq (.live [0, 1, 2, 7, 29] (.region 8 [
      ⟨(opMove (some 24) (.tmp 2) 33 "law.go:25" #[]).op, none⟩,
      ⟨(opMove (some 25) (.tmp 7) 3 "law.go:25" #[]).op, none⟩,
      ⟨(opIndexAddr (some 26) 33 (.tmp 24) (.tmp 25) 9 1 Try.underlying33 sz9 0 "law.go:25" #[{ on := 0, ground := Ground.data }, { on := 1, ground := Ground.data }]).op, none⟩,
      ⟨(opLoad (some 27) 9 (.tmp 26) .string Try.underlying9 1 sz9 9 "law.go:25" #[{ on := 2, ground := Ground.data }]).op, none⟩,
      ⟨(opLen (some 28) (.tmp 27) 9 .string Try.underlying9 3 "law.go:25" #[{ on := 3, ground := Ground.data }]).op, none⟩,
      ⟨(opBin (some 29) .gtr 3 (.tmp 28) (.const (Value.int IntKind.i64 5000)) 3 4 "law.go:25" #[{ on := 4, ground := Ground.data }]).op, none⟩
    ] (by kernel_rfl)))
    (.cond (.tmp 29)
      (.seq (.live [6] (.region 9 [
        ⟨(opAssign (some 6) (.const (Value.bool true)) 4 "law.go:26" #[]).op, none⟩
      ] (by kernel_rfl)))
      (.live [6] .ret))
      .skip)))
  (.live [0, 1, 2, 7] (.region 7 [
    ⟨(opMove (some 22) (.tmp 7) 3 "law.go:24" #[]).op, none⟩,
    ⟨(opBin (some 23) .add 3 (.tmp 22) (.const (Value.int IntKind.i64 1)) 3 3 "law.go:24" #[{ on := 0, ground := Ground.data }]).op, none⟩,
    ⟨(opAssign (some 7) (.tmp 23) 3 "law.go:24" #[{ on := 1, ground := Ground.data }, { on := 0, ground := Ground.phase }, { on := 1, ground := Ground.phase }]).op, none⟩
  ] (by kernel_rfl)))))

/-- What follows a loop. -/
noncomputable def f5_r0 : Sim Try.prog :=
  (.seq (.live [6] (.region 10 [
    ⟨(opMove (some 30) (.tmp 0) 3 "law.go:29" #[]).op, none⟩,
    ⟨opCall (q15).orc (some 31) [(.tmp 30)] #[3] 22 "law.go:29" #[{ on := 0, ground := Ground.data }], none⟩,
    ⟨(opMove (some 32) (.tmp 0) 3 "law.go:29" #[]).op, none⟩,
    ⟨opCall (q18).orc (some 33) [(.tmp 32)] #[3] 22 "law.go:29" #[{ on := 2, ground := Ground.data }, { on := 1, ground := Ground.chain }], none⟩,
    ⟨(opCallP r14 (some 34) [(.tmp 31), (.tmp 33)] #[22, 22] 4 "law.go:29" #[{ on := 1, ground := Ground.data }, { on := 3, ground := Ground.data }, { on := 3, ground := Ground.chain }]).op, none⟩,
    ⟨(opMove (some 35) (.tmp 34) 4 "law.go:29" #[{ on := 4, ground := Ground.data }, { on := 4, ground := Ground.chain }]).op, none⟩,
    ⟨(opMove (some 36) (.tmp 1) 9 "law.go:29" #[{ on := 5, ground := Ground.guard }]).op, (some (5, 35, true))⟩,
    ⟨opCall (q16).orc (some 37) [(.tmp 36)] #[9] 22 "law.go:29" #[{ on := 6, ground := Ground.data }, { on := 5, ground := Ground.chain }, { on := 5, ground := Ground.guard }], (some (5, 35, true))⟩,
    ⟨(opMove (some 38) (.tmp 1) 9 "law.go:29" #[{ on := 5, ground := Ground.guard }]).op, (some (5, 35, true))⟩,
    ⟨opCall (q19).orc (some 39) [(.tmp 38)] #[9] 22 "law.go:29" #[{ on := 8, ground := Ground.data }, { on := 7, ground := Ground.chain }, { on := 5, ground := Ground.guard }], (some (5, 35, true))⟩,
    ⟨(opCallP r14 (some 40) [(.tmp 37), (.tmp 39)] #[22, 22] 4 "law.go:29" #[{ on := 7, ground := Ground.data }, { on := 9, ground := Ground.data }, { on := 9, ground := Ground.chain }, { on := 5, ground := Ground.guard }]).op, (some (5, 35, true))⟩,
    ⟨(opPick (some 41) (.tmp 35) (.tmp 40) (.const (Value.bool false)) 4 "law.go:29" #[{ on := 5, ground := Ground.data }, { on := 10, ground := Ground.data }]).op, none⟩,
    ⟨(opMove (some 42) (.tmp 41) 4 "law.go:29" #[{ on := 11, ground := Ground.data }, { on := 10, ground := Ground.chain }]).op, none⟩,
    ⟨(opMove (some 43) (.tmp 2) 33 "law.go:29" #[{ on := 12, ground := Ground.guard }]).op, (some (12, 42, true))⟩,
    ⟨(opCallP r20 (some 44) [(.tmp 43)] #[33] 22 "law.go:29" #[{ on := 13, ground := Ground.data }, { on := 12, ground := Ground.chain }, { on := 12, ground := Ground.guard }]).op, (some (12, 42, true))⟩,
    ⟨(opMove (some 45) (.tmp 2) 33 "law.go:29" #[{ on := 12, ground := Ground.guard }]).op, (some (12, 42, true))⟩,
    ⟨(opCallP r21 (some 46) [(.tmp 45)] #[33] 22 "law.go:29" #[{ on := 15, ground := Ground.data }, { on := 14, ground := Ground.chain }, { on := 12, ground := Ground.guard }]).op, (some (12, 42, true))⟩,
    ⟨(opCallP r14 (some 47) [(.tmp 44), (.tmp 46)] #[22, 22] 4 "law.go:29" #[{ on := 14, ground := Ground.data }, { on := 16, ground := Ground.data }, { on := 16, ground := Ground.chain }, { on := 12, ground := Ground.guard }]).op, (some (12, 42, true))⟩,
    ⟨(opPick (some 48) (.tmp 42) (.tmp 47) (.const (Value.bool false)) 4 "law.go:29" #[{ on := 12, ground := Ground.data }, { on := 17, ground := Ground.data }]).op, none⟩,
    ⟨(opAssign (some 6) (.tmp 48) 4 "law.go:29" #[{ on := 18, ground := Ground.data }, { on := 17, ground := Ground.chain }, { on := 0, ground := Ground.phase }, { on := 1, ground := Ground.phase }, { on := 2, ground := Ground.phase }, { on := 3, ground := Ground.phase }, { on := 4, ground := Ground.phase }, { on := 5, ground := Ground.phase }, { on := 6, ground := Ground.phase }, { on := 7, ground := Ground.phase }, { on := 8, ground := Ground.phase }, { on := 9, ground := Ground.phase }, { on := 10, ground := Ground.phase }, { on := 11, ground := Ground.phase }, { on := 12, ground := Ground.phase }, { on := 13, ground := Ground.phase }, { on := 14, ground := Ground.phase }, { on := 15, ground := Ground.phase }, { on := 16, ground := Ground.phase }, { on := 17, ground := Ground.phase }, { on := 18, ground := Ground.phase }]).op, none⟩
  ] (by kernel_rfl)))
  (.live [6] .ret))

noncomputable def f5_b : Sim Try.prog :=
  (.seq (.live [0, 1, 2] (.region 0 [
    ⟨(opAssign (some 6) (.const (Value.bool false)) 4 "law.go:17" #[]).op, none⟩
  ] (by kernel_rfl)))
  (.seq (.seq (.live [0, 1, 2, 9] (.region 1 [
    ⟨(opCallP p9 (some 8) [] #[] 4 "law.go:18" #[]).op, none⟩,
    ⟨(opNot (some 9) 4 (.tmp 8) 4 "law.go:18" #[{ on := 0, ground := Ground.data }]).op, none⟩
  ] (by kernel_rfl)))
  (.cond (.tmp 9)
    (.seq (.live [6] (.region 2 [
      ⟨(opAssign (some 6) (.const (Value.bool false)) 4 "law.go:19" #[]).op, none⟩
    ] (by kernel_rfl)))
    (.live [6] .ret))
    .skip))
  (.seq (.seq (.live [0, 1, 2, 17] (.region 3 [
    ⟨(opMove (some 10) (.tmp 1) 9 "law.go:21" #[]).op, none⟩,
    ⟨(opLen (some 11) (.tmp 10) 9 .string Try.underlying9 3 "law.go:21" #[{ on := 0, ground := Ground.data }]).op, none⟩,
    ⟨(opBin (some 12) .gtr 3 (.tmp 11) (.const (Value.int IntKind.i64 5000)) 3 4 "law.go:21" #[{ on := 1, ground := Ground.data }]).op, none⟩,
    ⟨(opMove (some 13) (.tmp 12) 4 "law.go:21" #[{ on := 2, ground := Ground.data }]).op, none⟩,
    ⟨(opMove (some 14) (.tmp 2) 33 "law.go:21" #[{ on := 3, ground := Ground.guard }]).op, (some (3, 13, false))⟩,
    ⟨(opLen (some 15) (.tmp 14) 33 (.slice 9) Try.underlying33 3 "law.go:21" #[{ on := 4, ground := Ground.data }, { on := 3, ground := Ground.guard }]).op, (some (3, 13, false))⟩,
    ⟨(opBin (some 16) .gtr 3 (.tmp 15) (.const (Value.int IntKind.i64 200)) 3 4 "law.go:21" #[{ on := 5, ground := Ground.data }, { on := 3, ground := Ground.guard }]).op, (some (3, 13, false))⟩,
    ⟨(opPick (some 17) (.tmp 13) (.const (Value.bool true)) (.tmp 16) 4 "law.go:21" #[{ on := 3, ground := Ground.data }, { on := 6, ground := Ground.data }]).op, none⟩
  ] (by kernel_rfl)))
  (.cond (.tmp 17)
    (.seq (.live [6] (.region 4 [
      ⟨(opAssign (some 6) (.const (Value.bool true)) 4 "law.go:22" #[]).op, none⟩
    ] (by kernel_rfl)))
    (.live [6] .ret))
    .skip))
  (.seq (.seq (.live [0, 1, 2, 7] (.region 5 [
    ⟨(opAssign (some 7) (.const (Value.int IntKind.i64 0)) 3 "law.go:24" #[]).op, none⟩
  ] (by kernel_rfl)))
  (.block 0 (.loop [0, 1, 2, 7] f5_l0)))
  f5_r0))))

noncomputable def f5 : Fun Try.prog where
  id := 5
  fn := Try.f5
  hf := Try.func5
  hname := by kernel_rfl
  body := f5_b
  hbody := by kernel_rfl
  res := [rTmp 6]
  hres := by kernel_rfl
  n := 49
  hn := by kernel_rfl

/-! ### 6: interlock/interlocklaw01.BitsTexts (33); results 2; slots: 0 list, 1 list, 3 want, 4 i -/
/-- A loop's round; at its head live: 0 list, 3 want, 4 i -/
noncomputable def f6_l0 : Sim Try.prog :=
  (.seq (.seq (.live [0, 3, 4, 16] (.region 7 [
    ⟨(opMove (some 13) (.tmp 4) 3 "law.go:161" #[]).op, none⟩,
    ⟨(opMove (some 14) (.tmp 0) 33 "law.go:161" #[]).op, none⟩,
    ⟨(opLen (some 15) (.tmp 14) 33 (.slice 9) Try.underlying33 3 "law.go:161" #[{ on := 1, ground := Ground.data }]).op, none⟩,
    ⟨(opBin (some 16) .lss 3 (.tmp 13) (.tmp 15) 3 4 "law.go:161" #[{ on := 0, ground := Ground.data }, { on := 2, ground := Ground.data }]).op, none⟩
  ] (by kernel_rfl)))
  (.cond (.tmp 16)
    .skip
    (.live [0, 3] (.exit 0))))
  (.seq (.block 1 (.seq (.seq (.live [0, 3, 4, 24] (.region 9 [
      ⟨(opMove (some 19) (.tmp 0) 33 "law.go:162" #[]).op, none⟩,
      ⟨(opMove (some 20) (.tmp 4) 3 "law.go:162" #[]).op, none⟩,
      ⟨(opIndexAddr (some 21) 33 (.tmp 19) (.tmp 20) 9 1 Try.underlying33 sz9 0 "law.go:162" #[{ on := 0, ground := Ground.data }, { on := 1, ground := Ground.data }]).op, none⟩,
      ⟨(opLoad (some 22) 9 (.tmp 21) .string Try.underlying9 1 sz9 9 "law.go:162" #[{ on := 2, ground := Ground.data }]).op, none⟩,
      ⟨(opLen (some 23) (.tmp 22) 9 .string Try.underlying9 3 "law.go:162" #[{ on := 3, ground := Ground.data }]).op, none⟩,
      ⟨(opBin (some 24) .gtr 3 (.tmp 23) (.const (Value.int IntKind.i64 5000)) 3 4 "law.go:162" #[{ on := 4, ground := Ground.data }]).op, none⟩
    ] (by kernel_rfl)))
    (.cond (.tmp 24)
      (.seq (.live [2] (.region 10 [
        ⟨(opAssign (some 2) (.const (Value.bool true)) 4 "law.go:163" #[]).op, none⟩
      ] (by kernel_rfl)))
      (.live [2] .ret))
      .skip))
    (.live [0, 3, 4] (.region 11 [
      ⟨(opMove (some 25) (.tmp 3) 22 "law.go:165" #[]).op, none⟩,
      ⟨(opMove (some 26) (.tmp 0) 33 "law.go:165" #[]).op, none⟩,
      ⟨(opMove (some 27) (.tmp 4) 3 "law.go:165" #[]).op, none⟩,
      ⟨(opIndexAddr (some 28) 33 (.tmp 26) (.tmp 27) 9 1 Try.underlying33 sz9 0 "law.go:165" #[{ on := 1, ground := Ground.data }, { on := 2, ground := Ground.data }]).op, none⟩,
      ⟨(opLoad (some 29) 9 (.tmp 28) .string Try.underlying9 1 sz9 9 "law.go:165" #[{ on := 3, ground := Ground.data }]).op, none⟩,
      ⟨opCall (q16).orc (some 30) [(.tmp 29)] #[9] 22 "law.go:165" #[{ on := 4, ground := Ground.data }], none⟩,
      ⟨(opAppend (some 31) (.tmp 25) (.tmp 30) 22 22 5 1 1 (.int .u8 0) el22 (.slice 5) Try.underlying22 rfl 22 "law.go:165" #[{ on := 0, ground := Ground.data }, { on := 5, ground := Ground.data }, { on := 5, ground := Ground.chain }]).op, none⟩,
      ⟨(opAssign (some 3) (.tmp 31) 22 "law.go:165" #[{ on := 6, ground := Ground.data }, { on := 6, ground := Ground.chain }, { on := 0, ground := Ground.phase }, { on := 1, ground := Ground.phase }, { on := 2, ground := Ground.phase }, { on := 3, ground := Ground.phase }, { on := 4, ground := Ground.phase }, { on := 5, ground := Ground.phase }, { on := 6, ground := Ground.phase }]).op, none⟩
    ] (by kernel_rfl)))))
  (.live [0, 3, 4] (.region 8 [
    ⟨(opMove (some 17) (.tmp 4) 3 "law.go:161" #[]).op, none⟩,
    ⟨(opBin (some 18) .add 3 (.tmp 17) (.const (Value.int IntKind.i64 1)) 3 3 "law.go:161" #[{ on := 0, ground := Ground.data }]).op, none⟩,
    ⟨(opAssign (some 4) (.tmp 18) 3 "law.go:161" #[{ on := 1, ground := Ground.data }, { on := 0, ground := Ground.phase }, { on := 1, ground := Ground.phase }]).op, none⟩
  ] (by kernel_rfl)))))

/-- What follows a loop. -/
noncomputable def f6_r0 : Sim Try.prog :=
  (.seq (.live [2] (.region 12 [
    ⟨(opMove (some 32) (.tmp 0) 33 "law.go:167" #[]).op, none⟩,
    ⟨(opCallP r20 (some 33) [(.tmp 32)] #[33] 22 "law.go:167" #[{ on := 0, ground := Ground.data }]).op, none⟩,
    ⟨(opMove (some 34) (.tmp 3) 22 "law.go:167" #[]).op, none⟩,
    ⟨(opCallP r14 (some 35) [(.tmp 33), (.tmp 34)] #[22, 22] 4 "law.go:167" #[{ on := 1, ground := Ground.data }, { on := 2, ground := Ground.data }, { on := 1, ground := Ground.chain }]).op, none⟩,
    ⟨(opAssign (some 2) (.tmp 35) 4 "law.go:167" #[{ on := 3, ground := Ground.data }, { on := 3, ground := Ground.chain }, { on := 0, ground := Ground.phase }, { on := 1, ground := Ground.phase }, { on := 2, ground := Ground.phase }, { on := 3, ground := Ground.phase }]).op, none⟩
  ] (by kernel_rfl)))
  (.live [2] .ret))

noncomputable def f6_b : Sim Try.prog :=
  (.seq (.live [0] (.region 0 [
    ⟨(opAssign (some 2) (.const (Value.bool false)) 4 "law.go:153" #[]).op, none⟩
  ] (by kernel_rfl)))
  (.seq (.seq (.live [0, 6] (.region 1 [
    ⟨(opCallP p9 (some 5) [] #[] 4 "law.go:154" #[]).op, none⟩,
    ⟨(opNot (some 6) 4 (.tmp 5) 4 "law.go:154" #[{ on := 0, ground := Ground.data }]).op, none⟩
  ] (by kernel_rfl)))
  (.cond (.tmp 6)
    (.seq (.live [2] (.region 2 [
      ⟨(opAssign (some 2) (.const (Value.bool false)) 4 "law.go:155" #[]).op, none⟩
    ] (by kernel_rfl)))
    (.live [2] .ret))
    .skip))
  (.seq (.seq (.live [0, 9] (.region 3 [
    ⟨(opMove (some 7) (.tmp 0) 33 "law.go:157" #[]).op, none⟩,
    ⟨(opLen (some 8) (.tmp 7) 33 (.slice 9) Try.underlying33 3 "law.go:157" #[{ on := 0, ground := Ground.data }]).op, none⟩,
    ⟨(opBin (some 9) .gtr 3 (.tmp 8) (.const (Value.int IntKind.i64 200)) 3 4 "law.go:157" #[{ on := 1, ground := Ground.data }]).op, none⟩
  ] (by kernel_rfl)))
  (.cond (.tmp 9)
    (.seq (.live [2] (.region 4 [
      ⟨(opAssign (some 2) (.const (Value.bool true)) 4 "law.go:158" #[]).op, none⟩
    ] (by kernel_rfl)))
    (.live [2] .ret))
    .skip))
  (.seq (.live [0, 3] (.region 5 [
    ⟨(opMove (some 10) (.tmp 0) 33 "law.go:160" #[]).op, none⟩,
    ⟨(opLen (some 11) (.tmp 10) 33 (.slice 9) Try.underlying33 3 "law.go:160" #[{ on := 0, ground := Ground.data }]).op, none⟩,
    ⟨opCall (q15).orc (some 12) [(.tmp 11)] #[3] 22 "law.go:160" #[{ on := 1, ground := Ground.data }], none⟩,
    ⟨(opAssign (some 3) (.tmp 12) 22 "law.go:160" #[{ on := 2, ground := Ground.data }, { on := 2, ground := Ground.chain }, { on := 0, ground := Ground.phase }, { on := 1, ground := Ground.phase }, { on := 2, ground := Ground.phase }]).op, none⟩
  ] (by kernel_rfl)))
  (.seq (.seq (.live [0, 3, 4] (.region 6 [
    ⟨(opAssign (some 4) (.const (Value.int IntKind.i64 0)) 3 "law.go:161" #[]).op, none⟩
  ] (by kernel_rfl)))
  (.block 0 (.loop [0, 3, 4] f6_l0)))
  f6_r0)))))

noncomputable def f6 : Fun Try.prog where
  id := 6
  fn := Try.f6
  hf := Try.func6
  hname := by kernel_rfl
  body := f6_b
  hbody := by kernel_rfl
  res := [rTmp 2]
  hres := by kernel_rfl
  n := 36
  hn := by kernel_rfl

end Go.Proofs.Ytjdpfblmhahfkaa.V
