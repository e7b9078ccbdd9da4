/- Merged out of 3 texts: what the claim's code comes to, and why. -/
import Derived.Test.YtblliolkgkgppaaR24
/- The functions' pieces, as told by gen.py. -/
set_option linter.unusedVariables false
set_option maxRecDepth 20000
namespace Go.Proofs.Ytblliolkgkgppaa.V
open Go Go.V Go.RowKit


/-! ### 5: interlock/interlocklaw06.PageKeeps (22, 3, 25); results 6; slots:  -/
/-- A loop's round; at its head live: 0 , 1 , 2 , 7 , 8  -/
noncomputable def f5_l0 : Sim Try.prog :=
  (.seq (.seq (.live [0, 1, 2, 7, 8, 40] (.region 7 [
    ⟨(opMove (some 37) (.tmp 8) 3 "law.go:118" #[]).op, none⟩,
    ⟨(opMove (some 38) (.tmp 0) 22 "law.go:118" #[]).op, none⟩,
    ⟨(opLen (some 39) (.tmp 38) 22 (.slice 29) Try.underlying22 3 "law.go:118" #[{ on := 1, ground := Ground.data }]).op, none⟩,
    ⟨(opBin (some 40) .lss 3 (.tmp 37) (.tmp 39) 3 4 "law.go:118" #[{ on := 0, ground := Ground.data }, { on := 2, ground := Ground.data }]).op, none⟩
  ] (by kernel_rfl)))
  (.cond (.tmp 40)
    .skip
    (.live [1, 2, 7] (.exit 0))))
  (.seq (.block 1 (.seq (.live [0, 1, 2, 7, 8, 9, 11] (.region 9 [
      ⟨(opMove (some 44) (.tmp 7) 25 "law.go:119" #[]).op, none⟩,
      ⟨(opMove (some 45) (.tmp 0) 22 "law.go:119" #[]).op, none⟩,
      ⟨(opMove (some 46) (.tmp 8) 3 "law.go:119" #[]).op, none⟩,
      ⟨(opIndexAddrT (some 47) 22 (.tmp 45) (.tmp 46) 29 3 Try.underlying22 sz29 0 "law.go:119" #[{ on := 1, ground := Ground.data }, { on := 2, ground := Ground.data }]).op, none⟩,
      ⟨(opFieldAddr (some 48) 29 (.tmp 47) 2 2 1 false fl29_2 (by decide) 0 "law.go:119" #[{ on := 3, ground := Ground.data }]).op, none⟩,
      ⟨(opLoadT (.one (.ns 1)) (some 49) 25 (.tmp 48) (.slice 5) Try.underlying25 1 sz25 (by kernel_rfl) 25 "law.go:119" #[{ on := 4, ground := Ground.data }]).op, none⟩,
      ⟨(opCallP p13 (some 50) [(.tmp 44), (.tmp 49)] #[25, 25] 33 "law.go:119" #[{ on := 0, ground := Ground.data }, { on := 5, ground := Ground.data }]).op, none⟩,
      ⟨(opMove (some 43) (.tmp 50) 33 "law.go:119" #[{ on := 6, ground := Ground.data }]).op, none⟩,
      ⟨(opExtract (some 51) (.tmp 43) 0 25 "law.go:119" #[{ on := 7, ground := Ground.data }]).op, none⟩,
      ⟨(opExtract (some 52) (.tmp 43) 1 3 "law.go:119" #[{ on := 7, ground := Ground.data }, { on := 11, ground := (Ground.gcOnly Departure.lateStores) }]).op, none⟩,
      ⟨(opExtract (some 53) (.tmp 43) 2 4 "law.go:119" #[{ on := 7, ground := Ground.data }, { on := 12, ground := (Ground.gcOnly Departure.lateStores) }]).op, none⟩,
      ⟨(opAssign (some 9) (.tmp 51) 25 "law.go:119" #[{ on := 8, ground := Ground.data }, { on := 6, ground := Ground.chain }, { on := 0, ground := Ground.phase }, { on := 1, ground := Ground.phase }, { on := 2, ground := Ground.phase }, { on := 3, ground := Ground.phase }, { on := 4, ground := Ground.phase }, { on := 5, ground := Ground.phase }, { on := 6, ground := Ground.phase }, { on := 7, ground := Ground.phase }, { on := 8, ground := Ground.phase }, { on := 9, ground := (Ground.textOnly Departure.lateStores) }, { on := 10, ground := (Ground.textOnly Departure.lateStores) }]).op, none⟩,
      ⟨(opAssign (some 10) (.tmp 52) 3 "law.go:119" #[{ on := 9, ground := Ground.data }, { on := 11, ground := Ground.chain }, { on := 0, ground := Ground.phase }, { on := 1, ground := Ground.phase }, { on := 2, ground := Ground.phase }, { on := 3, ground := Ground.phase }, { on := 4, ground := Ground.phase }, { on := 5, ground := Ground.phase }, { on := 6, ground := Ground.phase }, { on := 7, ground := Ground.phase }, { on := 8, ground := Ground.phase }, { on := 9, ground := Ground.phase }, { on := 10, ground := (Ground.textOnly Departure.lateStores) }, { on := 11, ground := Ground.phase }]).op, none⟩,
      ⟨(opAssign (some 11) (.tmp 53) 4 "law.go:119" #[{ on := 10, ground := Ground.data }, { on := 12, ground := Ground.chain }, { on := 0, ground := Ground.phase }, { on := 1, ground := Ground.phase }, { on := 2, ground := Ground.phase }, { on := 3, ground := Ground.phase }, { on := 4, ground := Ground.phase }, { on := 5, ground := Ground.phase }, { on := 6, ground := Ground.phase }, { on := 7, ground := Ground.phase }, { on := 8, ground := Ground.phase }, { on := 9, ground := Ground.phase }, { on := 10, ground := Ground.phase }, { on := 11, ground := Ground.phase }, { on := 12, ground := Ground.phase }]).op, none⟩
    ] (by kernel_rfl)))
    (.seq (.live [0, 1, 2, 7, 8, 9, 54] (.region 10 [
      ⟨(opMove (some 54) (.tmp 11) 4 "law.go:120" #[]).op, none⟩
    ] (by kernel_rfl)))
    (.cond (.tmp 54)
      (.live [0, 1, 2, 7, 8] (.region 11 [
        ⟨(opMove (some 55) (.tmp 9) 25 "law.go:121" #[]).op, none⟩,
        ⟨(opAssign (some 7) (.tmp 55) 25 "law.go:121" #[{ on := 0, ground := Ground.data }, { on := 0, ground := Ground.phase }]).op, none⟩
      ] (by kernel_rfl)))
      .skip))))
  (.live [0, 1, 2, 7, 8] (.region 8 [
    ⟨(opMove (some 41) (.tmp 8) 3 "law.go:118" #[]).op, none⟩,
    ⟨(opBin (some 42) .add 3 (.tmp 41) (.const (Value.int IntKind.i64 1)) 3 3 "law.go:118" #[{ on := 0, ground := Ground.data }]).op, none⟩,
    ⟨(opAssign (some 8) (.tmp 42) 3 "law.go:118" #[{ on := 1, ground := Ground.data }, { on := 0, ground := Ground.phase }, { on := 1, ground := Ground.phase }]).op, none⟩
  ] (by kernel_rfl)))))

/-- A loop's round; at its head live: 1 , 2 , 7 , 12 , 16 , 17  -/
noncomputable def f5_l1 : Sim Try.prog :=
  (.seq (.seq (.live [1, 2, 7, 12, 16, 17, 92] (.region 20 [
    ⟨(opMove (some 89) (.tmp 17) 3 "law.go:133" #[]).op, none⟩,
    ⟨(opMove (some 90) (.tmp 16) 38 "law.go:133" #[]).op, none⟩,
    ⟨(opLen (some 91) (.tmp 90) 38 (.slice 3) Try.underlying38 3 "law.go:133" #[{ on := 1, ground := Ground.data }]).op, none⟩,
    ⟨(opBin (some 92) .lss 3 (.tmp 89) (.tmp 91) 3 4 "law.go:133" #[{ on := 0, ground := Ground.data }, { on := 2, ground := Ground.data }]).op, none⟩
  ] (by kernel_rfl)))
  (.cond (.tmp 92)
    .skip
    (.live [1, 2, 12] (.exit 2))))
  (.seq (.block 3 (.seq (.live [1, 2, 7, 12, 16, 17, 18] (.region 22 [
      ⟨(opMove (some 96) (.tmp 7) 25 "law.go:134" #[]).op, none⟩,
      ⟨(opMove (some 97) (.tmp 16) 38 "law.go:134" #[]).op, none⟩,
      ⟨(opMove (some 98) (.tmp 17) 3 "law.go:134" #[]).op, none⟩,
      ⟨(opIndexAddrT (some 99) 38 (.tmp 97) (.tmp 98) 3 1 Try.underlying38 sz3 0 "law.go:134" #[{ on := 1, ground := Ground.data }, { on := 2, ground := Ground.data }]).op, none⟩,
      ⟨(opLoadT (.one (.int .i64)) (some 100) 3 (.tmp 99) (.int .i64) Try.underlying3 1 sz3 (by kernel_rfl) 3 "law.go:134" #[{ on := 3, ground := Ground.data }]).op, none⟩,
      ⟨(opCallP p15 (some 101) [(.tmp 96), (.tmp 100)] #[25, 3] 30 "law.go:134" #[{ on := 0, ground := Ground.data }, { on := 4, ground := Ground.data }]).op, none⟩,
      ⟨(opMove (some 95) (.tmp 101) 30 "law.go:134" #[{ on := 5, ground := Ground.data }]).op, none⟩,
      ⟨(opExtract (some 102) (.tmp 95) 0 25 "law.go:134" #[{ on := 6, ground := Ground.data }]).op, none⟩,
      ⟨(opExtract (some 103) (.tmp 95) 1 4 "law.go:134" #[{ on := 6, ground := Ground.data }, { on := 9, ground := (Ground.gcOnly Departure.lateStores) }]).op, none⟩,
      ⟨(opAssign (some 18) (.tmp 102) 25 "law.go:134" #[{ on := 7, ground := Ground.data }, { on := 5, ground := Ground.chain }, { on := 0, ground := Ground.phase }, { on := 1, ground := Ground.phase }, { on := 2, ground := Ground.phase }, { on := 3, ground := Ground.phase }, { on := 4, ground := Ground.phase }, { on := 5, ground := Ground.phase }, { on := 6, ground := Ground.phase }, { on := 7, ground := Ground.phase }, { on := 8, ground := (Ground.textOnly Departure.lateStores) }]).op, none⟩,
      ⟨(opAssign (some 19) (.tmp 103) 4 "law.go:134" #[{ on := 8, ground := Ground.data }, { on := 9, ground := Ground.chain }, { on := 0, ground := Ground.phase }, { on := 1, ground := Ground.phase }, { on := 2, ground := Ground.phase }, { on := 3, ground := Ground.phase }, { on := 4, ground := Ground.phase }, { on := 5, ground := Ground.phase }, { on := 6, ground := Ground.phase }, { on := 7, ground := Ground.phase }, { on := 8, ground := Ground.phase }, { on := 9, ground := Ground.phase }]).op, none⟩
    ] (by kernel_rfl)))
    (.seq (.live [1, 2, 7, 12, 16, 17, 18, 20, 21] (.region 23 [
      ⟨(opMove (some 105) (.tmp 12) 25 "law.go:135" #[]).op, none⟩,
      ⟨(opMove (some 106) (.tmp 16) 38 "law.go:135" #[]).op, none⟩,
      ⟨(opMove (some 107) (.tmp 17) 3 "law.go:135" #[]).op, none⟩,
      ⟨(opIndexAddrT (some 108) 38 (.tmp 106) (.tmp 107) 3 1 Try.underlying38 sz3 0 "law.go:135" #[{ on := 1, ground := Ground.data }, { on := 2, ground := Ground.data }]).op, none⟩,
      ⟨(opLoadT (.one (.int .i64)) (some 109) 3 (.tmp 108) (.int .i64) Try.underlying3 1 sz3 (by kernel_rfl) 3 "law.go:135" #[{ on := 3, ground := Ground.data }]).op, none⟩,
      ⟨(opCallP p15 (some 110) [(.tmp 105), (.tmp 109)] #[25, 3] 30 "law.go:135" #[{ on := 0, ground := Ground.data }, { on := 4, ground := Ground.data }]).op, none⟩,
      ⟨(opMove (some 104) (.tmp 110) 30 "law.go:135" #[{ on := 5, ground := Ground.data }]).op, none⟩,
      ⟨(opExtract (some 111) (.tmp 104) 0 25 "law.go:135" #[{ on := 6, ground := Ground.data }]).op, none⟩,
      ⟨(opExtract (some 112) (.tmp 104) 1 4 "law.go:135" #[{ on := 6, ground := Ground.data }, { on := 9, ground := (Ground.gcOnly Departure.lateStores) }]).op, none⟩,
      ⟨(opAssign (some 20) (.tmp 111) 25 "law.go:135" #[{ on := 7, ground := Ground.data }, { on := 5, ground := Ground.chain }, { on := 0, ground := Ground.phase }, { on := 1, ground := Ground.phase }, { on := 2, ground := Ground.phase }, { on := 3, ground := Ground.phase }, { on := 4, ground := Ground.phase }, { on := 5, ground := Ground.phase }, { on := 6, ground := Ground.phase }, { on := 7, ground := Ground.phase }, { on := 8, ground := (Ground.textOnly Departure.lateStores) }]).op, none⟩,
      ⟨(opAssign (some 21) (.tmp 112) 4 "law.go:135" #[{ on := 8, ground := Ground.data }, { on := 9, ground := Ground.chain }, { on := 0, ground := Ground.phase }, { on := 1, ground := Ground.phase }, { on := 2, ground := Ground.phase }, { on := 3, ground := Ground.phase }, { on := 4, ground := Ground.phase }, { on := 5, ground := Ground.phase }, { on := 6, ground := Ground.phase }, { on := 7, ground := Ground.phase }, { on := 8, ground := Ground.phase }, { on := 9, ground := Ground.phase }]).op, none⟩
    ] (by kernel_rfl)))
    (.seq (.live [1, 2, 7, 12, 16, 17, 128] (.region 24 [
      ⟨(opMove (some 113) (.tmp 16) 38 "law.go:136" #[]).op, none⟩,
      ⟨(opMove (some 114) (.tmp 17) 3 "law.go:136" #[]).op, none⟩,
      ⟨(opIndexAddrT (some 115) 38 (.tmp 113) (.tmp 114) 3 1 Try.underlying38 sz3 0 "law.go:136" #[{ on := 0, ground := Ground.data }, { on := 1, ground := Ground.data }]).op, none⟩,
      ⟨(opLoadT (.one (.int .i64)) (some 116) 3 (.tmp 115) (.int .i64) Try.underlying3 1 sz3 (by kernel_rfl) 3 "law.go:136" #[{ on := 2, ground := Ground.data }]).op, none⟩,
      ⟨(opMove (some 117) (.tmp 1) 3 "law.go:136" #[]).op, none⟩,
      ⟨(opBin (some 118) .neq 3 (.tmp 116) (.tmp 117) 3 4 "law.go:136" #[{ on := 3, ground := Ground.data }, { on := 4, ground := Ground.data }]).op, none⟩,
      ⟨(opMove (some 119) (.tmp 118) 4 "law.go:136" #[{ on := 5, ground := Ground.data }]).op, none⟩,
      ⟨(opMove (some 120) (.tmp 21) 4 "law.go:136" #[{ on := 6, ground := Ground.guard }]).op, (some (6, 119, true))⟩,
      ⟨(opNot (some 121) 4 (.tmp 120) 4 "law.go:136" #[{ on := 7, ground := Ground.data }, { on := 6, ground := Ground.guard }]).op, (some (6, 119, true))⟩,
      ⟨(opMove (some 122) (.tmp 121) 4 "law.go:136" #[{ on := 8, ground := Ground.data }, { on := 6, ground := Ground.chain }, { on := 6, ground := Ground.guard }]).op, (some (6, 119, true))⟩,
      ⟨(opMove (some 123) (.tmp 18) 25 "law.go:136" #[{ on := 9, ground := Ground.guard }]).op, (some (9, 122, false))⟩,
      ⟨(opMove (some 124) (.tmp 20) 25 "law.go:136" #[{ on := 9, ground := Ground.guard }]).op, (some (9, 122, false))⟩,
      ⟨(opCallP p12 (some 125) [(.tmp 123), (.tmp 124)] #[25, 25] 4 "law.go:136" #[{ on := 10, ground := Ground.data }, { on := 11, ground := Ground.data }, { on := 9, ground := Ground.chain }, { on := 9, ground := Ground.guard }]).op, (some (9, 122, false))⟩,
      ⟨(opNot (some 126) 4 (.tmp 125) 4 "law.go:136" #[{ on := 12, ground := Ground.data }, { on := 9, ground := Ground.guard }]).op, (some (9, 122, false))⟩,
      ⟨(opPick (some 127) (.tmp 122) (.const (Value.bool true)) (.tmp 126) 4 "law.go:136" #[{ on := 9, ground := Ground.data }, { on := 13, ground := Ground.data }, { on := 6, ground := Ground.guard }]).op, (some (6, 119, true))⟩,
      ⟨(opPick (some 128) (.tmp 119) (.tmp 127) (.const (Value.bool false)) 4 "law.go:136" #[{ on := 6, ground := Ground.data }, { on := 14, ground := Ground.data }]).op, none⟩
    ] (by kernel_rfl)))
    (.cond (.tmp 128)
      (.seq (.live [6] (.region 25 [
        ⟨(opAssign (some 6) (.const (Value.bool false)) 4 "law.go:137" #[]).op, none⟩
      ] (by kernel_rfl)))
      (.live [6] .ret))
      .skip)))))
  (.live [1, 2, 7, 12, 16, 17] (.region 21 [
    ⟨(opMove (some 93) (.tmp 17) 3 "law.go:133" #[]).op, none⟩,
    ⟨(opBin (some 94) .add 3 (.tmp 93) (.const (Value.int IntKind.i64 1)) 3 3 "law.go:133" #[{ on := 0, ground := Ground.data }]).op, none⟩,
    ⟨(opAssign (some 17) (.tmp 94) 3 "law.go:133" #[{ on := 1, ground := Ground.data }, { on := 0, ground := Ground.phase }, { on := 1, ground := Ground.phase }]).op, none⟩
  ] (by kernel_rfl)))))

/-- What follows a loop. -/
noncomputable def f5_r0 : Sim Try.prog :=
  (.seq (.live [1, 2, 12, 15, 22] (.region 26 [
    ⟨(opMove (some 130) (.tmp 12) 25 "law.go:140" #[]).op, none⟩,
    ⟨(opMove (some 131) (.tmp 1) 3 "law.go:140" #[]).op, none⟩,
    ⟨(opCallP p18 (some 132) [(.tmp 130), (.tmp 131)] #[25, 3] 30 "law.go:140" #[{ on := 0, ground := Ground.data }, { on := 1, ground := Ground.data }]).op, none⟩,
    ⟨(opMove (some 129) (.tmp 132) 30 "law.go:140" #[{ on := 2, ground := Ground.data }]).op, none⟩,
    ⟨(opExtract (some 133) (.tmp 129) 0 25 "law.go:140" #[{ on := 3, ground := Ground.data }]).op, none⟩,
    ⟨(opExtract (some 134) (.tmp 129) 1 4 "law.go:140" #[{ on := 3, ground := Ground.data }, { on := 6, ground := (Ground.gcOnly Departure.lateStores) }]).op, none⟩,
    ⟨(opAssign (some 22) (.tmp 133) 25 "law.go:140" #[{ on := 4, ground := Ground.data }, { on := 2, ground := Ground.chain }, { on := 0, ground := Ground.phase }, { on := 1, ground := Ground.phase }, { on := 2, ground := Ground.phase }, { on := 3, ground := Ground.phase }, { on := 4, ground := Ground.phase }, { on := 5, ground := (Ground.textOnly Departure.lateStores) }]).op, none⟩,
    ⟨(opAssign (some 15) (.tmp 134) 4 "law.go:140" #[{ on := 5, ground := Ground.data }, { on := 6, ground := Ground.chain }, { on := 0, ground := Ground.phase }, { on := 1, ground := Ground.phase }, { on := 2, ground := Ground.phase }, { on := 3, ground := Ground.phase }, { on := 4, ground := Ground.phase }, { on := 5, ground := Ground.phase }, { on := 6, ground := Ground.phase }]).op, none⟩
  ] (by kernel_rfl)))
  (.seq (.live [1, 2, 12, 15, 22, 24] (.region 27 [
    ⟨(opMove (some 136) (.tmp 22) 25 "law.go:141" #[]).op, none⟩,
    ⟨(opMove (some 137) (.tmp 1) 3 "law.go:141" #[]).op, none⟩,
    ⟨(opCallP p15 (some 138) [(.tmp 136), (.tmp 137)] #[25, 3] 30 "law.go:141" #[{ on := 0, ground := Ground.data }, { on := 1, ground := Ground.data }]).op, none⟩,
    ⟨(opMove (some 135) (.tmp 138) 30 "law.go:141" #[{ on := 2, ground := Ground.data }]).op, none⟩,
    ⟨(opExtract (some 139) (.tmp 135) 0 25 "law.go:141" #[{ on := 3, ground := Ground.data }]).op, none⟩,
    ⟨(opExtract (some 140) (.tmp 135) 1 4 "law.go:141" #[{ on := 3, ground := Ground.data }, { on := 6, ground := (Ground.gcOnly Departure.lateStores) }]).op, none⟩,
    ⟨(opAssign (some 23) (.tmp 139) 25 "law.go:141" #[{ on := 4, ground := Ground.data }, { on := 2, ground := Ground.chain }, { on := 0, ground := Ground.phase }, { on := 1, ground := Ground.phase }, { on := 2, ground := Ground.phase }, { on := 3, ground := Ground.phase }, { on := 4, ground := Ground.phase }, { on := 5, ground := (Ground.textOnly Departure.lateStores) }]).op, none⟩,
    ⟨(opAssign (some 24) (.tmp 140) 4 "law.go:141" #[{ on := 5, ground := Ground.data }, { on := 6, ground := Ground.chain }, { on := 0, ground := Ground.phase }, { on := 1, ground := Ground.phase }, { on := 2, ground := Ground.phase }, { on := 3, ground := Ground.phase }, { on := 4, ground := Ground.phase }, { on := 5, ground := Ground.phase }, { on := 6, ground := Ground.phase }]).op, none⟩
  ] (by kernel_rfl)))
  (.seq (.live [12, 15, 24, 25, 26] (.region 28 [
    ⟨(opMove (some 142) (.tmp 22) 25 "law.go:142" #[]).op, none⟩,
    ⟨(opMove (some 143) (.tmp 1) 3 "law.go:142" #[]).op, none⟩,
    ⟨(opMove (some 144) (.tmp 2) 25 "law.go:142" #[]).op, none⟩,
    ⟨(opCallP p11 (some 145) [(.tmp 142), (.tmp 143), (.tmp 144)] #[25, 3, 25] 30 "law.go:142" #[{ on := 0, ground := Ground.data }, { on := 1, ground := Ground.data }, { on := 2, ground := Ground.data }]).op, none⟩,
    ⟨(opMove (some 141) (.tmp 145) 30 "law.go:142" #[{ on := 3, ground := Ground.data }]).op, none⟩,
    ⟨(opExtract (some 146) (.tmp 141) 0 25 "law.go:142" #[{ on := 4, ground := Ground.data }]).op, none⟩,
    ⟨(opExtract (some 147) (.tmp 141) 1 4 "law.go:142" #[{ on := 4, ground := Ground.data }, { on := 7, ground := (Ground.gcOnly Departure.lateStores) }]).op, none⟩,
    ⟨(opAssign (some 25) (.tmp 146) 25 "law.go:142" #[{ on := 5, ground := Ground.data }, { on := 3, ground := Ground.chain }, { on := 0, ground := Ground.phase }, { on := 1, ground := Ground.phase }, { on := 2, ground := Ground.phase }, { on := 3, ground := Ground.phase }, { on := 4, ground := Ground.phase }, { on := 5, ground := Ground.phase }, { on := 6, ground := (Ground.textOnly Departure.lateStores) }]).op, none⟩,
    ⟨(opAssign (some 26) (.tmp 147) 4 "law.go:142" #[{ on := 6, ground := Ground.data }, { on := 7, ground := Ground.chain }, { on := 0, ground := Ground.phase }, { on := 1, ground := Ground.phase }, { on := 2, ground := Ground.phase }, { on := 3, ground := Ground.phase }, { on := 4, ground := Ground.phase }, { on := 5, ground := Ground.phase }, { on := 6, ground := Ground.phase }, { on := 7, ground := Ground.phase }]).op, none⟩
  ] (by kernel_rfl)))
  (.seq (.live [6] (.region 29 [
    ⟨(opMove (some 148) (.tmp 15) 4 "law.go:143" #[]).op, none⟩,
    ⟨(opMove (some 149) (.tmp 148) 4 "law.go:143" #[{ on := 0, ground := Ground.data }]).op, none⟩,
    ⟨(opMove (some 150) (.tmp 24) 4 "law.go:143" #[{ on := 1, ground := Ground.guard }]).op, (some (1, 149, true))⟩,
    ⟨(opNot (some 151) 4 (.tmp 150) 4 "law.go:143" #[{ on := 2, ground := Ground.data }, { on := 1, ground := Ground.guard }]).op, (some (1, 149, true))⟩,
    ⟨(opPick (some 152) (.tmp 149) (.tmp 151) (.const (Value.bool false)) 4 "law.go:143" #[{ on := 1, ground := Ground.data }, { on := 3, ground := Ground.data }]).op, none⟩,
    ⟨(opMove (some 153) (.tmp 152) 4 "law.go:143" #[{ on := 4, ground := Ground.data }, { on := 1, ground := Ground.chain }]).op, none⟩,
    ⟨(opMove (some 154) (.tmp 26) 4 "law.go:143" #[{ on := 5, ground := Ground.guard }]).op, (some (5, 153, true))⟩,
    ⟨(opPick (some 155) (.tmp 153) (.tmp 154) (.const (Value.bool false)) 4 "law.go:143" #[{ on := 5, ground := Ground.data }, { on := 6, ground := Ground.data }]).op, none⟩,
    ⟨(opMove (some 156) (.tmp 155) 4 "law.go:143" #[{ on := 7, ground := Ground.data }, { on := 5, ground := Ground.chain }]).op, none⟩,
    ⟨(opMove (some 157) (.tmp 25) 25 "law.go:143" #[{ on := 8, ground := Ground.guard }]).op, (some (8, 156, true))⟩,
    ⟨(opMove (some 158) (.tmp 12) 25 "law.go:143" #[{ on := 8, ground := Ground.guard }]).op, (some (8, 156, true))⟩,
    ⟨(opCallP p12 (some 159) [(.tmp 157), (.tmp 158)] #[25, 25] 4 "law.go:143" #[{ on := 9, ground := Ground.data }, { on := 10, ground := Ground.data }, { on := 8, ground := Ground.chain }, { on := 8, ground := Ground.guard }]).op, (some (8, 156, true))⟩,
    ⟨(opPick (some 160) (.tmp 156) (.tmp 159) (.const (Value.bool false)) 4 "law.go:143" #[{ on := 8, ground := Ground.data }, { on := 11, ground := Ground.data }]).op, none⟩,
    ⟨(opAssign (some 6) (.tmp 160) 4 "law.go:143" #[{ on := 12, ground := Ground.data }, { on := 11, ground := Ground.chain }, { on := 0, ground := Ground.phase }, { on := 1, ground := Ground.phase }, { on := 2, ground := Ground.phase }, { on := 3, ground := Ground.phase }, { on := 4, ground := Ground.phase }, { on := 5, ground := Ground.phase }, { on := 6, ground := Ground.phase }, { on := 7, ground := Ground.phase }, { on := 8, ground := Ground.phase }, { on := 9, ground := Ground.phase }, { on := 10, ground := Ground.phase }, { on := 11, ground := Ground.phase }, { on := 12, ground := Ground.phase }]).op, none⟩
  ] (by kernel_rfl)))
  (.live [6] .ret)))))

/-- What follows a loop. -/
noncomputable def f5_r1 : Sim Try.prog :=
  (.seq (.live [1, 2, 7, 12, 13] (.region 12 [
    ⟨(opMove (some 57) (.tmp 7) 25 "law.go:124" #[]).op, none⟩,
    ⟨(opMove (some 58) (.tmp 1) 3 "law.go:124" #[]).op, none⟩,
    ⟨(opMove (some 59) (.tmp 2) 25 "law.go:124" #[]).op, none⟩,
    ⟨(opCallP p11 (some 60) [(.tmp 57), (.tmp 58), (.tmp 59)] #[25, 3, 25] 30 "law.go:124" #[{ on := 0, ground := Ground.data }, { on := 1, ground := Ground.data }, { on := 2, ground := Ground.data }]).op, none⟩,
    ⟨(opMove (some 56) (.tmp 60) 30 "law.go:124" #[{ on := 3, ground := Ground.data }]).op, none⟩,
    ⟨(opExtract (some 61) (.tmp 56) 0 25 "law.go:124" #[{ on := 4, ground := Ground.data }]).op, none⟩,
    ⟨(opExtract (some 62) (.tmp 56) 1 4 "law.go:124" #[{ on := 4, ground := Ground.data }, { on := 7, ground := (Ground.gcOnly Departure.lateStores) }]).op, none⟩,
    ⟨(opAssign (some 12) (.tmp 61) 25 "law.go:124" #[{ on := 5, ground := Ground.data }, { on := 3, ground := Ground.chain }, { on := 0, ground := Ground.phase }, { on := 1, ground := Ground.phase }, { on := 2, ground := Ground.phase }, { on := 3, ground := Ground.phase }, { on := 4, ground := Ground.phase }, { on := 5, ground := Ground.phase }, { on := 6, ground := (Ground.textOnly Departure.lateStores) }]).op, none⟩,
    ⟨(opAssign (some 13) (.tmp 62) 4 "law.go:124" #[{ on := 6, ground := Ground.data }, { on := 7, ground := Ground.chain }, { on := 0, ground := Ground.phase }, { on := 1, ground := Ground.phase }, { on := 2, ground := Ground.phase }, { on := 3, ground := Ground.phase }, { on := 4, ground := Ground.phase }, { on := 5, ground := Ground.phase }, { on := 6, ground := Ground.phase }, { on := 7, ground := Ground.phase }]).op, none⟩
  ] (by kernel_rfl)))
  (.seq (.seq (.live [1, 2, 7, 12, 64] (.region 13 [
    ⟨(opMove (some 63) (.tmp 13) 4 "law.go:125" #[]).op, none⟩,
    ⟨(opNot (some 64) 4 (.tmp 63) 4 "law.go:125" #[{ on := 0, ground := Ground.data }]).op, none⟩
  ] (by kernel_rfl)))
  (.cond (.tmp 64)
    (.seq (.live [6] (.region 14 [
      ⟨(opMove (some 65) (.tmp 12) 25 "law.go:126" #[]).op, none⟩,
      ⟨(opLen (some 66) (.tmp 65) 25 (.slice 5) Try.underlying25 3 "law.go:126" #[{ on := 0, ground := Ground.data }]).op, none⟩,
      ⟨(opBin (some 67) .eql 3 (.tmp 66) (.const (Value.int IntKind.i64 0)) 3 4 "law.go:126" #[{ on := 1, ground := Ground.data }]).op, none⟩,
      ⟨(opAssign (some 6) (.tmp 67) 4 "law.go:126" #[{ on := 2, ground := Ground.data }, { on := 0, ground := Ground.phase }, { on := 1, ground := Ground.phase }, { on := 2, ground := Ground.phase }]).op, none⟩
    ] (by kernel_rfl)))
    (.live [6] .ret))
    .skip))
  (.seq (.live [1, 2, 7, 12, 14, 15] (.region 15 [
    ⟨(opMove (some 69) (.tmp 12) 25 "law.go:128" #[]).op, none⟩,
    ⟨(opMove (some 70) (.tmp 1) 3 "law.go:128" #[]).op, none⟩,
    ⟨(opCallP p15 (some 71) [(.tmp 69), (.tmp 70)] #[25, 3] 30 "law.go:128" #[{ on := 0, ground := Ground.data }, { on := 1, ground := Ground.data }]).op, none⟩,
    ⟨(opMove (some 68) (.tmp 71) 30 "law.go:128" #[{ on := 2, ground := Ground.data }]).op, none⟩,
    ⟨(opExtract (some 72) (.tmp 68) 0 25 "law.go:128" #[{ on := 3, ground := Ground.data }]).op, none⟩,
    ⟨(opExtract (some 73) (.tmp 68) 1 4 "law.go:128" #[{ on := 3, ground := Ground.data }, { on := 6, ground := (Ground.gcOnly Departure.lateStores) }]).op, none⟩,
    ⟨(opAssign (some 14) (.tmp 72) 25 "law.go:128" #[{ on := 4, ground := Ground.data }, { on := 2, ground := Ground.chain }, { on := 0, ground := Ground.phase }, { on := 1, ground := Ground.phase }, { on := 2, ground := Ground.phase }, { on := 3, ground := Ground.phase }, { on := 4, ground := Ground.phase }, { on := 5, ground := (Ground.textOnly Departure.lateStores) }]).op, none⟩,
    ⟨(opAssign (some 15) (.tmp 73) 4 "law.go:128" #[{ on := 5, ground := Ground.data }, { on := 6, ground := Ground.chain }, { on := 0, ground := Ground.phase }, { on := 1, ground := Ground.phase }, { on := 2, ground := Ground.phase }, { on := 3, ground := Ground.phase }, { on := 4, ground := Ground.phase }, { on := 5, ground := Ground.phase }, { on := 6, ground := Ground.phase }]).op, none⟩
  ] (by kernel_rfl)))
  (.seq (.seq (.live [1, 2, 7, 12, 86] (.region 16 [
    ⟨(opMove (some 74) (.tmp 15) 4 "law.go:129" #[]).op, none⟩,
    ⟨(opNot (some 75) 4 (.tmp 74) 4 "law.go:129" #[{ on := 0, ground := Ground.data }]).op, none⟩,
    ⟨(opMove (some 76) (.tmp 75) 4 "law.go:129" #[{ on := 1, ground := Ground.data }]).op, none⟩,
    ⟨(opMove (some 77) (.tmp 14) 25 "law.go:129" #[{ on := 2, ground := Ground.guard }]).op, (some (2, 76, false))⟩,
    ⟨(opMove (some 78) (.tmp 2) 25 "law.go:129" #[{ on := 2, ground := Ground.guard }]).op, (some (2, 76, false))⟩,
    ⟨(opCallP p12 (some 79) [(.tmp 77), (.tmp 78)] #[25, 25] 4 "law.go:129" #[{ on := 3, ground := Ground.data }, { on := 4, ground := Ground.data }, { on := 2, ground := Ground.chain }, { on := 2, ground := Ground.guard }]).op, (some (2, 76, false))⟩,
    ⟨(opNot (some 80) 4 (.tmp 79) 4 "law.go:129" #[{ on := 5, ground := Ground.data }, { on := 2, ground := Ground.guard }]).op, (some (2, 76, false))⟩,
    ⟨(opPick (some 81) (.tmp 76) (.const (Value.bool true)) (.tmp 80) 4 "law.go:129" #[{ on := 2, ground := Ground.data }, { on := 6, ground := Ground.data }]).op, none⟩,
    ⟨(opMove (some 82) (.tmp 81) 4 "law.go:129" #[{ on := 7, ground := Ground.data }, { on := 5, ground := Ground.chain }]).op, none⟩,
    ⟨(opMove (some 83) (.tmp 12) 25 "law.go:129" #[{ on := 8, ground := Ground.guard }]).op, (some (8, 82, false))⟩,
    ⟨(opCallP p16 (some 84) [(.tmp 83)] #[25] 4 "law.go:129" #[{ on := 9, ground := Ground.data }, { on := 8, ground := Ground.chain }, { on := 8, ground := Ground.guard }]).op, (some (8, 82, false))⟩,
    ⟨(opNot (some 85) 4 (.tmp 84) 4 "law.go:129" #[{ on := 10, ground := Ground.data }, { on := 8, ground := Ground.guard }]).op, (some (8, 82, false))⟩,
    ⟨(opPick (some 86) (.tmp 82) (.const (Value.bool true)) (.tmp 85) 4 "law.go:129" #[{ on := 8, ground := Ground.data }, { on := 11, ground := Ground.data }]).op, none⟩
  ] (by kernel_rfl)))
  (.cond (.tmp 86)
    (.seq (.live [6] (.region 17 [
      ⟨(opAssign (some 6) (.const (Value.bool false)) 4 "law.go:130" #[]).op, none⟩
    ] (by kernel_rfl)))
    (.live [6] .ret))
    .skip))
  (.seq (.live [1, 2, 7, 12, 16] (.region 18 [
    ⟨(opMove (some 87) (.tmp 7) 25 "law.go:132" #[]).op, none⟩,
    ⟨(opCallP p17 (some 88) [(.tmp 87)] #[25] 38 "law.go:132" #[{ on := 0, ground := Ground.data }]).op, none⟩,
    ⟨(opAssign (some 16) (.tmp 88) 38 "law.go:132" #[{ on := 1, ground := Ground.data }, { on := 1, ground := Ground.chain }, { on := 0, ground := Ground.phase }, { on := 1, ground := Ground.phase }]).op, none⟩
  ] (by kernel_rfl)))
  (.seq (.seq (.live [1, 2, 7, 12, 16, 17] (.region 19 [
    ⟨(opAssign (some 17) (.const (Value.int IntKind.i64 0)) 3 "law.go:133" #[]).op, none⟩
  ] (by kernel_rfl)))
  (.block 2 (.loop [1, 2, 7, 12, 16, 17] f5_l1)))
  f5_r0))))))

noncomputable def f5_b : Sim Try.prog :=
  (.seq (.live [0, 1, 2] (.region 0 [
    ⟨(opAssign (some 6) (.const (Value.bool false)) 4 "law.go:110" #[]).op, none⟩
  ] (by kernel_rfl)))
  (.seq (.seq (.live [0, 1, 2, 28] (.region 1 [
    ⟨(opCallP p8 (some 27) [] #[] 4 "law.go:111" #[]).op, none⟩,
    ⟨(opNot (some 28) 4 (.tmp 27) 4 "law.go:111" #[{ on := 0, ground := Ground.data }]).op, none⟩
  ] (by kernel_rfl)))
  (.cond (.tmp 28)
    (.seq (.live [6] (.region 2 [
      ⟨(opAssign (some 6) (.const (Value.bool false)) 4 "law.go:112" #[]).op, none⟩
    ] (by kernel_rfl)))
    (.live [6] .ret))
    .skip))
  (.seq (.seq (.live [0, 1, 2, 35] (.region 3 [
    ⟨(opMove (some 29) (.tmp 0) 22 "law.go:114" #[]).op, none⟩,
    ⟨(opCallP p9 (some 30) [(.tmp 29)] #[22] 4 "law.go:114" #[{ on := 0, ground := Ground.data }]).op, none⟩,
    ⟨(opMove (some 31) (.tmp 30) 4 "law.go:114" #[{ on := 1, ground := Ground.data }, { on := 1, ground := Ground.chain }]).op, none⟩,
    ⟨(opMove (some 32) (.tmp 2) 25 "law.go:114" #[{ on := 2, ground := Ground.guard }]).op, (some (2, 31, false))⟩,
    ⟨(opLen (some 33) (.tmp 32) 25 (.slice 5) Try.underlying25 3 "law.go:114" #[{ on := 3, ground := Ground.data }, { on := 2, ground := Ground.guard }]).op, (some (2, 31, false))⟩,
    ⟨(opBin (some 34) .gtr 3 (.tmp 33) (.const (Value.int IntKind.i64 1000)) 3 4 "law.go:114" #[{ on := 4, ground := Ground.data }, { on := 2, ground := Ground.guard }]).op, (some (2, 31, false))⟩,
    ⟨(opPick (some 35) (.tmp 31) (.const (Value.bool true)) (.tmp 34) 4 "law.go:114" #[{ on := 2, ground := Ground.data }, { on := 5, ground := Ground.data }]).op, none⟩
  ] (by kernel_rfl)))
  (.cond (.tmp 35)
    (.seq (.live [6] (.region 4 [
      ⟨(opAssign (some 6) (.const (Value.bool true)) 4 "law.go:115" #[]).op, none⟩
    ] (by kernel_rfl)))
    (.live [6] .ret))
    .skip))
  (.seq (.live [0, 1, 2, 7] (.region 5 [
    ⟨(opCallP p10 (some 36) [] #[] 25 "law.go:117" #[]).op, none⟩,
    ⟨(opAssign (some 7) (.tmp 36) 25 "law.go:117" #[{ on := 0, ground := Ground.data }, { on := 0, ground := Ground.chain }, { on := 0, ground := Ground.phase }]).op, none⟩
  ] (by kernel_rfl)))
  (.seq (.seq (.live [0, 1, 2, 7, 8] (.region 6 [
    ⟨(opAssign (some 8) (.const (Value.int IntKind.i64 0)) 3 "law.go:118" #[]).op, none⟩
  ] (by kernel_rfl)))
  (.block 0 (.loop [0, 1, 2, 7, 8] f5_l0)))
  f5_r1)))))

noncomputable def f5 : Fun Try.prog where
  id := 5
  fn := Try.f5
  hf := Try.func5
  hname := by kernel_rfl
  body := f5_b
  hbody := by kernel_rfl
  res := [rTmp 6]
  hres := by kernel_rfl
  n := 161
  hn := by kernel_rfl

end Go.Proofs.Ytblliolkgkgppaa.V

/- What the functions' runs come to; the right sides were printed by a tool, Lean checks them. -/
set_option linter.unusedVariables false
set_option maxRecDepth 100000
namespace Go.Proofs.Ytblliolkgkgppaa.V
open Go Go.V Go.RowKit

theorem keeps_run (F : Nat) (z y : Bool) (l d : List (List AV)) (s : Int) :
    (f5.run F [.ns z 3 l, .int .i64 s, .ns y 1 d] ⟨[], []⟩ : Ans) =
    branch (AV.bool (okCl l))
      (branch (AV.bool (greatB l)) (some (Fin.ret (AV.bool true), St.mk [] []))
        (branch (AV.bool (decide ((↑d.length : Int) > (1000 : Int)))) (some (Fin.ret (AV.bool true), St.mk [] []))
          (loopRun (f5_l0.run F) [0, 1, 2, 7, 8]
            (Cont.block 0 (Cont.then (f5_r1.run F (f5.leaveK Fun.done)) (f5.leaveK Fun.done))) F
            (Env.mk 161
              [(0, AV.ns z 3 l), (1, AV.int IntKind.i64 s), (2, AV.ns y 1 d),
                (7, AV.ns false 1 (bR zeroP)), (8, AV.int IntKind.i64 (0 : Int))])
            (St.mk [] []))))
      none := by kernel_rfl

theorem keeps_round (F m : Nat) (K : Cont) (z y w : Bool) (l p d : List (List AV)) (i s : Int) :
    (loopRun (f5_l0.run F) [0, 1, 2, 7, 8] K m.succ (Env.mk 161 [(0, .ns z 3 l), (1, .int .i64 s), (2, .ns w 1 d), (7, .ns y 1 p), (8, .int .i64 i)]) ⟨[], []⟩ : Ans) =
    branch (AV.bool (decide (i < (↑l.length : Int))))
      (branch (AV.bool (inR l i))
        (branch (AV.bool ((LD.one (LT.ns 1)).is (List.drop 2 (V.rowAt l i))))
          (branch
            (AV.bool
              (byOk p &&
                (byOk (rwA (List.drop 2 (V.rowAt l i))) &&
                  apOk (rwA (List.drop 2 (V.rowAt l i))).length 1)))
            (branch (AV.bool (oB (addP (nR p) (nR (rwA (List.drop 2 (V.rowAt l i)))))))
              (loopRun (f5_l0.run F) [0, 1, 2, 7, 8] K m
                (Env.mk 161
                  [(0, AV.ns z 3 l), (1, AV.int IntKind.i64 s), (2, AV.ns w 1 d),
                    (7,
                      AV.ns (!oB (addP (nR p) (nR (rwA (List.drop 2 (V.rowAt l i)))))) 1
                        (oR (addP (nR p) (nR (rwA (List.drop 2 (V.rowAt l i))))))),
                    (8, AV.int IntKind.i64 (IntKind.i64.wrap (i + (1 : Int))))])
                (St.mk [] []))
              (loopRun (f5_l0.run F) [0, 1, 2, 7, 8] K m
                (Env.mk 161
                  [(0, AV.ns z 3 l), (1, AV.int IntKind.i64 s), (2, AV.ns w 1 d),
                    (7, AV.ns y 1 p), (8, AV.int IntKind.i64 (IntKind.i64.wrap (i + (1 : Int))))])
                (St.mk [] [])))
            none)
          none)
        none)
      (K (AX.exit 0)
        (Env.mk 161
          [(1, AV.int IntKind.i64 s), (2, AV.ns w 1 d), (7, AV.ns y 1 p)])
        (St.mk [] [])) := by kernel_rfl

theorem keeps_out (F : Nat) (y w : Bool) (p d : List (List AV)) (s : Int) :
    ((Cont.block 0 (Cont.then (f5_r1.run F (f5.leaveK Fun.done)) (f5.leaveK Fun.done))) (.exit 0) (Env.mk 161 [(1, .int .i64 s), (2, .ns w 1 d), (7, .ns y 1 p)]) ⟨[], []⟩ : Ans) =
    branch (AV.bool (byOk p && (byOk d && apOk d.length 1)))
      (branch (AV.bool !oB (putP (nR p) s (nR d)))
        (some (Fin.ret (AV.bool ((↑(oR (putP (nR p) s (nR d))).length : Int) == (0 : Int))), St.mk [] []))
        (branch (AV.bool (byOk (oR (putP (nR p) s (nR d)))))
          (branch (AV.bool !oB (getP (ofS (nR (oR (putP (nR p) s (nR d))))) s))
            (some (Fin.ret (AV.bool false), St.mk [] []))
            (branch (AV.bool (byOk (oR (getP (ofS (nR (oR (putP (nR p) s (nR d))))) s)) && byOk d))
              (branch (AV.bool !nR (oR (getP (ofS (nR (oR (putP (nR p) s (nR d))))) s)) == nR d)
                (some (Fin.ret (AV.bool false), St.mk [] []))
                (branch (AV.bool (byOk (oR (putP (nR p) s (nR d)))))
                  (branch (AV.bool !ofBo (nR (oR (putP (nR p) s (nR d))))) (some (Fin.ret (AV.bool false), St.mk [] []))
                    (branch (AV.bool (byOk p))
                      (loopRun (f5_l1.run F) [1, 2, 7, 12, 16, 17]
                        (Cont.block 2 (Cont.then (f5_r0.run F (f5.leaveK Fun.done)) (f5.leaveK Fun.done))) F
                        (Env.mk 161
                          [(1, AV.int IntKind.i64 s), (2, AV.ns w 1 d),
                            (7, AV.ns y 1 p),
                            (12, AV.ns (!oB (putP (nR p) s (nR d))) 1 (oR (putP (nR p) s (nR d)))),
                            (16, AV.ns (slotsE (nR p)) 1 (slotsA (nR p))),
                            (17, AV.int IntKind.i64 (0 : Int))])
                        (St.mk [] []))
                      none))
                  none))
              none))
          none))
      none := by kernel_rfl

theorem keeps_round2 (F m : Nat) (K : Cont) (y w v u : Bool) (p d q e : List (List AV)) (i s : Int) :
    (loopRun (f5_l1.run F) [1, 2, 7, 12, 16, 17] K m.succ (Env.mk 161 [(1, .int .i64 s), (2, .ns w 1 d), (7, .ns y 1 p), (12, .ns v 1 q), (16, .ns u 1 e), (17, .int .i64 i)]) ⟨[], []⟩ : Ans) =
    branch (AV.bool (decide (i < (↑e.length : Int))))
      (branch (AV.bool (inR e i))
        (branch (AV.bool ((LD.one (LT.int IntKind.i64)).is (V.rowAt e i)))
          (branch (AV.bool (byOk p))
            (branch (AV.bool (inR e i))
              (branch (AV.bool ((LD.one (LT.int IntKind.i64)).is (V.rowAt e i)))
                (branch (AV.bool (byOk q))
                  (branch (AV.bool (inR e i))
                    (branch (AV.bool ((LD.one (LT.int IntKind.i64)).is (V.rowAt e i)))
                      (branch (AV.bool (hdI (V.rowAt e i) != s))
                        (branch (AV.bool !oB (getP (ofS (nR q)) (hdI (V.rowAt e i))))
                          (K AX.ret (Env.mk 161 [(6, AV.bool false)]) (St.mk [] []))
                          (branch
                            (AV.bool
                              (byOk (oR (getP (ofS (nR p)) (hdI (V.rowAt e i)))) &&
                                byOk (oR (getP (ofS (nR q)) (hdI (V.rowAt e i))))))
                            (branch
                              (AV.bool
                                !nR (oR (getP (ofS (nR p)) (hdI (V.rowAt e i)))) ==
                                    nR (oR (getP (ofS (nR q)) (hdI (V.rowAt e i)))))
                              (K AX.ret (Env.mk 161 [(6, AV.bool false)]) (St.mk [] []))
                              (loopRun (f5_l1.run F) [1, 2, 7, 12, 16, 17] K
                                m
                                (Env.mk 161
                                  [(1, AV.int IntKind.i64 s), (2, AV.ns w 1 d),
                                    (7, AV.ns y 1 p), (12, AV.ns v 1 q),
                                    (16, AV.ns u 1 e),
                                    (17, AV.int IntKind.i64 (IntKind.i64.wrap (i + (1 : Int))))])
                                (St.mk [] [])))
                            none))
                        (loopRun (f5_l1.run F) [1, 2, 7, 12, 16, 17] K m
                          (Env.mk 161
                            [(1, AV.int IntKind.i64 s), (2, AV.ns w 1 d),
                              (7, AV.ns y 1 p), (12, AV.ns v 1 q),
                              (16, AV.ns u 1 e),
                              (17, AV.int IntKind.i64 (IntKind.i64.wrap (i + (1 : Int))))])
                          (St.mk [] [])))
                      none)
                    none)
                  none)
                none)
              none)
            none)
          none)
        none)
      (K (AX.exit 2)
        (Env.mk 161
          [(1, AV.int IntKind.i64 s), (2, AV.ns w 1 d), (12, AV.ns v 1 q)])
        (St.mk [] [])) := by kernel_rfl

theorem keeps_out2 (F : Nat) (w v : Bool) (d q : List (List AV)) (s : Int) :
    ((Cont.block 2 (Cont.then (f5_r0.run F (f5.leaveK Fun.done)) (f5.leaveK Fun.done))) (.exit 2) (Env.mk 161 [(1, .int .i64 s), (2, .ns w 1 d), (12, .ns v 1 q)]) ⟨[], []⟩ : Ans) =
    branch (AV.bool (byOk q))
      (branch (AV.bool (byOk (oR (cutP (nR q) s))))
        (branch (AV.bool (byOk (oR (cutP (nR q) s)) && (byOk d && apOk d.length 1)))
          (branch (AV.bool (oB (cutP (nR q) s)))
            (branch (AV.bool !oB (getP (ofS (nR (oR (cutP (nR q) s)))) s))
              (branch (AV.bool (oB (putP (nR (oR (cutP (nR q) s))) s (nR d))))
                (branch (AV.bool (byOk (oR (putP (nR (oR (cutP (nR q) s))) s (nR d))) && byOk q))
                  (some (Fin.ret (AV.bool (nR (oR (putP (nR (oR (cutP (nR q) s))) s (nR d))) == nR q)), St.mk [] [])) none)
                (some (Fin.ret (AV.bool false), St.mk [] [])))
              (some (Fin.ret (AV.bool false), St.mk [] [])))
            (some (Fin.ret (AV.bool false), St.mk [] [])))
          none)
        none)
      none := by kernel_rfl

end Go.Proofs.Ytblliolkgkgppaa.V

/- Page: what slots have (plain). -/
set_option linter.unusedVariables false
namespace Go.Proofs.Ytblliolkgkgppaa.V
open Go Go.V Go.RowKit

/-- What a slot has. -/
def getS (s : Sl) (i : Nat) : Option (List Nat) := (s[i]?).join
theorem getP_nat (s : Sl) (i : Nat) : getP s (i : Int) = getS s i := by rw [getP, if_pos (by omega), Int.toNat_natCast]; rfl
theorem getS_ge {s : Sl} {i : Nat} (h : s.length ≤ i) : getS s i = none := by rw [getS, List.getElem?_eq_none h]; rfl
theorem getS_lt {s : Sl} {i : Nat} (h : i < s.length) : getS s i = s[i] := by rw [getS, List.getElem?_eq_getElem h]; rfl
theorem getS_pad (s : Sl) (m i : Nat) : getS (padS s m) i = getS s i := by
  rcases Nat.lt_or_ge i s.length with h | h
  · rw [getS_lt h, getS, padS, List.getElem?_append_left h, List.getElem?_eq_getElem h]; rfl
  · rw [getS_ge h, getS, padS, List.getElem?_append_right h, List.getElem?_replicate]
    split <;> rfl
theorem getS_set {s : Sl} {k : Nat} (hk : k < s.length) (o : Option (List Nat)) (i : Nat) : getS (s.set k o) i = if i = k then o else getS s i := by
  rw [getS, List.getElem?_set]
  by_cases h : k = i
  · subst h; rw [if_pos rfl, if_pos hk, if_pos rfl]; rfl
  · rw [if_neg h, if_neg (fun e => h e.symm)]; rfl
theorem trS_none (s : Sl) : ∀ i, (trS s).length ≤ i → i < s.length → getS s i = none := by
  rcases List.eq_nil_or_concat s with rfl | ⟨s', o, rfl⟩
  · intro i _ h; simp at h
  · rw [List.concat_eq_append]
    cases o with
    | some b => intro i h1 h2; rw [trS_id (trm_snoc _ _)] at h1; omega
    | none =>
      intro i h1 h2
      have e : trS (s' ++ [none]) = trS s' := by rw [trS, List.reverse_append, List.reverse_singleton, List.singleton_append, List.dropWhile_cons]; rfl
      rw [e] at h1
      rw [List.length_append, List.length_singleton] at h2
      rcases Nat.lt_or_ge i s'.length with h | h
      · have := trS_none s' i h1 h
        rw [getS_lt h] at this
        rw [getS_lt (by simp; omega), List.getElem_append_left h]
        exact this
      · have : i = s'.length := by omega
        subst this
        rw [getS_lt (by simp)]
        simp
termination_by s.length
decreasing_by all_goals simp_all
theorem getS_trS (s : Sl) (i : Nat) : getS (trS s) i = getS s i := by
  rcases Nat.lt_or_ge i (trS s).length with h | h
  · have hl := trS_len s
    have h2 := trS_take s
    rw [getS_lt h, getS_lt (by omega)]
    have : (s.take (trS s).length)[i]? = some s[i] := by rw [List.getElem?_take, if_pos h, List.getElem?_eq_getElem (by omega)]
    rw [← h2, List.getElem?_eq_getElem h] at this
    exact Option.some.inj this
  · rw [getS_ge h]
    rcases Nat.lt_or_ge i s.length with h2 | h2
    · exact (trS_none s i h h2).symm
    · rw [getS_ge h2]
theorem getS_with (s : Sl) (k : Nat) (o : Option (List Nat)) (i : Nat) : getS (withS s k o) i = if i = k then o else getS s i := by
  rw [withS, getS_trS, getS_set (by rw [padS_len]; omega), getS_pad]
/-- Slots without free ones at the end are what they have. -/
theorem sl_ext {s t : Sl} (hs : trm s = true) (ht : trm t = true) (h : ∀ i, getS s i = getS t i) : s = t := by
  have key : ∀ {s t : Sl}, trm t = true → (∀ i, getS s i = getS t i) → ¬ s.length < t.length := by
    intro s t ht h hl
    rcases List.eq_nil_or_concat t with rfl | ⟨t', o, rfl⟩
    · simp at hl
    · rw [List.concat_eq_append] at *
      rw [List.length_append, List.length_singleton] at hl
      have := h t'.length
      rw [getS_ge (by omega), getS_lt (by simp)] at this
      simp at this
      subst this
      simp [trm] at ht
  have hl : s.length = t.length := by
    have h1 := key (s := s) ht h
    have h2 := key (s := t) (t := s) hs fun i => (h i).symm
    omega
  apply List.ext_getElem hl
  intro i h1 h2
  have := h i
  rwa [getS_lt h1, getS_lt h2] at this
theorem with_back {s : Sl} (hs : trm s = true) (k : Nat) (o : Option (List Nat)) (h : getS s k = o) (o' : Option (List Nat)) : withS (withS s k o') k o = s := by
  refine sl_ext (trm_trS _) hs fun i => ?_
  rw [getS_with, getS_with]
  split
  · rename_i e; rw [e, h]
  · rfl
theorem sumN_set_le {s : Sl} {k : Nat} : sumN (s.set k none) ≤ sumN s := by
  have := sumN_set s k none
  exact this
theorem pgOk_cut {t : Sl} (h : pgOk t = true) {k : Nat} (hk : k < t.length) : pgOk (withS t k none) = true := by
  obtain ⟨h1, h2⟩ := pgOk_iff.mp h
  have hp : padS t (k + 1) = t := by rw [padS, show k + 1 - t.length = 0 by omega]; simp
  rw [pgOk_iff]
  refine ⟨?_, fun o ho => ?_⟩
  · have e1 : sumN (withS t k none) ≤ sumN t := by
      rw [withS, hp, trS_take]
      exact Nat.le_trans (sumN_take _ _) sumN_set_le
    have e2 : (withS t k none).length ≤ t.length := by
      have := trS_len ((padS t (k + 1)).set k none)
      rw [hp, List.length_set] at this
      rw [withS, hp]; exact this
    rw [szN] at h1 ⊢
    omega
  · rcases mem_with ho with h | h | h
    · exact h2 o h
    · rw [h]; exact Nat.zero_le _
    · rw [h]; exact Nat.zero_le _
theorem Pg.cut {q : List Nat} (hq : Pg q) {k : Nat} {b : List Nat} (h : getS (ofS q) k = some b) : ∃ c, cutP q (k : Int) = some c ∧ Pg c ∧ ofS c = withS (ofS q) k none := by
  obtain ⟨_, h1, h2, h3, _⟩ := hq.slots
  have hk : k < (ofS q).length := by
    rcases Nat.lt_or_ge k (ofS q).length with h' | h'
    · exact h'
    · rw [getS_ge h'] at h; cases h
  have hok := pgOk_cut h2 hk
  have hl := len_ofS q
  have e : toP (withS (ofS q) k none) = some (pgB (withS (ofS q) k none)) := by rw [toP, if_pos hok]
  obtain ⟨k1, k2⟩ := Pg.of (okSl_with h1 (by omega) (by omega) (fun c hc => by cases hc)) (trm_trS _) e
  exact ⟨_, by rw [cutP, cutS, getP_nat, h, if_pos (show (some b).isSome = true from rfl), Int.toNat_natCast, e], k1, k2⟩
theorem mem_slots : ∀ {s : Sl} {i n : Nat}, n ∈ slotsI s i → i ≤ n ∧ ∃ b, getS s (n - i) = some b
  | [], i, n, h => by cases h
  | none :: s, i, n, h => by
    rw [slotsI] at h
    obtain ⟨h1, b, h2⟩ := mem_slots h
    refine ⟨by omega, b, ?_⟩
    rw [show n - i = (n - (i + 1)) + 1 by omega]
    exact h2
  | some c :: s, i, n, h => by
    rw [slotsI] at h
    rcases List.mem_cons.mp h with rfl | h
    · exact ⟨Nat.le_refl _, c, by rw [Nat.sub_self]; rfl⟩
    · obtain ⟨h1, b, h2⟩ := mem_slots h
      refine ⟨by omega, b, ?_⟩
      rw [show n - i = (n - (i + 1)) + 1 by omega]
      exact h2
theorem getS_ok {s : Sl} (h : okSl s) {i : Nat} {b : List Nat} (hb : getS s i = some b) : (∀ x ∈ b, x < 256) ∧ b.length < 4611686018427387904 := by
  rcases Nat.lt_or_ge i s.length with hl | hl
  · rw [getS_lt hl] at hb
    exact h.1 b (by rw [← hb]; exact List.getElem_mem hl)
  · rw [getS_ge hl] at hb; cases hb

/-! ### PageKeeps -/
noncomputable abbrev keepK (F : Nat) : Cont := Cont.block 0 (Cont.then (f5_r1.run F (f5.leaveK Fun.done)) (f5.leaveK Fun.done))
noncomputable abbrev keepK2 (F : Nat) : Cont := Cont.block 2 (Cont.then (f5_r0.run F (f5.leaveK Fun.done)) (f5.leaveK Fun.done))
theorem keep_loop (F : Nat) (z w : Bool) (l d : List (List AV)) (s : Int) (hc : Calls' l) (hg : greatB l = false) : ∀ (k m i : Nat) (y : Bool) (p : List Nat), i + k = l.length → k < m → Pg p →
    ∃ y' q, Pg q ∧ loopRun (f5_l0.run F) [0, 1, 2, 7, 8] (keepK F) m (Env.mk 161 [(0, .ns z 3 l), (1, .int .i64 s), (2, .ns w 1 d), (7, .ns y 1 (bR p)), (8, .int .i64 (i : Int))]) ⟨[], []⟩ = keepK F (.exit 0) (Env.mk 161 [(1, .int .i64 s), (2, .ns w 1 d), (7, .ns y' 1 (bR q))]) ⟨[], []⟩
  | k, 0, i, y, p, hi, hm, hp => by omega
  | 0, m + 1, i, y, p, hi, hm, hp => ⟨y, p, hp, by rw [show m + 1 = m.succ from rfl, keeps_round, branch_not (by simp; omega)]⟩
  | k + 1, m + 1, i, y, p, hi, hm, hp => by
    have h1 : i < l.length := by omega
    have h100 := great_len hg
    obtain ⟨c1, c2, c3, c4⟩ := call_at hc hg h1
    have w0 : IntKind.i64.wrap ((i : Int) + 1) = ((i + 1 : Nat) : Int) := wrap_succ (by omega)
    have hby : byOk (bR p) = true := byOk_bR hp.1 (by rw [hp.2.1]; omega)
    rw [show m + 1 = m.succ from rfl, keeps_round, branch_of (by simpa using h1), branch_of (inR_nat h1), branch_of c1, branch_of (by rw [hby, c2, c3]; rfl), nR_bR, w0]
    cases ha : addP p (nR (rwA (List.drop 2 (V.rowAt l (i : Int))))) with
    | none =>
      rw [oB_none, branch_false]
      exact keep_loop F z w l d s hc hg k m (i + 1) y p (by omega) (by omega) hp
    | some q =>
      rw [oB_some, branch_true, oR_some]
      exact keep_loop F z w l d s hc hg k m (i + 1) _ q (by omega) (by omega) (hp.add c4 ha).1
theorem iR_at {l : List Nat} {i : Nat} (h : i < l.length) : inR (iR l) (i : Int) = true ∧ (LD.one (LT.int .i64)).is (V.rowAt (iR l) (i : Int)) = true ∧ hdI (V.rowAt (iR l) (i : Int)) = ((l[i] : Nat) : Int) := by
  have hl : i < (iR l).length := by rw [iR_length]; exact h
  have e : V.rowAt (iR l) (i : Int) = [.int .i64 (l[i] : Nat)] := by rw [rowAt_nat hl]; simp [iR]
  exact ⟨inR_nat hl, by rw [e]; rfl, by rw [e]; rfl⟩
theorem keep_loop2 (F : Nat) (y w v u : Bool) (d : List (List AV)) (p q : List Nat) (hp : Pg p) (hq : Pg q) (s k0 : Nat) (e : List Nat) (he : ∀ n ∈ e, ∃ b, getS (ofS p) n = some b) (hl : e.length ≤ 1000) (hs : s = k0) (hsame : ∀ n, n ≠ s → getS (ofS q) n = getS (ofS p) n) : ∀ (k m i : Nat), i + k = e.length → k < m →
    loopRun (f5_l1.run F) [1, 2, 7, 12, 16, 17] (keepK2 F) m (Env.mk 161 [(1, .int .i64 (s : Int)), (2, .ns w 1 d), (7, .ns y 1 (bR p)), (12, .ns v 1 (bR q)), (16, .ns u 1 (iR e)), (17, .int .i64 (i : Int))]) ⟨[], []⟩ = keepK2 F (.exit 2) (Env.mk 161 [(1, .int .i64 (s : Int)), (2, .ns w 1 d), (12, .ns v 1 (bR q))]) ⟨[], []⟩
  | k, 0, i, hi, hm => by omega
  | 0, m + 1, i, hi, hm => by rw [show m + 1 = m.succ from rfl, keeps_round2, branch_not (by rw [iR_length]; simp; omega)]
  | k + 1, m + 1, i, hi, hm => by
    have h1 : i < e.length := by omega
    obtain ⟨a1, a2, a3⟩ := iR_at h1
    obtain ⟨b, hb⟩ := he e[i] (List.getElem_mem h1)
    have w0 : IntKind.i64.wrap ((i : Int) + 1) = ((i + 1 : Nat) : Int) := wrap_succ (by omega)
    have hbp : byOk (bR p) = true := byOk_bR hp.1 (by rw [hp.2.1]; omega)
    have hbq : byOk (bR q) = true := byOk_bR hq.1 (by rw [hq.2.1]; omega)
    have ih := keep_loop2 F y w v u d p q hp hq s k0 e he hl hs hsame k m (i + 1) (by omega) (by omega)
    rw [show m + 1 = m.succ from rfl, keeps_round2, branch_of (by rw [iR_length]; simpa using h1), branch_of a1, branch_of a2, branch_of hbp, branch_of a1, branch_of a2, branch_of hbq, branch_of a1, branch_of a2, a3, w0, nR_bR, nR_bR]
    by_cases hne : e[i] = s
    · rw [branch_not (by simp [hne]), ih]
    · obtain ⟨g1, g2⟩ := getS_ok hp.slots.2.1 hb
      have hbb := byOk_bR g1 g2
      rw [branch_of (by simp; omega), getP_nat, getP_nat, hsame _ hne, hb, oB_some, branch_not (b := !true) rfl, oR_some, branch_of (by rw [hbb]; rfl), branch_not (by simp), ih]
theorem pageKeeps_true (z y : Bool) (l d : List (List AV)) (s : Int) (hc : Calls' l) (hl : l.length < 4611686018427387904) (hd : okR d = true) (hdl : d.length < 4611686018427387904) : ∃ F st, f5.run F [.ns z 3 l, .int .i64 s, .ns y 1 d] ⟨[], []⟩ = some (.ret (.bool true), st) := by
  refine ⟨l.length + 1000, ?_⟩
  rw [keeps_run, branch_of (hc.ok hl)]
  cases hg : greatB l with
  | true => exact ⟨_, rfl⟩
  | false =>
    rw [branch_false, zeroP_eq]
    by_cases h1 : (d.length : Int) > 1000
    · exact ⟨_, branch_of (by simpa using h1)⟩
    rw [branch_not (by simpa using h1)]
    obtain ⟨y', p, hp, h⟩ := keep_loop (l.length + 1000) z y l d s hc hg l.length (l.length + 1000) 0 false (List.replicate 256 0) (by omega) (by omega) zeros_pg.1
    have hbp : byOk (bR p) = true := byOk_bR hp.1 (by rw [hp.2.1]; omega)
    have hbd : byOk d = true := byOk_iff.mpr ⟨hd, hdl⟩
    have had : apOk d.length 1 = true := by rw [apOk_iff]; omega
    have hb : ∀ x ∈ nR d, x < 256 := fun x hx => okR_lt hd hx
    rw [show (0 : Int) = ((0 : Nat) : Int) from rfl, h, keepK, keeps_out, nR_bR, branch_of (by rw [hbp, hbd, had]; rfl)]
    cases hput : putP p s (nR d) with
    | none => exact ⟨_, by rw [oB_none, branch_of (b := !false) rfl, oR_none]; rfl⟩
    | some q =>
      obtain ⟨hq, hs, h0, h250⟩ := hp.put hb (by rw [nR_length]; exact hdl) hput
      obtain ⟨k, rfl⟩ := Int.eq_ofNat_of_zero_le h0
      rw [Int.toNat_natCast] at hs
      have hbq : byOk (bR q) = true := byOk_bR hq.1 (by rw [hq.2.1]; omega)
      have hget : getS (ofS q) k = some (nR d) := by rw [hs, getS_with, if_pos rfl]
      have hsl : slotsA p = iR (slotsI (ofS p) 0) := by rw [slotsA, opq_eq]
      have hlen : (slotsI (ofS p) 0).length ≤ 500 := by
        have : ∀ (t : Sl) (i : Nat), (slotsI t i).length ≤ t.length := by
          intro t
          induction t with
          | nil => intro i; simp [slotsI]
          | cons o t ih => intro i; cases o <;> simp [slotsI] <;> have := ih (i + 1) <;> omega
        have h2 := this (ofS p) 0
        have := len_ofS p
        omega
      have hloop := keep_loop2 (l.length + 1000) y' y (!oB (some q)) (slotsE p) d p q hp hq k k (slotsI (ofS p) 0) (fun n hn => by obtain ⟨_, b, h⟩ := mem_slots hn; exact ⟨b, by simpa using h⟩) (by omega) rfl (fun n hn => by rw [hs, getS_with, if_neg hn]) (slotsI (ofS p) 0).length (l.length + 1000) 0 (by omega) (by omega)
      obtain ⟨c, hc1, hc2, hc3⟩ := hq.cut hget
      have hbc : byOk (bR c) = true := byOk_bR hc2.1 (by rw [hc2.2.1]; omega)
      have hback : putP c (k : Int) (nR d) = some q := by
        rw [putP, if_pos hc2.2.2, hc3, putS, if_pos ⟨h0, h250⟩, Int.toNat_natCast, with_back hq.slots.2.2.2.1 k _ hget, toP, if_pos hq.slots.2.2.1, hq.slots.2.2.2.2]
      have hofb : ofBo q = true := by rw [ofBo, opq_eq]; exact hq.2.2
      rw [oB_some, branch_not (b := !true) rfl, oR_some, branch_of hbq, nR_bR, getP_nat, hget, oB_some, branch_not (b := !true) rfl, oR_some, ← okR_rows hd, branch_of (by rw [hbd]; rfl), branch_not (by simp), branch_of hbq, hofb, branch_not (b := !true) rfl, branch_of hbp, hsl]
      rw [oB_some] at hloop
      rw [show (0 : Int) = ((0 : Nat) : Int) from rfl]
      refine ⟨⟨[], []⟩, hloop.trans ?_⟩
      rw [keepK2, keeps_out2, branch_of hbq, nR_bR, hc1, oR_some, branch_of hbc, branch_of (by rw [hbc, hbd, had]; rfl), oB_some, branch_true, nR_bR, getP_nat, hc3, getS_with, if_pos rfl, oB_none, branch_of (b := !false) rfl, hback, oB_some, branch_true, oR_some, branch_of (by rw [hbq]; rfl), nR_bR]
      simp
theorem pageKeeps_law (as0 as1 as2 : List AV) (s0 : Ty.Shape tyCalls as0) (s1 : Ty.Shape (.int .i64) as1) (s2 : Ty.Shape (.sl (.int .u8) 1) as2) : ∃ F st, f5.run F [tyCalls.AV' as0, (Ty.int .i64).AV' as1, (Ty.sl (.int .u8) 1).AV' as2] ⟨[], []⟩ = some (.ret (.bool true), st) := by
  obtain ⟨z, l, rfl, h1, h2⟩ := calls_shape s0
  obtain ⟨s, rfl, _⟩ := s1
  obtain ⟨y, d, rfl, d1, _, d3⟩ := bytes_shape s2
  exact pageKeeps_true z y l d s h1 h2 d1 d3
end Go.Proofs.Ytblliolkgkgppaa.V
