/- Merged out of 7 texts: what the claim's code comes to, and why. -/
import Derived.MapKept
import Derived.Test.YtblliolkgkgppaaR34
/- The functions' pieces, as told by gen.py. -/
set_option linter.unusedVariables false
set_option maxRecDepth 20000
namespace Go.Proofs.Ytblliolkgkgppaa.V
open Go Go.V Go.RowKit


/-! ### 5: interlock/interlocklaw06.PageKeeps (22, 3, 25); results 6; slots:  -/
/-- A loop's round; at its head live: 0 , 1 , 2 , 7 , 8  -/
noncomputable def f5_l0 : Sim Try.prog :=
  (.seq (.seq (.live [0, 1, 2, 7, 8, 40] (.region 7 [
    ⟨(opMove (some 37) (.tmp 8) 3 "law.go:118" #[]).op, none⟩,
    ⟨(opMove (some 38) (.tmp 0) 22 "law.go:118" #[]).op, none⟩,
    ⟨(opLen (some 39) (.tmp 38) 22 (.slice 29) Try.underlying22 3 "law.go:118" #[{ on := 1, ground := Ground.data }]).op, none⟩,
    ⟨(opBin (some 40) .lss 3 (.tmp 37) (.tmp 39) 3 4 "law.go:118" #[{ on := 0, ground := Ground.data }, { on := 2, ground := Ground.data }]).op, none⟩
  ] (by kernel_rfl)))
  (.cond (.tmp 40)
    .skip
    (.live [1, 2, 7] (.exit 0))))
  (.seq (.block 1 (.seq (.live [0, 1, 2, 7, 8, 9, 11] (.region 9 [
      ⟨(opMove (some 44) (.tmp 7) 25 "law.go:119" #[]).op, none⟩,
      ⟨(opMove (some 45) (.tmp 0) 22 "law.go:119" #[]).op, none⟩,
      ⟨(opMove (some 46) (.tmp 8) 3 "law.go:119" #[]).op, none⟩,
      ⟨(opIndexAddrT (some 47) 22 (.tmp 45) (.tmp 46) 29 3 Try.underlying22 sz29 0 "law.go:119" #[{ on := 1, ground := Ground.data }, { on := 2, ground := Ground.data }]).op, none⟩,
      ⟨(opFieldAddr (some 48) 29 (.tmp 47) 2 2 1 false fl29_2 (by decide) 0 "law.go:119" #[{ on := 3, ground := Ground.data }]).op, none⟩,
      ⟨(opLoadT (.one (.ns 1)) (some 49) 25 (.tmp 48) (.slice 5) Try.underlying25 1 sz25 (by kernel_rfl) 25 "law.go:119" #[{ on := 4, ground := Ground.data }]).op, none⟩,
      ⟨(opCallP p13 (some 50) [(.tmp 44), (.tmp 49)] #[25, 25] 33 "law.go:119" #[{ on := 0, ground := Ground.data }, { on := 5, ground := Ground.data }]).op, none⟩,
      ⟨(opMove (some 43) (.tmp 50) 33 "law.go:119" #[{ on := 6, ground := Ground.data }]).op, none⟩,
      ⟨(opExtract (some 51) (.tmp 43) 0 25 "law.go:119" #[{ on := 7, ground := Ground.data }]).op, none⟩,
      ⟨(opExtract (some 52) (.tmp 43) 1 3 "law.go:119" #[{ on := 7, ground := Ground.data }, { on := 11, ground := (Ground.gcOnly Departure.lateStores) }]).op, none⟩,
      ⟨(opExtract (some 53) (.tmp 43) 2 4 "law.go:119" #[{ on := 7, ground := Ground.data }, { on := 12, ground := (Ground.gcOnly Departure.lateStores) }]).op, none⟩,
      ⟨(opAssign (some 9) (.tmp 51) 25 "law.go:119" #[{ on := 8, ground := Ground.data }, { on := 6, ground := Ground.chain }, { on := 0, ground := Ground.phase }, { on := 1, ground := Ground.phase }, { on := 2, ground := Ground.phase }, { on := 3, ground := Ground.phase }, { on := 4, ground := Ground.phase }, { on := 5, ground := Ground.phase }, { on := 6, ground := Ground.phase }, { on := 7, ground := Ground.phase }, { on := 8, ground := Ground.phase }, { on := 9, ground := (Ground.textOnly Departure.lateStores) }, { on := 10, ground := (Ground.textOnly Departure.lateStores) }]).op, none⟩,
      ⟨(opAssign (some 10) (.tmp 52) 3 "law.go:119" #[{ on := 9, ground := Ground.data }, { on := 11, ground := Ground.chain }, { on := 0, ground := Ground.phase }, { on := 1, ground := Ground.phase }, { on := 2, ground := Ground.phase }, { on := 3, ground := Ground.phase }, { on := 4, ground := Ground.phase }, { on := 5, ground := Ground.phase }, { on := 6, ground := Ground.phase }, { on := 7, ground := Ground.phase }, { on := 8, ground := Ground.phase }, { on := 9, ground := Ground.phase }, { on := 10, ground := (Ground.textOnly Departure.lateStores) }, { on := 11, ground := Ground.phase }]).op, none⟩,
      ⟨(opAssign (some 11) (.tmp 53) 4 "law.go:119" #[{ on := 10, ground := Ground.data }, { on := 12, ground := Ground.chain }, { on := 0, ground := Ground.phase }, { on := 1, ground := Ground.phase }, { on := 2, ground := Ground.phase }, { on := 3, ground := Ground.phase }, { on := 4, ground := Ground.phase }, { on := 5, ground := Ground.phase }, { on := 6, ground := Ground.phase }, { on := 7, ground := Ground.phase }, { on := 8, ground := Ground.phase }, { on := 9, ground := Ground.phase }, { on := 10, ground := Ground.phase }, { on := 11, ground := Ground.phase }, { on := 12, ground := Ground.phase }]).op, none⟩
    ] (by kernel_rfl)))
    (.seq (.live [0, 1, 2, 7, 8, 9, 54] (.region 10 [
      ⟨(opMove (some 54) (.tmp 11) 4 "law.go:120" #[]).op, none⟩
    ] (by kernel_rfl)))
    (.cond (.tmp 54)
      (.live [0, 1, 2, 7, 8] (.region 11 [
        ⟨(opMove (some 55) (.tmp 9) 25 "law.go:121" #[]).op, none⟩,
        ⟨(opAssign (some 7) (.tmp 55) 25 "law.go:121" #[{ on := 0, ground := Ground.data }, { on := 0, ground := Ground.phase }]).op, none⟩
      ] (by kernel_rfl)))
      .skip))))
  (.live [0, 1, 2, 7, 8] (.region 8 [
    ⟨(opMove (some 41) (.tmp 8) 3 "law.go:118" #[]).op, none⟩,
    ⟨(opBin (some 42) .add 3 (.tmp 41) (.const (Value.int IntKind.i64 1)) 3 3 "law.go:118" #[{ on := 0, ground := Ground.data }]).op, none⟩,
    ⟨(opAssign (some 8) (.tmp 42) 3 "law.go:118" #[{ on := 1, ground := Ground.data }, { on := 0, ground := Ground.phase }, { on := 1, ground := Ground.phase }]).op, none⟩
  ] (by kernel_rfl)))))

/-- A loop's round; at its head live: 1 , 2 , 7 , 12 , 16 , 17  -/
noncomputable def f5_l1 : Sim Try.prog :=
  (.seq (.seq (.live [1, 2, 7, 12, 16, 17, 92] (.region 20 [
    ⟨(opMove (some 89) (.tmp 17) 3 "law.go:133" #[]).op, none⟩,
    ⟨(opMove (some 90) (.tmp 16) 38 "law.go:133" #[]).op, none⟩,
    ⟨(opLen (some 91) (.tmp 90) 38 (.slice 3) Try.underlying38 3 "law.go:133" #[{ on := 1, ground := Ground.data }]).op, none⟩,
    ⟨(opBin (some 92) .lss 3 (.tmp 89) (.tmp 91) 3 4 "law.go:133" #[{ on := 0, ground := Ground.data }, { on := 2, ground := Ground.data }]).op, none⟩
  ] (by kernel_rfl)))
  (.cond (.tmp 92)
    .skip
    (.live [1, 2, 12] (.exit 2))))
  (.seq (.block 3 (.seq (.live [1, 2, 7, 12, 16, 17, 18] (.region 22 [
      ⟨(opMove (some 96) (.tmp 7) 25 "law.go:134" #[]).op, none⟩,
      ⟨(opMove (some 97) (.tmp 16) 38 "law.go:134" #[]).op, none⟩,
      ⟨(opMove (some 98) (.tmp 17) 3 "law.go:134" #[]).op, none⟩,
      ⟨(opIndexAddrT (some 99) 38 (.tmp 97) (.tmp 98) 3 1 Try.underlying38 sz3 0 "law.go:134" #[{ on := 1, ground := Ground.data }, { on := 2, ground := Ground.data }]).op, none⟩,
      ⟨(opLoadT (.one (.int .i64)) (some 100) 3 (.tmp 99) (.int .i64) Try.underlying3 1 sz3 (by kernel_rfl) 3 "law.go:134" #[{ on := 3, ground := Ground.data }]).op, none⟩,
      ⟨(opCallP p15 (some 101) [(.tmp 96), (.tmp 100)] #[25, 3] 30 "law.go:134" #[{ on := 0, ground := Ground.data }, { on := 4, ground := Ground.data }]).op, none⟩,
      ⟨(opMove (some 95) (.tmp 101) 30 "law.go:134" #[{ on := 5, ground := Ground.data }]).op, none⟩,
      ⟨(opExtract (some 102) (.tmp 95) 0 25 "law.go:134" #[{ on := 6, ground := Ground.data }]).op, none⟩,
      ⟨(opExtract (some 103) (.tmp 95) 1 4 "law.go:134" #[{ on := 6, ground := Ground.data }, { on := 9, ground := (Ground.gcOnly Departure.lateStores) }]).op, none⟩,
      ⟨(opAssign (some 18) (.tmp 102) 25 "law.go:134" #[{ on := 7, ground := Ground.data }, { on := 5, ground := Ground.chain }, { on := 0, ground := Ground.phase }, { on := 1, ground := Ground.phase }, { on := 2, ground := Ground.phase }, { on := 3, ground := Ground.phase }, { on := 4, ground := Ground.phase }, { on := 5, ground := Ground.phase }, { on := 6, ground := Ground.phase }, { on := 7, ground := Ground.phase }, { on := 8, ground := (Ground.textOnly Departure.lateStores) }]).op, none⟩,
      ⟨(opAssign (some 19) (.tmp 103) 4 "law.go:134" #[{ on := 8, ground := Ground.data }, { on := 9, ground := Ground.chain }, { on := 0, ground := Ground.phase }, { on := 1, ground := Ground.phase }, { on := 2, ground := Ground.phase }, { on := 3, ground := Ground.phase }, { on := 4, ground := Ground.phase }, { on := 5, ground := Ground.phase }, { on := 6, ground := Ground.phase }, { on := 7, ground := Ground.phase }, { on := 8, ground := Ground.phase }, { on := 9, ground := Ground.phase }]).op, none⟩
    ] (by kernel_rfl)))
    (.seq (.live [1, 2, 7, 12, 16, 17, 18, 20, 21] (.region 23 [
      ⟨(opMove (some 105) (.tmp 12) 25 "law.go:135" #[]).op, none⟩,
      ⟨(opMove (some 106) (.tmp 16) 38 "law.go:135" #[]).op, none⟩,
      ⟨(opMove (some 107) (.tmp 17) 3 "law.go:135" #[]).op, none⟩,
      ⟨(opIndexAddrT (some 108) 38 (.tmp 106) (.tmp 107) 3 1 Try.underlying38 sz3 0 "law.go:135" #[{ on := 1, ground := Ground.data }, { on := 2, ground := Ground.data }]).op, none⟩,
      ⟨(opLoadT (.one (.int .i64)) (some 109) 3 (.tmp 108) (.int .i64) Try.underlying3 1 sz3 (by kernel_rfl) 3 "law.go:135" #[{ on := 3, ground := Ground.data }]).op, none⟩,
      ⟨(opCallP p15 (some 110) [(.tmp 105), (.tmp 109)] #[25, 3] 30 "law.go:135" #[{ on := 0, ground := Ground.data }, { on := 4, ground := Ground.data }]).op, none⟩,
      ⟨(opMove (some 104) (.tmp 110) 30 "law.go:135" #[{ on := 5, ground := Ground.data }]).op, none⟩,
      ⟨(opExtract (some 111) (.tmp 104) 0 25 "law.go:135" #[{ on := 6, ground := Ground.data }]).op, none⟩,
      ⟨(opExtract (some 112) (.tmp 104) 1 4 "law.go:135" #[{ on := 6, ground := Ground.data }, { on := 9, ground := (Ground.gcOnly Departure.lateStores) }]).op, none⟩,
      ⟨(opAssign (some 20) (.tmp 111) 25 "law.go:135" #[{ on := 7, ground := Ground.data }, { on := 5, ground := Ground.chain }, { on := 0, ground := Ground.phase }, { on := 1, ground := Ground.phase }, { on := 2, ground := Ground.phase }, { on := 3, ground := Ground.phase }, { on := 4, ground := Ground.phase }, { on := 5, ground := Ground.phase }, { on := 6, ground := Ground.phase }, { on := 7, ground := Ground.phase }, { on := 8, ground := (Ground.textOnly Departure.lateStores) }]).op, none⟩,
      ⟨(opAssign (some 21) (.tmp 112) 4 "law.go:135" #[{ on := 8, ground := Ground.data }, { on := 9, ground := Ground.chain }, { on := 0, ground := Ground.phase }, { on := 1, ground := Ground.phase }, { on := 2, ground := Ground.phase }, { on := 3, ground := Ground.phase }, { on := 4, ground := Ground.phase }, { on := 5, ground := Ground.phase }, { on := 6, ground := Ground.phase }, { on := 7, ground := Ground.phase }, { on := 8, ground := Ground.phase }, { on := 9, ground := Ground.phase }]).op, none⟩
    ] (by kernel_rfl)))
    (.seq (.live [1, 2, 7, 12, 16, 17, 128] (.region 24 [
      ⟨(opMove (some 113) (.tmp 16) 38 "law.go:136" #[]).op, none⟩,
      ⟨(opMove (some 114) (.tmp 17) 3 "law.go:136" #[]).op, none⟩,
      ⟨(opIndexAddrT (some 115) 38 (.tmp 113) (.tmp 114) 3 1 Try.underlying38 sz3 0 "law.go:136" #[{ on := 0, ground := Ground.data }, { on := 1, ground := Ground.data }]).op, none⟩,
      ⟨(opLoadT (.one (.int .i64)) (some 116) 3 (.tmp 115) (.int .i64) Try.underlying3 1 sz3 (by kernel_rfl) 3 "law.go:136" #[{ on := 2, ground := Ground.data }]).op, none⟩,
      ⟨(opMove (some 117) (.tmp 1) 3 "law.go:136" #[]).op, none⟩,
      ⟨(opBin (some 118) .neq 3 (.tmp 116) (.tmp 117) 3 4 "law.go:136" #[{ on := 3, ground := Ground.data }, { on := 4, ground := Ground.data }]).op, none⟩,
      ⟨(opMove (some 119) (.tmp 118) 4 "law.go:136" #[{ on := 5, ground := Ground.data }]).op, none⟩,
      ⟨(opMove (some 120) (.tmp 21) 4 "law.go:136" #[{ on := 6, ground := Ground.guard }]).op, (some (6, 119, true))⟩,
      ⟨(opNot (some 121) 4 (.tmp 120) 4 "law.go:136" #[{ on := 7, ground := Ground.data }, { on := 6, ground := Ground.guard }]).op, (some (6, 119, true))⟩,
      ⟨(opMove (some 122) (.tmp 121) 4 "law.go:136" #[{ on := 8, ground := Ground.data }, { on := 6, ground := Ground.chain }, { on := 6, ground := Ground.guard }]).op, (some (6, 119, true))⟩,
      ⟨(opMove (some 123) (.tmp 18) 25 "law.go:136" #[{ on := 9, ground := Ground.guard }]).op, (some (9, 122, false))⟩,
      ⟨(opMove (some 124) (.tmp 20) 25 "law.go:136" #[{ on := 9, ground := Ground.guard }]).op, (some (9, 122, false))⟩,
      ⟨(opCallP p12 (some 125) [(.tmp 123), (.tmp 124)] #[25, 25] 4 "law.go:136" #[{ on := 10, ground := Ground.data }, { on := 11, ground := Ground.data }, { on := 9, ground := Ground.chain }, { on := 9, ground := Ground.guard }]).op, (some (9, 122, false))⟩,
      ⟨(opNot (some 126) 4 (.tmp 125) 4 "law.go:136" #[{ on := 12, ground := Ground.data }, { on := 9, ground := Ground.guard }]).op, (some (9, 122, false))⟩,
      ⟨(opPick (some 127) (.tmp 122) (.const (Value.bool true)) (.tmp 126) 4 "law.go:136" #[{ on := 9, ground := Ground.data }, { on := 13, ground := Ground.data }, { on := 6, ground := Ground.guard }]).op, (some (6, 119, true))⟩,
      ⟨(opPick (some 128) (.tmp 119) (.tmp 127) (.const (Value.bool false)) 4 "law.go:136" #[{ on := 6, ground := Ground.data }, { on := 14, ground := Ground.data }]).op, none⟩
    ] (by kernel_rfl)))
    (.cond (.tmp 128)
      (.seq (.live [6] (.region 25 [
        ⟨(opAssign (some 6) (.const (Value.bool false)) 4 "law.go:137" #[]).op, none⟩
      ] (by kernel_rfl)))
      (.live [6] .ret))
      .skip)))))
  (.live [1, 2, 7, 12, 16, 17] (.region 21 [
    ⟨(opMove (some 93) (.tmp 17) 3 "law.go:133" #[]).op, none⟩,
    ⟨(opBin (some 94) .add 3 (.tmp 93) (.const (Value.int IntKind.i64 1)) 3 3 "law.go:133" #[{ on := 0, ground := Ground.data }]).op, none⟩,
    ⟨(opAssign (some 17) (.tmp 94) 3 "law.go:133" #[{ on := 1, ground := Ground.data }, { on := 0, ground := Ground.phase }, { on := 1, ground := Ground.phase }]).op, none⟩
  ] (by kernel_rfl)))))

/-- What follows a loop. -/
noncomputable def f5_r0 : Sim Try.prog :=
  (.seq (.live [1, 2, 12, 15, 22] (.region 26 [
    ⟨(opMove (some 130) (.tmp 12) 25 "law.go:140" #[]).op, none⟩,
    ⟨(opMove (some 131) (.tmp 1) 3 "law.go:140" #[]).op, none⟩,
    ⟨(opCallP p18 (some 132) [(.tmp 130), (.tmp 131)] #[25, 3] 30 "law.go:140" #[{ on := 0, ground := Ground.data }, { on := 1, ground := Ground.data }]).op, none⟩,
    ⟨(opMove (some 129) (.tmp 132) 30 "law.go:140" #[{ on := 2, ground := Ground.data }]).op, none⟩,
    ⟨(opExtract (some 133) (.tmp 129) 0 25 "law.go:140" #[{ on := 3, ground := Ground.data }]).op, none⟩,
    ⟨(opExtract (some 134) (.tmp 129) 1 4 "law.go:140" #[{ on := 3, ground := Ground.data }, { on := 6, ground := (Ground.gcOnly Departure.lateStores) }]).op, none⟩,
    ⟨(opAssign (some 22) (.tmp 133) 25 "law.go:140" #[{ on := 4, ground := Ground.data }, { on := 2, ground := Ground.chain }, { on := 0, ground := Ground.phase }, { on := 1, ground := Ground.phase }, { on := 2, ground := Ground.phase }, { on := 3, ground := Ground.phase }, { on := 4, ground := Ground.phase }, { on := 5, ground := (Ground.textOnly Departure.lateStores) }]).op, none⟩,
    ⟨(opAssign (some 15) (.tmp 134) 4 "law.go:140" #[{ on := 5, ground := Ground.data }, { on := 6, ground := Ground.chain }, { on := 0, ground := Ground.phase }, { on := 1, ground := Ground.phase }, { on := 2, ground := Ground.phase }, { on := 3, ground := Ground.phase }, { on := 4, ground := Ground.phase }, { on := 5, ground := Ground.phase }, { on := 6, ground := Ground.phase }]).op, none⟩
  ] (by kernel_rfl)))
  (.seq (.live [1, 2, 12, 15, 22, 24] (.region 27 [
    ⟨(opMove (some 136) (.tmp 22) 25 "law.go:141" #[]).op, none⟩,
    ⟨(opMove (some 137) (.tmp 1) 3 "law.go:141" #[]).op, none⟩,
    ⟨(opCallP p15 (some 138) [(.tmp 136), (.tmp 137)] #[25, 3] 30 "law.go:141" #[{ on := 0, ground := Ground.data }, { on := 1, ground := Ground.data }]).op, none⟩,
    ⟨(opMove (some 135) (.tmp 138) 30 "law.go:141" #[{ on := 2, ground := Ground.data }]).op, none⟩,
    ⟨(opExtract (some 139) (.tmp 135) 0 25 "law.go:141" #[{ on := 3, ground := Ground.data }]).op, none⟩,
    ⟨(opExtract (some 140) (.tmp 135) 1 4 "law.go:141" #[{ on := 3, ground := Ground.data }, { on := 6, ground := (Ground.gcOnly Departure.lateStores) }]).op, none⟩,
    ⟨(opAssign (some 23) (.tmp 139) 25 "law.go:141" #[{ on := 4, ground := Ground.data }, { on := 2, ground := Ground.chain }, { on := 0, ground := Ground.phase }, { on := 1, ground := Ground.phase }, { on := 2, ground := Ground.phase }, { on := 3, ground := Ground.phase }, { on := 4, ground := Ground.phase }, { on := 5, ground := (Ground.textOnly Departure.lateStores) }]).op, none⟩,
    ⟨(opAssign (some 24) (.tmp 140) 4 "law.go:141" #[{ on := 5, ground := Ground.data }, { on := 6, ground := Ground.chain }, { on := 0, ground := Ground.phase }, { on := 1, ground := Ground.phase }, { on := 2, ground := Ground.phase }, { on := 3, ground := Ground.phase }, { on := 4, ground := Ground.phase }, { on := 5, ground := Ground.phase }, { on := 6, ground := Ground.phase }]).op, none⟩
  ] (by kernel_rfl)))
  (.seq (.live [12, 15, 24, 25, 26] (.region 28 [
    ⟨(opMove (some 142) (.tmp 22) 25 "law.go:142" #[]).op, none⟩,
    ⟨(opMove (some 143) (.tmp 1) 3 "law.go:142" #[]).op, none⟩,
    ⟨(opMove (some 144) (.tmp 2) 25 "law.go:142" #[]).op, none⟩,
    ⟨(opCallP p11 (some 145) [(.tmp 142), (.tmp 143), (.tmp 144)] #[25, 3, 25] 30 "law.go:142" #[{ on := 0, ground := Ground.data }, { on := 1, ground := Ground.data }, { on := 2, ground := Ground.data }]).op, none⟩,
    ⟨(opMove (some 141) (.tmp 145) 30 "law.go:142" #[{ on := 3, ground := Ground.data }]).op, none⟩,
    ⟨(opExtract (some 146) (.tmp 141) 0 25 "law.go:142" #[{ on := 4, ground := Ground.data }]).op, none⟩,
    ⟨(opExtract (some 147) (.tmp 141) 1 4 "law.go:142" #[{ on := 4, ground := Ground.data }, { on := 7, ground := (Ground.gcOnly Departure.lateStores) }]).op, none⟩,
    ⟨(opAssign (some 25) (.tmp 146) 25 "law.go:142" #[{ on := 5, ground := Ground.data }, { on := 3, ground := Ground.chain }, { on := 0, ground := Ground.phase }, { on := 1, ground := Ground.phase }, { on := 2, ground := Ground.phase }, { on := 3, ground := Ground.phase }, { on := 4, ground := Ground.phase }, { on := 5, ground := Ground.phase }, { on := 6, ground := (Ground.textOnly Departure.lateStores) }]).op, none⟩,
    ⟨(opAssign (some 26) (.tmp 147) 4 "law.go:142" #[{ on := 6, ground := Ground.data }, { on := 7, ground := Ground.chain }, { on := 0, ground := Ground.phase }, { on := 1, ground := Ground.phase }, { on := 2, ground := Ground.phase }, { on := 3, ground := Ground.phase }, { on := 4, ground := Ground.phase }, { on := 5, ground := Ground.phase }, { on := 6, ground := Ground.phase }, { on := 7, ground := Ground.phase }]).op, none⟩
  ] (by kernel_rfl)))
  (.seq (.live [6] (.region 29 [
    ⟨(opMove (some 148) (.tmp 15) 4 "law.go:143" #[]).op, none⟩,
    ⟨(opMove (some 149) (.tmp 148) 4 "law.go:143" #[{ on := 0, ground := Ground.data }]).op, none⟩,
    ⟨(opMove (some 150) (.tmp 24) 4 "law.go:143" #[{ on := 1, ground := Ground.guard }]).op, (some (1, 149, true))⟩,
    ⟨(opNot (some 151) 4 (.tmp 150) 4 "law.go:143" #[{ on := 2, ground := Ground.data }, { on := 1, ground := Ground.guard }]).op, (some (1, 149, true))⟩,
    ⟨(opPick (some 152) (.tmp 149) (.tmp 151) (.const (Value.bool false)) 4 "law.go:143" #[{ on := 1, ground := Ground.data }, { on := 3, ground := Ground.data }]).op, none⟩,
    ⟨(opMove (some 153) (.tmp 152) 4 "law.go:143" #[{ on := 4, ground := Ground.data }, { on := 1, ground := Ground.chain }]).op, none⟩,
    ⟨(opMove (some 154) (.tmp 26) 4 "law.go:143" #[{ on := 5, ground := Ground.guard }]).op, (some (5, 153, true))⟩,
    ⟨(opPick (some 155) (.tmp 153) (.tmp 154) (.const (Value.bool false)) 4 "law.go:143" #[{ on := 5, ground := Ground.data }, { on := 6, ground := Ground.data }]).op, none⟩,
    ⟨(opMove (some 156) (.tmp 155) 4 "law.go:143" #[{ on := 7, ground := Ground.data }, { on := 5, ground := Ground.chain }]).op, none⟩,
    ⟨(opMove (some 157) (.tmp 25) 25 "law.go:143" #[{ on := 8, ground := Ground.guard }]).op, (some (8, 156, true))⟩,
    ⟨(opMove (some 158) (.tmp 12) 25 "law.go:143" #[{ on := 8, ground := Ground.guard }]).op, (some (8, 156, true))⟩,
    ⟨(opCallP p12 (some 159) [(.tmp 157), (.tmp 158)] #[25, 25] 4 "law.go:143" #[{ on := 9, ground := Ground.data }, { on := 10, ground := Ground.data }, { on := 8, ground := Ground.chain }, { on := 8, ground := Ground.guard }]).op, (some (8, 156, true))⟩,
    ⟨(opPick (some 160) (.tmp 156) (.tmp 159) (.const (Value.bool false)) 4 "law.go:143" #[{ on := 8, ground := Ground.data }, { on := 11, ground := Ground.data }]).op, none⟩,
    ⟨(opAssign (some 6) (.tmp 160) 4 "law.go:143" #[{ on := 12, ground := Ground.data }, { on := 11, ground := Ground.chain }, { on := 0, ground := Ground.phase }, { on := 1, ground := Ground.phase }, { on := 2, ground := Ground.phase }, { on := 3, ground := Ground.phase }, { on := 4, ground := Ground.phase }, { on := 5, ground := Ground.phase }, { on := 6, ground := Ground.phase }, { on := 7, ground := Ground.phase }, { on := 8, ground := Ground.phase }, { on := 9, ground := Ground.phase }, { on := 10, ground := Ground.phase }, { on := 11, ground := Ground.phase }, { on := 12, ground := Ground.phase }]).op, none⟩
  ] (by kernel_rfl)))
  (.live [6] .ret)))))

/-- What follows a loop. -/
noncomputable def f5_r1 : Sim Try.prog :=
  (.seq (.live [1, 2, 7, 12, 13] (.region 12 [
    ⟨(opMove (some 57) (.tmp 7) 25 "law.go:124" #[]).op, none⟩,
    ⟨(opMove (some 58) (.tmp 1) 3 "law.go:124" #[]).op, none⟩,
    ⟨(opMove (some 59) (.tmp 2) 25 "law.go:124" #[]).op, none⟩,
    ⟨(opCallP p11 (some 60) [(.tmp 57), (.tmp 58), (.tmp 59)] #[25, 3, 25] 30 "law.go:124" #[{ on := 0, ground := Ground.data }, { on := 1, ground := Ground.data }, { on := 2, ground := Ground.data }]).op, none⟩,
    ⟨(opMove (some 56) (.tmp 60) 30 "law.go:124" #[{ on := 3, ground := Ground.data }]).op, none⟩,
    ⟨(opExtract (some 61) (.tmp 56) 0 25 "law.go:124" #[{ on := 4, ground := Ground.data }]).op, none⟩,
    ⟨(opExtract (some 62) (.tmp 56) 1 4 "law.go:124" #[{ on := 4, ground := Ground.data }, { on := 7, ground := (Ground.gcOnly Departure.lateStores) }]).op, none⟩,
    ⟨(opAssign (some 12) (.tmp 61) 25 "law.go:124" #[{ on := 5, ground := Ground.data }, { on := 3, ground := Ground.chain }, { on := 0, ground := Ground.phase }, { on := 1, ground := Ground.phase }, { on := 2, ground := Ground.phase }, { on := 3, ground := Ground.phase }, { on := 4, ground := Ground.phase }, { on := 5, ground := Ground.phase }, { on := 6, ground := (Ground.textOnly Departure.lateStores) }]).op, none⟩,
    ⟨(opAssign (some 13) (.tmp 62) 4 "law.go:124" #[{ on := 6, ground := Ground.data }, { on := 7, ground := Ground.chain }, { on := 0, ground := Ground.phase }, { on := 1, ground := Ground.phase }, { on := 2, ground := Ground.phase }, { on := 3, ground := Ground.phase }, { on := 4, ground := Ground.phase }, { on := 5, ground := Ground.phase }, { on := 6, ground := Ground.phase }, { on := 7, ground := Ground.phase }]).op, none⟩
  ] (by kernel_rfl)))
  (.seq (.seq (.live [1, 2, 7, 12, 64] (.region 13 [
    ⟨(opMove (some 63) (.tmp 13) 4 "law.go:125" #[]).op, none⟩,
    ⟨(opNot (some 64) 4 (.tmp 63) 4 "law.go:125" #[{ on := 0, ground := Ground.data }]).op, none⟩
  ] (by kernel_rfl)))
  (.cond (.tmp 64)
    (.seq (.live [6] (.region 14 [
      ⟨(opMove (some 65) (.tmp 12) 25 "law.go:126" #[]).op, none⟩,
      ⟨(opLen (some 66) (.tmp 65) 25 (.slice 5) Try.underlying25 3 "law.go:126" #[{ on := 0, ground := Ground.data }]).op, none⟩,
      ⟨(opBin (some 67) .eql 3 (.tmp 66) (.const (Value.int IntKind.i64 0)) 3 4 "law.go:126" #[{ on := 1, ground := Ground.data }]).op, none⟩,
      ⟨(opAssign (some 6) (.tmp 67) 4 "law.go:126" #[{ on := 2, ground := Ground.data }, { on := 0, ground := Ground.phase }, { on := 1, ground := Ground.phase }, { on := 2, ground := Ground.phase }]).op, none⟩
    ] (by kernel_rfl)))
    (.live [6] .ret))
    .skip))
  (.seq (.live [1, 2, 7, 12, 14, 15] (.region 15 [
    ⟨(opMove (some 69) (.tmp 12) 25 "law.go:128" #[]).op, none⟩,
    ⟨(opMove (some 70) (.tmp 1) 3 "law.go:128" #[]).op, none⟩,
    ⟨(opCallP p15 (some 71) [(.tmp 69), (.tmp 70)] #[25, 3] 30 "law.go:128" #[{ on := 0, ground := Ground.data }, { on := 1, ground := Ground.data }]).op, none⟩,
    ⟨(opMove (some 68) (.tmp 71) 30 "law.go:128" #[{ on := 2, ground := Ground.data }]).op, none⟩,
    ⟨(opExtract (some 72) (.tmp 68) 0 25 "law.go:128" #[{ on := 3, ground := Ground.data }]).op, none⟩,
    ⟨(opExtract (some 73) (.tmp 68) 1 4 "law.go:128" #[{ on := 3, ground := Ground.data }, { on := 6, ground := (Ground.gcOnly Departure.lateStores) }]).op, none⟩,
    ⟨(opAssign (some 14) (.tmp 72) 25 "law.go:128" #[{ on := 4, ground := Ground.data }, { on := 2, ground := Ground.chain }, { on := 0, ground := Ground.phase }, { on := 1, ground := Ground.phase }, { on := 2, ground := Ground.phase }, { on := 3, ground := Ground.phase }, { on := 4, ground := Ground.phase }, { on := 5, ground := (Ground.textOnly Departure.lateStores) }]).op, none⟩,
    ⟨(opAssign (some 15) (.tmp 73) 4 "law.go:128" #[{ on := 5, ground := Ground.data }, { on := 6, ground := Ground.chain }, { on := 0, ground := Ground.phase }, { on := 1, ground := Ground.phase }, { on := 2, ground := Ground.phase }, { on := 3, ground := Ground.phase }, { on := 4, ground := Ground.phase }, { on := 5, ground := Ground.phase }, { on := 6, ground := Ground.phase }]).op, none⟩
  ] (by kernel_rfl)))
  (.seq (.seq (.live [1, 2, 7, 12, 86] (.region 16 [
    ⟨(opMove (some 74) (.tmp 15) 4 "law.go:129" #[]).op, none⟩,
    ⟨(opNot (some 75) 4 (.tmp 74) 4 "law.go:129" #[{ on := 0, ground := Ground.data }]).op, none⟩,
    ⟨(opMove (some 76) (.tmp 75) 4 "law.go:129" #[{ on := 1, ground := Ground.data }]).op, none⟩,
    ⟨(opMove (some 77) (.tmp 14) 25 "law.go:129" #[{ on := 2, ground := Ground.guard }]).op, (some (2, 76, false))⟩,
    ⟨(opMove (some 78) (.tmp 2) 25 "law.go:129" #[{ on := 2, ground := Ground.guard }]).op, (some (2, 76, false))⟩,
    ⟨(opCallP p12 (some 79) [(.tmp 77), (.tmp 78)] #[25, 25] 4 "law.go:129" #[{ on := 3, ground := Ground.data }, { on := 4, ground := Ground.data }, { on := 2, ground := Ground.chain }, { on := 2, ground := Ground.guard }]).op, (some (2, 76, false))⟩,
    ⟨(opNot (some 80) 4 (.tmp 79) 4 "law.go:129" #[{ on := 5, ground := Ground.data }, { on := 2, ground := Ground.guard }]).op, (some (2, 76, false))⟩,
    ⟨(opPick (some 81) (.tmp 76) (.const (Value.bool true)) (.tmp 80) 4 "law.go:129" #[{ on := 2, ground := Ground.data }, { on := 6, ground := Ground.data }]).op, none⟩,
    ⟨(opMove (some 82) (.tmp 81) 4 "law.go:129" #[{ on := 7, ground := Ground.data }, { on := 5, ground := Ground.chain }]).op, none⟩,
    ⟨(opMove (some 83) (.tmp 12) 25 "law.go:129" #[{ on := 8, ground := Ground.guard }]).op, (some (8, 82, false))⟩,
    ⟨(opCallP p16 (some 84) [(.tmp 83)] #[25] 4 "law.go:129" #[{ on := 9, ground := Ground.data }, { on := 8, ground := Ground.chain }, { on := 8, ground := Ground.guard }]).op, (some (8, 82, false))⟩,
    ⟨(opNot (some 85) 4 (.tmp 84) 4 "law.go:129" #[{ on := 10, ground := Ground.data }, { on := 8, ground := Ground.guard }]).op, (some (8, 82, false))⟩,
    ⟨(opPick (some 86) (.tmp 82) (.const (Value.bool true)) (.tmp 85) 4 "law.go:129" #[{ on := 8, ground := Ground.data }, { on := 11, ground := Ground.data }]).op, none⟩
  ] (by kernel_rfl)))
  (.cond (.tmp 86)
    (.seq (.live [6] (.region 17 [
      ⟨(opAssign (some 6) (.const (Value.bool false)) 4 "law.go:130" #[]).op, none⟩
    ] (by kernel_rfl)))
    (.live [6] .ret))
    .skip))
  (.seq (.live [1, 2, 7, 12, 16] (.region 18 [
    ⟨(opMove (some 87) (.tmp 7) 25 "law.go:132" #[]).op, none⟩,
    ⟨(opCallP p17 (some 88) [(.tmp 87)] #[25] 38 "law.go:132" #[{ on := 0, ground := Ground.data }]).op, none⟩,
    ⟨(opAssign (some 16) (.tmp 88) 38 "law.go:132" #[{ on := 1, ground := Ground.data }, { on := 1, ground := Ground.chain }, { on := 0, ground := Ground.phase }, { on := 1, ground := Ground.phase }]).op, none⟩
  ] (by kernel_rfl)))
  (.seq (.seq (.live [1, 2, 7, 12, 16, 17] (.region 19 [
    ⟨(opAssign (some 17) (.const (Value.int IntKind.i64 0)) 3 "law.go:133" #[]).op, none⟩
  ] (by kernel_rfl)))
  (.block 2 (.loop [1, 2, 7, 12, 16, 17] f5_l1)))
  f5_r0))))))

noncomputable def f5_b : Sim Try.prog :=
  (.seq (.live [0, 1, 2] (.region 0 [
    ⟨(opAssign (some 6) (.const (Value.bool false)) 4 "law.go:110" #[]).op, none⟩
  ] (by kernel_rfl)))
  (.seq (.seq (.live [0, 1, 2, 28] (.region 1 [
    ⟨(opCallP p8 (some 27) [] #[] 4 "law.go:111" #[]).op, none⟩,
    ⟨(opNot (some 28) 4 (.tmp 27) 4 "law.go:111" #[{ on := 0, ground := Ground.data }]).op, none⟩
  ] (by kernel_rfl)))
  (.cond (.tmp 28)
    (.seq (.live [6] (.region 2 [
      ⟨(opAssign (some 6) (.const (Value.bool false)) 4 "law.go:112" #[]).op, none⟩
    ] (by kernel_rfl)))
    (.live [6] .ret))
    .skip))
  (.seq (.seq (.live [0, 1, 2, 35] (.region 3 [
    ⟨(opMove (some 29) (.tmp 0) 22 "law.go:114" #[]).op, none⟩,
    ⟨(opCallP p9 (some 30) [(.tmp 29)] #[22] 4 "law.go:114" #[{ on := 0, ground := Ground.data }]).op, none⟩,
    ⟨(opMove (some 31) (.tmp 30) 4 "law.go:114" #[{ on := 1, ground := Ground.data }, { on := 1, ground := Ground.chain }]).op, none⟩,
    ⟨(opMove (some 32) (.tmp 2) 25 "law.go:114" #[{ on := 2, ground := Ground.guard }]).op, (some (2, 31, false))⟩,
    ⟨(opLen (some 33) (.tmp 32) 25 (.slice 5) Try.underlying25 3 "law.go:114" #[{ on := 3, ground := Ground.data }, { on := 2, ground := Ground.guard }]).op, (some (2, 31, false))⟩,
    ⟨(opBin (some 34) .gtr 3 (.tmp 33) (.const (Value.int IntKind.i64 1000)) 3 4 "law.go:114" #[{ on := 4, ground := Ground.data }, { on := 2, ground := Ground.guard }]).op, (some (2, 31, false))⟩,
    ⟨(opPick (some 35) (.tmp 31) (.const (Value.bool true)) (.tmp 34) 4 "law.go:114" #[{ on := 2, ground := Ground.data }, { on := 5, ground := Ground.data }]).op, none⟩
  ] (by kernel_rfl)))
  (.cond (.tmp 35)
    (.seq (.live [6] (.region 4 [
      ⟨(opAssign (some 6) (.const (Value.bool true)) 4 "law.go:115" #[]).op, none⟩
    ] (by kernel_rfl)))
    (.live [6] .ret))
    .skip))
  (.seq (.live [0, 1, 2, 7] (.region 5 [
    ⟨(opCallP p10 (some 36) [] #[] 25 "law.go:117" #[]).op, none⟩,
    ⟨(opAssign (some 7) (.tmp 36) 25 "law.go:117" #[{ on := 0, ground := Ground.data }, { on := 0, ground := Ground.chain }, { on := 0, ground := Ground.phase }]).op, none⟩
  ] (by kernel_rfl)))
  (.seq (.seq (.live [0, 1, 2, 7, 8] (.region 6 [
    ⟨(opAssign (some 8) (.const (Value.int IntKind.i64 0)) 3 "law.go:118" #[]).op, none⟩
  ] (by kernel_rfl)))
  (.block 0 (.loop [0, 1, 2, 7, 8] f5_l0)))
  f5_r1)))))

noncomputable def f5 : Fun Try.prog where
  id := 5
  fn := Try.f5
  hf := Try.func5
  hname := by kernel_rfl
  body := f5_b
  hbody := by kernel_rfl
  res := [rTmp 6]
  hres := by kernel_rfl
  n := 161
  hn := by kernel_rfl

end Go.Proofs.Ytblliolkgkgppaa.V

/- What the functions' runs come to; the right sides were printed by a tool, Lean checks them. -/
set_option linter.unusedVariables false
set_option maxRecDepth 100000
namespace Go.Proofs.Ytblliolkgkgppaa.V
open Go Go.V Go.RowKit

theorem keeps_run (F : Nat) (z y : Bool) (l d : List (List AV)) (s : Int) :
    (f5.run F [.ns z 3 l, .int .i64 s, .ns y 1 d] ⟨[], []⟩ : Ans) =
    branch (AV.bool (okCl l))
      (branch (AV.bool (greatB l)) (some (Fin.ret (AV.bool true), St.mk [] []))
        (branch (AV.bool (decide ((↑d.length : Int) > (1000 : Int)))) (some (Fin.ret (AV.bool true), St.mk [] []))
          (loopRun (f5_l0.run F) [0, 1, 2, 7, 8]
            (Cont.block 0 (Cont.then (f5_r1.run F (f5.leaveK Fun.done)) (f5.leaveK Fun.done))) F
            (Env.mk 161
              [(0, AV.ns z 3 l), (1, AV.int IntKind.i64 s), (2, AV.ns y 1 d),
                (7, AV.ns false 1 (bR zeroP)), (8, AV.int IntKind.i64 (0 : Int))])
            (St.mk [] []))))
      none := by kernel_rfl

theorem keeps_round (F m : Nat) (K : Cont) (z y w : Bool) (l p d : List (List AV)) (i s : Int) :
    (loopRun (f5_l0.run F) [0, 1, 2, 7, 8] K m.succ (Env.mk 161 [(0, .ns z 3 l), (1, .int .i64 s), (2, .ns w 1 d), (7, .ns y 1 p), (8, .int .i64 i)]) ⟨[], []⟩ : Ans) =
    branch (AV.bool (decide (i < (↑l.length : Int))))
      (branch (AV.bool (inR l i))
        (branch (AV.bool ((LD.one (LT.ns 1)).is (List.drop 2 (V.rowAt l i))))
          (branch
            (AV.bool
              (byOk p &&
                (byOk (rwA (List.drop 2 (V.rowAt l i))) &&
                  apOk (rwA (List.drop 2 (V.rowAt l i))).length 1)))
            (branch (AV.bool (oB (addP (nR p) (nR (rwA (List.drop 2 (V.rowAt l i)))))))
              (loopRun (f5_l0.run F) [0, 1, 2, 7, 8] K m
                (Env.mk 161
                  [(0, AV.ns z 3 l), (1, AV.int IntKind.i64 s), (2, AV.ns w 1 d),
                    (7,
                      AV.ns (!oB (addP (nR p) (nR (rwA (List.drop 2 (V.rowAt l i)))))) 1
                        (oR (addP (nR p) (nR (rwA (List.drop 2 (V.rowAt l i))))))),
                    (8, AV.int IntKind.i64 (IntKind.i64.wrap (i + (1 : Int))))])
                (St.mk [] []))
              (loopRun (f5_l0.run F) [0, 1, 2, 7, 8] K m
                (Env.mk 161
                  [(0, AV.ns z 3 l), (1, AV.int IntKind.i64 s), (2, AV.ns w 1 d),
                    (7, AV.ns y 1 p), (8, AV.int IntKind.i64 (IntKind.i64.wrap (i + (1 : Int))))])
                (St.mk [] [])))
            none)
          none)
        none)
      (K (AX.exit 0)
        (Env.mk 161
          [(1, AV.int IntKind.i64 s), (2, AV.ns w 1 d), (7, AV.ns y 1 p)])
        (St.mk [] [])) := by kernel_rfl

theorem keeps_out (F : Nat) (y w : Bool) (p d : List (List AV)) (s : Int) :
    ((Cont.block 0 (Cont.then (f5_r1.run F (f5.leaveK Fun.done)) (f5.leaveK Fun.done))) (.exit 0) (Env.mk 161 [(1, .int .i64 s), (2, .ns w 1 d), (7, .ns y 1 p)]) ⟨[], []⟩ : Ans) =
    branch (AV.bool (byOk p && (byOk d && apOk d.length 1)))
      (branch (AV.bool !oB (putP (nR p) s (nR d)))
        (some (Fin.ret (AV.bool ((↑(oR (putP (nR p) s (nR d))).length : Int) == (0 : Int))), St.mk [] []))
        (branch (AV.bool (byOk (oR (putP (nR p) s (nR d)))))
          (branch (AV.bool !oB (getP (ofS (nR (oR (putP (nR p) s (nR d))))) s))
            (some (Fin.ret (AV.bool false), St.mk [] []))
            (branch (AV.bool (byOk (oR (getP (ofS (nR (oR (putP (nR p) s (nR d))))) s)) && byOk d))
              (branch (AV.bool !nR (oR (getP (ofS (nR (oR (putP (nR p) s (nR d))))) s)) == nR d)
                (some (Fin.ret (AV.bool false), St.mk [] []))
                (branch (AV.bool (byOk (oR (putP (nR p) s (nR d)))))
                  (branch (AV.bool !ofBo (nR (oR (putP (nR p) s (nR d))))) (some (Fin.ret (AV.bool false), St.mk [] []))
                    (branch (AV.bool (byOk p))
                      (loopRun (f5_l1.run F) [1, 2, 7, 12, 16, 17]
                        (Cont.block 2 (Cont.then (f5_r0.run F (f5.leaveK Fun.done)) (f5.leaveK Fun.done))) F
                        (Env.mk 161
                          [(1, AV.int IntKind.i64 s), (2, AV.ns w 1 d),
                            (7, AV.ns y 1 p),
                            (12, AV.ns (!oB (putP (nR p) s (nR d))) 1 (oR (putP (nR p) s (nR d)))),
                            (16, AV.ns (slotsE (nR p)) 1 (slotsA (nR p))),
                            (17, AV.int IntKind.i64 (0 : Int))])
                        (St.mk [] []))
                      none))
                  none))
              none))
          none))
      none := by kernel_rfl

theorem keeps_round2 (F m : Nat) (K : Cont) (y w v u : Bool) (p d q e : List (List AV)) (i s : Int) :
    (loopRun (f5_l1.run F) [1, 2, 7, 12, 16, 17] K m.succ (Env.mk 161 [(1, .int .i64 s), (2, .ns w 1 d), (7, .ns y 1 p), (12, .ns v 1 q), (16, .ns u 1 e), (17, .int .i64 i)]) ⟨[], []⟩ : Ans) =
    branch (AV.bool (decide (i < (↑e.length : Int))))
      (branch (AV.bool (inR e i))
        (branch (AV.bool ((LD.one (LT.int IntKind.i64)).is (V.rowAt e i)))
          (branch (AV.bool (byOk p))
            (branch (AV.bool (inR e i))
              (branch (AV.bool ((LD.one (LT.int IntKind.i64)).is (V.rowAt e i)))
                (branch (AV.bool (byOk q))
                  (branch (AV.bool (inR e i))
                    (branch (AV.bool ((LD.one (LT.int IntKind.i64)).is (V.rowAt e i)))
                      (branch (AV.bool (hdI (V.rowAt e i) != s))
                        (branch (AV.bool !oB (getP (ofS (nR q)) (hdI (V.rowAt e i))))
                          (K AX.ret (Env.mk 161 [(6, AV.bool false)]) (St.mk [] []))
                          (branch
                            (AV.bool
                              (byOk (oR (getP (ofS (nR p)) (hdI (V.rowAt e i)))) &&
                                byOk (oR (getP (ofS (nR q)) (hdI (V.rowAt e i))))))
                            (branch
                              (AV.bool
                                !nR (oR (getP (ofS (nR p)) (hdI (V.rowAt e i)))) ==
                                    nR (oR (getP (ofS (nR q)) (hdI (V.rowAt e i)))))
                              (K AX.ret (Env.mk 161 [(6, AV.bool false)]) (St.mk [] []))
                              (loopRun (f5_l1.run F) [1, 2, 7, 12, 16, 17] K
                                m
                                (Env.mk 161
                                  [(1, AV.int IntKind.i64 s), (2, AV.ns w 1 d),
                                    (7, AV.ns y 1 p), (12, AV.ns v 1 q),
                                    (16, AV.ns u 1 e),
                                    (17, AV.int IntKind.i64 (IntKind.i64.wrap (i + (1 : Int))))])
                                (St.mk [] [])))
                            none))
                        (loopRun (f5_l1.run F) [1, 2, 7, 12, 16, 17] K m
                          (Env.mk 161
                            [(1, AV.int IntKind.i64 s), (2, AV.ns w 1 d),
                              (7, AV.ns y 1 p), (12, AV.ns v 1 q),
                              (16, AV.ns u 1 e),
                              (17, AV.int IntKind.i64 (IntKind.i64.wrap (i + (1 : Int))))])
                          (St.mk [] [])))
                      none)
                    none)
                  none)
                none)
              none)
            none)
          none)
        none)
      (K (AX.exit 2)
        (Env.mk 161
          [(1, AV.int IntKind.i64 s), (2, AV.ns w 1 d), (12, AV.ns v 1 q)])
        (St.mk [] [])) := by kernel_rfl

theorem keeps_out2 (F : Nat) (w v : Bool) (d q : List (List AV)) (s : Int) :
    ((Cont.block 2 (Cont.then (f5_r0.run F (f5.leaveK Fun.done)) (f5.leaveK Fun.done))) (.exit 2) (Env.mk 161 [(1, .int .i64 s), (2, .ns w 1 d), (12, .ns v 1 q)]) ⟨[], []⟩ : Ans) =
    branch (AV.bool (byOk q))
      (branch (AV.bool (byOk (oR (cutP (nR q) s))))
        (branch (AV.bool (byOk (oR (cutP (nR q) s)) && (byOk d && apOk d.length 1)))
          (branch (AV.bool (oB (cutP (nR q) s)))
            (branch (AV.bool !oB (getP (ofS (nR (oR (cutP (nR q) s)))) s))
              (branch (AV.bool (oB (putP (nR (oR (cutP (nR q) s))) s (nR d))))
                (branch (AV.bool (byOk (oR (putP (nR (oR (cutP (nR q) s))) s (nR d))) && byOk q))
                  (some (Fin.ret (AV.bool (nR (oR (putP (nR (oR (cutP (nR q) s))) s (nR d))) == nR q)), St.mk [] [])) none)
                (some (Fin.ret (AV.bool false), St.mk [] [])))
              (some (Fin.ret (AV.bool false), St.mk [] [])))
            (some (Fin.ret (AV.bool false), St.mk [] [])))
          none)
        none)
      none := by kernel_rfl

end Go.Proofs.Ytblliolkgkgppaa.V

/- Page: what slots have (plain). -/
set_option linter.unusedVariables false
namespace Go.Proofs.Ytblliolkgkgppaa.V
open Go Go.V Go.RowKit

/-- What a slot has. -/
def getS (s : Sl) (i : Nat) : Option (List Nat) := (s[i]?).join
theorem getP_nat (s : Sl) (i : Nat) : getP s (i : Int) = getS s i := by rw [getP, if_pos (by omega), Int.toNat_natCast]; rfl
theorem getS_ge {s : Sl} {i : Nat} (h : s.length ≤ i) : getS s i = none := by rw [getS, List.getElem?_eq_none h]; rfl
theorem getS_lt {s : Sl} {i : Nat} (h : i < s.length) : getS s i = s[i] := by rw [getS, List.getElem?_eq_getElem h]; rfl
theorem getS_pad (s : Sl) (m i : Nat) : getS (padS s m) i = getS s i := by
  rcases Nat.lt_or_ge i s.length with h | h
  · rw [getS_lt h, getS, padS, List.getElem?_append_left h, List.getElem?_eq_getElem h]; rfl
  · rw [getS_ge h, getS, padS, List.getElem?_append_right h, List.getElem?_replicate]
    split <;> rfl
theorem getS_set {s : Sl} {k : Nat} (hk : k < s.length) (o : Option (List Nat)) (i : Nat) : getS (s.set k o) i = if i = k then o else getS s i := by
  rw [getS, List.getElem?_set]
  by_cases h : k = i
  · subst h; rw [if_pos rfl, if_pos hk, if_pos rfl]; rfl
  · rw [if_neg h, if_neg (fun e => h e.symm)]; rfl
theorem trS_none (s : Sl) : ∀ i, (trS s).length ≤ i → i < s.length → getS s i = none := by
  rcases List.eq_nil_or_concat s with rfl | ⟨s', o, rfl⟩
  · intro i _ h; simp at h
  · rw [List.concat_eq_append]
    cases o with
    | some b => intro i h1 h2; rw [trS_id (trm_snoc _ _)] at h1; omega
    | none =>
      intro i h1 h2
      have e : trS (s' ++ [none]) = trS s' := by rw [trS, List.reverse_append, List.reverse_singleton, List.singleton_append, List.dropWhile_cons]; rfl
      rw [e] at h1
      rw [List.length_append, List.length_singleton] at h2
      rcases Nat.lt_or_ge i s'.length with h | h
      · have := trS_none s' i h1 h
        rw [getS_lt h] at this
        rw [getS_lt (by simp; omega), List.getElem_append_left h]
        exact this
      · have : i = s'.length := by omega
        subst this
        rw [getS_lt (by simp)]
        simp
termination_by s.length
decreasing_by all_goals simp_all
theorem getS_trS (s : Sl) (i : Nat) : getS (trS s) i = getS s i := by
  rcases Nat.lt_or_ge i (trS s).length with h | h
  · have hl := trS_len s
    have h2 := trS_take s
    rw [getS_lt h, getS_lt (by omega)]
    have : (s.take (trS s).length)[i]? = some s[i] := by rw [List.getElem?_take, if_pos h, List.getElem?_eq_getElem (by omega)]
    rw [← h2, List.getElem?_eq_getElem h] at this
    exact Option.some.inj this
  · rw [getS_ge h]
    rcases Nat.lt_or_ge i s.length with h2 | h2
    · exact (trS_none s i h h2).symm
    · rw [getS_ge h2]
theorem getS_with (s : Sl) (k : Nat) (o : Option (List Nat)) (i : Nat) : getS (withS s k o) i = if i = k then o else getS s i := by
  rw [withS, getS_trS, getS_set (by rw [padS_len]; omega), getS_pad]
/-- Slots without free ones at the end are what they have. -/
theorem sl_ext {s t : Sl} (hs : trm s = true) (ht : trm t = true) (h : ∀ i, getS s i = getS t i) : s = t := by
  have key : ∀ {s t : Sl}, trm t = true → (∀ i, getS s i = getS t i) → ¬ s.length < t.length := by
    intro s t ht h hl
    rcases List.eq_nil_or_concat t with rfl | ⟨t', o, rfl⟩
    · simp at hl
    · rw [List.concat_eq_append] at *
      rw [List.length_append, List.length_singleton] at hl
      have := h t'.length
      rw [getS_ge (by omega), getS_lt (by simp)] at this
      simp at this
      subst this
      simp [trm] at ht
  have hl : s.length = t.length := by
    have h1 := key (s := s) ht h
    have h2 := key (s := t) (t := s) hs fun i => (h i).symm
    omega
  apply List.ext_getElem hl
  intro i h1 h2
  have := h i
  rwa [getS_lt h1, getS_lt h2] at this
theorem with_back {s : Sl} (hs : trm s = true) (k : Nat) (o : Option (List Nat)) (h : getS s k = o) (o' : Option (List Nat)) : withS (withS s k o') k o = s := by
  refine sl_ext (trm_trS _) hs fun i => ?_
  rw [getS_with, getS_with]
  split
  · rename_i e; rw [e, h]
  · rfl
theorem sumN_set_le {s : Sl} {k : Nat} : sumN (s.set k none) ≤ sumN s := by
  have := sumN_set s k none
  exact this
theorem pgOk_cut {t : Sl} (h : pgOk t = true) {k : Nat} (hk : k < t.length) : pgOk (withS t k none) = true := by
  obtain ⟨h1, h2⟩ := pgOk_iff.mp h
  have hp : padS t (k + 1) = t := by rw [padS, show k + 1 - t.length = 0 by omega]; simp
  rw [pgOk_iff]
  refine ⟨?_, fun o ho => ?_⟩
  · have e1 : sumN (withS t k none) ≤ sumN t := by
      rw [withS, hp, trS_take]
      exact Nat.le_trans (sumN_take _ _) sumN_set_le
    have e2 : (withS t k none).length ≤ t.length := by
      have := trS_len ((padS t (k + 1)).set k none)
      rw [hp, List.length_set] at this
      rw [withS, hp]; exact this
    rw [szN] at h1 ⊢
    omega
  · rcases mem_with ho with h | h | h
    · exact h2 o h
    · rw [h]; exact Nat.zero_le _
    · rw [h]; exact Nat.zero_le _
theorem Pg.cut {q : List Nat} (hq : Pg q) {k : Nat} {b : List Nat} (h : getS (ofS q) k = some b) : ∃ c, cutP q (k : Int) = some c ∧ Pg c ∧ ofS c = withS (ofS q) k none := by
  obtain ⟨_, h1, h2, h3, _⟩ := hq.slots
  have hk : k < (ofS q).length := by
    rcases Nat.lt_or_ge k (ofS q).length with h' | h'
    · exact h'
    · rw [getS_ge h'] at h; cases h
  have hok := pgOk_cut h2 hk
  have hl := len_ofS q
  have e : toP (withS (ofS q) k none) = some (pgB (withS (ofS q) k none)) := by rw [toP, if_pos hok]
  obtain ⟨k1, k2⟩ := Pg.of (okSl_with h1 (by omega) (by omega) (fun c hc => by cases hc)) (trm_trS _) e
  exact ⟨_, by rw [cutP, cutS, getP_nat, h, if_pos (show (some b).isSome = true from rfl), Int.toNat_natCast, e], k1, k2⟩
theorem mem_slots : ∀ {s : Sl} {i n : Nat}, n ∈ slotsI s i → i ≤ n ∧ ∃ b, getS s (n - i) = some b
  | [], i, n, h => by cases h
  | none :: s, i, n, h => by
    rw [slotsI] at h
    obtain ⟨h1, b, h2⟩ := mem_slots h
    refine ⟨by omega, b, ?_⟩
    rw [show n - i = (n - (i + 1)) + 1 by omega]
    exact h2
  | some c :: s, i, n, h => by
    rw [slotsI] at h
    rcases List.mem_cons.mp h with rfl | h
    · exact ⟨Nat.le_refl _, c, by rw [Nat.sub_self]; rfl⟩
    · obtain ⟨h1, b, h2⟩ := mem_slots h
      refine ⟨by omega, b, ?_⟩
      rw [show n - i = (n - (i + 1)) + 1 by omega]
      exact h2
theorem getS_ok {s : Sl} (h : okSl s) {i : Nat} {b : List Nat} (hb : getS s i = some b) : (∀ x ∈ b, x < 256) ∧ b.length < 4611686018427387904 := by
  rcases Nat.lt_or_ge i s.length with hl | hl
  · rw [getS_lt hl] at hb
    exact h.1 b (by rw [← hb]; exact List.getElem_mem hl)
  · rw [getS_ge hl] at hb; cases hb

/-! ### PageKeeps -/
noncomputable abbrev keepK (F : Nat) : Cont := Cont.block 0 (Cont.then (f5_r1.run F (f5.leaveK Fun.done)) (f5.leaveK Fun.done))
noncomputable abbrev keepK2 (F : Nat) : Cont := Cont.block 2 (Cont.then (f5_r0.run F (f5.leaveK Fun.done)) (f5.leaveK Fun.done))
theorem keep_loop (F : Nat) (z w : Bool) (l d : List (List AV)) (s : Int) (hc : Calls' l) (hg : greatB l = false) : ∀ (k m i : Nat) (y : Bool) (p : List Nat), i + k = l.length → k < m → Pg p →
    ∃ y' q, Pg q ∧ loopRun (f5_l0.run F) [0, 1, 2, 7, 8] (keepK F) m (Env.mk 161 [(0, .ns z 3 l), (1, .int .i64 s), (2, .ns w 1 d), (7, .ns y 1 (bR p)), (8, .int .i64 (i : Int))]) ⟨[], []⟩ = keepK F (.exit 0) (Env.mk 161 [(1, .int .i64 s), (2, .ns w 1 d), (7, .ns y' 1 (bR q))]) ⟨[], []⟩
  | k, 0, i, y, p, hi, hm, hp => by omega
  | 0, m + 1, i, y, p, hi, hm, hp => ⟨y, p, hp, by rw [show m + 1 = m.succ from rfl, keeps_round, branch_not (by simp; omega)]⟩
  | k + 1, m + 1, i, y, p, hi, hm, hp => by
    have h1 : i < l.length := by omega
    have h100 := great_len hg
    obtain ⟨c1, c2, c3, c4⟩ := call_at hc hg h1
    have w0 : IntKind.i64.wrap ((i : Int) + 1) = ((i + 1 : Nat) : Int) := wrap_succ (by omega)
    have hby : byOk (bR p) = true := byOk_bR hp.1 (by rw [hp.2.1]; omega)
    rw [show m + 1 = m.succ from rfl, keeps_round, branch_of (by simpa using h1), branch_of (inR_nat h1), branch_of c1, branch_of (by rw [hby, c2, c3]; rfl), nR_bR, w0]
    cases ha : addP p (nR (rwA (List.drop 2 (V.rowAt l (i : Int))))) with
    | none =>
      rw [oB_none, branch_false]
      exact keep_loop F z w l d s hc hg k m (i + 1) y p (by omega) (by omega) hp
    | some q =>
      rw [oB_some, branch_true, oR_some]
      exact keep_loop F z w l d s hc hg k m (i + 1) _ q (by omega) (by omega) (hp.add c4 ha).1
theorem iR_at {l : List Nat} {i : Nat} (h : i < l.length) : inR (iR l) (i : Int) = true ∧ (LD.one (LT.int .i64)).is (V.rowAt (iR l) (i : Int)) = true ∧ hdI (V.rowAt (iR l) (i : Int)) = ((l[i] : Nat) : Int) := by
  have hl : i < (iR l).length := by rw [iR_length]; exact h
  have e : V.rowAt (iR l) (i : Int) = [.int .i64 (l[i] : Nat)] := by rw [rowAt_nat hl]; simp [iR]
  exact ⟨inR_nat hl, by rw [e]; rfl, by rw [e]; rfl⟩
theorem keep_loop2 (F : Nat) (y w v u : Bool) (d : List (List AV)) (p q : List Nat) (hp : Pg p) (hq : Pg q) (s k0 : Nat) (e : List Nat) (he : ∀ n ∈ e, ∃ b, getS (ofS p) n = some b) (hl : e.length ≤ 1000) (hs : s = k0) (hsame : ∀ n, n ≠ s → getS (ofS q) n = getS (ofS p) n) : ∀ (k m i : Nat), i + k = e.length → k < m →
    loopRun (f5_l1.run F) [1, 2, 7, 12, 16, 17] (keepK2 F) m (Env.mk 161 [(1, .int .i64 (s : Int)), (2, .ns w 1 d), (7, .ns y 1 (bR p)), (12, .ns v 1 (bR q)), (16, .ns u 1 (iR e)), (17, .int .i64 (i : Int))]) ⟨[], []⟩ = keepK2 F (.exit 2) (Env.mk 161 [(1, .int .i64 (s : Int)), (2, .ns w 1 d), (12, .ns v 1 (bR q))]) ⟨[], []⟩
  | k, 0, i, hi, hm => by omega
  | 0, m + 1, i, hi, hm => by rw [show m + 1 = m.succ from rfl, keeps_round2, branch_not (by rw [iR_length]; simp; omega)]
  | k + 1, m + 1, i, hi, hm => by
    have h1 : i < e.length := by omega
    obtain ⟨a1, a2, a3⟩ := iR_at h1
    obtain ⟨b, hb⟩ := he e[i] (List.getElem_mem h1)
    have w0 : IntKind.i64.wrap ((i : Int) + 1) = ((i + 1 : Nat) : Int) := wrap_succ (by omega)
    have hbp : byOk (bR p) = true := byOk_bR hp.1 (by rw [hp.2.1]; omega)
    have hbq : byOk (bR q) = true := byOk_bR hq.1 (by rw [hq.2.1]; omega)
    have ih := keep_loop2 F y w v u d p q hp hq s k0 e he hl hs hsame k m (i + 1) (by omega) (by omega)
    rw [show m + 1 = m.succ from rfl, keeps_round2, branch_of (by rw [iR_length]; simpa using h1), branch_of a1, branch_of a2, branch_of hbp, branch_of a1, branch_of a2, branch_of hbq, branch_of a1, branch_of a2, a3, w0, nR_bR, nR_bR]
    by_cases hne : e[i] = s
    · rw [branch_not (by simp [hne]), ih]
    · obtain ⟨g1, g2⟩ := getS_ok hp.slots.2.1 hb
      have hbb := byOk_bR g1 g2
      rw [branch_of (by simp; omega), getP_nat, getP_nat, hsame _ hne, hb, oB_some, branch_not (b := !true) rfl, oR_some, branch_of (by rw [hbb]; rfl), branch_not (by simp), ih]
theorem pageKeeps_true (z y : Bool) (l d : List (List AV)) (s : Int) (hc : Calls' l) (hl : l.length < 4611686018427387904) (hd : okR d = true) (hdl : d.length < 4611686018427387904) : ∃ F st, f5.run F [.ns z 3 l, .int .i64 s, .ns y 1 d] ⟨[], []⟩ = some (.ret (.bool true), st) := by
  refine ⟨l.length + 1000, ?_⟩
  rw [keeps_run, branch_of (hc.ok hl)]
  cases hg : greatB l with
  | true => exact ⟨_, rfl⟩
  | false =>
    rw [branch_false, zeroP_eq]
    by_cases h1 : (d.length : Int) > 1000
    · exact ⟨_, branch_of (by simpa using h1)⟩
    rw [branch_not (by simpa using h1)]
    obtain ⟨y', p, hp, h⟩ := keep_loop (l.length + 1000) z y l d s hc hg l.length (l.length + 1000) 0 false (List.replicate 256 0) (by omega) (by omega) zeros_pg.1
    have hbp : byOk (bR p) = true := byOk_bR hp.1 (by rw [hp.2.1]; omega)
    have hbd : byOk d = true := byOk_iff.mpr ⟨hd, hdl⟩
    have had : apOk d.length 1 = true := by rw [apOk_iff]; omega
    have hb : ∀ x ∈ nR d, x < 256 := fun x hx => okR_lt hd hx
    rw [show (0 : Int) = ((0 : Nat) : Int) from rfl, h, keepK, keeps_out, nR_bR, branch_of (by rw [hbp, hbd, had]; rfl)]
    cases hput : putP p s (nR d) with
    | none => exact ⟨_, by rw [oB_none, branch_of (b := !false) rfl, oR_none]; rfl⟩
    | some q =>
      obtain ⟨hq, hs, h0, h250⟩ := hp.put hb (by rw [nR_length]; exact hdl) hput
      obtain ⟨k, rfl⟩ := Int.eq_ofNat_of_zero_le h0
      rw [Int.toNat_natCast] at hs
      have hbq : byOk (bR q) = true := byOk_bR hq.1 (by rw [hq.2.1]; omega)
      have hget : getS (ofS q) k = some (nR d) := by rw [hs, getS_with, if_pos rfl]
      have hsl : slotsA p = iR (slotsI (ofS p) 0) := by rw [slotsA, opq_eq]
      have hlen : (slotsI (ofS p) 0).length ≤ 500 := by
        have : ∀ (t : Sl) (i : Nat), (slotsI t i).length ≤ t.length := by
          intro t
          induction t with
          | nil => intro i; simp [slotsI]
          | cons o t ih => intro i; cases o <;> simp [slotsI] <;> have := ih (i + 1) <;> omega
        have h2 := this (ofS p) 0
        have := len_ofS p
        omega
      have hloop := keep_loop2 (l.length + 1000) y' y (!oB (some q)) (slotsE p) d p q hp hq k k (slotsI (ofS p) 0) (fun n hn => by obtain ⟨_, b, h⟩ := mem_slots hn; exact ⟨b, by simpa using h⟩) (by omega) rfl (fun n hn => by rw [hs, getS_with, if_neg hn]) (slotsI (ofS p) 0).length (l.length + 1000) 0 (by omega) (by omega)
      obtain ⟨c, hc1, hc2, hc3⟩ := hq.cut hget
      have hbc : byOk (bR c) = true := byOk_bR hc2.1 (by rw [hc2.2.1]; omega)
      have hback : putP c (k : Int) (nR d) = some q := by
        rw [putP, if_pos hc2.2.2, hc3, putS, if_pos ⟨h0, h250⟩, Int.toNat_natCast, with_back hq.slots.2.2.2.1 k _ hget, toP, if_pos hq.slots.2.2.1, hq.slots.2.2.2.2]
      have hofb : ofBo q = true := by rw [ofBo, opq_eq]; exact hq.2.2
      rw [oB_some, branch_not (b := !true) rfl, oR_some, branch_of hbq, nR_bR, getP_nat, hget, oB_some, branch_not (b := !true) rfl, oR_some, ← okR_rows hd, branch_of (by rw [hbd]; rfl), branch_not (by simp), branch_of hbq, hofb, branch_not (b := !true) rfl, branch_of hbp, hsl]
      rw [oB_some] at hloop
      rw [show (0 : Int) = ((0 : Nat) : Int) from rfl]
      refine ⟨⟨[], []⟩, hloop.trans ?_⟩
      rw [keepK2, keeps_out2, branch_of hbq, nR_bR, hc1, oR_some, branch_of hbc, branch_of (by rw [hbc, hbd, had]; rfl), oB_some, branch_true, nR_bR, getP_nat, hc3, getS_with, if_pos rfl, oB_none, branch_of (b := !false) rfl, hback, oB_some, branch_true, oR_some, branch_of (by rw [hbq]; rfl), nR_bR]
      simp
theorem pageKeeps_law (as0 as1 as2 : List AV) (s0 : Ty.Shape tyCalls as0) (s1 : Ty.Shape (.int .i64) as1) (s2 : Ty.Shape (.sl (.int .u8) 1) as2) : ∃ F st, f5.run F [tyCalls.AV' as0, (Ty.int .i64).AV' as1, (Ty.sl (.int .u8) 1).AV' as2] ⟨[], []⟩ = some (.ret (.bool true), st) := by
  obtain ⟨z, l, rfl, h1, h2⟩ := calls_shape s0
  obtain ⟨s, rfl, _⟩ := s1
  obtain ⟨y, d, rfl, d1, _, d3⟩ := bytes_shape s2
  exact pageKeeps_true z y l d s h1 h2 d1 d3
end Go.Proofs.Ytblliolkgkgppaa.V

/- Maps. -/
set_option linter.unusedVariables false
set_option linter.unusedSimpArgs false
namespace Go.V

/-- The same key. -/
def eqK : AV → AV → Bool
  | .int _ a, .int _ b => a == b
  | .str a, .str b => a == b
  | .bool a, .bool b => a == b
  | _, _ => false
def findK : List (AV × AV) → AV → Option AV
  | [], _ => none
  | e :: es, k => match eqK k e.1 with
    | true => some e.2
    | false => findK es k
def putK : List (AV × AV) → AV → AV → List (AV × AV)
  | [], k, v => [(k, v)]
  | e :: es, k, v => match eqK k e.1 with
    | true => (k, v) :: es
    | false => e :: putK es k v
def hasK (es : List (AV × AV)) (k : AV) : Bool := (findK es k).isSome
def valK (es : List (AV × AV)) (k : AV) : AV := (findK es k).getD .dead
/-- A key's kind. -/
def keyT (t : LT) : Bool :=
  match t with
  | .int _ => true
  | .str => true
  | _ => false
def keyIs (t : LT) (k : AV) : Bool :=
  match t with
  | .int K => match k with
    | .int k _ => decide (k = K)
    | _ => false
  | .str => match k with
    | .str _ => true
    | _ => false
  | _ => false
def keysOk (t : LT) (es : List (AV × AV)) : Bool := es.all fun e => keyIs t e.1
/-- A map type's keys. -/
def keyD (t : LT) (d : TypeDesc) : Bool :=
  match t with
  | .int K => match d with
    | .int k => decide (k = K)
    | _ => false
  | .str => match d with
    | .string => true
    | _ => false
  | _ => false

theorem key_rel {t : LT} {d : TypeDesc} (ht : keyD t d = true) {g : Gh} {w : World} {k : AV} {v : Value} (hk : keyIs t k = true) (h : Rel g w k v) : MapKept.IsKey d v := by
  cases t with
  | int K =>
    simp only [keyD] at ht
    simp only [keyIs] at hk
    split at ht
    · simp only [decide_eq_true_eq] at ht
      split at hk
      · simp only [decide_eq_true_eq] at hk
        obtain rfl : v = _ := h
        subst ht; subst hk; rfl
      · cases hk
    · cases ht
  | str =>
    simp only [keyD] at ht
    simp only [keyIs] at hk
    split at ht
    · split at hk
      · obtain rfl : v = _ := h; trivial
      · cases hk
    · cases ht
  | _ => cases ht
theorem key_eq {t : LT} {g : Gh} {w : World} {k k' : AV} {v v' : Value} (hk : keyIs t k = true) (hk' : keyIs t k' = true) (h : Rel g w k v) (h' : Rel g w k' v') : (eqK k k' = true ↔ v = v') := by
  cases t with
  | int K =>
    simp only [keyIs] at hk hk'
    split at hk
    · split at hk'
      · simp only [decide_eq_true_eq] at hk hk'
        obtain rfl : v = _ := h
        obtain rfl : v' = _ := h'
        subst hk; subst hk'
        simp only [eqK, Value.int.injEq, true_and, beq_iff_eq]
      · cases hk'
    · cases hk
  | str =>
    simp only [keyIs] at hk hk'
    split at hk
    · split at hk'
      · obtain rfl : v = _ := h
        obtain rfl : v' = _ := h'
        simp only [eqK, Value.string.injEq, MapKept.bytes_beq]
      · cases hk'
    · cases hk
  | _ => cases hk

/-- What is found, and what is put. -/
theorem find_rel {t : LT} {d : TypeDesc} (ht : keyD t d = true) {g : Gh} {w : World} {k : AV} {kv : Value} (hk : keyIs t k = true) (hr : Rel g w k kv) : ∀ (es : List (AV × AV)) (L : List MapEntry) (i : Nat), keysOk t es = true → RelAll g w (es.map (·.1)) (L.map (·.key)) → RelAll g w (es.map (·.2)) (L.map (·.val)) →
    (findK es k = none ∧ Instr.findNow d kv L i = some none ∧ ∀ x, putK es k x = es ++ [(k, x)]) ∨
    (∃ a v j e, findK es k = some a ∧ Instr.findNow d kv L i = some (some (i + j, v)) ∧ Rel g w a v ∧ L[j]? = some e ∧ e.key = kv ∧ j < es.length ∧ ∀ x, putK es k x = es.set j (k, x))
  | [], [], i, _, _, _ => .inl ⟨rfl, rfl, fun _ => rfl⟩
  | [], e :: L, i, _, h, _ => by cases h
  | e :: es, [], i, _, h, _ => by obtain ⟨_, _, h, _⟩ := h; cases h
  | e :: es, m :: L, i, hok, h1, h2 => by
    obtain ⟨v1, r1, e1, k1, k2⟩ := h1
    obtain ⟨v2, r2, e2, k3, k4⟩ := h2
    cases e1; cases e2
    simp only [keysOk, List.all_cons, Bool.and_eq_true] at hok
    have hkey := key_rel ht hk hr
    have hkey' := key_rel ht hok.1 k1
    have heq := key_eq hk hok.1 hr k1
    obtain ⟨r, hs, hiff⟩ := MapKept.sameNow_of_keys hkey hkey'
    simp only [findK, Instr.findNow]
    rw [hs]
    by_cases hv : kv = m.key
    · rw [hiff.mpr hv, heq.mpr hv]
      exact .inr ⟨e.2, m.val, 0, m, rfl, rfl, k3, rfl, hv.symm, by simp, fun x => by simp only [putK, heq.mpr hv]; rfl⟩
    · have hno : eqK k e.1 = false := by
        cases he : eqK k e.1 with
        | false => rfl
        | true => exact absurd (heq.mp he) hv
      rw [show r = false by cases r with | false => rfl | true => exact absurd (hiff.mp rfl) hv, hno]
      simp only
      rcases find_rel ht hk hr es L (i + 1) hok.2 k2 k4 with ⟨a1, a2, a3⟩ | ⟨a, v, j, e', a1, a2, a3, a4, a5, a6, a7⟩
      · exact .inl ⟨a1, a2, fun x => by simp only [putK, hno, a3]; rfl⟩
      · exact .inr ⟨a, v, j + 1, e', a1, by simp only [a2]; rw [Nat.add_right_comm, Nat.add_assoc], a3, a4, a5, by simp; omega, fun x => by simp only [putK, hno, a7]; rfl⟩

/-- What is looked up: one cell of a kind, or several cells. -/
inductive LK where
  | one (t : LT)
  | agg (sz : Nat)
def isAgg (n : Nat) (v : AV) : Bool :=
  match v with
  | .agg cs => Nat.beq cs.length n
  | _ => false
def aggL (v : AV) : List AV :=
  match v with
  | .agg cs => cs
  | _ => []
def LK.is (l : LK) (v : AV) : Bool :=
  match l with
  | .one t => flatT t && isLT t [v]
  | .agg n => isAgg n v
def LK.val (l : LK) (v : AV) : AV :=
  match l with
  | .one t => valLT t [v]
  | .agg _ => .agg (aggL v)
theorem LK.val_eq {l : LK} {v : AV} (h : l.is v = true) : l.val v = v := by
  cases l with
  | one t =>
    simp only [LK.is, Bool.and_eq_true] at h
    obtain ⟨r, hr⟩ := isLT_eq h.1 h.2
    simp only [List.cons.injEq] at hr
    exact hr.1.symm
  | agg n =>
    simp only [LK.is, isAgg] at h
    split at h
    · rfl
    · cases h
def okRes (b : Bool) (ok : Bool) (v : AV) : AV :=
  match b with
  | true => .tup [v, .bool ok]
  | false => v
def alookup (t : LT) (l : LK) (z : AV) (co : Bool) (m key : AV) (st : St) (k : AV → Ans) : Ans :=
  match m with
  | .mp j => match st.objs[j]? with
    | some (.map es) => match keyIs t key && keysOk t es with
      | true => match hasK es key with
        | true => match l.is (valK es key) with
          | true => k (okRes co true (l.val (valK es key)))
          | false => none
        | false => k (okRes co false z)
      | false => none
    | _ => none
  | _ => none
def aupd (t : LT) (m key x : AV) (st : St) (k : AV → St → Ans) : Ans :=
  match m with
  | .mp j => match st.objs[j]? with
    | some (.map es) => match keyIs t key && keysOk t es with
      | true => k .dead ⟨st.objs.set j (.map (putK es key x)), st.tk⟩
      | false => none
    | _ => none
  | _ => none
def aclear (m : AV) (st : St) (k : AV → St → Ans) : Ans :=
  match m with
  | .mp j => match st.objs[j]? with
    | some (.map es) => k (.tup []) ⟨st.objs.set j (.map []), st.tk⟩
    | _ => none
  | _ => none

section
variable {P : Program}
def opMakeMap (dst : Option Tmp) (T : TypeId) (ty : TypeId) (pos : String) (after : Array Edge) : MSim P :=
  MSim.makes (mkOp dst (.makeMap T none) ty pos after) rfl [] (fun ev st k => k (.mp st.objs.length) ⟨st.objs ++ [.map []], st.tk⟩) (fun ev ev' st k h => rfl) fun ev st k fin h g w a he hs => by
    have hp := Push.alloc w (.map #[] 0)
    refine ⟨_, .map (some w.heap.size), _, _, w.alloc (.map #[] 0), h, ?_, ?_, hs.pushObj hp (.map []) trivial (fun hE => ⟨by simp [Gh.use], #[], 0, hp.new, rfl, rfl⟩), Ev.push hp _ _ _ (tk_refl _)⟩
    · rfl
    · refine ⟨w.heap.size, ?_, rfl⟩
      show (g.objs ++ [w.heap.size])[st.objs.length]? = some w.heap.size
      rw [List.getElem?_append_right (by rw [hs.len]; exact Nat.le_refl _)]; simp [hs.len]

def opLookup (t : LT) (l : LK) (dst : Option Tmp) (T : TypeId) (x i : Operand) (co : Bool) (K E : TypeId) (dk : TypeDesc) (hT : P.underlying T = some (.map K E)) (hK : P.underlying K = some dk) (ht : keyD t dk = true) (z : Value) (hz : (P.info? E).bind (·.zero) = some z) (ty : TypeId) (pos : String) (after : Array Edge) : QSim P :=
  QSim.quiet (mkOp dst (.lookup T x i co) ty pos after) rfl [x, i] (fun ev st k => alookup t l (ofLit z) co (ev x) (ev i) st k) (fun ev ev' st k h => by simp only [h x (by simp), h i (by simp)]) fun ev st k fin h g w a he hs => by
    have hv := he x (by simp)
    have hi := he i (by simp)
    unfold alookup at h
    split at h
    · rename_i j hb
      rw [hb] at hv
      obtain ⟨b, hg, hv⟩ := hv
      split at h
      · rename_i es hes
        split at h
        · rename_i hk
          rw [Bool.and_eq_true] at hk
          obtain ⟨_, M, clock, hM, h1, h2⟩ := ob_of hs hg hes
          have hkey := key_rel ht hk.1 hi
          have hrun : ∀ r, Instr.findNow dk (a.eval i) M.toList 0 = some r → (execOp a.eval (mkOp dst (.lookup T x i co) ty pos after)).run P w = .ok (.value (if co then .tuple #[match r with | some (_, v) => v | none => z, .bool r.isSome] else match r with | some (_, v) => v | none => z)) w := by
            intro r hr
            have hc := MapKept.run_checkKey (w := w) hK hkey M.isEmpty 9999
            cases r with
            | none => simp [execOp, mkOp, hv, Instr.lookup, run_underlying hT, MapKept.run_getObj_map hM, hc, MapKept.run_findKey hK hr, run_zeroValue' hz, Result.andThen]
            | some r => simp [execOp, mkOp, hv, Instr.lookup, run_underlying hT, MapKept.run_getObj_map hM, hc, MapKept.run_findKey hK hr, Result.andThen]
          rcases find_rel ht hk.1 hi es M.toList 0 hk.2 h1 h2 with ⟨a1, a2, a3⟩ | ⟨u, v, jj, e, a1, a2, a3, a4, a5, a6, a7⟩
          · have : hasK es (ev i) = false := by rw [hasK, a1]; rfl
            rw [this] at h
            refine ⟨_, _, h, hrun _ a2, ?_⟩
            cases co with
            | true => exact ⟨#[z, .bool false], rfl, z, _, rfl, ofLit_rel g w z, .bool false, [], rfl, rfl, rfl⟩
            | false => exact ofLit_rel g w z
          · have : hasK es (ev i) = true := by rw [hasK, a1]; rfl
            rw [this] at h
            have hval : valK es (ev i) = u := by rw [valK, a1]; rfl
            rw [hval] at h
            simp only at h
            split at h
            · rename_i hl
              rw [LK.val_eq hl] at h
              refine ⟨_, _, h, hrun _ a2, ?_⟩
              cases co with
              | true => exact ⟨#[v, .bool true], rfl, v, _, rfl, a3, .bool true, [], rfl, rfl, rfl⟩
              | false => exact a3
            · cases h
        · cases h
      · cases h
    · cases h
theorem alookup_nat (t : LT) (l : LK) (z : AV) (co : Bool) (m key : AV) (st : St) (k : AV → Ans) : alookup t l z co m key st k = thenA (alookup t l z co m key st retA) k := by
  unfold alookup
  split
  · split
    · split
      · split
        · split <;> rfl
        · rfl
      · rfl
    · rfl
  · rfl
theorem opLookup_nat {t : LT} {l : LK} {dst : Option Tmp} {T : TypeId} {x i : Operand} {co : Bool} {K E : TypeId} {dk : TypeDesc} {hT : P.underlying T = some (.map K E)} {hK : P.underlying K = some dk} {ht : keyD t dk = true} {z : Value} {hz : (P.info? E).bind (·.zero) = some z} {ty : TypeId} {pos : String} {after : Array Edge} : (opLookup (P := P) t l dst T x i co K E dk hT hK ht z hz ty pos after).Nat := fun ev st k => alookup_nat _ _ _ _ _ _ _ _

/-- A map's block is written; what it has from now on. -/
theorem write_map {g : Gh} {st : St} {w : World} (hs : StRel g st w) {j b : Nat} (hg : g.objs[j]? = some b) {es es' : List (AV × AV)} (hes : st.objs[j]? = some (.map es)) {M M' : Array MapEntry} {c c' : Nat} (hM : w.heap[b]? = some (.map M c))
    (h1 : RelAll g w (es'.map (·.1)) (M'.toList.map (·.key))) (h2 : RelAll g w (es'.map (·.2)) (M'.toList.map (·.val))) :
    ∃ w', (setObj b (.map M' c')).run P w = .ok () w' ∧ StRel g ⟨st.objs.set j (.map es'), st.tk⟩ w' ∧ Ev g w g w' := by
  obtain ⟨hkind, _⟩ := ob_of hs hg hes
  have hlt := lt_of_block hM
  have hrun := MapKept.run_setObj_map (P := P) (.map M' c') hM
  obtain ⟨hnew, hold⟩ := MapKept.heap_set (o' := .map M' c') hM
  have hne : ∀ x, g.kind x ≠ .obj j → x ≠ b := fun x hx e => hx (by rw [e]; exact hkind)
  have hE : Ev g w g { w with heap := w.heap.setIfInBounds b (.map M' c') } := by
    refine ⟨rfl, rfl, rfl, by simp, fun x hx hk => ⟨rfl, ?_⟩, fun x t hx hk => ⟨hk, fun C' E' fz hC' => ⟨C', ?_, rfl, fun _ _ => rfl⟩⟩, fun x k hx hk => .inl hk, fun _ _ h => h, tk_refl _, fun _ _ => Nat.le_refl _, fun x k hx _ hk _ => ⟨hk, fun C' E' fz hC' => ⟨C', ?_, rfl⟩⟩⟩
    · refine hold x (hne x ?_)
      intro e; rw [e] at hk; cases hk
    · rw [← hC']; exact hold x (hne x (by rw [hk]; intro e; cases e))
    · rw [← hC']; exact hold x (hne x (by rw [hk]; intro e; cases e))
  refine ⟨_, hrun, ⟨hs.tk, by simp [hs.len], fun k b' y hk hy => ?_, fun b' k hb' hk => ?_, fun b' t hb' hk => hs.rowlt b' t (by simpa using hb') hk, fun b' k hb' hk => ?_⟩, hE⟩
  · by_cases hkj : k = j
    · subst hkj
      rw [hg] at hk
      cases hk
      rw [List.getElem?_set_self (getElem?_lt hes)] at hy
      cases hy
      exact ⟨by simpa using hlt, hkind, M', c', hnew, RelAll.mono hE _ _ h1, RelAll.mono hE _ _ h2⟩
    · rw [List.getElem?_set_ne (fun e => hkj e.symm)] at hy
      obtain ⟨h2, h3⟩ := hs.obj k b' y hk hy
      refine ⟨by simpa using h2, ?_⟩
      have hvk : ∀ b'', b'' < w.heap.size → g.kind b'' = .vec k → (w.heap.setIfInBounds b (.map M' c'))[b'']? = w.heap[b'']? ∧ g.kind b'' = .vec k := fun b'' _ h5 =>
        ⟨hold b'' (hne b'' (by rw [h5]; intro e; cases e)), h5⟩
      by_cases hbb : b' = b
      · subst hbb
        cases y with
        | gone => trivial
        | cells cs' => have := h3.1; rw [hkind] at this; cases this; exact absurd rfl hkj
        | map es => have := h3.1; rw [hkind] at this; cases this; exact absurd rfl hkj
        | vec v cs' =>
          obtain ⟨e1, b'', e2, e3, C', E', e4, e5, e6⟩ := h3
          exact ⟨e1, b'', by simpa using e2, e3, C', E', (hvk b'' e2 e3).1.trans e4, RelAll.mono hE _ _ e5, e6⟩
      · exact h3.keep hE (hold _ hbb) rfl hvk rfl
  · obtain ⟨y, h2, h3, h4⟩ := hs.back b' k (by simpa using hb') hk
    by_cases hkj : k = j
    · subst hkj
      exact ⟨_, List.getElem?_set_self (getElem?_lt hes), h3, trivial⟩
    · exact ⟨y, by rw [List.getElem?_set_ne (fun e => hkj e.symm)]; exact h2, h3, h4⟩
  · obtain ⟨⟨v, cs', h2⟩, h3⟩ := hs.vec b' k (by simpa using hb') hk
    refine ⟨⟨v, cs', ?_⟩, fun b'' hb'' h5 => h3 b'' (by simpa using hb'') h5⟩
    have hkj : k ≠ j := by intro e; subst e; rw [hes] at h2; cases h2
    rw [List.getElem?_set_ne (fun e => hkj e.symm)]; exact h2

theorem RelAll.set {g : Gh} {w : World} : ∀ {cs : List AV} {vs : List Value} (j : Nat) {c : AV} {v : Value}, RelAll g w cs vs → Rel g w c v → RelAll g w (cs.set j c) (vs.set j v)
  | [], _, _, _, _, h, _ => by obtain rfl := h; exact rfl
  | x :: cs, _, 0, _, _, ⟨u, r, e, h1, h2⟩, hc => by subst e; exact ⟨_, _, rfl, hc, h2⟩
  | x :: cs, _, j + 1, _, _, ⟨u, r, e, h1, h2⟩, hc => by subst e; exact ⟨_, _, rfl, h1, RelAll.set j h2 hc⟩

def opMapUpdate (t : LT) (dst : Option Tmp) (T : TypeId) (x i y : Operand) (K E : TypeId) (dk : TypeDesc) (hT : P.underlying T = some (.map K E)) (hK : P.underlying K = some dk) (ht : keyD t dk = true) (ty : TypeId) (pos : String) (after : Array Edge) : MSim P :=
  MSim.does (mkOp dst (.mapUpdate T x i y) ty pos after) rfl [x, i, y] (fun ev st k => aupd t (ev x) (ev i) (ev y) st k) (fun ev ev' st k h => by simp only [h x (by simp), h i (by simp), h y (by simp)]) fun ev st k fin h g w a he hs => by
    have hv := he x (by simp)
    have hi := he i (by simp)
    have hy := he y (by simp)
    unfold aupd at h
    split at h
    · rename_i j hb
      rw [hb] at hv
      obtain ⟨b, hg, hv⟩ := hv
      split at h
      · rename_i es hes
        split at h
        · rename_i hk
          rw [Bool.and_eq_true] at hk
          obtain ⟨_, M, clock, hM, h1, h2⟩ := ob_of hs hg hes
          have hkey := key_rel ht hk.1 hi
          have hc := MapKept.run_checkKey (w := w) hK hkey false 9999
          rcases find_rel ht hk.1 hi es M.toList 0 hk.2 h1 h2 with ⟨a1, a2, a3⟩ | ⟨u, v, jj, e, a1, a2, a3, a4, a5, a6, a7⟩
          · rw [a3] at h
            obtain ⟨w', k1, k2, k3⟩ := write_map (P := P) (es' := es ++ [(ev i, ev y)]) (M' := M.push { key := a.eval i, val := a.eval y, born := clock }) (c' := clock + 1) hs hg hes hM (by simp only [List.map_append, Array.toList_push]; exact RelAll.append _ _ _ _ h1 ⟨_, _, rfl, hi, rfl⟩) (by simp only [List.map_append, Array.toList_push]; exact RelAll.append _ _ _ _ h2 ⟨_, _, rfl, hy, rfl⟩)
            refine ⟨_, g, w', h, ?_, k2, k3⟩
            simp [execOp, mkOp, hv, Instr.mapUpdate, run_underlying hT, MapKept.run_getObj_map hM, hc, MapKept.run_findKey hK a2, Result.andThen, k1]
          · rw [a7] at h
            rw [Nat.zero_add] at a2
            have hj : M[jj]? = some e := by rw [← Array.getElem?_toList]; exact a4
            have hm : (M.modify jj fun e => { e with key := a.eval i, val := a.eval y }).toList = M.toList.set jj { e with key := a.eval i, val := a.eval y } := by
              rw [Array.toList_modify]
              apply List.ext_getElem?
              intro n
              rw [List.getElem?_modify, List.getElem?_set]
              by_cases hn : jj = n
              · subst hn
                have := getElem?_lt a4
                simp only [if_true, a4, if_pos this]
                rfl
              · simp only [if_neg hn]
                cases M.toList[n]? <;> rfl
            obtain ⟨w', k1, k2, k3⟩ := write_map (P := P) (es' := es.set jj (ev i, ev y)) (M' := M.modify jj fun e => { e with key := a.eval i, val := a.eval y }) (c' := clock) hs hg hes hM (by rw [hm, List.map_set, List.map_set]; exact RelAll.set jj h1 hi) (by rw [hm, List.map_set, List.map_set]; exact RelAll.set jj h2 hy)
            refine ⟨_, g, w', h, ?_, k2, k3⟩
            simp [execOp, mkOp, hv, Instr.mapUpdate, run_underlying hT, MapKept.run_getObj_map hM, hc, MapKept.run_findKey hK a2, Result.andThen, hj, a5, MapKept.run_keyThatStays hkey, k1]
        · cases h
      · cases h
    · cases h
theorem aupd_nat (t : LT) (m key x : AV) (st : St) (k : AV → St → Ans) : aupd t m key x st k = thenM (aupd t m key x st retM) k := by
  unfold aupd
  split
  · split
    · split <;> rfl
    · rfl
  · rfl
theorem opMapUpdate_nat {t : LT} {dst : Option Tmp} {T : TypeId} {x i y : Operand} {K E : TypeId} {dk : TypeDesc} {hT : P.underlying T = some (.map K E)} {hK : P.underlying K = some dk} {ht : keyD t dk = true} {ty : TypeId} {pos : String} {after : Array Edge} : (opMapUpdate (P := P) t dst T x i y K E dk hT hK ht ty pos after).NatM := fun ev st k => aupd_nat _ _ _ _ _ _

def opClearMap (dst : Option Tmp) (x : Operand) (T K E : TypeId) (hT : P.underlying T = some (.map K E)) (ty : TypeId) (pos : String) (after : Array Edge) : MSim P :=
  MSim.makes (mkOp dst (.call { callee := .builtin .clear, args := #[x], argTypes := #[T] }) ty pos after) rfl [x] (fun ev st k => aclear (ev x) st k) (fun ev ev' st k h => by simp only [h x (by simp)]) fun ev st k fin h g w a he hs => by
    have hv := he x (by simp)
    rw [callBuiltin]
    unfold aclear at h
    split at h
    · rename_i j hb
      rw [hb] at hv
      obtain ⟨b, hg, hv⟩ := hv
      split at h
      · rename_i es hes
        obtain ⟨_, M, clock, hM, h1, h2⟩ := ob_of hs hg hes
        obtain ⟨w', k1, k2, k3⟩ := write_map (P := P) (es' := []) (M' := #[]) (c' := clock) hs hg hes hM rfl rfl
        refine ⟨_, .tuple #[], _, g, w', h, ?_, ⟨#[], rfl, rfl⟩, k2, k3⟩
        simp [builtin, Builtin.clear_, hv, run_underlying hT, MapKept.run_getObj_map hM, k1]
      · cases h
    · cases h
end
end Go.V

/- The functions' pieces, as told by gen.py. -/
set_option linter.unusedVariables false
set_option maxRecDepth 20000
namespace Go.Proofs.Ytblliolkgkgppaa.V
open Go Go.V Go.RowKit

theorem fl29_1 : fieldB Try.prog 29 1 1 1 false = true := by kernel_rfl
theorem ze4 : (Try.prog.info? 4).bind (·.zero) = some (.bool false) := by kernel_rfl

/-! ### 3: interlock/interlocklaw06.PageOrder (22); results 2; slots: 0 calls, 1 calls, 3 p, 4 q, 5 seen, 6 i, 7 i, 8 x, 9 ok, 10 y, 11 is -/
/-- A loop's round; at its head live: 0 calls, 3 p, 4 q, 5 seen, 6 i -/
noncomputable def f3_l0 : Sim Try.prog :=
  (.seq (.seq (.live [0, 3, 4, 5, 6, 22] (.region 9 [
    ⟨(opMove (some 19) (.tmp 6) 3 "law.go:181" #[]).op, none⟩,
    ⟨(opMove (some 20) (.tmp 0) 22 "law.go:181" #[]).op, none⟩,
    ⟨(opLen (some 21) (.tmp 20) 22 (.slice 29) Try.underlying22 3 "law.go:181" #[{ on := 1, ground := Ground.data }]).op, none⟩,
    ⟨(opBin (some 22) .lss 3 (.tmp 19) (.tmp 21) 3 4 "law.go:181" #[{ on := 0, ground := Ground.data }, { on := 2, ground := Ground.data }]).op, none⟩
  ] (by kernel_rfl)))
  (.cond (.tmp 22)
    .skip
    (.live [0, 3, 4] (.exit 0))))
  (.seq (.block 1 (.seq (.seq (.live [0, 3, 4, 5, 6, 31] (.region 11 [
      ⟨(opMove (some 25) (.tmp 5) 27 "law.go:182" #[]).op, none⟩,
      ⟨(opMove (some 26) (.tmp 0) 22 "law.go:182" #[]).op, none⟩,
      ⟨(opMove (some 27) (.tmp 6) 3 "law.go:182" #[]).op, none⟩,
      ⟨(opIndexAddrT (some 28) 22 (.tmp 26) (.tmp 27) 29 3 Try.underlying22 sz29 0 "law.go:182" #[{ on := 1, ground := Ground.data }, { on := 2, ground := Ground.data }]).op, none⟩,
      ⟨(opFieldAddr (some 29) 29 (.tmp 28) 1 1 1 false fl29_1 (by decide) 0 "law.go:182" #[{ on := 3, ground := Ground.data }]).op, none⟩,
      ⟨(opLoadT (.one (.int .i64)) (some 30) 3 (.tmp 29) (.int .i64) Try.underlying3 1 sz3 (by kernel_rfl) 3 "law.go:182" #[{ on := 4, ground := Ground.data }]).op, none⟩,
      ⟨(opLookup (.int .i64) (.one .bool) (some 31) 27 (.tmp 25) (.tmp 30) false 3 4 (.int .i64) Try.underlying27 Try.underlying3 (by decide) (.bool false) ze4 4 "law.go:182" #[{ on := 0, ground := Ground.data }, { on := 5, ground := Ground.data }]).op, none⟩
    ] (by kernel_rfl)))
    (.cond (.tmp 31)
      (.seq (.live [2] (.region 12 [
        ⟨(opAssign (some 2) (.const (Value.bool true)) 4 "law.go:183" #[]).op, none⟩
      ] (by kernel_rfl)))
      (.live [2] .ret))
      .skip))
    (.live [0, 3, 4, 5, 6] (.region 13 [
      ⟨(opMove (some 32) (.tmp 5) 27 "law.go:185" #[]).op, none⟩,
      ⟨(opMove (some 33) (.tmp 0) 22 "law.go:185" #[]).op, none⟩,
      ⟨(opMove (some 34) (.tmp 6) 3 "law.go:185" #[]).op, none⟩,
      ⟨(opIndexAddrT (some 35) 22 (.tmp 33) (.tmp 34) 29 3 Try.underlying22 sz29 0 "law.go:185" #[{ on := 1, ground := Ground.data }, { on := 2, ground := Ground.data }]).op, none⟩,
      ⟨(opFieldAddr (some 36) 29 (.tmp 35) 1 1 1 false fl29_1 (by decide) 0 "law.go:185" #[{ on := 3, ground := Ground.data }]).op, none⟩,
      ⟨(opLoadT (.one (.int .i64)) (some 37) 3 (.tmp 36) (.int .i64) Try.underlying3 1 sz3 (by kernel_rfl) 3 "law.go:185" #[{ on := 4, ground := Ground.data }]).op, none⟩,
      ⟨(opMapUpdate (.int .i64) none 27 (.tmp 32) (.tmp 37) (.const (Value.bool true)) 3 4 (.int .i64) Try.underlying27 Try.underlying3 (by decide) 0 "law.go:185" #[{ on := 0, ground := Ground.data }, { on := 5, ground := Ground.data }, { on := 0, ground := Ground.phase }, { on := 1, ground := Ground.phase }, { on := 2, ground := Ground.phase }, { on := 3, ground := Ground.phase }, { on := 4, ground := Ground.phase }, { on := 5, ground := Ground.phase }]).op, none⟩
    ] (by kernel_rfl)))))
  (.live [0, 3, 4, 5, 6] (.region 10 [
    ⟨(opMove (some 23) (.tmp 6) 3 "law.go:181" #[]).op, none⟩,
    ⟨(opBin (some 24) .add 3 (.tmp 23) (.const (Value.int IntKind.i64 1)) 3 3 "law.go:181" #[{ on := 0, ground := Ground.data }]).op, none⟩,
    ⟨(opAssign (some 6) (.tmp 24) 3 "law.go:181" #[{ on := 1, ground := Ground.data }, { on := 0, ground := Ground.phase }, { on := 1, ground := Ground.phase }]).op, none⟩
  ] (by kernel_rfl)))))

/-- A loop's round; at its head live: 0 calls, 3 p, 4 q, 7 i -/
noncomputable def f3_l1 : Sim Try.prog :=
  (.seq (.seq (.live [0, 3, 4, 7, 41] (.region 15 [
    ⟨(opMove (some 38) (.tmp 7) 3 "law.go:187" #[]).op, none⟩,
    ⟨(opMove (some 39) (.tmp 0) 22 "law.go:187" #[]).op, none⟩,
    ⟨(opLen (some 40) (.tmp 39) 22 (.slice 29) Try.underlying22 3 "law.go:187" #[{ on := 1, ground := Ground.data }]).op, none⟩,
    ⟨(opBin (some 41) .lss 3 (.tmp 38) (.tmp 40) 3 4 "law.go:187" #[{ on := 0, ground := Ground.data }, { on := 2, ground := Ground.data }]).op, none⟩
  ] (by kernel_rfl)))
  (.cond (.tmp 41)
    .skip
    (.live [3, 4] (.exit 2))))
  (.seq (.block 3 (.seq (.live [0, 4, 7, 8, 9] (.draw 17 [
      ⟨.p (opMove (some 45) (.tmp 3) 25 "law.go:188" #[]), none⟩,
      ⟨.p (opMove (some 46) (.tmp 0) 22 "law.go:188" #[]), none⟩,
      ⟨.p (opMove (some 47) (.tmp 7) 3 "law.go:188" #[]), none⟩,
      ⟨.pn (opIndexAddrT (some 48) 22 (.tmp 46) (.tmp 47) 29 3 Try.underlying22 sz29 0 "law.go:188" #[{ on := 1, ground := Ground.data }, { on := 2, ground := Ground.data }]) opIndexAddrT_nat, none⟩,
      ⟨.pn (opFieldAddr (some 49) 29 (.tmp 48) 1 1 1 false fl29_1 (by decide) 0 "law.go:188" #[{ on := 3, ground := Ground.data }]) opFieldAddr_nat, none⟩,
      ⟨.qn (opLoadT (.one (.int .i64)) (some 50) 3 (.tmp 49) (.int .i64) Try.underlying3 1 sz3 (by kernel_rfl) 3 "law.go:188" #[{ on := 4, ground := Ground.data }]) opLoadT_nat, none⟩,
      ⟨.p (opMove (some 51) (.tmp 0) 22 "law.go:188" #[]), none⟩,
      ⟨.p (opMove (some 52) (.tmp 7) 3 "law.go:188" #[]), none⟩,
      ⟨.pn (opIndexAddrT (some 53) 22 (.tmp 51) (.tmp 52) 29 3 Try.underlying22 sz29 0 "law.go:188" #[{ on := 6, ground := Ground.data }, { on := 7, ground := Ground.data }]) opIndexAddrT_nat, none⟩,
      ⟨.pn (opFieldAddr (some 54) 29 (.tmp 53) 2 2 1 false fl29_2 (by decide) 0 "law.go:188" #[{ on := 8, ground := Ground.data }]) opFieldAddr_nat, none⟩,
      ⟨.qn (opLoadT (.one (.ns 1)) (some 55) 25 (.tmp 54) (.slice 5) Try.underlying25 1 sz25 (by kernel_rfl) 25 "law.go:188" #[{ on := 9, ground := Ground.data }]) opLoadT_nat, none⟩,
      ⟨.pn (opCallP p11 (some 56) [(.tmp 45), (.tmp 50), (.tmp 55)] #[25, 3, 25] 30 "law.go:188" #[{ on := 0, ground := Ground.data }, { on := 5, ground := Ground.data }, { on := 10, ground := Ground.data }]) (opCallP_nat p11_nat), none⟩,
      ⟨.p (opMove (some 44) (.tmp 56) 30 "law.go:188" #[{ on := 11, ground := Ground.data }]), none⟩,
      ⟨.p (opExtract (some 57) (.tmp 44) 0 25 "law.go:188" #[{ on := 12, ground := Ground.data }]), none⟩,
      ⟨.p (opExtract (some 58) (.tmp 44) 1 4 "law.go:188" #[{ on := 12, ground := Ground.data }, { on := 15, ground := (Ground.gcOnly Departure.lateStores) }]), none⟩,
      ⟨.p (opAssign (some 8) (.tmp 57) 25 "law.go:188" #[{ on := 13, ground := Ground.data }, { on := 11, ground := Ground.chain }, { on := 0, ground := Ground.phase }, { on := 1, ground := Ground.phase }, { on := 2, ground := Ground.phase }, { on := 3, ground := Ground.phase }, { on := 4, ground := Ground.phase }, { on := 5, ground := Ground.phase }, { on := 6, ground := Ground.phase }, { on := 7, ground := Ground.phase }, { on := 8, ground := Ground.phase }, { on := 9, ground := Ground.phase }, { on := 10, ground := Ground.phase }, { on := 11, ground := Ground.phase }, { on := 12, ground := Ground.phase }, { on := 13, ground := Ground.phase }, { on := 14, ground := (Ground.textOnly Departure.lateStores) }]), none⟩,
      ⟨.p (opAssign (some 9) (.tmp 58) 4 "law.go:188" #[{ on := 14, ground := Ground.data }, { on := 15, ground := Ground.chain }, { on := 0, ground := Ground.phase }, { on := 1, ground := Ground.phase }, { on := 2, ground := Ground.phase }, { on := 3, ground := Ground.phase }, { on := 4, ground := Ground.phase }, { on := 5, ground := Ground.phase }, { on := 6, ground := Ground.phase }, { on := 7, ground := Ground.phase }, { on := 8, ground := Ground.phase }, { on := 9, ground := Ground.phase }, { on := 10, ground := Ground.phase }, { on := 11, ground := Ground.phase }, { on := 12, ground := Ground.phase }, { on := 13, ground := Ground.phase }, { on := 14, ground := Ground.phase }, { on := 15, ground := Ground.phase }]), none⟩
    ] mixed (by kernel_rfl)))
    (.seq (.live [0, 7, 8, 9, 10, 11] (.draw 18 [
      ⟨.p (opMove (some 60) (.tmp 4) 25 "law.go:189" #[]), none⟩,
      ⟨.p (opMove (some 61) (.tmp 0) 22 "law.go:189" #[]), none⟩,
      ⟨.p (opMove (some 62) (.tmp 0) 22 "law.go:189" #[]), none⟩,
      ⟨.p (opLen (some 63) (.tmp 62) 22 (.slice 29) Try.underlying22 3 "law.go:189" #[{ on := 2, ground := Ground.data }]), none⟩,
      ⟨.pn (opBin (some 64) .sub 3 (.tmp 63) (.const (Value.int IntKind.i64 1)) 3 3 "law.go:189" #[{ on := 3, ground := Ground.data }]) opBin_nat, none⟩,
      ⟨.p (opMove (some 65) (.tmp 7) 3 "law.go:189" #[]), none⟩,
      ⟨.pn (opBin (some 66) .sub 3 (.tmp 64) (.tmp 65) 3 3 "law.go:189" #[{ on := 4, ground := Ground.data }, { on := 5, ground := Ground.data }]) opBin_nat, none⟩,
      ⟨.pn (opIndexAddrT (some 67) 22 (.tmp 61) (.tmp 66) 29 3 Try.underlying22 sz29 0 "law.go:189" #[{ on := 1, ground := Ground.data }, { on := 6, ground := Ground.data }]) opIndexAddrT_nat, none⟩,
      ⟨.pn (opFieldAddr (some 68) 29 (.tmp 67) 1 1 1 false fl29_1 (by decide) 0 "law.go:189" #[{ on := 7, ground := Ground.data }]) opFieldAddr_nat, none⟩,
      ⟨.qn (opLoadT (.one (.int .i64)) (some 69) 3 (.tmp 68) (.int .i64) Try.underlying3 1 sz3 (by kernel_rfl) 3 "law.go:189" #[{ on := 8, ground := Ground.data }]) opLoadT_nat, none⟩,
      ⟨.p (opMove (some 70) (.tmp 0) 22 "law.go:189" #[]), none⟩,
      ⟨.p (opMove (some 71) (.tmp 0) 22 "law.go:189" #[]), none⟩,
      ⟨.p (opLen (some 72) (.tmp 71) 22 (.slice 29) Try.underlying22 3 "law.go:189" #[{ on := 11, ground := Ground.data }]), none⟩,
      ⟨.pn (opBin (some 73) .sub 3 (.tmp 72) (.const (Value.int IntKind.i64 1)) 3 3 "law.go:189" #[{ on := 12, ground := Ground.data }]) opBin_nat, none⟩,
      ⟨.p (opMove (some 74) (.tmp 7) 3 "law.go:189" #[]), none⟩,
      ⟨.pn (opBin (some 75) .sub 3 (.tmp 73) (.tmp 74) 3 3 "law.go:189" #[{ on := 13, ground := Ground.data }, { on := 14, ground := Ground.data }]) opBin_nat, none⟩,
      ⟨.pn (opIndexAddrT (some 76) 22 (.tmp 70) (.tmp 75) 29 3 Try.underlying22 sz29 0 "law.go:189" #[{ on := 10, ground := Ground.data }, { on := 15, ground := Ground.data }]) opIndexAddrT_nat, none⟩,
      ⟨.pn (opFieldAddr (some 77) 29 (.tmp 76) 2 2 1 false fl29_2 (by decide) 0 "law.go:189" #[{ on := 16, ground := Ground.data }]) opFieldAddr_nat, none⟩,
      ⟨.qn (opLoadT (.one (.ns 1)) (some 78) 25 (.tmp 77) (.slice 5) Try.underlying25 1 sz25 (by kernel_rfl) 25 "law.go:189" #[{ on := 17, ground := Ground.data }]) opLoadT_nat, none⟩,
      ⟨.pn (opCallP p11 (some 79) [(.tmp 60), (.tmp 69), (.tmp 78)] #[25, 3, 25] 30 "law.go:189" #[{ on := 0, ground := Ground.data }, { on := 9, ground := Ground.data }, { on := 18, ground := Ground.data }]) (opCallP_nat p11_nat), none⟩,
      ⟨.p (opMove (some 59) (.tmp 79) 30 "law.go:189" #[{ on := 19, ground := Ground.data }]), none⟩,
      ⟨.p (opExtract (some 80) (.tmp 59) 0 25 "law.go:189" #[{ on := 20, ground := Ground.data }]), none⟩,
      ⟨.p (opExtract (some 81) (.tmp 59) 1 4 "law.go:189" #[{ on := 20, ground := Ground.data }, { on := 23, ground := (Ground.gcOnly Departure.lateStores) }]), none⟩,
      ⟨.p (opAssign (some 10) (.tmp 80) 25 "law.go:189" #[{ on := 21, ground := Ground.data }, { on := 19, ground := Ground.chain }, { on := 0, ground := Ground.phase }, { on := 1, ground := Ground.phase }, { on := 2, ground := Ground.phase }, { on := 3, ground := Ground.phase }, { on := 4, ground := Ground.phase }, { on := 5, ground := Ground.phase }, { on := 6, ground := Ground.phase }, { on := 7, ground := Ground.phase }, { on := 8, ground := Ground.phase }, { on := 9, ground := Ground.phase }, { on := 10, ground := Ground.phase }, { on := 11, ground := Ground.phase }, { on := 12, ground := Ground.phase }, { on := 13, ground := Ground.phase }, { on := 14, ground := Ground.phase }, { on := 15, ground := Ground.phase }, { on := 16, ground := Ground.phase }, { on := 17, ground := Ground.phase }, { on := 18, ground := Ground.phase }, { on := 19, ground := Ground.phase }, { on := 20, ground := Ground.phase }, { on := 21, ground := Ground.phase }, { on := 22, ground := (Ground.textOnly Departure.lateStores) }]), none⟩,
      ⟨.p (opAssign (some 11) (.tmp 81) 4 "law.go:189" #[{ on := 22, ground := Ground.data }, { on := 23, ground := Ground.chain }, { on := 0, ground := Ground.phase }, { on := 1, ground := Ground.phase }, { on := 2, ground := Ground.phase }, { on := 3, ground := Ground.phase }, { on := 4, ground := Ground.phase }, { on := 5, ground := Ground.phase }, { on := 6, ground := Ground.phase }, { on := 7, ground := Ground.phase }, { on := 8, ground := Ground.phase }, { on := 9, ground := Ground.phase }, { on := 10, ground := Ground.phase }, { on := 11, ground := Ground.phase }, { on := 12, ground := Ground.phase }, { on := 13, ground := Ground.phase }, { on := 14, ground := Ground.phase }, { on := 15, ground := Ground.phase }, { on := 16, ground := Ground.phase }, { on := 17, ground := Ground.phase }, { on := 18, ground := Ground.phase }, { on := 19, ground := Ground.phase }, { on := 20, ground := Ground.phase }, { on := 21, ground := Ground.phase }, { on := 22, ground := Ground.phase }, { on := 23, ground := Ground.phase }]), none⟩
    ] mixed (by kernel_rfl)))
    (.seq (.seq (.live [0, 7, 8, 10, 87] (.region 19 [
      ⟨(opMove (some 82) (.tmp 9) 4 "law.go:190" #[]).op, none⟩,
      ⟨(opNot (some 83) 4 (.tmp 82) 4 "law.go:190" #[{ on := 0, ground := Ground.data }]).op, none⟩,
      ⟨(opMove (some 84) (.tmp 83) 4 "law.go:190" #[{ on := 1, ground := Ground.data }]).op, none⟩,
      ⟨(opMove (some 85) (.tmp 11) 4 "law.go:190" #[{ on := 2, ground := Ground.guard }]).op, (some (2, 84, false))⟩,
      ⟨(opNot (some 86) 4 (.tmp 85) 4 "law.go:190" #[{ on := 3, ground := Ground.data }, { on := 2, ground := Ground.guard }]).op, (some (2, 84, false))⟩,
      ⟨(opPick (some 87) (.tmp 84) (.const (Value.bool true)) (.tmp 86) 4 "law.go:190" #[{ on := 2, ground := Ground.data }, { on := 4, ground := Ground.data }]).op, none⟩
    ] (by kernel_rfl)))
    (.cond (.tmp 87)
      (.seq (.live [2] (.region 20 [
        ⟨(opAssign (some 2) (.const (Value.bool true)) 4 "law.go:191" #[]).op, none⟩
      ] (by kernel_rfl)))
      (.live [2] .ret))
      .skip))
    (.seq (.live [0, 3, 7, 10] (.region 21 [
      ⟨(opMove (some 88) (.tmp 8) 25 "law.go:193" #[]).op, none⟩,
      ⟨(opAssign (some 3) (.tmp 88) 25 "law.go:193" #[{ on := 0, ground := Ground.data }, { on := 0, ground := Ground.phase }]).op, none⟩
    ] (by kernel_rfl)))
    (.live [0, 3, 4, 7] (.region 22 [
      ⟨(opMove (some 89) (.tmp 10) 25 "law.go:194" #[]).op, none⟩,
      ⟨(opAssign (some 4) (.tmp 89) 25 "law.go:194" #[{ on := 0, ground := Ground.data }, { on := 0, ground := Ground.phase }]).op, none⟩
    ] (by kernel_rfl))))))))
  (.live [0, 3, 4, 7] (.region 16 [
    ⟨(opMove (some 42) (.tmp 7) 3 "law.go:187" #[]).op, none⟩,
    ⟨(opBin (some 43) .add 3 (.tmp 42) (.const (Value.int IntKind.i64 1)) 3 3 "law.go:187" #[{ on := 0, ground := Ground.data }]).op, none⟩,
    ⟨(opAssign (some 7) (.tmp 43) 3 "law.go:187" #[{ on := 1, ground := Ground.data }, { on := 0, ground := Ground.phase }, { on := 1, ground := Ground.phase }]).op, none⟩
  ] (by kernel_rfl)))))

/-- What follows a loop. -/
noncomputable def f3_r0 : Sim Try.prog :=
  (.seq (.live [2] (.region 23 [
    ⟨(opMove (some 90) (.tmp 3) 25 "law.go:196" #[]).op, none⟩,
    ⟨(opMove (some 91) (.tmp 4) 25 "law.go:196" #[]).op, none⟩,
    ⟨(opCallP p12 (some 92) [(.tmp 90), (.tmp 91)] #[25, 25] 4 "law.go:196" #[{ on := 0, ground := Ground.data }, { on := 1, ground := Ground.data }]).op, none⟩,
    ⟨(opAssign (some 2) (.tmp 92) 4 "law.go:196" #[{ on := 2, ground := Ground.data }, { on := 2, ground := Ground.chain }, { on := 0, ground := Ground.phase }, { on := 1, ground := Ground.phase }, { on := 2, ground := Ground.phase }]).op, none⟩
  ] (by kernel_rfl)))
  (.live [2] .ret))

/-- What follows a loop. -/
noncomputable def f3_r1 : Sim Try.prog :=
  (.seq (.seq (.live [0, 3, 4, 7] (.region 14 [
    ⟨(opAssign (some 7) (.const (Value.int IntKind.i64 0)) 3 "law.go:187" #[]).op, none⟩
  ] (by kernel_rfl)))
  (.block 2 (.loop [0, 3, 4, 7] f3_l1)))
  f3_r0)

noncomputable def f3_b : Sim Try.prog :=
  (.seq (.live [0] (.region 0 [
    ⟨(opAssign (some 2) (.const (Value.bool false)) 4 "law.go:171" #[]).op, none⟩
  ] (by kernel_rfl)))
  (.seq (.seq (.live [0, 13] (.region 1 [
    ⟨(opCallP p8 (some 12) [] #[] 4 "law.go:172" #[]).op, none⟩,
    ⟨(opNot (some 13) 4 (.tmp 12) 4 "law.go:172" #[{ on := 0, ground := Ground.data }]).op, none⟩
  ] (by kernel_rfl)))
  (.cond (.tmp 13)
    (.seq (.live [2] (.region 2 [
      ⟨(opAssign (some 2) (.const (Value.bool false)) 4 "law.go:173" #[]).op, none⟩
    ] (by kernel_rfl)))
    (.live [2] .ret))
    .skip))
  (.seq (.seq (.live [0, 15] (.region 3 [
    ⟨(opMove (some 14) (.tmp 0) 22 "law.go:175" #[]).op, none⟩,
    ⟨(opCallP p9 (some 15) [(.tmp 14)] #[22] 4 "law.go:175" #[{ on := 0, ground := Ground.data }]).op, none⟩
  ] (by kernel_rfl)))
  (.cond (.tmp 15)
    (.seq (.live [2] (.region 4 [
      ⟨(opAssign (some 2) (.const (Value.bool true)) 4 "law.go:176" #[]).op, none⟩
    ] (by kernel_rfl)))
    (.live [2] .ret))
    .skip))
  (.seq (.live [0, 3] (.region 5 [
    ⟨(opCallP p10 (some 16) [] #[] 25 "law.go:178" #[]).op, none⟩,
    ⟨(opAssign (some 3) (.tmp 16) 25 "law.go:178" #[{ on := 0, ground := Ground.data }, { on := 0, ground := Ground.chain }, { on := 0, ground := Ground.phase }]).op, none⟩
  ] (by kernel_rfl)))
  (.seq (.live [0, 3, 4] (.region 6 [
    ⟨(opCallP p10 (some 17) [] #[] 25 "law.go:179" #[]).op, none⟩,
    ⟨(opAssign (some 4) (.tmp 17) 25 "law.go:179" #[{ on := 0, ground := Ground.data }, { on := 0, ground := Ground.chain }, { on := 0, ground := Ground.phase }]).op, none⟩
  ] (by kernel_rfl)))
  (.seq (.live [0, 3, 4, 5] (.region 7 [
    ⟨(opMakeMap (some 18) 27 27 "law.go:180" #[]).op, none⟩,
    ⟨(opAssign (some 5) (.tmp 18) 27 "law.go:180" #[{ on := 0, ground := Ground.data }, { on := 0, ground := Ground.phase }]).op, none⟩
  ] (by kernel_rfl)))
  (.seq (.seq (.live [0, 3, 4, 5, 6] (.region 8 [
    ⟨(opAssign (some 6) (.const (Value.int IntKind.i64 0)) 3 "law.go:181" #[]).op, none⟩
  ] (by kernel_rfl)))
  (.block 0 (.loop [0, 3, 4, 5, 6] f3_l0)))
  f3_r1)))))))

noncomputable def f3 : Fun Try.prog where
  id := 3
  fn := Try.f3
  hf := Try.func3
  hname := by kernel_rfl
  body := f3_b
  hbody := by kernel_rfl
  res := [rTmp 2]
  hres := by kernel_rfl
  n := 93
  hn := by kernel_rfl

end Go.Proofs.Ytblliolkgkgppaa.V

/- What the functions' runs come to; the right sides were printed by a tool, Lean checks them. -/
set_option linter.unusedVariables false
set_option maxRecDepth 100000
namespace Go.Proofs.Ytblliolkgkgppaa.V
open Go Go.V Go.RowKit

theorem order_run (F : Nat) (z : Bool) (l : List (List AV)) :
    (f3.run F [.ns z 3 l] ⟨[], []⟩ : Ans) =
    branch (AV.bool (okCl l))
      (branch (AV.bool (greatB l)) (some (Fin.ret (AV.bool true), St.mk [] []))
        (loopRun (f3_l0.run F) [0, 3, 4, 5, 6]
          (Cont.block 0 (Cont.then (f3_r1.run F (f3.leaveK Fun.done)) (f3.leaveK Fun.done))) F
          (Env.mk 93
            [(0, AV.ns z 3 l), (3, AV.ns false 1 (bR zeroP)),
              (4, AV.ns false 1 (bR zeroP)), (5, AV.mp 0),
              (6, AV.int IntKind.i64 (0 : Int))])
          (St.mk [Ob.map []] [])))
      none := by kernel_rfl

theorem order_round (F m : Nat) (K : Cont) (z y u : Bool) (l p q : List (List AV)) (es : List (AV × AV)) (i : Int) :
    (loopRun (f3_l0.run F) [0, 3, 4, 5, 6] K m.succ (Env.mk 93 [(0, .ns z 3 l), (3, .ns y 1 p), (4, .ns u 1 q), (5, .mp 0), (6, .int .i64 i)]) ⟨[.map es], []⟩ : Ans) =
    branch (AV.bool (decide (i < (↑l.length : Int))))
      (branch (AV.bool (inR l i))
        (branch (AV.bool ((LD.one (LT.int IntKind.i64)).is (List.drop 1 (V.rowAt l i))))
          (branch (AV.bool (true && keysOk (LT.int IntKind.i64) es))
            (branch (AV.bool (hasK es (AV.int IntKind.i64 (hdI (List.drop 1 (V.rowAt l i))))))
              (branch
                (AV.bool ((LK.one LT.bool).is (valK es (AV.int IntKind.i64 (hdI (List.drop 1 (V.rowAt l i)))))))
                (branch (AV.bool (hdB [valK es (AV.int IntKind.i64 (hdI (List.drop 1 (V.rowAt l i))))]))
                  (K AX.ret (Env.mk 93 [(2, AV.bool true)]) (St.mk [Ob.map es] []))
                  (branch (AV.bool (inR l i))
                    (branch (AV.bool ((LD.one (LT.int IntKind.i64)).is (List.drop 1 (V.rowAt l i))))
                      (branch (AV.bool (true && keysOk (LT.int IntKind.i64) es))
                        (loopRun (f3_l0.run F) [0, 3, 4, 5, 6] K m
                          (Env.mk 93
                            [(0, AV.ns z 3 l), (3, AV.ns y 1 p),
                              (4, AV.ns u 1 q), (5, AV.mp 0),
                              (6, AV.int IntKind.i64 (IntKind.i64.wrap (i + (1 : Int))))])
                          (St.mk
                            [Ob.map (putK es (AV.int IntKind.i64 (hdI (List.drop 1 (V.rowAt l i)))) (AV.bool true))]
                            []))
                        none)
                      none)
                    none))
                none)
              (branch (AV.bool (inR l i))
                (branch (AV.bool ((LD.one (LT.int IntKind.i64)).is (List.drop 1 (V.rowAt l i))))
                  (branch (AV.bool (true && keysOk (LT.int IntKind.i64) es))
                    (loopRun (f3_l0.run F) [0, 3, 4, 5, 6] K m
                      (Env.mk 93
                        [(0, AV.ns z 3 l), (3, AV.ns y 1 p),
                          (4, AV.ns u 1 q), (5, AV.mp 0),
                          (6, AV.int IntKind.i64 (IntKind.i64.wrap (i + (1 : Int))))])
                      (St.mk
                        [Ob.map (putK es (AV.int IntKind.i64 (hdI (List.drop 1 (V.rowAt l i)))) (AV.bool true))]
                        []))
                    none)
                  none)
                none))
            none)
          none)
        none)
      (K (AX.exit 0)
        (Env.mk 93
          [(0, AV.ns z 3 l), (3, AV.ns y 1 p), (4, AV.ns u 1 q)])
        (St.mk [Ob.map es] [])) := by kernel_rfl

theorem order_out (F : Nat) (z y u : Bool) (l p q : List (List AV)) (es : List (AV × AV)) (i : Int) :
    ((Cont.block 0 (Cont.then (f3_r1.run F (f3.leaveK Fun.done)) (f3.leaveK Fun.done))) (.exit 0) (Env.mk 93 [(0, .ns z 3 l), (3, .ns y 1 p), (4, .ns u 1 q)]) ⟨[.map es], []⟩ : Ans) =
    loopRun (f3_l1.run F) [0, 3, 4, 7]
      (Cont.block 2 (Cont.then (f3_r0.run F (f3.leaveK Fun.done)) (f3.leaveK Fun.done))) F
      (Env.mk 93
        [(0, AV.ns z 3 l), (3, AV.ns y 1 p), (4, AV.ns u 1 q),
          (7, AV.int IntKind.i64 (0 : Int))])
      (St.mk [Ob.map es] []) := by kernel_rfl

theorem order_round2 (F m : Nat) (K : Cont) (z y u : Bool) (l p q : List (List AV)) (es : List (AV × AV)) (i : Int) :
    (loopRun (f3_l1.run F) [0, 3, 4, 7] K m.succ (Env.mk 93 [(0, .ns z 3 l), (3, .ns y 1 p), (4, .ns u 1 q), (7, .int .i64 i)]) ⟨[.map es], []⟩ : Ans) =
    branch (AV.bool (decide (i < (↑l.length : Int))))
      (branch (AV.bool (inR l i))
        (branch (AV.bool ((LD.one (LT.int IntKind.i64)).is (List.drop 1 (V.rowAt l i))))
          (branch (AV.bool (inR l i))
            (branch (AV.bool ((LD.one (LT.ns 1)).is (List.drop 2 (V.rowAt l i))))
              (branch
                (AV.bool
                  (byOk p &&
                    (byOk (rwA (List.drop 2 (V.rowAt l i))) &&
                      apOk (rwA (List.drop 2 (V.rowAt l i))).length 1)))
                (branch (AV.bool (inR l (IntKind.i64.wrap (IntKind.i64.wrap ((↑l.length : Int) - (1 : Int)) - i))))
                  (branch
                    (AV.bool
                      ((LD.one (LT.int IntKind.i64)).is
                        (List.drop 1
                          (V.rowAt l (IntKind.i64.wrap (IntKind.i64.wrap ((↑l.length : Int) - (1 : Int)) - i))))))
                    (branch (AV.bool (inR l (IntKind.i64.wrap (IntKind.i64.wrap ((↑l.length : Int) - (1 : Int)) - i))))
                      (branch
                        (AV.bool
                          ((LD.one (LT.ns 1)).is
                            (List.drop 2
                              (V.rowAt l (IntKind.i64.wrap (IntKind.i64.wrap ((↑l.length : Int) - (1 : Int)) - i))))))
                        (branch
                          (AV.bool
                            (byOk q &&
                              (byOk
                                  (rwA
                                    (List.drop 2
                                      (V.rowAt l
                                        (IntKind.i64.wrap (IntKind.i64.wrap ((↑l.length : Int) - (1 : Int)) - i))))) &&
                                apOk
                                  (rwA
                                      (List.drop 2
                                        (V.rowAt l
                                          (IntKind.i64.wrap
                                            (IntKind.i64.wrap ((↑l.length : Int) - (1 : Int)) - i))))).length
                                  1)))
                          (branch
                            (AV.bool
                              !oB
                                  (putP (nR p) (hdI (List.drop 1 (V.rowAt l i)))
                                    (nR (rwA (List.drop 2 (V.rowAt l i))))))
                            (K AX.ret (Env.mk 93 [(2, AV.bool true)]) (St.mk [Ob.map es] []))
                            (branch
                              (AV.bool
                                !oB
                                    (putP (nR q)
                                      (hdI
                                        (List.drop 1
                                          (V.rowAt l
                                            (IntKind.i64.wrap (IntKind.i64.wrap ((↑l.length : Int) - (1 : Int)) - i)))))
                                      (nR
                                        (rwA
                                          (List.drop 2
                                            (V.rowAt l
                                              (IntKind.i64.wrap
                                                (IntKind.i64.wrap ((↑l.length : Int) - (1 : Int)) - i))))))))
                              (K AX.ret (Env.mk 93 [(2, AV.bool true)]) (St.mk [Ob.map es] []))
                              (loopRun (f3_l1.run F) [0, 3, 4, 7] K m
                                (Env.mk 93
                                  [(0, AV.ns z 3 l),
                                    (3,
                                      AV.ns
                                        (!oB
                                            (putP (nR p) (hdI (List.drop 1 (V.rowAt l i)))
                                              (nR (rwA (List.drop 2 (V.rowAt l i))))))
                                        1
                                        (oR
                                          (putP (nR p) (hdI (List.drop 1 (V.rowAt l i)))
                                            (nR (rwA (List.drop 2 (V.rowAt l i))))))),
                                    (4,
                                      AV.ns
                                        (!oB
                                            (putP (nR q)
                                              (hdI
                                                (List.drop 1
                                                  (V.rowAt l
                                                    (IntKind.i64.wrap
                                                      (IntKind.i64.wrap ((↑l.length : Int) - (1 : Int)) - i)))))
                                              (nR
                                                (rwA
                                                  (List.drop 2
                                                    (V.rowAt l
                                                      (IntKind.i64.wrap
                                                        (IntKind.i64.wrap ((↑l.length : Int) - (1 : Int)) - i))))))))
                                        1
                                        (oR
                                          (putP (nR q)
                                            (hdI
                                              (List.drop 1
                                                (V.rowAt l
                                                  (IntKind.i64.wrap
                                                    (IntKind.i64.wrap ((↑l.length : Int) - (1 : Int)) - i)))))
                                            (nR
                                              (rwA
                                                (List.drop 2
                                                  (V.rowAt l
                                                    (IntKind.i64.wrap
                                                      (IntKind.i64.wrap ((↑l.length : Int) - (1 : Int)) - i))))))))),
                                    (7, AV.int IntKind.i64 (IntKind.i64.wrap (i + (1 : Int))))])
                                (St.mk [Ob.map es] []))))
                          none)
                        none)
                      none)
                    none)
                  none)
                none)
              none)
            none)
          none)
        none)
      (K (AX.exit 2) (Env.mk 93 [(3, AV.ns y 1 p), (4, AV.ns u 1 q)])
        (St.mk [Ob.map es] [])) := by kernel_rfl

theorem order_out2 (F : Nat) (y u : Bool) (p q : List (List AV)) (es : List (AV × AV)) :
    ((Cont.block 2 (Cont.then (f3_r0.run F (f3.leaveK Fun.done)) (f3.leaveK Fun.done))) (.exit 2) (Env.mk 93 [(3, .ns y 1 p), (4, .ns u 1 q)]) ⟨[.map es], []⟩ : Ans) =
    branch (AV.bool (byOk p && byOk q)) (some (Fin.ret (AV.bool (nR p == nR q)), St.mk [Ob.map es] [])) none := by kernel_rfl

end Go.Proofs.Ytblliolkgkgppaa.V

/- Page: PageOrder. -/
set_option linter.unusedVariables false
namespace Go.Proofs.Ytblliolkgkgppaa.V
open Go Go.V Go.RowKit

/-- The slots that were seen. -/
def mSeen (l : List Int) : List (AV × AV) := l.map fun n => (.int .i64 n, .bool true)
theorem keys_mSeen (l : List Int) : keysOk (.int .i64) (mSeen l) = true := by
  rw [keysOk, List.all_eq_true]
  intro e he
  obtain ⟨n, _, rfl⟩ := List.mem_map.mp he
  rfl
theorem find_mSeen (n : Int) : ∀ l : List Int, findK (mSeen l) (.int .i64 n) = if n ∈ l then some (.bool true) else none
  | [] => rfl
  | m :: l => by
    show (match eqK (.int .i64 n) (.int .i64 m) with | true => some (AV.bool true) | false => findK (mSeen l) (.int .i64 n)) = _
    by_cases h : n = m
    · subst h
      have : eqK (.int .i64 n) (.int .i64 n) = true := by simp [eqK]
      rw [this]; simp
    · have : eqK (.int .i64 n) (.int .i64 m) = false := by simp [eqK, h]
      rw [this, find_mSeen n l]; simp [h]
theorem put_mSeen (n : Int) : ∀ l : List Int, n ∉ l → putK (mSeen l) (.int .i64 n) (.bool true) = mSeen (l ++ [n])
  | [], _ => rfl
  | m :: l, h => by
    have h1 : n ≠ m := fun e => h (e ▸ List.mem_cons_self)
    have : eqK (.int .i64 n) (.int .i64 m) = false := by simp [eqK, h1]
    show (match eqK (.int .i64 n) (.int .i64 m) with | true => _ | false => (AV.int .i64 m, AV.bool true) :: putK (mSeen l) (.int .i64 n) (.bool true)) = _
    rw [this, put_mSeen n l fun e => h (List.mem_cons_of_mem _ e)]
    rfl
/-- A call's slot, its bytes. -/
def sAt (l : List (List AV)) (i : Nat) : Int := hdI (List.drop 1 (V.rowAt l (i : Int)))
def dAt (l : List (List AV)) (i : Nat) : List Nat := nR (rwA (List.drop 2 (V.rowAt l (i : Int))))
theorem slot_at {l : List (List AV)} (h : Calls' l) {i : Nat} (hi : i < l.length) : (LD.one (LT.int .i64)).is (List.drop 1 (V.rowAt l (i : Int))) = true ∧ (rwA (List.drop 2 (V.rowAt l (i : Int)))).length < 4611686018427387904 := by
  rw [rowAt_nat hi]
  obtain ⟨w, s, z, d, hr, h1, _, h3, _⟩ := h l[i] (List.getElem_mem hi)
  rw [hr]
  exact ⟨rfl, h3⟩
noncomputable abbrev ordK (F : Nat) : Cont := Cont.block 0 (Cont.then (f3_r1.run F (f3.leaveK Fun.done)) (f3.leaveK Fun.done))
noncomputable abbrev ordK2 (F : Nat) : Cont := Cont.block 2 (Cont.then (f3_r0.run F (f3.leaveK Fun.done)) (f3.leaveK Fun.done))
theorem nodup_inj {α : Type} {l : List α} (h : l.Nodup) {i j : Nat} (hi : i < l.length) (hj : j < l.length) : l[i] = l[j] ↔ i = j := by
  constructor
  · intro e
    have hp := List.pairwise_iff_getElem.mp h
    rcases Nat.lt_trichotomy i j with h' | h' | h'
    · exact absurd e (hp i j hi hj h')
    · exact h'
    · exact absurd e.symm (hp j i hj hi h')
  · rintro rfl; rfl
theorem ord_loop (F : Nat) (z y u : Bool) (l p q : List (List AV)) (hc : Calls' l) (h100 : l.length ≤ 100) : ∀ (k m i : Nat) (ls : List Int), i + k = l.length → k < m → ls.length = i → (∀ j (h : j < ls.length), ls[j] = sAt l j) → ls.Nodup →
    (∃ st, loopRun (f3_l0.run F) [0, 3, 4, 5, 6] (ordK F) m (Env.mk 93 [(0, .ns z 3 l), (3, .ns y 1 p), (4, .ns u 1 q), (5, .mp 0), (6, .int .i64 (i : Int))]) ⟨[.map (mSeen ls)], []⟩ = some (.ret (.bool true), st)) ∨
    (∃ es, (∀ i j, i < l.length → j < l.length → sAt l i = sAt l j → i = j) ∧ loopRun (f3_l0.run F) [0, 3, 4, 5, 6] (ordK F) m (Env.mk 93 [(0, .ns z 3 l), (3, .ns y 1 p), (4, .ns u 1 q), (5, .mp 0), (6, .int .i64 (i : Int))]) ⟨[.map (mSeen ls)], []⟩ = ordK F (.exit 0) (Env.mk 93 [(0, .ns z 3 l), (3, .ns y 1 p), (4, .ns u 1 q)]) ⟨[.map es], []⟩)
  | k, 0, i, ls, hi, hm, hl, hls, hn => by omega
  | 0, m + 1, i, ls, hi, hm, hl, hls, hn => by
    refine .inr ⟨mSeen ls, fun a b ha hb hab => ?_, by rw [show m + 1 = m.succ from rfl, order_round, branch_not (by simp; omega)]⟩
    have ha' : a < ls.length := by omega
    have hb' : b < ls.length := by omega
    rw [← hls a ha', ← hls b hb'] at hab
    exact (nodup_inj hn ha' hb').mp hab
  | k + 1, m + 1, i, ls, hi, hm, hl, hls, hn => by
    have h1 : i < l.length := by omega
    have w0 : IntKind.i64.wrap ((i : Int) + 1) = ((i + 1 : Nat) : Int) := wrap_succ (by omega)
    have hs : (LD.one (LT.int .i64)).is (List.drop 1 (V.rowAt l (i : Int))) = true := (slot_at hc h1).1
    have hf := find_mSeen (sAt l i) ls
    rw [show m + 1 = m.succ from rfl, order_round, branch_of (by simpa using h1), branch_of (inR_nat h1), branch_of hs, branch_of (b := true && keysOk (.int .i64) (mSeen ls)) (by rw [keys_mSeen]; rfl)]
    by_cases hmem : sAt l i ∈ ls
    · rw [if_pos hmem] at hf
      left
      have h2 : hasK (mSeen ls) (.int .i64 (hdI (List.drop 1 (V.rowAt l (i : Int))))) = true := by rw [hasK]; show (findK (mSeen ls) (.int .i64 (sAt l i))).isSome = true; rw [hf]; rfl
      have h3 : valK (mSeen ls) (.int .i64 (hdI (List.drop 1 (V.rowAt l (i : Int))))) = .bool true := by rw [valK]; show (findK (mSeen ls) (.int .i64 (sAt l i))).getD .dead = _; rw [hf]; rfl
      rw [branch_of h2, h3, branch_of (b := (LK.one LT.bool).is (.bool true)) rfl, branch_of (b := hdB [.bool true]) rfl]
      exact ⟨_, rfl⟩
    · rw [if_neg hmem] at hf
      have h2 : hasK (mSeen ls) (.int .i64 (hdI (List.drop 1 (V.rowAt l (i : Int))))) = false := by rw [hasK]; show (findK (mSeen ls) (.int .i64 (sAt l i))).isSome = false; rw [hf]; rfl
      have h3 : putK (mSeen ls) (.int .i64 (hdI (List.drop 1 (V.rowAt l (i : Int))))) (.bool true) = mSeen (ls ++ [sAt l i]) := put_mSeen _ _ hmem
      rw [branch_not h2, branch_of (inR_nat h1), branch_of hs, branch_of (b := true && keysOk (.int .i64) (mSeen ls)) (by rw [keys_mSeen]; rfl), h3, w0]
      refine ord_loop F z y u l p q hc h100 k m (i + 1) (ls ++ [sAt l i]) (by omega) (by omega) (by simp [hl]) (fun j hj => ?_) ?_
      · rcases Nat.lt_or_ge j ls.length with h | h
        · rw [List.getElem_append_left h]; exact hls j h
        · have : j = ls.length := by simp at hj; omega
          subst this
          rw [List.getElem_append_right (Nat.le_refl _)]; simp [hl]
      · rw [List.nodup_append]
        exact ⟨hn, by simp, fun a ha b hb => by simp at hb; subst hb; exact fun e => hmem (e ▸ ha)⟩
/-- A page has just what the calls of J say. -/
def Has (l : List (List AV)) (J : Nat → Prop) (p : List Nat) : Prop := Pg p ∧ (∀ j, j < l.length → J j → 0 ≤ sAt l j ∧ getS (ofS p) (sAt l j).toNat = some (dAt l j)) ∧ ∀ k : Nat, (∀ j, j < l.length → J j → sAt l j ≠ k) → getS (ofS p) k = none
theorem Has.put {l : List (List AV)} {J J' : Nat → Prop} {p q : List Nat} (h : Has l J p) {i : Nat} (hi : i < l.length) (hne : ∀ a b, a < l.length → b < l.length → sAt l a = sAt l b → a = b) (hJ : ∀ j, j < l.length → (J' j ↔ J j ∨ j = i)) (hJi : ¬ J i) (hb : ∀ x ∈ dAt l i, x < 256) (hbl : (dAt l i).length < 4611686018427387904) (hq : putP p (sAt l i) (dAt l i) = some q) : Has l J' q := by
  obtain ⟨h1, h2, h3⟩ := h
  obtain ⟨k1, k2, k3, _⟩ := h1.put hb hbl hq
  refine ⟨k1, fun j hj hJj => ?_, fun k hk => ?_⟩
  · rw [k2, getS_with]
    rcases (hJ j hj).mp hJj with hj' | rfl
    · obtain ⟨e1, e2⟩ := h2 j hj hj'
      refine ⟨e1, ?_⟩
      rw [if_neg ?_]
      · exact e2
      · intro e
        have : sAt l j = sAt l i := by omega
        rw [hne j i hj hi this] at hj'
        exact hJi hj'
    · exact ⟨k3, by rw [if_pos rfl]⟩
  · rw [k2, getS_with, if_neg ?_]
    · exact h3 k fun j hj hj' => hk j hj ((hJ j hj).mpr (.inl hj'))
    · intro e
      exact hk i hi ((hJ i hi).mpr (.inr rfl)) (by omega)
theorem Has.same {l : List (List AV)} {p q : List Nat} (hp : Has l (fun _ => True) p) (hq : Has l (fun _ => True) q) : p = q := by
  obtain ⟨h1, h2, h3⟩ := hp
  obtain ⟨k1, k2, k3⟩ := hq
  have : ofS p = ofS q := by
    refine sl_ext h1.slots.2.2.2.1 k1.slots.2.2.2.1 fun k => ?_
    by_cases hk : ∃ j, j < l.length ∧ sAt l j = k
    · obtain ⟨j, hj, e⟩ := hk
      obtain ⟨e1, e2⟩ := h2 j hj trivial
      obtain ⟨_, e3⟩ := k2 j hj trivial
      rw [e, Int.toNat_natCast] at e2 e3
      rw [e2, e3]
    · have hk' : ∀ j, j < l.length → True → sAt l j ≠ k := fun j hj _ e => hk ⟨j, hj, e⟩
      rw [h3 k hk', k3 k hk']
  rw [← h1.slots.2.2.2.2, ← k1.slots.2.2.2.2, this]
theorem ord_loop2 (F : Nat) (z : Bool) (l : List (List AV)) (es : List (AV × AV)) (hc : Calls' l) (hg : greatB l = false) (hne : ∀ a b, a < l.length → b < l.length → sAt l a = sAt l b → a = b) : ∀ (k m i : Nat) (y u : Bool) (p q : List Nat), i + k = l.length → k < m → Has l (fun j => j < i) p → Has l (fun j => l.length - i ≤ j) q →
    (∃ st, loopRun (f3_l1.run F) [0, 3, 4, 7] (ordK2 F) m (Env.mk 93 [(0, .ns z 3 l), (3, .ns y 1 (bR p)), (4, .ns u 1 (bR q)), (7, .int .i64 (i : Int))]) ⟨[.map es], []⟩ = some (.ret (.bool true), st)) ∨
    (∃ y' u' p', Pg p' ∧ loopRun (f3_l1.run F) [0, 3, 4, 7] (ordK2 F) m (Env.mk 93 [(0, .ns z 3 l), (3, .ns y 1 (bR p)), (4, .ns u 1 (bR q)), (7, .int .i64 (i : Int))]) ⟨[.map es], []⟩ = ordK2 F (.exit 2) (Env.mk 93 [(3, .ns y' 1 (bR p')), (4, .ns u' 1 (bR p'))]) ⟨[.map es], []⟩)
  | k, 0, i, y, u, p, q, hi, hm, hp, hq => by omega
  | 0, m + 1, i, y, u, p, q, hi, hm, hp, hq => by
    have hp' : Has l (fun _ => True) p := ⟨hp.1, fun j hj _ => hp.2.1 j hj (by omega), fun k hk => hp.2.2 k fun j hj _ => hk j hj trivial⟩
    have hq' : Has l (fun _ => True) q := ⟨hq.1, fun j hj _ => hq.2.1 j hj (by omega), fun k hk => hq.2.2 k fun j hj _ => hk j hj trivial⟩
    obtain rfl := hp'.same hq'
    exact .inr ⟨y, u, p, hp.1, by rw [show m + 1 = m.succ from rfl, order_round2, branch_not (by simp; omega)]⟩
  | k + 1, m + 1, i, y, u, p, q, hi, hm, hp, hq => by
    have h1 : i < l.length := by omega
    have h2 : l.length - 1 - i < l.length := by omega
    have h100 := great_len hg
    obtain ⟨c1, c2, c3, c4⟩ := call_at hc hg h1
    obtain ⟨e1, e2, e3, e4⟩ := call_at hc hg h2
    obtain ⟨s1, s2⟩ := slot_at hc h1
    obtain ⟨t1, t2⟩ := slot_at hc h2
    have w0 : IntKind.i64.wrap ((i : Int) + 1) = ((i + 1 : Nat) : Int) := wrap_succ (by omega)
    have w1 : IntKind.i64.wrap ((l.length : Int) - 1) = (l.length : Int) - 1 := wrapS (by omega) (by omega)
    have w2 : IntKind.i64.wrap ((l.length : Int) - 1 - i) = ((l.length - 1 - i : Nat) : Int) := by
      rw [wrapS (by omega) (by omega)]; omega
    have hbp : byOk (bR p) = true := byOk_bR hp.1.1 (by rw [hp.1.2.1]; omega)
    have hbq : byOk (bR q) = true := byOk_bR hq.1.1 (by rw [hq.1.2.1]; omega)
    rw [show m + 1 = m.succ from rfl, order_round2, w1, w2, branch_of (by simpa using h1), branch_of (inR_nat h1), branch_of s1, branch_of (inR_nat h1), branch_of c1, branch_of (by rw [hbp, c2, c3]; rfl), branch_of (inR_nat h2), branch_of t1, branch_of (inR_nat h2), branch_of e1, branch_of (by rw [hbq, e2, e3]; rfl), nR_bR, nR_bR, w0]
    have ex : putP p (hdI (List.drop 1 (V.rowAt l (i : Int)))) (nR (rwA (List.drop 2 (V.rowAt l (i : Int))))) = putP p (sAt l i) (dAt l i) := rfl
    have ey : putP q (hdI (List.drop 1 (V.rowAt l ((l.length - 1 - i : Nat) : Int)))) (nR (rwA (List.drop 2 (V.rowAt l ((l.length - 1 - i : Nat) : Int))))) = putP q (sAt l (l.length - 1 - i)) (dAt l (l.length - 1 - i)) := rfl
    rw [ex, ey]
    cases ha : putP p (sAt l i) (dAt l i) with
    | none => exact .inl ⟨_, branch_of (by rw [oB_none]; rfl)⟩
    | some p' =>
      rw [branch_not (b := !oB (some p')) (by rw [oB_some]; rfl)]
      cases hb : putP q (sAt l (l.length - 1 - i)) (dAt l (l.length - 1 - i)) with
      | none => exact .inl ⟨_, branch_of (by rw [oB_none]; rfl)⟩
      | some q' =>
        rw [branch_not (b := !oB (some q')) (by rw [oB_some]; rfl)]
        have hp' : Has l (fun j => j < i + 1) p' := hp.put h1 hne (fun j hj => by omega) (by omega) c4 (by rw [dAt, nR_length]; exact s2) ha
        have hq' : Has l (fun j => l.length - (i + 1) ≤ j) q' := hq.put h2 hne (fun j hj => by omega) (by omega) e4 (by rw [dAt, nR_length]; exact t2) hb
        have ih := ord_loop2 F z l es hc hg hne k m (i + 1) (!oB (some p')) (!oB (some q')) p' q' (by omega) (by omega) hp' hq'
        rw [oR_some, oR_some]
        exact ih
theorem pageOrder_true (z : Bool) (l : List (List AV)) (hc : Calls' l) (hl : l.length < 4611686018427387904) : ∃ F st, f3.run F [.ns z 3 l] ⟨[], []⟩ = some (.ret (.bool true), st) := by
  refine ⟨l.length + 1000, ?_⟩
  rw [order_run, branch_of (hc.ok hl)]
  cases hg : greatB l with
  | true => exact ⟨_, rfl⟩
  | false =>
    rw [branch_false, zeroP_eq, show (0 : Int) = ((0 : Nat) : Int) from rfl]
    obtain ⟨z0, z1⟩ := zeros_pg
    have hnil : ∀ k, getS (ofS (List.replicate 256 0)) k = none := fun k => by rw [z1]; exact getS_ge (Nat.zero_le _)
    rcases ord_loop (l.length + 1000) z false false l (bR (List.replicate 256 0)) (bR (List.replicate 256 0)) hc (great_len hg) l.length (l.length + 1000) 0 [] (by omega) (by omega) rfl (fun j h => by simp at h) List.nodup_nil with ⟨st, h⟩ | ⟨es, hne, h⟩
    · exact ⟨st, h⟩
    · rcases ord_loop2 (l.length + 1000) z l es hc hg hne l.length (l.length + 1000) 0 false false (List.replicate 256 0) (List.replicate 256 0) (by omega) (by omega) ⟨z0, fun j _ hj => by omega, fun k _ => hnil k⟩ ⟨z0, fun j hj hj' => by omega, fun k _ => hnil k⟩ with ⟨st, h2⟩ | ⟨y, u, p, hp, h2⟩
      · refine ⟨st, h.trans ?_⟩
        rw [ordK, order_out (i := 0)]
        exact h2
      · have hbp : byOk (bR p) = true := byOk_bR hp.1 (by rw [hp.2.1]; omega)
        refine ⟨⟨[.map es], []⟩, h.trans ?_⟩
        rw [ordK, order_out (i := 0)]
        refine h2.trans ?_
        rw [ordK2, order_out2, branch_of (by rw [hbp]; rfl), nR_bR]
        simp
theorem pageOrder_law (as0 : List AV) (s0 : Ty.Shape tyCalls as0) : ∃ F st, f3.run F [tyCalls.AV' as0] ⟨[], []⟩ = some (.ret (.bool true), st) := by
  obtain ⟨z, l, rfl, h1, h2⟩ := calls_shape s0
  exact pageOrder_true z l h1 h2
end Go.Proofs.Ytblliolkgkgppaa.V
