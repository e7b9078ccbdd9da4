/- The functions' pieces, as told by gen.py. -/
import Derived.Test.YtjdpfblmhahfkaaVE
import Derived.Test.YtjdpfblmhahfkaaVF
import Derived.Test.YtjdpfblmhahfkaaRows
set_option linter.unusedVariables false
set_option maxRecDepth 20000
namespace Go.Proofs.Ytjdpfblmhahfkaa.V
open Go Go.V Go.RowKit

theorem sz5 : (Try.prog.info? 5).map (·.size) = some 1 := by kernel_rfl
theorem ze5 : (Try.prog.info? 5).bind (·.zero) = some (.int .u8 0) := by kernel_rfl
theorem by5 : (Try.prog.info? 5).map (·.bytes) = some 1 := by kernel_rfl
theorem el22 : ElemOf Try.prog 22 5 1 1 (.int .u8 0) := ⟨Try.underlying22, sz5, by5, ze5, by kernel_rfl, by decide⟩
theorem fl48_0 : fieldB Try.prog 48 0 0 1 false = true := by kernel_rfl
theorem sz22 : (Try.prog.info? 22).map (·.size) = some 1 := by kernel_rfl
theorem fl48_1 : fieldB Try.prog 48 1 1 1 false = true := by kernel_rfl
theorem sz4 : (Try.prog.info? 4).map (·.size) = some 1 := by kernel_rfl
theorem mixed : Try.prog.follows .mixedOrders = true := by kernel_rfl

/-! ### 33: interlock/bits.digits (22); results 2, 3; slots: 0 b, 1 b, 4 u, 5 i, 6 c, 7 d -/
/-- A loop's round; at its head live: 4 u, 12 , 13 , 14  -/
noncomputable def f33_l0 : Sim Try.prog :=
  (.seq (.live [4, 12, 13, 14, 15] (.region 3 [
    ⟨(opBin (some 15) .lss 3 (.tmp 14) (.tmp 13) 3 0 "bits.go:55" #[]).op, none⟩
  ] (by kernel_rfl)))
  (.seq (.cond (.tmp 15)
    .skip
    (.live [] (.exit 0)))
  (.seq (.block 1 (.seq (.live [4, 5, 6, 12, 13, 14] (.region 4 [
      ⟨(opMove (some 16) (.tmp 14) 3 "bits.go:55" #[]).op, none⟩,
      ⟨(opIndexAddr (some 17) 22 (.tmp 12) (.tmp 14) 5 1 Try.underlying22 sz5 0 "bits.go:55" #[]).op, none⟩,
      ⟨(opLoad (some 18) 5 (.tmp 17) (.int .u8) Try.underlying5 1 sz5 5 "bits.go:55" #[{ on := 1, ground := Ground.data }]).op, none⟩,
      ⟨(opAssign (some 5) (.tmp 16) 3 "bits.go:55" #[{ on := 0, ground := Ground.data }, { on := 0, ground := Ground.phase }, { on := 1, ground := Ground.phase }, { on := 2, ground := Ground.phase }]).op, none⟩,
      ⟨(opAssign (some 6) (.tmp 18) 5 "bits.go:55" #[{ on := 2, ground := Ground.data }, { on := 3, ground := Ground.chain }, { on := 0, ground := Ground.phase }, { on := 1, ground := Ground.phase }, { on := 2, ground := Ground.phase }, { on := 3, ground := Ground.phase }]).op, none⟩
    ] (by kernel_rfl)))
    (.seq (.live [4, 5, 6, 7, 12, 13, 14] (.region 5 [
      ⟨(opMove (some 19) (.tmp 6) 5 "bits.go:56" #[]).op, none⟩,
      ⟨(opBin (some 20) .andNot 5 (.tmp 19) (.const (Value.int IntKind.u8 128)) 5 5 "bits.go:56" #[{ on := 0, ground := Ground.data }]).op, none⟩,
      ⟨(opConvInt (some 21) 5 49 (.tmp 20) (.int .u8) Try.underlying5 .u64 Try.underlying49 49 "bits.go:56" #[{ on := 1, ground := Ground.data }]).op, none⟩,
      ⟨(opAssign (some 7) (.tmp 21) 49 "bits.go:56" #[{ on := 2, ground := Ground.data }, { on := 0, ground := Ground.phase }, { on := 1, ground := Ground.phase }, { on := 2, ground := Ground.phase }]).op, none⟩
    ] (by kernel_rfl)))
    (.seq (.seq (.live [4, 5, 6, 7, 12, 13, 14, 27] (.region 6 [
      ⟨(opMove (some 22) (.tmp 5) 3 "bits.go:57" #[]).op, none⟩,
      ⟨(opBin (some 23) .eql 3 (.tmp 22) (.const (Value.int IntKind.i64 9)) 3 4 "bits.go:57" #[{ on := 0, ground := Ground.data }]).op, none⟩,
      ⟨(opMove (some 24) (.tmp 23) 4 "bits.go:57" #[{ on := 1, ground := Ground.data }]).op, none⟩,
      ⟨(opMove (some 25) (.tmp 7) 49 "bits.go:57" #[{ on := 2, ground := Ground.guard }]).op, (some (2, 24, true))⟩,
      ⟨(opBin (some 26) .gtr 49 (.tmp 25) (.const (Value.int IntKind.u64 1)) 49 4 "bits.go:57" #[{ on := 3, ground := Ground.data }, { on := 2, ground := Ground.guard }]).op, (some (2, 24, true))⟩,
      ⟨(opPick (some 27) (.tmp 24) (.tmp 26) (.const (Value.bool false)) 4 "bits.go:57" #[{ on := 2, ground := Ground.data }, { on := 4, ground := Ground.data }]).op, none⟩
    ] (by kernel_rfl)))
    (.cond (.tmp 27)
      (.seq (.live [2, 3] (.region 7 [
        ⟨(opAssign (some 2) (.const (Value.int IntKind.u64 0)) 49 "bits.go:58" #[]).op, none⟩,
        ⟨(opAssign (some 3) (.const (Value.int IntKind.i64 0)) 3 "bits.go:58" #[{ on := 0, ground := Ground.chain }, { on := 0, ground := Ground.phase }]).op, none⟩
      ] (by kernel_rfl)))
      (.live [2, 3] .ret))
      .skip))
    (.seq (.live [4, 5, 6, 7, 12, 13, 14] (.region 8 [
      ⟨(opMove (some 28) (.tmp 4) 49 "bits.go:60" #[]).op, none⟩,
      ⟨(opMove (some 29) (.tmp 7) 49 "bits.go:60" #[]).op, none⟩,
      ⟨(opMove (some 30) (.tmp 5) 3 "bits.go:60" #[]).op, none⟩,
      ⟨(opBin (some 31) .mul 3 (.const (Value.int IntKind.i64 7)) (.tmp 30) 3 3 "bits.go:60" #[{ on := 2, ground := Ground.data }]).op, none⟩,
      ⟨(opBin (some 32) .shl 49 (.tmp 29) (.tmp 31) 3 49 "bits.go:60" #[{ on := 1, ground := Ground.data }, { on := 3, ground := Ground.data }]).op, none⟩,
      ⟨(opBin (some 33) .or 49 (.tmp 28) (.tmp 32) 49 49 "bits.go:60" #[{ on := 0, ground := Ground.data }, { on := 4, ground := Ground.data }]).op, none⟩,
      ⟨(opAssign (some 4) (.tmp 33) 49 "bits.go:60" #[{ on := 5, ground := Ground.data }, { on := 0, ground := Ground.phase }, { on := 1, ground := Ground.phase }, { on := 2, ground := Ground.phase }, { on := 3, ground := Ground.phase }, { on := 4, ground := Ground.phase }, { on := 5, ground := Ground.phase }]).op, none⟩
    ] (by kernel_rfl)))
    (.seq (.live [4, 5, 7, 12, 13, 14, 35] (.region 9 [
      ⟨(opMove (some 34) (.tmp 6) 5 "bits.go:61" #[]).op, none⟩,
      ⟨(opBin (some 35) .lss 5 (.tmp 34) (.const (Value.int IntKind.u8 128)) 5 4 "bits.go:61" #[{ on := 0, ground := Ground.data }]).op, none⟩
    ] (by kernel_rfl)))
    (.cond (.tmp 35)
      (.seq (.seq (.live [4, 5, 41] (.region 10 [
        ⟨(opMove (some 36) (.tmp 7) 49 "bits.go:62" #[]).op, none⟩,
        ⟨(opBin (some 37) .eql 49 (.tmp 36) (.const (Value.int IntKind.u64 0)) 49 4 "bits.go:62" #[{ on := 0, ground := Ground.data }]).op, none⟩,
        ⟨(opMove (some 38) (.tmp 37) 4 "bits.go:62" #[{ on := 1, ground := Ground.data }]).op, none⟩,
        ⟨(opMove (some 39) (.tmp 5) 3 "bits.go:62" #[{ on := 2, ground := Ground.guard }]).op, (some (2, 38, true))⟩,
        ⟨(opBin (some 40) .gtr 3 (.tmp 39) (.const (Value.int IntKind.i64 0)) 3 4 "bits.go:62" #[{ on := 3, ground := Ground.data }, { on := 2, ground := Ground.guard }]).op, (some (2, 38, true))⟩,
        ⟨(opPick (some 41) (.tmp 38) (.tmp 40) (.const (Value.bool false)) 4 "bits.go:62" #[{ on := 2, ground := Ground.data }, { on := 4, ground := Ground.data }]).op, none⟩
      ] (by kernel_rfl)))
      (.cond (.tmp 41)
        (.seq (.live [2, 3] (.region 11 [
          ⟨(opAssign (some 2) (.const (Value.int IntKind.u64 0)) 49 "bits.go:63" #[]).op, none⟩,
          ⟨(opAssign (some 3) (.const (Value.int IntKind.i64 0)) 3 "bits.go:63" #[{ on := 0, ground := Ground.chain }, { on := 0, ground := Ground.phase }]).op, none⟩
        ] (by kernel_rfl)))
        (.live [2, 3] .ret))
        .skip))
      (.seq (.live [2, 3] (.region 12 [
        ⟨(opMove (some 42) (.tmp 4) 49 "bits.go:65" #[]).op, none⟩,
        ⟨(opMove (some 43) (.tmp 5) 3 "bits.go:65" #[{ on := 3, ground := (Ground.gcOnly Departure.lateStores) }]).op, none⟩,
        ⟨(opBin (some 44) .add 3 (.tmp 43) (.const (Value.int IntKind.i64 1)) 3 3 "bits.go:65" #[{ on := 1, ground := Ground.data }, { on := 3, ground := (Ground.gcOnly Departure.lateStores) }]).op, none⟩,
        ⟨(opAssign (some 2) (.tmp 42) 49 "bits.go:65" #[{ on := 0, ground := Ground.data }, { on := 0, ground := Ground.phase }, { on := 1, ground := (Ground.textOnly Departure.lateStores) }, { on := 2, ground := (Ground.textOnly Departure.lateStores) }]).op, none⟩,
        ⟨(opAssign (some 3) (.tmp 44) 3 "bits.go:65" #[{ on := 2, ground := Ground.data }, { on := 3, ground := Ground.chain }, { on := 0, ground := Ground.phase }, { on := 1, ground := Ground.phase }, { on := 2, ground := Ground.phase }, { on := 3, ground := Ground.phase }]).op, none⟩
      ] (by kernel_rfl)))
      (.live [2, 3] .ret)))
      .skip)))))))
  (.live [4, 12, 13, 14] (.region 13 [
    ⟨(opBin (some 45) .add 3 (.tmp 14) (.const (Value.int IntKind.i64 1)) 3 3 "bits.go:55" #[]).op, none⟩,
    ⟨(opMove (some 14) (.tmp 45) 3 "bits.go:55" #[{ on := 0, ground := Ground.data }]).op, none⟩
  ] (by kernel_rfl))))))

/-- What follows a loop. -/
noncomputable def f33_r0 : Sim Try.prog :=
  (.seq (.live [2, 3] (.region 14 [
    ⟨(opAssign (some 2) (.const (Value.int IntKind.u64 0)) 49 "bits.go:68" #[]).op, none⟩,
    ⟨(opAssign (some 3) (.const (Value.int IntKind.i64 0)) 3 "bits.go:68" #[{ on := 0, ground := Ground.chain }, { on := 0, ground := Ground.phase }]).op, none⟩
  ] (by kernel_rfl)))
  (.live [2, 3] .ret))

noncomputable def f33_b : Sim Try.prog :=
  (.seq (.live [0] (.region 0 [
    ⟨(opAssign (some 2) (.const (Value.int IntKind.u64 0)) 49 "bits.go:53" #[]).op, none⟩,
    ⟨(opAssign (some 3) (.const (Value.int IntKind.i64 0)) 3 "bits.go:53" #[{ on := 0, ground := Ground.chain }]).op, none⟩
  ] (by kernel_rfl)))
  (.seq (.live [0, 4] (.region 1 [
    ⟨(opAssign (some 4) (.const (Value.int IntKind.u64 0)) 49 "bits.go:54" #[]).op, none⟩
  ] (by kernel_rfl)))
  (.seq (.seq (.live [4, 12, 13, 14] (.region 2 [
    ⟨(opMove (some 8) (.tmp 0) 22 "bits.go:55" #[]).op, none⟩,
    ⟨(opMove (some 9) (.tmp 0) 22 "bits.go:55" #[]).op, none⟩,
    ⟨(opLen (some 10) (.tmp 9) 22 (.slice 5) Try.underlying22 3 "bits.go:55" #[{ on := 1, ground := Ground.data }]).op, none⟩,
    ⟨(opMinMax (some 11) false (.tmp 10) [(.const (Value.int IntKind.i64 10))] #[3, 3] 3 "bits.go:55" #[{ on := 2, ground := Ground.data }]).op, none⟩,
    ⟨(opSlice (some 12) 22 (.tmp 8) none (some (.tmp 11)) none 5 1 Try.underlying22 sz5 22 "bits.go:55" #[{ on := 0, ground := Ground.data }, { on := 3, ground := Ground.data }]).op, none⟩,
    ⟨(opLen (some 13) (.tmp 12) 22 (.slice 5) Try.underlying22 3 "bits.go:55" #[{ on := 4, ground := Ground.data }]).op, none⟩,
    ⟨(opMove (some 14) (.const (Value.int IntKind.i64 0)) 3 "bits.go:55" #[]).op, none⟩
  ] (by kernel_rfl)))
  (.block 0 (.loop [4, 12, 13, 14] f33_l0)))
  f33_r0)))

noncomputable def f33 : Fun Try.prog where
  id := 33
  fn := Try.f33
  hf := Try.func33
  hname := by kernel_rfl
  body := f33_b
  hbody := by kernel_rfl
  res := [rTmp 2, rTmp 3]
  hres := by kernel_rfl
  n := 46
  hn := by kernel_rfl

/-! ### 35: interlock/bits.unfold (49); results 2; slots: 0 u, 1 u -/
noncomputable def f35_b : Sim Try.prog :=
  (.seq (.live [0] (.region 0 [
    ⟨(opAssign (some 2) (.const (Value.int IntKind.i64 0)) 3 "bits.go:16" #[]).op, none⟩
  ] (by kernel_rfl)))
  (.seq (.live [2] (.region 1 [
    ⟨(opMove (some 3) (.tmp 0) 49 "bits.go:16" #[]).op, none⟩,
    ⟨(opBin (some 4) .shr 49 (.tmp 3) (.const (Value.int IntKind.u64 1)) 54 49 "bits.go:16" #[{ on := 0, ground := Ground.data }]).op, none⟩,
    ⟨(opConvInt (some 5) 49 3 (.tmp 4) (.int .u64) Try.underlying49 .i64 Try.underlying3 3 "bits.go:16" #[{ on := 1, ground := Ground.data }]).op, none⟩,
    ⟨(opMove (some 6) (.tmp 0) 49 "bits.go:16" #[]).op, none⟩,
    ⟨(opBin (some 7) .and 49 (.tmp 6) (.const (Value.int IntKind.u64 1)) 49 49 "bits.go:16" #[{ on := 3, ground := Ground.data }]).op, none⟩,
    ⟨(opConvInt (some 8) 49 3 (.tmp 7) (.int .u64) Try.underlying49 .i64 Try.underlying3 3 "bits.go:16" #[{ on := 4, ground := Ground.data }]).op, none⟩,
    ⟨(opNeg (some 9) 3 (.tmp 8) 3 "bits.go:16" #[{ on := 5, ground := Ground.data }]).op, none⟩,
    ⟨(opBin (some 10) .xor 3 (.tmp 5) (.tmp 9) 3 3 "bits.go:16" #[{ on := 2, ground := Ground.data }, { on := 6, ground := Ground.data }]).op, none⟩,
    ⟨(opAssign (some 2) (.tmp 10) 3 "bits.go:16" #[{ on := 7, ground := Ground.data }, { on := 0, ground := Ground.phase }, { on := 1, ground := Ground.phase }, { on := 2, ground := Ground.phase }, { on := 3, ground := Ground.phase }, { on := 4, ground := Ground.phase }, { on := 5, ground := Ground.phase }, { on := 6, ground := Ground.phase }, { on := 7, ground := Ground.phase }]).op, none⟩
  ] (by kernel_rfl)))
  (.live [2] .ret)))

noncomputable def f35 : Fun Try.prog where
  id := 35
  fn := Try.f35
  hf := Try.func35
  hname := by kernel_rfl
  body := f35_b
  hbody := by kernel_rfl
  res := [rTmp 2]
  hres := by kernel_rfl
  n := 11
  hn := by kernel_rfl

/-! ### 36: interlock/bits.fold (3); results 2; slots: 0 n, 1 n -/
noncomputable def f36_b : Sim Try.prog :=
  (.seq (.live [0] (.region 0 [
    ⟨(opAssign (some 2) (.const (Value.int IntKind.u64 0)) 49 "bits.go:13" #[]).op, none⟩
  ] (by kernel_rfl)))
  (.seq (.live [2] (.region 1 [
    ⟨(opMove (some 3) (.tmp 0) 3 "bits.go:13" #[]).op, none⟩,
    ⟨(opConvInt (some 4) 3 49 (.tmp 3) (.int .i64) Try.underlying3 .u64 Try.underlying49 49 "bits.go:13" #[{ on := 0, ground := Ground.data }]).op, none⟩,
    ⟨(opBin (some 5) .shl 49 (.tmp 4) (.const (Value.int IntKind.u64 1)) 54 49 "bits.go:13" #[{ on := 1, ground := Ground.data }]).op, none⟩,
    ⟨(opMove (some 6) (.tmp 0) 3 "bits.go:13" #[]).op, none⟩,
    ⟨(opBin (some 7) .shr 3 (.tmp 6) (.const (Value.int IntKind.u64 63)) 54 3 "bits.go:13" #[{ on := 3, ground := Ground.data }]).op, none⟩,
    ⟨(opConvInt (some 8) 3 49 (.tmp 7) (.int .i64) Try.underlying3 .u64 Try.underlying49 49 "bits.go:13" #[{ on := 4, ground := Ground.data }]).op, none⟩,
    ⟨(opBin (some 9) .xor 49 (.tmp 5) (.tmp 8) 49 49 "bits.go:13" #[{ on := 2, ground := Ground.data }, { on := 5, ground := Ground.data }]).op, none⟩,
    ⟨(opAssign (some 2) (.tmp 9) 49 "bits.go:13" #[{ on := 6, ground := Ground.data }, { on := 0, ground := Ground.phase }, { on := 1, ground := Ground.phase }, { on := 2, ground := Ground.phase }, { on := 3, ground := Ground.phase }, { on := 4, ground := Ground.phase }, { on := 5, ground := Ground.phase }, { on := 6, ground := Ground.phase }]).op, none⟩
  ] (by kernel_rfl)))
  (.live [2] .ret)))

noncomputable def f36 : Fun Try.prog where
  id := 36
  fn := Try.f36
  hf := Try.func36
  hname := by kernel_rfl
  body := f36_b
  hbody := by kernel_rfl
  res := [rTmp 2]
  hres := by kernel_rfl
  n := 10
  hn := by kernel_rfl

/-! ### 14: interlock/interlockref00.SameBytes (22, 22); results 4; slots: 0 a, 1 b, 2 a, 3 b, 5 i -/
/-- A loop's round; at its head live: 0 a, 1 b, 5 i -/
noncomputable def f14_l0 : Sim Try.prog :=
  (.seq (.seq (.live [0, 1, 5, 14] (.region 4 [
    ⟨(opMove (some 11) (.tmp 5) 3 "ref.go:18" #[]).op, none⟩,
    ⟨(opMove (some 12) (.tmp 0) 22 "ref.go:18" #[]).op, none⟩,
    ⟨(opLen (some 13) (.tmp 12) 22 (.slice 5) Try.underlying22 3 "ref.go:18" #[{ on := 1, ground := Ground.data }]).op, none⟩,
    ⟨(opBin (some 14) .lss 3 (.tmp 11) (.tmp 13) 3 4 "ref.go:18" #[{ on := 0, ground := Ground.data }, { on := 2, ground := Ground.data }]).op, none⟩
  ] (by kernel_rfl)))
  (.cond (.tmp 14)
    .skip
    (.live [] (.exit 0))))
  (.seq (.block 1 (.seq (.live [0, 1, 5, 25] (.draw 6 [
      ⟨.p (opMove (some 17) (.tmp 0) 22 "ref.go:19" #[]), none⟩,
      ⟨.p (opMove (some 18) (.tmp 5) 3 "ref.go:19" #[]), none⟩,
      ⟨.pn (opIndexAddr (some 19) 22 (.tmp 17) (.tmp 18) 5 1 Try.underlying22 sz5 0 "ref.go:19" #[{ on := 0, ground := Ground.data }, { on := 1, ground := Ground.data }]) opIndexAddr_nat, none⟩,
      ⟨.qn (opLoad (some 20) 5 (.tmp 19) (.int .u8) Try.underlying5 1 sz5 5 "ref.go:19" #[{ on := 2, ground := Ground.data }]) opLoad_nat, none⟩,
      ⟨.p (opMove (some 21) (.tmp 1) 22 "ref.go:19" #[]), none⟩,
      ⟨.p (opMove (some 22) (.tmp 5) 3 "ref.go:19" #[]), none⟩,
      ⟨.pn (opIndexAddr (some 23) 22 (.tmp 21) (.tmp 22) 5 1 Try.underlying22 sz5 0 "ref.go:19" #[{ on := 4, ground := Ground.data }, { on := 5, ground := Ground.data }]) opIndexAddr_nat, none⟩,
      ⟨.qn (opLoad (some 24) 5 (.tmp 23) (.int .u8) Try.underlying5 1 sz5 5 "ref.go:19" #[{ on := 6, ground := Ground.data }]) opLoad_nat, none⟩,
      ⟨.pn (opBin (some 25) .neq 5 (.tmp 20) (.tmp 24) 5 4 "ref.go:19" #[{ on := 3, ground := Ground.data }, { on := 7, ground := Ground.data }]) opBin_nat, none⟩
    ] mixed (by kernel_rfl)))
    (.cond (.tmp 25)
      (.seq (.live [4] (.region 7 [
        ⟨(opAssign (some 4) (.const (Value.bool false)) 4 "ref.go:20" #[]).op, none⟩
      ] (by kernel_rfl)))
      (.live [4] .ret))
      .skip)))
  (.live [0, 1, 5] (.region 5 [
    ⟨(opMove (some 15) (.tmp 5) 3 "ref.go:18" #[]).op, none⟩,
    ⟨(opBin (some 16) .add 3 (.tmp 15) (.const (Value.int IntKind.i64 1)) 3 3 "ref.go:18" #[{ on := 0, ground := Ground.data }]).op, none⟩,
    ⟨(opAssign (some 5) (.tmp 16) 3 "ref.go:18" #[{ on := 1, ground := Ground.data }, { on := 0, ground := Ground.phase }, { on := 1, ground := Ground.phase }]).op, none⟩
  ] (by kernel_rfl)))))

/-- What follows a loop. -/
noncomputable def f14_r0 : Sim Try.prog :=
  (.seq (.live [4] (.region 8 [
    ⟨(opAssign (some 4) (.const (Value.bool true)) 4 "ref.go:23" #[]).op, none⟩
  ] (by kernel_rfl)))
  (.live [4] .ret))

noncomputable def f14_b : Sim Try.prog :=
  (.seq (.live [0, 1] (.region 0 [
    ⟨(opAssign (some 4) (.const (Value.bool false)) 4 "ref.go:14" #[]).op, none⟩
  ] (by kernel_rfl)))
  (.seq (.seq (.live [0, 1, 10] (.region 1 [
    ⟨(opMove (some 6) (.tmp 0) 22 "ref.go:15" #[]).op, none⟩,
    ⟨(opLen (some 7) (.tmp 6) 22 (.slice 5) Try.underlying22 3 "ref.go:15" #[{ on := 0, ground := Ground.data }]).op, none⟩,
    ⟨(opMove (some 8) (.tmp 1) 22 "ref.go:15" #[]).op, none⟩,
    ⟨(opLen (some 9) (.tmp 8) 22 (.slice 5) Try.underlying22 3 "ref.go:15" #[{ on := 2, ground := Ground.data }]).op, none⟩,
    ⟨(opBin (some 10) .neq 3 (.tmp 7) (.tmp 9) 3 4 "ref.go:15" #[{ on := 1, ground := Ground.data }, { on := 3, ground := Ground.data }]).op, none⟩
  ] (by kernel_rfl)))
  (.cond (.tmp 10)
    (.seq (.live [4] (.region 2 [
      ⟨(opAssign (some 4) (.const (Value.bool false)) 4 "ref.go:16" #[]).op, none⟩
    ] (by kernel_rfl)))
    (.live [4] .ret))
    .skip))
  (.seq (.seq (.live [0, 1, 5] (.region 3 [
    ⟨(opAssign (some 5) (.const (Value.int IntKind.i64 0)) 3 "ref.go:18" #[]).op, none⟩
  ] (by kernel_rfl)))
  (.block 0 (.loop [0, 1, 5] f14_l0)))
  f14_r0)))

noncomputable def f14 : Fun Try.prog where
  id := 14
  fn := Try.f14
  hf := Try.func14
  hname := by kernel_rfl
  body := f14_b
  hbody := by kernel_rfl
  res := [rTmp 4]
  hres := by kernel_rfl
  n := 26
  hn := by kernel_rfl

/-! ### 25: interlock/interlockref00.CopyBytes (22); results 2; slots: 0 b, 1 b, 3 out -/
noncomputable def f25_b : Sim Try.prog :=
  (.seq (.live [0] (.region 0 [
    ⟨(opAssign (some 2) (.const (Value.slice none 0 0)) 22 "ref.go:7" #[]).op, none⟩
  ] (by kernel_rfl)))
  (.seq (.live [0, 3] (.region 1 [
    ⟨(opBuildSlice (some 4) 22 0 [] 5 1 1 (.int .u8 0) el22 (by kernel_rfl) (by decide) 22 "ref.go:8" #[]).op, none⟩,
    ⟨(opAssign (some 3) (.tmp 4) 22 "ref.go:8" #[{ on := 0, ground := Ground.data }, { on := 0, ground := Ground.phase }]).op, none⟩
  ] (by kernel_rfl)))
  (.seq (.live [3] (.region 2 [
    ⟨(opMove (some 5) (.tmp 3) 22 "ref.go:9" #[]).op, none⟩,
    ⟨(opMove (some 6) (.tmp 0) 22 "ref.go:9" #[]).op, none⟩,
    ⟨(opAppend (some 7) (.tmp 5) (.tmp 6) 22 22 5 1 1 (.int .u8 0) el22 (.slice 5) Try.underlying22 rfl 22 "ref.go:9" #[{ on := 0, ground := Ground.data }, { on := 1, ground := Ground.data }]).op, none⟩,
    ⟨(opAssign (some 3) (.tmp 7) 22 "ref.go:9" #[{ on := 2, ground := Ground.data }, { on := 2, ground := Ground.chain }, { on := 0, ground := Ground.phase }, { on := 1, ground := Ground.phase }, { on := 2, ground := Ground.phase }]).op, none⟩
  ] (by kernel_rfl)))
  (.seq (.live [2] (.region 3 [
    ⟨(opMove (some 8) (.tmp 3) 22 "ref.go:10" #[]).op, none⟩,
    ⟨(opAssign (some 2) (.tmp 8) 22 "ref.go:10" #[{ on := 0, ground := Ground.data }, { on := 0, ground := Ground.phase }]).op, none⟩
  ] (by kernel_rfl)))
  (.live [2] .ret)))))

noncomputable def f25 : Fun Try.prog where
  id := 25
  fn := Try.f25
  hf := Try.func25
  hname := by kernel_rfl
  body := f25_b
  hbody := by kernel_rfl
  res := [rTmp 2]
  hres := by kernel_rfl
  n := 9
  hn := by kernel_rfl

/-! ### 34: (*interlock/bits.Reader).fail (24); results ; slots: 0 r, 1 r -/
noncomputable def f34_b : Sim Try.prog :=
  (.live [] (.region 0 [
    ⟨(opMove (some 2) (.tmp 0) 24 "bits.go:50" #[]).op, none⟩,
    ⟨(opMove (some 3) (.tmp 0) 24 "bits.go:50" #[{ on := 4, ground := (Ground.gcOnly Departure.lateStores) }]).op, none⟩,
    ⟨(opNilCheck (some 4) (.tmp 2) 0 "bits.go:50" #[{ on := 0, ground := Ground.data }, { on := 0, ground := Ground.phase }, { on := 1, ground := (Ground.textOnly Departure.lateStores) }]).op, none⟩,
    ⟨(opFieldAddr (some 5) 48 (.tmp 4) 0 0 1 false fl48_0 (by decide) 0 "bits.go:50" #[{ on := 2, ground := Ground.data }, { on := 0, ground := Ground.phase }, { on := 1, ground := (Ground.textOnly Departure.lateStores) }]).op, none⟩,
    ⟨(opStore none 22 (.tmp 5) (.const (Value.slice none 0 0)) 1 sz22 0 "bits.go:50" #[{ on := 3, ground := Ground.data }, { on := 0, ground := Ground.phase }, { on := 1, ground := (Ground.textOnly Departure.lateStores) }]).op, none⟩,
    ⟨(opNilCheck (some 6) (.tmp 3) 0 "bits.go:50" #[{ on := 1, ground := Ground.data }, { on := 0, ground := Ground.phase }, { on := 1, ground := Ground.phase }, { on := 2, ground := Ground.phase }, { on := 3, ground := Ground.phase }, { on := 4, ground := Ground.phase }]).op, none⟩,
    ⟨(opFieldAddr (some 7) 48 (.tmp 6) 1 1 1 false fl48_1 (by decide) 0 "bits.go:50" #[{ on := 5, ground := Ground.data }, { on := 0, ground := Ground.phase }, { on := 1, ground := Ground.phase }, { on := 2, ground := Ground.phase }, { on := 3, ground := Ground.phase }, { on := 4, ground := Ground.phase }]).op, none⟩,
    ⟨(opStore none 4 (.tmp 7) (.const (Value.bool true)) 1 sz4 0 "bits.go:50" #[{ on := 6, ground := Ground.data }, { on := 4, ground := Ground.chain }, { on := 0, ground := Ground.phase }, { on := 1, ground := Ground.phase }, { on := 2, ground := Ground.phase }, { on := 3, ground := Ground.phase }, { on := 4, ground := Ground.phase }]).op, none⟩
  ] (by kernel_rfl)))

noncomputable def f34 : Fun Try.prog where
  id := 34
  fn := Try.f34
  hf := Try.func34
  hname := by kernel_rfl
  body := f34_b
  hbody := by kernel_rfl
  res := []
  hres := by kernel_rfl
  n := 8
  hn := by kernel_rfl

/-! ### 12: (*interlock/bits.Reader).Bad (24); results 2; slots: 0 r, 1 r -/
noncomputable def f12_b : Sim Try.prog :=
  (.seq (.live [0] (.region 0 [
    ⟨(opAssign (some 2) (.const (Value.bool false)) 4 "bits.go:129" #[]).op, none⟩
  ] (by kernel_rfl)))
  (.seq (.live [2] (.region 1 [
    ⟨(opMove (some 3) (.tmp 0) 24 "bits.go:129" #[]).op, none⟩,
    ⟨(opNilCheck (some 4) (.tmp 3) 0 "bits.go:129" #[{ on := 0, ground := Ground.data }]).op, none⟩,
    ⟨(opFieldAddr (some 5) 48 (.tmp 4) 1 1 1 false fl48_1 (by decide) 0 "bits.go:129" #[{ on := 1, ground := Ground.data }]).op, none⟩,
    ⟨(opLoad (some 6) 4 (.tmp 5) .bool Try.underlying4 1 sz4 4 "bits.go:129" #[{ on := 2, ground := Ground.data }]).op, none⟩,
    ⟨(opAssign (some 2) (.tmp 6) 4 "bits.go:129" #[{ on := 3, ground := Ground.data }, { on := 0, ground := Ground.phase }, { on := 1, ground := Ground.phase }, { on := 2, ground := Ground.phase }, { on := 3, ground := Ground.phase }]).op, none⟩
  ] (by kernel_rfl)))
  (.live [2] .ret)))

noncomputable def f12 : Fun Try.prog where
  id := 12
  fn := Try.f12
  hf := Try.func12
  hname := by kernel_rfl
  body := f12_b
  hbody := by kernel_rfl
  res := [rTmp 2]
  hres := by kernel_rfl
  n := 7
  hn := by kernel_rfl

/-! ### 13: (*interlock/bits.Reader).Left (24); results 2; slots: 0 r, 1 r -/
noncomputable def f13_b : Sim Try.prog :=
  (.seq (.live [0] (.region 0 [
    ⟨(opAssign (some 2) (.const (Value.int IntKind.i64 0)) 3 "bits.go:126" #[]).op, none⟩
  ] (by kernel_rfl)))
  (.seq (.live [2] (.region 1 [
    ⟨(opMove (some 3) (.tmp 0) 24 "bits.go:126" #[]).op, none⟩,
    ⟨(opNilCheck (some 4) (.tmp 3) 0 "bits.go:126" #[{ on := 0, ground := Ground.data }]).op, none⟩,
    ⟨(opFieldAddr (some 5) 48 (.tmp 4) 0 0 1 false fl48_0 (by decide) 0 "bits.go:126" #[{ on := 1, ground := Ground.data }]).op, none⟩,
    ⟨(opLoad (some 6) 22 (.tmp 5) (.slice 5) Try.underlying22 1 sz22 22 "bits.go:126" #[{ on := 2, ground := Ground.data }]).op, none⟩,
    ⟨(opLen (some 7) (.tmp 6) 22 (.slice 5) Try.underlying22 3 "bits.go:126" #[{ on := 3, ground := Ground.data }]).op, none⟩,
    ⟨(opAssign (some 2) (.tmp 7) 3 "bits.go:126" #[{ on := 4, ground := Ground.data }, { on := 0, ground := Ground.phase }, { on := 1, ground := Ground.phase }, { on := 2, ground := Ground.phase }, { on := 3, ground := Ground.phase }, { on := 4, ground := Ground.phase }]).op, none⟩
  ] (by kernel_rfl)))
  (.live [2] .ret)))

noncomputable def f13 : Fun Try.prog where
  id := 13
  fn := Try.f13
  hf := Try.func13
  hname := by kernel_rfl
  body := f13_b
  hbody := by kernel_rfl
  res := [rTmp 2]
  hres := by kernel_rfl
  n := 8
  hn := by kernel_rfl

/-! ### 24: (*interlock/bits.Reader).Done (24); results 2; slots: 0 r, 1 r -/
noncomputable def f24_b : Sim Try.prog :=
  (.seq (.live [0] (.region 0 [
    ⟨(opAssign (some 2) (.const (Value.bool false)) 4 "bits.go:132" #[]).op, none⟩
  ] (by kernel_rfl)))
  (.seq (.live [2] (.region 1 [
    ⟨(opMove (some 3) (.tmp 0) 24 "bits.go:132" #[]).op, none⟩,
    ⟨(opNilCheck (some 4) (.tmp 3) 0 "bits.go:132" #[{ on := 0, ground := Ground.data }]).op, none⟩,
    ⟨(opFieldAddr (some 5) 48 (.tmp 4) 1 1 1 false fl48_1 (by decide) 0 "bits.go:132" #[{ on := 1, ground := Ground.data }]).op, none⟩,
    ⟨(opLoad (some 6) 4 (.tmp 5) .bool Try.underlying4 1 sz4 4 "bits.go:132" #[{ on := 2, ground := Ground.data }]).op, none⟩,
    ⟨(opNot (some 7) 4 (.tmp 6) 4 "bits.go:132" #[{ on := 3, ground := Ground.data }]).op, none⟩,
    ⟨(opMove (some 8) (.tmp 7) 4 "bits.go:132" #[{ on := 4, ground := Ground.data }]).op, none⟩,
    ⟨(opMove (some 9) (.tmp 0) 24 "bits.go:132" #[{ on := 5, ground := Ground.guard }]).op, (some (5, 8, true))⟩,
    ⟨(opNilCheck (some 10) (.tmp 9) 0 "bits.go:132" #[{ on := 6, ground := Ground.data }, { on := 5, ground := Ground.guard }]).op, (some (5, 8, true))⟩,
    ⟨(opFieldAddr (some 11) 48 (.tmp 10) 0 0 1 false fl48_0 (by decide) 0 "bits.go:132" #[{ on := 7, ground := Ground.data }, { on := 5, ground := Ground.guard }]).op, (some (5, 8, true))⟩,
    ⟨(opLoad (some 12) 22 (.tmp 11) (.slice 5) Try.underlying22 1 sz22 22 "bits.go:132" #[{ on := 8, ground := Ground.data }, { on := 5, ground := Ground.guard }]).op, (some (5, 8, true))⟩,
    ⟨(opLen (some 13) (.tmp 12) 22 (.slice 5) Try.underlying22 3 "bits.go:132" #[{ on := 9, ground := Ground.data }, { on := 5, ground := Ground.guard }]).op, (some (5, 8, true))⟩,
    ⟨(opBin (some 14) .eql 3 (.tmp 13) (.const (Value.int IntKind.i64 0)) 3 4 "bits.go:132" #[{ on := 10, ground := Ground.data }, { on := 5, ground := Ground.guard }]).op, (some (5, 8, true))⟩,
    ⟨(opPick (some 15) (.tmp 8) (.tmp 14) (.const (Value.bool false)) 4 "bits.go:132" #[{ on := 5, ground := Ground.data }, { on := 11, ground := Ground.data }]).op, none⟩,
    ⟨(opAssign (some 2) (.tmp 15) 4 "bits.go:132" #[{ on := 12, ground := Ground.data }, { on := 5, ground := Ground.chain }, { on := 0, ground := Ground.phase }, { on := 1, ground := Ground.phase }, { on := 2, ground := Ground.phase }, { on := 3, ground := Ground.phase }, { on := 4, ground := Ground.phase }, { on := 5, ground := Ground.phase }, { on := 6, ground := Ground.phase }, { on := 7, ground := Ground.phase }, { on := 8, ground := Ground.phase }, { on := 9, ground := Ground.phase }, { on := 10, ground := Ground.phase }, { on := 11, ground := Ground.phase }, { on := 12, ground := Ground.phase }]).op, none⟩
  ] (by kernel_rfl)))
  (.live [2] .ret)))

noncomputable def f24 : Fun Try.prog where
  id := 24
  fn := Try.f24
  hf := Try.func24
  hname := by kernel_rfl
  body := f24_b
  hbody := by kernel_rfl
  res := [rTmp 2]
  hres := by kernel_rfl
  n := 16
  hn := by kernel_rfl

/-! ### 18: interlock/interlockref01.Int (3); results 2; slots: 0 n, 1 n, 3 u, 4 out -/
/-- A loop's round; at its head live: 3 u, 4 out -/
noncomputable def f18_l0 : Sim Try.prog :=
  (.seq (.seq (.live [3, 4, 18] (.region 5 [
    ⟨(opMove (some 17) (.tmp 3) 49 "ref.go:11" #[]).op, none⟩,
    ⟨(opBin (some 18) .geq 49 (.tmp 17) (.const (Value.int IntKind.u64 128)) 49 4 "ref.go:11" #[{ on := 0, ground := Ground.data }]).op, none⟩
  ] (by kernel_rfl)))
  (.cond (.tmp 18)
    .skip
    (.live [3, 4] (.exit 0))))
  (.block 1 (.seq (.live [3, 4] (.region 6 [
      ⟨(opMove (some 19) (.tmp 4) 22 "ref.go:12" #[]).op, none⟩,
      ⟨(opMove (some 20) (.tmp 3) 49 "ref.go:12" #[]).op, none⟩,
      ⟨(opBin (some 21) .rem 49 (.tmp 20) (.const (Value.int IntKind.u64 128)) 49 49 "ref.go:12" #[{ on := 1, ground := Ground.data }]).op, none⟩,
      ⟨(opConvInt (some 22) 49 5 (.tmp 21) (.int .u64) Try.underlying49 .u8 Try.underlying5 5 "ref.go:12" #[{ on := 2, ground := Ground.data }]).op, none⟩,
      ⟨(opBin (some 23) .add 5 (.tmp 22) (.const (Value.int IntKind.u8 128)) 5 5 "ref.go:12" #[{ on := 3, ground := Ground.data }]).op, none⟩,
      ⟨(opBuildSlice (some 24) 22 1 [(0, (.tmp 23))] 5 1 1 (.int .u8 0) el22 (by kernel_rfl) (by decide) 22 "ref.go:12" #[{ on := 4, ground := Ground.data }]).op, none⟩,
      ⟨(opAppend (some 25) (.tmp 19) (.tmp 24) 22 22 5 1 1 (.int .u8 0) el22 (.slice 5) Try.underlying22 rfl 22 "ref.go:12" #[{ on := 0, ground := Ground.data }, { on := 5, ground := Ground.data }]).op, none⟩,
      ⟨(opAssign (some 4) (.tmp 25) 22 "ref.go:12" #[{ on := 6, ground := Ground.data }, { on := 6, ground := Ground.chain }, { on := 0, ground := Ground.phase }, { on := 1, ground := Ground.phase }, { on := 2, ground := Ground.phase }, { on := 3, ground := Ground.phase }, { on := 4, ground := Ground.phase }, { on := 5, ground := Ground.phase }, { on := 6, ground := Ground.phase }]).op, none⟩
    ] (by kernel_rfl)))
    (.live [3, 4] (.region 7 [
      ⟨(opMove (some 26) (.tmp 3) 49 "ref.go:13" #[]).op, none⟩,
      ⟨(opBin (some 27) .quo 49 (.tmp 26) (.const (Value.int IntKind.u64 128)) 49 49 "ref.go:13" #[{ on := 0, ground := Ground.data }]).op, none⟩,
      ⟨(opAssign (some 3) (.tmp 27) 49 "ref.go:13" #[{ on := 1, ground := Ground.data }, { on := 0, ground := Ground.phase }, { on := 1, ground := Ground.phase }]).op, none⟩
    ] (by kernel_rfl))))))

/-- What follows a loop. -/
noncomputable def f18_r0 : Sim Try.prog :=
  (.seq (.live [2] (.region 8 [
    ⟨(opMove (some 28) (.tmp 4) 22 "ref.go:15" #[]).op, none⟩,
    ⟨(opMove (some 29) (.tmp 3) 49 "ref.go:15" #[]).op, none⟩,
    ⟨(opConvInt (some 30) 49 5 (.tmp 29) (.int .u64) Try.underlying49 .u8 Try.underlying5 5 "ref.go:15" #[{ on := 1, ground := Ground.data }]).op, none⟩,
    ⟨(opBuildSlice (some 31) 22 1 [(0, (.tmp 30))] 5 1 1 (.int .u8 0) el22 (by kernel_rfl) (by decide) 22 "ref.go:15" #[{ on := 2, ground := Ground.data }]).op, none⟩,
    ⟨(opAppend (some 32) (.tmp 28) (.tmp 31) 22 22 5 1 1 (.int .u8 0) el22 (.slice 5) Try.underlying22 rfl 22 "ref.go:15" #[{ on := 0, ground := Ground.data }, { on := 3, ground := Ground.data }]).op, none⟩,
    ⟨(opAssign (some 2) (.tmp 32) 22 "ref.go:15" #[{ on := 4, ground := Ground.data }, { on := 4, ground := Ground.chain }, { on := 0, ground := Ground.phase }, { on := 1, ground := Ground.phase }, { on := 2, ground := Ground.phase }, { on := 3, ground := Ground.phase }, { on := 4, ground := Ground.phase }]).op, none⟩
  ] (by kernel_rfl)))
  (.live [2] .ret))

noncomputable def f18_b : Sim Try.prog :=
  (.seq (.live [0] (.region 0 [
    ⟨(opAssign (some 2) (.const (Value.slice none 0 0)) 22 "ref.go:5" #[]).op, none⟩
  ] (by kernel_rfl)))
  (.seq (.live [0, 3] (.region 1 [
    ⟨(opMove (some 5) (.tmp 0) 3 "ref.go:6" #[]).op, none⟩,
    ⟨(opConvInt (some 6) 3 49 (.tmp 5) (.int .i64) Try.underlying3 .u64 Try.underlying49 49 "ref.go:6" #[{ on := 0, ground := Ground.data }]).op, none⟩,
    ⟨(opBin (some 7) .mul 49 (.tmp 6) (.const (Value.int IntKind.u64 2)) 49 49 "ref.go:6" #[{ on := 1, ground := Ground.data }]).op, none⟩,
    ⟨(opAssign (some 3) (.tmp 7) 49 "ref.go:6" #[{ on := 2, ground := Ground.data }, { on := 0, ground := Ground.phase }, { on := 1, ground := Ground.phase }, { on := 2, ground := Ground.phase }]).op, none⟩
  ] (by kernel_rfl)))
  (.seq (.seq (.live [0, 3, 9] (.region 2 [
    ⟨(opMove (some 8) (.tmp 0) 3 "ref.go:7" #[]).op, none⟩,
    ⟨(opBin (some 9) .lss 3 (.tmp 8) (.const (Value.int IntKind.i64 0)) 3 4 "ref.go:7" #[{ on := 0, ground := Ground.data }]).op, none⟩
  ] (by kernel_rfl)))
  (.cond (.tmp 9)
    (.live [3] (.region 3 [
      ⟨(opMove (some 10) (.tmp 0) 3 "ref.go:8" #[]).op, none⟩,
      ⟨(opBin (some 11) .add 3 (.tmp 10) (.const (Value.int IntKind.i64 1)) 3 3 "ref.go:8" #[{ on := 0, ground := Ground.data }]).op, none⟩,
      ⟨(opNeg (some 12) 3 (.tmp 11) 3 "ref.go:8" #[{ on := 1, ground := Ground.data }]).op, none⟩,
      ⟨(opConvInt (some 13) 3 49 (.tmp 12) (.int .i64) Try.underlying3 .u64 Try.underlying49 49 "ref.go:8" #[{ on := 2, ground := Ground.data }]).op, none⟩,
      ⟨(opBin (some 14) .mul 49 (.tmp 13) (.const (Value.int IntKind.u64 2)) 49 49 "ref.go:8" #[{ on := 3, ground := Ground.data }]).op, none⟩,
      ⟨(opBin (some 15) .add 49 (.tmp 14) (.const (Value.int IntKind.u64 1)) 49 49 "ref.go:8" #[{ on := 4, ground := Ground.data }]).op, none⟩,
      ⟨(opAssign (some 3) (.tmp 15) 49 "ref.go:8" #[{ on := 5, ground := Ground.data }, { on := 0, ground := Ground.phase }, { on := 1, ground := Ground.phase }, { on := 2, ground := Ground.phase }, { on := 3, ground := Ground.phase }, { on := 4, ground := Ground.phase }, { on := 5, ground := Ground.phase }]).op, none⟩
    ] (by kernel_rfl)))
    .skip))
  (.seq (.live [3, 4] (.region 4 [
    ⟨(opBuildSlice (some 16) 22 0 [] 5 1 1 (.int .u8 0) el22 (by kernel_rfl) (by decide) 22 "ref.go:10" #[]).op, none⟩,
    ⟨(opAssign (some 4) (.tmp 16) 22 "ref.go:10" #[{ on := 0, ground := Ground.data }, { on := 0, ground := Ground.phase }]).op, none⟩
  ] (by kernel_rfl)))
  (.seq (.block 0 (.loop [3, 4] f18_l0))
  f18_r0)))))

noncomputable def f18 : Fun Try.prog where
  id := 18
  fn := Try.f18
  hf := Try.func18
  hname := by kernel_rfl
  body := f18_b
  hbody := by kernel_rfl
  res := [rTmp 2]
  hres := by kernel_rfl
  n := 33
  hn := by kernel_rfl

/-! ### 32: slices.Clone[[]byte,byte] (22); results 2; slots: 0 s, 1 s -/
noncomputable def f32_b : Sim Try.prog :=
  (.seq (.live [0] (.region 0 [
    ⟨(opAssign (some 2) (.const (Value.slice none 0 0)) 22 "slices.go:355" #[]).op, none⟩
  ] (by kernel_rfl)))
  (.seq (.seq (.live [0, 4] (.region 1 [
    ⟨(opMove (some 3) (.tmp 0) 22 "slices.go:357" #[]).op, none⟩,
    ⟨(opEq (some 4) 22 (.slice 5) Try.underlying22 (.tmp 3) (.const (Value.slice none 0 0)) (.inl rfl) 22 4 "slices.go:357" #[{ on := 0, ground := Ground.data }]).op, none⟩
  ] (by kernel_rfl)))
  (.cond (.tmp 4)
    (.seq (.live [2] (.region 2 [
      ⟨(opAssign (some 2) (.const (Value.slice none 0 0)) 22 "slices.go:358" #[]).op, none⟩
    ] (by kernel_rfl)))
    (.live [2] .ret))
    .skip))
  (.seq (.live [2] (.region 3 [
    ⟨(opBuildSlice (some 5) 22 0 [] 5 1 1 (.int .u8 0) el22 (by kernel_rfl) (by decide) 22 "slices.go:362" #[]).op, none⟩,
    ⟨(opMove (some 6) (.tmp 0) 22 "slices.go:362" #[]).op, none⟩,
    ⟨(opAppend (some 7) (.tmp 5) (.tmp 6) 22 22 5 1 1 (.int .u8 0) el22 (.slice 5) Try.underlying22 rfl 22 "slices.go:362" #[{ on := 0, ground := Ground.data }, { on := 1, ground := Ground.data }]).op, none⟩,
    ⟨(opAssign (some 2) (.tmp 7) 22 "slices.go:362" #[{ on := 2, ground := Ground.data }, { on := 2, ground := Ground.chain }, { on := 0, ground := Ground.phase }, { on := 1, ground := Ground.phase }, { on := 2, ground := Ground.phase }]).op, none⟩
  ] (by kernel_rfl)))
  (.live [2] .ret))))

noncomputable def f32 : Fun Try.prog where
  id := 32
  fn := Try.f32
  hf := Try.func32
  hname := by kernel_rfl
  body := f32_b
  hbody := by kernel_rfl
  res := [rTmp 2]
  hres := by kernel_rfl
  n := 8
  hn := by kernel_rfl

end Go.Proofs.Ytjdpfblmhahfkaa.V
