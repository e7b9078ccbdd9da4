/- The functions' pieces, as told by gen.py. -/
import Derived.Test.YtjdpfblmhahfkaaB1
import Derived.Test.YtjdpfblmhahfkaaVH
set_option linter.unusedVariables false
set_option maxRecDepth 20000
namespace Go.Proofs.Ytjdpfblmhahfkaa.V
open Go Go.V Go.RowKit


/-! ### 15: interlock/bits.Int (3); results 2; slots: 0 n, 1 n, 3 out, 4 u -/
/-- A loop's round; at its head live: 3 out, 4 u -/
noncomputable def f15_l0 : Sim Try.prog :=
  (.seq (.seq (.live [3, 4, 8] (.region 3 [
    ⟨(opMove (some 7) (.tmp 4) 49 "bits.go:22" #[]).op, none⟩,
    ⟨(opBin (some 8) .geq 49 (.tmp 7) (.const (Value.int IntKind.u64 128)) 49 4 "bits.go:22" #[{ on := 0, ground := Ground.data }]).op, none⟩
  ] (by kernel_rfl)))
  (.cond (.tmp 8)
    .skip
    (.live [3, 4] (.exit 0))))
  (.seq (.block 1 (.live [3, 4] (.region 5 [
      ⟨(opMove (some 11) (.tmp 3) 22 "bits.go:23" #[]).op, none⟩,
      ⟨(opMove (some 12) (.tmp 4) 49 "bits.go:23" #[]).op, none⟩,
      ⟨(opConvInt (some 13) 49 5 (.tmp 12) (.int .u64) Try.underlying49 .u8 Try.underlying5 5 "bits.go:23" #[{ on := 1, ground := Ground.data }]).op, none⟩,
      ⟨(opBin (some 14) .or 5 (.tmp 13) (.const (Value.int IntKind.u8 128)) 5 5 "bits.go:23" #[{ on := 2, ground := Ground.data }]).op, none⟩,
      ⟨(opBuildSlice (some 15) 22 1 [(0, (.tmp 14))] 5 1 1 (.int .u8 0) el22 (by kernel_rfl) (by decide) 22 "bits.go:23" #[{ on := 3, ground := Ground.data }]).op, none⟩,
      ⟨(opAppend (some 16) (.tmp 11) (.tmp 15) 22 22 5 1 1 (.int .u8 0) el22 (.slice 5) Try.underlying22 rfl 22 "bits.go:23" #[{ on := 0, ground := Ground.data }, { on := 4, ground := Ground.data }]).op, none⟩,
      ⟨(opAssign (some 3) (.tmp 16) 22 "bits.go:23" #[{ on := 5, ground := Ground.data }, { on := 5, ground := Ground.chain }, { on := 0, ground := Ground.phase }, { on := 1, ground := Ground.phase }, { on := 2, ground := Ground.phase }, { on := 3, ground := Ground.phase }, { on := 4, ground := Ground.phase }, { on := 5, ground := Ground.phase }]).op, none⟩
    ] (by kernel_rfl))))
  (.live [3, 4] (.region 4 [
    ⟨(opMove (some 9) (.tmp 4) 49 "bits.go:22" #[]).op, none⟩,
    ⟨(opBin (some 10) .shr 49 (.tmp 9) (.const (Value.int IntKind.u64 7)) 54 49 "bits.go:22" #[{ on := 0, ground := Ground.data }]).op, none⟩,
    ⟨(opAssign (some 4) (.tmp 10) 49 "bits.go:22" #[{ on := 1, ground := Ground.data }, { on := 0, ground := Ground.phase }, { on := 1, ground := Ground.phase }]).op, none⟩
  ] (by kernel_rfl)))))

/-- What follows a loop. -/
noncomputable def f15_r0 : Sim Try.prog :=
  (.seq (.live [2] (.region 6 [
    ⟨(opMove (some 17) (.tmp 3) 22 "bits.go:25" #[]).op, none⟩,
    ⟨(opMove (some 18) (.tmp 4) 49 "bits.go:25" #[]).op, none⟩,
    ⟨(opConvInt (some 19) 49 5 (.tmp 18) (.int .u64) Try.underlying49 .u8 Try.underlying5 5 "bits.go:25" #[{ on := 1, ground := Ground.data }]).op, none⟩,
    ⟨(opBuildSlice (some 20) 22 1 [(0, (.tmp 19))] 5 1 1 (.int .u8 0) el22 (by kernel_rfl) (by decide) 22 "bits.go:25" #[{ on := 2, ground := Ground.data }]).op, none⟩,
    ⟨(opAppend (some 21) (.tmp 17) (.tmp 20) 22 22 5 1 1 (.int .u8 0) el22 (.slice 5) Try.underlying22 rfl 22 "bits.go:25" #[{ on := 0, ground := Ground.data }, { on := 3, ground := Ground.data }]).op, none⟩,
    ⟨(opAssign (some 2) (.tmp 21) 22 "bits.go:25" #[{ on := 4, ground := Ground.data }, { on := 4, ground := Ground.chain }, { on := 0, ground := Ground.phase }, { on := 1, ground := Ground.phase }, { on := 2, ground := Ground.phase }, { on := 3, ground := Ground.phase }, { on := 4, ground := Ground.phase }]).op, none⟩
  ] (by kernel_rfl)))
  (.live [2] .ret))

noncomputable def f15_b : Sim Try.prog :=
  (.seq (.live [0] (.region 0 [
    ⟨(opAssign (some 2) (.const (Value.slice none 0 0)) 22 "bits.go:19" #[]).op, none⟩
  ] (by kernel_rfl)))
  (.seq (.live [0, 3] (.region 1 [
    ⟨(opAssign (some 3) (.const (Value.slice none 0 0)) 22 "bits.go:20" #[]).op, none⟩
  ] (by kernel_rfl)))
  (.seq (.live [3, 4] (.region 2 [
    ⟨(opMove (some 5) (.tmp 0) 3 "bits.go:21" #[]).op, none⟩,
    ⟨opCall (f36.orc 0) (some 6) [(.tmp 5)] #[3] 49 "bits.go:21" #[{ on := 0, ground := Ground.data }], none⟩,
    ⟨(opAssign (some 4) (.tmp 6) 49 "bits.go:21" #[{ on := 1, ground := Ground.data }, { on := 1, ground := Ground.chain }, { on := 0, ground := Ground.phase }, { on := 1, ground := Ground.phase }]).op, none⟩
  ] (by kernel_rfl)))
  (.seq (.block 0 (.loop [3, 4] f15_l0))
  f15_r0))))

noncomputable def f15 : Fun Try.prog where
  id := 15
  fn := Try.f15
  hf := Try.func15
  hname := by kernel_rfl
  body := f15_b
  hbody := by kernel_rfl
  res := [rTmp 2]
  hres := by kernel_rfl
  n := 22
  hn := by kernel_rfl

end Go.Proofs.Ytjdpfblmhahfkaa.V
