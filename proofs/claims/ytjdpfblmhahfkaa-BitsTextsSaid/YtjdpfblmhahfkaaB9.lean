/- The functions' pieces, as told by gen.py. -/
import Derived.Test.YtjdpfblmhahfkaaBK
set_option linter.unusedVariables false
set_option maxRecDepth 20000
namespace Go.Proofs.Ytjdpfblmhahfkaa.V
open Go Go.V Go.RowKit

theorem ze48 : (Try.prog.info? 48).bind (·.zero) = some (.agg #[(.slice none 0 0), (.bool false)]) := by kernel_rfl

/-! ### 10: interlock/bits.NewReader (22); results 2; slots: 0 b, 1 b -/
noncomputable def f10_b : Sim Try.prog :=
  (.seq (.live [0] (.region 0 [
    ⟨(opAssign (some 2) (.const (Value.pointer none)) 24 "bits.go:47" #[]).op, none⟩
  ] (by kernel_rfl)))
  (.seq (.live [2] (.region 1 [
    ⟨(opMove (some 3) (.tmp 0) 22 "bits.go:47" #[]).op, none⟩,
    ⟨(opCallP r32 (some 4) [(.tmp 3)] #[22] 22 "bits.go:47" #[{ on := 0, ground := Ground.data }]).op, none⟩,
    ⟨(opBuild (some 5) 48 #[(.slice none 0 0), (.bool false)] [(0, 0, 1, (.tmp 4))] ze48 (by kernel_rfl) 48 "bits.go:47" #[{ on := 1, ground := Ground.data }]).op, none⟩,
    ⟨(opBox (some 6) 48 (.tmp 5) 24 "bits.go:47" #[{ on := 2, ground := Ground.data }]).op, none⟩,
    ⟨(opAssign (some 2) (.tmp 6) 24 "bits.go:47" #[{ on := 3, ground := Ground.data }, { on := 1, ground := Ground.chain }, { on := 0, ground := Ground.phase }, { on := 1, ground := Ground.phase }, { on := 2, ground := Ground.phase }, { on := 3, ground := Ground.phase }]).op, none⟩
  ] (by kernel_rfl)))
  (.live [2] .ret)))

noncomputable def f10 : Fun Try.prog where
  id := 10
  fn := Try.f10
  hf := Try.func10
  hname := by kernel_rfl
  body := f10_b
  hbody := by kernel_rfl
  res := [rTmp 2]
  hres := by kernel_rfl
  n := 7
  hn := by kernel_rfl

/-! ### 11: (*interlock/bits.Reader).Int (24); results 2; slots: 0 r, 1 r, 3 u, 4 n -/
noncomputable def f11_b : Sim Try.prog :=
  (.seq (.live [0] (.region 0 [
    ⟨(opAssign (some 2) (.const (Value.int IntKind.i64 0)) 3 "bits.go:72" #[]).op, none⟩
  ] (by kernel_rfl)))
  (.seq (.live [0, 3, 4] (.region 1 [
    ⟨(opMove (some 6) (.tmp 0) 24 "bits.go:73" #[]).op, none⟩,
    ⟨(opNilCheck (some 7) (.tmp 6) 0 "bits.go:73" #[{ on := 0, ground := Ground.data }]).op, none⟩,
    ⟨(opFieldAddr (some 8) 48 (.tmp 7) 0 0 1 false fl48_0 (by decide) 0 "bits.go:73" #[{ on := 1, ground := Ground.data }]).op, none⟩,
    ⟨(opLoad (some 9) 22 (.tmp 8) (.slice 5) Try.underlying22 1 sz22 22 "bits.go:73" #[{ on := 2, ground := Ground.data }]).op, none⟩,
    ⟨(opCallP r33 (some 10) [(.tmp 9)] #[22] 50 "bits.go:73" #[{ on := 3, ground := Ground.data }]).op, none⟩,
    ⟨(opMove (some 5) (.tmp 10) 50 "bits.go:73" #[{ on := 4, ground := Ground.data }]).op, none⟩,
    ⟨(opExtract (some 11) (.tmp 5) 0 49 "bits.go:73" #[{ on := 5, ground := Ground.data }]).op, none⟩,
    ⟨(opExtract (some 12) (.tmp 5) 1 3 "bits.go:73" #[{ on := 5, ground := Ground.data }, { on := 8, ground := (Ground.gcOnly Departure.lateStores) }]).op, none⟩,
    ⟨(opAssign (some 3) (.tmp 11) 49 "bits.go:73" #[{ on := 6, ground := Ground.data }, { on := 4, ground := Ground.chain }, { on := 0, ground := Ground.phase }, { on := 1, ground := Ground.phase }, { on := 2, ground := Ground.phase }, { on := 3, ground := Ground.phase }, { on := 4, ground := Ground.phase }, { on := 5, ground := Ground.phase }, { on := 6, ground := Ground.phase }, { on := 7, ground := (Ground.textOnly Departure.lateStores) }]).op, none⟩,
    ⟨(opAssign (some 4) (.tmp 12) 3 "bits.go:73" #[{ on := 7, ground := Ground.data }, { on := 8, ground := Ground.chain }, { on := 0, ground := Ground.phase }, { on := 1, ground := Ground.phase }, { on := 2, ground := Ground.phase }, { on := 3, ground := Ground.phase }, { on := 4, ground := Ground.phase }, { on := 5, ground := Ground.phase }, { on := 6, ground := Ground.phase }, { on := 7, ground := Ground.phase }, { on := 8, ground := Ground.phase }]).op, none⟩
  ] (by kernel_rfl)))
  (.seq (.seq (.live [0, 3, 4, 14] (.region 2 [
    ⟨(opMove (some 13) (.tmp 4) 3 "bits.go:74" #[]).op, none⟩,
    ⟨(opBin (some 14) .eql 3 (.tmp 13) (.const (Value.int IntKind.i64 0)) 3 4 "bits.go:74" #[{ on := 0, ground := Ground.data }]).op, none⟩
  ] (by kernel_rfl)))
  (.cond (.tmp 14)
    (.seq (.live [] (.region 3 [
      ⟨(opMove (some 15) (.tmp 0) 24 "bits.go:75" #[]).op, none⟩,
      ⟨opCall (f34.orc 0) (some 16) [(.tmp 15)] #[24] 0 "bits.go:75" #[{ on := 0, ground := Ground.data }], none⟩
    ] (by kernel_rfl)))
    (.seq (.live [2] (.region 4 [
      ⟨(opAssign (some 2) (.const (Value.int IntKind.i64 0)) 3 "bits.go:76" #[]).op, none⟩
    ] (by kernel_rfl)))
    (.live [2] .ret)))
    .skip))
  (.seq (.live [3] (.region 5 [
    ⟨(opMove (some 17) (.tmp 0) 24 "bits.go:78" #[]).op, none⟩,
    ⟨(opMove (some 18) (.tmp 0) 24 "bits.go:78" #[]).op, none⟩,
    ⟨(opNilCheck (some 19) (.tmp 18) 0 "bits.go:78" #[{ on := 1, ground := Ground.data }]).op, none⟩,
    ⟨(opFieldAddr (some 20) 48 (.tmp 19) 0 0 1 false fl48_0 (by decide) 0 "bits.go:78" #[{ on := 2, ground := Ground.data }]).op, none⟩,
    ⟨(opLoad (some 21) 22 (.tmp 20) (.slice 5) Try.underlying22 1 sz22 22 "bits.go:78" #[{ on := 3, ground := Ground.data }]).op, none⟩,
    ⟨(opMove (some 22) (.tmp 4) 3 "bits.go:78" #[]).op, none⟩,
    ⟨(opSlice (some 23) 22 (.tmp 21) (some (.tmp 22)) none none 5 1 Try.underlying22 sz5 22 "bits.go:78" #[{ on := 4, ground := Ground.data }, { on := 5, ground := Ground.data }]).op, none⟩,
    ⟨(opNilCheck (some 24) (.tmp 17) 0 "bits.go:78" #[{ on := 0, ground := Ground.data }, { on := 0, ground := Ground.phase }, { on := 1, ground := Ground.phase }, { on := 2, ground := Ground.phase }, { on := 3, ground := Ground.phase }, { on := 4, ground := Ground.phase }, { on := 5, ground := Ground.phase }, { on := 6, ground := Ground.phase }]).op, none⟩,
    ⟨(opFieldAddr (some 25) 48 (.tmp 24) 0 0 1 false fl48_0 (by decide) 0 "bits.go:78" #[{ on := 7, ground := Ground.data }, { on := 0, ground := Ground.phase }, { on := 1, ground := Ground.phase }, { on := 2, ground := Ground.phase }, { on := 3, ground := Ground.phase }, { on := 4, ground := Ground.phase }, { on := 5, ground := Ground.phase }, { on := 6, ground := Ground.phase }]).op, none⟩,
    ⟨(opStore none 22 (.tmp 25) (.tmp 23) 1 sz22 0 "bits.go:78" #[{ on := 8, ground := Ground.data }, { on := 6, ground := Ground.data }, { on := 0, ground := Ground.phase }, { on := 1, ground := Ground.phase }, { on := 2, ground := Ground.phase }, { on := 3, ground := Ground.phase }, { on := 4, ground := Ground.phase }, { on := 5, ground := Ground.phase }, { on := 6, ground := Ground.phase }]).op, none⟩
  ] (by kernel_rfl)))
  (.seq (.live [2] (.region 6 [
    ⟨(opMove (some 26) (.tmp 3) 49 "bits.go:79" #[]).op, none⟩,
    ⟨(opCallP r35 (some 27) [(.tmp 26)] #[49] 3 "bits.go:79" #[{ on := 0, ground := Ground.data }]).op, none⟩,
    ⟨(opAssign (some 2) (.tmp 27) 3 "bits.go:79" #[{ on := 1, ground := Ground.data }, { on := 1, ground := Ground.chain }, { on := 0, ground := Ground.phase }, { on := 1, ground := Ground.phase }]).op, none⟩
  ] (by kernel_rfl)))
  (.live [2] .ret))))))

noncomputable def f11 : Fun Try.prog where
  id := 11
  fn := Try.f11
  hf := Try.func11
  hname := by kernel_rfl
  body := f11_b
  hbody := by kernel_rfl
  res := [rTmp 2]
  hres := by kernel_rfl
  n := 28
  hn := by kernel_rfl

/-! ### 16: interlock/bits.Text (9); results 2; slots: 0 s, 1 s -/
noncomputable def f16_b : Sim Try.prog :=
  (.seq (.live [0] (.region 0 [
    ⟨(opAssign (some 2) (.const (Value.slice none 0 0)) 22 "bits.go:29" #[]).op, none⟩
  ] (by kernel_rfl)))
  (.seq (.live [2] (.region 1 [
    ⟨(opMove (some 3) (.tmp 0) 9 "bits.go:29" #[]).op, none⟩,
    ⟨(opLen (some 4) (.tmp 3) 9 .string Try.underlying9 3 "bits.go:29" #[{ on := 0, ground := Ground.data }]).op, none⟩,
    ⟨opCall (q15).orc (some 5) [(.tmp 4)] #[3] 22 "bits.go:29" #[{ on := 1, ground := Ground.data }], none⟩,
    ⟨(opMove (some 6) (.tmp 0) 9 "bits.go:29" #[]).op, none⟩,
    ⟨(opAppend (some 7) (.tmp 5) (.tmp 6) 22 9 5 1 1 (.int .u8 0) el22 .string Try.underlying9 rfl 22 "bits.go:29" #[{ on := 2, ground := Ground.data }, { on := 3, ground := Ground.data }, { on := 2, ground := Ground.chain }]).op, none⟩,
    ⟨(opAssign (some 2) (.tmp 7) 22 "bits.go:29" #[{ on := 4, ground := Ground.data }, { on := 4, ground := Ground.chain }, { on := 0, ground := Ground.phase }, { on := 1, ground := Ground.phase }, { on := 2, ground := Ground.phase }, { on := 3, ground := Ground.phase }, { on := 4, ground := Ground.phase }]).op, none⟩
  ] (by kernel_rfl)))
  (.live [2] .ret)))

noncomputable def f16 : Fun Try.prog where
  id := 16
  fn := Try.f16
  hf := Try.func16
  hname := by kernel_rfl
  body := f16_b
  hbody := by kernel_rfl
  res := [rTmp 2]
  hres := by kernel_rfl
  n := 8
  hn := by kernel_rfl

/-! ### 19: interlock/interlockref01.Text (9); results 2; slots: 0 s, 1 s -/
noncomputable def f19_b : Sim Try.prog :=
  (.seq (.live [0] (.region 0 [
    ⟨(opAssign (some 2) (.const (Value.slice none 0 0)) 22 "ref.go:19" #[]).op, none⟩
  ] (by kernel_rfl)))
  (.seq (.live [2] (.region 1 [
    ⟨(opMove (some 3) (.tmp 0) 9 "ref.go:20" #[]).op, none⟩,
    ⟨(opLen (some 4) (.tmp 3) 9 .string Try.underlying9 3 "ref.go:20" #[{ on := 0, ground := Ground.data }]).op, none⟩,
    ⟨opCall (q18).orc (some 5) [(.tmp 4)] #[3] 22 "ref.go:20" #[{ on := 1, ground := Ground.data }], none⟩,
    ⟨(opMove (some 6) (.tmp 0) 9 "ref.go:20" #[]).op, none⟩,
    ⟨(opStrBytes (some 7) 9 22 (.tmp 6) 5 Try.underlying9 Try.underlying22 Try.underlying5 22 "ref.go:20" #[{ on := 3, ground := Ground.data }]).op, none⟩,
    ⟨(opAppend (some 8) (.tmp 5) (.tmp 7) 22 22 5 1 1 (.int .u8 0) el22 (.slice 5) Try.underlying22 rfl 22 "ref.go:20" #[{ on := 2, ground := Ground.data }, { on := 4, ground := Ground.data }, { on := 2, ground := Ground.chain }]).op, none⟩,
    ⟨(opAssign (some 2) (.tmp 8) 22 "ref.go:20" #[{ on := 5, ground := Ground.data }, { on := 5, ground := Ground.chain }, { on := 0, ground := Ground.phase }, { on := 1, ground := Ground.phase }, { on := 2, ground := Ground.phase }, { on := 3, ground := Ground.phase }, { on := 4, ground := Ground.phase }, { on := 5, ground := Ground.phase }]).op, none⟩
  ] (by kernel_rfl)))
  (.live [2] .ret)))

noncomputable def f19 : Fun Try.prog where
  id := 19
  fn := Try.f19
  hf := Try.func19
  hname := by kernel_rfl
  body := f19_b
  hbody := by kernel_rfl
  res := [rTmp 2]
  hres := by kernel_rfl
  n := 9
  hn := by kernel_rfl

end Go.Proofs.Ytjdpfblmhahfkaa.V
