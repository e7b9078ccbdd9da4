/- The functions' pieces, as told by gen.py. -/
import Derived.Test.YtjdpfblmhahfkaaBL
set_option linter.unusedVariables false
set_option maxRecDepth 20000
namespace Go.Proofs.Ytjdpfblmhahfkaa.V
open Go Go.V Go.RowKit


/-! ### 17: (*interlock/bits.Reader).Text (24); results 2; slots: 0 r, 1 r, 3 n, 4 s -/
noncomputable def f17_b : Sim Try.prog :=
  (.seq (.live [0] (.region 0 [
    ⟨(opAssign (some 2) (.const (Value.string { data := #[] })) 9 "bits.go:95" #[]).op, none⟩
  ] (by kernel_rfl)))
  (.seq (.live [0, 3] (.region 1 [
    ⟨(opMove (some 5) (.tmp 0) 24 "bits.go:96" #[]).op, none⟩,
    ⟨opCall (q11).orc (some 6) [(.tmp 5)] #[24] 3 "bits.go:96" #[{ on := 0, ground := Ground.data }], none⟩,
    ⟨(opAssign (some 3) (.tmp 6) 3 "bits.go:96" #[{ on := 1, ground := Ground.data }, { on := 1, ground := Ground.chain }, { on := 0, ground := Ground.phase }, { on := 1, ground := Ground.phase }]).op, none⟩
  ] (by kernel_rfl)))
  (.seq (.seq (.live [0, 3, 17] (.region 2 [
    ⟨(opMove (some 7) (.tmp 3) 3 "bits.go:97" #[]).op, none⟩,
    ⟨(opBin (some 8) .lss 3 (.tmp 7) (.const (Value.int IntKind.i64 0)) 3 4 "bits.go:97" #[{ on := 0, ground := Ground.data }]).op, none⟩,
    ⟨(opMove (some 9) (.tmp 8) 4 "bits.go:97" #[{ on := 1, ground := Ground.data }]).op, none⟩,
    ⟨(opMove (some 10) (.tmp 3) 3 "bits.go:97" #[{ on := 2, ground := Ground.guard }]).op, (some (2, 9, false))⟩,
    ⟨(opMove (some 11) (.tmp 0) 24 "bits.go:97" #[{ on := 2, ground := Ground.guard }]).op, (some (2, 9, false))⟩,
    ⟨(opNilCheck (some 12) (.tmp 11) 0 "bits.go:97" #[{ on := 4, ground := Ground.data }, { on := 2, ground := Ground.guard }]).op, (some (2, 9, false))⟩,
    ⟨(opFieldAddr (some 13) 48 (.tmp 12) 0 0 1 false fl48_0 (by decide) 0 "bits.go:97" #[{ on := 5, ground := Ground.data }, { on := 2, ground := Ground.guard }]).op, (some (2, 9, false))⟩,
    ⟨(opLoad (some 14) 22 (.tmp 13) (.slice 5) Try.underlying22 1 sz22 22 "bits.go:97" #[{ on := 6, ground := Ground.data }, { on := 2, ground := Ground.guard }]).op, (some (2, 9, false))⟩,
    ⟨(opLen (some 15) (.tmp 14) 22 (.slice 5) Try.underlying22 3 "bits.go:97" #[{ on := 7, ground := Ground.data }, { on := 2, ground := Ground.guard }]).op, (some (2, 9, false))⟩,
    ⟨(opBin (some 16) .gtr 3 (.tmp 10) (.tmp 15) 3 4 "bits.go:97" #[{ on := 3, ground := Ground.data }, { on := 8, ground := Ground.data }, { on := 2, ground := Ground.guard }]).op, (some (2, 9, false))⟩,
    ⟨(opPick (some 17) (.tmp 9) (.const (Value.bool true)) (.tmp 16) 4 "bits.go:97" #[{ on := 2, ground := Ground.data }, { on := 9, ground := Ground.data }]).op, none⟩
  ] (by kernel_rfl)))
  (.cond (.tmp 17)
    (.live [0, 3] (.region 3 [
      ⟨(opMove (some 18) (.tmp 0) 24 "bits.go:98" #[]).op, none⟩,
      ⟨opCall (f34.orc 0) (some 19) [(.tmp 18)] #[24] 0 "bits.go:98" #[{ on := 0, ground := Ground.data }], none⟩
    ] (by kernel_rfl)))
    .skip))
  (.seq (.seq (.live [0, 3, 23] (.region 4 [
    ⟨(opMove (some 20) (.tmp 0) 24 "bits.go:100" #[]).op, none⟩,
    ⟨(opNilCheck (some 21) (.tmp 20) 0 "bits.go:100" #[{ on := 0, ground := Ground.data }]).op, none⟩,
    ⟨(opFieldAddr (some 22) 48 (.tmp 21) 1 1 1 false fl48_1 (by decide) 0 "bits.go:100" #[{ on := 1, ground := Ground.data }]).op, none⟩,
    ⟨(opLoad (some 23) 4 (.tmp 22) .bool Try.underlying4 1 sz4 4 "bits.go:100" #[{ on := 2, ground := Ground.data }]).op, none⟩
  ] (by kernel_rfl)))
  (.cond (.tmp 23)
    (.seq (.live [2] (.region 5 [
      ⟨(opAssign (some 2) (.const (Value.string { data := #[] })) 9 "bits.go:101" #[]).op, none⟩
    ] (by kernel_rfl)))
    (.live [2] .ret))
    .skip))
  (.seq (.live [0, 3, 4] (.region 6 [
    ⟨(opMove (some 24) (.tmp 0) 24 "bits.go:103" #[]).op, none⟩,
    ⟨(opNilCheck (some 25) (.tmp 24) 0 "bits.go:103" #[{ on := 0, ground := Ground.data }]).op, none⟩,
    ⟨(opFieldAddr (some 26) 48 (.tmp 25) 0 0 1 false fl48_0 (by decide) 0 "bits.go:103" #[{ on := 1, ground := Ground.data }]).op, none⟩,
    ⟨(opLoad (some 27) 22 (.tmp 26) (.slice 5) Try.underlying22 1 sz22 22 "bits.go:103" #[{ on := 2, ground := Ground.data }]).op, none⟩,
    ⟨(opMove (some 28) (.tmp 3) 3 "bits.go:103" #[]).op, none⟩,
    ⟨(opSlice (some 29) 22 (.tmp 27) none (some (.tmp 28)) none 5 1 Try.underlying22 sz5 22 "bits.go:103" #[{ on := 3, ground := Ground.data }, { on := 4, ground := Ground.data }]).op, none⟩,
    ⟨(opBytesStr (some 30) 22 9 (.tmp 29) 5 Try.underlying22 Try.underlying5 Try.underlying9 9 "bits.go:103" #[{ on := 5, ground := Ground.data }]).op, none⟩,
    ⟨(opAssign (some 4) (.tmp 30) 9 "bits.go:103" #[{ on := 6, ground := Ground.data }, { on := 0, ground := Ground.phase }, { on := 1, ground := Ground.phase }, { on := 2, ground := Ground.phase }, { on := 3, ground := Ground.phase }, { on := 4, ground := Ground.phase }, { on := 5, ground := Ground.phase }, { on := 6, ground := Ground.phase }]).op, none⟩
  ] (by kernel_rfl)))
  (.seq (.live [4] (.region 7 [
    ⟨(opMove (some 31) (.tmp 0) 24 "bits.go:104" #[]).op, none⟩,
    ⟨(opMove (some 32) (.tmp 0) 24 "bits.go:104" #[]).op, none⟩,
    ⟨(opNilCheck (some 33) (.tmp 32) 0 "bits.go:104" #[{ on := 1, ground := Ground.data }]).op, none⟩,
    ⟨(opFieldAddr (some 34) 48 (.tmp 33) 0 0 1 false fl48_0 (by decide) 0 "bits.go:104" #[{ on := 2, ground := Ground.data }]).op, none⟩,
    ⟨(opLoad (some 35) 22 (.tmp 34) (.slice 5) Try.underlying22 1 sz22 22 "bits.go:104" #[{ on := 3, ground := Ground.data }]).op, none⟩,
    ⟨(opMove (some 36) (.tmp 3) 3 "bits.go:104" #[]).op, none⟩,
    ⟨(opSlice (some 37) 22 (.tmp 35) (some (.tmp 36)) none none 5 1 Try.underlying22 sz5 22 "bits.go:104" #[{ on := 4, ground := Ground.data }, { on := 5, ground := Ground.data }]).op, none⟩,
    ⟨(opNilCheck (some 38) (.tmp 31) 0 "bits.go:104" #[{ on := 0, ground := Ground.data }, { on := 0, ground := Ground.phase }, { on := 1, ground := Ground.phase }, { on := 2, ground := Ground.phase }, { on := 3, ground := Ground.phase }, { on := 4, ground := Ground.phase }, { on := 5, ground := Ground.phase }, { on := 6, ground := Ground.phase }]).op, none⟩,
    ⟨(opFieldAddr (some 39) 48 (.tmp 38) 0 0 1 false fl48_0 (by decide) 0 "bits.go:104" #[{ on := 7, ground := Ground.data }, { on := 0, ground := Ground.phase }, { on := 1, ground := Ground.phase }, { on := 2, ground := Ground.phase }, { on := 3, ground := Ground.phase }, { on := 4, ground := Ground.phase }, { on := 5, ground := Ground.phase }, { on := 6, ground := Ground.phase }]).op, none⟩,
    ⟨(opStore none 22 (.tmp 39) (.tmp 37) 1 sz22 0 "bits.go:104" #[{ on := 8, ground := Ground.data }, { on := 6, ground := Ground.data }, { on := 0, ground := Ground.phase }, { on := 1, ground := Ground.phase }, { on := 2, ground := Ground.phase }, { on := 3, ground := Ground.phase }, { on := 4, ground := Ground.phase }, { on := 5, ground := Ground.phase }, { on := 6, ground := Ground.phase }]).op, none⟩
  ] (by kernel_rfl)))
  (.seq (.live [2] (.region 8 [
    ⟨(opMove (some 40) (.tmp 4) 9 "bits.go:105" #[]).op, none⟩,
    ⟨(opAssign (some 2) (.tmp 40) 9 "bits.go:105" #[{ on := 0, ground := Ground.data }, { on := 0, ground := Ground.phase }]).op, none⟩
  ] (by kernel_rfl)))
  (.live [2] .ret))))))))

noncomputable def f17 : Fun Try.prog where
  id := 17
  fn := Try.f17
  hf := Try.func17
  hname := by kernel_rfl
  body := f17_b
  hbody := by kernel_rfl
  res := [rTmp 2]
  hres := by kernel_rfl
  n := 41
  hn := by kernel_rfl

/-! ### 28: (*interlock/bits.Reader).Count (24, 3); results 4; slots: 0 r, 1 most, 2 r, 3 most, 5 n -/
noncomputable def f28_b : Sim Try.prog :=
  (.seq (.live [0, 1] (.region 0 [
    ⟨(opAssign (some 4) (.const (Value.int IntKind.i64 0)) 3 "bits.go:83" #[]).op, none⟩
  ] (by kernel_rfl)))
  (.seq (.live [0, 1, 5] (.region 1 [
    ⟨(opMove (some 6) (.tmp 0) 24 "bits.go:84" #[]).op, none⟩,
    ⟨opCall (q11).orc (some 7) [(.tmp 6)] #[24] 3 "bits.go:84" #[{ on := 0, ground := Ground.data }], none⟩,
    ⟨(opAssign (some 5) (.tmp 7) 3 "bits.go:84" #[{ on := 1, ground := Ground.data }, { on := 1, ground := Ground.chain }, { on := 0, ground := Ground.phase }, { on := 1, ground := Ground.phase }]).op, none⟩
  ] (by kernel_rfl)))
  (.seq (.seq (.live [0, 5, 14] (.region 2 [
    ⟨(opMove (some 8) (.tmp 5) 3 "bits.go:85" #[]).op, none⟩,
    ⟨(opBin (some 9) .lss 3 (.tmp 8) (.const (Value.int IntKind.i64 0)) 3 4 "bits.go:85" #[{ on := 0, ground := Ground.data }]).op, none⟩,
    ⟨(opMove (some 10) (.tmp 9) 4 "bits.go:85" #[{ on := 1, ground := Ground.data }]).op, none⟩,
    ⟨(opMove (some 11) (.tmp 5) 3 "bits.go:85" #[{ on := 2, ground := Ground.guard }]).op, (some (2, 10, false))⟩,
    ⟨(opMove (some 12) (.tmp 1) 3 "bits.go:85" #[{ on := 2, ground := Ground.guard }]).op, (some (2, 10, false))⟩,
    ⟨(opBin (some 13) .gtr 3 (.tmp 11) (.tmp 12) 3 4 "bits.go:85" #[{ on := 3, ground := Ground.data }, { on := 4, ground := Ground.data }, { on := 2, ground := Ground.guard }]).op, (some (2, 10, false))⟩,
    ⟨(opPick (some 14) (.tmp 10) (.const (Value.bool true)) (.tmp 13) 4 "bits.go:85" #[{ on := 2, ground := Ground.data }, { on := 5, ground := Ground.data }]).op, none⟩
  ] (by kernel_rfl)))
  (.cond (.tmp 14)
    (.live [0, 5] (.region 3 [
      ⟨(opMove (some 15) (.tmp 0) 24 "bits.go:86" #[]).op, none⟩,
      ⟨opCall (f34.orc 0) (some 16) [(.tmp 15)] #[24] 0 "bits.go:86" #[{ on := 0, ground := Ground.data }], none⟩
    ] (by kernel_rfl)))
    .skip))
  (.seq (.seq (.live [5, 20] (.region 4 [
    ⟨(opMove (some 17) (.tmp 0) 24 "bits.go:88" #[]).op, none⟩,
    ⟨(opNilCheck (some 18) (.tmp 17) 0 "bits.go:88" #[{ on := 0, ground := Ground.data }]).op, none⟩,
    ⟨(opFieldAddr (some 19) 48 (.tmp 18) 1 1 1 false fl48_1 (by decide) 0 "bits.go:88" #[{ on := 1, ground := Ground.data }]).op, none⟩,
    ⟨(opLoad (some 20) 4 (.tmp 19) .bool Try.underlying4 1 sz4 4 "bits.go:88" #[{ on := 2, ground := Ground.data }]).op, none⟩
  ] (by kernel_rfl)))
  (.cond (.tmp 20)
    (.seq (.live [4] (.region 5 [
      ⟨(opAssign (some 4) (.const (Value.int IntKind.i64 0)) 3 "bits.go:89" #[]).op, none⟩
    ] (by kernel_rfl)))
    (.live [4] .ret))
    .skip))
  (.seq (.live [4] (.region 6 [
    ⟨(opMove (some 21) (.tmp 5) 3 "bits.go:91" #[]).op, none⟩,
    ⟨(opAssign (some 4) (.tmp 21) 3 "bits.go:91" #[{ on := 0, ground := Ground.data }, { on := 0, ground := Ground.phase }]).op, none⟩
  ] (by kernel_rfl)))
  (.live [4] .ret))))))

noncomputable def f28 : Fun Try.prog where
  id := 28
  fn := Try.f28
  hf := Try.func28
  hname := by kernel_rfl
  body := f28_b
  hbody := by kernel_rfl
  res := [rTmp 4]
  hres := by kernel_rfl
  n := 22
  hn := by kernel_rfl

end Go.Proofs.Ytjdpfblmhahfkaa.V
