/- Merged out of 16 texts: what the claim's code comes to, and why. -/
import Derived.Test.YtcfedmheblbdnaaDoorRows
import Derived.WalkKit
import Derived.ProofKit
import Derived.OpenShut
import Derived.LaidMore
import Derived.LaidLaws
import Derived.Test.YtcfedmheblbdnaaDoorR55
/- The functions' pieces, as told by gen.py. -/
set_option linter.unusedVariables false
set_option maxRecDepth 20000
namespace Go.Proofs.YtcfedmheblbdnaaDoor.V
open Go Go.V Go.RowKit


/-! ### 76: internal/stringslite.HasPrefix (9, 9); results 4; slots: 0 s, 1 prefix, 2 s, 3 prefix -/
noncomputable def g76_b : Sim Tryd.prog :=
 (.seq (.live [0, 1] (.region 0 [
 ⟨(opAssign (some 4) (.const (Value.bool false)) 4 "strings.go:16" #[]).op, none⟩
 ] (by kernel_rfl)))
 (.seq (.live [4] (.region 1 [
 ⟨(opMove (some 5) (.tmp 0) 9 "strings.go:17" #[]).op, none⟩,
 ⟨(opLen (some 6) (.tmp 5) 9 .string Tryd.underlying9 3 "strings.go:17" #[eD 0]).op, none⟩,
 ⟨(opMove (some 7) (.tmp 1) 9 "strings.go:17" #[]).op, none⟩,
 ⟨(opLen (some 8) (.tmp 7) 9 .string Tryd.underlying9 3 "strings.go:17" #[eD 2]).op, none⟩,
 ⟨(opBin (some 9) .geq 3 (.tmp 6) (.tmp 8) 3 4 "strings.go:17" #[eD 1, eD 3]).op, none⟩,
 ⟨(opMove (some 10) (.tmp 9) 4 "strings.go:17" #[eD 4]).op, none⟩,
 ⟨(opMove (some 11) (.tmp 0) 9 "strings.go:17" #[eG 5]).op, (some (5, 10, true))⟩,
 ⟨(opMove (some 12) (.tmp 1) 9 "strings.go:17" #[eG 5]).op, (some (5, 10, true))⟩,
 ⟨(opLen (some 13) (.tmp 12) 9 .string Tryd.underlying9 3 "strings.go:17" #[eD 7, eG 5]).op, (some (5, 10, true))⟩,
 ⟨(opSliceStrW (some 14) 9 (.tmp 11) none (some (.tmp 13)) Tryd.underlying9 9 "strings.go:17" #[eD 6, eD 8, eG 5]).op, (some (5, 10, true))⟩,
 ⟨(opMove (some 15) (.tmp 1) 9 "strings.go:17" #[eG 5]).op, (some (5, 10, true))⟩,
 ⟨(opBinS (some 16) .eql 9 (.tmp 14) (.tmp 15) 9 4 "strings.go:17" #[eD 9, eD 10, eG 5]).op, (some (5, 10, true))⟩,
 ⟨(opPick (some 17) (.tmp 10) (.tmp 16) (.const (Value.bool false)) 4 "strings.go:17" #[eD 5, eD 11]).op, none⟩,
 ⟨(opAssign (some 4) (.tmp 17) 4 "strings.go:17" #[eD 12, eC 5, eP 0, eP 1, eP 2, eP 3, eP 4, eP 5, eP 6, eP 7, eP 8, eP 9, eP 10, eP 11, eP 12]).op, none⟩
 ] (by kernel_rfl)))
 (.live [4] .ret)))

noncomputable def g76 : Fun Tryd.prog where
 id := 76
 fn := Tryd.f76
 hf := Tryd.func76
 hname := by kernel_rfl
 body := g76_b
 hbody := by kernel_rfl
 res := [rTmp 4]
 hres := by kernel_rfl
 n := 18
 hn := by kernel_rfl

/-! ### 67: internal/stringslite.CutPrefix (9, 9); results 4, 5; slots: 0 s, 1 prefix, 2 s, 3 prefix, 4 after, 5 found -/
noncomputable def g67_b : Sim Tryd.prog :=
 (.seq (.live [0, 1] (.region 0 [
 ⟨(opAssign (some 4) (.const (Value.string { data := #[] })) 9 "strings.go:87" #[]).op, none⟩,
 ⟨(opAssign (some 5) (.const (Value.bool false)) 4 "strings.go:87" #[eC 0]).op, none⟩
 ] (by kernel_rfl)))
 (.seq (.seq (.live [0, 1, 9] (.region 1 [
 ⟨(opMove (some 6) (.tmp 0) 9 "strings.go:88" #[]).op, none⟩,
 ⟨(opMove (some 7) (.tmp 1) 9 "strings.go:88" #[]).op, none⟩,
 ⟨opCall (g76.orc 0) (some 8) [(.tmp 6), (.tmp 7)] #[9, 9] 4 "strings.go:88" #[eD 0, eD 1], none⟩,
 ⟨(opNot (some 9) 4 (.tmp 8) 4 "strings.go:88" #[eD 2]).op, none⟩
 ] (by kernel_rfl)))
 (.cond (.tmp 9)
 (.seq (.live [4, 5] (.region 2 [
 ⟨(opMove (some 10) (.tmp 0) 9 "strings.go:89" #[]).op, none⟩,
 ⟨(opAssign (some 4) (.tmp 10) 9 "strings.go:89" #[eD 0, eP 0]).op, none⟩,
 ⟨(opAssign (some 5) (.const (Value.bool false)) 4 "strings.go:89" #[eC 1, eP 0, eP 1]).op, none⟩
 ] (by kernel_rfl)))
 (.live [4, 5] .ret))
 .skip))
 (.seq (.live [4, 5] (.region 3 [
 ⟨(opMove (some 11) (.tmp 0) 9 "strings.go:91" #[]).op, none⟩,
 ⟨(opMove (some 12) (.tmp 1) 9 "strings.go:91" #[]).op, none⟩,
 ⟨(opLen (some 13) (.tmp 12) 9 .string Tryd.underlying9 3 "strings.go:91" #[eD 1]).op, none⟩,
 ⟨(opSliceStrW (some 14) 9 (.tmp 11) (some (.tmp 13)) none Tryd.underlying9 9 "strings.go:91" #[eD 0, eD 2]).op, none⟩,
 ⟨(opAssign (some 4) (.tmp 14) 9 "strings.go:91" #[eD 3, eP 0, eP 1, eP 2, eP 3]).op, none⟩,
 ⟨(opAssign (some 5) (.const (Value.bool true)) 4 "strings.go:91" #[eC 4, eP 0, eP 1, eP 2, eP 3, eP 4]).op, none⟩
 ] (by kernel_rfl)))
 (.live [4, 5] .ret))))

noncomputable def g67 : Fun Tryd.prog where
 id := 67
 fn := Tryd.f67
 hf := Tryd.func67
 hname := by kernel_rfl
 body := g67_b
 hbody := by kernel_rfl
 res := [rTmp 4, rTmp 5]
 hres := by kernel_rfl
 n := 15
 hn := by kernel_rfl

/-! ### 50: strings.CutPrefix (9, 9); results 4, 5; slots: 0 s, 1 prefix, 2 s, 3 prefix, 4 after, 5 found -/
noncomputable def g50_b : Sim Tryd.prog :=
 (.seq (.live [0, 1] (.region 0 [
 ⟨(opAssign (some 4) (.const (Value.string { data := #[] })) 9 "strings.go:1279" #[]).op, none⟩,
 ⟨(opAssign (some 5) (.const (Value.bool false)) 4 "strings.go:1279" #[eC 0]).op, none⟩
 ] (by kernel_rfl)))
 (.seq (.live [4, 5] (.region 1 [
 ⟨(opMove (some 6) (.tmp 0) 9 "strings.go:1280" #[]).op, none⟩,
 ⟨(opMove (some 7) (.tmp 1) 9 "strings.go:1280" #[]).op, none⟩,
 ⟨opCall (g67.orc 0) (some 8) [(.tmp 6), (.tmp 7)] #[9, 9] 69 "strings.go:1280" #[eD 0, eD 1], none⟩,
 ⟨(opExtract (some 9) (.tmp 8) 0 9 "strings.go:1280" #[eD 2]).op, none⟩,
 ⟨(opExtract (some 10) (.tmp 8) 1 4 "strings.go:1280" #[eD 2]).op, none⟩,
 ⟨(opAssign (some 4) (.tmp 9) 9 "strings.go:1280" #[eD 3, eC 2, eP 0, eP 1, eP 2, eP 3, eP 4]).op, none⟩,
 ⟨(opAssign (some 5) (.tmp 10) 4 "strings.go:1280" #[eD 4, eC 5, eP 0, eP 1, eP 2, eP 3, eP 4, eP 5]).op, none⟩
 ] (by kernel_rfl)))
 (.live [4, 5] .ret)))

noncomputable def g50 : Fun Tryd.prog where
 id := 50
 fn := Tryd.f50
 hf := Tryd.func50
 hname := by kernel_rfl
 body := g50_b
 hbody := by kernel_rfl
 res := [rTmp 4, rTmp 5]
 hres := by kernel_rfl
 n := 11
 hn := by kernel_rfl

/-! ### 77: internal/stringslite.HasSuffix (9, 9); results 4; slots: 0 s, 1 suffix, 2 s, 3 suffix -/
noncomputable def g77_b : Sim Tryd.prog :=
 (.seq (.live [0, 1] (.region 0 [
 ⟨(opAssign (some 4) (.const (Value.bool false)) 4 "strings.go:20" #[]).op, none⟩
 ] (by kernel_rfl)))
 (.seq (.live [4] (.region 1 [
 ⟨(opMove (some 5) (.tmp 0) 9 "strings.go:21" #[]).op, none⟩,
 ⟨(opLen (some 6) (.tmp 5) 9 .string Tryd.underlying9 3 "strings.go:21" #[eD 0]).op, none⟩,
 ⟨(opMove (some 7) (.tmp 1) 9 "strings.go:21" #[]).op, none⟩,
 ⟨(opLen (some 8) (.tmp 7) 9 .string Tryd.underlying9 3 "strings.go:21" #[eD 2]).op, none⟩,
 ⟨(opBin (some 9) .geq 3 (.tmp 6) (.tmp 8) 3 4 "strings.go:21" #[eD 1, eD 3]).op, none⟩,
 ⟨(opMove (some 10) (.tmp 9) 4 "strings.go:21" #[eD 4]).op, none⟩,
 ⟨(opMove (some 11) (.tmp 0) 9 "strings.go:21" #[eG 5]).op, (some (5, 10, true))⟩,
 ⟨(opMove (some 12) (.tmp 0) 9 "strings.go:21" #[eG 5]).op, (some (5, 10, true))⟩,
 ⟨(opLen (some 13) (.tmp 12) 9 .string Tryd.underlying9 3 "strings.go:21" #[eD 7, eG 5]).op, (some (5, 10, true))⟩,
 ⟨(opMove (some 14) (.tmp 1) 9 "strings.go:21" #[eG 5]).op, (some (5, 10, true))⟩,
 ⟨(opLen (some 15) (.tmp 14) 9 .string Tryd.underlying9 3 "strings.go:21" #[eD 9, eG 5]).op, (some (5, 10, true))⟩,
 ⟨(opBin (some 16) .sub 3 (.tmp 13) (.tmp 15) 3 3 "strings.go:21" #[eD 8, eD 10, eG 5]).op, (some (5, 10, true))⟩,
 ⟨(opSliceStrW (some 17) 9 (.tmp 11) (some (.tmp 16)) none Tryd.underlying9 9 "strings.go:21" #[eD 6, eD 11, eG 5]).op, (some (5, 10, true))⟩,
 ⟨(opMove (some 18) (.tmp 1) 9 "strings.go:21" #[eG 5]).op, (some (5, 10, true))⟩,
 ⟨(opBinS (some 19) .eql 9 (.tmp 17) (.tmp 18) 9 4 "strings.go:21" #[eD 12, eD 13, eG 5]).op, (some (5, 10, true))⟩,
 ⟨(opPick (some 20) (.tmp 10) (.tmp 19) (.const (Value.bool false)) 4 "strings.go:21" #[eD 5, eD 14]).op, none⟩,
 ⟨(opAssign (some 4) (.tmp 20) 4 "strings.go:21" #[eD 15, eC 5, eP 0, eP 1, eP 2, eP 3, eP 4, eP 5, eP 6, eP 7, eP 8, eP 9, eP 10, eP 11, eP 12, eP 13, eP 14, eP 15]).op, none⟩
 ] (by kernel_rfl)))
 (.live [4] .ret)))

noncomputable def g77 : Fun Tryd.prog where
 id := 77
 fn := Tryd.f77
 hf := Tryd.func77
 hname := by kernel_rfl
 body := g77_b
 hbody := by kernel_rfl
 res := [rTmp 4]
 hres := by kernel_rfl
 n := 21
 hn := by kernel_rfl

/-! ### 68: internal/stringslite.CutSuffix (9, 9); results 4, 5; slots: 0 s, 1 suffix, 2 s, 3 suffix, 4 before, 5 found -/
noncomputable def g68_b : Sim Tryd.prog :=
 (.seq (.live [0, 1] (.region 0 [
 ⟨(opAssign (some 4) (.const (Value.string { data := #[] })) 9 "strings.go:94" #[]).op, none⟩,
 ⟨(opAssign (some 5) (.const (Value.bool false)) 4 "strings.go:94" #[eC 0]).op, none⟩
 ] (by kernel_rfl)))
 (.seq (.seq (.live [0, 1, 9] (.region 1 [
 ⟨(opMove (some 6) (.tmp 0) 9 "strings.go:95" #[]).op, none⟩,
 ⟨(opMove (some 7) (.tmp 1) 9 "strings.go:95" #[]).op, none⟩,
 ⟨opCall (g77.orc 0) (some 8) [(.tmp 6), (.tmp 7)] #[9, 9] 4 "strings.go:95" #[eD 0, eD 1], none⟩,
 ⟨(opNot (some 9) 4 (.tmp 8) 4 "strings.go:95" #[eD 2]).op, none⟩
 ] (by kernel_rfl)))
 (.cond (.tmp 9)
 (.seq (.live [4, 5] (.region 2 [
 ⟨(opMove (some 10) (.tmp 0) 9 "strings.go:96" #[]).op, none⟩,
 ⟨(opAssign (some 4) (.tmp 10) 9 "strings.go:96" #[eD 0, eP 0]).op, none⟩,
 ⟨(opAssign (some 5) (.const (Value.bool false)) 4 "strings.go:96" #[eC 1, eP 0, eP 1]).op, none⟩
 ] (by kernel_rfl)))
 (.live [4, 5] .ret))
 .skip))
 (.seq (.live [4, 5] (.region 3 [
 ⟨(opMove (some 11) (.tmp 0) 9 "strings.go:98" #[]).op, none⟩,
 ⟨(opMove (some 12) (.tmp 0) 9 "strings.go:98" #[]).op, none⟩,
 ⟨(opLen (some 13) (.tmp 12) 9 .string Tryd.underlying9 3 "strings.go:98" #[eD 1]).op, none⟩,
 ⟨(opMove (some 14) (.tmp 1) 9 "strings.go:98" #[]).op, none⟩,
 ⟨(opLen (some 15) (.tmp 14) 9 .string Tryd.underlying9 3 "strings.go:98" #[eD 3]).op, none⟩,
 ⟨(opBin (some 16) .sub 3 (.tmp 13) (.tmp 15) 3 3 "strings.go:98" #[eD 2, eD 4]).op, none⟩,
 ⟨(opSliceStrW (some 17) 9 (.tmp 11) none (some (.tmp 16)) Tryd.underlying9 9 "strings.go:98" #[eD 0, eD 5]).op, none⟩,
 ⟨(opAssign (some 4) (.tmp 17) 9 "strings.go:98" #[eD 6, eP 0, eP 1, eP 2, eP 3, eP 4, eP 5, eP 6]).op, none⟩,
 ⟨(opAssign (some 5) (.const (Value.bool true)) 4 "strings.go:98" #[eC 7, eP 0, eP 1, eP 2, eP 3, eP 4, eP 5, eP 6, eP 7]).op, none⟩
 ] (by kernel_rfl)))
 (.live [4, 5] .ret))))

noncomputable def g68 : Fun Tryd.prog where
 id := 68
 fn := Tryd.f68
 hf := Tryd.func68
 hname := by kernel_rfl
 body := g68_b
 hbody := by kernel_rfl
 res := [rTmp 4, rTmp 5]
 hres := by kernel_rfl
 n := 18
 hn := by kernel_rfl

/-! ### 51: strings.CutSuffix (9, 9); results 4, 5; slots: 0 s, 1 suffix, 2 s, 3 suffix, 4 before, 5 found -/
noncomputable def g51_b : Sim Tryd.prog :=
 (.seq (.live [0, 1] (.region 0 [
 ⟨(opAssign (some 4) (.const (Value.string { data := #[] })) 9 "strings.go:1287" #[]).op, none⟩,
 ⟨(opAssign (some 5) (.const (Value.bool false)) 4 "strings.go:1287" #[eC 0]).op, none⟩
 ] (by kernel_rfl)))
 (.seq (.live [4, 5] (.region 1 [
 ⟨(opMove (some 6) (.tmp 0) 9 "strings.go:1288" #[]).op, none⟩,
 ⟨(opMove (some 7) (.tmp 1) 9 "strings.go:1288" #[]).op, none⟩,
 ⟨opCall (g68.orc 0) (some 8) [(.tmp 6), (.tmp 7)] #[9, 9] 69 "strings.go:1288" #[eD 0, eD 1], none⟩,
 ⟨(opExtract (some 9) (.tmp 8) 0 9 "strings.go:1288" #[eD 2]).op, none⟩,
 ⟨(opExtract (some 10) (.tmp 8) 1 4 "strings.go:1288" #[eD 2]).op, none⟩,
 ⟨(opAssign (some 4) (.tmp 9) 9 "strings.go:1288" #[eD 3, eC 2, eP 0, eP 1, eP 2, eP 3, eP 4]).op, none⟩,
 ⟨(opAssign (some 5) (.tmp 10) 4 "strings.go:1288" #[eD 4, eC 5, eP 0, eP 1, eP 2, eP 3, eP 4, eP 5]).op, none⟩
 ] (by kernel_rfl)))
 (.live [4, 5] .ret)))

noncomputable def g51 : Fun Tryd.prog where
 id := 51
 fn := Tryd.f51
 hf := Tryd.func51
 hname := by kernel_rfl
 body := g51_b
 hbody := by kernel_rfl
 res := [rTmp 4, rTmp 5]
 hres := by kernel_rfl
 n := 11
 hn := by kernel_rfl

/-! ### 29: interlock/value.parse (9); results 2, 3; slots: 0 s, 1 s, 4 inner, 5 ok, 6 inner, 7 ok, 8 text, 9 n, 10 e -/
noncomputable def g29_b : Sim Tryd.prog :=
 (.seq (.live [0, 2] (.region 0 [
 ⟨(opAlloc (some 2) 24 (.agg #[(.int .i64 0), (.int .i64 0), (.string ⟨#[]⟩)]) ze24 0 "value.go:174" #[]).op, none⟩,
 ⟨(opAssign (some 3) (.const (Value.bool false)) 4 "value.go:174" #[]).op, none⟩
 ] (by kernel_rfl)))
 (.seq (.seq (.live [0, 2, 4, 5] (.region 1 [
 ⟨(opMove (some 12) (.tmp 0) 9 "value.go:175" #[]).op, none⟩,
 ⟨opCall (g50.orc 0) (some 13) [(.tmp 12), (.const (Value.string { data := #[34] }))] #[9, 9] 69 "value.go:175" #[eD 0], none⟩,
 ⟨(opMove (some 11) (.tmp 13) 69 "value.go:175" #[eD 1]).op, none⟩,
 ⟨(opExtract (some 14) (.tmp 11) 0 9 "value.go:175" #[eD 2]).op, none⟩,
 ⟨(opExtract (some 15) (.tmp 11) 1 4 "value.go:175" #[eD 2, { on := 5, ground := (Ground.gcOnly Departure.lateStores) }]).op, none⟩,
 ⟨(opAssign (some 4) (.tmp 14) 9 "value.go:175" #[eD 3, eC 1, eP 0, eP 1, eP 2, eP 3, { on := 4, ground := (Ground.textOnly Departure.lateStores) }]).op, none⟩,
 ⟨(opAssign (some 5) (.tmp 15) 4 "value.go:175" #[eD 4, eC 5, eP 0, eP 1, eP 2, eP 3, eP 4, eP 5]).op, none⟩
 ] (by kernel_rfl)))
 (.seq (.live [0, 2, 4, 16] (.region 2 [
 ⟨(opMove (some 16) (.tmp 5) 4 "value.go:175" #[]).op, none⟩
 ] (by kernel_rfl)))
 (.cond (.tmp 16)
 (.seq (.live [2, 6, 7] (.region 3 [
 ⟨(opMove (some 18) (.tmp 4) 9 "value.go:176" #[]).op, none⟩,
 ⟨opCall (g51.orc 0) (some 19) [(.tmp 18), (.const (Value.string { data := #[34] }))] #[9, 9] 69 "value.go:176" #[eD 0], none⟩,
 ⟨(opMove (some 17) (.tmp 19) 69 "value.go:176" #[eD 1]).op, none⟩,
 ⟨(opExtract (some 20) (.tmp 17) 0 9 "value.go:176" #[eD 2]).op, none⟩,
 ⟨(opExtract (some 21) (.tmp 17) 1 4 "value.go:176" #[eD 2, { on := 5, ground := (Ground.gcOnly Departure.lateStores) }]).op, none⟩,
 ⟨(opAssign (some 6) (.tmp 20) 9 "value.go:176" #[eD 3, eC 1, eP 0, eP 1, eP 2, eP 3, { on := 4, ground := (Ground.textOnly Departure.lateStores) }]).op, none⟩,
 ⟨(opAssign (some 7) (.tmp 21) 4 "value.go:176" #[eD 4, eC 5, eP 0, eP 1, eP 2, eP 3, eP 4, eP 5]).op, none⟩
 ] (by kernel_rfl)))
 (.seq (.seq (.live [2, 6, 23] (.region 4 [
 ⟨(opMove (some 22) (.tmp 7) 4 "value.go:177" #[]).op, none⟩,
 ⟨(opNot (some 23) 4 (.tmp 22) 4 "value.go:177" #[eD 0]).op, none⟩
 ] (by kernel_rfl)))
 (.cond (.tmp 23)
 (.seq (.live [2, 3] (.region 5 [
 ⟨(opBuild (some 24) 24 #[(.int .i64 0), (.int .i64 0), (.string ⟨#[]⟩)] [] ze24 (by kernel_rfl) 24 "value.go:178" #[]).op, none⟩,
 ⟨(opStore none 24 (.tmp 2) (.tmp 24) 3 sz24 0 "value.go:178" #[eD 0, eP 0]).op, none⟩,
 ⟨(opAssign (some 3) (.const (Value.bool false)) 4 "value.go:178" #[eC 1, eP 0, eP 1]).op, none⟩
 ] (by kernel_rfl)))
 (.live [2, 3] .ret))
 .skip))
 (.seq (.live [2, 7, 8] (.region 6 [
 ⟨(opMove (some 26) (.tmp 6) 9 "value.go:180" #[]).op, none⟩,
 ⟨(opCallP p52 (some 27) [(.tmp 26)] #[9] 69 "value.go:180" #[eD 0]).op, none⟩,
 ⟨(opMove (some 25) (.tmp 27) 69 "value.go:180" #[eD 1]).op, none⟩,
 ⟨(opExtract (some 28) (.tmp 25) 0 9 "value.go:180" #[eD 2]).op, none⟩,
 ⟨(opExtract (some 29) (.tmp 25) 1 4 "value.go:180" #[eD 2, { on := 5, ground := (Ground.gcOnly Departure.lateStores) }]).op, none⟩,
 ⟨(opAssign (some 8) (.tmp 28) 9 "value.go:180" #[eD 3, eC 1, eP 0, eP 1, eP 2, eP 3, { on := 4, ground := (Ground.textOnly Departure.lateStores) }]).op, none⟩,
 ⟨(opAssign (some 7) (.tmp 29) 4 "value.go:180" #[eD 4, eC 5, eP 0, eP 1, eP 2, eP 3, eP 4, eP 5]).op, none⟩
 ] (by kernel_rfl)))
 (.seq (.live [2, 3] (.region 7 [
 ⟨(opMove (some 30) (.tmp 8) 9 "value.go:181" #[]).op, none⟩,
 ⟨(opBuild (some 31) 24 #[(.int .i64 0), (.int .i64 0), (.string ⟨#[]⟩)] [(0, 0, 1, (.const (Value.int IntKind.i64 3))), (2, 2, 1, (.tmp 30))] ze24 (by kernel_rfl) 24 "value.go:181" #[eD 0]).op, none⟩,
 ⟨(opMove (some 32) (.tmp 7) 4 "value.go:181" #[{ on := 3, ground := (Ground.gcOnly Departure.lateStores) }]).op, none⟩,
 ⟨(opStore none 24 (.tmp 2) (.tmp 31) 3 sz24 0 "value.go:181" #[eD 1, eP 0, eP 1, { on := 2, ground := (Ground.textOnly Departure.lateStores) }]).op, none⟩,
 ⟨(opAssign (some 3) (.tmp 32) 4 "value.go:181" #[eD 2, eC 3, eP 0, eP 1, eP 2, eP 3]).op, none⟩
 ] (by kernel_rfl)))
 (.live [2, 3] .ret)))))
 .skip)))
 (.seq (.seq (.live [0, 2, 33] (.region 8 [
 ⟨(opMove (some 33) (.tmp 0) 9 "value.go:183" #[]).op, none⟩
 ] (by kernel_rfl)))
 (.block 0 (.seq (.live [0, 2, 33, 34] (.region 9 [
 ⟨(opBinS (some 35) .eql 9 (.tmp 33) (.const (Value.string { data := #[110, 117, 108, 108] })) 9 4 "value.go:184" #[]).op, none⟩,
 ⟨(opAssign (some 34) (.tmp 35) 4 "value.go:184" #[eD 0]).op, none⟩
 ] (by kernel_rfl)))
 (.cond (.tmp 34)
 (.seq (.live [2, 3] (.region 10 [
 ⟨(opBuild (some 36) 24 #[(.int .i64 0), (.int .i64 0), (.string ⟨#[]⟩)] [] ze24 (by kernel_rfl) 24 "value.go:185" #[]).op, none⟩,
 ⟨(opStore none 24 (.tmp 2) (.tmp 36) 3 sz24 0 "value.go:185" #[eD 0, eP 0]).op, none⟩,
 ⟨(opAssign (some 3) (.const (Value.bool true)) 4 "value.go:185" #[eC 1, eP 0, eP 1]).op, none⟩
 ] (by kernel_rfl)))
 (.live [2, 3] .ret))
 (.seq (.live [0, 2, 33, 37] (.region 11 [
 ⟨(opBinS (some 38) .eql 9 (.tmp 33) (.const (Value.string { data := #[102, 97, 108, 115, 101] })) 9 4 "value.go:186" #[]).op, none⟩,
 ⟨(opAssign (some 37) (.tmp 38) 4 "value.go:186" #[eD 0]).op, none⟩
 ] (by kernel_rfl)))
 (.cond (.tmp 37)
 (.seq (.live [2, 3] (.region 12 [
 ⟨(opBuild (some 39) 24 #[(.int .i64 0), (.int .i64 0), (.string ⟨#[]⟩)] [(0, 0, 1, (.const (Value.int IntKind.i64 2)))] ze24 (by kernel_rfl) 24 "value.go:187" #[]).op, none⟩,
 ⟨(opStore none 24 (.tmp 2) (.tmp 39) 3 sz24 0 "value.go:187" #[eD 0, eP 0]).op, none⟩,
 ⟨(opAssign (some 3) (.const (Value.bool true)) 4 "value.go:187" #[eC 1, eP 0, eP 1]).op, none⟩
 ] (by kernel_rfl)))
 (.live [2, 3] .ret))
 (.seq (.live [0, 2, 40] (.region 13 [
 ⟨(opBinS (some 41) .eql 9 (.tmp 33) (.const (Value.string { data := #[116, 114, 117, 101] })) 9 4 "value.go:188" #[]).op, none⟩,
 ⟨(opAssign (some 40) (.tmp 41) 4 "value.go:188" #[eD 0]).op, none⟩
 ] (by kernel_rfl)))
 (.cond (.tmp 40)
 (.seq (.live [2, 3] (.region 14 [
 ⟨(opBuild (some 42) 24 #[(.int .i64 0), (.int .i64 0), (.string ⟨#[]⟩)] [(0, 0, 1, (.const (Value.int IntKind.i64 2))), (1, 1, 1, (.const (Value.int IntKind.i64 1)))] ze24 (by kernel_rfl) 24 "value.go:189" #[]).op, none⟩,
 ⟨(opStore none 24 (.tmp 2) (.tmp 42) 3 sz24 0 "value.go:189" #[eD 0, eP 0]).op, none⟩,
 ⟨(opAssign (some 3) (.const (Value.bool true)) 4 "value.go:189" #[eC 1, eP 0, eP 1]).op, none⟩
 ] (by kernel_rfl)))
 (.live [2, 3] .ret))
 .skip))))))))
 (.seq (.live [2, 9, 10] (.region 15 [
 ⟨(opMove (some 44) (.tmp 0) 9 "value.go:191" #[]).op, none⟩,
 ⟨(opCallP p53 (some 45) [(.tmp 44)] #[9] 74 "value.go:191" #[eD 0]).op, none⟩,
 ⟨(opMove (some 43) (.tmp 45) 74 "value.go:191" #[eD 1]).op, none⟩,
 ⟨(opExtract (some 46) (.tmp 43) 0 3 "value.go:191" #[eD 2]).op, none⟩,
 ⟨(opExtract (some 47) (.tmp 43) 1 73 "value.go:191" #[eD 2, { on := 5, ground := (Ground.gcOnly Departure.lateStores) }]).op, none⟩,
 ⟨(opAssign (some 9) (.tmp 46) 3 "value.go:191" #[eD 3, eC 1, eP 0, eP 1, eP 2, eP 3, { on := 4, ground := (Ground.textOnly Departure.lateStores) }]).op, none⟩,
 ⟨(opAssign (some 10) (.tmp 47) 73 "value.go:191" #[eD 4, eC 5, eP 0, eP 1, eP 2, eP 3, eP 4, eP 5]).op, none⟩
 ] (by kernel_rfl)))
 (.seq (.seq (.live [2, 9, 49] (.region 16 [
 ⟨(opMove (some 48) (.tmp 10) 73 "value.go:192" #[]).op, none⟩,
 ⟨(opNe (some 49) 73 d73 ud73 (.tmp 48) (.const Value.nilIface) (.inl rfl) 73 4 "value.go:192" #[eD 0]).op, none⟩
 ] (by kernel_rfl)))
 (.cond (.tmp 49)
 (.seq (.live [2, 3] (.region 17 [
 ⟨(opBuild (some 50) 24 #[(.int .i64 0), (.int .i64 0), (.string ⟨#[]⟩)] [] ze24 (by kernel_rfl) 24 "value.go:193" #[]).op, none⟩,
 ⟨(opStore none 24 (.tmp 2) (.tmp 50) 3 sz24 0 "value.go:193" #[eD 0, eP 0]).op, none⟩,
 ⟨(opAssign (some 3) (.const (Value.bool false)) 4 "value.go:193" #[eC 1, eP 0, eP 1]).op, none⟩
 ] (by kernel_rfl)))
 (.live [2, 3] .ret))
 .skip))
 (.seq (.live [2, 3] (.region 18 [
 ⟨(opMove (some 51) (.tmp 9) 3 "value.go:195" #[]).op, none⟩,
 ⟨(opBuild (some 52) 24 #[(.int .i64 0), (.int .i64 0), (.string ⟨#[]⟩)] [(0, 0, 1, (.const (Value.int IntKind.i64 1))), (1, 1, 1, (.tmp 51))] ze24 (by kernel_rfl) 24 "value.go:195" #[eD 0]).op, none⟩,
 ⟨(opStore none 24 (.tmp 2) (.tmp 52) 3 sz24 0 "value.go:195" #[eD 1, eP 0, eP 1]).op, none⟩,
 ⟨(opAssign (some 3) (.const (Value.bool true)) 4 "value.go:195" #[eC 2, eP 0, eP 1, eP 2]).op, none⟩
 ] (by kernel_rfl)))
 (.live [2, 3] .ret)))))))

noncomputable def g29 : Fun Tryd.prog where
 id := 29
 fn := Tryd.f29
 hf := Tryd.func29
 hname := by kernel_rfl
 body := g29_b
 hbody := by kernel_rfl
 res := [rCell 2 24 d24 ud24 3 sz24, rTmp 3]
 hres := by kernel_rfl
 n := 53
 hn := by kernel_rfl

end Go.Proofs.YtcfedmheblbdnaaDoor.V

/- What the functions' runs come to; the right sides were printed by a tool, Lean checks them. -/
set_option linter.unusedVariables false
set_option maxRecDepth 100000
namespace Go.Proofs.YtcfedmheblbdnaaDoor.V
open Go Go.V Go.RowKit

theorem pr_run (F : Nat) (s : ByteArray) :
 (g29.run F [.str s] ⟨[], []⟩ : Ans) =
 branch (AV.bool (decide ((↑s.size : Int) ≥ (1 : Int))))
 (branch (AV.bool (inSl s (0 : Int) (1 : Int)))
 (branch (AV.bool !(subT s (0 : Int) (1 : Int)).toList == [UInt8.ofNat 34])
 (branch
 (AV.bool
 (s.toList ==
 [UInt8.ofNat 110, UInt8.ofNat 117, UInt8.ofNat 108, UInt8.ofNat 108]))
 (some
 (Fin.ret
 (AV.tup
 [AV.agg [AV.int IntKind.i64 (0 : Int), AV.int IntKind.i64 (0 : Int), AV.str (ByteArray.mk #[])],
 AV.bool true]),
 St.mk [Ob.cells [AV.int IntKind.i64 (0 : Int), AV.int IntKind.i64 (0 : Int), AV.str (ByteArray.mk #[])]]
 []))
 (branch
 (AV.bool
 (s.toList ==
 [UInt8.ofNat 102, UInt8.ofNat 97, UInt8.ofNat 108, UInt8.ofNat 115,
 UInt8.ofNat 101]))
 (some
 (Fin.ret
 (AV.tup
 [AV.agg [AV.int IntKind.i64 (2 : Int), AV.int IntKind.i64 (0 : Int), AV.str (ByteArray.mk #[])],
 AV.bool true]),
 St.mk [Ob.cells [AV.int IntKind.i64 (2 : Int), AV.int IntKind.i64 (0 : Int), AV.str (ByteArray.mk #[])]]
 []))
 (branch
 (AV.bool
 (s.toList ==
 [UInt8.ofNat 116, UInt8.ofNat 114, UInt8.ofNat 117, UInt8.ofNat 101]))
 (some
 (Fin.ret
 (AV.tup
 [AV.agg [AV.int IntKind.i64 (2 : Int), AV.int IntKind.i64 (1 : Int), AV.str (ByteArray.mk #[])],
 AV.bool true]),
 St.mk [Ob.cells [AV.int IntKind.i64 (2 : Int), AV.int IntKind.i64 (1 : Int), AV.str (ByteArray.mk #[])]]
 []))
 (branch (AV.bool (cdec (s.size ≤ 100000)))
 (branch (AV.bool (cdec ((piF (strL s)).snd = 0)))
 (some
 (Fin.ret
 (AV.tup
 [AV.agg
 [AV.int IntKind.i64 (1 : Int), AV.int IntKind.i64 (opq (piF (strL s)).fst),
 AV.str (ByteArray.mk #[])],
 AV.bool true]),
 St.mk
 [Ob.cells
 [AV.int IntKind.i64 (1 : Int), AV.int IntKind.i64 (opq (piF (strL s)).fst),
 AV.str (ByteArray.mk #[])]]
 []))
 (some
 (Fin.ret
 (AV.tup
 [AV.agg [AV.int IntKind.i64 (0 : Int), AV.int IntKind.i64 (0 : Int), AV.str (ByteArray.mk #[])],
 AV.bool false]),
 St.mk
 [Ob.cells [AV.int IntKind.i64 (0 : Int), AV.int IntKind.i64 (0 : Int), AV.str (ByteArray.mk #[])]]
 [])))
 none))))
 (branch (AV.bool (inSl s (1 : Int) (↑s.size : Int)))
 (branch (AV.bool (decide ((↑(subT s (1 : Int) (↑s.size : Int)).size : Int) ≥ (1 : Int))))
 (branch
 (AV.bool
 (inSl (subT s (1 : Int) (↑s.size : Int))
 (IntKind.i64.wrap ((↑(subT s (1 : Int) (↑s.size : Int)).size : Int) - (1 : Int)))
 (↑(subT s (1 : Int) (↑s.size : Int)).size : Int)))
 (branch
 (AV.bool
 !(subT (subT s (1 : Int) (↑s.size : Int))
 (IntKind.i64.wrap ((↑(subT s (1 : Int) (↑s.size : Int)).size : Int) - (1 : Int)))
 (↑(subT s (1 : Int) (↑s.size : Int)).size : Int)).toList ==
 [UInt8.ofNat 34])
 (some
 (Fin.ret
 (AV.tup
 [AV.agg [AV.int IntKind.i64 (0 : Int), AV.int IntKind.i64 (0 : Int), AV.str (ByteArray.mk #[])],
 AV.bool false]),
 St.mk
 [Ob.cells [AV.int IntKind.i64 (0 : Int), AV.int IntKind.i64 (0 : Int), AV.str (ByteArray.mk #[])]]
 []))
 (branch
 (AV.bool
 (inSl (subT s (1 : Int) (↑s.size : Int)) (0 : Int)
 (IntKind.i64.wrap ((↑(subT s (1 : Int) (↑s.size : Int)).size : Int) - (1 : Int)))))
 (branch
 (AV.bool
 (cdec
 ((strL
 (subT (subT s (1 : Int) (↑s.size : Int)) (0 : Int)
 (IntKind.i64.wrap
 ((↑(subT s (1 : Int) (↑s.size : Int)).size : Int) - (1 : Int))))).length ≤
 100000000)))
 (some
 (Fin.ret
 (AV.tup
 [AV.agg
 [AV.int IntKind.i64 (3 : Int), AV.int IntKind.i64 (0 : Int),
 AV.str
 (unqS
 (subT (subT s (1 : Int) (↑s.size : Int)) (0 : Int)
 (IntKind.i64.wrap
 ((↑(subT s (1 : Int) (↑s.size : Int)).size : Int) - (1 : Int)))))],
 AV.bool
 (unqL
 (strL
 (subT (subT s (1 : Int) (↑s.size : Int)) (0 : Int)
 (IntKind.i64.wrap
 ((↑(subT s (1 : Int) (↑s.size : Int)).size : Int) - (1 : Int)))))).isSome]),
 St.mk
 [Ob.cells
 [AV.int IntKind.i64 (3 : Int), AV.int IntKind.i64 (0 : Int),
 AV.str
 (unqS
 (subT (subT s (1 : Int) (↑s.size : Int)) (0 : Int)
 (IntKind.i64.wrap
 ((↑(subT s (1 : Int) (↑s.size : Int)).size : Int) - (1 : Int)))))]]
 []))
 none)
 none))
 none)
 (some
 (Fin.ret
 (AV.tup
 [AV.agg [AV.int IntKind.i64 (0 : Int), AV.int IntKind.i64 (0 : Int), AV.str (ByteArray.mk #[])],
 AV.bool false]),
 St.mk [Ob.cells [AV.int IntKind.i64 (0 : Int), AV.int IntKind.i64 (0 : Int), AV.str (ByteArray.mk #[])]]
 [])))
 none))
 none)
 (branch
 (AV.bool
 (s.toList ==
 [UInt8.ofNat 110, UInt8.ofNat 117, UInt8.ofNat 108, UInt8.ofNat 108]))
 (some
 (Fin.ret
 (AV.tup
 [AV.agg [AV.int IntKind.i64 (0 : Int), AV.int IntKind.i64 (0 : Int), AV.str (ByteArray.mk #[])],
 AV.bool true]),
 St.mk [Ob.cells [AV.int IntKind.i64 (0 : Int), AV.int IntKind.i64 (0 : Int), AV.str (ByteArray.mk #[])]] []))
 (branch
 (AV.bool
 (s.toList ==
 [UInt8.ofNat 102, UInt8.ofNat 97, UInt8.ofNat 108, UInt8.ofNat 115,
 UInt8.ofNat 101]))
 (some
 (Fin.ret
 (AV.tup
 [AV.agg [AV.int IntKind.i64 (2 : Int), AV.int IntKind.i64 (0 : Int), AV.str (ByteArray.mk #[])],
 AV.bool true]),
 St.mk [Ob.cells [AV.int IntKind.i64 (2 : Int), AV.int IntKind.i64 (0 : Int), AV.str (ByteArray.mk #[])]] []))
 (branch
 (AV.bool
 (s.toList ==
 [UInt8.ofNat 116, UInt8.ofNat 114, UInt8.ofNat 117, UInt8.ofNat 101]))
 (some
 (Fin.ret
 (AV.tup
 [AV.agg [AV.int IntKind.i64 (2 : Int), AV.int IntKind.i64 (1 : Int), AV.str (ByteArray.mk #[])],
 AV.bool true]),
 St.mk [Ob.cells [AV.int IntKind.i64 (2 : Int), AV.int IntKind.i64 (1 : Int), AV.str (ByteArray.mk #[])]]
 []))
 (branch (AV.bool (cdec (s.size ≤ 100000)))
 (branch (AV.bool (cdec ((piF (strL s)).snd = 0)))
 (some
 (Fin.ret
 (AV.tup
 [AV.agg
 [AV.int IntKind.i64 (1 : Int), AV.int IntKind.i64 (opq (piF (strL s)).fst),
 AV.str (ByteArray.mk #[])],
 AV.bool true]),
 St.mk
 [Ob.cells
 [AV.int IntKind.i64 (1 : Int), AV.int IntKind.i64 (opq (piF (strL s)).fst),
 AV.str (ByteArray.mk #[])]]
 []))
 (some
 (Fin.ret
 (AV.tup
 [AV.agg [AV.int IntKind.i64 (0 : Int), AV.int IntKind.i64 (0 : Int), AV.str (ByteArray.mk #[])],
 AV.bool false]),
 St.mk [Ob.cells [AV.int IntKind.i64 (0 : Int), AV.int IntKind.i64 (0 : Int), AV.str (ByteArray.mk #[])]]
 [])))
 none)))) := by kernel_rfl

end Go.Proofs.YtcfedmheblbdnaaDoor.V

/- Values: parse, as a callee. -/
set_option linter.unusedVariables false
namespace Go.Proofs.YtcfedmheblbdnaaDoor.V
open Go Go.V Go.RowKit

def lNull : List Nat := [110, 117, 108, 108]
def lFalse : List Nat := [102, 97, 108, 115, 101]
def lTrue : List Nat := [116, 114, 117, 101]
def vaZ : Va := ⟨0, 0, ByteArray.mk #[]⟩
def unqB (l : List Nat) : ByteArray := match unqL l with
  | some r => strB r
  | none => ByteArray.mk #[]
def restP (l : List Nat) : Va × Bool := if l = lNull then (vaZ, true) else if l = lFalse then (⟨2, 0, ByteArray.mk #[]⟩, true) else if l = lTrue then (⟨2, 1, ByteArray.mk #[]⟩, true) else if (piF l).2 = 0 then (⟨1, (piF l).1, ByteArray.mk #[]⟩, true) else (vaZ, false)
def parL : List Nat → Va × Bool
  | [] => restP []
  | c :: r => if c = 34 then if r.drop (r.length - 1) = [34] then (⟨3, 0, unqB (r.take (r.length - 1))⟩, (unqL (r.take (r.length - 1))).isSome) else (vaZ, false) else restP (c :: r)
def vaA (x : Va × Bool) : AV := .tup [x.1.av, .bool x.2]
theorem toL_eq (s : ByteArray) {l : List Nat} (hl : ∀ b ∈ l, b < 256) : (s.toList == l.map fun n => UInt8.ofNat n) = decide (strL s = l) := by
  rw [ByteArray.toList_eq, Bool.eq_iff_iff, beq_iff_eq, decide_eq_true_eq]
  constructor
  · intro h
    rw [strL, h, List.map_map]
    conv => rhs; rw [← List.map_id l]
    refine List.map_congr_left fun b hb => ?_
    have := hl b hb
    simp only [Function.comp, id]
    rw [UInt8.toNat_ofNat']; exact Nat.mod_eq_of_lt this
  · intro h
    rw [← h, strL, List.map_map]
    conv => lhs; rw [← List.map_id s.data.toList]
    refine List.map_congr_left fun b hb => ?_
    simp
theorem rest_eq (s : ByteArray) (hs : s.size ≤ 100000) : ∃ st', (
    branch (AV.bool (s.toList == [UInt8.ofNat 110, UInt8.ofNat 117, UInt8.ofNat 108, UInt8.ofNat 108]))
      (some (Fin.ret (AV.tup [AV.agg [AV.int IntKind.i64 (0 : Int), AV.int IntKind.i64 (0 : Int), AV.str (ByteArray.mk #[])], AV.bool true]), St.mk [Ob.cells [AV.int IntKind.i64 (0 : Int), AV.int IntKind.i64 (0 : Int), AV.str (ByteArray.mk #[])]] []))
      (branch (AV.bool (s.toList == [UInt8.ofNat 102, UInt8.ofNat 97, UInt8.ofNat 108, UInt8.ofNat 115, UInt8.ofNat 101]))
        (some (Fin.ret (AV.tup [AV.agg [AV.int IntKind.i64 (2 : Int), AV.int IntKind.i64 (0 : Int), AV.str (ByteArray.mk #[])], AV.bool true]), St.mk [Ob.cells [AV.int IntKind.i64 (2 : Int), AV.int IntKind.i64 (0 : Int), AV.str (ByteArray.mk #[])]] []))
        (branch (AV.bool (s.toList == [UInt8.ofNat 116, UInt8.ofNat 114, UInt8.ofNat 117, UInt8.ofNat 101]))
          (some (Fin.ret (AV.tup [AV.agg [AV.int IntKind.i64 (2 : Int), AV.int IntKind.i64 (1 : Int), AV.str (ByteArray.mk #[])], AV.bool true]), St.mk [Ob.cells [AV.int IntKind.i64 (2 : Int), AV.int IntKind.i64 (1 : Int), AV.str (ByteArray.mk #[])]] []))
          (branch (AV.bool (cdec (s.size ≤ 100000)))
            (branch (AV.bool (cdec ((piF (strL s)).snd = 0)))
              (some (Fin.ret (AV.tup [AV.agg [AV.int IntKind.i64 (1 : Int), AV.int IntKind.i64 (opq (piF (strL s)).fst), AV.str (ByteArray.mk #[])], AV.bool true]), St.mk [Ob.cells [AV.int IntKind.i64 (1 : Int), AV.int IntKind.i64 (opq (piF (strL s)).fst), AV.str (ByteArray.mk #[])]] []))
              (some (Fin.ret (AV.tup [AV.agg [AV.int IntKind.i64 (0 : Int), AV.int IntKind.i64 (0 : Int), AV.str (ByteArray.mk #[])], AV.bool false]), St.mk [Ob.cells [AV.int IntKind.i64 (0 : Int), AV.int IntKind.i64 (0 : Int), AV.str (ByteArray.mk #[])]] [])))
            none))) : Ans) = some (.ret (vaA (restP (strL s))), st') := by
  rw [show (s.toList == [UInt8.ofNat 110, UInt8.ofNat 117, UInt8.ofNat 108, UInt8.ofNat 108]) = decide (strL s = lNull) from toL_eq s (l := lNull) (by decide),
    show (s.toList == [UInt8.ofNat 102, UInt8.ofNat 97, UInt8.ofNat 108, UInt8.ofNat 115, UInt8.ofNat 101]) = decide (strL s = lFalse) from toL_eq s (l := lFalse) (by decide),
    show (s.toList == [UInt8.ofNat 116, UInt8.ofNat 114, UInt8.ofNat 117, UInt8.ofNat 101]) = decide (strL s = lTrue) from toL_eq s (l := lTrue) (by decide), opq_eq]
  unfold restP
  by_cases h1 : strL s = lNull
  · rw [branch_of (decide_eq_true h1), if_pos h1]; exact ⟨_, rfl⟩
  · rw [branch_not (decide_eq_false h1), if_neg h1]
    by_cases h2 : strL s = lFalse
    · rw [branch_of (decide_eq_true h2), if_pos h2]; exact ⟨_, rfl⟩
    · rw [branch_not (decide_eq_false h2), if_neg h2]
      by_cases h3 : strL s = lTrue
      · rw [branch_of (decide_eq_true h3), if_pos h3]; exact ⟨_, rfl⟩
      · rw [branch_not (decide_eq_false h3), if_neg h3, branch_of (cdec_iff.mpr hs)]
        by_cases h4 : (piF (strL s)).2 = 0
        · rw [branch_of (cdec_iff.mpr h4), if_pos h4]; exact ⟨_, rfl⟩
        · rw [branch_not (by rw [Bool.eq_false_iff, ne_eq, cdec_iff]; exact h4), if_neg h4]; exact ⟨_, rfl⟩
theorem par_eq (s : ByteArray) (hs : s.size ≤ 100000) : ∃ st', g29.run 0 [.str s] ⟨[], []⟩ = some (.ret (vaA (parL (strL s))), st') := by
  have hsz := strL_size s
  rw [pr_run]
  cases hl : strL s with
  | nil =>
    rw [hl] at hsz
    rw [branch_not (decide_eq_false (by simp at hsz; rw [hsz]; decide))]
    have := rest_eq s hs
    rw [hl] at this
    exact this
  | cons c r =>
    obtain ⟨h1, h2, h3, h4⟩ := tail_text hl
    rw [hl, List.length_cons] at hsz
    have e01 : strL (subT s (0 : Int) (1 : Int)) = [c] := by
      rw [subT_list, hl]; rfl
    rw [branch_of (decide_eq_true (by omega)), branch_of (inSl_iff.mpr ⟨by omega, by omega, by rw [hl, List.length_cons]; omega⟩),
      show ((subT s (0 : Int) (1 : Int)).toList == [UInt8.ofNat 34]) = decide (strL (subT s (0 : Int) (1 : Int)) = [34]) from toL_eq _ (l := [34]) (by decide), e01, parL]
    by_cases hc : c = 34
    · rw [branch_not (by rw [decide_eq_true (by rw [hc])]; rfl), branch_of h3, if_pos hc]
      generalize ht : subT s (1 : Int) (s.size : Int) = t at *
      have htz := strL_size t
      rw [h4] at htz
      cases r with
      | nil =>
        rw [branch_not (decide_eq_false (by rw [htz]; decide))]
        exact ⟨_, rfl⟩
      | cons d r' =>
        generalize hr : d :: r' = r at *
        have hr1 : 1 ≤ r.length := by rw [← hr]; simp
        have e1 : IntKind.i64.wrap ((t.size : Int) - 1) = ((r.length - 1 : Nat) : Int) := by rw [wrapS (by omega) (by omega)]; omega
        have e2 : strL (subT t ((r.length - 1 : Nat) : Int) (t.size : Int)) = r.drop (r.length - 1) := by rw [sub_end, h4]
        have e3 : strL (subT t (0 : Int) ((r.length - 1 : Nat) : Int)) = r.take (r.length - 1) := by rw [subT_list, h4]; simp
        rw [branch_of (decide_eq_true (by omega)), e1, branch_of (in_end (by rw [h4]; omega)),
          show ((subT t ((r.length - 1 : Nat) : Int) (t.size : Int)).toList == [UInt8.ofNat 34]) = decide (strL (subT t ((r.length - 1 : Nat) : Int) (t.size : Int)) = [34]) from toL_eq _ (l := [34]) (by decide), e2]
        by_cases hq : r.drop (r.length - 1) = [34]
        · rw [branch_not (by rw [decide_eq_true hq]; rfl), if_pos hq, branch_of (inSl_iff.mpr ⟨by omega, by omega, by rw [h4]; omega⟩), branch_of (cdec_iff.mpr (by rw [e3, List.length_take]; omega)), e3,
            show unqS (subT t (0 : Int) ((r.length - 1 : Nat) : Int)) = unqB (r.take (r.length - 1)) by unfold unqS unqB; rw [e3]; rfl]
          exact ⟨_, rfl⟩
        · rw [branch_of (by rw [decide_eq_false hq]; rfl), if_neg hq]
          exact ⟨_, rfl⟩
    · rw [branch_of (by rw [decide_eq_false (by intro e; exact hc (List.cons.inj e).1)]; rfl), if_neg hc]
      have := rest_eq s hs
      rw [hl] at this
      exact this
theorem va_scoped (x : Va × Bool) : Scoped 0 0 (vaA x) := ⟨⟨trivial, trivial, trivial, trivial⟩, trivial, trivial⟩
theorem va_frz (x : Va × Bool) : frz (vaA x) = vaA x := rfl
noncomputable def p29 : POrc Tryd.prog := g29.seenAs dec1s (fun s => [.str s]) dec1s_enc (fun s => cdec (s.size ≤ 100000)) (fun s => vaA (parL (strL s))) fun s h => by
  obtain ⟨st', h⟩ := par_eq s (cdec_iff.mp h)
  exact ⟨⟨trivial, trivial⟩, _, 0, _, st', va_frz _, va_scoped _, h, fun g w v hv => hv⟩
end Go.Proofs.YtcfedmheblbdnaaDoor.V

/- The functions' pieces, as told by gen.py. -/
set_option linter.unusedVariables false
set_option maxRecDepth 20000
namespace Go.Proofs.YtcfedmheblbdnaaDoor.V
open Go Go.V Go.RowKit


/-! ### 10: interlock/value.Read (9); results 2, 3; slots: 0 s, 1 s, 4 v, 5 ok -/
noncomputable def g10_b : Sim Tryd.prog :=
 (.seq (.live [0, 2] (.region 0 [
 ⟨(opAlloc (some 2) 24 (.agg #[(.int .i64 0), (.int .i64 0), (.string ⟨#[]⟩)]) ze24 0 "value.go:199" #[]).op, none⟩,
 ⟨(opAssign (some 3) (.const (Value.bool false)) 4 "value.go:199" #[]).op, none⟩
 ] (by kernel_rfl)))
 (.seq (.live [0, 2, 4, 5] (.region 1 [
 ⟨(opMove (some 7) (.tmp 0) 9 "value.go:200" #[]).op, none⟩,
 ⟨(opCallP p29 (some 8) [(.tmp 7)] #[9] 25 "value.go:200" #[eD 0]).op, none⟩,
 ⟨(opMove (some 6) (.tmp 8) 25 "value.go:200" #[eD 1]).op, none⟩,
 ⟨(opExtract (some 9) (.tmp 6) 0 24 "value.go:200" #[eD 2]).op, none⟩,
 ⟨(opExtract (some 10) (.tmp 6) 1 4 "value.go:200" #[eD 2, { on := 6, ground := (Ground.gcOnly Departure.lateStores) }]).op, none⟩,
 ⟨(opAlloc (some 4) 24 (.agg #[(.int .i64 0), (.int .i64 0), (.string ⟨#[]⟩)]) ze24 0 "value.go:200" #[]).op, none⟩,
 ⟨(opStore none 24 (.tmp 4) (.tmp 9) 3 sz24 0 "value.go:200" #[eD 5, eD 3, eC 1, eP 0, eP 1, eP 2, eP 3, { on := 4, ground := (Ground.textOnly Departure.lateStores) }, eP 5]).op, none⟩,
 ⟨(opAssign (some 5) (.tmp 10) 4 "value.go:200" #[eD 4, eC 6, eP 0, eP 1, eP 2, eP 3, eP 4, eP 5, eP 6]).op, none⟩
 ] (by kernel_rfl)))
 (.seq (.seq (.live [2, 4, 23] (.region 2 [
 ⟨(opMove (some 11) (.tmp 5) 4 "value.go:201" #[]).op, none⟩,
 ⟨(opNot (some 12) 4 (.tmp 11) 4 "value.go:201" #[eD 0]).op, none⟩,
 ⟨(opMove (some 13) (.tmp 12) 4 "value.go:201" #[eD 1]).op, none⟩,
 ⟨(opLoadT (.agg [(.int .i64), (.int .i64), .str]) (some 14) 24 (.tmp 4) d24 ud24 3 sz24 (by kernel_rfl) 24 "value.go:201" #[eG 2]).op, (some (2, 13, false))⟩,
 ⟨(opCallP p13 (some 15) [(.tmp 14)] #[24] 4 "value.go:201" #[eD 3, eC 2, eG 2]).op, (some (2, 13, false))⟩,
 ⟨(opNot (some 16) 4 (.tmp 15) 4 "value.go:201" #[eD 4, eG 2]).op, (some (2, 13, false))⟩,
 ⟨(opPick (some 17) (.tmp 13) (.const (Value.bool true)) (.tmp 16) 4 "value.go:201" #[eD 2, eD 5]).op, none⟩,
 ⟨(opMove (some 18) (.tmp 17) 4 "value.go:201" #[eD 6, eC 4]).op, none⟩,
 ⟨(opLoadT (.agg [(.int .i64), (.int .i64), .str]) (some 19) 24 (.tmp 4) d24 ud24 3 sz24 (by kernel_rfl) 24 "value.go:201" #[eG 7]).op, (some (7, 18, false))⟩,
 ⟨(opCallP p12 (some 20) [(.tmp 19)] #[24] 9 "value.go:201" #[eD 8, eC 7, eG 7]).op, (some (7, 18, false))⟩,
 ⟨(opMove (some 21) (.tmp 0) 9 "value.go:201" #[eG 7]).op, (some (7, 18, false))⟩,
 ⟨(opBinS (some 22) .neq 9 (.tmp 20) (.tmp 21) 9 4 "value.go:201" #[eD 9, eD 10, eG 7]).op, (some (7, 18, false))⟩,
 ⟨(opPick (some 23) (.tmp 18) (.const (Value.bool true)) (.tmp 22) 4 "value.go:201" #[eD 7, eD 11]).op, none⟩
 ] (by kernel_rfl)))
 (.cond (.tmp 23)
 (.seq (.live [2, 3] (.region 3 [
 ⟨(opBuild (some 24) 24 #[(.int .i64 0), (.int .i64 0), (.string ⟨#[]⟩)] [] ze24 (by kernel_rfl) 24 "value.go:202" #[]).op, none⟩,
 ⟨(opStore none 24 (.tmp 2) (.tmp 24) 3 sz24 0 "value.go:202" #[eD 0, eP 0]).op, none⟩,
 ⟨(opAssign (some 3) (.const (Value.bool false)) 4 "value.go:202" #[eC 1, eP 0, eP 1]).op, none⟩
 ] (by kernel_rfl)))
 (.live [2, 3] .ret))
 .skip))
 (.seq (.live [2, 3] (.region 4 [
 ⟨(opLoadT (.agg [(.int .i64), (.int .i64), .str]) (some 25) 24 (.tmp 4) d24 ud24 3 sz24 (by kernel_rfl) 24 "value.go:204" #[]).op, none⟩,
 ⟨(opStore none 24 (.tmp 2) (.tmp 25) 3 sz24 0 "value.go:204" #[eD 0, eP 0]).op, none⟩,
 ⟨(opAssign (some 3) (.const (Value.bool true)) 4 "value.go:204" #[eC 1, eP 0, eP 1]).op, none⟩
 ] (by kernel_rfl)))
 (.live [2, 3] .ret)))))

noncomputable def g10 : Fun Tryd.prog where
 id := 10
 fn := Tryd.f10
 hf := Tryd.func10
 hname := by kernel_rfl
 body := g10_b
 hbody := by kernel_rfl
 res := [rCell 2 24 d24 ud24 3 sz24, rTmp 3]
 hres := by kernel_rfl
 n := 26
 hn := by kernel_rfl

end Go.Proofs.YtcfedmheblbdnaaDoor.V

/- What the functions' runs come to; the right sides were printed by a tool, Lean checks them. -/
set_option linter.unusedVariables false
set_option maxRecDepth 100000
namespace Go.Proofs.YtcfedmheblbdnaaDoor.V
open Go Go.V Go.RowKit

theorem rd_run (F : Nat) (s : ByteArray) :
 (g10.run F [.str s] ⟨[], []⟩ : Ans) =
 branch (AV.bool (cdec (s.size ≤ 100000)))
 (branch (AV.bool !(parL (strL s)).snd)
 (some
 (Fin.ret
 (AV.tup
 [AV.agg [AV.int IntKind.i64 (0 : Int), AV.int IntKind.i64 (0 : Int), AV.str (ByteArray.mk #[])],
 AV.bool false]),
 St.mk
 [Ob.cells [AV.int IntKind.i64 (0 : Int), AV.int IntKind.i64 (0 : Int), AV.str (ByteArray.mk #[])],
 Ob.cells
 [AV.int IntKind.i64 (parL (strL s)).fst.k, AV.int IntKind.i64 (parL (strL s)).fst.n,
 AV.str (parL (strL s)).fst.s]]
 []))
 (branch
 (AV.bool
 !rightV
 (Va.mk
 (hdI
 (List.drop 0
 (setAt
 (List.map ofLitS
 #[Value.int IntKind.i64 (0 : Int), Value.int IntKind.i64 (0 : Int),
 Value.string (ByteArray.mk #[])].toList)
 0 (parL (strL s)).fst.cells)))
 (hdI
 (List.drop 0
 (setAt
 (List.map ofLitS
 #[Value.int IntKind.i64 (0 : Int), Value.int IntKind.i64 (0 : Int),
 Value.string (ByteArray.mk #[])].toList)
 0 (parL (strL s)).fst.cells)).tail)
 (hdS
 (List.drop 0
 (setAt
 (List.map ofLitS
 #[Value.int IntKind.i64 (0 : Int), Value.int IntKind.i64 (0 : Int),
 Value.string (ByteArray.mk #[])].toList)
 0 (parL (strL s)).fst.cells)).tail.tail)))
 (some
 (Fin.ret
 (AV.tup
 [AV.agg [AV.int IntKind.i64 (0 : Int), AV.int IntKind.i64 (0 : Int), AV.str (ByteArray.mk #[])],
 AV.bool false]),
 St.mk
 [Ob.cells [AV.int IntKind.i64 (0 : Int), AV.int IntKind.i64 (0 : Int), AV.str (ByteArray.mk #[])],
 Ob.cells
 [AV.int IntKind.i64 (parL (strL s)).fst.k, AV.int IntKind.i64 (parL (strL s)).fst.n,
 AV.str (parL (strL s)).fst.s]]
 []))
 (branch
 (AV.bool
 (okSh
 (Va.mk
 (hdI
 (List.drop 0
 (setAt
 (List.map ofLitS
 #[Value.int IntKind.i64 (0 : Int), Value.int IntKind.i64 (0 : Int),
 Value.string (ByteArray.mk #[])].toList)
 0 (parL (strL s)).fst.cells)))
 (hdI
 (List.drop 0
 (setAt
 (List.map ofLitS
 #[Value.int IntKind.i64 (0 : Int), Value.int IntKind.i64 (0 : Int),
 Value.string (ByteArray.mk #[])].toList)
 0 (parL (strL s)).fst.cells)).tail)
 (hdS
 (List.drop 0
 (setAt
 (List.map ofLitS
 #[Value.int IntKind.i64 (0 : Int), Value.int IntKind.i64 (0 : Int),
 Value.string (ByteArray.mk #[])].toList)
 0 (parL (strL s)).fst.cells)).tail.tail))))
 (branch
 (AV.bool
 !(showV
 (Va.mk
 (hdI
 (List.drop 0
 (setAt
 (List.map ofLitS
 #[Value.int IntKind.i64 (0 : Int), Value.int IntKind.i64 (0 : Int),
 Value.string (ByteArray.mk #[])].toList)
 0 (parL (strL s)).fst.cells)))
 (hdI
 (List.drop 0
 (setAt
 (List.map ofLitS
 #[Value.int IntKind.i64 (0 : Int), Value.int IntKind.i64 (0 : Int),
 Value.string (ByteArray.mk #[])].toList)
 0 (parL (strL s)).fst.cells)).tail)
 (hdS
 (List.drop 0
 (setAt
 (List.map ofLitS
 #[Value.int IntKind.i64 (0 : Int), Value.int IntKind.i64 (0 : Int),
 Value.string (ByteArray.mk #[])].toList)
 0 (parL (strL s)).fst.cells)).tail.tail))).toList ==
 s.toList)
 (some
 (Fin.ret
 (AV.tup
 [AV.agg [AV.int IntKind.i64 (0 : Int), AV.int IntKind.i64 (0 : Int), AV.str (ByteArray.mk #[])],
 AV.bool false]),
 St.mk
 [Ob.cells [AV.int IntKind.i64 (0 : Int), AV.int IntKind.i64 (0 : Int), AV.str (ByteArray.mk #[])],
 Ob.cells
 [AV.int IntKind.i64 (parL (strL s)).fst.k, AV.int IntKind.i64 (parL (strL s)).fst.n,
 AV.str (parL (strL s)).fst.s]]
 []))
 (some
 (Fin.ret
 (AV.tup
 [AV.agg
 [AV.int IntKind.i64 (parL (strL s)).fst.k, AV.int IntKind.i64 (parL (strL s)).fst.n,
 AV.str (parL (strL s)).fst.s],
 AV.bool true]),
 St.mk
 [Ob.cells
 [AV.int IntKind.i64 (parL (strL s)).fst.k, AV.int IntKind.i64 (parL (strL s)).fst.n,
 AV.str (parL (strL s)).fst.s],
 Ob.cells
 [AV.int IntKind.i64 (parL (strL s)).fst.k, AV.int IntKind.i64 (parL (strL s)).fst.n,
 AV.str (parL (strL s)).fst.s]]
 [])))
 none)))
 none := by kernel_rfl

end Go.Proofs.YtcfedmheblbdnaaDoor.V

/- Values: Read, as a callee. -/
set_option linter.unusedVariables false
namespace Go.Proofs.YtcfedmheblbdnaaDoor.V
open Go Go.V Go.RowKit

noncomputable def readL (s : ByteArray) : Va × Bool := if (parL (strL s)).2 = true ∧ rightV (parL (strL s)).1 = true ∧ showV (parL (strL s)).1 = s then ((parL (strL s)).1, true) else (vaZ, false)
theorem piF_rng (L : List Nat) : -9223372036854775808 ≤ (piF L).1 ∧ (piF L).1 ≤ 9223372036854775807 := by
  have hp : ∀ x, -9223372036854775808 ≤ (posF x).1 ∧ (posF x).1 ≤ 9223372036854775807 := fun x => by
    unfold posF
    split
    · exact ⟨by decide, by decide⟩
    · split
      · exact ⟨by decide, by decide⟩
      · refine ⟨?_, ?_⟩ <;> simp only <;> omega
  have hn : ∀ x, -9223372036854775808 ≤ (negF x).1 ∧ (negF x).1 ≤ 9223372036854775807 := fun x => by
    unfold negF
    split
    · exact ⟨by decide, by decide⟩
    · split
      · exact ⟨by decide, by decide⟩
      · refine ⟨?_, ?_⟩ <;> simp only <;> omega
  cases L with
  | nil => exact ⟨by decide, by decide⟩
  | cons c r =>
    rw [piF]
    split
    · exact hp _
    · split
      · exact hn _
      · exact hp _
theorem restP_rng (L : List Nat) : -9223372036854775808 ≤ (restP L).1.n ∧ (restP L).1.n ≤ 9223372036854775807 := by
  unfold restP
  split
  · exact ⟨by decide, by decide⟩
  · split
    · exact ⟨by decide, by decide⟩
    · split
      · exact ⟨by decide, by decide⟩
      · split
        · exact piF_rng L
        · exact ⟨by decide, by decide⟩
theorem parL_rng (L : List Nat) : -9223372036854775808 ≤ (parL L).1.n ∧ (parL L).1.n ≤ 9223372036854775807 := by
  cases L with
  | nil => exact restP_rng []
  | cons c r =>
    rw [parL]
    split
    · split
      · exact ⟨show (-9223372036854775808 : Int) ≤ 0 by decide, show (0 : Int) ≤ 9223372036854775807 by decide⟩
      · exact ⟨show (-9223372036854775808 : Int) ≤ 0 by decide, show (0 : Int) ≤ 9223372036854775807 by decide⟩
    · exact restP_rng _
theorem size_nil {s : ByteArray} (h : (s.toList == []) = true) : s.size = 0 := by
  rw [empty_iff, decide_eq_true_eq] at h
  rw [strL_size, h]; rfl
theorem right_size {v : Va} (h : rightV v = true) : v.s.size ≤ 16 := by
  unfold rightV at h
  cases h0 : v.k == 0 with
  | true =>
    rw [h0, cond_true, Bool.and_eq_true] at h
    rw [size_nil h.2]; omega
  | false =>
    rw [h0, cond_false] at h
    cases h1 : v.k == 1 with
    | true => rw [h1, cond_true] at h; rw [size_nil h]; omega
    | false =>
      rw [h1, cond_false] at h
      cases h2 : v.k == 2 with
      | true => rw [h2, cond_true, Bool.and_eq_true] at h; rw [size_nil h.1]; omega
      | false =>
        rw [h2, cond_false] at h
        cases h3 : v.k == 3 with
        | true =>
          rw [h3, cond_true, Bool.and_eq_true, decide_eq_true_eq] at h; omega
        | false => rw [h3] at h; simp at h
theorem okSh_right {v : Va} (h : rightV v = true) (h1 : -9223372036854775808 ≤ v.n) (h2 : v.n ≤ 9223372036854775807) : okSh v = true :=
  cdec_iff.mpr ⟨h1, h2, Nat.le_trans (right_size h) (by omega)⟩
theorem gets_of {b : Bool} {y n : Ans} {r : AV} (h : b = true) (k : ∃ st', y = some (.ret r, st')) : ∃ st', branch (.bool b) y n = some (.ret r, st') := by subst h; exact k
theorem gets_not {b : Bool} {y n : Ans} {r : AV} (h : b = false) (k : ∃ st', n = some (.ret r, st')) : ∃ st', branch (.bool b) y n = some (.ret r, st') := by subst h; exact k
theorem str_ne {a b : ByteArray} (h : a ≠ b) : (a.toList == b.toList) = false := by
  rw [beq_eq_false_iff_ne]
  intro e
  refine h (strL_inj ?_)
  rw [strL, strL, ← ByteArray.toList_eq, ← ByteArray.toList_eq, e]
theorem read_eq (s : ByteArray) (hs : s.size ≤ 100000) : ∃ st', g10.run 0 [.str s] ⟨[], []⟩ = some (.ret (vaA (readL s)), st') := by
  have hr := parL_rng (strL s)
  rw [rd_run, branch_of (cdec_iff.mpr hs), readL]
  generalize parL (strL s) = x at *
  obtain ⟨v, ok⟩ := x
  simp only at hr ⊢
  cases ok with
  | false => rw [if_neg (by simp)]; exact ⟨_, rfl⟩
  | true =>
    cases h2 : rightV v with
    | false =>
      rw [if_neg (by simp)]
      exact gets_not rfl (gets_of (show (!rightV v) = true by rw [h2]; rfl) ⟨_, rfl⟩)
    | true =>
      by_cases h3 : showV v = s
      · rw [if_pos ⟨rfl, rfl, h3⟩]
        exact gets_not rfl (gets_not (show (!rightV v) = false by rw [h2]; rfl) (gets_of (show okSh v = true from okSh_right h2 hr.1 hr.2) (gets_not (show (!((showV v).toList == s.toList)) = false by rw [h3]; simp) ⟨_, rfl⟩)))
      · rw [if_neg (by intro h; exact h3 h.2.2)]
        exact gets_not rfl (gets_not (show (!rightV v) = false by rw [h2]; rfl) (gets_of (show okSh v = true from okSh_right h2 hr.1 hr.2) (gets_of (show (!((showV v).toList == s.toList)) = true by rw [str_ne h3]; rfl) ⟨_, rfl⟩)))
noncomputable def p10 : POrc Tryd.prog := g10.seenAs dec1s (fun s => [.str s]) dec1s_enc (fun s => cdec (s.size ≤ 100000)) (fun s => vaA (readL s)) fun s h => by
  obtain ⟨st', h⟩ := read_eq s (cdec_iff.mp h)
  exact ⟨⟨trivial, trivial⟩, _, 0, _, st', va_frz _, va_scoped _, h, fun g w v hv => hv⟩
end Go.Proofs.YtcfedmheblbdnaaDoor.V

/- The functions' pieces, as told by gen.py. -/
set_option linter.unusedVariables false
set_option maxRecDepth 20000
namespace Go.Proofs.YtcfedmheblbdnaaDoor.V
open Go Go.V Go.RowKit


/-! ### 11: interlock/interlockref04.Read (9); results 2, 3; slots:  -/
end Go.Proofs.YtcfedmheblbdnaaDoor.V

/- What the functions' runs come to; the right sides were printed by a tool, Lean checks them. -/
set_option linter.unusedVariables false
set_option maxRecDepth 100000
namespace Go.Proofs.YtcfedmheblbdnaaDoor.V
open Go Go.V Go.RowKit

end Go.Proofs.YtcfedmheblbdnaaDoor.V

/- Values: the reference's Read: its loop. -/
set_option linter.unusedVariables false
namespace Go.Proofs.YtcfedmheblbdnaaDoor.V
open Go Go.V Go.RowKit

theorem at_some {s : ByteArray} {i : Nat} {x : Nat} (hx : (strL s)[i]? = some x) : atT s (i : Int) = (x : Int) ∧ inT s (i : Int) = true ∧ x < 256 := by
  have h := at_eq (s := s) rfl hx
  rw [opq_eq] at h; exact h
section
variable (F m : Nat) (K : Cont) (s : ByteArray) (i : Nat) (pre : List Nat) (hs : s.size ≤ 1000) (hi : i + 1 < s.size) (hp : pre.length ≤ 1000)
include hs hi hp
omit hp in
end
end Go.Proofs.YtcfedmheblbdnaaDoor.V

/- Values: the reference's Read, as a callee. -/
set_option linter.unusedVariables false
namespace Go.Proofs.YtcfedmheblbdnaaDoor.V
open Go Go.V Go.RowKit

end Go.Proofs.YtcfedmheblbdnaaDoor.V

/- Values: the reference's Read, as a callee (end). -/
set_option linter.unusedVariables false
namespace Go.Proofs.YtcfedmheblbdnaaDoor.V
open Go Go.V Go.RowKit

theorem gets_eq {A B : Ans} {r : AV} (h : A = B) (k : ∃ st', B = some (.ret r, st')) : ∃ st', A = some (.ret r, st') := h ▸ k
end Go.Proofs.YtcfedmheblbdnaaDoor.V

/- Values: both Reads answer alike (plain law). -/
set_option linter.unusedVariables false
namespace Go.Proofs.YtcfedmheblbdnaaDoor.V
open Go Go.V Go.RowKit

theorem nil_of_toList {s : ByteArray} (h : (s.toList == []) = true) : s = ByteArray.mk #[] := by
  rw [empty_iff, decide_eq_true_eq] at h
  exact strL_inj (h.trans rfl)
/-- The four kinds of right values. -/
theorem right_kinds {v : Va} (h : rightV v = true) : v = vaZ ∨ v = ⟨1, v.n, ByteArray.mk #[]⟩ ∨ v = ⟨2, 0, ByteArray.mk #[]⟩ ∨ v = ⟨2, 1, ByteArray.mk #[]⟩ ∨ v = ⟨3, 0, v.s⟩ := by
  obtain ⟨k, n, s⟩ := v
  unfold rightV at h
  simp only at h ⊢
  cases h0 : k == 0 with
  | true =>
    rw [h0, cond_true, Bool.and_eq_true] at h
    left
    rw [beq_iff_eq] at h0
    rw [vaZ, h0, beq_iff_eq.mp h.1, nil_of_toList h.2]
  | false =>
    rw [h0, cond_false] at h
    cases h1 : k == 1 with
    | true => rw [h1, cond_true] at h; rw [beq_iff_eq] at h1; right; left; rw [h1, nil_of_toList h]
    | false =>
      rw [h1, cond_false] at h
      cases h2 : k == 2 with
      | true =>
        rw [h2, cond_true, Bool.and_eq_true, Bool.or_eq_true] at h
        rw [beq_iff_eq] at h2
        right; right
        rcases h.2 with h3 | h3
        · left; rw [h2, beq_iff_eq.mp h3, nil_of_toList h.1]
        · right; left; rw [h2, beq_iff_eq.mp h3, nil_of_toList h.1]
      | false =>
        rw [h2, cond_false] at h
        cases h3 : k == 3 with
        | true =>
          rw [h3, cond_true, Bool.and_eq_true, beq_iff_eq] at h
          rw [beq_iff_eq] at h3
          right; right; right; right; rw [h3, h.1]
        | false => rw [h3] at h; simp at h
theorem qtL_lt (s : ByteArray) : ∀ b ∈ qtL (strL s), b < 256 := by
  intro b hb
  rcases List.mem_cons.mp hb with rfl | hb
  · omega
  · rcases List.mem_append.mp hb with hb | hb
    · obtain ⟨x, hx, hb⟩ := List.mem_flatMap.mp hb
      exact encQ_lt (strL_lt _ _ hx) b hb
    · simp at hb; omega
theorem numL_head {i : Int} (h1 : -9223372036854775808 ≤ i) (h2 : i ≤ 9223372036854775807) : (∃ c r, numL i = c :: r ∧ (c = 45 ∨ 48 ≤ c ∧ c ≤ 57)) ∧ (numL i).length ≤ 20 ∧ ∀ b ∈ numL i, b < 256 := by
  have dl : ∀ U : Nat, U ≤ 9223372036854775808 → (dec U).length ≤ 19 ∧ ∀ b ∈ dec U, b < 256 := by
    intro U hU
    unfold dec
    by_cases hz : U = 0
    · subst hz; simp
    · obtain ⟨k1, k2, k3, k4⟩ := ndN_spec hz (by omega)
      rw [if_neg hz]
      refine ⟨?_, ?_⟩
      · rw [digs, List.length_map, List.length_range]
        rcases Nat.lt_or_ge (ndN U) 20 with h | h
        · omega
        · exfalso
          have : (10 : Nat) ^ 19 ≤ 10 ^ (ndN U - 1) := Nat.pow_le_pow_right (by omega) (by omega)
          have h19 : (10 : Nat) ^ 19 = 10000000000000000000 := by decide
          omega
      · intro b hb
        obtain ⟨j, _, rfl⟩ := List.mem_map.mp hb
        omega
  unfold numL
  by_cases hn : i < 0
  · rw [if_pos hn]
    obtain ⟨d1, d2⟩ := dl (-i).toNat (by omega)
    refine ⟨⟨45, _, rfl, .inl rfl⟩, by rw [List.length_cons]; omega, fun b hb => ?_⟩
    rcases List.mem_cons.mp hb with rfl | hb
    · omega
    · exact d2 b hb
  · rw [if_neg hn]
    obtain ⟨d1, d2⟩ := dl i.toNat (by omega)
    obtain ⟨_, c, r, e, hc⟩ := dec_puL (U := i.toNat) (by omega)
    exact ⟨⟨c, r, e, .inr hc⟩, by omega, d2⟩
theorem par_num {i : Int} (h1 : -9223372036854775808 ≤ i) (h2 : i ≤ 9223372036854775807) : parL (numL i) = (⟨1, i, ByteArray.mk #[]⟩, true) := by
  obtain ⟨⟨c, r, e, hc⟩, _, _⟩ := numL_head h1 h2
  have hp := piF_num h1 h2
  rw [e] at hp ⊢
  rw [parL, if_neg (by omega), restP, if_neg (by intro h; have := (List.cons.inj h).1; omega), if_neg (by intro h; have := (List.cons.inj h).1; omega), if_neg (by intro h; have := (List.cons.inj h).1; omega), hp, if_pos rfl]
theorem flat_take (l : List Nat) : (l ++ [34]).take ((l ++ [34]).length - 1) = l ∧ (l ++ [34]).drop ((l ++ [34]).length - 1) = [34] := by
  have : (l ++ [34]).length - 1 = l.length := by simp
  rw [this]
  exact ⟨List.take_left, List.drop_left⟩
theorem par_qt (s : ByteArray) : parL (qtL (strL s)) = (⟨3, 0, s⟩, true) := by
  obtain ⟨t1, t2⟩ := flat_take ((strL s).flatMap encQ)
  rw [qtL, parL, if_pos rfl, t1, t2, if_pos rfl, unqB, unqL_enc (strL_lt s)]
  simp only [strB_strL, Option.isSome_some]
theorem strL_num {i : Int} (h1 : -9223372036854775808 ≤ i) (h2 : i ≤ 9223372036854775807) : strL (showI i) = numL i := strL_txt (numL_head h1 h2).2.2
theorem emp : ((ByteArray.mk #[]).toList == []) = true := by rw [empty_iff]; rfl
theorem right_0 : rightV vaZ = true := by simp only [rightV, vaZ, emp]; rfl
theorem right_1 (i : Int) : rightV ⟨1, i, ByteArray.mk #[]⟩ = true := by simp only [rightV, emp]; rfl
theorem right_f : rightV ⟨2, 0, ByteArray.mk #[]⟩ = true := by simp only [rightV, emp]; rfl
theorem right_t : rightV ⟨2, 1, ByteArray.mk #[]⟩ = true := by simp only [rightV, emp]; rfl
theorem show_0 : showV vaZ = wnull := by rw [showV, right_0]; rfl
theorem show_f : showV ⟨2, 0, ByteArray.mk #[]⟩ = wfalse := by rw [showV, right_f]; rfl
theorem show_t : showV ⟨2, 1, ByteArray.mk #[]⟩ = wtrue := by rw [showV, right_t]; rfl
theorem show_1 (i : Int) : showV ⟨1, i, ByteArray.mk #[]⟩ = showI i := by rw [showV, right_1]; rfl
theorem show_3 {s : ByteArray} (h : rightV ⟨3, 0, s⟩ = true) : showV ⟨3, 0, s⟩ = strB (qtL (strL s)) := by
  rw [showV, h]; rfl
theorem strL_qt (s : ByteArray) : strL (strB (qtL (strL s))) = qtL (strL s) := strL_strB (qtL_lt s)
theorem wnull_L : strL wnull = lNull := by decide
theorem wtrue_L : strL wtrue = lTrue := by decide
theorem wfalse_L : strL wfalse = lFalse := by decide
theorem par_show {v : Va} (h : rightV v = true) (h1 : -9223372036854775808 ≤ v.n) (h2 : v.n ≤ 9223372036854775807) : parL (strL (showV v)) = (v, true) := by
  rcases right_kinds h with e | e | e | e | e
  · rw [e, show_0, wnull_L]; rfl
  · rw [e, show_1, strL_num h1 h2, par_num h1 h2]
  · rw [e, show_f, wfalse_L]; rfl
  · rw [e, show_t, wtrue_L]; rfl
  · rw [e] at h ⊢; rw [show_3 h, strL_qt, par_qt]
end Go.Proofs.YtcfedmheblbdnaaDoor.V

/- The functions' pieces, as told by gen.py. -/
set_option linter.unusedVariables false
set_option maxRecDepth 20000
namespace Go.Proofs.YtcfedmheblbdnaaDoor.V
open Go Go.V Go.RowKit


/-! ### 4: interlock/interlocklaw04.ValueShown (24, 24); results 4; slots: 0 a, 1 b, 2 a, 3 b, 5 x, 6 y, 7 i, 8 _, 9 ok -/
/-- A loop's round; at its head live: 2 a, 3 b, 5 x, 6 y, 7 i -/
noncomputable def f4_l0 : Sim Tryd.prog :=
 (.seq (.seq (.live [2, 3, 5, 6, 7, 29] (.region 8 [
 ⟨(opMove (some 26) (.tmp 7) 3 "law.go:145" #[]).op, none⟩,
 ⟨(opMove (some 27) (.tmp 5) 9 "law.go:145" #[]).op, none⟩,
 ⟨(opLen (some 28) (.tmp 27) 9 .string Tryd.underlying9 3 "law.go:145" #[eD 1]).op, none⟩,
 ⟨(opBin (some 29) .lss 3 (.tmp 26) (.tmp 28) 3 4 "law.go:145" #[eD 0, eD 2]).op, none⟩
 ] (by kernel_rfl)))
 (.cond (.tmp 29)
 .skip
 (.live [2, 3, 5, 6] (.exit 0))))
 (.seq (.block 1 (.seq (.live [2, 3, 5, 6, 7, 41] (.region 10 [
 ⟨(opMove (some 32) (.tmp 5) 9 "law.go:146" #[]).op, none⟩,
 ⟨(opMove (some 33) (.tmp 7) 3 "law.go:146" #[]).op, none⟩,
 ⟨(opIndexStrW (some 34) 9 (.tmp 32) (.tmp 33) Tryd.underlying9 5 "law.go:146" #[eD 0, eD 1]).op, none⟩,
 ⟨(opBin (some 35) .lss 5 (.tmp 34) (.const (Value.int IntKind.u8 32)) 5 4 "law.go:146" #[eD 2]).op, none⟩,
 ⟨(opMove (some 36) (.tmp 35) 4 "law.go:146" #[eD 3]).op, none⟩,
 ⟨(opMove (some 37) (.tmp 5) 9 "law.go:146" #[eG 4]).op, (some (4, 36, false))⟩,
 ⟨(opMove (some 38) (.tmp 7) 3 "law.go:146" #[eG 4]).op, (some (4, 36, false))⟩,
 ⟨(opIndexStrW (some 39) 9 (.tmp 37) (.tmp 38) Tryd.underlying9 5 "law.go:146" #[eD 5, eD 6, eG 4]).op, (some (4, 36, false))⟩,
 ⟨(opBin (some 40) .gtr 5 (.tmp 39) (.const (Value.int IntKind.u8 126)) 5 4 "law.go:146" #[eD 7, eG 4]).op, (some (4, 36, false))⟩,
 ⟨(opPick (some 41) (.tmp 36) (.const (Value.bool true)) (.tmp 40) 4 "law.go:146" #[eD 4, eD 8]).op, none⟩
 ] (by kernel_rfl)))
 (.cond (.tmp 41)
 (.seq (.live [4] (.region 11 [
 ⟨(opAssign (some 4) (.const (Value.bool false)) 4 "law.go:147" #[]).op, none⟩
 ] (by kernel_rfl)))
 (.live [4] .ret))
 .skip)))
 (.live [2, 3, 5, 6, 7] (.region 9 [
 ⟨(opMove (some 30) (.tmp 7) 3 "law.go:145" #[]).op, none⟩,
 ⟨(opBin (some 31) .add 3 (.tmp 30) (.const (Value.int IntKind.i64 1)) 3 3 "law.go:145" #[eD 0]).op, none⟩,
 ⟨(opAssign (some 7) (.tmp 31) 3 "law.go:145" #[eD 1, eP 0, eP 1]).op, none⟩
 ] (by kernel_rfl)))))

/-- What follows a loop. -/
noncomputable def f4_r0 : Sim Tryd.prog :=
 (.seq (.live [2, 3, 5, 6, 9] (.region 12 [
 ⟨(opMove (some 43) (.tmp 5) 9 "law.go:150" #[]).op, none⟩,
 ⟨(opCallP p10 (some 44) [(.tmp 43)] #[9] 25 "law.go:150" #[eD 0]).op, none⟩,
 ⟨(opMove (some 42) (.tmp 44) 25 "law.go:150" #[eD 1]).op, none⟩,
 ⟨(opExtract (some 45) (.tmp 42) 0 24 "law.go:150" #[eD 2]).op, none⟩,
 ⟨(opExtract (some 46) (.tmp 42) 1 4 "law.go:150" #[eD 2, { on := 6, ground := (Ground.gcOnly Departure.lateStores) }]).op, none⟩,
 ⟨(opAlloc (some 8) 24 (.agg #[(.int .i64 0), (.int .i64 0), (.string ⟨#[]⟩)]) ze24 0 "law.go:150" #[]).op, none⟩,
 ⟨(opStore none 24 (.tmp 8) (.tmp 45) 3 sz24 0 "law.go:150" #[eD 5, eD 3, eC 1, eP 0, eP 1, eP 2, eP 3, { on := 4, ground := (Ground.textOnly Departure.lateStores) }, eP 5]).op, none⟩,
 ⟨(opAssign (some 9) (.tmp 46) 4 "law.go:150" #[eD 4, eC 6, eP 0, eP 1, eP 2, eP 3, eP 4, eP 5, eP 6]).op, none⟩
 ] (by kernel_rfl)))
 (.seq (.seq (.live [2, 3, 5, 6, 50] (.region 13 [
 ⟨(opMove (some 47) (.tmp 9) 4 "law.go:151" #[]).op, none⟩,
 ⟨(opLoadT (.agg [(.int .i64), (.int .i64), .str]) (some 48) 24 (.tmp 2) d24 ud24 3 sz24 (by kernel_rfl) 24 "law.go:151" #[]).op, none⟩,
 ⟨(opCallP p13 (some 49) [(.tmp 48)] #[24] 4 "law.go:151" #[eD 1]).op, none⟩,
 ⟨(opNe (some 50) 4 .bool Tryd.underlying4 (.tmp 47) (.tmp 49) (.inr rfl) 4 4 "law.go:151" #[eD 0, eD 2]).op, none⟩
 ] (by kernel_rfl)))
 (.cond (.tmp 50)
 (.seq (.live [4] (.region 14 [
 ⟨(opAssign (some 4) (.const (Value.bool false)) 4 "law.go:152" #[]).op, none⟩
 ] (by kernel_rfl)))
 (.live [4] .ret))
 .skip))
 (.seq (.live [4] (.region 15 [
 ⟨(opLoadT (.agg [(.int .i64), (.int .i64), .str]) (some 51) 24 (.tmp 2) d24 ud24 3 sz24 (by kernel_rfl) 24 "law.go:154" #[]).op, none⟩,
 ⟨(opCallP p13 (some 52) [(.tmp 51)] #[24] 4 "law.go:154" #[eD 0]).op, none⟩,
 ⟨(opNot (some 53) 4 (.tmp 52) 4 "law.go:154" #[eD 1]).op, none⟩,
 ⟨(opMove (some 54) (.tmp 53) 4 "law.go:154" #[eD 2, eC 1]).op, none⟩,
 ⟨(opLoadT (.agg [(.int .i64), (.int .i64), .str]) (some 55) 24 (.tmp 3) d24 ud24 3 sz24 (by kernel_rfl) 24 "law.go:154" #[eG 3]).op, (some (3, 54, false))⟩,
 ⟨(opCallP p13 (some 56) [(.tmp 55)] #[24] 4 "law.go:154" #[eD 4, eC 3, eG 3]).op, (some (3, 54, false))⟩,
 ⟨(opNot (some 57) 4 (.tmp 56) 4 "law.go:154" #[eD 5, eG 3]).op, (some (3, 54, false))⟩,
 ⟨(opPick (some 58) (.tmp 54) (.const (Value.bool true)) (.tmp 57) 4 "law.go:154" #[eD 3, eD 6]).op, none⟩,
 ⟨(opMove (some 59) (.tmp 58) 4 "law.go:154" #[eD 7, eC 5]).op, none⟩,
 ⟨(opMove (some 60) (.tmp 5) 9 "law.go:154" #[eG 8]).op, (some (8, 59, false))⟩,
 ⟨(opMove (some 61) (.tmp 6) 9 "law.go:154" #[eG 8]).op, (some (8, 59, false))⟩,
 ⟨(opBinS (some 62) .eql 9 (.tmp 60) (.tmp 61) 9 4 "law.go:154" #[eD 9, eD 10, eG 8]).op, (some (8, 59, false))⟩,
 ⟨(opLoadT (.agg [(.int .i64), (.int .i64), .str]) (some 63) 24 (.tmp 2) d24 ud24 3 sz24 (by kernel_rfl) 24 "law.go:154" #[eG 8]).op, (some (8, 59, false))⟩,
 ⟨(opLoadT (.agg [(.int .i64), (.int .i64), .str]) (some 64) 24 (.tmp 3) d24 ud24 3 sz24 (by kernel_rfl) 24 "law.go:154" #[eG 8]).op, (some (8, 59, false))⟩,
 ⟨(opEqS (some 65) 24 [(0, 0), (1, 0), (2, 2)] eq24 (.tmp 63) (.tmp 64) 24 4 "law.go:154" #[eD 12, eD 13, eG 8]).op, (some (8, 59, false))⟩,
 ⟨(opEq (some 66) 4 .bool Tryd.underlying4 (.tmp 62) (.tmp 65) (.inr rfl) 4 4 "law.go:154" #[eD 11, eD 14, eG 8]).op, (some (8, 59, false))⟩,
 ⟨(opPick (some 67) (.tmp 59) (.const (Value.bool true)) (.tmp 66) 4 "law.go:154" #[eD 8, eD 15]).op, none⟩,
 ⟨(opAssign (some 4) (.tmp 67) 4 "law.go:154" #[eD 16, eC 8, eP 0, eP 1, eP 2, eP 3, eP 4, eP 5, eP 6, eP 7, eP 8, eP 9, eP 10, eP 11, eP 12, eP 13, eP 14, eP 15, eP 16]).op, none⟩
 ] (by kernel_rfl)))
 (.live [4] .ret))))

noncomputable def f4_b : Sim Tryd.prog :=
 (.seq (.live [2, 3] (.region 0 [
 ⟨(opBoxF (some 2) 24 (.tmp 0) 0 "law.go:136" #[]).op, none⟩,
 ⟨(opBoxF (some 3) 24 (.tmp 1) 0 "law.go:136" #[]).op, none⟩,
 ⟨(opAssign (some 4) (.const (Value.bool false)) 4 "law.go:136" #[]).op, none⟩
 ] (by kernel_rfl)))
 (.seq (.seq (.live [2, 3, 11] (.region 1 [
 ⟨(opCallP p9 (some 10) [] #[] 4 "law.go:137" #[]).op, none⟩,
 ⟨(opNot (some 11) 4 (.tmp 10) 4 "law.go:137" #[eD 0]).op, none⟩
 ] (by kernel_rfl)))
 (.cond (.tmp 11)
 (.seq (.live [4] (.region 2 [
 ⟨(opAssign (some 4) (.const (Value.bool false)) 4 "law.go:138" #[]).op, none⟩
 ] (by kernel_rfl)))
 (.live [4] .ret))
 .skip))
 (.seq (.seq (.live [2, 3, 21] (.region 3 [
 ⟨(opFieldAddr (some 12) 24 (.tmp 2) 2 2 1 false fl24_2 (by decide) 0 "law.go:140" #[]).op, none⟩,
 ⟨(opLoadT (.one .str) (some 13) 9 (.tmp 12) .string Tryd.underlying9 1 sz9 (by kernel_rfl) 9 "law.go:140" #[eD 0]).op, none⟩,
 ⟨(opLen (some 14) (.tmp 13) 9 .string Tryd.underlying9 3 "law.go:140" #[eD 1]).op, none⟩,
 ⟨(opBin (some 15) .gtr 3 (.tmp 14) (.const (Value.int IntKind.i64 500)) 3 4 "law.go:140" #[eD 2]).op, none⟩,
 ⟨(opMove (some 16) (.tmp 15) 4 "law.go:140" #[eD 3]).op, none⟩,
 ⟨(opFieldAddr (some 17) 24 (.tmp 3) 2 2 1 false fl24_2 (by decide) 0 "law.go:140" #[eG 4]).op, (some (4, 16, false))⟩,
 ⟨(opLoadT (.one .str) (some 18) 9 (.tmp 17) .string Tryd.underlying9 1 sz9 (by kernel_rfl) 9 "law.go:140" #[eD 5, eG 4]).op, (some (4, 16, false))⟩,
 ⟨(opLen (some 19) (.tmp 18) 9 .string Tryd.underlying9 3 "law.go:140" #[eD 6, eG 4]).op, (some (4, 16, false))⟩,
 ⟨(opBin (some 20) .gtr 3 (.tmp 19) (.const (Value.int IntKind.i64 500)) 3 4 "law.go:140" #[eD 7, eG 4]).op, (some (4, 16, false))⟩,
 ⟨(opPick (some 21) (.tmp 16) (.const (Value.bool true)) (.tmp 20) 4 "law.go:140" #[eD 4, eD 8]).op, none⟩
 ] (by kernel_rfl)))
 (.cond (.tmp 21)
 (.seq (.live [4] (.region 4 [
 ⟨(opAssign (some 4) (.const (Value.bool true)) 4 "law.go:141" #[]).op, none⟩
 ] (by kernel_rfl)))
 (.live [4] .ret))
 .skip))
 (.seq (.live [2, 3, 5] (.region 5 [
 ⟨(opLoadT (.agg [(.int .i64), (.int .i64), .str]) (some 22) 24 (.tmp 2) d24 ud24 3 sz24 (by kernel_rfl) 24 "law.go:143" #[]).op, none⟩,
 ⟨(opCallP p12 (some 23) [(.tmp 22)] #[24] 9 "law.go:143" #[eD 0]).op, none⟩,
 ⟨(opAssign (some 5) (.tmp 23) 9 "law.go:143" #[eD 1, eC 1, eP 0, eP 1]).op, none⟩
 ] (by kernel_rfl)))
 (.seq (.live [2, 3, 5, 6] (.region 6 [
 ⟨(opLoadT (.agg [(.int .i64), (.int .i64), .str]) (some 24) 24 (.tmp 3) d24 ud24 3 sz24 (by kernel_rfl) 24 "law.go:144" #[]).op, none⟩,
 ⟨(opCallP p12 (some 25) [(.tmp 24)] #[24] 9 "law.go:144" #[eD 0]).op, none⟩,
 ⟨(opAssign (some 6) (.tmp 25) 9 "law.go:144" #[eD 1, eC 1, eP 0, eP 1]).op, none⟩
 ] (by kernel_rfl)))
 (.seq (.seq (.live [2, 3, 5, 6, 7] (.region 7 [
 ⟨(opAssign (some 7) (.const (Value.int IntKind.i64 0)) 3 "law.go:145" #[]).op, none⟩
 ] (by kernel_rfl)))
 (.block 0 (.loop [2, 3, 5, 6, 7] f4_l0)))
 f4_r0))))))

noncomputable def f4 : Fun Tryd.prog where
 id := 4
 fn := Tryd.f4
 hf := Tryd.func4
 hname := by kernel_rfl
 body := f4_b
 hbody := by kernel_rfl
 res := [rTmp 4]
 hres := by kernel_rfl
 n := 68
 hn := by kernel_rfl

end Go.Proofs.YtcfedmheblbdnaaDoor.V

/- What the functions' runs come to; the right sides were printed by a tool, Lean checks them. -/
set_option linter.unusedVariables false
set_option maxRecDepth 100000
namespace Go.Proofs.YtcfedmheblbdnaaDoor.V
open Go Go.V Go.RowKit

theorem sh_run (F : Nat) (a b : Va) :
 (f4.run F [a.av, b.av] ⟨[], []⟩ : Ans) =
 branch (AV.bool (decide ((↑a.s.size : Int) > (500 : Int)))) (some (Fin.ret (AV.bool true), St.mk [] []))
 (branch (AV.bool (decide ((↑b.s.size : Int) > (500 : Int)))) (some (Fin.ret (AV.bool true), St.mk [] []))
 (branch (AV.bool (okSh (Va.mk (hdI a.cells) (hdI a.cells.tail) (hdS a.cells.tail.tail))))
 (branch (AV.bool (okSh (Va.mk (hdI b.cells) (hdI b.cells.tail) (hdS b.cells.tail.tail))))
 (loopRun (f4_l0.run F) [2, 3, 5, 6, 7]
 (Cont.block 0 (Cont.then (f4_r0.run F (f4.leaveK Fun.done)) (f4.leaveK Fun.done))) F
 (Env.mk 68
 [(2, AV.eptr [AV.int IntKind.i64 a.k, AV.int IntKind.i64 a.n, AV.str a.s]),
 (3, AV.eptr [AV.int IntKind.i64 b.k, AV.int IntKind.i64 b.n, AV.str b.s]),
 (5, AV.str (showV (Va.mk (hdI a.cells) (hdI a.cells.tail) (hdS a.cells.tail.tail)))),
 (6, AV.str (showV (Va.mk (hdI b.cells) (hdI b.cells.tail) (hdS b.cells.tail.tail)))),
 (7, AV.int IntKind.i64 (0 : Int))])
 (St.mk [] []))
 none)
 none)) := by kernel_rfl

theorem sh_round (F m : Nat) (K : Cont) (u v : AV) (x y : ByteArray) (i : Int) :
 (loopRun (f4_l0.run F) [2, 3, 5, 6, 7] K m.succ (Env.mk 68 [(2, u), (3, v), (5, .str x), (6, .str y), (7, .int .i64 i)]) ⟨[], []⟩ : Ans) =
 branch (AV.bool (decide (i < (↑x.size : Int))))
 (branch (AV.bool (inT x i))
 (branch (AV.bool (decide (atT x i < (32 : Int))))
 (K AX.ret (Env.mk 68 [(4, AV.bool false)]) (St.mk [] []))
 (branch (AV.bool (inT x i))
 (branch (AV.bool (decide (atT x i > (126 : Int))))
 (K AX.ret (Env.mk 68 [(4, AV.bool false)]) (St.mk [] []))
 (loopRun (f4_l0.run F) [2, 3, 5, 6, 7] K m
 (Env.mk 68
 [(2, u), (3, v), (5, AV.str x), (6, AV.str y),
 (7, AV.int IntKind.i64 (IntKind.i64.wrap (i + (1 : Int))))])
 (St.mk [] [])))
 none))
 none)
 (K (AX.exit 0)
 (Env.mk 68 [(2, u), (3, v), (5, AV.str x), (6, AV.str y)]) (St.mk [] [])) := by kernel_rfl

theorem sh_end (F : Nat) (a b : Va) (x y : ByteArray) :
 ((Cont.block 0 (Cont.then (f4_r0.run F (f4.leaveK Fun.done)) (f4.leaveK Fun.done))) (.exit 0) (Env.mk 68 [(2, AV.eptr [AV.int IntKind.i64 a.k, AV.int IntKind.i64 a.n, AV.str a.s]), (3, AV.eptr [AV.int IntKind.i64 b.k, AV.int IntKind.i64 b.n, AV.str b.s]), (5, .str x), (6, .str y)]) ⟨[], []⟩ : Ans) =
 branch (AV.bool (cdec (x.size ≤ 100000)))
 (branch
 (AV.bool
 !(readL x).snd ==
 rightV
 (Va.mk (hdI [AV.int IntKind.i64 a.k, AV.int IntKind.i64 a.n, AV.str a.s])
 (hdI [AV.int IntKind.i64 a.k, AV.int IntKind.i64 a.n, AV.str a.s].tail)
 (hdS [AV.int IntKind.i64 a.k, AV.int IntKind.i64 a.n, AV.str a.s].tail.tail)))
 (some
 (Fin.ret (AV.bool false),
 St.mk
 [Ob.cells [AV.int IntKind.i64 (readL x).fst.k, AV.int IntKind.i64 (readL x).fst.n, AV.str (readL x).fst.s]]
 []))
 (branch
 (AV.bool
 !rightV
 (Va.mk (hdI [AV.int IntKind.i64 a.k, AV.int IntKind.i64 a.n, AV.str a.s])
 (hdI [AV.int IntKind.i64 a.k, AV.int IntKind.i64 a.n, AV.str a.s].tail)
 (hdS [AV.int IntKind.i64 a.k, AV.int IntKind.i64 a.n, AV.str a.s].tail.tail)))
 (some
 (Fin.ret (AV.bool true),
 St.mk
 [Ob.cells [AV.int IntKind.i64 (readL x).fst.k, AV.int IntKind.i64 (readL x).fst.n, AV.str (readL x).fst.s]]
 []))
 (branch
 (AV.bool
 !rightV
 (Va.mk (hdI [AV.int IntKind.i64 b.k, AV.int IntKind.i64 b.n, AV.str b.s])
 (hdI [AV.int IntKind.i64 b.k, AV.int IntKind.i64 b.n, AV.str b.s].tail)
 (hdS [AV.int IntKind.i64 b.k, AV.int IntKind.i64 b.n, AV.str b.s].tail.tail)))
 (some
 (Fin.ret (AV.bool true),
 St.mk
 [Ob.cells
 [AV.int IntKind.i64 (readL x).fst.k, AV.int IntKind.i64 (readL x).fst.n, AV.str (readL x).fst.s]]
 []))
 (some
 (Fin.ret
 (AV.bool ((x.toList == y.toList) == (a.k == b.k && (a.n == b.n && (a.s.toList == b.s.toList && true))))),
 St.mk
 [Ob.cells
 [AV.int IntKind.i64 (readL x).fst.k, AV.int IntKind.i64 (readL x).fst.n, AV.str (readL x).fst.s]]
 [])))))
 none := by kernel_rfl

end Go.Proofs.YtcfedmheblbdnaaDoor.V

/- Values: ValueShown is true. -/
set_option linter.unusedVariables false
namespace Go.Proofs.YtcfedmheblbdnaaDoor.V
open Go Go.V Go.RowKit

theorem numL_chars {i : Int} : ∀ b ∈ numL i, b = 45 ∨ 48 ≤ b ∧ b ≤ 57 := by
  have dl : ∀ U : Nat, ∀ b ∈ dec U, 48 ≤ b ∧ b ≤ 57 := by
    intro U b hb
    unfold dec at hb
    split at hb
    · simp at hb; omega
    · obtain ⟨j, _, rfl⟩ := List.mem_map.mp hb
      omega
  intro b hb
  unfold numL at hb
  split at hb
  · rcases List.mem_cons.mp hb with h | h
    · exact .inl h
    · exact .inr (dl _ b h)
  · exact .inr (dl _ b hb)
theorem hexD_chars {n : Nat} (h : n < 16) : 32 ≤ hexD n ∧ hexD n ≤ 126 := by
  unfold hexD
  cases h1 : Nat.blt n 10
  · rw [cond_false]; omega
  · rw [cond_true]; rw [Nat.blt_eq] at h1; omega
theorem encQ_chars {x : Nat} (hx : x < 256) : ∀ b ∈ encQ x, 32 ≤ b ∧ b ≤ 126 := by
  intro b hb
  cases he : escB x with
  | true =>
    rw [encQ_esc he] at hb
    rcases List.mem_cons.mp hb with h | hb
    · omega
    · rcases List.mem_cons.mp hb with h | hb
      · rw [h]; exact hexD_chars (by omega)
      · simp at hb; rw [hb]; exact hexD_chars (by omega)
  | false =>
    rw [encQ_plain he] at hb
    simp at hb
    subst hb
    rw [escB_eq] at he
    simp only [Bool.or_eq_false_iff, decide_eq_false_iff_not] at he
    omega
theorem show_len {v : Va} (h : rightV v = true) (h1 : -9223372036854775808 ≤ v.n) (h2 : v.n ≤ 9223372036854775807) : (strL (showV v)).length ≤ 50 := by
  have hsz := right_size h
  rcases right_kinds h with e | e | e | e | e
  · rw [e, show_0, wnull_L]; decide
  · rw [e, show_1, strL_num h1 h2]; have := (numL_head h1 h2).2.1; omega
  · rw [e, show_f, wfalse_L]; decide
  · rw [e, show_t, wtrue_L]; decide
  · rw [e] at h ⊢
    rw [show_3 h, strL_qt, qtL, List.length_cons, List.length_append]
    have := flat_encQ_len (strL v.s)
    have hs := strL_size v.s
    simp only [List.length_cons, List.length_nil]; omega
theorem show_wrong {v : Va} (h : ¬ rightV v = true) : showV v = wq := by
  rw [showV]
  cases hx : rightV v with
  | true => exact absurd hx h
  | false => rfl
theorem wq_L : strL wq = [63] := by decide
theorem show_all {v : Va} (h1 : -9223372036854775808 ≤ v.n) (h2 : v.n ≤ 9223372036854775807) : (strL (showV v)).length ≤ 50 ∧ ∀ b ∈ strL (showV v), 32 ≤ b ∧ b ≤ 126 := by
  by_cases h : rightV v = true
  · refine ⟨show_len h h1 h2, ?_⟩
    rcases right_kinds h with e | e | e | e | e
    · rw [e, show_0, wnull_L]; decide
    · rw [e, show_1, strL_num h1 h2]; intro b hb; have := numL_chars b hb; omega
    · rw [e, show_f, wfalse_L]; decide
    · rw [e, show_t, wtrue_L]; decide
    · rw [e] at h ⊢
      rw [show_3 h, strL_qt]
      intro b hb
      rcases List.mem_cons.mp hb with h | hb
      · omega
      · rcases List.mem_append.mp hb with hb | hb
        · obtain ⟨x, hx, hb⟩ := List.mem_flatMap.mp hb
          exact encQ_chars (strL_lt _ _ hx) b hb
        · simp at hb; omega
  · rw [show_wrong h, wq_L]; exact ⟨by decide, by decide⟩
theorem read_show {v : Va} (h : rightV v = true) (h1 : -9223372036854775808 ≤ v.n) (h2 : v.n ≤ 9223372036854775807) : readL (showV v) = (v, true) := by
  rw [readL, par_show h h1 h2, if_pos ⟨rfl, h, rfl⟩]
theorem read_wq : (readL wq).2 = false := by
  have : parL [63] = (vaZ, false) := rfl
  rw [readL, wq_L, this, if_neg (by simp)]
theorem sh_loop (F : Nat) (K : Cont) (u v : AV) (x y : ByteArray) (hl : (strL x).length ≤ 50) (hx : ∀ b ∈ strL x, 32 ≤ b ∧ b ≤ 126) : ∀ (k i m : Nat), i + k = (strL x).length → k < m →
    loopRun (f4_l0.run F) [2, 3, 5, 6, 7] K m (Env.mk 68 [(2, u), (3, v), (5, .str x), (6, .str y), (7, .int .i64 (i : Int))]) ⟨[], []⟩ = K (.exit 0) (Env.mk 68 [(2, u), (3, v), (5, .str x), (6, .str y)]) ⟨[], []⟩
  | k, i, 0, _, h => by omega
  | 0, i, m + 1, h, _ => by
    have hsz := strL_size x
    rw [show m + 1 = m.succ from rfl, sh_round, branch_not (decide_eq_false (by omega))]
  | k + 1, i, m + 1, h, hm => by
    have hsz := strL_size x
    have hiL : i < (strL x).length := by omega
    obtain ⟨e1, e2, _⟩ := at_some (List.getElem?_eq_getElem hiL)
    have hc := hx _ (List.getElem_mem hiL)
    generalize (strL x)[i] = c at *
    have hw : IntKind.i64.wrap ((i : Int) + 1) = ((i + 1 : Nat) : Int) := by rw [wrapS (by omega) (by omega)]; omega
    rw [show m + 1 = m.succ from rfl, sh_round, branch_of (decide_eq_true (by omega)), branch_of e2, e1, branch_not (decide_eq_false (by omega)), branch_of e2, branch_not (decide_eq_false (by omega)), hw]
    exact sh_loop F K u v x y hl hx k (i + 1) m (by omega) (by omega)
theorem va_eqb (a b : Va) : (a.k == b.k && (a.n == b.n && (a.s.toList == b.s.toList && true))) = true ↔ a = b := by
  obtain ⟨k, n, s⟩ := a
  obtain ⟨k', n', s'⟩ := b
  simp only [Bool.and_eq_true, beq_iff_eq, Bool.and_true, Va.mk.injEq]
  refine ⟨fun ⟨h1, h2, h3⟩ => ⟨h1, h2, strL_inj ?_⟩, fun ⟨h1, h2, h3⟩ => ⟨h1, h2, by rw [h3]⟩⟩
  rw [strL, strL, ← ByteArray.toList_eq, ← ByteArray.toList_eq, h3]
theorem shown_true (a b : Va) (a1 : -9223372036854775808 ≤ a.n) (a2 : a.n ≤ 9223372036854775807) (b1 : -9223372036854775808 ≤ b.n) (b2 : b.n ≤ 9223372036854775807) : ∃ st, f4.run 60 [a.av, b.av] ⟨[], []⟩ = some (.ret (.bool true), st) := by
  rw [sh_run]
  by_cases la : (a.s.size : Int) > 500
  · exact gets_of (decide_eq_true la) ⟨_, rfl⟩
  by_cases lb : (b.s.size : Int) > 500
  · exact gets_not (decide_eq_false la) (gets_of (decide_eq_true lb) ⟨_, rfl⟩)
  refine gets_not (decide_eq_false la) (gets_not (decide_eq_false lb) (gets_of (show okSh a = true from cdec_iff.mpr ⟨a1, a2, by omega⟩) (gets_of (show okSh b = true from cdec_iff.mpr ⟨b1, b2, by omega⟩) ?_)))
  obtain ⟨s1, s2⟩ := show_all a1 a2
  have hsz := strL_size (showV a)
  have e := sh_loop 60 (Cont.block 0 (Cont.then (f4_r0.run 60 (f4.leaveK Fun.done)) (f4.leaveK Fun.done))) (AV.eptr [AV.int IntKind.i64 a.k, AV.int IntKind.i64 a.n, AV.str a.s]) (AV.eptr [AV.int IntKind.i64 b.k, AV.int IntKind.i64 b.n, AV.str b.s]) (showV a) (showV b) s1 s2 (strL (showV a)).length 0 60 (by omega) (by omega)
  refine gets_eq e ?_
  rw [sh_end]
  refine gets_of (cdec_iff.mpr (by omega)) ?_
  by_cases ra : rightV a = true
  · have hr := read_show ra a1 a2
    refine gets_not (show (!((readL (showV a)).snd == rightV a)) = false by rw [hr, ra]; rfl) (gets_not (show (!rightV a) = false by rw [ra]; rfl) ?_)
    by_cases rb : rightV b = true
    · refine gets_not (show (!rightV b) = false by rw [rb]; rfl) ?_
      have hrb := read_show rb b1 b2
      have : ((showV a).toList == (showV b).toList) = (a.k == b.k && (a.n == b.n && (a.s.toList == b.s.toList && true))) := by
        by_cases hab : a = b
        · subst hab; simp
        · rw [str_ne]
          · symm; rw [Bool.eq_false_iff]; intro h; exact hab ((va_eqb a b).mp h)
          · intro hs
            rw [hs, hrb] at hr
            exact hab (Prod.mk.inj hr).1.symm
      rw [this, beq_self_eq_true]
      exact ⟨_, rfl⟩
    · exact gets_of (show (!rightV b) = true by rw [Bool.not_eq_true] at rb; rw [rb]; rfl) ⟨_, rfl⟩
  · have rf : rightV a = false := by rw [Bool.not_eq_true] at ra; exact ra
    refine gets_not (show (!((readL (showV a)).snd == rightV a)) = false by rw [show_wrong ra, read_wq, rf]; rfl) (gets_of (show (!rightV a) = true by rw [rf]; rfl) ⟨_, rfl⟩)
theorem shown_law (as0 as1 : List AV) (s0 : Ty.Shape tyVa as0) (s1 : Ty.Shape tyVa as1) : ∃ F st, f4.run F [tyVa.AV' as0, tyVa.AV' as1] ⟨[], []⟩ = some (.ret (.bool true), st) := by
  obtain ⟨a, rfl, h1, h2⟩ := va_shape2 s0
  obtain ⟨b, rfl, h3, h4⟩ := va_shape2 s1
  exact ⟨60, shown_true a b h1 h2 h3 h4⟩
end Go.Proofs.YtcfedmheblbdnaaDoor.V

/- Values: what the rows' condition on package-level variables gives. -/
set_option linter.unusedVariables false
namespace Go.Proofs.YtcfedmheblbdnaaDoor.V
open Go Go.V Go.RowKit

def tens : List Int := [1, 10, 100, 1000, 10000, 100000, 1000000, 10000000, 100000000, 1000000000, 10000000000, 100000000000, 1000000000000, 10000000000000, 100000000000000, 1000000000000000, 10000000000000000, 100000000000000000, 1000000000000000000, 10000000000000000000]
theorem globs_eq : globs = [(0, [.ifc 122 .dead]), (1, [.ifc 122 .dead]), (2, tens.map fun n => AV.int .u64 n)] := rfl
theorem rel_ints (W : World) : ∀ l : List Int, RelAll g0 W (l.map fun n => AV.int .u64 n) (l.map fun n => Value.int .u64 n)
  | [] => rfl
  | x :: l => ⟨_, _, rfl, rfl, rel_ints W l⟩
theorem laid_pow : (Rows.laid_internal_strconv_uint64pow10 : DataW Unit) = .agg (tens.map fun n => .lit (.int .u64 n)) := rfl
theorem globs_laid {W : World} (h : laidMetH Tryd.prog [("math/bits.deBruijn32tab", Rows.laid_math_bits_deBruijn32tab), ("math/bits.deBruijn64tab", Rows.laid_math_bits_deBruijn64tab), ("internal/strconv.uint64pow10", Rows.laid_internal_strconv_uint64pow10), ("strconv.ErrRange", Rows.laid_strconv_ErrRange), ("strconv.ErrSyntax", Rows.laid_strconv_ErrSyntax)] W) : Globs g0 W := by
  rw [MakeChecks.laidMetH_plain _ _ _ (by kernel_rfl)] at h
  obtain ⟨ps, ⟨_, _, _, _, _, _, _, _, _, _, ⟨_, _, _, _, _, _, _, _, _, _, ⟨g2, t2, cs2, f2, p2, q2, hg2, ht2, hv2, hd2, ⟨g1, t1, cs1, f1, p1, q1, hg1, ht1, hv1, hd1, ⟨g3, t3, cs3, f3, p3, q3, hg3, ht3, hv3, hd3, _, _⟩, _⟩, _⟩, _⟩, _⟩, _, _⟩ := h
  have eP : Tryd.prog.globalNamed "internal/strconv.uint64pow10" = some 2 := by kernel_rfl
  have eR : Tryd.prog.globalNamed "strconv.ErrRange" = some 1 := by kernel_rfl
  have eS : Tryd.prog.globalNamed "strconv.ErrSyntax" = some 0 := by kernel_rfl
  have tP : (Tryd.prog.globals[2]?).map (·.type) = some 117 := by kernel_rfl
  have tR : (Tryd.prog.globals[1]?).map (·.type) = some 73 := by kernel_rfl
  have tS : (Tryd.prog.globals[0]?).map (·.type) = some 73 := by kernel_rfl
  obtain rfl := Option.some.inj (eP.symm.trans hg2)
  obtain rfl := Option.some.inj (eR.symm.trans hg1)
  obtain rfl := Option.some.inj (eS.symm.trans hg3)
  obtain rfl := Option.some.inj (tP.symm.trans ht2)
  obtain rfl := Option.some.inj (tR.symm.trans ht1)
  obtain rfl := Option.some.inj (tS.symm.trans ht3)
  have typ : ∀ u, Tryd.prog.typeName? 3 u = some ("*" ++ "errors.errorString") → u = 122 :=
    typeName_ptr_named (by kernel_rfl) (by kernel_rfl) (by decide)
  have one : ∀ {g : Nat} {n : String} {cs : Array Value} {u v}, Tryd.prog.globalNamed n = some g → W.var? Tryd.prog n = some cs → cs.toList = [.iface u v] → Tryd.prog.typeName? 3 u = some "*errors.errorString" → RelCells g0 W [.ifc 122 .dead] g 0 := by
    intro g n cs u v h1 h2 h3 h4
    obtain rfl := typ u h4
    refine ⟨⟨.iface 122 v, ?_, trivial, rfl, ⟨v, rfl, trivial⟩⟩, trivial⟩
    rw [World.var?_cell h1 h2 0, ← Array.getElem?_toList, h3]; rfl
  obtain ⟨_, _, _, c1, n1, _⟩ := iface_of_trod Tryd.underlying73 hd1
  obtain ⟨_, _, _, c3, n3, _⟩ := iface_of_trod Tryd.underlying73 hd3
  obtain ⟨xs, m, _, hx, hlen, hn, hel⟩ := DataW.trod_array Tryd.underlying117 hd2
  have k84 : Tryd.prog.cellsOf 84 = 1 := by kernel_rfl
  have k117 : Tryd.prog.cellsOf 117 = 20 := by kernel_rfl
  rw [laid_pow] at hx
  simp only [Prod.mk.injEq, DataW.agg.injEq] at hx
  have hx := hx.1
  rw [k117] at hlen
  have hcs : cs2.toList = tens.map fun n => Value.int .u64 n := by
    apply List.ext_getElem?
    intro i
    by_cases hi : i < 20
    · have h1 := hel i hi
      rw [k84, Nat.mul_one, List.drop_eq_getElem_cons (by omega), List.take_succ_cons, List.take_zero] at h1
      have hxi : i < xs.length := by omega
      rw [List.getElem?_eq_getElem hxi] at h1
      obtain ⟨n, e1, e2, _⟩ := DataW.trod_int Tryd.underlying84 h1
      have e3 : (tens.map fun n => (DataW.lit (.int .u64 n) : DataW Unit))[i]? = some (.lit (.int .u64 n)) := by
        rw [hx, List.getElem?_map, List.getElem?_eq_getElem hxi, e2]; rfl
      rw [List.getElem?_map] at e3
      obtain ⟨n', e4, e5⟩ := Option.map_eq_some_iff.mp e3
      simp only [DataW.lit.injEq, Lit.int.injEq, true_and] at e5
      subst e5
      rw [List.getElem?_eq_getElem (by omega), List.getElem?_map, e4]
      simp only [List.cons.injEq, and_true] at e1
      rw [e1]; rfl
    · rw [List.getElem?_eq_none (by omega), List.getElem?_eq_none (by simp [tens]; omega)]
  intro x hx'
  rw [globs_eq] at hx'
  simp only [List.mem_cons, List.not_mem_nil, or_false] at hx'
  rcases hx' with rfl | rfl | rfl
  · exact one eS hv3 c3 n3
  · exact one eR hv1 c1 n1
  · refine RelCells.ofCells _ _ 2 0 (rel_ints W tens) (fun u hu => ?_) fun i u hu => ?_
    · obtain ⟨n, _, rfl⟩ := List.mem_map.mp hu; rfl
    · rw [Nat.zero_add, World.var?_cell eP hv2 i, ← Array.getElem?_toList, hcs]; exact hu
end Go.Proofs.YtcfedmheblbdnaaDoor.V
