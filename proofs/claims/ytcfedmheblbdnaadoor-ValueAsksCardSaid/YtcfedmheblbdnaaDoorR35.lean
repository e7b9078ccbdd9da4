/- Merged out of 22 texts: what the claim's code comes to, and why. -/
import Derived.Test.YtcfedmheblbdnaaDoorR34
/- The functions' pieces, as told by gen.py. -/
set_option linter.unusedVariables false
set_option maxRecDepth 20000
namespace Go.Proofs.YtcfedmheblbdnaaDoor.V
open Go Go.V Go.RowKit

noncomputable def tx_aa5602 : ByteArray := opq { data := (.append #[0, 1, 2, 2, 3, 3, 3, 3, 4, 4, 4, 4, 4, 4, 4, 4, 5, 5, 5, 5, 5, 5, 5, 5, 5, 5, 5, 5, 5, 5, 5, 5, 6, 6, 6, 6, 6, 6, 6, 6, 6, 6, 6, 6, 6, 6, 6, 6, 6, 6, 6, 6, 6, 6, 6, 6, 6, 6, 6, 6, 6, 6, 6, 6, 7, 7, 7, 7, 7, 7, 7, 7, 7, 7, 7, 7, 7, 7, 7, 7, 7, 7, 7, 7, 7, 7, 7, 7, 7, 7, 7, 7, 7, 7, 7, 7, 7, 7, 7, 7, 7, 7, 7, 7, 7, 7, 7, 7, 7, 7, 7, 7, 7, 7, 7, 7, 7, 7, 7, 7, 7, 7, 7, 7, 7, 7, 7, 7] #[8, 8, 8, 8, 8, 8, 8, 8, 8, 8, 8, 8, 8, 8, 8, 8, 8, 8, 8, 8, 8, 8, 8, 8, 8, 8, 8, 8, 8, 8, 8, 8, 8, 8, 8, 8, 8, 8, 8, 8, 8, 8, 8, 8, 8, 8, 8, 8, 8, 8, 8, 8, 8, 8, 8, 8, 8, 8, 8, 8, 8, 8, 8, 8, 8, 8, 8, 8, 8, 8, 8, 8, 8, 8, 8, 8, 8, 8, 8, 8, 8, 8, 8, 8, 8, 8, 8, 8, 8, 8, 8, 8, 8, 8, 8, 8, 8, 8, 8, 8, 8, 8, 8, 8, 8, 8, 8, 8, 8, 8, 8, 8, 8, 8, 8, 8, 8, 8, 8, 8, 8, 8, 8, 8, 8, 8, 8, 8]) }
theorem tx_aa5602_eq : tx_aa5602 = { data := (.append #[0, 1, 2, 2, 3, 3, 3, 3, 4, 4, 4, 4, 4, 4, 4, 4, 5, 5, 5, 5, 5, 5, 5, 5, 5, 5, 5, 5, 5, 5, 5, 5, 6, 6, 6, 6, 6, 6, 6, 6, 6, 6, 6, 6, 6, 6, 6, 6, 6, 6, 6, 6, 6, 6, 6, 6, 6, 6, 6, 6, 6, 6, 6, 6, 7, 7, 7, 7, 7, 7, 7, 7, 7, 7, 7, 7, 7, 7, 7, 7, 7, 7, 7, 7, 7, 7, 7, 7, 7, 7, 7, 7, 7, 7, 7, 7, 7, 7, 7, 7, 7, 7, 7, 7, 7, 7, 7, 7, 7, 7, 7, 7, 7, 7, 7, 7, 7, 7, 7, 7, 7, 7, 7, 7, 7, 7, 7, 7] #[8, 8, 8, 8, 8, 8, 8, 8, 8, 8, 8, 8, 8, 8, 8, 8, 8, 8, 8, 8, 8, 8, 8, 8, 8, 8, 8, 8, 8, 8, 8, 8, 8, 8, 8, 8, 8, 8, 8, 8, 8, 8, 8, 8, 8, 8, 8, 8, 8, 8, 8, 8, 8, 8, 8, 8, 8, 8, 8, 8, 8, 8, 8, 8, 8, 8, 8, 8, 8, 8, 8, 8, 8, 8, 8, 8, 8, 8, 8, 8, 8, 8, 8, 8, 8, 8, 8, 8, 8, 8, 8, 8, 8, 8, 8, 8, 8, 8, 8, 8, 8, 8, 8, 8, 8, 8, 8, 8, 8, 8, 8, 8, 8, 8, 8, 8, 8, 8, 8, 8, 8, 8, 8, 8, 8, 8, 8, 8]) } := opq_eq _

/-! ### 93: internal/strconv.log10Pow2 (3); results 2; slots: 0 x, 1 x -/
noncomputable def f93_b : Sim Tryd.prog :=
 (.seq (.live [0] (.region 0 [
 ⟨(opAssign (some 2) (.const (Value.int IntKind.i64 0)) 3 "uscale.go:70" #[]).op, none⟩
 ] (by kernel_rfl)))
 (.seq (.live [2] (.region 1 [
 ⟨(opMove (some 3) (.tmp 0) 3 "uscale.go:72" #[]).op, none⟩,
 ⟨(opBin (some 4) .mul 3 (.tmp 3) (.const (Value.int IntKind.i64 78913)) 3 3 "uscale.go:72" #[{ on := 0, ground := Ground.data }]).op, none⟩,
 ⟨(opBin (some 5) .shr 3 (.tmp 4) (.const (Value.int IntKind.u64 18)) 80 3 "uscale.go:72" #[{ on := 1, ground := Ground.data }]).op, none⟩,
 ⟨(opAssign (some 2) (.tmp 5) 3 "uscale.go:72" #[{ on := 2, ground := Ground.data }, { on := 0, ground := Ground.phase }, { on := 1, ground := Ground.phase }, { on := 2, ground := Ground.phase }]).op, none⟩
 ] (by kernel_rfl)))
 (.live [2] .ret)))

noncomputable def f93 : Fun Tryd.prog where
 id := 93
 fn := Tryd.f93
 hf := Tryd.func93
 hname := by kernel_rfl
 body := f93_b
 hbody := by kernel_rfl
 res := [rTmp 2]
 hres := by kernel_rfl
 n := 6
 hn := by kernel_rfl

/-! ### 94: math/bits.Len64 (84); results 2; slots: 0 x, 1 x, 2 n -/
noncomputable def f94_b : Sim Tryd.prog :=
 (.seq (.live [0, 2] (.region 0 [
 ⟨(opAssign (some 2) (.const (Value.int IntKind.i64 0)) 3 "bits.go:337" #[]).op, none⟩
 ] (by kernel_rfl)))
 (.seq (.seq (.live [0, 2, 4] (.region 1 [
 ⟨(opMove (some 3) (.tmp 0) 84 "bits.go:338" #[]).op, none⟩,
 ⟨(opBin (some 4) .geq 84 (.tmp 3) (.const (Value.int IntKind.u64 4294967296)) 84 4 "bits.go:338" #[{ on := 0, ground := Ground.data }]).op, none⟩
 ] (by kernel_rfl)))
 (.cond (.tmp 4)
 (.seq (.live [0] (.region 2 [
 ⟨(opMove (some 5) (.tmp 0) 84 "bits.go:339" #[]).op, none⟩,
 ⟨(opBin (some 6) .shr 84 (.tmp 5) (.const (Value.int IntKind.u64 32)) 80 84 "bits.go:339" #[{ on := 0, ground := Ground.data }]).op, none⟩,
 ⟨(opAssign (some 0) (.tmp 6) 84 "bits.go:339" #[{ on := 1, ground := Ground.data }, { on := 0, ground := Ground.phase }, { on := 1, ground := Ground.phase }]).op, none⟩
 ] (by kernel_rfl)))
 (.live [0, 2] (.region 3 [
 ⟨(opAssign (some 2) (.const (Value.int IntKind.i64 32)) 3 "bits.go:340" #[]).op, none⟩
 ] (by kernel_rfl))))
 .skip))
 (.seq (.seq (.live [0, 2, 8] (.region 4 [
 ⟨(opMove (some 7) (.tmp 0) 84 "bits.go:342" #[]).op, none⟩,
 ⟨(opBin (some 8) .geq 84 (.tmp 7) (.const (Value.int IntKind.u64 65536)) 84 4 "bits.go:342" #[{ on := 0, ground := Ground.data }]).op, none⟩
 ] (by kernel_rfl)))
 (.cond (.tmp 8)
 (.seq (.live [0, 2] (.region 5 [
 ⟨(opMove (some 9) (.tmp 0) 84 "bits.go:343" #[]).op, none⟩,
 ⟨(opBin (some 10) .shr 84 (.tmp 9) (.const (Value.int IntKind.u64 16)) 80 84 "bits.go:343" #[{ on := 0, ground := Ground.data }]).op, none⟩,
 ⟨(opAssign (some 0) (.tmp 10) 84 "bits.go:343" #[{ on := 1, ground := Ground.data }, { on := 0, ground := Ground.phase }, { on := 1, ground := Ground.phase }]).op, none⟩
 ] (by kernel_rfl)))
 (.live [0, 2] (.region 6 [
 ⟨(opMove (some 11) (.tmp 2) 3 "bits.go:344" #[]).op, none⟩,
 ⟨(opBin (some 12) .add 3 (.tmp 11) (.const (Value.int IntKind.i64 16)) 3 3 "bits.go:344" #[{ on := 0, ground := Ground.data }]).op, none⟩,
 ⟨(opAssign (some 2) (.tmp 12) 3 "bits.go:344" #[{ on := 1, ground := Ground.data }, { on := 0, ground := Ground.phase }, { on := 1, ground := Ground.phase }]).op, none⟩
 ] (by kernel_rfl))))
 .skip))
 (.seq (.seq (.live [0, 2, 14] (.region 7 [
 ⟨(opMove (some 13) (.tmp 0) 84 "bits.go:346" #[]).op, none⟩,
 ⟨(opBin (some 14) .geq 84 (.tmp 13) (.const (Value.int IntKind.u64 256)) 84 4 "bits.go:346" #[{ on := 0, ground := Ground.data }]).op, none⟩
 ] (by kernel_rfl)))
 (.cond (.tmp 14)
 (.seq (.live [0, 2] (.region 8 [
 ⟨(opMove (some 15) (.tmp 0) 84 "bits.go:347" #[]).op, none⟩,
 ⟨(opBin (some 16) .shr 84 (.tmp 15) (.const (Value.int IntKind.u64 8)) 80 84 "bits.go:347" #[{ on := 0, ground := Ground.data }]).op, none⟩,
 ⟨(opAssign (some 0) (.tmp 16) 84 "bits.go:347" #[{ on := 1, ground := Ground.data }, { on := 0, ground := Ground.phase }, { on := 1, ground := Ground.phase }]).op, none⟩
 ] (by kernel_rfl)))
 (.live [0, 2] (.region 9 [
 ⟨(opMove (some 17) (.tmp 2) 3 "bits.go:348" #[]).op, none⟩,
 ⟨(opBin (some 18) .add 3 (.tmp 17) (.const (Value.int IntKind.i64 8)) 3 3 "bits.go:348" #[{ on := 0, ground := Ground.data }]).op, none⟩,
 ⟨(opAssign (some 2) (.tmp 18) 3 "bits.go:348" #[{ on := 1, ground := Ground.data }, { on := 0, ground := Ground.phase }, { on := 1, ground := Ground.phase }]).op, none⟩
 ] (by kernel_rfl))))
 .skip))
 (.seq (.live [2] (.region 10 [
 ⟨(opMove (some 19) (.tmp 2) 3 "bits.go:350" #[]).op, none⟩,
 ⟨(opMove (some 20) (.tmp 0) 84 "bits.go:350" #[]).op, none⟩,
 ⟨(opConvInt (some 21) 84 5 (.tmp 20) (.int .u64) Tryd.underlying84 .u8 Tryd.underlying5 5 "bits.go:350" #[{ on := 1, ground := Ground.data }]).op, none⟩,
 ⟨(PSim.named (opIndexStrW (some 22) 9 (.const (Value.string { data := (.append #[0, 1, 2, 2, 3, 3, 3, 3, 4, 4, 4, 4, 4, 4, 4, 4, 5, 5, 5, 5, 5, 5, 5, 5, 5, 5, 5, 5, 5, 5, 5, 5, 6, 6, 6, 6, 6, 6, 6, 6, 6, 6, 6, 6, 6, 6, 6, 6, 6, 6, 6, 6, 6, 6, 6, 6, 6, 6, 6, 6, 6, 6, 6, 6, 7, 7, 7, 7, 7, 7, 7, 7, 7, 7, 7, 7, 7, 7, 7, 7, 7, 7, 7, 7, 7, 7, 7, 7, 7, 7, 7, 7, 7, 7, 7, 7, 7, 7, 7, 7, 7, 7, 7, 7, 7, 7, 7, 7, 7, 7, 7, 7, 7, 7, 7, 7, 7, 7, 7, 7, 7, 7, 7, 7, 7, 7, 7, 7] #[8, 8, 8, 8, 8, 8, 8, 8, 8, 8, 8, 8, 8, 8, 8, 8, 8, 8, 8, 8, 8, 8, 8, 8, 8, 8, 8, 8, 8, 8, 8, 8, 8, 8, 8, 8, 8, 8, 8, 8, 8, 8, 8, 8, 8, 8, 8, 8, 8, 8, 8, 8, 8, 8, 8, 8, 8, 8, 8, 8, 8, 8, 8, 8, 8, 8, 8, 8, 8, 8, 8, 8, 8, 8, 8, 8, 8, 8, 8, 8, 8, 8, 8, 8, 8, 8, 8, 8, 8, 8, 8, 8, 8, 8, 8, 8, 8, 8, 8, 8, 8, 8, 8, 8, 8, 8, 8, 8, 8, 8, 8, 8, 8, 8, 8, 8, 8, 8, 8, 8, 8, 8, 8, 8, 8, 8, 8, 8]) })) (.tmp 21) Tryd.underlying9 5 "bits.go:350" #[{ on := 2, ground := Ground.data }]) tx_aa5602 { data := (.append #[0, 1, 2, 2, 3, 3, 3, 3, 4, 4, 4, 4, 4, 4, 4, 4, 5, 5, 5, 5, 5, 5, 5, 5, 5, 5, 5, 5, 5, 5, 5, 5, 6, 6, 6, 6, 6, 6, 6, 6, 6, 6, 6, 6, 6, 6, 6, 6, 6, 6, 6, 6, 6, 6, 6, 6, 6, 6, 6, 6, 6, 6, 6, 6, 7, 7, 7, 7, 7, 7, 7, 7, 7, 7, 7, 7, 7, 7, 7, 7, 7, 7, 7, 7, 7, 7, 7, 7, 7, 7, 7, 7, 7, 7, 7, 7, 7, 7, 7, 7, 7, 7, 7, 7, 7, 7, 7, 7, 7, 7, 7, 7, 7, 7, 7, 7, 7, 7, 7, 7, 7, 7, 7, 7, 7, 7, 7, 7] #[8, 8, 8, 8, 8, 8, 8, 8, 8, 8, 8, 8, 8, 8, 8, 8, 8, 8, 8, 8, 8, 8, 8, 8, 8, 8, 8, 8, 8, 8, 8, 8, 8, 8, 8, 8, 8, 8, 8, 8, 8, 8, 8, 8, 8, 8, 8, 8, 8, 8, 8, 8, 8, 8, 8, 8, 8, 8, 8, 8, 8, 8, 8, 8, 8, 8, 8, 8, 8, 8, 8, 8, 8, 8, 8, 8, 8, 8, 8, 8, 8, 8, 8, 8, 8, 8, 8, 8, 8, 8, 8, 8, 8, 8, 8, 8, 8, 8, 8, 8, 8, 8, 8, 8, 8, 8, 8, 8, 8, 8, 8, 8, 8, 8, 8, 8, 8, 8, 8, 8, 8, 8, 8, 8, 8, 8, 8, 8]) } tx_aa5602_eq (by kernel_rfl)).op, none⟩,
 ⟨(opConvInt (some 23) 5 3 (.tmp 22) (.int .u8) Tryd.underlying5 .i64 Tryd.underlying3 3 "bits.go:350" #[{ on := 3, ground := Ground.data }]).op, none⟩,
 ⟨(opBin (some 24) .add 3 (.tmp 19) (.tmp 23) 3 3 "bits.go:350" #[{ on := 0, ground := Ground.data }, { on := 4, ground := Ground.data }]).op, none⟩,
 ⟨(opAssign (some 2) (.tmp 24) 3 "bits.go:350" #[{ on := 5, ground := Ground.data }, { on := 0, ground := Ground.phase }, { on := 1, ground := Ground.phase }, { on := 2, ground := Ground.phase }, { on := 3, ground := Ground.phase }, { on := 4, ground := Ground.phase }, { on := 5, ground := Ground.phase }]).op, none⟩
 ] (by kernel_rfl)))
 (.live [2] .ret))))))

noncomputable def f94 : Fun Tryd.prog where
 id := 94
 fn := Tryd.f94
 hf := Tryd.func94
 hname := by kernel_rfl
 body := f94_b
 hbody := by kernel_rfl
 res := [rTmp 2]
 hres := by kernel_rfl
 n := 25
 hn := by kernel_rfl

/-! ### 95: internal/strconv.bool2[int] (4); results 2; slots: 0 b, 1 b -/
noncomputable def f95_b : Sim Tryd.prog :=
 (.seq (.live [0] (.region 0 [
 ⟨(opAssign (some 2) (.const (Value.int IntKind.i64 0)) 3 "uscale.go:17" #[]).op, none⟩
 ] (by kernel_rfl)))
 (.seq (.seq (.live [3] (.region 1 [
 ⟨(opMove (some 3) (.tmp 0) 4 "uscale.go:18" #[]).op, none⟩
 ] (by kernel_rfl)))
 (.cond (.tmp 3)
 (.seq (.live [2] (.region 2 [
 ⟨(opAssign (some 2) (.const (Value.int IntKind.i64 1)) 3 "uscale.go:19" #[]).op, none⟩
 ] (by kernel_rfl)))
 (.live [2] .ret))
 .skip))
 (.seq (.live [2] (.region 3 [
 ⟨(opAssign (some 2) (.const (Value.int IntKind.i64 0)) 3 "uscale.go:21" #[]).op, none⟩
 ] (by kernel_rfl)))
 (.live [2] .ret))))

noncomputable def f95 : Fun Tryd.prog where
 id := 95
 fn := Tryd.f95
 hf := Tryd.func95
 hname := by kernel_rfl
 body := f95_b
 hbody := by kernel_rfl
 res := [rTmp 2]
 hres := by kernel_rfl
 n := 4
 hn := by kernel_rfl

end Go.Proofs.YtcfedmheblbdnaaDoor.V

/- What the functions' runs come to; the right sides were printed by a tool, Lean checks them. -/
set_option linter.unusedVariables false
set_option maxRecDepth 100000
namespace Go.Proofs.YtcfedmheblbdnaaDoor.V
open Go Go.V Go.RowKit

theorem ln_run (F : Nat) (x : Int) (st : St) :
 (f94.run F [.int .u64 x] st : Ans) =
 branch (AV.bool (decide (x ≥ (4294967296 : Int))))
 (branch (AV.bool (decide (x.fdiv (4294967296 : Int) ≥ (65536 : Int))))
 (branch (AV.bool (decide ((x.fdiv (4294967296 : Int)).fdiv (65536 : Int) ≥ (256 : Int))))
 (branch
 (AV.bool (inT tx_aa5602 (IntKind.u8.wrap (((x.fdiv (4294967296 : Int)).fdiv (65536 : Int)).fdiv (256 : Int)))))
 (some
 (Fin.ret
 (AV.int IntKind.i64
 (IntKind.i64.wrap
 ((56 : Int) +
 IntKind.i64.wrap
 (atT tx_aa5602
 (IntKind.u8.wrap (((x.fdiv (4294967296 : Int)).fdiv (65536 : Int)).fdiv (256 : Int))))))),
 st))
 none)
 (branch (AV.bool (inT tx_aa5602 (IntKind.u8.wrap ((x.fdiv (4294967296 : Int)).fdiv (65536 : Int)))))
 (some
 (Fin.ret
 (AV.int IntKind.i64
 (IntKind.i64.wrap
 ((48 : Int) +
 IntKind.i64.wrap
 (atT tx_aa5602 (IntKind.u8.wrap ((x.fdiv (4294967296 : Int)).fdiv (65536 : Int))))))),
 st))
 none))
 (branch (AV.bool (decide (x.fdiv (4294967296 : Int) ≥ (256 : Int))))
 (branch (AV.bool (inT tx_aa5602 (IntKind.u8.wrap ((x.fdiv (4294967296 : Int)).fdiv (256 : Int)))))
 (some
 (Fin.ret
 (AV.int IntKind.i64
 (IntKind.i64.wrap
 ((40 : Int) +
 IntKind.i64.wrap
 (atT tx_aa5602 (IntKind.u8.wrap ((x.fdiv (4294967296 : Int)).fdiv (256 : Int))))))),
 st))
 none)
 (branch (AV.bool (inT tx_aa5602 (IntKind.u8.wrap (x.fdiv (4294967296 : Int)))))
 (some
 (Fin.ret
 (AV.int IntKind.i64
 (IntKind.i64.wrap
 ((32 : Int) + IntKind.i64.wrap (atT tx_aa5602 (IntKind.u8.wrap (x.fdiv (4294967296 : Int))))))),
 st))
 none)))
 (branch (AV.bool (decide (x ≥ (65536 : Int))))
 (branch (AV.bool (decide (x.fdiv (65536 : Int) ≥ (256 : Int))))
 (branch (AV.bool (inT tx_aa5602 (IntKind.u8.wrap ((x.fdiv (65536 : Int)).fdiv (256 : Int)))))
 (some
 (Fin.ret
 (AV.int IntKind.i64
 (IntKind.i64.wrap
 ((24 : Int) +
 IntKind.i64.wrap (atT tx_aa5602 (IntKind.u8.wrap ((x.fdiv (65536 : Int)).fdiv (256 : Int))))))),
 st))
 none)
 (branch (AV.bool (inT tx_aa5602 (IntKind.u8.wrap (x.fdiv (65536 : Int)))))
 (some
 (Fin.ret
 (AV.int IntKind.i64
 (IntKind.i64.wrap
 ((16 : Int) + IntKind.i64.wrap (atT tx_aa5602 (IntKind.u8.wrap (x.fdiv (65536 : Int))))))),
 st))
 none))
 (branch (AV.bool (decide (x ≥ (256 : Int))))
 (branch (AV.bool (inT tx_aa5602 (IntKind.u8.wrap (x.fdiv (256 : Int)))))
 (some
 (Fin.ret
 (AV.int IntKind.i64
 (IntKind.i64.wrap
 ((8 : Int) + IntKind.i64.wrap (atT tx_aa5602 (IntKind.u8.wrap (x.fdiv (256 : Int))))))),
 st))
 none)
 (branch (AV.bool (inT tx_aa5602 (IntKind.u8.wrap x)))
 (some
 (Fin.ret
 (AV.int IntKind.i64
 (IntKind.i64.wrap ((0 : Int) + IntKind.i64.wrap (atT tx_aa5602 (IntKind.u8.wrap x))))),
 st))
 none))) := by kernel_rfl

end Go.Proofs.YtcfedmheblbdnaaDoor.V

/- Facts on numbers as bits. -/
set_option linter.unusedVariables false
set_option linter.unusedSimpArgs false
namespace Go.V

theorem wrapNat {k : IntKind} (hs : k.signed = false) {n : Nat} (h : n < 2 ^ k.bits) : k.wrap (n : Int) = n :=
  wrapU hs (by omega) (by exact_mod_cast h)

end Go.V

/- Values: how many bits a number has. -/
set_option linter.unusedVariables false
namespace Go.Proofs.YtcfedmheblbdnaaDoor.V
open Go Go.V Go.RowKit

def bl (n : Nat) : Nat := if n = 0 then 0 else Nat.log2 n + 1
theorem bl_spec {n : Nat} (h : n ≠ 0) : 1 ≤ bl n ∧ 2 ^ (bl n - 1) ≤ n ∧ n < 2 ^ bl n := by
  unfold bl
  rw [if_neg h]
  refine ⟨by omega, ?_, ?_⟩
  · rw [Nat.add_sub_cancel]; exact (Nat.le_log2 h).mp (Nat.le_refl _)
  · exact (Nat.log2_lt h).mp (Nat.lt_succ_self _)
theorem bl_of {n L : Nat} (h1 : 1 ≤ L) (h2 : 2 ^ (L - 1) ≤ n) (h3 : n < 2 ^ L) : bl n = L := by
  have hn : n ≠ 0 := by have := Nat.two_pow_pos (L - 1); omega
  have a := (Nat.le_log2 hn).mpr h2
  have b := (Nat.log2_lt hn).mpr h3
  unfold bl
  rw [if_neg hn]; omega
theorem bl_div {n k : Nat} (h : 1 ≤ n / 2 ^ k) : bl n = k + bl (n / 2 ^ k) := by
  obtain ⟨h1, h2, h3⟩ := bl_spec (n := n / 2 ^ k) (by omega)
  have hp := Nat.two_pow_pos k
  refine bl_of (by omega) ?_ ?_
  · have := Nat.mul_le_mul_right (2 ^ k) h2
    rw [← Nat.pow_add] at this
    rw [show k + bl (n / 2 ^ k) - 1 = bl (n / 2 ^ k) - 1 + k by omega]
    exact Nat.le_trans this (Nat.div_mul_le_self n (2 ^ k))
  · have h4 : n < (n / 2 ^ k + 1) * 2 ^ k := by have := Nat.lt_div_mul_add (a := n) hp; rw [Nat.add_mul, Nat.one_mul]; omega
    have h5 := Nat.mul_le_mul_right (2 ^ k) (show n / 2 ^ k + 1 ≤ 2 ^ bl (n / 2 ^ k) from h3)
    rw [← Nat.pow_add] at h5
    rw [Nat.add_comm]; omega
theorem tab_bl : ∀ j : Fin 256, (strL tx_aa5602).getD j.val 0 = bl j.val := by
  rw [tx_aa5602_eq]; decide +kernel
theorem tab_len : (strL tx_aa5602).length = 256 := by rw [tx_aa5602_eq]; decide +kernel
theorem ln_leaf {n k m : Nat} (hm : m < 256) (hk : k ≤ 56) (h : bl n = k + bl m) (st : St) (K : Int) (hK : K = (k : Nat)) :
    branch (.bool (inT tx_aa5602 (IntKind.u8.wrap (m : Int)))) (some (Fin.ret (AV.int IntKind.i64 (IntKind.i64.wrap (K + IntKind.i64.wrap (atT tx_aa5602 (IntKind.u8.wrap (m : Int)))))), st)) none = (some (Fin.ret (.int .i64 (bl n : Nat)), st) : Ans) := by
  have hw : IntKind.u8.wrap (m : Int) = (m : Nat) := wrapNat rfl (by simpa [IntKind.bits] using hm)
  have hb : bl m ≤ 8 := by
    by_cases h0 : m = 0
    · subst h0; simp [bl]
    · obtain ⟨_, h2, _⟩ := bl_spec h0
      rcases Nat.lt_or_ge 8 (bl m) with h8 | h8
      · have : 2 ^ 8 ≤ 2 ^ (bl m - 1) := Nat.pow_le_pow_right (by omega) (by omega)
        omega
      · exact h8
  rw [hw, branch_of (inT_iff.mpr ⟨by omega, by rw [tab_len]; simpa using hm⟩), atT, opq_eq, Int.toNat_natCast, tab_bl ⟨m, hm⟩, hK]
  simp only
  rw [wrapS (n := ((bl m : Nat) : Int)) (by omega) (by omega), wrapS (by omega) (by omega), h, Int.natCast_add]
theorem fdivN (n d : Nat) : (n : Int).fdiv (d : Int) = ((n / d : Nat) : Int) := by
  rw [Int.fdiv_eq_ediv_of_nonneg _ (by omega)]; rfl
theorem ln_eq {F : Nat} (n : Nat) (h : n < 18446744073709551616) (st : St) : f94.run F [.int .u64 (n : Int)] st = some (.ret (.int .i64 (bl n : Nat)), st) := by
  have e32 : (n : Int).fdiv 4294967296 = ((n / 2 ^ 32 : Nat) : Int) := fdivN n (2 ^ 32)
  have e16 : ∀ m : Nat, (m : Int).fdiv 65536 = ((m / 2 ^ 16 : Nat) : Int) := fun m => fdivN m (2 ^ 16)
  have e8 : ∀ m : Nat, (m : Int).fdiv 256 = ((m / 2 ^ 8 : Nat) : Int) := fun m => fdivN m (2 ^ 8)
  rw [ln_run]
  simp only [e32, e16, e8, Nat.div_div_eq_div_mul, ← Nat.pow_add]
  by_cases h1 : n < 4294967296
  · rw [branch_not (decide_eq_false (by omega))]
    by_cases h2 : n < 65536
    · rw [branch_not (decide_eq_false (by omega))]
      by_cases h3 : n < 256
      · rw [branch_not (decide_eq_false (by omega))]; exact ln_leaf (k := 0) h3 (by omega) (by omega) st _ rfl
      · rw [branch_of (decide_eq_true (by omega))]; exact ln_leaf (k := 8) (by omega) (by omega) (bl_div (by omega)) st _ rfl
    · rw [branch_of (decide_eq_true (by omega))]
      by_cases h3 : n / 2 ^ 16 < 256
      · rw [branch_not (decide_eq_false (by omega))]; exact ln_leaf (k := 16) h3 (by omega) (bl_div (by omega)) st _ rfl
      · rw [branch_of (decide_eq_true (by omega))]; exact ln_leaf (k := 24) (by omega) (by omega) (bl_div (by omega)) st _ rfl
  · rw [branch_of (decide_eq_true (by omega))]
    by_cases h2 : n / 2 ^ 32 < 65536
    · rw [branch_not (decide_eq_false (by omega))]
      by_cases h3 : n / 2 ^ 32 < 256
      · rw [branch_not (decide_eq_false (by omega))]; exact ln_leaf (k := 32) h3 (by omega) (bl_div (by omega)) st _ rfl
      · rw [branch_of (decide_eq_true (by omega))]; exact ln_leaf (k := 40) (by omega) (by omega) (bl_div (by omega)) st _ rfl
    · rw [branch_of (decide_eq_true (by omega))]
      by_cases h3 : n / 2 ^ (32 + 16) < 256
      · rw [branch_not (decide_eq_false (by omega))]; exact ln_leaf (k := 48) h3 (by omega) (bl_div (by omega)) st _ rfl
      · rw [branch_of (decide_eq_true (by omega))]; exact ln_leaf (k := 56) (by omega) (by omega) (bl_div (by omega)) st _ rfl
end Go.Proofs.YtcfedmheblbdnaaDoor.V

/- Values: Len64, as a callee. -/
set_option linter.unusedVariables false
namespace Go.Proofs.YtcfedmheblbdnaaDoor.V
open Go Go.V Go.RowKit

def dec1w : List AV → Option Int
  | [x] => match x with
    | .int k n => match k with
      | .u64 => some n
      | _ => none
    | _ => none
  | _ => none
theorem dec1w_enc : ∀ l a, dec1w l = some a → l = [.int .u64 a] := by
  intro l a h
  unfold dec1w at h
  split at h
  · split at h
    · split at h
      · cases h; rfl
      · cases h
    · cases h
  · cases h
noncomputable def okW (n : Int) : Bool := cdec (0 ≤ n ∧ n < 18446744073709551616)
noncomputable def p94 : POrc Tryd.prog := f94.pureIf dec1w (fun n => [.int .u64 n]) dec1w_enc okW (fun n => .int .i64 (bl n.toNat : Nat)) (fun _ _ => ⟨rfl, fun _ _ => trivial⟩) fun n h => ⟨0, fun st => by
  obtain ⟨h1, h2⟩ := cdec_iff.mp h
  obtain ⟨m, rfl⟩ := Int.eq_ofNat_of_zero_le h1
  exact ln_eq m (by omega) st⟩
end Go.Proofs.YtcfedmheblbdnaaDoor.V

/- The functions' pieces, as told by gen.py. -/
set_option linter.unusedVariables false
set_option maxRecDepth 20000
namespace Go.Proofs.YtcfedmheblbdnaaDoor.V
open Go Go.V Go.RowKit

theorem sz84 : (Tryd.prog.info? 84).map (·.size) = some 1 := by kernel_rfl

/-! ### 85: internal/strconv.numDigits (84); results 2; slots: 0 d, 1 d, 3 nd -/
noncomputable def f85_b : Sim Tryd.prog :=
 (.seq (.live [0] (.region 0 [
 ⟨(opAssign (some 2) (.const (Value.int IntKind.i64 0)) 3 "uscale.go:287" #[]).op, none⟩
 ] (by kernel_rfl)))
 (.seq (.live [0, 3] (.region 1 [
 ⟨(opMove (some 4) (.tmp 0) 84 "uscale.go:288" #[]).op, none⟩,
 ⟨(opCallP p94 (some 5) [(.tmp 4)] #[84] 3 "uscale.go:288" #[{ on := 0, ground := Ground.data }]).op, none⟩,
 ⟨opCall (f93.orc 0) (some 6) [(.tmp 5)] #[3] 3 "uscale.go:288" #[{ on := 1, ground := Ground.data }, { on := 1, ground := Ground.chain }], none⟩,
 ⟨(PSim.hide (opAssign (some 3) (.tmp 6) 3 "uscale.go:288" #[{ on := 2, ground := Ground.data }, { on := 2, ground := Ground.chain }, { on := 0, ground := Ground.phase }, { on := 1, ground := Ground.phase }, { on := 2, ground := Ground.phase }])).op, none⟩
 ] (by kernel_rfl)))
 (.seq (.live [2] (.region 2 [
 ⟨(opMove (some 7) (.tmp 3) 3 "uscale.go:289" #[]).op, none⟩,
 ⟨(opMove (some 8) (.tmp 0) 84 "uscale.go:289" #[]).op, none⟩,
 ⟨(opMove (some 9) (.tmp 3) 3 "uscale.go:289" #[]).op, none⟩,
 ⟨(PSim.glob (opIndexAddrA (some 10) 117 (.global 2) (.tmp 9) 20 84 1 Tryd.underlying117 sz84 0 "uscale.go:289" #[{ on := 2, ground := Ground.data }])).op, none⟩,
 ⟨(opLoadT (.one (.int .u64)) (some 11) 84 (.tmp 10) (.int .u64) Tryd.underlying84 1 sz84 (by kernel_rfl) 84 "uscale.go:289" #[{ on := 3, ground := Ground.data }]).op, none⟩,
 ⟨(opBin (some 12) .geq 84 (.tmp 8) (.tmp 11) 84 4 "uscale.go:289" #[{ on := 1, ground := Ground.data }, { on := 4, ground := Ground.data }]).op, none⟩,
 ⟨opCall (f95.orc 0) (some 13) [(.tmp 12)] #[4] 3 "uscale.go:289" #[{ on := 5, ground := Ground.data }], none⟩,
 ⟨(opBin (some 14) .add 3 (.tmp 7) (.tmp 13) 3 3 "uscale.go:289" #[{ on := 0, ground := Ground.data }, { on := 6, ground := Ground.data }]).op, none⟩,
 ⟨(opAssign (some 2) (.tmp 14) 3 "uscale.go:289" #[{ on := 7, ground := Ground.data }, { on := 6, ground := Ground.chain }, { on := 0, ground := Ground.phase }, { on := 1, ground := Ground.phase }, { on := 2, ground := Ground.phase }, { on := 3, ground := Ground.phase }, { on := 4, ground := Ground.phase }, { on := 5, ground := Ground.phase }, { on := 6, ground := Ground.phase }, { on := 7, ground := Ground.phase }]).op, none⟩
 ] (by kernel_rfl)))
 (.live [2] .ret))))

noncomputable def f85 : Fun Tryd.prog where
 id := 85
 fn := Tryd.f85
 hf := Tryd.func85
 hname := by kernel_rfl
 body := f85_b
 hbody := by kernel_rfl
 res := [rTmp 2]
 hres := by kernel_rfl
 n := 15
 hn := by kernel_rfl

end Go.Proofs.YtcfedmheblbdnaaDoor.V

/- What the functions' runs come to; the right sides were printed by a tool, Lean checks them. -/
set_option linter.unusedVariables false
set_option maxRecDepth 100000
namespace Go.Proofs.YtcfedmheblbdnaaDoor.V
open Go Go.V Go.RowKit

theorem nd_run (F : Nat) (x : Int) (st : St) :
 (f85.run F [.int .u64 x] st : Ans) =
 branch (AV.bool (okW x))
 (if
 (0 : Int) ≤ opq ((IntKind.i64.wrap ((↑(bl x.toNat) : Int) * (78913 : Int))).fdiv (262144 : Int)) ∧
 opq ((IntKind.i64.wrap ((↑(bl x.toNat) : Int) * (78913 : Int))).fdiv (262144 : Int)) < (20 : Int) then
 branch
 (AV.bool
 ((LD.one (LT.int IntKind.u64)).is
 (List.drop
 ((opq ((IntKind.i64.wrap ((↑(bl x.toNat) : Int) * (78913 : Int))).fdiv (262144 : Int))).toNat * 1)
 [AV.int IntKind.u64 (1 : Int), AV.int IntKind.u64 (10 : Int), AV.int IntKind.u64 (100 : Int),
 AV.int IntKind.u64 (1000 : Int), AV.int IntKind.u64 (10000 : Int), AV.int IntKind.u64 (100000 : Int),
 AV.int IntKind.u64 (1000000 : Int), AV.int IntKind.u64 (10000000 : Int),
 AV.int IntKind.u64 (100000000 : Int), AV.int IntKind.u64 (1000000000 : Int),
 AV.int IntKind.u64 (10000000000 : Int), AV.int IntKind.u64 (100000000000 : Int),
 AV.int IntKind.u64 (1000000000000 : Int), AV.int IntKind.u64 (10000000000000 : Int),
 AV.int IntKind.u64 (100000000000000 : Int), AV.int IntKind.u64 (1000000000000000 : Int),
 AV.int IntKind.u64 (10000000000000000 : Int), AV.int IntKind.u64 (100000000000000000 : Int),
 AV.int IntKind.u64 (1000000000000000000 : Int), AV.int IntKind.u64 (10000000000000000000 : Int)])))
 (branch
 (AV.bool
 (decide
 (x ≥
 hdI
 (List.drop
 ((opq ((IntKind.i64.wrap ((↑(bl x.toNat) : Int) * (78913 : Int))).fdiv (262144 : Int))).toNat *
 1)
 [AV.int IntKind.u64 (1 : Int), AV.int IntKind.u64 (10 : Int), AV.int IntKind.u64 (100 : Int),
 AV.int IntKind.u64 (1000 : Int), AV.int IntKind.u64 (10000 : Int),
 AV.int IntKind.u64 (100000 : Int), AV.int IntKind.u64 (1000000 : Int),
 AV.int IntKind.u64 (10000000 : Int), AV.int IntKind.u64 (100000000 : Int),
 AV.int IntKind.u64 (1000000000 : Int), AV.int IntKind.u64 (10000000000 : Int),
 AV.int IntKind.u64 (100000000000 : Int), AV.int IntKind.u64 (1000000000000 : Int),
 AV.int IntKind.u64 (10000000000000 : Int), AV.int IntKind.u64 (100000000000000 : Int),
 AV.int IntKind.u64 (1000000000000000 : Int), AV.int IntKind.u64 (10000000000000000 : Int),
 AV.int IntKind.u64 (100000000000000000 : Int), AV.int IntKind.u64 (1000000000000000000 : Int),
 AV.int IntKind.u64 (10000000000000000000 : Int)]))))
 (some
 (Fin.ret
 (AV.int IntKind.i64
 (IntKind.i64.wrap
 (opq ((IntKind.i64.wrap ((↑(bl x.toNat) : Int) * (78913 : Int))).fdiv (262144 : Int)) + (1 : Int)))),
 st))
 (some
 (Fin.ret
 (AV.int IntKind.i64
 (IntKind.i64.wrap
 (opq ((IntKind.i64.wrap ((↑(bl x.toNat) : Int) * (78913 : Int))).fdiv (262144 : Int)) + (0 : Int)))),
 st)))
 none
 else none)
 none := by kernel_rfl

end Go.Proofs.YtcfedmheblbdnaaDoor.V

/- Values: how many digits a number has. -/
set_option linter.unusedVariables false
namespace Go.Proofs.YtcfedmheblbdnaaDoor.V
open Go Go.V Go.RowKit

def tN (L : Nat) : Nat := L * 78913 / 262144
theorem tN_tab : ∀ L : Fin 65, L.val ≠ 0 → tN L.val ≤ 19 ∧ 2 ^ L.val ≤ 10 ^ (tN L.val + 1) ∧ (tN L.val = 0 ∨ 10 ^ (tN L.val - 1) ≤ 2 ^ (L.val - 1)) := by decide +kernel
def ndN (u : Nat) : Nat := if 10 ^ tN (bl u) ≤ u then tN (bl u) + 1 else tN (bl u)
theorem bl_le {u : Nat} (h : u < 18446744073709551616) : bl u ≤ 64 := by
  by_cases h0 : u = 0
  · subst h0; simp [bl]
  · obtain ⟨_, h2, _⟩ := bl_spec h0
    rcases Nat.lt_or_ge 64 (bl u) with h8 | h8
    · have : 2 ^ 64 ≤ 2 ^ (bl u - 1) := Nat.pow_le_pow_right (by omega) (by omega)
      omega
    · exact h8
theorem ndN_spec {u : Nat} (h0 : u ≠ 0) (h : u < 18446744073709551616) : 1 ≤ ndN u ∧ ndN u ≤ 20 ∧ 10 ^ (ndN u - 1) ≤ u ∧ u < 10 ^ ndN u := by
  have hL := bl_le h
  obtain ⟨h1, h2, h3⟩ := bl_spec h0
  obtain ⟨k1, k2, k3⟩ := tN_tab ⟨bl u, by omega⟩ (by show bl u ≠ 0; omega)
  simp only at k1 k2 k3
  unfold ndN
  by_cases hc : 10 ^ tN (bl u) ≤ u
  · rw [if_pos hc, Nat.add_sub_cancel]
    exact ⟨by omega, by omega, hc, Nat.lt_of_lt_of_le h3 k2⟩
  · rw [if_neg hc]
    rcases k3 with k3 | k3
    · rw [k3] at hc; simp at hc; omega
    · refine ⟨?_, by omega, Nat.le_trans k3 h2, by omega⟩
      rcases Nat.eq_zero_or_pos (tN (bl u)) with h5 | h5
      · rw [h5] at hc; simp at hc; omega
      · exact h5
def pow10 : List AV := [AV.int IntKind.u64 (1 : Int), AV.int IntKind.u64 (10 : Int), AV.int IntKind.u64 (100 : Int),
                        AV.int IntKind.u64 (1000 : Int), AV.int IntKind.u64 (10000 : Int),
                        AV.int IntKind.u64 (100000 : Int), AV.int IntKind.u64 (1000000 : Int),
                        AV.int IntKind.u64 (10000000 : Int), AV.int IntKind.u64 (100000000 : Int),
                        AV.int IntKind.u64 (1000000000 : Int), AV.int IntKind.u64 (10000000000 : Int),
                        AV.int IntKind.u64 (100000000000 : Int), AV.int IntKind.u64 (1000000000000 : Int),
                        AV.int IntKind.u64 (10000000000000 : Int), AV.int IntKind.u64 (100000000000000 : Int),
                        AV.int IntKind.u64 (1000000000000000 : Int), AV.int IntKind.u64 (10000000000000000 : Int),
                        AV.int IntKind.u64 (100000000000000000 : Int), AV.int IntKind.u64 (1000000000000000000 : Int),
                        AV.int IntKind.u64 (10000000000000000000 : Int)]
theorem pow10_at : ∀ t : Fin 20, (LD.one (LT.int IntKind.u64)).is (List.drop t.val pow10) = true ∧ hdI (List.drop t.val pow10) = ((10 ^ t.val : Nat) : Int) := by
  intro t
  obtain ⟨t, ht⟩ := t
  match t, ht with
  | 0, _ | 1, _ | 2, _ | 3, _ | 4, _ | 5, _ | 6, _ | 7, _ | 8, _ | 9, _ | 10, _ | 11, _ | 12, _ | 13, _ | 14, _ | 15, _ | 16, _ | 17, _ | 18, _ | 19, _ => exact ⟨rfl, rfl⟩
  | n + 20, h => omega
theorem nd_eq {F : Nat} (u : Nat) (h : u < 18446744073709551616) (st : St) : f85.run F [.int .u64 (u : Int)] st = some (.ret (.int .i64 (ndN u : Nat)), st) := by
  have hL := bl_le h
  have ht : tN (bl u) ≤ 19 := by
    by_cases h0 : bl u = 0
    · rw [h0]; decide
    · exact (tN_tab ⟨bl u, by omega⟩ h0).1
  have e : opq ((IntKind.i64.wrap (((bl u : Nat) : Int) * 78913)).fdiv 262144) = ((tN (bl u) : Nat) : Int) := by
    rw [opq_eq, wrapS (by omega) (by omega), show ((bl u : Nat) : Int) * 78913 = ((bl u * 78913 : Nat) : Int) by omega]
    exact fdivN _ 262144
  obtain ⟨k1, k2⟩ := pow10_at ⟨tN (bl u), by omega⟩
  simp only [pow10] at k1 k2
  rw [nd_run, branch_of (show okW (u : Int) = true from cdec_iff.mpr ⟨by omega, by omega⟩), Int.toNat_natCast, e, if_pos ⟨by omega, by omega⟩, Int.toNat_natCast, Nat.mul_one, branch_of k1, k2, wrapS (by omega) (by omega), wrapS (by omega) (by omega)]
  unfold ndN
  by_cases hc : 10 ^ tN (bl u) ≤ u
  · rw [branch_of (decide_eq_true (by exact_mod_cast hc)), if_pos hc, Int.natCast_add]; rfl
  · rw [branch_not (decide_eq_false (by intro h'; exact hc (by exact_mod_cast h'))), if_neg hc, Int.add_zero]
noncomputable def ndO (n : Int) : Int := opq ((ndN n.toNat : Nat) : Int)
noncomputable def p85 : POrc Tryd.prog := f85.pureIf dec1w (fun n => [.int .u64 n]) dec1w_enc okW (fun n => .int .i64 (ndO n)) (fun _ _ => ⟨rfl, fun _ _ => trivial⟩) fun n h => ⟨0, fun st => by
  rw [ndO, opq_eq]
  obtain ⟨h1, h2⟩ := cdec_iff.mp h
  obtain ⟨m, rfl⟩ := Int.eq_ofNat_of_zero_le h1
  exact nd_eq m (by omega) st⟩
end Go.Proofs.YtcfedmheblbdnaaDoor.V

/- The functions' pieces, as told by gen.py. -/
set_option linter.unusedVariables false
set_option maxRecDepth 20000
namespace Go.Proofs.YtcfedmheblbdnaaDoor.V
open Go Go.V Go.RowKit

noncomputable def tx_b18925 : ByteArray := opq { data := #[48, 49, 50, 51, 52, 53, 54, 55, 56, 57, 97, 98, 99, 100, 101, 102, 103, 104, 105, 106, 107, 108, 109, 110, 111, 112, 113, 114, 115, 116, 117, 118, 119, 120, 121, 122] }
theorem tx_b18925_eq : tx_b18925 = { data := #[48, 49, 50, 51, 52, 53, 54, 55, 56, 57, 97, 98, 99, 100, 101, 102, 103, 104, 105, 106, 107, 108, 109, 110, 111, 112, 113, 114, 115, 116, 117, 118, 119, 120, 121, 122] } := opq_eq _
noncomputable def tx_730b8f : ByteArray := opq { data := (.append #[48, 48, 48, 49, 48, 50, 48, 51, 48, 52, 48, 53, 48, 54, 48, 55, 48, 56, 48, 57, 49, 48, 49, 49, 49, 50, 49, 51, 49, 52, 49, 53, 49, 54, 49, 55, 49, 56, 49, 57, 50, 48, 50, 49, 50, 50, 50, 51, 50, 52, 50, 53, 50, 54, 50, 55, 50, 56, 50, 57, 51, 48, 51, 49, 51, 50, 51, 51, 51, 52, 51, 53, 51, 54, 51, 55, 51, 56, 51, 57, 52, 48, 52, 49, 52, 50, 52, 51, 52, 52, 52, 53, 52, 54, 52, 55, 52, 56, 52, 57] #[53, 48, 53, 49, 53, 50, 53, 51, 53, 52, 53, 53, 53, 54, 53, 55, 53, 56, 53, 57, 54, 48, 54, 49, 54, 50, 54, 51, 54, 52, 54, 53, 54, 54, 54, 55, 54, 56, 54, 57, 55, 48, 55, 49, 55, 50, 55, 51, 55, 52, 55, 53, 55, 54, 55, 55, 55, 56, 55, 57, 56, 48, 56, 49, 56, 50, 56, 51, 56, 52, 56, 53, 56, 54, 56, 55, 56, 56, 56, 57, 57, 48, 57, 49, 57, 50, 57, 51, 57, 52, 57, 53, 57, 54, 57, 55, 57, 56, 57, 57]) }
theorem tx_730b8f_eq : tx_730b8f = { data := (.append #[48, 48, 48, 49, 48, 50, 48, 51, 48, 52, 48, 53, 48, 54, 48, 55, 48, 56, 48, 57, 49, 48, 49, 49, 49, 50, 49, 51, 49, 52, 49, 53, 49, 54, 49, 55, 49, 56, 49, 57, 50, 48, 50, 49, 50, 50, 50, 51, 50, 52, 50, 53, 50, 54, 50, 55, 50, 56, 50, 57, 51, 48, 51, 49, 51, 50, 51, 51, 51, 52, 51, 53, 51, 54, 51, 55, 51, 56, 51, 57, 52, 48, 52, 49, 52, 50, 52, 51, 52, 52, 52, 53, 52, 54, 52, 55, 52, 56, 52, 57] #[53, 48, 53, 49, 53, 50, 53, 51, 53, 52, 53, 53, 53, 54, 53, 55, 53, 56, 53, 57, 54, 48, 54, 49, 54, 50, 54, 51, 54, 52, 54, 53, 54, 54, 54, 55, 54, 56, 54, 57, 55, 48, 55, 49, 55, 50, 55, 51, 55, 52, 55, 53, 55, 54, 55, 55, 55, 56, 55, 57, 56, 48, 56, 49, 56, 50, 56, 51, 56, 52, 56, 53, 56, 54, 56, 55, 56, 56, 56, 57, 57, 48, 57, 49, 57, 50, 57, 51, 57, 52, 57, 53, 57, 54, 57, 55, 57, 56, 57, 57]) } := opq_eq _

/-! ### 84: internal/strconv.small (3); results 2; slots: 0 i, 1 i -/
noncomputable def f84_b : Sim Tryd.prog :=
 (.seq (.live [0] (.region 0 [
 ⟨(opAssign (some 2) (.const (Value.string { data := #[] })) 9 "itoa.go:171" #[]).op, none⟩
 ] (by kernel_rfl)))
 (.seq (.seq (.live [0, 4] (.region 1 [
 ⟨(opMove (some 3) (.tmp 0) 3 "itoa.go:172" #[]).op, none⟩,
 ⟨(opBin (some 4) .lss 3 (.tmp 3) (.const (Value.int IntKind.i64 10)) 3 4 "itoa.go:172" #[{ on := 0, ground := Ground.data }]).op, none⟩
 ] (by kernel_rfl)))
 (.cond (.tmp 4)
 (.seq (.live [2] (.region 2 [
 ⟨(opMove (some 5) (.tmp 0) 3 "itoa.go:173" #[]).op, none⟩,
 ⟨(opMove (some 6) (.tmp 0) 3 "itoa.go:173" #[]).op, none⟩,
 ⟨(opBin (some 7) .add 3 (.tmp 6) (.const (Value.int IntKind.i64 1)) 3 3 "itoa.go:173" #[{ on := 1, ground := Ground.data }]).op, none⟩,
 ⟨(PSim.named (opSliceStrW (some 8) 9 (.const (Value.string { data := #[48, 49, 50, 51, 52, 53, 54, 55, 56, 57, 97, 98, 99, 100, 101, 102, 103, 104, 105, 106, 107, 108, 109, 110, 111, 112, 113, 114, 115, 116, 117, 118, 119, 120, 121, 122] })) (some (.tmp 5)) (some (.tmp 7)) Tryd.underlying9 9 "itoa.go:173" #[{ on := 0, ground := Ground.data }, { on := 2, ground := Ground.data }]) tx_b18925 { data := #[48, 49, 50, 51, 52, 53, 54, 55, 56, 57, 97, 98, 99, 100, 101, 102, 103, 104, 105, 106, 107, 108, 109, 110, 111, 112, 113, 114, 115, 116, 117, 118, 119, 120, 121, 122] } tx_b18925_eq (by kernel_rfl)).op, none⟩,
 ⟨(opAssign (some 2) (.tmp 8) 9 "itoa.go:173" #[{ on := 3, ground := Ground.data }, { on := 0, ground := Ground.phase }, { on := 1, ground := Ground.phase }, { on := 2, ground := Ground.phase }, { on := 3, ground := Ground.phase }]).op, none⟩
 ] (by kernel_rfl)))
 (.live [2] .ret))
 .skip))
 (.seq (.live [2] (.region 3 [
 ⟨(opMove (some 9) (.tmp 0) 3 "itoa.go:175" #[]).op, none⟩,
 ⟨(opBin (some 10) .mul 3 (.tmp 9) (.const (Value.int IntKind.i64 2)) 3 3 "itoa.go:175" #[{ on := 0, ground := Ground.data }]).op, none⟩,
 ⟨(opMove (some 11) (.tmp 0) 3 "itoa.go:175" #[]).op, none⟩,
 ⟨(opBin (some 12) .mul 3 (.tmp 11) (.const (Value.int IntKind.i64 2)) 3 3 "itoa.go:175" #[{ on := 2, ground := Ground.data }]).op, none⟩,
 ⟨(opBin (some 13) .add 3 (.tmp 12) (.const (Value.int IntKind.i64 2)) 3 3 "itoa.go:175" #[{ on := 3, ground := Ground.data }]).op, none⟩,
 ⟨(PSim.named (opSliceStrW (some 14) 9 (.const (Value.string { data := (.append #[48, 48, 48, 49, 48, 50, 48, 51, 48, 52, 48, 53, 48, 54, 48, 55, 48, 56, 48, 57, 49, 48, 49, 49, 49, 50, 49, 51, 49, 52, 49, 53, 49, 54, 49, 55, 49, 56, 49, 57, 50, 48, 50, 49, 50, 50, 50, 51, 50, 52, 50, 53, 50, 54, 50, 55, 50, 56, 50, 57, 51, 48, 51, 49, 51, 50, 51, 51, 51, 52, 51, 53, 51, 54, 51, 55, 51, 56, 51, 57, 52, 48, 52, 49, 52, 50, 52, 51, 52, 52, 52, 53, 52, 54, 52, 55, 52, 56, 52, 57] #[53, 48, 53, 49, 53, 50, 53, 51, 53, 52, 53, 53, 53, 54, 53, 55, 53, 56, 53, 57, 54, 48, 54, 49, 54, 50, 54, 51, 54, 52, 54, 53, 54, 54, 54, 55, 54, 56, 54, 57, 55, 48, 55, 49, 55, 50, 55, 51, 55, 52, 55, 53, 55, 54, 55, 55, 55, 56, 55, 57, 56, 48, 56, 49, 56, 50, 56, 51, 56, 52, 56, 53, 56, 54, 56, 55, 56, 56, 56, 57, 57, 48, 57, 49, 57, 50, 57, 51, 57, 52, 57, 53, 57, 54, 57, 55, 57, 56, 57, 57]) })) (some (.tmp 10)) (some (.tmp 13)) Tryd.underlying9 9 "itoa.go:175" #[{ on := 1, ground := Ground.data }, { on := 4, ground := Ground.data }]) tx_730b8f { data := (.append #[48, 48, 48, 49, 48, 50, 48, 51, 48, 52, 48, 53, 48, 54, 48, 55, 48, 56, 48, 57, 49, 48, 49, 49, 49, 50, 49, 51, 49, 52, 49, 53, 49, 54, 49, 55, 49, 56, 49, 57, 50, 48, 50, 49, 50, 50, 50, 51, 50, 52, 50, 53, 50, 54, 50, 55, 50, 56, 50, 57, 51, 48, 51, 49, 51, 50, 51, 51, 51, 52, 51, 53, 51, 54, 51, 55, 51, 56, 51, 57, 52, 48, 52, 49, 52, 50, 52, 51, 52, 52, 52, 53, 52, 54, 52, 55, 52, 56, 52, 57] #[53, 48, 53, 49, 53, 50, 53, 51, 53, 52, 53, 53, 53, 54, 53, 55, 53, 56, 53, 57, 54, 48, 54, 49, 54, 50, 54, 51, 54, 52, 54, 53, 54, 54, 54, 55, 54, 56, 54, 57, 55, 48, 55, 49, 55, 50, 55, 51, 55, 52, 55, 53, 55, 54, 55, 55, 55, 56, 55, 57, 56, 48, 56, 49, 56, 50, 56, 51, 56, 52, 56, 53, 56, 54, 56, 55, 56, 56, 56, 57, 57, 48, 57, 49, 57, 50, 57, 51, 57, 52, 57, 53, 57, 54, 57, 55, 57, 56, 57, 57]) } tx_730b8f_eq (by kernel_rfl)).op, none⟩,
 ⟨(opAssign (some 2) (.tmp 14) 9 "itoa.go:175" #[{ on := 5, ground := Ground.data }, { on := 0, ground := Ground.phase }, { on := 1, ground := Ground.phase }, { on := 2, ground := Ground.phase }, { on := 3, ground := Ground.phase }, { on := 4, ground := Ground.phase }, { on := 5, ground := Ground.phase }]).op, none⟩
 ] (by kernel_rfl)))
 (.live [2] .ret))))

noncomputable def f84 : Fun Tryd.prog where
 id := 84
 fn := Tryd.f84
 hf := Tryd.func84
 hname := by kernel_rfl
 body := f84_b
 hbody := by kernel_rfl
 res := [rTmp 2]
 hres := by kernel_rfl
 n := 15
 hn := by kernel_rfl

/-! ### 86: internal/strconv.formatBase10 (46, 84); results ; slots:  -/
/-- A loop's round; at its head live: 0 , 1 , 4  -/
noncomputable def f86_l0 : Sim Tryd.prog :=
 (.seq (.seq (.live [0, 1, 4, 20] (.region 1 [
 ⟨(opMove (some 19) (.tmp 4) 3 "itoa.go:196" #[]).op, none⟩,
 ⟨(opBin (some 20) .geq 3 (.tmp 19) (.const (Value.int IntKind.i64 8)) 3 4 "itoa.go:196" #[{ on := 0, ground := Ground.data }]).op, none⟩
 ] (by kernel_rfl)))
 (.cond (.tmp 20)
 .skip
 (.live [0, 1, 4] (.exit 0))))
 (.block 1 (.seq (.live [0, 1, 4, 5] (.region 2 [
 ⟨(opMove (some 21) (.tmp 1) 84 "itoa.go:198" #[]).op, none⟩,
 ⟨(opBin (some 22) .rem 84 (.tmp 21) (.const (Value.int IntKind.u64 100000000)) 84 84 "itoa.go:198" #[{ on := 0, ground := Ground.data }]).op, none⟩,
 ⟨(opConvInt (some 23) 84 118 (.tmp 22) (.int .u64) Tryd.underlying84 .u32 Tryd.underlying118 118 "itoa.go:198" #[{ on := 1, ground := Ground.data }]).op, none⟩,
 ⟨(opAssign (some 5) (.tmp 23) 118 "itoa.go:198" #[{ on := 2, ground := Ground.data }, { on := 0, ground := Ground.phase }, { on := 1, ground := Ground.phase }, { on := 2, ground := Ground.phase }]).op, none⟩
 ] (by kernel_rfl)))
 (.seq (.live [0, 1, 4, 5] (.region 3 [
 ⟨(opMove (some 24) (.tmp 1) 84 "itoa.go:199" #[]).op, none⟩,
 ⟨(opBin (some 25) .quo 84 (.tmp 24) (.const (Value.int IntKind.u64 100000000)) 84 84 "itoa.go:199" #[{ on := 0, ground := Ground.data }]).op, none⟩,
 ⟨(opAssign (some 1) (.tmp 25) 84 "itoa.go:199" #[{ on := 1, ground := Ground.data }, { on := 0, ground := Ground.phase }, { on := 1, ground := Ground.phase }]).op, none⟩
 ] (by kernel_rfl)))
 (.seq (.live [0, 1, 4, 6, 7] (.region 4 [
 ⟨(opMove (some 26) (.tmp 5) 118 "itoa.go:200" #[]).op, none⟩,
 ⟨(opBin (some 27) .quo 118 (.tmp 26) (.const (Value.int IntKind.u32 10000)) 118 118 "itoa.go:200" #[{ on := 0, ground := Ground.data }]).op, none⟩,
 ⟨(opMove (some 28) (.tmp 5) 118 "itoa.go:200" #[{ on := 4, ground := (Ground.gcOnly Departure.lateStores) }]).op, none⟩,
 ⟨(opBin (some 29) .rem 118 (.tmp 28) (.const (Value.int IntKind.u32 10000)) 118 118 "itoa.go:200" #[{ on := 2, ground := Ground.data }, { on := 4, ground := (Ground.gcOnly Departure.lateStores) }]).op, none⟩,
 ⟨(opAssign (some 6) (.tmp 27) 118 "itoa.go:200" #[{ on := 1, ground := Ground.data }, { on := 0, ground := Ground.phase }, { on := 1, ground := Ground.phase }, { on := 2, ground := (Ground.textOnly Departure.lateStores) }, { on := 3, ground := (Ground.textOnly Departure.lateStores) }]).op, none⟩,
 ⟨(opAssign (some 7) (.tmp 29) 118 "itoa.go:200" #[{ on := 3, ground := Ground.data }, { on := 4, ground := Ground.chain }, { on := 0, ground := Ground.phase }, { on := 1, ground := Ground.phase }, { on := 2, ground := Ground.phase }, { on := 3, ground := Ground.phase }, { on := 4, ground := Ground.phase }]).op, none⟩
 ] (by kernel_rfl)))
 (.seq (.live [0, 1, 4, 6, 8, 9] (.region 5 [
 ⟨(opMove (some 30) (.tmp 7) 118 "itoa.go:201" #[]).op, none⟩,
 ⟨(opBin (some 31) .quo 118 (.tmp 30) (.const (Value.int IntKind.u32 100)) 118 118 "itoa.go:201" #[{ on := 0, ground := Ground.data }]).op, none⟩,
 ⟨(opBin (some 32) .mul 118 (.tmp 31) (.const (Value.int IntKind.u32 2)) 118 118 "itoa.go:201" #[{ on := 1, ground := Ground.data }]).op, none⟩,
 ⟨(opMove (some 33) (.tmp 7) 118 "itoa.go:201" #[{ on := 6, ground := (Ground.gcOnly Departure.lateStores) }]).op, none⟩,
 ⟨(opBin (some 34) .rem 118 (.tmp 33) (.const (Value.int IntKind.u32 100)) 118 118 "itoa.go:201" #[{ on := 3, ground := Ground.data }, { on := 6, ground := (Ground.gcOnly Departure.lateStores) }]).op, none⟩,
 ⟨(opBin (some 35) .mul 118 (.tmp 34) (.const (Value.int IntKind.u32 2)) 118 118 "itoa.go:201" #[{ on := 4, ground := Ground.data }, { on := 6, ground := (Ground.gcOnly Departure.lateStores) }]).op, none⟩,
 ⟨(opAssign (some 8) (.tmp 32) 118 "itoa.go:201" #[{ on := 2, ground := Ground.data }, { on := 0, ground := Ground.phase }, { on := 1, ground := Ground.phase }, { on := 2, ground := Ground.phase }, { on := 3, ground := (Ground.textOnly Departure.lateStores) }, { on := 4, ground := (Ground.textOnly Departure.lateStores) }, { on := 5, ground := (Ground.textOnly Departure.lateStores) }]).op, none⟩,
 ⟨(opAssign (some 9) (.tmp 35) 118 "itoa.go:201" #[{ on := 5, ground := Ground.data }, { on := 6, ground := Ground.chain }, { on := 0, ground := Ground.phase }, { on := 1, ground := Ground.phase }, { on := 2, ground := Ground.phase }, { on := 3, ground := Ground.phase }, { on := 4, ground := Ground.phase }, { on := 5, ground := Ground.phase }, { on := 6, ground := Ground.phase }]).op, none⟩
 ] (by kernel_rfl)))
 (.seq (.live [0, 1, 4, 8, 9, 10, 11] (.region 6 [
 ⟨(opMove (some 36) (.tmp 6) 118 "itoa.go:202" #[]).op, none⟩,
 ⟨(opBin (some 37) .quo 118 (.tmp 36) (.const (Value.int IntKind.u32 100)) 118 118 "itoa.go:202" #[{ on := 0, ground := Ground.data }]).op, none⟩,
 ⟨(opBin (some 38) .mul 118 (.tmp 37) (.const (Value.int IntKind.u32 2)) 118 118 "itoa.go:202" #[{ on := 1, ground := Ground.data }]).op, none⟩,
 ⟨(opMove (some 39) (.tmp 6) 118 "itoa.go:202" #[{ on := 6, ground := (Ground.gcOnly Departure.lateStores) }]).op, none⟩,
 ⟨(opBin (some 40) .rem 118 (.tmp 39) (.const (Value.int IntKind.u32 100)) 118 118 "itoa.go:202" #[{ on := 3, ground := Ground.data }, { on := 6, ground := (Ground.gcOnly Departure.lateStores) }]).op, none⟩,
 ⟨(opBin (some 41) .mul 118 (.tmp 40) (.const (Value.int IntKind.u32 2)) 118 118 "itoa.go:202" #[{ on := 4, ground := Ground.data }, { on := 6, ground := (Ground.gcOnly Departure.lateStores) }]).op, none⟩,
 ⟨(opAssign (some 10) (.tmp 38) 118 "itoa.go:202" #[{ on := 2, ground := Ground.data }, { on := 0, ground := Ground.phase }, { on := 1, ground := Ground.phase }, { on := 2, ground := Ground.phase }, { on := 3, ground := (Ground.textOnly Departure.lateStores) }, { on := 4, ground := (Ground.textOnly Departure.lateStores) }, { on := 5, ground := (Ground.textOnly Departure.lateStores) }]).op, none⟩,
 ⟨(opAssign (some 11) (.tmp 41) 118 "itoa.go:202" #[{ on := 5, ground := Ground.data }, { on := 6, ground := Ground.chain }, { on := 0, ground := Ground.phase }, { on := 1, ground := Ground.phase }, { on := 2, ground := Ground.phase }, { on := 3, ground := Ground.phase }, { on := 4, ground := Ground.phase }, { on := 5, ground := Ground.phase }, { on := 6, ground := Ground.phase }]).op, none⟩
 ] (by kernel_rfl)))
 (.seq (.live [0, 1, 4, 8, 10, 11] (.draw 7 [
 ⟨.p (opMove (some 42) (.tmp 0) 46 "itoa.go:203" #[]), none⟩,
 ⟨.p (opMove (some 43) (.tmp 4) 3 "itoa.go:203" #[]), none⟩,
 ⟨.pn (opBin (some 44) .sub 3 (.tmp 43) (.const (Value.int IntKind.i64 1)) 3 3 "itoa.go:203" #[{ on := 1, ground := Ground.data }]) opBin_nat, none⟩,
 ⟨.p (opMove (some 45) (.tmp 0) 46 "itoa.go:203" #[{ on := 12, ground := (Ground.gcOnly Departure.lateStores) }]), none⟩,
 ⟨.p (opMove (some 46) (.tmp 4) 3 "itoa.go:203" #[{ on := 12, ground := (Ground.gcOnly Departure.lateStores) }]), none⟩,
 ⟨.pn (opBin (some 47) .sub 3 (.tmp 46) (.const (Value.int IntKind.i64 2)) 3 3 "itoa.go:203" #[{ on := 4, ground := Ground.data }, { on := 12, ground := (Ground.gcOnly Departure.lateStores) }]) opBin_nat, none⟩,
 ⟨.p (opMove (some 48) (.tmp 9) 118 "itoa.go:203" #[]), none⟩,
 ⟨.pn (opBin (some 49) .add 118 (.tmp 48) (.const (Value.int IntKind.u32 1)) 118 118 "itoa.go:203" #[{ on := 6, ground := Ground.data }]) opBin_nat, none⟩,
 ⟨.pn (PSim.named (opIndexStrW (some 50) 9 (.const (Value.string { data := (.append #[48, 48, 48, 49, 48, 50, 48, 51, 48, 52, 48, 53, 48, 54, 48, 55, 48, 56, 48, 57, 49, 48, 49, 49, 49, 50, 49, 51, 49, 52, 49, 53, 49, 54, 49, 55, 49, 56, 49, 57, 50, 48, 50, 49, 50, 50, 50, 51, 50, 52, 50, 53, 50, 54, 50, 55, 50, 56, 50, 57, 51, 48, 51, 49, 51, 50, 51, 51, 51, 52, 51, 53, 51, 54, 51, 55, 51, 56, 51, 57, 52, 48, 52, 49, 52, 50, 52, 51, 52, 52, 52, 53, 52, 54, 52, 55, 52, 56, 52, 57] #[53, 48, 53, 49, 53, 50, 53, 51, 53, 52, 53, 53, 53, 54, 53, 55, 53, 56, 53, 57, 54, 48, 54, 49, 54, 50, 54, 51, 54, 52, 54, 53, 54, 54, 54, 55, 54, 56, 54, 57, 55, 48, 55, 49, 55, 50, 55, 51, 55, 52, 55, 53, 55, 54, 55, 55, 55, 56, 55, 57, 56, 48, 56, 49, 56, 50, 56, 51, 56, 52, 56, 53, 56, 54, 56, 55, 56, 56, 56, 57, 57, 48, 57, 49, 57, 50, 57, 51, 57, 52, 57, 53, 57, 54, 57, 55, 57, 56, 57, 57]) })) (.tmp 49) Tryd.underlying9 5 "itoa.go:203" #[{ on := 7, ground := Ground.data }]) tx_730b8f { data := (.append #[48, 48, 48, 49, 48, 50, 48, 51, 48, 52, 48, 53, 48, 54, 48, 55, 48, 56, 48, 57, 49, 48, 49, 49, 49, 50, 49, 51, 49, 52, 49, 53, 49, 54, 49, 55, 49, 56, 49, 57, 50, 48, 50, 49, 50, 50, 50, 51, 50, 52, 50, 53, 50, 54, 50, 55, 50, 56, 50, 57, 51, 48, 51, 49, 51, 50, 51, 51, 51, 52, 51, 53, 51, 54, 51, 55, 51, 56, 51, 57, 52, 48, 52, 49, 52, 50, 52, 51, 52, 52, 52, 53, 52, 54, 52, 55, 52, 56, 52, 57] #[53, 48, 53, 49, 53, 50, 53, 51, 53, 52, 53, 53, 53, 54, 53, 55, 53, 56, 53, 57, 54, 48, 54, 49, 54, 50, 54, 51, 54, 52, 54, 53, 54, 54, 54, 55, 54, 56, 54, 57, 55, 48, 55, 49, 55, 50, 55, 51, 55, 52, 55, 53, 55, 54, 55, 55, 55, 56, 55, 57, 56, 48, 56, 49, 56, 50, 56, 51, 56, 52, 56, 53, 56, 54, 56, 55, 56, 56, 56, 57, 57, 48, 57, 49, 57, 50, 57, 51, 57, 52, 57, 53, 57, 54, 57, 55, 57, 56, 57, 57]) } tx_730b8f_eq (by kernel_rfl)) (PSim.named_nat opIndexStrW_nat), none⟩,
 ⟨.p (opMove (some 51) (.tmp 9) 118 "itoa.go:203" #[]), none⟩,
 ⟨.pn (PSim.named (opIndexStrW (some 52) 9 (.const (Value.string { data := (.append #[48, 48, 48, 49, 48, 50, 48, 51, 48, 52, 48, 53, 48, 54, 48, 55, 48, 56, 48, 57, 49, 48, 49, 49, 49, 50, 49, 51, 49, 52, 49, 53, 49, 54, 49, 55, 49, 56, 49, 57, 50, 48, 50, 49, 50, 50, 50, 51, 50, 52, 50, 53, 50, 54, 50, 55, 50, 56, 50, 57, 51, 48, 51, 49, 51, 50, 51, 51, 51, 52, 51, 53, 51, 54, 51, 55, 51, 56, 51, 57, 52, 48, 52, 49, 52, 50, 52, 51, 52, 52, 52, 53, 52, 54, 52, 55, 52, 56, 52, 57] #[53, 48, 53, 49, 53, 50, 53, 51, 53, 52, 53, 53, 53, 54, 53, 55, 53, 56, 53, 57, 54, 48, 54, 49, 54, 50, 54, 51, 54, 52, 54, 53, 54, 54, 54, 55, 54, 56, 54, 57, 55, 48, 55, 49, 55, 50, 55, 51, 55, 52, 55, 53, 55, 54, 55, 55, 55, 56, 55, 57, 56, 48, 56, 49, 56, 50, 56, 51, 56, 52, 56, 53, 56, 54, 56, 55, 56, 56, 56, 57, 57, 48, 57, 49, 57, 50, 57, 51, 57, 52, 57, 53, 57, 54, 57, 55, 57, 56, 57, 57]) })) (.tmp 51) Tryd.underlying9 5 "itoa.go:203" #[{ on := 9, ground := Ground.data }]) tx_730b8f { data := (.append #[48, 48, 48, 49, 48, 50, 48, 51, 48, 52, 48, 53, 48, 54, 48, 55, 48, 56, 48, 57, 49, 48, 49, 49, 49, 50, 49, 51, 49, 52, 49, 53, 49, 54, 49, 55, 49, 56, 49, 57, 50, 48, 50, 49, 50, 50, 50, 51, 50, 52, 50, 53, 50, 54, 50, 55, 50, 56, 50, 57, 51, 48, 51, 49, 51, 50, 51, 51, 51, 52, 51, 53, 51, 54, 51, 55, 51, 56, 51, 57, 52, 48, 52, 49, 52, 50, 52, 51, 52, 52, 52, 53, 52, 54, 52, 55, 52, 56, 52, 57] #[53, 48, 53, 49, 53, 50, 53, 51, 53, 52, 53, 53, 53, 54, 53, 55, 53, 56, 53, 57, 54, 48, 54, 49, 54, 50, 54, 51, 54, 52, 54, 53, 54, 54, 54, 55, 54, 56, 54, 57, 55, 48, 55, 49, 55, 50, 55, 51, 55, 52, 55, 53, 55, 54, 55, 55, 55, 56, 55, 57, 56, 48, 56, 49, 56, 50, 56, 51, 56, 52, 56, 53, 56, 54, 56, 55, 56, 56, 56, 57, 57, 48, 57, 49, 57, 50, 57, 51, 57, 52, 57, 53, 57, 54, 57, 55, 57, 56, 57, 57]) } tx_730b8f_eq (by kernel_rfl)) (PSim.named_nat opIndexStrW_nat), none⟩,
 ⟨.pn (opIndexAddrT (some 53) 46 (.tmp 42) (.tmp 44) 5 1 Tryd.underlying46 sz5 0 "itoa.go:203" #[{ on := 0, ground := Ground.data }, { on := 2, ground := Ground.data }, { on := 0, ground := Ground.phase }, { on := 1, ground := Ground.phase }, { on := 2, ground := Ground.phase }, { on := 3, ground := (Ground.textOnly Departure.lateStores) }, { on := 4, ground := (Ground.textOnly Departure.lateStores) }, { on := 5, ground := (Ground.textOnly Departure.lateStores) }, { on := 6, ground := Ground.phase }, { on := 7, ground := Ground.phase }, { on := 8, ground := Ground.phase }, { on := 9, ground := (Ground.textOnly Departure.lateStores) }, { on := 10, ground := (Ground.textOnly Departure.lateStoresUnsure) }]) opIndexAddrT_nat, none⟩,
 ⟨.mn (opStoreC none 5 (.tmp 53) (.tmp 50) 1 sz5 0 "itoa.go:203" #[{ on := 11, ground := Ground.data }, { on := 8, ground := Ground.data }, { on := 0, ground := Ground.phase }, { on := 1, ground := Ground.phase }, { on := 2, ground := Ground.phase }, { on := 3, ground := (Ground.textOnly Departure.lateStores) }, { on := 4, ground := (Ground.textOnly Departure.lateStores) }, { on := 5, ground := (Ground.textOnly Departure.lateStores) }, { on := 6, ground := Ground.phase }, { on := 7, ground := Ground.phase }, { on := 8, ground := Ground.phase }, { on := 9, ground := (Ground.textOnly Departure.lateStores) }, { on := 10, ground := (Ground.textOnly Departure.lateStoresUnsure) }]) opStoreC_nat, none⟩,
 ⟨.pn (opIndexAddrT (some 54) 46 (.tmp 45) (.tmp 47) 5 1 Tryd.underlying46 sz5 0 "itoa.go:203" #[{ on := 3, ground := Ground.data }, { on := 5, ground := Ground.data }, { on := 0, ground := Ground.phase }, { on := 1, ground := Ground.phase }, { on := 2, ground := Ground.phase }, { on := 3, ground := Ground.phase }, { on := 4, ground := Ground.phase }, { on := 5, ground := Ground.phase }, { on := 6, ground := Ground.phase }, { on := 7, ground := Ground.phase }, { on := 8, ground := Ground.phase }, { on := 9, ground := Ground.phase }, { on := 10, ground := Ground.phase }, { on := 11, ground := Ground.phase }, { on := 12, ground := Ground.phase }]) opIndexAddrT_nat, none⟩,
 ⟨.mn (opStoreC none 5 (.tmp 54) (.tmp 52) 1 sz5 0 "itoa.go:203" #[{ on := 13, ground := Ground.data }, { on := 10, ground := Ground.data }, { on := 12, ground := Ground.chain }, { on := 0, ground := Ground.phase }, { on := 1, ground := Ground.phase }, { on := 2, ground := Ground.phase }, { on := 3, ground := Ground.phase }, { on := 4, ground := Ground.phase }, { on := 5, ground := Ground.phase }, { on := 6, ground := Ground.phase }, { on := 7, ground := Ground.phase }, { on := 8, ground := Ground.phase }, { on := 9, ground := Ground.phase }, { on := 10, ground := Ground.phase }, { on := 11, ground := Ground.phase }, { on := 12, ground := Ground.phase }]) opStoreC_nat, none⟩
 ] mixed (by kernel_rfl)))
 (.seq (.live [0, 1, 4, 10, 11] (.draw 8 [
 ⟨.p (opMove (some 55) (.tmp 0) 46 "itoa.go:204" #[]), none⟩,
 ⟨.p (opMove (some 56) (.tmp 4) 3 "itoa.go:204" #[]), none⟩,
 ⟨.pn (opBin (some 57) .sub 3 (.tmp 56) (.const (Value.int IntKind.i64 3)) 3 3 "itoa.go:204" #[{ on := 1, ground := Ground.data }]) opBin_nat, none⟩,
 ⟨.p (opMove (some 58) (.tmp 0) 46 "itoa.go:204" #[{ on := 12, ground := (Ground.gcOnly Departure.lateStores) }]), none⟩,
 ⟨.p (opMove (some 59) (.tmp 4) 3 "itoa.go:204" #[{ on := 12, ground := (Ground.gcOnly Departure.lateStores) }]), none⟩,
 ⟨.pn (opBin (some 60) .sub 3 (.tmp 59) (.const (Value.int IntKind.i64 4)) 3 3 "itoa.go:204" #[{ on := 4, ground := Ground.data }, { on := 12, ground := (Ground.gcOnly Departure.lateStores) }]) opBin_nat, none⟩,
 ⟨.p (opMove (some 61) (.tmp 8) 118 "itoa.go:204" #[]), none⟩,
 ⟨.pn (opBin (some 62) .add 118 (.tmp 61) (.const (Value.int IntKind.u32 1)) 118 118 "itoa.go:204" #[{ on := 6, ground := Ground.data }]) opBin_nat, none⟩,
 ⟨.pn (PSim.named (opIndexStrW (some 63) 9 (.const (Value.string { data := (.append #[48, 48, 48, 49, 48, 50, 48, 51, 48, 52, 48, 53, 48, 54, 48, 55, 48, 56, 48, 57, 49, 48, 49, 49, 49, 50, 49, 51, 49, 52, 49, 53, 49, 54, 49, 55, 49, 56, 49, 57, 50, 48, 50, 49, 50, 50, 50, 51, 50, 52, 50, 53, 50, 54, 50, 55, 50, 56, 50, 57, 51, 48, 51, 49, 51, 50, 51, 51, 51, 52, 51, 53, 51, 54, 51, 55, 51, 56, 51, 57, 52, 48, 52, 49, 52, 50, 52, 51, 52, 52, 52, 53, 52, 54, 52, 55, 52, 56, 52, 57] #[53, 48, 53, 49, 53, 50, 53, 51, 53, 52, 53, 53, 53, 54, 53, 55, 53, 56, 53, 57, 54, 48, 54, 49, 54, 50, 54, 51, 54, 52, 54, 53, 54, 54, 54, 55, 54, 56, 54, 57, 55, 48, 55, 49, 55, 50, 55, 51, 55, 52, 55, 53, 55, 54, 55, 55, 55, 56, 55, 57, 56, 48, 56, 49, 56, 50, 56, 51, 56, 52, 56, 53, 56, 54, 56, 55, 56, 56, 56, 57, 57, 48, 57, 49, 57, 50, 57, 51, 57, 52, 57, 53, 57, 54, 57, 55, 57, 56, 57, 57]) })) (.tmp 62) Tryd.underlying9 5 "itoa.go:204" #[{ on := 7, ground := Ground.data }]) tx_730b8f { data := (.append #[48, 48, 48, 49, 48, 50, 48, 51, 48, 52, 48, 53, 48, 54, 48, 55, 48, 56, 48, 57, 49, 48, 49, 49, 49, 50, 49, 51, 49, 52, 49, 53, 49, 54, 49, 55, 49, 56, 49, 57, 50, 48, 50, 49, 50, 50, 50, 51, 50, 52, 50, 53, 50, 54, 50, 55, 50, 56, 50, 57, 51, 48, 51, 49, 51, 50, 51, 51, 51, 52, 51, 53, 51, 54, 51, 55, 51, 56, 51, 57, 52, 48, 52, 49, 52, 50, 52, 51, 52, 52, 52, 53, 52, 54, 52, 55, 52, 56, 52, 57] #[53, 48, 53, 49, 53, 50, 53, 51, 53, 52, 53, 53, 53, 54, 53, 55, 53, 56, 53, 57, 54, 48, 54, 49, 54, 50, 54, 51, 54, 52, 54, 53, 54, 54, 54, 55, 54, 56, 54, 57, 55, 48, 55, 49, 55, 50, 55, 51, 55, 52, 55, 53, 55, 54, 55, 55, 55, 56, 55, 57, 56, 48, 56, 49, 56, 50, 56, 51, 56, 52, 56, 53, 56, 54, 56, 55, 56, 56, 56, 57, 57, 48, 57, 49, 57, 50, 57, 51, 57, 52, 57, 53, 57, 54, 57, 55, 57, 56, 57, 57]) } tx_730b8f_eq (by kernel_rfl)) (PSim.named_nat opIndexStrW_nat), none⟩,
 ⟨.p (opMove (some 64) (.tmp 8) 118 "itoa.go:204" #[]), none⟩,
 ⟨.pn (PSim.named (opIndexStrW (some 65) 9 (.const (Value.string { data := (.append #[48, 48, 48, 49, 48, 50, 48, 51, 48, 52, 48, 53, 48, 54, 48, 55, 48, 56, 48, 57, 49, 48, 49, 49, 49, 50, 49, 51, 49, 52, 49, 53, 49, 54, 49, 55, 49, 56, 49, 57, 50, 48, 50, 49, 50, 50, 50, 51, 50, 52, 50, 53, 50, 54, 50, 55, 50, 56, 50, 57, 51, 48, 51, 49, 51, 50, 51, 51, 51, 52, 51, 53, 51, 54, 51, 55, 51, 56, 51, 57, 52, 48, 52, 49, 52, 50, 52, 51, 52, 52, 52, 53, 52, 54, 52, 55, 52, 56, 52, 57] #[53, 48, 53, 49, 53, 50, 53, 51, 53, 52, 53, 53, 53, 54, 53, 55, 53, 56, 53, 57, 54, 48, 54, 49, 54, 50, 54, 51, 54, 52, 54, 53, 54, 54, 54, 55, 54, 56, 54, 57, 55, 48, 55, 49, 55, 50, 55, 51, 55, 52, 55, 53, 55, 54, 55, 55, 55, 56, 55, 57, 56, 48, 56, 49, 56, 50, 56, 51, 56, 52, 56, 53, 56, 54, 56, 55, 56, 56, 56, 57, 57, 48, 57, 49, 57, 50, 57, 51, 57, 52, 57, 53, 57, 54, 57, 55, 57, 56, 57, 57]) })) (.tmp 64) Tryd.underlying9 5 "itoa.go:204" #[{ on := 9, ground := Ground.data }]) tx_730b8f { data := (.append #[48, 48, 48, 49, 48, 50, 48, 51, 48, 52, 48, 53, 48, 54, 48, 55, 48, 56, 48, 57, 49, 48, 49, 49, 49, 50, 49, 51, 49, 52, 49, 53, 49, 54, 49, 55, 49, 56, 49, 57, 50, 48, 50, 49, 50, 50, 50, 51, 50, 52, 50, 53, 50, 54, 50, 55, 50, 56, 50, 57, 51, 48, 51, 49, 51, 50, 51, 51, 51, 52, 51, 53, 51, 54, 51, 55, 51, 56, 51, 57, 52, 48, 52, 49, 52, 50, 52, 51, 52, 52, 52, 53, 52, 54, 52, 55, 52, 56, 52, 57] #[53, 48, 53, 49, 53, 50, 53, 51, 53, 52, 53, 53, 53, 54, 53, 55, 53, 56, 53, 57, 54, 48, 54, 49, 54, 50, 54, 51, 54, 52, 54, 53, 54, 54, 54, 55, 54, 56, 54, 57, 55, 48, 55, 49, 55, 50, 55, 51, 55, 52, 55, 53, 55, 54, 55, 55, 55, 56, 55, 57, 56, 48, 56, 49, 56, 50, 56, 51, 56, 52, 56, 53, 56, 54, 56, 55, 56, 56, 56, 57, 57, 48, 57, 49, 57, 50, 57, 51, 57, 52, 57, 53, 57, 54, 57, 55, 57, 56, 57, 57]) } tx_730b8f_eq (by kernel_rfl)) (PSim.named_nat opIndexStrW_nat), none⟩,
 ⟨.pn (opIndexAddrT (some 66) 46 (.tmp 55) (.tmp 57) 5 1 Tryd.underlying46 sz5 0 "itoa.go:204" #[{ on := 0, ground := Ground.data }, { on := 2, ground := Ground.data }, { on := 0, ground := Ground.phase }, { on := 1, ground := Ground.phase }, { on := 2, ground := Ground.phase }, { on := 3, ground := (Ground.textOnly Departure.lateStores) }, { on := 4, ground := (Ground.textOnly Departure.lateStores) }, { on := 5, ground := (Ground.textOnly Departure.lateStores) }, { on := 6, ground := Ground.phase }, { on := 7, ground := Ground.phase }, { on := 8, ground := Ground.phase }, { on := 9, ground := (Ground.textOnly Departure.lateStores) }, { on := 10, ground := (Ground.textOnly Departure.lateStoresUnsure) }]) opIndexAddrT_nat, none⟩,
 ⟨.mn (opStoreC none 5 (.tmp 66) (.tmp 63) 1 sz5 0 "itoa.go:204" #[{ on := 11, ground := Ground.data }, { on := 8, ground := Ground.data }, { on := 0, ground := Ground.phase }, { on := 1, ground := Ground.phase }, { on := 2, ground := Ground.phase }, { on := 3, ground := (Ground.textOnly Departure.lateStores) }, { on := 4, ground := (Ground.textOnly Departure.lateStores) }, { on := 5, ground := (Ground.textOnly Departure.lateStores) }, { on := 6, ground := Ground.phase }, { on := 7, ground := Ground.phase }, { on := 8, ground := Ground.phase }, { on := 9, ground := (Ground.textOnly Departure.lateStores) }, { on := 10, ground := (Ground.textOnly Departure.lateStoresUnsure) }]) opStoreC_nat, none⟩,
 ⟨.pn (opIndexAddrT (some 67) 46 (.tmp 58) (.tmp 60) 5 1 Tryd.underlying46 sz5 0 "itoa.go:204" #[{ on := 3, ground := Ground.data }, { on := 5, ground := Ground.data }, { on := 0, ground := Ground.phase }, { on := 1, ground := Ground.phase }, { on := 2, ground := Ground.phase }, { on := 3, ground := Ground.phase }, { on := 4, ground := Ground.phase }, { on := 5, ground := Ground.phase }, { on := 6, ground := Ground.phase }, { on := 7, ground := Ground.phase }, { on := 8, ground := Ground.phase }, { on := 9, ground := Ground.phase }, { on := 10, ground := Ground.phase }, { on := 11, ground := Ground.phase }, { on := 12, ground := Ground.phase }]) opIndexAddrT_nat, none⟩,
 ⟨.mn (opStoreC none 5 (.tmp 67) (.tmp 65) 1 sz5 0 "itoa.go:204" #[{ on := 13, ground := Ground.data }, { on := 10, ground := Ground.data }, { on := 12, ground := Ground.chain }, { on := 0, ground := Ground.phase }, { on := 1, ground := Ground.phase }, { on := 2, ground := Ground.phase }, { on := 3, ground := Ground.phase }, { on := 4, ground := Ground.phase }, { on := 5, ground := Ground.phase }, { on := 6, ground := Ground.phase }, { on := 7, ground := Ground.phase }, { on := 8, ground := Ground.phase }, { on := 9, ground := Ground.phase }, { on := 10, ground := Ground.phase }, { on := 11, ground := Ground.phase }, { on := 12, ground := Ground.phase }]) opStoreC_nat, none⟩
 ] mixed (by kernel_rfl)))
 (.seq (.live [0, 1, 4, 10] (.draw 9 [
 ⟨.p (opMove (some 68) (.tmp 0) 46 "itoa.go:205" #[]), none⟩,
 ⟨.p (opMove (some 69) (.tmp 4) 3 "itoa.go:205" #[]), none⟩,
 ⟨.pn (opBin (some 70) .sub 3 (.tmp 69) (.const (Value.int IntKind.i64 5)) 3 3 "itoa.go:205" #[{ on := 1, ground := Ground.data }]) opBin_nat, none⟩,
 ⟨.p (opMove (some 71) (.tmp 0) 46 "itoa.go:205" #[{ on := 12, ground := (Ground.gcOnly Departure.lateStores) }]), none⟩,
 ⟨.p (opMove (some 72) (.tmp 4) 3 "itoa.go:205" #[{ on := 12, ground := (Ground.gcOnly Departure.lateStores) }]), none⟩,
 ⟨.pn (opBin (some 73) .sub 3 (.tmp 72) (.const (Value.int IntKind.i64 6)) 3 3 "itoa.go:205" #[{ on := 4, ground := Ground.data }, { on := 12, ground := (Ground.gcOnly Departure.lateStores) }]) opBin_nat, none⟩,
 ⟨.p (opMove (some 74) (.tmp 11) 118 "itoa.go:205" #[]), none⟩,
 ⟨.pn (opBin (some 75) .add 118 (.tmp 74) (.const (Value.int IntKind.u32 1)) 118 118 "itoa.go:205" #[{ on := 6, ground := Ground.data }]) opBin_nat, none⟩,
 ⟨.pn (PSim.named (opIndexStrW (some 76) 9 (.const (Value.string { data := (.append #[48, 48, 48, 49, 48, 50, 48, 51, 48, 52, 48, 53, 48, 54, 48, 55, 48, 56, 48, 57, 49, 48, 49, 49, 49, 50, 49, 51, 49, 52, 49, 53, 49, 54, 49, 55, 49, 56, 49, 57, 50, 48, 50, 49, 50, 50, 50, 51, 50, 52, 50, 53, 50, 54, 50, 55, 50, 56, 50, 57, 51, 48, 51, 49, 51, 50, 51, 51, 51, 52, 51, 53, 51, 54, 51, 55, 51, 56, 51, 57, 52, 48, 52, 49, 52, 50, 52, 51, 52, 52, 52, 53, 52, 54, 52, 55, 52, 56, 52, 57] #[53, 48, 53, 49, 53, 50, 53, 51, 53, 52, 53, 53, 53, 54, 53, 55, 53, 56, 53, 57, 54, 48, 54, 49, 54, 50, 54, 51, 54, 52, 54, 53, 54, 54, 54, 55, 54, 56, 54, 57, 55, 48, 55, 49, 55, 50, 55, 51, 55, 52, 55, 53, 55, 54, 55, 55, 55, 56, 55, 57, 56, 48, 56, 49, 56, 50, 56, 51, 56, 52, 56, 53, 56, 54, 56, 55, 56, 56, 56, 57, 57, 48, 57, 49, 57, 50, 57, 51, 57, 52, 57, 53, 57, 54, 57, 55, 57, 56, 57, 57]) })) (.tmp 75) Tryd.underlying9 5 "itoa.go:205" #[{ on := 7, ground := Ground.data }]) tx_730b8f { data := (.append #[48, 48, 48, 49, 48, 50, 48, 51, 48, 52, 48, 53, 48, 54, 48, 55, 48, 56, 48, 57, 49, 48, 49, 49, 49, 50, 49, 51, 49, 52, 49, 53, 49, 54, 49, 55, 49, 56, 49, 57, 50, 48, 50, 49, 50, 50, 50, 51, 50, 52, 50, 53, 50, 54, 50, 55, 50, 56, 50, 57, 51, 48, 51, 49, 51, 50, 51, 51, 51, 52, 51, 53, 51, 54, 51, 55, 51, 56, 51, 57, 52, 48, 52, 49, 52, 50, 52, 51, 52, 52, 52, 53, 52, 54, 52, 55, 52, 56, 52, 57] #[53, 48, 53, 49, 53, 50, 53, 51, 53, 52, 53, 53, 53, 54, 53, 55, 53, 56, 53, 57, 54, 48, 54, 49, 54, 50, 54, 51, 54, 52, 54, 53, 54, 54, 54, 55, 54, 56, 54, 57, 55, 48, 55, 49, 55, 50, 55, 51, 55, 52, 55, 53, 55, 54, 55, 55, 55, 56, 55, 57, 56, 48, 56, 49, 56, 50, 56, 51, 56, 52, 56, 53, 56, 54, 56, 55, 56, 56, 56, 57, 57, 48, 57, 49, 57, 50, 57, 51, 57, 52, 57, 53, 57, 54, 57, 55, 57, 56, 57, 57]) } tx_730b8f_eq (by kernel_rfl)) (PSim.named_nat opIndexStrW_nat), none⟩,
 ⟨.p (opMove (some 77) (.tmp 11) 118 "itoa.go:205" #[]), none⟩,
 ⟨.pn (PSim.named (opIndexStrW (some 78) 9 (.const (Value.string { data := (.append #[48, 48, 48, 49, 48, 50, 48, 51, 48, 52, 48, 53, 48, 54, 48, 55, 48, 56, 48, 57, 49, 48, 49, 49, 49, 50, 49, 51, 49, 52, 49, 53, 49, 54, 49, 55, 49, 56, 49, 57, 50, 48, 50, 49, 50, 50, 50, 51, 50, 52, 50, 53, 50, 54, 50, 55, 50, 56, 50, 57, 51, 48, 51, 49, 51, 50, 51, 51, 51, 52, 51, 53, 51, 54, 51, 55, 51, 56, 51, 57, 52, 48, 52, 49, 52, 50, 52, 51, 52, 52, 52, 53, 52, 54, 52, 55, 52, 56, 52, 57] #[53, 48, 53, 49, 53, 50, 53, 51, 53, 52, 53, 53, 53, 54, 53, 55, 53, 56, 53, 57, 54, 48, 54, 49, 54, 50, 54, 51, 54, 52, 54, 53, 54, 54, 54, 55, 54, 56, 54, 57, 55, 48, 55, 49, 55, 50, 55, 51, 55, 52, 55, 53, 55, 54, 55, 55, 55, 56, 55, 57, 56, 48, 56, 49, 56, 50, 56, 51, 56, 52, 56, 53, 56, 54, 56, 55, 56, 56, 56, 57, 57, 48, 57, 49, 57, 50, 57, 51, 57, 52, 57, 53, 57, 54, 57, 55, 57, 56, 57, 57]) })) (.tmp 77) Tryd.underlying9 5 "itoa.go:205" #[{ on := 9, ground := Ground.data }]) tx_730b8f { data := (.append #[48, 48, 48, 49, 48, 50, 48, 51, 48, 52, 48, 53, 48, 54, 48, 55, 48, 56, 48, 57, 49, 48, 49, 49, 49, 50, 49, 51, 49, 52, 49, 53, 49, 54, 49, 55, 49, 56, 49, 57, 50, 48, 50, 49, 50, 50, 50, 51, 50, 52, 50, 53, 50, 54, 50, 55, 50, 56, 50, 57, 51, 48, 51, 49, 51, 50, 51, 51, 51, 52, 51, 53, 51, 54, 51, 55, 51, 56, 51, 57, 52, 48, 52, 49, 52, 50, 52, 51, 52, 52, 52, 53, 52, 54, 52, 55, 52, 56, 52, 57] #[53, 48, 53, 49, 53, 50, 53, 51, 53, 52, 53, 53, 53, 54, 53, 55, 53, 56, 53, 57, 54, 48, 54, 49, 54, 50, 54, 51, 54, 52, 54, 53, 54, 54, 54, 55, 54, 56, 54, 57, 55, 48, 55, 49, 55, 50, 55, 51, 55, 52, 55, 53, 55, 54, 55, 55, 55, 56, 55, 57, 56, 48, 56, 49, 56, 50, 56, 51, 56, 52, 56, 53, 56, 54, 56, 55, 56, 56, 56, 57, 57, 48, 57, 49, 57, 50, 57, 51, 57, 52, 57, 53, 57, 54, 57, 55, 57, 56, 57, 57]) } tx_730b8f_eq (by kernel_rfl)) (PSim.named_nat opIndexStrW_nat), none⟩,
 ⟨.pn (opIndexAddrT (some 79) 46 (.tmp 68) (.tmp 70) 5 1 Tryd.underlying46 sz5 0 "itoa.go:205" #[{ on := 0, ground := Ground.data }, { on := 2, ground := Ground.data }, { on := 0, ground := Ground.phase }, { on := 1, ground := Ground.phase }, { on := 2, ground := Ground.phase }, { on := 3, ground := (Ground.textOnly Departure.lateStores) }, { on := 4, ground := (Ground.textOnly Departure.lateStores) }, { on := 5, ground := (Ground.textOnly Departure.lateStores) }, { on := 6, ground := Ground.phase }, { on := 7, ground := Ground.phase }, { on := 8, ground := Ground.phase }, { on := 9, ground := (Ground.textOnly Departure.lateStores) }, { on := 10, ground := (Ground.textOnly Departure.lateStoresUnsure) }]) opIndexAddrT_nat, none⟩,
 ⟨.mn (opStoreC none 5 (.tmp 79) (.tmp 76) 1 sz5 0 "itoa.go:205" #[{ on := 11, ground := Ground.data }, { on := 8, ground := Ground.data }, { on := 0, ground := Ground.phase }, { on := 1, ground := Ground.phase }, { on := 2, ground := Ground.phase }, { on := 3, ground := (Ground.textOnly Departure.lateStores) }, { on := 4, ground := (Ground.textOnly Departure.lateStores) }, { on := 5, ground := (Ground.textOnly Departure.lateStores) }, { on := 6, ground := Ground.phase }, { on := 7, ground := Ground.phase }, { on := 8, ground := Ground.phase }, { on := 9, ground := (Ground.textOnly Departure.lateStores) }, { on := 10, ground := (Ground.textOnly Departure.lateStoresUnsure) }]) opStoreC_nat, none⟩,
 ⟨.pn (opIndexAddrT (some 80) 46 (.tmp 71) (.tmp 73) 5 1 Tryd.underlying46 sz5 0 "itoa.go:205" #[{ on := 3, ground := Ground.data }, { on := 5, ground := Ground.data }, { on := 0, ground := Ground.phase }, { on := 1, ground := Ground.phase }, { on := 2, ground := Ground.phase }, { on := 3, ground := Ground.phase }, { on := 4, ground := Ground.phase }, { on := 5, ground := Ground.phase }, { on := 6, ground := Ground.phase }, { on := 7, ground := Ground.phase }, { on := 8, ground := Ground.phase }, { on := 9, ground := Ground.phase }, { on := 10, ground := Ground.phase }, { on := 11, ground := Ground.phase }, { on := 12, ground := Ground.phase }]) opIndexAddrT_nat, none⟩,
 ⟨.mn (opStoreC none 5 (.tmp 80) (.tmp 78) 1 sz5 0 "itoa.go:205" #[{ on := 13, ground := Ground.data }, { on := 10, ground := Ground.data }, { on := 12, ground := Ground.chain }, { on := 0, ground := Ground.phase }, { on := 1, ground := Ground.phase }, { on := 2, ground := Ground.phase }, { on := 3, ground := Ground.phase }, { on := 4, ground := Ground.phase }, { on := 5, ground := Ground.phase }, { on := 6, ground := Ground.phase }, { on := 7, ground := Ground.phase }, { on := 8, ground := Ground.phase }, { on := 9, ground := Ground.phase }, { on := 10, ground := Ground.phase }, { on := 11, ground := Ground.phase }, { on := 12, ground := Ground.phase }]) opStoreC_nat, none⟩
 ] mixed (by kernel_rfl)))
 (.seq (.live [0, 1, 4] (.draw 10 [
 ⟨.p (opMove (some 81) (.tmp 0) 46 "itoa.go:206" #[]), none⟩,
 ⟨.p (opMove (some 82) (.tmp 4) 3 "itoa.go:206" #[]), none⟩,
 ⟨.pn (opBin (some 83) .sub 3 (.tmp 82) (.const (Value.int IntKind.i64 7)) 3 3 "itoa.go:206" #[{ on := 1, ground := Ground.data }]) opBin_nat, none⟩,
 ⟨.p (opMove (some 84) (.tmp 0) 46 "itoa.go:206" #[{ on := 12, ground := (Ground.gcOnly Departure.lateStores) }]), none⟩,
 ⟨.p (opMove (some 85) (.tmp 4) 3 "itoa.go:206" #[{ on := 12, ground := (Ground.gcOnly Departure.lateStores) }]), none⟩,
 ⟨.pn (opBin (some 86) .sub 3 (.tmp 85) (.const (Value.int IntKind.i64 8)) 3 3 "itoa.go:206" #[{ on := 4, ground := Ground.data }, { on := 12, ground := (Ground.gcOnly Departure.lateStores) }]) opBin_nat, none⟩,
 ⟨.p (opMove (some 87) (.tmp 10) 118 "itoa.go:206" #[]), none⟩,
 ⟨.pn (opBin (some 88) .add 118 (.tmp 87) (.const (Value.int IntKind.u32 1)) 118 118 "itoa.go:206" #[{ on := 6, ground := Ground.data }]) opBin_nat, none⟩,
 ⟨.pn (PSim.named (opIndexStrW (some 89) 9 (.const (Value.string { data := (.append #[48, 48, 48, 49, 48, 50, 48, 51, 48, 52, 48, 53, 48, 54, 48, 55, 48, 56, 48, 57, 49, 48, 49, 49, 49, 50, 49, 51, 49, 52, 49, 53, 49, 54, 49, 55, 49, 56, 49, 57, 50, 48, 50, 49, 50, 50, 50, 51, 50, 52, 50, 53, 50, 54, 50, 55, 50, 56, 50, 57, 51, 48, 51, 49, 51, 50, 51, 51, 51, 52, 51, 53, 51, 54, 51, 55, 51, 56, 51, 57, 52, 48, 52, 49, 52, 50, 52, 51, 52, 52, 52, 53, 52, 54, 52, 55, 52, 56, 52, 57] #[53, 48, 53, 49, 53, 50, 53, 51, 53, 52, 53, 53, 53, 54, 53, 55, 53, 56, 53, 57, 54, 48, 54, 49, 54, 50, 54, 51, 54, 52, 54, 53, 54, 54, 54, 55, 54, 56, 54, 57, 55, 48, 55, 49, 55, 50, 55, 51, 55, 52, 55, 53, 55, 54, 55, 55, 55, 56, 55, 57, 56, 48, 56, 49, 56, 50, 56, 51, 56, 52, 56, 53, 56, 54, 56, 55, 56, 56, 56, 57, 57, 48, 57, 49, 57, 50, 57, 51, 57, 52, 57, 53, 57, 54, 57, 55, 57, 56, 57, 57]) })) (.tmp 88) Tryd.underlying9 5 "itoa.go:206" #[{ on := 7, ground := Ground.data }]) tx_730b8f { data := (.append #[48, 48, 48, 49, 48, 50, 48, 51, 48, 52, 48, 53, 48, 54, 48, 55, 48, 56, 48, 57, 49, 48, 49, 49, 49, 50, 49, 51, 49, 52, 49, 53, 49, 54, 49, 55, 49, 56, 49, 57, 50, 48, 50, 49, 50, 50, 50, 51, 50, 52, 50, 53, 50, 54, 50, 55, 50, 56, 50, 57, 51, 48, 51, 49, 51, 50, 51, 51, 51, 52, 51, 53, 51, 54, 51, 55, 51, 56, 51, 57, 52, 48, 52, 49, 52, 50, 52, 51, 52, 52, 52, 53, 52, 54, 52, 55, 52, 56, 52, 57] #[53, 48, 53, 49, 53, 50, 53, 51, 53, 52, 53, 53, 53, 54, 53, 55, 53, 56, 53, 57, 54, 48, 54, 49, 54, 50, 54, 51, 54, 52, 54, 53, 54, 54, 54, 55, 54, 56, 54, 57, 55, 48, 55, 49, 55, 50, 55, 51, 55, 52, 55, 53, 55, 54, 55, 55, 55, 56, 55, 57, 56, 48, 56, 49, 56, 50, 56, 51, 56, 52, 56, 53, 56, 54, 56, 55, 56, 56, 56, 57, 57, 48, 57, 49, 57, 50, 57, 51, 57, 52, 57, 53, 57, 54, 57, 55, 57, 56, 57, 57]) } tx_730b8f_eq (by kernel_rfl)) (PSim.named_nat opIndexStrW_nat), none⟩,
 ⟨.p (opMove (some 90) (.tmp 10) 118 "itoa.go:206" #[]), none⟩,
 ⟨.pn (PSim.named (opIndexStrW (some 91) 9 (.const (Value.string { data := (.append #[48, 48, 48, 49, 48, 50, 48, 51, 48, 52, 48, 53, 48, 54, 48, 55, 48, 56, 48, 57, 49, 48, 49, 49, 49, 50, 49, 51, 49, 52, 49, 53, 49, 54, 49, 55, 49, 56, 49, 57, 50, 48, 50, 49, 50, 50, 50, 51, 50, 52, 50, 53, 50, 54, 50, 55, 50, 56, 50, 57, 51, 48, 51, 49, 51, 50, 51, 51, 51, 52, 51, 53, 51, 54, 51, 55, 51, 56, 51, 57, 52, 48, 52, 49, 52, 50, 52, 51, 52, 52, 52, 53, 52, 54, 52, 55, 52, 56, 52, 57] #[53, 48, 53, 49, 53, 50, 53, 51, 53, 52, 53, 53, 53, 54, 53, 55, 53, 56, 53, 57, 54, 48, 54, 49, 54, 50, 54, 51, 54, 52, 54, 53, 54, 54, 54, 55, 54, 56, 54, 57, 55, 48, 55, 49, 55, 50, 55, 51, 55, 52, 55, 53, 55, 54, 55, 55, 55, 56, 55, 57, 56, 48, 56, 49, 56, 50, 56, 51, 56, 52, 56, 53, 56, 54, 56, 55, 56, 56, 56, 57, 57, 48, 57, 49, 57, 50, 57, 51, 57, 52, 57, 53, 57, 54, 57, 55, 57, 56, 57, 57]) })) (.tmp 90) Tryd.underlying9 5 "itoa.go:206" #[{ on := 9, ground := Ground.data }]) tx_730b8f { data := (.append #[48, 48, 48, 49, 48, 50, 48, 51, 48, 52, 48, 53, 48, 54, 48, 55, 48, 56, 48, 57, 49, 48, 49, 49, 49, 50, 49, 51, 49, 52, 49, 53, 49, 54, 49, 55, 49, 56, 49, 57, 50, 48, 50, 49, 50, 50, 50, 51, 50, 52, 50, 53, 50, 54, 50, 55, 50, 56, 50, 57, 51, 48, 51, 49, 51, 50, 51, 51, 51, 52, 51, 53, 51, 54, 51, 55, 51, 56, 51, 57, 52, 48, 52, 49, 52, 50, 52, 51, 52, 52, 52, 53, 52, 54, 52, 55, 52, 56, 52, 57] #[53, 48, 53, 49, 53, 50, 53, 51, 53, 52, 53, 53, 53, 54, 53, 55, 53, 56, 53, 57, 54, 48, 54, 49, 54, 50, 54, 51, 54, 52, 54, 53, 54, 54, 54, 55, 54, 56, 54, 57, 55, 48, 55, 49, 55, 50, 55, 51, 55, 52, 55, 53, 55, 54, 55, 55, 55, 56, 55, 57, 56, 48, 56, 49, 56, 50, 56, 51, 56, 52, 56, 53, 56, 54, 56, 55, 56, 56, 56, 57, 57, 48, 57, 49, 57, 50, 57, 51, 57, 52, 57, 53, 57, 54, 57, 55, 57, 56, 57, 57]) } tx_730b8f_eq (by kernel_rfl)) (PSim.named_nat opIndexStrW_nat), none⟩,
 ⟨.pn (opIndexAddrT (some 92) 46 (.tmp 81) (.tmp 83) 5 1 Tryd.underlying46 sz5 0 "itoa.go:206" #[{ on := 0, ground := Ground.data }, { on := 2, ground := Ground.data }, { on := 0, ground := Ground.phase }, { on := 1, ground := Ground.phase }, { on := 2, ground := Ground.phase }, { on := 3, ground := (Ground.textOnly Departure.lateStores) }, { on := 4, ground := (Ground.textOnly Departure.lateStores) }, { on := 5, ground := (Ground.textOnly Departure.lateStores) }, { on := 6, ground := Ground.phase }, { on := 7, ground := Ground.phase }, { on := 8, ground := Ground.phase }, { on := 9, ground := (Ground.textOnly Departure.lateStores) }, { on := 10, ground := (Ground.textOnly Departure.lateStoresUnsure) }]) opIndexAddrT_nat, none⟩,
 ⟨.mn (opStoreC none 5 (.tmp 92) (.tmp 89) 1 sz5 0 "itoa.go:206" #[{ on := 11, ground := Ground.data }, { on := 8, ground := Ground.data }, { on := 0, ground := Ground.phase }, { on := 1, ground := Ground.phase }, { on := 2, ground := Ground.phase }, { on := 3, ground := (Ground.textOnly Departure.lateStores) }, { on := 4, ground := (Ground.textOnly Departure.lateStores) }, { on := 5, ground := (Ground.textOnly Departure.lateStores) }, { on := 6, ground := Ground.phase }, { on := 7, ground := Ground.phase }, { on := 8, ground := Ground.phase }, { on := 9, ground := (Ground.textOnly Departure.lateStores) }, { on := 10, ground := (Ground.textOnly Departure.lateStoresUnsure) }]) opStoreC_nat, none⟩,
 ⟨.pn (opIndexAddrT (some 93) 46 (.tmp 84) (.tmp 86) 5 1 Tryd.underlying46 sz5 0 "itoa.go:206" #[{ on := 3, ground := Ground.data }, { on := 5, ground := Ground.data }, { on := 0, ground := Ground.phase }, { on := 1, ground := Ground.phase }, { on := 2, ground := Ground.phase }, { on := 3, ground := Ground.phase }, { on := 4, ground := Ground.phase }, { on := 5, ground := Ground.phase }, { on := 6, ground := Ground.phase }, { on := 7, ground := Ground.phase }, { on := 8, ground := Ground.phase }, { on := 9, ground := Ground.phase }, { on := 10, ground := Ground.phase }, { on := 11, ground := Ground.phase }, { on := 12, ground := Ground.phase }]) opIndexAddrT_nat, none⟩,
 ⟨.mn (opStoreC none 5 (.tmp 93) (.tmp 91) 1 sz5 0 "itoa.go:206" #[{ on := 13, ground := Ground.data }, { on := 10, ground := Ground.data }, { on := 12, ground := Ground.chain }, { on := 0, ground := Ground.phase }, { on := 1, ground := Ground.phase }, { on := 2, ground := Ground.phase }, { on := 3, ground := Ground.phase }, { on := 4, ground := Ground.phase }, { on := 5, ground := Ground.phase }, { on := 6, ground := Ground.phase }, { on := 7, ground := Ground.phase }, { on := 8, ground := Ground.phase }, { on := 9, ground := Ground.phase }, { on := 10, ground := Ground.phase }, { on := 11, ground := Ground.phase }, { on := 12, ground := Ground.phase }]) opStoreC_nat, none⟩
 ] mixed (by kernel_rfl)))
 (.live [0, 1, 4] (.region 11 [
 ⟨(opMove (some 94) (.tmp 4) 3 "itoa.go:207" #[]).op, none⟩,
 ⟨(opBin (some 95) .sub 3 (.tmp 94) (.const (Value.int IntKind.i64 8)) 3 3 "itoa.go:207" #[{ on := 0, ground := Ground.data }]).op, none⟩,
 ⟨(opAssign (some 4) (.tmp 95) 3 "itoa.go:207" #[{ on := 1, ground := Ground.data }, { on := 0, ground := Ground.phase }, { on := 1, ground := Ground.phase }]).op, none⟩
 ] (by kernel_rfl))))))))))))))

/-- What follows a loop. -/
noncomputable def f86_r0 : Sim Tryd.prog :=
 (.seq (.live [0, 4, 12] (.region 12 [
 ⟨(opMove (some 96) (.tmp 1) 84 "itoa.go:210" #[]).op, none⟩,
 ⟨(opConvInt (some 97) 84 118 (.tmp 96) (.int .u64) Tryd.underlying84 .u32 Tryd.underlying118 118 "itoa.go:210" #[{ on := 0, ground := Ground.data }]).op, none⟩,
 ⟨(opAssign (some 12) (.tmp 97) 118 "itoa.go:210" #[{ on := 1, ground := Ground.data }, { on := 0, ground := Ground.phase }, { on := 1, ground := Ground.phase }]).op, none⟩
 ] (by kernel_rfl)))
 (.seq (.seq (.live [0, 4, 12, 99] (.region 13 [
 ⟨(opMove (some 98) (.tmp 4) 3 "itoa.go:211" #[]).op, none⟩,
 ⟨(opBin (some 99) .geq 3 (.tmp 98) (.const (Value.int IntKind.i64 4)) 3 4 "itoa.go:211" #[{ on := 0, ground := Ground.data }]).op, none⟩
 ] (by kernel_rfl)))
 (.cond (.tmp 99)
 (.seq (.live [0, 4, 12, 13] (.region 14 [
 ⟨(opMove (some 100) (.tmp 12) 118 "itoa.go:213" #[]).op, none⟩,
 ⟨(opBin (some 101) .rem 118 (.tmp 100) (.const (Value.int IntKind.u32 10000)) 118 118 "itoa.go:213" #[{ on := 0, ground := Ground.data }]).op, none⟩,
 ⟨(opAssign (some 13) (.tmp 101) 118 "itoa.go:213" #[{ on := 1, ground := Ground.data }, { on := 0, ground := Ground.phase }, { on := 1, ground := Ground.phase }]).op, none⟩
 ] (by kernel_rfl)))
 (.seq (.live [0, 4, 12, 13] (.region 15 [
 ⟨(opMove (some 102) (.tmp 12) 118 "itoa.go:214" #[]).op, none⟩,
 ⟨(opBin (some 103) .quo 118 (.tmp 102) (.const (Value.int IntKind.u32 10000)) 118 118 "itoa.go:214" #[{ on := 0, ground := Ground.data }]).op, none⟩,
 ⟨(opAssign (some 12) (.tmp 103) 118 "itoa.go:214" #[{ on := 1, ground := Ground.data }, { on := 0, ground := Ground.phase }, { on := 1, ground := Ground.phase }]).op, none⟩
 ] (by kernel_rfl)))
 (.seq (.live [0, 4, 12, 14, 15] (.region 16 [
 ⟨(opMove (some 104) (.tmp 13) 118 "itoa.go:215" #[]).op, none⟩,
 ⟨(opBin (some 105) .quo 118 (.tmp 104) (.const (Value.int IntKind.u32 100)) 118 118 "itoa.go:215" #[{ on := 0, ground := Ground.data }]).op, none⟩,
 ⟨(opBin (some 106) .mul 118 (.tmp 105) (.const (Value.int IntKind.u32 2)) 118 118 "itoa.go:215" #[{ on := 1, ground := Ground.data }]).op, none⟩,
 ⟨(opMove (some 107) (.tmp 13) 118 "itoa.go:215" #[{ on := 6, ground := (Ground.gcOnly Departure.lateStores) }]).op, none⟩,
 ⟨(opBin (some 108) .rem 118 (.tmp 107) (.const (Value.int IntKind.u32 100)) 118 118 "itoa.go:215" #[{ on := 3, ground := Ground.data }, { on := 6, ground := (Ground.gcOnly Departure.lateStores) }]).op, none⟩,
 ⟨(opBin (some 109) .mul 118 (.tmp 108) (.const (Value.int IntKind.u32 2)) 118 118 "itoa.go:215" #[{ on := 4, ground := Ground.data }, { on := 6, ground := (Ground.gcOnly Departure.lateStores) }]).op, none⟩,
 ⟨(opAssign (some 14) (.tmp 106) 118 "itoa.go:215" #[{ on := 2, ground := Ground.data }, { on := 0, ground := Ground.phase }, { on := 1, ground := Ground.phase }, { on := 2, ground := Ground.phase }, { on := 3, ground := (Ground.textOnly Departure.lateStores) }, { on := 4, ground := (Ground.textOnly Departure.lateStores) }, { on := 5, ground := (Ground.textOnly Departure.lateStores) }]).op, none⟩,
 ⟨(opAssign (some 15) (.tmp 109) 118 "itoa.go:215" #[{ on := 5, ground := Ground.data }, { on := 6, ground := Ground.chain }, { on := 0, ground := Ground.phase }, { on := 1, ground := Ground.phase }, { on := 2, ground := Ground.phase }, { on := 3, ground := Ground.phase }, { on := 4, ground := Ground.phase }, { on := 5, ground := Ground.phase }, { on := 6, ground := Ground.phase }]).op, none⟩
 ] (by kernel_rfl)))
 (.seq (.live [0, 4, 12, 14] (.draw 17 [
 ⟨.p (opMove (some 110) (.tmp 0) 46 "itoa.go:216" #[]), none⟩,
 ⟨.p (opMove (some 111) (.tmp 4) 3 "itoa.go:216" #[]), none⟩,
 ⟨.pn (opBin (some 112) .sub 3 (.tmp 111) (.const (Value.int IntKind.i64 1)) 3 3 "itoa.go:216" #[{ on := 1, ground := Ground.data }]) opBin_nat, none⟩,
 ⟨.p (opMove (some 113) (.tmp 0) 46 "itoa.go:216" #[{ on := 12, ground := (Ground.gcOnly Departure.lateStores) }]), none⟩,
 ⟨.p (opMove (some 114) (.tmp 4) 3 "itoa.go:216" #[{ on := 12, ground := (Ground.gcOnly Departure.lateStores) }]), none⟩,
 ⟨.pn (opBin (some 115) .sub 3 (.tmp 114) (.const (Value.int IntKind.i64 2)) 3 3 "itoa.go:216" #[{ on := 4, ground := Ground.data }, { on := 12, ground := (Ground.gcOnly Departure.lateStores) }]) opBin_nat, none⟩,
 ⟨.p (opMove (some 116) (.tmp 15) 118 "itoa.go:216" #[]), none⟩,
 ⟨.pn (opBin (some 117) .add 118 (.tmp 116) (.const (Value.int IntKind.u32 1)) 118 118 "itoa.go:216" #[{ on := 6, ground := Ground.data }]) opBin_nat, none⟩,
 ⟨.pn (PSim.named (opIndexStrW (some 118) 9 (.const (Value.string { data := (.append #[48, 48, 48, 49, 48, 50, 48, 51, 48, 52, 48, 53, 48, 54, 48, 55, 48, 56, 48, 57, 49, 48, 49, 49, 49, 50, 49, 51, 49, 52, 49, 53, 49, 54, 49, 55, 49, 56, 49, 57, 50, 48, 50, 49, 50, 50, 50, 51, 50, 52, 50, 53, 50, 54, 50, 55, 50, 56, 50, 57, 51, 48, 51, 49, 51, 50, 51, 51, 51, 52, 51, 53, 51, 54, 51, 55, 51, 56, 51, 57, 52, 48, 52, 49, 52, 50, 52, 51, 52, 52, 52, 53, 52, 54, 52, 55, 52, 56, 52, 57] #[53, 48, 53, 49, 53, 50, 53, 51, 53, 52, 53, 53, 53, 54, 53, 55, 53, 56, 53, 57, 54, 48, 54, 49, 54, 50, 54, 51, 54, 52, 54, 53, 54, 54, 54, 55, 54, 56, 54, 57, 55, 48, 55, 49, 55, 50, 55, 51, 55, 52, 55, 53, 55, 54, 55, 55, 55, 56, 55, 57, 56, 48, 56, 49, 56, 50, 56, 51, 56, 52, 56, 53, 56, 54, 56, 55, 56, 56, 56, 57, 57, 48, 57, 49, 57, 50, 57, 51, 57, 52, 57, 53, 57, 54, 57, 55, 57, 56, 57, 57]) })) (.tmp 117) Tryd.underlying9 5 "itoa.go:216" #[{ on := 7, ground := Ground.data }]) tx_730b8f { data := (.append #[48, 48, 48, 49, 48, 50, 48, 51, 48, 52, 48, 53, 48, 54, 48, 55, 48, 56, 48, 57, 49, 48, 49, 49, 49, 50, 49, 51, 49, 52, 49, 53, 49, 54, 49, 55, 49, 56, 49, 57, 50, 48, 50, 49, 50, 50, 50, 51, 50, 52, 50, 53, 50, 54, 50, 55, 50, 56, 50, 57, 51, 48, 51, 49, 51, 50, 51, 51, 51, 52, 51, 53, 51, 54, 51, 55, 51, 56, 51, 57, 52, 48, 52, 49, 52, 50, 52, 51, 52, 52, 52, 53, 52, 54, 52, 55, 52, 56, 52, 57] #[53, 48, 53, 49, 53, 50, 53, 51, 53, 52, 53, 53, 53, 54, 53, 55, 53, 56, 53, 57, 54, 48, 54, 49, 54, 50, 54, 51, 54, 52, 54, 53, 54, 54, 54, 55, 54, 56, 54, 57, 55, 48, 55, 49, 55, 50, 55, 51, 55, 52, 55, 53, 55, 54, 55, 55, 55, 56, 55, 57, 56, 48, 56, 49, 56, 50, 56, 51, 56, 52, 56, 53, 56, 54, 56, 55, 56, 56, 56, 57, 57, 48, 57, 49, 57, 50, 57, 51, 57, 52, 57, 53, 57, 54, 57, 55, 57, 56, 57, 57]) } tx_730b8f_eq (by kernel_rfl)) (PSim.named_nat opIndexStrW_nat), none⟩,
 ⟨.p (opMove (some 119) (.tmp 15) 118 "itoa.go:216" #[]), none⟩,
 ⟨.pn (PSim.named (opIndexStrW (some 120) 9 (.const (Value.string { data := (.append #[48, 48, 48, 49, 48, 50, 48, 51, 48, 52, 48, 53, 48, 54, 48, 55, 48, 56, 48, 57, 49, 48, 49, 49, 49, 50, 49, 51, 49, 52, 49, 53, 49, 54, 49, 55, 49, 56, 49, 57, 50, 48, 50, 49, 50, 50, 50, 51, 50, 52, 50, 53, 50, 54, 50, 55, 50, 56, 50, 57, 51, 48, 51, 49, 51, 50, 51, 51, 51, 52, 51, 53, 51, 54, 51, 55, 51, 56, 51, 57, 52, 48, 52, 49, 52, 50, 52, 51, 52, 52, 52, 53, 52, 54, 52, 55, 52, 56, 52, 57] #[53, 48, 53, 49, 53, 50, 53, 51, 53, 52, 53, 53, 53, 54, 53, 55, 53, 56, 53, 57, 54, 48, 54, 49, 54, 50, 54, 51, 54, 52, 54, 53, 54, 54, 54, 55, 54, 56, 54, 57, 55, 48, 55, 49, 55, 50, 55, 51, 55, 52, 55, 53, 55, 54, 55, 55, 55, 56, 55, 57, 56, 48, 56, 49, 56, 50, 56, 51, 56, 52, 56, 53, 56, 54, 56, 55, 56, 56, 56, 57, 57, 48, 57, 49, 57, 50, 57, 51, 57, 52, 57, 53, 57, 54, 57, 55, 57, 56, 57, 57]) })) (.tmp 119) Tryd.underlying9 5 "itoa.go:216" #[{ on := 9, ground := Ground.data }]) tx_730b8f { data := (.append #[48, 48, 48, 49, 48, 50, 48, 51, 48, 52, 48, 53, 48, 54, 48, 55, 48, 56, 48, 57, 49, 48, 49, 49, 49, 50, 49, 51, 49, 52, 49, 53, 49, 54, 49, 55, 49, 56, 49, 57, 50, 48, 50, 49, 50, 50, 50, 51, 50, 52, 50, 53, 50, 54, 50, 55, 50, 56, 50, 57, 51, 48, 51, 49, 51, 50, 51, 51, 51, 52, 51, 53, 51, 54, 51, 55, 51, 56, 51, 57, 52, 48, 52, 49, 52, 50, 52, 51, 52, 52, 52, 53, 52, 54, 52, 55, 52, 56, 52, 57] #[53, 48, 53, 49, 53, 50, 53, 51, 53, 52, 53, 53, 53, 54, 53, 55, 53, 56, 53, 57, 54, 48, 54, 49, 54, 50, 54, 51, 54, 52, 54, 53, 54, 54, 54, 55, 54, 56, 54, 57, 55, 48, 55, 49, 55, 50, 55, 51, 55, 52, 55, 53, 55, 54, 55, 55, 55, 56, 55, 57, 56, 48, 56, 49, 56, 50, 56, 51, 56, 52, 56, 53, 56, 54, 56, 55, 56, 56, 56, 57, 57, 48, 57, 49, 57, 50, 57, 51, 57, 52, 57, 53, 57, 54, 57, 55, 57, 56, 57, 57]) } tx_730b8f_eq (by kernel_rfl)) (PSim.named_nat opIndexStrW_nat), none⟩,
 ⟨.pn (opIndexAddrT (some 121) 46 (.tmp 110) (.tmp 112) 5 1 Tryd.underlying46 sz5 0 "itoa.go:216" #[{ on := 0, ground := Ground.data }, { on := 2, ground := Ground.data }, { on := 0, ground := Ground.phase }, { on := 1, ground := Ground.phase }, { on := 2, ground := Ground.phase }, { on := 3, ground := (Ground.textOnly Departure.lateStores) }, { on := 4, ground := (Ground.textOnly Departure.lateStores) }, { on := 5, ground := (Ground.textOnly Departure.lateStores) }, { on := 6, ground := Ground.phase }, { on := 7, ground := Ground.phase }, { on := 8, ground := Ground.phase }, { on := 9, ground := (Ground.textOnly Departure.lateStores) }, { on := 10, ground := (Ground.textOnly Departure.lateStoresUnsure) }]) opIndexAddrT_nat, none⟩,
 ⟨.mn (opStoreC none 5 (.tmp 121) (.tmp 118) 1 sz5 0 "itoa.go:216" #[{ on := 11, ground := Ground.data }, { on := 8, ground := Ground.data }, { on := 0, ground := Ground.phase }, { on := 1, ground := Ground.phase }, { on := 2, ground := Ground.phase }, { on := 3, ground := (Ground.textOnly Departure.lateStores) }, { on := 4, ground := (Ground.textOnly Departure.lateStores) }, { on := 5, ground := (Ground.textOnly Departure.lateStores) }, { on := 6, ground := Ground.phase }, { on := 7, ground := Ground.phase }, { on := 8, ground := Ground.phase }, { on := 9, ground := (Ground.textOnly Departure.lateStores) }, { on := 10, ground := (Ground.textOnly Departure.lateStoresUnsure) }]) opStoreC_nat, none⟩,
 ⟨.pn (opIndexAddrT (some 122) 46 (.tmp 113) (.tmp 115) 5 1 Tryd.underlying46 sz5 0 "itoa.go:216" #[{ on := 3, ground := Ground.data }, { on := 5, ground := Ground.data }, { on := 0, ground := Ground.phase }, { on := 1, ground := Ground.phase }, { on := 2, ground := Ground.phase }, { on := 3, ground := Ground.phase }, { on := 4, ground := Ground.phase }, { on := 5, ground := Ground.phase }, { on := 6, ground := Ground.phase }, { on := 7, ground := Ground.phase }, { on := 8, ground := Ground.phase }, { on := 9, ground := Ground.phase }, { on := 10, ground := Ground.phase }, { on := 11, ground := Ground.phase }, { on := 12, ground := Ground.phase }]) opIndexAddrT_nat, none⟩,
 ⟨.mn (opStoreC none 5 (.tmp 122) (.tmp 120) 1 sz5 0 "itoa.go:216" #[{ on := 13, ground := Ground.data }, { on := 10, ground := Ground.data }, { on := 12, ground := Ground.chain }, { on := 0, ground := Ground.phase }, { on := 1, ground := Ground.phase }, { on := 2, ground := Ground.phase }, { on := 3, ground := Ground.phase }, { on := 4, ground := Ground.phase }, { on := 5, ground := Ground.phase }, { on := 6, ground := Ground.phase }, { on := 7, ground := Ground.phase }, { on := 8, ground := Ground.phase }, { on := 9, ground := Ground.phase }, { on := 10, ground := Ground.phase }, { on := 11, ground := Ground.phase }, { on := 12, ground := Ground.phase }]) opStoreC_nat, none⟩
 ] mixed (by kernel_rfl)))
 (.seq (.live [0, 4, 12] (.draw 18 [
 ⟨.p (opMove (some 123) (.tmp 0) 46 "itoa.go:217" #[]), none⟩,
 ⟨.p (opMove (some 124) (.tmp 4) 3 "itoa.go:217" #[]), none⟩,
 ⟨.pn (opBin (some 125) .sub 3 (.tmp 124) (.const (Value.int IntKind.i64 3)) 3 3 "itoa.go:217" #[{ on := 1, ground := Ground.data }]) opBin_nat, none⟩,
 ⟨.p (opMove (some 126) (.tmp 0) 46 "itoa.go:217" #[{ on := 12, ground := (Ground.gcOnly Departure.lateStores) }]), none⟩,
 ⟨.p (opMove (some 127) (.tmp 4) 3 "itoa.go:217" #[{ on := 12, ground := (Ground.gcOnly Departure.lateStores) }]), none⟩,
 ⟨.pn (opBin (some 128) .sub 3 (.tmp 127) (.const (Value.int IntKind.i64 4)) 3 3 "itoa.go:217" #[{ on := 4, ground := Ground.data }, { on := 12, ground := (Ground.gcOnly Departure.lateStores) }]) opBin_nat, none⟩,
 ⟨.p (opMove (some 129) (.tmp 14) 118 "itoa.go:217" #[]), none⟩,
 ⟨.pn (opBin (some 130) .add 118 (.tmp 129) (.const (Value.int IntKind.u32 1)) 118 118 "itoa.go:217" #[{ on := 6, ground := Ground.data }]) opBin_nat, none⟩,
 ⟨.pn (PSim.named (opIndexStrW (some 131) 9 (.const (Value.string { data := (.append #[48, 48, 48, 49, 48, 50, 48, 51, 48, 52, 48, 53, 48, 54, 48, 55, 48, 56, 48, 57, 49, 48, 49, 49, 49, 50, 49, 51, 49, 52, 49, 53, 49, 54, 49, 55, 49, 56, 49, 57, 50, 48, 50, 49, 50, 50, 50, 51, 50, 52, 50, 53, 50, 54, 50, 55, 50, 56, 50, 57, 51, 48, 51, 49, 51, 50, 51, 51, 51, 52, 51, 53, 51, 54, 51, 55, 51, 56, 51, 57, 52, 48, 52, 49, 52, 50, 52, 51, 52, 52, 52, 53, 52, 54, 52, 55, 52, 56, 52, 57] #[53, 48, 53, 49, 53, 50, 53, 51, 53, 52, 53, 53, 53, 54, 53, 55, 53, 56, 53, 57, 54, 48, 54, 49, 54, 50, 54, 51, 54, 52, 54, 53, 54, 54, 54, 55, 54, 56, 54, 57, 55, 48, 55, 49, 55, 50, 55, 51, 55, 52, 55, 53, 55, 54, 55, 55, 55, 56, 55, 57, 56, 48, 56, 49, 56, 50, 56, 51, 56, 52, 56, 53, 56, 54, 56, 55, 56, 56, 56, 57, 57, 48, 57, 49, 57, 50, 57, 51, 57, 52, 57, 53, 57, 54, 57, 55, 57, 56, 57, 57]) })) (.tmp 130) Tryd.underlying9 5 "itoa.go:217" #[{ on := 7, ground := Ground.data }]) tx_730b8f { data := (.append #[48, 48, 48, 49, 48, 50, 48, 51, 48, 52, 48, 53, 48, 54, 48, 55, 48, 56, 48, 57, 49, 48, 49, 49, 49, 50, 49, 51, 49, 52, 49, 53, 49, 54, 49, 55, 49, 56, 49, 57, 50, 48, 50, 49, 50, 50, 50, 51, 50, 52, 50, 53, 50, 54, 50, 55, 50, 56, 50, 57, 51, 48, 51, 49, 51, 50, 51, 51, 51, 52, 51, 53, 51, 54, 51, 55, 51, 56, 51, 57, 52, 48, 52, 49, 52, 50, 52, 51, 52, 52, 52, 53, 52, 54, 52, 55, 52, 56, 52, 57] #[53, 48, 53, 49, 53, 50, 53, 51, 53, 52, 53, 53, 53, 54, 53, 55, 53, 56, 53, 57, 54, 48, 54, 49, 54, 50, 54, 51, 54, 52, 54, 53, 54, 54, 54, 55, 54, 56, 54, 57, 55, 48, 55, 49, 55, 50, 55, 51, 55, 52, 55, 53, 55, 54, 55, 55, 55, 56, 55, 57, 56, 48, 56, 49, 56, 50, 56, 51, 56, 52, 56, 53, 56, 54, 56, 55, 56, 56, 56, 57, 57, 48, 57, 49, 57, 50, 57, 51, 57, 52, 57, 53, 57, 54, 57, 55, 57, 56, 57, 57]) } tx_730b8f_eq (by kernel_rfl)) (PSim.named_nat opIndexStrW_nat), none⟩,
 ⟨.p (opMove (some 132) (.tmp 14) 118 "itoa.go:217" #[]), none⟩,
 ⟨.pn (PSim.named (opIndexStrW (some 133) 9 (.const (Value.string { data := (.append #[48, 48, 48, 49, 48, 50, 48, 51, 48, 52, 48, 53, 48, 54, 48, 55, 48, 56, 48, 57, 49, 48, 49, 49, 49, 50, 49, 51, 49, 52, 49, 53, 49, 54, 49, 55, 49, 56, 49, 57, 50, 48, 50, 49, 50, 50, 50, 51, 50, 52, 50, 53, 50, 54, 50, 55, 50, 56, 50, 57, 51, 48, 51, 49, 51, 50, 51, 51, 51, 52, 51, 53, 51, 54, 51, 55, 51, 56, 51, 57, 52, 48, 52, 49, 52, 50, 52, 51, 52, 52, 52, 53, 52, 54, 52, 55, 52, 56, 52, 57] #[53, 48, 53, 49, 53, 50, 53, 51, 53, 52, 53, 53, 53, 54, 53, 55, 53, 56, 53, 57, 54, 48, 54, 49, 54, 50, 54, 51, 54, 52, 54, 53, 54, 54, 54, 55, 54, 56, 54, 57, 55, 48, 55, 49, 55, 50, 55, 51, 55, 52, 55, 53, 55, 54, 55, 55, 55, 56, 55, 57, 56, 48, 56, 49, 56, 50, 56, 51, 56, 52, 56, 53, 56, 54, 56, 55, 56, 56, 56, 57, 57, 48, 57, 49, 57, 50, 57, 51, 57, 52, 57, 53, 57, 54, 57, 55, 57, 56, 57, 57]) })) (.tmp 132) Tryd.underlying9 5 "itoa.go:217" #[{ on := 9, ground := Ground.data }]) tx_730b8f { data := (.append #[48, 48, 48, 49, 48, 50, 48, 51, 48, 52, 48, 53, 48, 54, 48, 55, 48, 56, 48, 57, 49, 48, 49, 49, 49, 50, 49, 51, 49, 52, 49, 53, 49, 54, 49, 55, 49, 56, 49, 57, 50, 48, 50, 49, 50, 50, 50, 51, 50, 52, 50, 53, 50, 54, 50, 55, 50, 56, 50, 57, 51, 48, 51, 49, 51, 50, 51, 51, 51, 52, 51, 53, 51, 54, 51, 55, 51, 56, 51, 57, 52, 48, 52, 49, 52, 50, 52, 51, 52, 52, 52, 53, 52, 54, 52, 55, 52, 56, 52, 57] #[53, 48, 53, 49, 53, 50, 53, 51, 53, 52, 53, 53, 53, 54, 53, 55, 53, 56, 53, 57, 54, 48, 54, 49, 54, 50, 54, 51, 54, 52, 54, 53, 54, 54, 54, 55, 54, 56, 54, 57, 55, 48, 55, 49, 55, 50, 55, 51, 55, 52, 55, 53, 55, 54, 55, 55, 55, 56, 55, 57, 56, 48, 56, 49, 56, 50, 56, 51, 56, 52, 56, 53, 56, 54, 56, 55, 56, 56, 56, 57, 57, 48, 57, 49, 57, 50, 57, 51, 57, 52, 57, 53, 57, 54, 57, 55, 57, 56, 57, 57]) } tx_730b8f_eq (by kernel_rfl)) (PSim.named_nat opIndexStrW_nat), none⟩,
 ⟨.pn (opIndexAddrT (some 134) 46 (.tmp 123) (.tmp 125) 5 1 Tryd.underlying46 sz5 0 "itoa.go:217" #[{ on := 0, ground := Ground.data }, { on := 2, ground := Ground.data }, { on := 0, ground := Ground.phase }, { on := 1, ground := Ground.phase }, { on := 2, ground := Ground.phase }, { on := 3, ground := (Ground.textOnly Departure.lateStores) }, { on := 4, ground := (Ground.textOnly Departure.lateStores) }, { on := 5, ground := (Ground.textOnly Departure.lateStores) }, { on := 6, ground := Ground.phase }, { on := 7, ground := Ground.phase }, { on := 8, ground := Ground.phase }, { on := 9, ground := (Ground.textOnly Departure.lateStores) }, { on := 10, ground := (Ground.textOnly Departure.lateStoresUnsure) }]) opIndexAddrT_nat, none⟩,
 ⟨.mn (opStoreC none 5 (.tmp 134) (.tmp 131) 1 sz5 0 "itoa.go:217" #[{ on := 11, ground := Ground.data }, { on := 8, ground := Ground.data }, { on := 0, ground := Ground.phase }, { on := 1, ground := Ground.phase }, { on := 2, ground := Ground.phase }, { on := 3, ground := (Ground.textOnly Departure.lateStores) }, { on := 4, ground := (Ground.textOnly Departure.lateStores) }, { on := 5, ground := (Ground.textOnly Departure.lateStores) }, { on := 6, ground := Ground.phase }, { on := 7, ground := Ground.phase }, { on := 8, ground := Ground.phase }, { on := 9, ground := (Ground.textOnly Departure.lateStores) }, { on := 10, ground := (Ground.textOnly Departure.lateStoresUnsure) }]) opStoreC_nat, none⟩,
 ⟨.pn (opIndexAddrT (some 135) 46 (.tmp 126) (.tmp 128) 5 1 Tryd.underlying46 sz5 0 "itoa.go:217" #[{ on := 3, ground := Ground.data }, { on := 5, ground := Ground.data }, { on := 0, ground := Ground.phase }, { on := 1, ground := Ground.phase }, { on := 2, ground := Ground.phase }, { on := 3, ground := Ground.phase }, { on := 4, ground := Ground.phase }, { on := 5, ground := Ground.phase }, { on := 6, ground := Ground.phase }, { on := 7, ground := Ground.phase }, { on := 8, ground := Ground.phase }, { on := 9, ground := Ground.phase }, { on := 10, ground := Ground.phase }, { on := 11, ground := Ground.phase }, { on := 12, ground := Ground.phase }]) opIndexAddrT_nat, none⟩,
 ⟨.mn (opStoreC none 5 (.tmp 135) (.tmp 133) 1 sz5 0 "itoa.go:217" #[{ on := 13, ground := Ground.data }, { on := 10, ground := Ground.data }, { on := 12, ground := Ground.chain }, { on := 0, ground := Ground.phase }, { on := 1, ground := Ground.phase }, { on := 2, ground := Ground.phase }, { on := 3, ground := Ground.phase }, { on := 4, ground := Ground.phase }, { on := 5, ground := Ground.phase }, { on := 6, ground := Ground.phase }, { on := 7, ground := Ground.phase }, { on := 8, ground := Ground.phase }, { on := 9, ground := Ground.phase }, { on := 10, ground := Ground.phase }, { on := 11, ground := Ground.phase }, { on := 12, ground := Ground.phase }]) opStoreC_nat, none⟩
 ] mixed (by kernel_rfl)))
 (.live [0, 4, 12] (.region 19 [
 ⟨(opMove (some 136) (.tmp 4) 3 "itoa.go:218" #[]).op, none⟩,
 ⟨(opBin (some 137) .sub 3 (.tmp 136) (.const (Value.int IntKind.i64 4)) 3 3 "itoa.go:218" #[{ on := 0, ground := Ground.data }]).op, none⟩,
 ⟨(opAssign (some 4) (.tmp 137) 3 "itoa.go:218" #[{ on := 1, ground := Ground.data }, { on := 0, ground := Ground.phase }, { on := 1, ground := Ground.phase }]).op, none⟩
 ] (by kernel_rfl))))))))
 .skip))
 (.seq (.seq (.live [0, 4, 12, 139] (.region 20 [
 ⟨(opMove (some 138) (.tmp 4) 3 "itoa.go:220" #[]).op, none⟩,
 ⟨(opBin (some 139) .geq 3 (.tmp 138) (.const (Value.int IntKind.i64 2)) 3 4 "itoa.go:220" #[{ on := 0, ground := Ground.data }]).op, none⟩
 ] (by kernel_rfl)))
 (.cond (.tmp 139)
 (.seq (.live [0, 4, 12, 16] (.region 21 [
 ⟨(opMove (some 140) (.tmp 12) 118 "itoa.go:222" #[]).op, none⟩,
 ⟨(opBin (some 141) .rem 118 (.tmp 140) (.const (Value.int IntKind.u32 100)) 118 118 "itoa.go:222" #[{ on := 0, ground := Ground.data }]).op, none⟩,
 ⟨(opBin (some 142) .mul 118 (.tmp 141) (.const (Value.int IntKind.u32 2)) 118 118 "itoa.go:222" #[{ on := 1, ground := Ground.data }]).op, none⟩,
 ⟨(opAssign (some 16) (.tmp 142) 118 "itoa.go:222" #[{ on := 2, ground := Ground.data }, { on := 0, ground := Ground.phase }, { on := 1, ground := Ground.phase }, { on := 2, ground := Ground.phase }]).op, none⟩
 ] (by kernel_rfl)))
 (.seq (.live [0, 4, 12, 16] (.region 22 [
 ⟨(opMove (some 143) (.tmp 12) 118 "itoa.go:223" #[]).op, none⟩,
 ⟨(opBin (some 144) .quo 118 (.tmp 143) (.const (Value.int IntKind.u32 100)) 118 118 "itoa.go:223" #[{ on := 0, ground := Ground.data }]).op, none⟩,
 ⟨(opAssign (some 12) (.tmp 144) 118 "itoa.go:223" #[{ on := 1, ground := Ground.data }, { on := 0, ground := Ground.phase }, { on := 1, ground := Ground.phase }]).op, none⟩
 ] (by kernel_rfl)))
 (.seq (.live [0, 4, 12] (.draw 23 [
 ⟨.p (opMove (some 145) (.tmp 0) 46 "itoa.go:224" #[]), none⟩,
 ⟨.p (opMove (some 146) (.tmp 4) 3 "itoa.go:224" #[]), none⟩,
 ⟨.pn (opBin (some 147) .sub 3 (.tmp 146) (.const (Value.int IntKind.i64 1)) 3 3 "itoa.go:224" #[{ on := 1, ground := Ground.data }]) opBin_nat, none⟩,
 ⟨.p (opMove (some 148) (.tmp 0) 46 "itoa.go:224" #[{ on := 12, ground := (Ground.gcOnly Departure.lateStores) }]), none⟩,
 ⟨.p (opMove (some 149) (.tmp 4) 3 "itoa.go:224" #[{ on := 12, ground := (Ground.gcOnly Departure.lateStores) }]), none⟩,
 ⟨.pn (opBin (some 150) .sub 3 (.tmp 149) (.const (Value.int IntKind.i64 2)) 3 3 "itoa.go:224" #[{ on := 4, ground := Ground.data }, { on := 12, ground := (Ground.gcOnly Departure.lateStores) }]) opBin_nat, none⟩,
 ⟨.p (opMove (some 151) (.tmp 16) 118 "itoa.go:224" #[]), none⟩,
 ⟨.pn (opBin (some 152) .add 118 (.tmp 151) (.const (Value.int IntKind.u32 1)) 118 118 "itoa.go:224" #[{ on := 6, ground := Ground.data }]) opBin_nat, none⟩,
 ⟨.pn (PSim.named (opIndexStrW (some 153) 9 (.const (Value.string { data := (.append #[48, 48, 48, 49, 48, 50, 48, 51, 48, 52, 48, 53, 48, 54, 48, 55, 48, 56, 48, 57, 49, 48, 49, 49, 49, 50, 49, 51, 49, 52, 49, 53, 49, 54, 49, 55, 49, 56, 49, 57, 50, 48, 50, 49, 50, 50, 50, 51, 50, 52, 50, 53, 50, 54, 50, 55, 50, 56, 50, 57, 51, 48, 51, 49, 51, 50, 51, 51, 51, 52, 51, 53, 51, 54, 51, 55, 51, 56, 51, 57, 52, 48, 52, 49, 52, 50, 52, 51, 52, 52, 52, 53, 52, 54, 52, 55, 52, 56, 52, 57] #[53, 48, 53, 49, 53, 50, 53, 51, 53, 52, 53, 53, 53, 54, 53, 55, 53, 56, 53, 57, 54, 48, 54, 49, 54, 50, 54, 51, 54, 52, 54, 53, 54, 54, 54, 55, 54, 56, 54, 57, 55, 48, 55, 49, 55, 50, 55, 51, 55, 52, 55, 53, 55, 54, 55, 55, 55, 56, 55, 57, 56, 48, 56, 49, 56, 50, 56, 51, 56, 52, 56, 53, 56, 54, 56, 55, 56, 56, 56, 57, 57, 48, 57, 49, 57, 50, 57, 51, 57, 52, 57, 53, 57, 54, 57, 55, 57, 56, 57, 57]) })) (.tmp 152) Tryd.underlying9 5 "itoa.go:224" #[{ on := 7, ground := Ground.data }]) tx_730b8f { data := (.append #[48, 48, 48, 49, 48, 50, 48, 51, 48, 52, 48, 53, 48, 54, 48, 55, 48, 56, 48, 57, 49, 48, 49, 49, 49, 50, 49, 51, 49, 52, 49, 53, 49, 54, 49, 55, 49, 56, 49, 57, 50, 48, 50, 49, 50, 50, 50, 51, 50, 52, 50, 53, 50, 54, 50, 55, 50, 56, 50, 57, 51, 48, 51, 49, 51, 50, 51, 51, 51, 52, 51, 53, 51, 54, 51, 55, 51, 56, 51, 57, 52, 48, 52, 49, 52, 50, 52, 51, 52, 52, 52, 53, 52, 54, 52, 55, 52, 56, 52, 57] #[53, 48, 53, 49, 53, 50, 53, 51, 53, 52, 53, 53, 53, 54, 53, 55, 53, 56, 53, 57, 54, 48, 54, 49, 54, 50, 54, 51, 54, 52, 54, 53, 54, 54, 54, 55, 54, 56, 54, 57, 55, 48, 55, 49, 55, 50, 55, 51, 55, 52, 55, 53, 55, 54, 55, 55, 55, 56, 55, 57, 56, 48, 56, 49, 56, 50, 56, 51, 56, 52, 56, 53, 56, 54, 56, 55, 56, 56, 56, 57, 57, 48, 57, 49, 57, 50, 57, 51, 57, 52, 57, 53, 57, 54, 57, 55, 57, 56, 57, 57]) } tx_730b8f_eq (by kernel_rfl)) (PSim.named_nat opIndexStrW_nat), none⟩,
 ⟨.p (opMove (some 154) (.tmp 16) 118 "itoa.go:224" #[]), none⟩,
 ⟨.pn (PSim.named (opIndexStrW (some 155) 9 (.const (Value.string { data := (.append #[48, 48, 48, 49, 48, 50, 48, 51, 48, 52, 48, 53, 48, 54, 48, 55, 48, 56, 48, 57, 49, 48, 49, 49, 49, 50, 49, 51, 49, 52, 49, 53, 49, 54, 49, 55, 49, 56, 49, 57, 50, 48, 50, 49, 50, 50, 50, 51, 50, 52, 50, 53, 50, 54, 50, 55, 50, 56, 50, 57, 51, 48, 51, 49, 51, 50, 51, 51, 51, 52, 51, 53, 51, 54, 51, 55, 51, 56, 51, 57, 52, 48, 52, 49, 52, 50, 52, 51, 52, 52, 52, 53, 52, 54, 52, 55, 52, 56, 52, 57] #[53, 48, 53, 49, 53, 50, 53, 51, 53, 52, 53, 53, 53, 54, 53, 55, 53, 56, 53, 57, 54, 48, 54, 49, 54, 50, 54, 51, 54, 52, 54, 53, 54, 54, 54, 55, 54, 56, 54, 57, 55, 48, 55, 49, 55, 50, 55, 51, 55, 52, 55, 53, 55, 54, 55, 55, 55, 56, 55, 57, 56, 48, 56, 49, 56, 50, 56, 51, 56, 52, 56, 53, 56, 54, 56, 55, 56, 56, 56, 57, 57, 48, 57, 49, 57, 50, 57, 51, 57, 52, 57, 53, 57, 54, 57, 55, 57, 56, 57, 57]) })) (.tmp 154) Tryd.underlying9 5 "itoa.go:224" #[{ on := 9, ground := Ground.data }]) tx_730b8f { data := (.append #[48, 48, 48, 49, 48, 50, 48, 51, 48, 52, 48, 53, 48, 54, 48, 55, 48, 56, 48, 57, 49, 48, 49, 49, 49, 50, 49, 51, 49, 52, 49, 53, 49, 54, 49, 55, 49, 56, 49, 57, 50, 48, 50, 49, 50, 50, 50, 51, 50, 52, 50, 53, 50, 54, 50, 55, 50, 56, 50, 57, 51, 48, 51, 49, 51, 50, 51, 51, 51, 52, 51, 53, 51, 54, 51, 55, 51, 56, 51, 57, 52, 48, 52, 49, 52, 50, 52, 51, 52, 52, 52, 53, 52, 54, 52, 55, 52, 56, 52, 57] #[53, 48, 53, 49, 53, 50, 53, 51, 53, 52, 53, 53, 53, 54, 53, 55, 53, 56, 53, 57, 54, 48, 54, 49, 54, 50, 54, 51, 54, 52, 54, 53, 54, 54, 54, 55, 54, 56, 54, 57, 55, 48, 55, 49, 55, 50, 55, 51, 55, 52, 55, 53, 55, 54, 55, 55, 55, 56, 55, 57, 56, 48, 56, 49, 56, 50, 56, 51, 56, 52, 56, 53, 56, 54, 56, 55, 56, 56, 56, 57, 57, 48, 57, 49, 57, 50, 57, 51, 57, 52, 57, 53, 57, 54, 57, 55, 57, 56, 57, 57]) } tx_730b8f_eq (by kernel_rfl)) (PSim.named_nat opIndexStrW_nat), none⟩,
 ⟨.pn (opIndexAddrT (some 156) 46 (.tmp 145) (.tmp 147) 5 1 Tryd.underlying46 sz5 0 "itoa.go:224" #[{ on := 0, ground := Ground.data }, { on := 2, ground := Ground.data }, { on := 0, ground := Ground.phase }, { on := 1, ground := Ground.phase }, { on := 2, ground := Ground.phase }, { on := 3, ground := (Ground.textOnly Departure.lateStores) }, { on := 4, ground := (Ground.textOnly Departure.lateStores) }, { on := 5, ground := (Ground.textOnly Departure.lateStores) }, { on := 6, ground := Ground.phase }, { on := 7, ground := Ground.phase }, { on := 8, ground := Ground.phase }, { on := 9, ground := (Ground.textOnly Departure.lateStores) }, { on := 10, ground := (Ground.textOnly Departure.lateStoresUnsure) }]) opIndexAddrT_nat, none⟩,
 ⟨.mn (opStoreC none 5 (.tmp 156) (.tmp 153) 1 sz5 0 "itoa.go:224" #[{ on := 11, ground := Ground.data }, { on := 8, ground := Ground.data }, { on := 0, ground := Ground.phase }, { on := 1, ground := Ground.phase }, { on := 2, ground := Ground.phase }, { on := 3, ground := (Ground.textOnly Departure.lateStores) }, { on := 4, ground := (Ground.textOnly Departure.lateStores) }, { on := 5, ground := (Ground.textOnly Departure.lateStores) }, { on := 6, ground := Ground.phase }, { on := 7, ground := Ground.phase }, { on := 8, ground := Ground.phase }, { on := 9, ground := (Ground.textOnly Departure.lateStores) }, { on := 10, ground := (Ground.textOnly Departure.lateStoresUnsure) }]) opStoreC_nat, none⟩,
 ⟨.pn (opIndexAddrT (some 157) 46 (.tmp 148) (.tmp 150) 5 1 Tryd.underlying46 sz5 0 "itoa.go:224" #[{ on := 3, ground := Ground.data }, { on := 5, ground := Ground.data }, { on := 0, ground := Ground.phase }, { on := 1, ground := Ground.phase }, { on := 2, ground := Ground.phase }, { on := 3, ground := Ground.phase }, { on := 4, ground := Ground.phase }, { on := 5, ground := Ground.phase }, { on := 6, ground := Ground.phase }, { on := 7, ground := Ground.phase }, { on := 8, ground := Ground.phase }, { on := 9, ground := Ground.phase }, { on := 10, ground := Ground.phase }, { on := 11, ground := Ground.phase }, { on := 12, ground := Ground.phase }]) opIndexAddrT_nat, none⟩,
 ⟨.mn (opStoreC none 5 (.tmp 157) (.tmp 155) 1 sz5 0 "itoa.go:224" #[{ on := 13, ground := Ground.data }, { on := 10, ground := Ground.data }, { on := 12, ground := Ground.chain }, { on := 0, ground := Ground.phase }, { on := 1, ground := Ground.phase }, { on := 2, ground := Ground.phase }, { on := 3, ground := Ground.phase }, { on := 4, ground := Ground.phase }, { on := 5, ground := Ground.phase }, { on := 6, ground := Ground.phase }, { on := 7, ground := Ground.phase }, { on := 8, ground := Ground.phase }, { on := 9, ground := Ground.phase }, { on := 10, ground := Ground.phase }, { on := 11, ground := Ground.phase }, { on := 12, ground := Ground.phase }]) opStoreC_nat, none⟩
 ] mixed (by kernel_rfl)))
 (.live [0, 4, 12] (.region 24 [
 ⟨(opMove (some 158) (.tmp 4) 3 "itoa.go:225" #[]).op, none⟩,
 ⟨(opBin (some 159) .sub 3 (.tmp 158) (.const (Value.int IntKind.i64 2)) 3 3 "itoa.go:225" #[{ on := 0, ground := Ground.data }]).op, none⟩,
 ⟨(opAssign (some 4) (.tmp 159) 3 "itoa.go:225" #[{ on := 1, ground := Ground.data }, { on := 0, ground := Ground.phase }, { on := 1, ground := Ground.phase }]).op, none⟩
 ] (by kernel_rfl))))))
 .skip))
 (.seq (.live [0, 12, 161] (.region 25 [
 ⟨(opMove (some 160) (.tmp 4) 3 "itoa.go:227" #[]).op, none⟩,
 ⟨(opBin (some 161) .gtr 3 (.tmp 160) (.const (Value.int IntKind.i64 0)) 3 4 "itoa.go:227" #[{ on := 0, ground := Ground.data }]).op, none⟩
 ] (by kernel_rfl)))
 (.cond (.tmp 161)
 (.live [] (.region 26 [
 ⟨(opMove (some 162) (.tmp 0) 46 "itoa.go:229" #[]).op, none⟩,
 ⟨(opMove (some 163) (.tmp 12) 118 "itoa.go:229" #[]).op, none⟩,
 ⟨(opBin (some 164) .add 118 (.const (Value.int IntKind.u32 48)) (.tmp 163) 118 118 "itoa.go:229" #[{ on := 1, ground := Ground.data }]).op, none⟩,
 ⟨(opConvInt (some 165) 118 5 (.tmp 164) (.int .u32) Tryd.underlying118 .u8 Tryd.underlying5 5 "itoa.go:229" #[{ on := 2, ground := Ground.data }]).op, none⟩,
 ⟨(opIndexAddrT (some 166) 46 (.tmp 162) (.const (Value.int IntKind.i64 0)) 5 1 Tryd.underlying46 sz5 0 "itoa.go:229" #[{ on := 0, ground := Ground.data }, { on := 0, ground := Ground.phase }, { on := 1, ground := Ground.phase }, { on := 2, ground := Ground.phase }, { on := 3, ground := Ground.phase }]).op, none⟩,
 ⟨(opStoreC none 5 (.tmp 166) (.tmp 165) 1 sz5 0 "itoa.go:229" #[{ on := 4, ground := Ground.data }, { on := 3, ground := Ground.data }, { on := 0, ground := Ground.phase }, { on := 1, ground := Ground.phase }, { on := 2, ground := Ground.phase }, { on := 3, ground := Ground.phase }]).op, none⟩
 ] (by kernel_rfl)))
 .skip)))))

noncomputable def f86_b : Sim Tryd.prog :=
 (.seq (.live [0, 1, 4] (.region 0 [
 ⟨(opMove (some 17) (.tmp 0) 46 "itoa.go:195" #[]).op, none⟩,
 ⟨(opLen (some 18) (.tmp 17) 46 (.slice 5) Tryd.underlying46 3 "itoa.go:195" #[{ on := 0, ground := Ground.data }]).op, none⟩,
 ⟨(opAssign (some 4) (.tmp 18) 3 "itoa.go:195" #[{ on := 1, ground := Ground.data }, { on := 0, ground := Ground.phase }, { on := 1, ground := Ground.phase }]).op, none⟩
 ] (by kernel_rfl)))
 (.seq (.block 0 (.loop [0, 1, 4] f86_l0))
 f86_r0))

noncomputable def f86 : Fun Tryd.prog where
 id := 86
 fn := Tryd.f86
 hf := Tryd.func86
 hname := by kernel_rfl
 body := f86_b
 hbody := by kernel_rfl
 res := []
 hres := by kernel_rfl
 n := 167
 hn := by kernel_rfl

end Go.Proofs.YtcfedmheblbdnaaDoor.V

/- What the functions' runs come to; the right sides were printed by a tool, Lean checks them. -/
set_option linter.unusedVariables false
set_option maxRecDepth 100000
namespace Go.Proofs.YtcfedmheblbdnaaDoor.V
open Go Go.V Go.RowKit

theorem fb_run (F : Nat) (n c : Nat) (u : Int) (C : List AV) (os : List Ob) (tk : List (Nat × Nat)) :
 (f86.run F [.ms 0 1 1 n c, .int .u64 u] ⟨.cells C :: os, tk⟩ : Ans) =
 loopRun (f86_l0.run F) [0, 1, 4]
 (Cont.block 0 (Cont.then (f86_r0.run F (f86.leaveK Fun.done)) (f86.leaveK Fun.done))) F
 (Env.mk 167
 [(0, AV.ms 0 1 1 n c), (1, AV.int IntKind.u64 u),
 (4, AV.int IntKind.i64 (↑n : Int))])
 (St.mk (Ob.cells C :: os) tk) := by kernel_rfl

theorem fb_round (F m : Nat) (K : Cont) (n c : Nat) (u d : Int) (C : List AV) (os : List Ob) (tk : List (Nat × Nat)) :
 (loopRun (f86_l0.run F) [0, 1, 4] K m.succ (Env.mk 167 [(0, .ms 0 1 1 n c), (1, .int .u64 u), (4, .int .i64 d)]) ⟨.cells C :: os, tk⟩ : Ans) =
 branch (AV.bool (decide (d ≥ (8 : Int))))
 (branch
 (AV.bool
 (inT tx_730b8f
 (IntKind.u32.wrap
 (IntKind.u32.wrap
 (((IntKind.u32.wrap (u.tmod (100000000 : Int))).tmod (10000 : Int)).tmod (100 : Int) * (2 : Int)) +
 (1 : Int)))))
 (branch
 (AV.bool
 (inT tx_730b8f
 (IntKind.u32.wrap
 (((IntKind.u32.wrap (u.tmod (100000000 : Int))).tmod (10000 : Int)).tmod (100 : Int) * (2 : Int)))))
 (if (0 : Int) ≤ IntKind.i64.wrap (d - (1 : Int)) ∧ IntKind.i64.wrap (d - (1 : Int)) < (↑n : Int) then
 branch (AV.bool (true && inC C (1 + (IntKind.i64.wrap (d - (1 : Int))).toNat * 1) 1))
 (if (0 : Int) ≤ IntKind.i64.wrap (d - (2 : Int)) ∧ IntKind.i64.wrap (d - (2 : Int)) < (↑n : Int) then
 branch
 (AV.bool
 (true &&
 inC
 (setC C (1 + (IntKind.i64.wrap (d - (1 : Int))).toNat * 1)
 [AV.int IntKind.u8
 (atT tx_730b8f
 (IntKind.u32.wrap
 (IntKind.u32.wrap
 (((IntKind.u32.wrap (u.tmod (100000000 : Int))).tmod (10000 : Int)).tmod (100 : Int) *
 (2 : Int)) +
 (1 : Int))))])
 (1 + (IntKind.i64.wrap (d - (2 : Int))).toNat * 1) 1))
 (branch
 (AV.bool
 (inT tx_730b8f
 (IntKind.u32.wrap
 (IntKind.u32.wrap
 (IntKind.u32.wrap
 (((IntKind.u32.wrap (u.tmod (100000000 : Int))).tmod (10000 : Int)).tdiv (100 : Int)) *
 (2 : Int)) +
 (1 : Int)))))
 (branch
 (AV.bool
 (inT tx_730b8f
 (IntKind.u32.wrap
 (IntKind.u32.wrap
 (((IntKind.u32.wrap (u.tmod (100000000 : Int))).tmod (10000 : Int)).tdiv (100 : Int)) *
 (2 : Int)))))
 (if (0 : Int) ≤ IntKind.i64.wrap (d - (3 : Int)) ∧ IntKind.i64.wrap (d - (3 : Int)) < (↑n : Int) then
 branch
 (AV.bool
 (true &&
 inC
 (setC
 (setC C (1 + (IntKind.i64.wrap (d - (1 : Int))).toNat * 1)
 [AV.int IntKind.u8
 (atT tx_730b8f
 (IntKind.u32.wrap
 (IntKind.u32.wrap
 (((IntKind.u32.wrap (u.tmod (100000000 : Int))).tmod (10000 : Int)).tmod
 (100 : Int) *
 (2 : Int)) +
 (1 : Int))))])
 (1 + (IntKind.i64.wrap (d - (2 : Int))).toNat * 1)
 [AV.int IntKind.u8
 (atT tx_730b8f
 (IntKind.u32.wrap
 (((IntKind.u32.wrap (u.tmod (100000000 : Int))).tmod (10000 : Int)).tmod
 (100 : Int) *
 (2 : Int))))])
 (1 + (IntKind.i64.wrap (d - (3 : Int))).toNat * 1) 1))
 (if
 (0 : Int) ≤ IntKind.i64.wrap (d - (4 : Int)) ∧
 IntKind.i64.wrap (d - (4 : Int)) < (↑n : Int) then
 branch
 (AV.bool
 (true &&
 inC
 (setC
 (setC
 (setC C (1 + (IntKind.i64.wrap (d - (1 : Int))).toNat * 1)
 [AV.int IntKind.u8
 (atT tx_730b8f
 (IntKind.u32.wrap
 (IntKind.u32.wrap
 (((IntKind.u32.wrap (u.tmod (100000000 : Int))).tmod
 (10000 : Int)).tmod
 (100 : Int) *
 (2 : Int)) +
 (1 : Int))))])
 (1 + (IntKind.i64.wrap (d - (2 : Int))).toNat * 1)
 [AV.int IntKind.u8
 (atT tx_730b8f
 (IntKind.u32.wrap
 (((IntKind.u32.wrap (u.tmod (100000000 : Int))).tmod (10000 : Int)).tmod
 (100 : Int) *
 (2 : Int))))])
 (1 + (IntKind.i64.wrap (d - (3 : Int))).toNat * 1)
 [AV.int IntKind.u8
 (atT tx_730b8f
 (IntKind.u32.wrap
 (IntKind.u32.wrap
 (IntKind.u32.wrap
 (((IntKind.u32.wrap (u.tmod (100000000 : Int))).tmod
 (10000 : Int)).tdiv
 (100 : Int)) *
 (2 : Int)) +
 (1 : Int))))])
 (1 + (IntKind.i64.wrap (d - (4 : Int))).toNat * 1) 1))
 (branch
 (AV.bool
 (inT tx_730b8f
 (IntKind.u32.wrap
 (IntKind.u32.wrap
 ((IntKind.u32.wrap
 ((IntKind.u32.wrap (u.tmod (100000000 : Int))).tdiv (10000 : Int))).tmod
 (100 : Int) *
 (2 : Int)) +
 (1 : Int)))))
 (branch
 (AV.bool
 (inT tx_730b8f
 (IntKind.u32.wrap
 ((IntKind.u32.wrap
 ((IntKind.u32.wrap (u.tmod (100000000 : Int))).tdiv (10000 : Int))).tmod
 (100 : Int) *
 (2 : Int)))))
 (if
 (0 : Int) ≤ IntKind.i64.wrap (d - (5 : Int)) ∧
 IntKind.i64.wrap (d - (5 : Int)) < (↑n : Int) then
 branch
 (AV.bool
 (true &&
 inC
 (setC
 (setC
 (setC
 (setC C (1 + (IntKind.i64.wrap (d - (1 : Int))).toNat * 1)
 [AV.int IntKind.u8
 (atT tx_730b8f
 (IntKind.u32.wrap
 (IntKind.u32.wrap
 (((IntKind.u32.wrap (u.tmod (100000000 : Int))).tmod
 (10000 : Int)).tmod
 (100 : Int) *
 (2 : Int)) +
 (1 : Int))))])
 (1 + (IntKind.i64.wrap (d - (2 : Int))).toNat * 1)
 [AV.int IntKind.u8
 (atT tx_730b8f
 (IntKind.u32.wrap
 (((IntKind.u32.wrap (u.tmod (100000000 : Int))).tmod
 (10000 : Int)).tmod
 (100 : Int) *
 (2 : Int))))])
 (1 + (IntKind.i64.wrap (d - (3 : Int))).toNat * 1)
 [AV.int IntKind.u8
 (atT tx_730b8f
 (IntKind.u32.wrap
 (IntKind.u32.wrap
 (IntKind.u32.wrap
 (((IntKind.u32.wrap (u.tmod (100000000 : Int))).tmod
 (10000 : Int)).tdiv
 (100 : Int)) *
 (2 : Int)) +
 (1 : Int))))])
 (1 + (IntKind.i64.wrap (d - (4 : Int))).toNat * 1)
 [AV.int IntKind.u8
 (atT tx_730b8f
 (IntKind.u32.wrap
 (IntKind.u32.wrap
 (((IntKind.u32.wrap (u.tmod (100000000 : Int))).tmod
 (10000 : Int)).tdiv
 (100 : Int)) *
 (2 : Int))))])
 (1 + (IntKind.i64.wrap (d - (5 : Int))).toNat * 1) 1))
 (if
 (0 : Int) ≤ IntKind.i64.wrap (d - (6 : Int)) ∧
 IntKind.i64.wrap (d - (6 : Int)) < (↑n : Int) then
 branch
 (AV.bool
 (true &&
 inC
 (setC
 (setC
 (setC
 (setC
 (setC C
 (1 + (IntKind.i64.wrap (d - (1 : Int))).toNat * 1)
 [AV.int IntKind.u8
 (atT tx_730b8f
 (IntKind.u32.wrap
 (IntKind.u32.wrap
 (((IntKind.u32.wrap (u.tmod (100000000 : Int))).tmod
 (10000 : Int)).tmod
 (100 : Int) *
 (2 : Int)) +
 (1 : Int))))])
 (1 + (IntKind.i64.wrap (d - (2 : Int))).toNat * 1)
 [AV.int IntKind.u8
 (atT tx_730b8f
 (IntKind.u32.wrap
 (((IntKind.u32.wrap (u.tmod (100000000 : Int))).tmod
 (10000 : Int)).tmod
 (100 : Int) *
 (2 : Int))))])
 (1 + (IntKind.i64.wrap (d - (3 : Int))).toNat * 1)
 [AV.int IntKind.u8
 (atT tx_730b8f
 (IntKind.u32.wrap
 (IntKind.u32.wrap
 (IntKind.u32.wrap
 (((IntKind.u32.wrap (u.tmod (100000000 : Int))).tmod
 (10000 : Int)).tdiv
 (100 : Int)) *
 (2 : Int)) +
 (1 : Int))))])
 (1 + (IntKind.i64.wrap (d - (4 : Int))).toNat * 1)
 [AV.int IntKind.u8
 (atT tx_730b8f
 (IntKind.u32.wrap
 (IntKind.u32.wrap
 (((IntKind.u32.wrap (u.tmod (100000000 : Int))).tmod
 (10000 : Int)).tdiv
 (100 : Int)) *
 (2 : Int))))])
 (1 + (IntKind.i64.wrap (d - (5 : Int))).toNat * 1)
 [AV.int IntKind.u8
 (atT tx_730b8f
 (IntKind.u32.wrap
 (IntKind.u32.wrap
 ((IntKind.u32.wrap
 ((IntKind.u32.wrap (u.tmod (100000000 : Int))).tdiv
 (10000 : Int))).tmod
 (100 : Int) *
 (2 : Int)) +
 (1 : Int))))])
 (1 + (IntKind.i64.wrap (d - (6 : Int))).toNat * 1)
 1))
 (branch
 (AV.bool
 (inT tx_730b8f
 (IntKind.u32.wrap
 (IntKind.u32.wrap
 (IntKind.u32.wrap
 ((IntKind.u32.wrap
 ((IntKind.u32.wrap (u.tmod (100000000 : Int))).tdiv
 (10000 : Int))).tdiv
 (100 : Int)) *
 (2 : Int)) +
 (1 : Int)))))
 (branch
 (AV.bool
 (inT tx_730b8f
 (IntKind.u32.wrap
 (IntKind.u32.wrap
 ((IntKind.u32.wrap
 ((IntKind.u32.wrap (u.tmod (100000000 : Int))).tdiv
 (10000 : Int))).tdiv
 (100 : Int)) *
 (2 : Int)))))
 (if
 (0 : Int) ≤ IntKind.i64.wrap (d - (7 : Int)) ∧
 IntKind.i64.wrap (d - (7 : Int)) < (↑n : Int) then
 branch
 (AV.bool
 (true &&
 inC
 (setC
 (setC
 (setC
 (setC
 (setC
 (setC C
 (1 +
 (IntKind.i64.wrap (d - (1 : Int))).toNat * 1)
 [AV.int IntKind.u8
 (atT tx_730b8f
 (IntKind.u32.wrap
 (IntKind.u32.wrap
 (((IntKind.u32.wrap
 (u.tmod (100000000 : Int))).tmod
 (10000 : Int)).tmod
 (100 : Int) *
 (2 : Int)) +
 (1 : Int))))])
 (1 +
 (IntKind.i64.wrap (d - (2 : Int))).toNat * 1)
 [AV.int IntKind.u8
 (atT tx_730b8f
 (IntKind.u32.wrap
 (((IntKind.u32.wrap
 (u.tmod (100000000 : Int))).tmod
 (10000 : Int)).tmod
 (100 : Int) *
 (2 : Int))))])
 (1 +
 (IntKind.i64.wrap (d - (3 : Int))).toNat * 1)
 [AV.int IntKind.u8
 (atT tx_730b8f
 (IntKind.u32.wrap
 (IntKind.u32.wrap
 (IntKind.u32.wrap
 (((IntKind.u32.wrap
 (u.tmod (100000000 : Int))).tmod
 (10000 : Int)).tdiv
 (100 : Int)) *
 (2 : Int)) +
 (1 : Int))))])
 (1 +
 (IntKind.i64.wrap (d - (4 : Int))).toNat * 1)
 [AV.int IntKind.u8
 (atT tx_730b8f
 (IntKind.u32.wrap
 (IntKind.u32.wrap
 (((IntKind.u32.wrap
 (u.tmod (100000000 : Int))).tmod
 (10000 : Int)).tdiv
 (100 : Int)) *
 (2 : Int))))])
 (1 +
 (IntKind.i64.wrap (d - (5 : Int))).toNat * 1)
 [AV.int IntKind.u8
 (atT tx_730b8f
 (IntKind.u32.wrap
 (IntKind.u32.wrap
 ((IntKind.u32.wrap
 ((IntKind.u32.wrap
 (u.tmod (100000000 : Int))).tdiv
 (10000 : Int))).tmod
 (100 : Int) *
 (2 : Int)) +
 (1 : Int))))])
 (1 + (IntKind.i64.wrap (d - (6 : Int))).toNat * 1)
 [AV.int IntKind.u8
 (atT tx_730b8f
 (IntKind.u32.wrap
 ((IntKind.u32.wrap
 ((IntKind.u32.wrap
 (u.tmod (100000000 : Int))).tdiv
 (10000 : Int))).tmod
 (100 : Int) *
 (2 : Int))))])
 (1 + (IntKind.i64.wrap (d - (7 : Int))).toNat * 1)
 1))
 (if
 (0 : Int) ≤ IntKind.i64.wrap (d - (8 : Int)) ∧
 IntKind.i64.wrap (d - (8 : Int)) < (↑n : Int) then
 branch
 (AV.bool
 (true &&
 inC
 (setC
 (setC
 (setC
 (setC
 (setC
 (setC
 (setC C
 (1 +
 (IntKind.i64.wrap (d - (1 : Int))).toNat *
 1)
 [AV.int IntKind.u8
 (atT tx_730b8f
 (IntKind.u32.wrap
 (IntKind.u32.wrap
 (((IntKind.u32.wrap
 (u.tmod
 (100000000 : Int))).tmod
 (10000 : Int)).tmod
 (100 : Int) *
 (2 : Int)) +
 (1 : Int))))])
 (1 +
 (IntKind.i64.wrap (d - (2 : Int))).toNat *
 1)
 [AV.int IntKind.u8
 (atT tx_730b8f
 (IntKind.u32.wrap
 (((IntKind.u32.wrap
 (u.tmod (100000000 : Int))).tmod
 (10000 : Int)).tmod
 (100 : Int) *
 (2 : Int))))])
 (1 +
 (IntKind.i64.wrap (d - (3 : Int))).toNat *
 1)
 [AV.int IntKind.u8
 (atT tx_730b8f
 (IntKind.u32.wrap
 (IntKind.u32.wrap
 (IntKind.u32.wrap
 (((IntKind.u32.wrap
 (u.tmod
 (100000000 : Int))).tmod
 (10000 : Int)).tdiv
 (100 : Int)) *
 (2 : Int)) +
 (1 : Int))))])
 (1 +
 (IntKind.i64.wrap (d - (4 : Int))).toNat * 1)
 [AV.int IntKind.u8
 (atT tx_730b8f
 (IntKind.u32.wrap
 (IntKind.u32.wrap
 (((IntKind.u32.wrap
 (u.tmod (100000000 : Int))).tmod
 (10000 : Int)).tdiv
 (100 : Int)) *
 (2 : Int))))])
 (1 +
 (IntKind.i64.wrap (d - (5 : Int))).toNat * 1)
 [AV.int IntKind.u8
 (atT tx_730b8f
 (IntKind.u32.wrap
 (IntKind.u32.wrap
 ((IntKind.u32.wrap
 ((IntKind.u32.wrap
 (u.tmod (100000000 : Int))).tdiv
 (10000 : Int))).tmod
 (100 : Int) *
 (2 : Int)) +
 (1 : Int))))])
 (1 +
 (IntKind.i64.wrap (d - (6 : Int))).toNat * 1)
 [AV.int IntKind.u8
 (atT tx_730b8f
 (IntKind.u32.wrap
 ((IntKind.u32.wrap
 ((IntKind.u32.wrap
 (u.tmod (100000000 : Int))).tdiv
 (10000 : Int))).tmod
 (100 : Int) *
 (2 : Int))))])
 (1 +
 (IntKind.i64.wrap (d - (7 : Int))).toNat * 1)
 [AV.int IntKind.u8
 (atT tx_730b8f
 (IntKind.u32.wrap
 (IntKind.u32.wrap
 (IntKind.u32.wrap
 ((IntKind.u32.wrap
 ((IntKind.u32.wrap
 (u.tmod (100000000 : Int))).tdiv
 (10000 : Int))).tdiv
 (100 : Int)) *
 (2 : Int)) +
 (1 : Int))))])
 (1 +
 (IntKind.i64.wrap (d - (8 : Int))).toNat * 1)
 1))
 (loopRun (f86_l0.run F) [0, 1, 4] K m
 (Env.mk 167
 [(0, AV.ms 0 1 1 n c),
 (1,
 AV.int IntKind.u64
 (IntKind.u64.wrap (u.tdiv (100000000 : Int)))),
 (4,
 AV.int IntKind.i64 (IntKind.i64.wrap (d - (8 : Int))))])
 (St.mk
 (Ob.cells
 (setC
 (setC
 (setC
 (setC
 (setC
 (setC
 (setC
 (setC C
 (1 +
 (IntKind.i64.wrap (d - (1 : Int))).toNat *
 1)
 [AV.int IntKind.u8
 (atT tx_730b8f
 (IntKind.u32.wrap
 (IntKind.u32.wrap
 (((IntKind.u32.wrap
 (u.tmod
 (100000000 :
 Int))).tmod
 (10000 : Int)).tmod
 (100 : Int) *
 (2 : Int)) +
 (1 : Int))))])
 (1 +
 (IntKind.i64.wrap (d - (2 : Int))).toNat *
 1)
 [AV.int IntKind.u8
 (atT tx_730b8f
 (IntKind.u32.wrap
 (((IntKind.u32.wrap
 (u.tmod
 (100000000 : Int))).tmod
 (10000 : Int)).tmod
 (100 : Int) *
 (2 : Int))))])
 (1 +
 (IntKind.i64.wrap (d - (3 : Int))).toNat *
 1)
 [AV.int IntKind.u8
 (atT tx_730b8f
 (IntKind.u32.wrap
 (IntKind.u32.wrap
 (IntKind.u32.wrap
 (((IntKind.u32.wrap
 (u.tmod
 (100000000 :
 Int))).tmod
 (10000 : Int)).tdiv
 (100 : Int)) *
 (2 : Int)) +
 (1 : Int))))])
 (1 +
 (IntKind.i64.wrap (d - (4 : Int))).toNat *
 1)
 [AV.int IntKind.u8
 (atT tx_730b8f
 (IntKind.u32.wrap
 (IntKind.u32.wrap
 (((IntKind.u32.wrap
 (u.tmod
 (100000000 : Int))).tmod
 (10000 : Int)).tdiv
 (100 : Int)) *
 (2 : Int))))])
 (1 +
 (IntKind.i64.wrap (d - (5 : Int))).toNat *
 1)
 [AV.int IntKind.u8
 (atT tx_730b8f
 (IntKind.u32.wrap
 (IntKind.u32.wrap
 ((IntKind.u32.wrap
 ((IntKind.u32.wrap
 (u.tmod
 (100000000 : Int))).tdiv
 (10000 : Int))).tmod
 (100 : Int) *
 (2 : Int)) +
 (1 : Int))))])
 (1 +
 (IntKind.i64.wrap (d - (6 : Int))).toNat * 1)
 [AV.int IntKind.u8
 (atT tx_730b8f
 (IntKind.u32.wrap
 ((IntKind.u32.wrap
 ((IntKind.u32.wrap
 (u.tmod (100000000 : Int))).tdiv
 (10000 : Int))).tmod
 (100 : Int) *
 (2 : Int))))])
 (1 +
 (IntKind.i64.wrap (d - (7 : Int))).toNat * 1)
 [AV.int IntKind.u8
 (atT tx_730b8f
 (IntKind.u32.wrap
 (IntKind.u32.wrap
 (IntKind.u32.wrap
 ((IntKind.u32.wrap
 ((IntKind.u32.wrap
 (u.tmod
 (100000000 : Int))).tdiv
 (10000 : Int))).tdiv
 (100 : Int)) *
 (2 : Int)) +
 (1 : Int))))])
 (1 +
 (IntKind.i64.wrap (d - (8 : Int))).toNat * 1)
 [AV.int IntKind.u8
 (atT tx_730b8f
 (IntKind.u32.wrap
 (IntKind.u32.wrap
 ((IntKind.u32.wrap
 ((IntKind.u32.wrap
 (u.tmod (100000000 : Int))).tdiv
 (10000 : Int))).tdiv
 (100 : Int)) *
 (2 : Int))))]) ::
 os)
 tk))
 none
 else none)
 none
 else none)
 none)
 none)
 none
 else none)
 none
 else none)
 none)
 none)
 none
 else none)
 none
 else none)
 none)
 none)
 none
 else none)
 none
 else none)
 none)
 none)
 (K (AX.exit 0)
 (Env.mk 167
 [(0, AV.ms 0 1 1 n c), (1, AV.int IntKind.u64 u),
 (4, AV.int IntKind.i64 d)])
 (St.mk (Ob.cells C :: os) tk)) := by kernel_rfl

theorem fb_out (F : Nat) (n c : Nat) (u d : Int) (C : List AV) (os : List Ob) (tk : List (Nat × Nat)) :
 ((Cont.block 0 (Cont.then (f86_r0.run F (f86.leaveK Fun.done)) (f86.leaveK Fun.done))) (.exit 0) (Env.mk 167 [(0, .ms 0 1 1 n c), (1, .int .u64 u), (4, .int .i64 d)]) ⟨.cells C :: os, tk⟩ : Ans) =
 branch (AV.bool (decide (d ≥ (4 : Int))))
 (branch
 (AV.bool
 (inT tx_730b8f
 (IntKind.u32.wrap
 (IntKind.u32.wrap (((IntKind.u32.wrap u).tmod (10000 : Int)).tmod (100 : Int) * (2 : Int)) + (1 : Int)))))
 (branch
 (AV.bool
 (inT tx_730b8f (IntKind.u32.wrap (((IntKind.u32.wrap u).tmod (10000 : Int)).tmod (100 : Int) * (2 : Int)))))
 (if (0 : Int) ≤ IntKind.i64.wrap (d - (1 : Int)) ∧ IntKind.i64.wrap (d - (1 : Int)) < (↑n : Int) then
 branch (AV.bool (true && inC C (1 + (IntKind.i64.wrap (d - (1 : Int))).toNat * 1) 1))
 (if (0 : Int) ≤ IntKind.i64.wrap (d - (2 : Int)) ∧ IntKind.i64.wrap (d - (2 : Int)) < (↑n : Int) then
 branch
 (AV.bool
 (true &&
 inC
 (setC C (1 + (IntKind.i64.wrap (d - (1 : Int))).toNat * 1)
 [AV.int IntKind.u8
 (atT tx_730b8f
 (IntKind.u32.wrap
 (IntKind.u32.wrap
 (((IntKind.u32.wrap u).tmod (10000 : Int)).tmod (100 : Int) * (2 : Int)) +
 (1 : Int))))])
 (1 + (IntKind.i64.wrap (d - (2 : Int))).toNat * 1) 1))
 (branch
 (AV.bool
 (inT tx_730b8f
 (IntKind.u32.wrap
 (IntKind.u32.wrap
 (IntKind.u32.wrap (((IntKind.u32.wrap u).tmod (10000 : Int)).tdiv (100 : Int)) * (2 : Int)) +
 (1 : Int)))))
 (branch
 (AV.bool
 (inT tx_730b8f
 (IntKind.u32.wrap
 (IntKind.u32.wrap (((IntKind.u32.wrap u).tmod (10000 : Int)).tdiv (100 : Int)) * (2 : Int)))))
 (if (0 : Int) ≤ IntKind.i64.wrap (d - (3 : Int)) ∧ IntKind.i64.wrap (d - (3 : Int)) < (↑n : Int) then
 branch
 (AV.bool
 (true &&
 inC
 (setC
 (setC C (1 + (IntKind.i64.wrap (d - (1 : Int))).toNat * 1)
 [AV.int IntKind.u8
 (atT tx_730b8f
 (IntKind.u32.wrap
 (IntKind.u32.wrap
 (((IntKind.u32.wrap u).tmod (10000 : Int)).tmod (100 : Int) * (2 : Int)) +
 (1 : Int))))])
 (1 + (IntKind.i64.wrap (d - (2 : Int))).toNat * 1)
 [AV.int IntKind.u8
 (atT tx_730b8f
 (IntKind.u32.wrap
 (((IntKind.u32.wrap u).tmod (10000 : Int)).tmod (100 : Int) * (2 : Int))))])
 (1 + (IntKind.i64.wrap (d - (3 : Int))).toNat * 1) 1))
 (if
 (0 : Int) ≤ IntKind.i64.wrap (d - (4 : Int)) ∧
 IntKind.i64.wrap (d - (4 : Int)) < (↑n : Int) then
 branch
 (AV.bool
 (true &&
 inC
 (setC
 (setC
 (setC C (1 + (IntKind.i64.wrap (d - (1 : Int))).toNat * 1)
 [AV.int IntKind.u8
 (atT tx_730b8f
 (IntKind.u32.wrap
 (IntKind.u32.wrap
 (((IntKind.u32.wrap u).tmod (10000 : Int)).tmod (100 : Int) *
 (2 : Int)) +
 (1 : Int))))])
 (1 + (IntKind.i64.wrap (d - (2 : Int))).toNat * 1)
 [AV.int IntKind.u8
 (atT tx_730b8f
 (IntKind.u32.wrap
 (((IntKind.u32.wrap u).tmod (10000 : Int)).tmod (100 : Int) * (2 : Int))))])
 (1 + (IntKind.i64.wrap (d - (3 : Int))).toNat * 1)
 [AV.int IntKind.u8
 (atT tx_730b8f
 (IntKind.u32.wrap
 (IntKind.u32.wrap
 (IntKind.u32.wrap
 (((IntKind.u32.wrap u).tmod (10000 : Int)).tdiv (100 : Int)) *
 (2 : Int)) +
 (1 : Int))))])
 (1 + (IntKind.i64.wrap (d - (4 : Int))).toNat * 1) 1))
 (branch (AV.bool (decide (IntKind.i64.wrap (d - (4 : Int)) ≥ (2 : Int))))
 (branch
 (AV.bool
 (inT tx_730b8f
 (IntKind.u32.wrap
 (IntKind.u32.wrap
 ((IntKind.u32.wrap ((IntKind.u32.wrap u).tdiv (10000 : Int))).tmod (100 : Int) *
 (2 : Int)) +
 (1 : Int)))))
 (branch
 (AV.bool
 (inT tx_730b8f
 (IntKind.u32.wrap
 ((IntKind.u32.wrap ((IntKind.u32.wrap u).tdiv (10000 : Int))).tmod (100 : Int) *
 (2 : Int)))))
 (if
 (0 : Int) ≤ IntKind.i64.wrap (IntKind.i64.wrap (d - (4 : Int)) - (1 : Int)) ∧
 IntKind.i64.wrap (IntKind.i64.wrap (d - (4 : Int)) - (1 : Int)) < (↑n : Int) then
 branch
 (AV.bool
 (true &&
 inC
 (setC
 (setC
 (setC
 (setC C
 (1 + (IntKind.i64.wrap (d - (1 : Int))).toNat * 1)
 [AV.int IntKind.u8
 (atT tx_730b8f
 (IntKind.u32.wrap
 (IntKind.u32.wrap
 (((IntKind.u32.wrap u).tmod (10000 : Int)).tmod
 (100 : Int) *
 (2 : Int)) +
 (1 : Int))))])
 (1 + (IntKind.i64.wrap (d - (2 : Int))).toNat * 1)
 [AV.int IntKind.u8
 (atT tx_730b8f
 (IntKind.u32.wrap
 (((IntKind.u32.wrap u).tmod (10000 : Int)).tmod (100 : Int) *
 (2 : Int))))])
 (1 + (IntKind.i64.wrap (d - (3 : Int))).toNat * 1)
 [AV.int IntKind.u8
 (atT tx_730b8f
 (IntKind.u32.wrap
 (IntKind.u32.wrap
 (IntKind.u32.wrap
 (((IntKind.u32.wrap u).tmod (10000 : Int)).tdiv
 (100 : Int)) *
 (2 : Int)) +
 (1 : Int))))])
 (1 + (IntKind.i64.wrap (d - (4 : Int))).toNat * 1)
 [AV.int IntKind.u8
 (atT tx_730b8f
 (IntKind.u32.wrap
 (IntKind.u32.wrap
 (((IntKind.u32.wrap u).tmod (10000 : Int)).tdiv (100 : Int)) *
 (2 : Int))))])
 (1 +
 (IntKind.i64.wrap (IntKind.i64.wrap (d - (4 : Int)) - (1 : Int))).toNat *
 1)
 1))
 (if
 (0 : Int) ≤ IntKind.i64.wrap (IntKind.i64.wrap (d - (4 : Int)) - (2 : Int)) ∧
 IntKind.i64.wrap (IntKind.i64.wrap (d - (4 : Int)) - (2 : Int)) <
 (↑n : Int) then
 branch
 (AV.bool
 (true &&
 inC
 (setC
 (setC
 (setC
 (setC
 (setC C
 (1 +
 (IntKind.i64.wrap (d - (1 : Int))).toNat * 1)
 [AV.int IntKind.u8
 (atT tx_730b8f
 (IntKind.u32.wrap
 (IntKind.u32.wrap
 (((IntKind.u32.wrap u).tmod (10000 : Int)).tmod
 (100 : Int) *
 (2 : Int)) +
 (1 : Int))))])
 (1 + (IntKind.i64.wrap (d - (2 : Int))).toNat * 1)
 [AV.int IntKind.u8
 (atT tx_730b8f
 (IntKind.u32.wrap
 (((IntKind.u32.wrap u).tmod (10000 : Int)).tmod
 (100 : Int) *
 (2 : Int))))])
 (1 + (IntKind.i64.wrap (d - (3 : Int))).toNat * 1)
 [AV.int IntKind.u8
 (atT tx_730b8f
 (IntKind.u32.wrap
 (IntKind.u32.wrap
 (IntKind.u32.wrap
 (((IntKind.u32.wrap u).tmod (10000 : Int)).tdiv
 (100 : Int)) *
 (2 : Int)) +
 (1 : Int))))])
 (1 + (IntKind.i64.wrap (d - (4 : Int))).toNat * 1)
 [AV.int IntKind.u8
 (atT tx_730b8f
 (IntKind.u32.wrap
 (IntKind.u32.wrap
 (((IntKind.u32.wrap u).tmod (10000 : Int)).tdiv
 (100 : Int)) *
 (2 : Int))))])
 (1 +
 (IntKind.i64.wrap
 (IntKind.i64.wrap (d - (4 : Int)) - (1 : Int))).toNat *
 1)
 [AV.int IntKind.u8
 (atT tx_730b8f
 (IntKind.u32.wrap
 (IntKind.u32.wrap
 ((IntKind.u32.wrap
 ((IntKind.u32.wrap u).tdiv (10000 : Int))).tmod
 (100 : Int) *
 (2 : Int)) +
 (1 : Int))))])
 (1 +
 (IntKind.i64.wrap
 (IntKind.i64.wrap (d - (4 : Int)) - (2 : Int))).toNat *
 1)
 1))
 (branch
 (AV.bool
 (decide
 (IntKind.i64.wrap (IntKind.i64.wrap (d - (4 : Int)) - (2 : Int)) >
 (0 : Int))))
 (if (0 : Int) ≤ (0 : Int) ∧ (0 : Int) < (↑n : Int) then
 branch
 (AV.bool
 (true &&
 inC
 (setC
 (setC
 (setC
 (setC
 (setC
 (setC C
 (1 +
 (IntKind.i64.wrap (d - (1 : Int))).toNat * 1)
 [AV.int IntKind.u8
 (atT tx_730b8f
 (IntKind.u32.wrap
 (IntKind.u32.wrap
 (((IntKind.u32.wrap u).tmod
 (10000 : Int)).tmod
 (100 : Int) *
 (2 : Int)) +
 (1 : Int))))])
 (1 +
 (IntKind.i64.wrap (d - (2 : Int))).toNat * 1)
 [AV.int IntKind.u8
 (atT tx_730b8f
 (IntKind.u32.wrap
 (((IntKind.u32.wrap u).tmod (10000 : Int)).tmod
 (100 : Int) *
 (2 : Int))))])
 (1 +
 (IntKind.i64.wrap (d - (3 : Int))).toNat * 1)
 [AV.int IntKind.u8
 (atT tx_730b8f
 (IntKind.u32.wrap
 (IntKind.u32.wrap
 (IntKind.u32.wrap
 (((IntKind.u32.wrap u).tmod
 (10000 : Int)).tdiv
 (100 : Int)) *
 (2 : Int)) +
 (1 : Int))))])
 (1 +
 (IntKind.i64.wrap (d - (4 : Int))).toNat * 1)
 [AV.int IntKind.u8
 (atT tx_730b8f
 (IntKind.u32.wrap
 (IntKind.u32.wrap
 (((IntKind.u32.wrap u).tmod (10000 : Int)).tdiv
 (100 : Int)) *
 (2 : Int))))])
 (1 +
 (IntKind.i64.wrap
 (IntKind.i64.wrap (d - (4 : Int)) - (1 : Int))).toNat *
 1)
 [AV.int IntKind.u8
 (atT tx_730b8f
 (IntKind.u32.wrap
 (IntKind.u32.wrap
 ((IntKind.u32.wrap
 ((IntKind.u32.wrap u).tdiv
 (10000 : Int))).tmod
 (100 : Int) *
 (2 : Int)) +
 (1 : Int))))])
 (1 +
 (IntKind.i64.wrap
 (IntKind.i64.wrap (d - (4 : Int)) - (2 : Int))).toNat *
 1)
 [AV.int IntKind.u8
 (atT tx_730b8f
 (IntKind.u32.wrap
 ((IntKind.u32.wrap
 ((IntKind.u32.wrap u).tdiv (10000 : Int))).tmod
 (100 : Int) *
 (2 : Int))))])
 1 1))
 (some
 (Fin.ret (AV.tup []),
 St.mk
 (Ob.cells
 (setC
 (setC
 (setC
 (setC
 (setC
 (setC
 (setC C
 (1 +
 (IntKind.i64.wrap (d - (1 : Int))).toNat *
 1)
 [AV.int IntKind.u8
 (atT tx_730b8f
 (IntKind.u32.wrap
 (IntKind.u32.wrap
 (((IntKind.u32.wrap u).tmod
 (10000 : Int)).tmod
 (100 : Int) *
 (2 : Int)) +
 (1 : Int))))])
 (1 +
 (IntKind.i64.wrap (d - (2 : Int))).toNat *
 1)
 [AV.int IntKind.u8
 (atT tx_730b8f
 (IntKind.u32.wrap
 (((IntKind.u32.wrap u).tmod
 (10000 : Int)).tmod
 (100 : Int) *
 (2 : Int))))])
 (1 +
 (IntKind.i64.wrap (d - (3 : Int))).toNat *
 1)
 [AV.int IntKind.u8
 (atT tx_730b8f
 (IntKind.u32.wrap
 (IntKind.u32.wrap
 (IntKind.u32.wrap
 (((IntKind.u32.wrap u).tmod
 (10000 : Int)).tdiv
 (100 : Int)) *
 (2 : Int)) +
 (1 : Int))))])
 (1 +
 (IntKind.i64.wrap (d - (4 : Int))).toNat * 1)
 [AV.int IntKind.u8
 (atT tx_730b8f
 (IntKind.u32.wrap
 (IntKind.u32.wrap
 (((IntKind.u32.wrap u).tmod
 (10000 : Int)).tdiv
 (100 : Int)) *
 (2 : Int))))])
 (1 +
 (IntKind.i64.wrap
 (IntKind.i64.wrap (d - (4 : Int)) -
 (1 : Int))).toNat *
 1)
 [AV.int IntKind.u8
 (atT tx_730b8f
 (IntKind.u32.wrap
 (IntKind.u32.wrap
 ((IntKind.u32.wrap
 ((IntKind.u32.wrap u).tdiv
 (10000 : Int))).tmod
 (100 : Int) *
 (2 : Int)) +
 (1 : Int))))])
 (1 +
 (IntKind.i64.wrap
 (IntKind.i64.wrap (d - (4 : Int)) -
 (2 : Int))).toNat *
 1)
 [AV.int IntKind.u8
 (atT tx_730b8f
 (IntKind.u32.wrap
 ((IntKind.u32.wrap
 ((IntKind.u32.wrap u).tdiv
 (10000 : Int))).tmod
 (100 : Int) *
 (2 : Int))))])
 1
 [AV.int IntKind.u8
 (IntKind.u8.wrap
 (IntKind.u32.wrap
 ((48 : Int) +
 IntKind.u32.wrap
 ((IntKind.u32.wrap
 ((IntKind.u32.wrap u).tdiv
 (10000 : Int))).tdiv
 (100 : Int)))))]) ::
 os)
 tk))
 none
 else none)
 (some
 (Fin.ret (AV.tup []),
 St.mk
 (Ob.cells
 (setC
 (setC
 (setC
 (setC
 (setC
 (setC C
 (1 +
 (IntKind.i64.wrap (d - (1 : Int))).toNat * 1)
 [AV.int IntKind.u8
 (atT tx_730b8f
 (IntKind.u32.wrap
 (IntKind.u32.wrap
 (((IntKind.u32.wrap u).tmod
 (10000 : Int)).tmod
 (100 : Int) *
 (2 : Int)) +
 (1 : Int))))])
 (1 +
 (IntKind.i64.wrap (d - (2 : Int))).toNat * 1)
 [AV.int IntKind.u8
 (atT tx_730b8f
 (IntKind.u32.wrap
 (((IntKind.u32.wrap u).tmod (10000 : Int)).tmod
 (100 : Int) *
 (2 : Int))))])
 (1 +
 (IntKind.i64.wrap (d - (3 : Int))).toNat * 1)
 [AV.int IntKind.u8
 (atT tx_730b8f
 (IntKind.u32.wrap
 (IntKind.u32.wrap
 (IntKind.u32.wrap
 (((IntKind.u32.wrap u).tmod
 (10000 : Int)).tdiv
 (100 : Int)) *
 (2 : Int)) +
 (1 : Int))))])
 (1 +
 (IntKind.i64.wrap (d - (4 : Int))).toNat * 1)
 [AV.int IntKind.u8
 (atT tx_730b8f
 (IntKind.u32.wrap
 (IntKind.u32.wrap
 (((IntKind.u32.wrap u).tmod (10000 : Int)).tdiv
 (100 : Int)) *
 (2 : Int))))])
 (1 +
 (IntKind.i64.wrap
 (IntKind.i64.wrap (d - (4 : Int)) - (1 : Int))).toNat *
 1)
 [AV.int IntKind.u8
 (atT tx_730b8f
 (IntKind.u32.wrap
 (IntKind.u32.wrap
 ((IntKind.u32.wrap
 ((IntKind.u32.wrap u).tdiv
 (10000 : Int))).tmod
 (100 : Int) *
 (2 : Int)) +
 (1 : Int))))])
 (1 +
 (IntKind.i64.wrap
 (IntKind.i64.wrap (d - (4 : Int)) - (2 : Int))).toNat *
 1)
 [AV.int IntKind.u8
 (atT tx_730b8f
 (IntKind.u32.wrap
 ((IntKind.u32.wrap
 ((IntKind.u32.wrap u).tdiv (10000 : Int))).tmod
 (100 : Int) *
 (2 : Int))))]) ::
 os)
 tk)))
 none
 else none)
 none
 else none)
 none)
 none)
 (branch (AV.bool (decide (IntKind.i64.wrap (d - (4 : Int)) > (0 : Int))))
 (if (0 : Int) ≤ (0 : Int) ∧ (0 : Int) < (↑n : Int) then
 branch
 (AV.bool
 (true &&
 inC
 (setC
 (setC
 (setC
 (setC C (1 + (IntKind.i64.wrap (d - (1 : Int))).toNat * 1)
 [AV.int IntKind.u8
 (atT tx_730b8f
 (IntKind.u32.wrap
 (IntKind.u32.wrap
 (((IntKind.u32.wrap u).tmod (10000 : Int)).tmod
 (100 : Int) *
 (2 : Int)) +
 (1 : Int))))])
 (1 + (IntKind.i64.wrap (d - (2 : Int))).toNat * 1)
 [AV.int IntKind.u8
 (atT tx_730b8f
 (IntKind.u32.wrap
 (((IntKind.u32.wrap u).tmod (10000 : Int)).tmod (100 : Int) *
 (2 : Int))))])
 (1 + (IntKind.i64.wrap (d - (3 : Int))).toNat * 1)
 [AV.int IntKind.u8
 (atT tx_730b8f
 (IntKind.u32.wrap
 (IntKind.u32.wrap
 (IntKind.u32.wrap
 (((IntKind.u32.wrap u).tmod (10000 : Int)).tdiv
 (100 : Int)) *
 (2 : Int)) +
 (1 : Int))))])
 (1 + (IntKind.i64.wrap (d - (4 : Int))).toNat * 1)
 [AV.int IntKind.u8
 (atT tx_730b8f
 (IntKind.u32.wrap
 (IntKind.u32.wrap
 (((IntKind.u32.wrap u).tmod (10000 : Int)).tdiv (100 : Int)) *
 (2 : Int))))])
 1 1))
 (some
 (Fin.ret (AV.tup []),
 St.mk
 (Ob.cells
 (setC
 (setC
 (setC
 (setC
 (setC C
 (1 + (IntKind.i64.wrap (d - (1 : Int))).toNat * 1)
 [AV.int IntKind.u8
 (atT tx_730b8f
 (IntKind.u32.wrap
 (IntKind.u32.wrap
 (((IntKind.u32.wrap u).tmod (10000 : Int)).tmod
 (100 : Int) *
 (2 : Int)) +
 (1 : Int))))])
 (1 + (IntKind.i64.wrap (d - (2 : Int))).toNat * 1)
 [AV.int IntKind.u8
 (atT tx_730b8f
 (IntKind.u32.wrap
 (((IntKind.u32.wrap u).tmod (10000 : Int)).tmod
 (100 : Int) *
 (2 : Int))))])
 (1 + (IntKind.i64.wrap (d - (3 : Int))).toNat * 1)
 [AV.int IntKind.u8
 (atT tx_730b8f
 (IntKind.u32.wrap
 (IntKind.u32.wrap
 (IntKind.u32.wrap
 (((IntKind.u32.wrap u).tmod (10000 : Int)).tdiv
 (100 : Int)) *
 (2 : Int)) +
 (1 : Int))))])
 (1 + (IntKind.i64.wrap (d - (4 : Int))).toNat * 1)
 [AV.int IntKind.u8
 (atT tx_730b8f
 (IntKind.u32.wrap
 (IntKind.u32.wrap
 (((IntKind.u32.wrap u).tmod (10000 : Int)).tdiv
 (100 : Int)) *
 (2 : Int))))])
 1
 [AV.int IntKind.u8
 (IntKind.u8.wrap
 (IntKind.u32.wrap
 ((48 : Int) +
 IntKind.u32.wrap
 ((IntKind.u32.wrap u).tdiv (10000 : Int)))))]) ::
 os)
 tk))
 none
 else none)
 (some
 (Fin.ret (AV.tup []),
 St.mk
 (Ob.cells
 (setC
 (setC
 (setC
 (setC C (1 + (IntKind.i64.wrap (d - (1 : Int))).toNat * 1)
 [AV.int IntKind.u8
 (atT tx_730b8f
 (IntKind.u32.wrap
 (IntKind.u32.wrap
 (((IntKind.u32.wrap u).tmod (10000 : Int)).tmod
 (100 : Int) *
 (2 : Int)) +
 (1 : Int))))])
 (1 + (IntKind.i64.wrap (d - (2 : Int))).toNat * 1)
 [AV.int IntKind.u8
 (atT tx_730b8f
 (IntKind.u32.wrap
 (((IntKind.u32.wrap u).tmod (10000 : Int)).tmod (100 : Int) *
 (2 : Int))))])
 (1 + (IntKind.i64.wrap (d - (3 : Int))).toNat * 1)
 [AV.int IntKind.u8
 (atT tx_730b8f
 (IntKind.u32.wrap
 (IntKind.u32.wrap
 (IntKind.u32.wrap
 (((IntKind.u32.wrap u).tmod (10000 : Int)).tdiv
 (100 : Int)) *
 (2 : Int)) +
 (1 : Int))))])
 (1 + (IntKind.i64.wrap (d - (4 : Int))).toNat * 1)
 [AV.int IntKind.u8
 (atT tx_730b8f
 (IntKind.u32.wrap
 (IntKind.u32.wrap
 (((IntKind.u32.wrap u).tmod (10000 : Int)).tdiv (100 : Int)) *
 (2 : Int))))]) ::
 os)
 tk))))
 none
 else none)
 none
 else none)
 none)
 none)
 none
 else none)
 none
 else none)
 none)
 none)
 (branch (AV.bool (decide (d ≥ (2 : Int))))
 (branch
 (AV.bool
 (inT tx_730b8f
 (IntKind.u32.wrap (IntKind.u32.wrap ((IntKind.u32.wrap u).tmod (100 : Int) * (2 : Int)) + (1 : Int)))))
 (branch (AV.bool (inT tx_730b8f (IntKind.u32.wrap ((IntKind.u32.wrap u).tmod (100 : Int) * (2 : Int)))))
 (if (0 : Int) ≤ IntKind.i64.wrap (d - (1 : Int)) ∧ IntKind.i64.wrap (d - (1 : Int)) < (↑n : Int) then
 branch (AV.bool (true && inC C (1 + (IntKind.i64.wrap (d - (1 : Int))).toNat * 1) 1))
 (if (0 : Int) ≤ IntKind.i64.wrap (d - (2 : Int)) ∧ IntKind.i64.wrap (d - (2 : Int)) < (↑n : Int) then
 branch
 (AV.bool
 (true &&
 inC
 (setC C (1 + (IntKind.i64.wrap (d - (1 : Int))).toNat * 1)
 [AV.int IntKind.u8
 (atT tx_730b8f
 (IntKind.u32.wrap
 (IntKind.u32.wrap ((IntKind.u32.wrap u).tmod (100 : Int) * (2 : Int)) + (1 : Int))))])
 (1 + (IntKind.i64.wrap (d - (2 : Int))).toNat * 1) 1))
 (branch (AV.bool (decide (IntKind.i64.wrap (d - (2 : Int)) > (0 : Int))))
 (if (0 : Int) ≤ (0 : Int) ∧ (0 : Int) < (↑n : Int) then
 branch
 (AV.bool
 (true &&
 inC
 (setC
 (setC C (1 + (IntKind.i64.wrap (d - (1 : Int))).toNat * 1)
 [AV.int IntKind.u8
 (atT tx_730b8f
 (IntKind.u32.wrap
 (IntKind.u32.wrap ((IntKind.u32.wrap u).tmod (100 : Int) * (2 : Int)) +
 (1 : Int))))])
 (1 + (IntKind.i64.wrap (d - (2 : Int))).toNat * 1)
 [AV.int IntKind.u8
 (atT tx_730b8f
 (IntKind.u32.wrap ((IntKind.u32.wrap u).tmod (100 : Int) * (2 : Int))))])
 1 1))
 (some
 (Fin.ret (AV.tup []),
 St.mk
 (Ob.cells
 (setC
 (setC
 (setC C (1 + (IntKind.i64.wrap (d - (1 : Int))).toNat * 1)
 [AV.int IntKind.u8
 (atT tx_730b8f
 (IntKind.u32.wrap
 (IntKind.u32.wrap ((IntKind.u32.wrap u).tmod (100 : Int) * (2 : Int)) +
 (1 : Int))))])
 (1 + (IntKind.i64.wrap (d - (2 : Int))).toNat * 1)
 [AV.int IntKind.u8
 (atT tx_730b8f
 (IntKind.u32.wrap ((IntKind.u32.wrap u).tmod (100 : Int) * (2 : Int))))])
 1
 [AV.int IntKind.u8
 (IntKind.u8.wrap
 (IntKind.u32.wrap
 ((48 : Int) + IntKind.u32.wrap ((IntKind.u32.wrap u).tdiv (100 : Int)))))]) ::
 os)
 tk))
 none
 else none)
 (some
 (Fin.ret (AV.tup []),
 St.mk
 (Ob.cells
 (setC
 (setC C (1 + (IntKind.i64.wrap (d - (1 : Int))).toNat * 1)
 [AV.int IntKind.u8
 (atT tx_730b8f
 (IntKind.u32.wrap
 (IntKind.u32.wrap ((IntKind.u32.wrap u).tmod (100 : Int) * (2 : Int)) +
 (1 : Int))))])
 (1 + (IntKind.i64.wrap (d - (2 : Int))).toNat * 1)
 [AV.int IntKind.u8
 (atT tx_730b8f
 (IntKind.u32.wrap ((IntKind.u32.wrap u).tmod (100 : Int) * (2 : Int))))]) ::
 os)
 tk)))
 none
 else none)
 none
 else none)
 none)
 none)
 (branch (AV.bool (decide (d > (0 : Int))))
 (if (0 : Int) ≤ (0 : Int) ∧ (0 : Int) < (↑n : Int) then
 branch (AV.bool (true && inC C 1 1))
 (some
 (Fin.ret (AV.tup []),
 St.mk
 (Ob.cells
 (setC C 1
 [AV.int IntKind.u8 (IntKind.u8.wrap (IntKind.u32.wrap ((48 : Int) + IntKind.u32.wrap u)))]) ::
 os)
 tk))
 none
 else none)
 (some (Fin.ret (AV.tup []), St.mk (Ob.cells C :: os) tk)))) := by kernel_rfl

end Go.Proofs.YtcfedmheblbdnaaDoor.V

/- Values: a number's digits, written from the last one on. -/
set_option linter.unusedVariables false
set_option linter.unusedSimpArgs false
namespace Go.Proofs.YtcfedmheblbdnaaDoor.V
open Go Go.V Go.RowKit

theorem sm_tab : ∀ j : Fin 100, (strL tx_730b8f).getD (j.val * 2) 0 = 48 + j.val / 10 ∧ (strL tx_730b8f).getD (j.val * 2 + 1) 0 = 48 + j.val % 10 := by
  rw [tx_730b8f_eq]; decide +kernel
theorem sm_len : 200 ≤ (strL tx_730b8f).length := by rw [tx_730b8f_eq]; decide +kernel
theorem inS {j : Nat} (h : j < 200) : inT tx_730b8f (j : Int) = true := inT_iff.mpr ⟨by omega, by have := sm_len; rw [Int.toNat_natCast]; omega⟩
theorem vEven {a : Nat} (h : a < 100) : atT tx_730b8f ((a * 2 : Nat) : Int) = ((48 + a / 10 : Nat) : Int) := by
  rw [atT, opq_eq, Int.toNat_natCast, (sm_tab ⟨a, h⟩).1]
theorem vOdd {a : Nat} (h : a < 100) : atT tx_730b8f ((a * 2 + 1 : Nat) : Int) = ((48 + a % 10 : Nat) : Int) := by
  rw [atT, opq_eq, Int.toNat_natCast, (sm_tab ⟨a, h⟩).2]
theorem tm8 (a : Nat) : (a : Int).tmod 100000000 = ((a % 100000000 : Nat) : Int) := (Int.ofNat_tmod a 100000000).symm
theorem tm4 (a : Nat) : (a : Int).tmod 10000 = ((a % 10000 : Nat) : Int) := (Int.ofNat_tmod a 10000).symm
theorem tm2 (a : Nat) : (a : Int).tmod 100 = ((a % 100 : Nat) : Int) := (Int.ofNat_tmod a 100).symm
theorem td8 (a : Nat) : (a : Int).tdiv 100000000 = ((a / 100000000 : Nat) : Int) := (Int.ofNat_tdiv a 100000000).symm
theorem td4 (a : Nat) : (a : Int).tdiv 10000 = ((a / 10000 : Nat) : Int) := (Int.ofNat_tdiv a 10000).symm
theorem td2 (a : Nat) : (a : Int).tdiv 100 = ((a / 100 : Nat) : Int) := (Int.ofNat_tdiv a 100).symm
theorem w32 {a : Nat} (h : a < 4294967296) : IntKind.u32.wrap (a : Int) = (a : Nat) := wrapNat rfl (by simpa [IntKind.bits] using h)
theorem w64 {a : Nat} (h : a < 18446744073709551616) : IntKind.u64.wrap (a : Int) = (a : Nat) := wrapNat rfl (by simpa [IntKind.bits] using h)
theorem w8 {a : Nat} (h : a < 256) : IntKind.u8.wrap (a : Int) = (a : Nat) := wrapNat rfl (by simpa [IntKind.bits] using h)
theorem m2 (a : Nat) : (a : Int) * 2 = ((a * 2 : Nat) : Int) := by omega
theorem a1 (a : Nat) : (a : Int) + 1 = ((a + 1 : Nat) : Int) := by omega
theorem a48 (a : Nat) : 48 + (a : Int) = ((48 + a : Nat) : Int) := by omega
theorem ds1 {D : Nat} (h : 1 ≤ D) (hD : D ≤ 1000) : IntKind.i64.wrap ((D : Int) - 1) = ((D - 1 : Nat) : Int) := by rw [wrapS (by omega) (by omega)]; omega
theorem ds2 {D : Nat} (h : 2 ≤ D) (hD : D ≤ 1000) : IntKind.i64.wrap ((D : Int) - 2) = ((D - 2 : Nat) : Int) := by rw [wrapS (by omega) (by omega)]; omega
theorem ds3 {D : Nat} (h : 3 ≤ D) (hD : D ≤ 1000) : IntKind.i64.wrap ((D : Int) - 3) = ((D - 3 : Nat) : Int) := by rw [wrapS (by omega) (by omega)]; omega
theorem ds4 {D : Nat} (h : 4 ≤ D) (hD : D ≤ 1000) : IntKind.i64.wrap ((D : Int) - 4) = ((D - 4 : Nat) : Int) := by rw [wrapS (by omega) (by omega)]; omega
theorem ds5 {D : Nat} (h : 5 ≤ D) (hD : D ≤ 1000) : IntKind.i64.wrap ((D : Int) - 5) = ((D - 5 : Nat) : Int) := by rw [wrapS (by omega) (by omega)]; omega
theorem ds6 {D : Nat} (h : 6 ≤ D) (hD : D ≤ 1000) : IntKind.i64.wrap ((D : Int) - 6) = ((D - 6 : Nat) : Int) := by rw [wrapS (by omega) (by omega)]; omega
theorem ds7 {D : Nat} (h : 7 ≤ D) (hD : D ≤ 1000) : IntKind.i64.wrap ((D : Int) - 7) = ((D - 7 : Nat) : Int) := by rw [wrapS (by omega) (by omega)]; omega
theorem ds8 {D : Nat} (h : 8 ≤ D) (hD : D ≤ 1000) : IntKind.i64.wrap ((D : Int) - 8) = ((D - 8 : Nat) : Int) := by rw [wrapS (by omega) (by omega)]; omega
/-- The last k digits written, the last one at D. -/
def wr (l : List Nat) (U D : Nat) : Nat → List Nat
  | 0 => l
  | k + 1 => (wr l U D k).set (1 + (D - (k + 1))) (48 + U / 10 ^ k % 10)
theorem wr_len (l : List Nat) (U D : Nat) : ∀ k, (wr l U D k).length = l.length
  | 0 => rfl
  | k + 1 => by rw [wr, List.length_set, wr_len l U D k]
theorem wr_add (l : List Nat) (U D a : Nat) : ∀ k, wr (wr l U D a) (U / 10 ^ a) (D - a) k = wr l U D (a + k)
  | 0 => rfl
  | k + 1 => by
    rw [wr, wr_add l U D a k, show a + (k + 1) = (a + k) + 1 by omega, wr, Nat.div_div_eq_div_mul, ← Nat.pow_add, show D - a - (k + 1) = D - (a + k + 1) by omega]
theorem okB {l : List Nat} {o b : Nat} (h : o < l.length) : (true && inC (bC l) o 1) = true := by
  rw [Bool.true_and, inC_iff, bC_length]; omega
theorem fb_step (F m : Nat) (K' : Cont) (n c U D : Nat) (l : List Nat) (os : List Ob) (tk : List (Nat × Nat)) (h8 : 8 ≤ D) (hn : D ≤ n) (hl : l.length = 24) (h20 : n ≤ 20) (hU : U < 18446744073709551616) :
    loopRun (f86_l0.run F) [0, 1, 4] K' m.succ (Env.mk 167 [(0, .ms 0 1 1 n c), (1, .int .u64 (U : Int)), (4, .int .i64 (D : Int))]) ⟨.cells (bC l) :: os, tk⟩
      = loopRun (f86_l0.run F) [0, 1, 4] K' m (Env.mk 167 [(0, .ms 0 1 1 n c), (1, .int .u64 ((U / 10 ^ 8 : Nat) : Int)), (4, .int .i64 ((D - 8 : Nat) : Int))]) ⟨.cells (bC (wr l U D 8)) :: os, tk⟩ := by
  rw [fb_round]
  simp (disch := omega) only [tm8, tm4, tm2, td8, td4, td2, w32, w64, m2, a1, ds1, ds2, ds3, ds4, ds5, ds6, ds7, ds8, vOdd, vEven, Int.toNat_natCast, Nat.mul_one]
  rw [branch_of (decide_eq_true (by omega))]
  simp (disch := (first | omega | (simp only [List.length_set]; omega))) only [setC_byte]
  iterate 24 (first | rw [branch_of (inS (by omega))] | rw [if_pos ⟨by omega, by omega⟩] | rw [branch_of (okB (b := 0) (by first | omega | (simp only [List.length_set]; omega)))])
  have e0 : U % 100000000 % 10000 % 100 % 10 = U / 10 ^ 0 % 10 := by omega
  have e1 : U % 100000000 % 10000 % 100 / 10 = U / 10 ^ 1 % 10 := by omega
  have e2 : U % 100000000 % 10000 / 100 % 10 = U / 10 ^ 2 % 10 := by omega
  have e3 : U % 100000000 % 10000 / 100 / 10 = U / 10 ^ 3 % 10 := by omega
  have e4 : U % 100000000 / 10000 % 100 % 10 = U / 10 ^ 4 % 10 := by omega
  have e5 : U % 100000000 / 10000 % 100 / 10 = U / 10 ^ 5 % 10 := by omega
  have e6 : U % 100000000 / 10000 / 100 % 10 = U / 10 ^ 6 % 10 := by omega
  have e7 : U % 100000000 / 10000 / 100 / 10 = U / 10 ^ 7 % 10 := by omega
  rw [e0, e1, e2, e3, e4, e5, e6, e7]
  rfl
end Go.Proofs.YtcfedmheblbdnaaDoor.V

/- Values: formatBase10, as a whole. -/
set_option linter.unusedVariables false
set_option linter.unusedSimpArgs false
namespace Go.Proofs.YtcfedmheblbdnaaDoor.V
open Go Go.V Go.RowKit

noncomputable def fbK (F : Nat) : Cont := Cont.block 0 (Cont.then (f86_r0.run F (f86.leaveK Fun.done)) (f86.leaveK Fun.done))

theorem fb_t0 (F n c U : Nat) (l : List Nat) (os : List Ob) (tk : List (Nat × Nat)) (hn : 0 ≤ n) (hl : l.length = 24) (h20 : n ≤ 20) (hU : U < 1) :
    fbK F (.exit 0) (Env.mk 167 [(0, .ms 0 1 1 n c), (1, .int .u64 (U : Int)), (4, .int .i64 ((0 : Nat) : Int))]) ⟨.cells (bC l) :: os, tk⟩ = some (.ret (.tup []), ⟨.cells (bC (wr l U 0 0)) :: os, tk⟩) := by
  rw [fbK, fb_out]
  simp (disch := omega) only [tm4, tm2, td4, td2, w32, w64, w8, m2, a1, a48, ds1, ds2, ds3, ds4, vOdd, vEven, Int.toNat_natCast, Nat.mul_one]
  simp (disch := (first | omega | (simp only [List.length_set]; omega))) only [setC_byte]
  rw [branch_not (decide_eq_false (by omega))]
  rw [branch_not (decide_eq_false (by omega))]
  rw [branch_not (decide_eq_false (by omega))]
  rfl

theorem fb_t1 (F n c U : Nat) (l : List Nat) (os : List Ob) (tk : List (Nat × Nat)) (hn : 1 ≤ n) (hl : l.length = 24) (h20 : n ≤ 20) (hU : U < 10) :
    fbK F (.exit 0) (Env.mk 167 [(0, .ms 0 1 1 n c), (1, .int .u64 (U : Int)), (4, .int .i64 ((1 : Nat) : Int))]) ⟨.cells (bC l) :: os, tk⟩ = some (.ret (.tup []), ⟨.cells (bC (wr l U 1 1)) :: os, tk⟩) := by
  rw [fbK, fb_out]
  simp (disch := omega) only [tm4, tm2, td4, td2, w32, w64, w8, m2, a1, a48, ds1, ds2, ds3, ds4, vOdd, vEven, Int.toNat_natCast, Nat.mul_one]
  simp (disch := (first | omega | (simp only [List.length_set]; omega))) only [setC_byte]
  rw [branch_not (decide_eq_false (by omega))]
  rw [branch_not (decide_eq_false (by omega))]
  rw [branch_of (decide_eq_true (by omega))]
  rw [if_pos ⟨by omega, by omega⟩, branch_of (okB (b := 0) (by first | omega | (simp only [List.length_set]; omega)))]
  have ez : 48 + U = 48 + U / 10 ^ 0 % 10 := by omega
  rw [ez]
  rfl

theorem fb_t2 (F n c U : Nat) (l : List Nat) (os : List Ob) (tk : List (Nat × Nat)) (hn : 2 ≤ n) (hl : l.length = 24) (h20 : n ≤ 20) (hU : U < 100) :
    fbK F (.exit 0) (Env.mk 167 [(0, .ms 0 1 1 n c), (1, .int .u64 (U : Int)), (4, .int .i64 ((2 : Nat) : Int))]) ⟨.cells (bC l) :: os, tk⟩ = some (.ret (.tup []), ⟨.cells (bC (wr l U 2 2)) :: os, tk⟩) := by
  rw [fbK, fb_out]
  simp (disch := omega) only [tm4, tm2, td4, td2, w32, w64, w8, m2, a1, a48, ds1, ds2, ds3, ds4, vOdd, vEven, Int.toNat_natCast, Nat.mul_one]
  simp (disch := (first | omega | (simp only [List.length_set]; omega))) only [setC_byte]
  rw [branch_not (decide_eq_false (by omega))]
  rw [branch_of (decide_eq_true (by omega))]
  rw [branch_of (inS (by omega)), branch_of (inS (by omega))]
  rw [if_pos ⟨by omega, by omega⟩, branch_of (okB (b := 0) (by first | omega | (simp only [List.length_set]; omega)))]
  rw [if_pos ⟨by omega, by omega⟩, branch_of (okB (b := 0) (by first | omega | (simp only [List.length_set]; omega)))]
  rw [branch_not (decide_eq_false (by omega))]
  have e0 : U % 100 % 10 = U / 10 ^ 0 % 10 := by omega
  have e1 : U % 100 / 10 = U / 10 ^ 1 % 10 := by omega
  rw [e0, e1]
  rfl

theorem fb_t3 (F n c U : Nat) (l : List Nat) (os : List Ob) (tk : List (Nat × Nat)) (hn : 3 ≤ n) (hl : l.length = 24) (h20 : n ≤ 20) (hU : U < 1000) :
    fbK F (.exit 0) (Env.mk 167 [(0, .ms 0 1 1 n c), (1, .int .u64 (U : Int)), (4, .int .i64 ((3 : Nat) : Int))]) ⟨.cells (bC l) :: os, tk⟩ = some (.ret (.tup []), ⟨.cells (bC (wr l U 3 3)) :: os, tk⟩) := by
  rw [fbK, fb_out]
  simp (disch := omega) only [tm4, tm2, td4, td2, w32, w64, w8, m2, a1, a48, ds1, ds2, ds3, ds4, vOdd, vEven, Int.toNat_natCast, Nat.mul_one]
  simp (disch := (first | omega | (simp only [List.length_set]; omega))) only [setC_byte]
  rw [branch_not (decide_eq_false (by omega))]
  rw [branch_of (decide_eq_true (by omega))]
  rw [branch_of (inS (by omega)), branch_of (inS (by omega))]
  rw [if_pos ⟨by omega, by omega⟩, branch_of (okB (b := 0) (by first | omega | (simp only [List.length_set]; omega)))]
  rw [if_pos ⟨by omega, by omega⟩, branch_of (okB (b := 0) (by first | omega | (simp only [List.length_set]; omega)))]
  rw [branch_of (decide_eq_true (by omega))]
  rw [if_pos ⟨by omega, by omega⟩, branch_of (okB (b := 0) (by first | omega | (simp only [List.length_set]; omega)))]
  have e0 : U % 100 % 10 = U / 10 ^ 0 % 10 := by omega
  have e1 : U % 100 / 10 = U / 10 ^ 1 % 10 := by omega
  rw [e0, e1]
  have ez : U / 100 = U / 10 ^ 2 % 10 := by omega
  rw [ez]
  rfl

theorem fb_t4 (F n c U : Nat) (l : List Nat) (os : List Ob) (tk : List (Nat × Nat)) (hn : 4 ≤ n) (hl : l.length = 24) (h20 : n ≤ 20) (hU : U < 10000) :
    fbK F (.exit 0) (Env.mk 167 [(0, .ms 0 1 1 n c), (1, .int .u64 (U : Int)), (4, .int .i64 ((4 : Nat) : Int))]) ⟨.cells (bC l) :: os, tk⟩ = some (.ret (.tup []), ⟨.cells (bC (wr l U 4 4)) :: os, tk⟩) := by
  rw [fbK, fb_out]
  simp (disch := omega) only [tm4, tm2, td4, td2, w32, w64, w8, m2, a1, a48, ds1, ds2, ds3, ds4, vOdd, vEven, Int.toNat_natCast, Nat.mul_one]
  simp (disch := (first | omega | (simp only [List.length_set]; omega))) only [setC_byte]
  rw [branch_of (decide_eq_true (by omega))]
  rw [branch_of (inS (by omega)), branch_of (inS (by omega))]
  rw [if_pos ⟨by omega, by omega⟩, branch_of (okB (b := 0) (by first | omega | (simp only [List.length_set]; omega)))]
  rw [if_pos ⟨by omega, by omega⟩, branch_of (okB (b := 0) (by first | omega | (simp only [List.length_set]; omega)))]
  rw [branch_of (inS (by omega)), branch_of (inS (by omega))]
  rw [if_pos ⟨by omega, by omega⟩, branch_of (okB (b := 0) (by first | omega | (simp only [List.length_set]; omega)))]
  rw [if_pos ⟨by omega, by omega⟩, branch_of (okB (b := 0) (by first | omega | (simp only [List.length_set]; omega)))]
  rw [branch_not (decide_eq_false (by omega))]
  rw [branch_not (decide_eq_false (by omega))]
  have e0 : U % 10000 % 100 % 10 = U / 10 ^ 0 % 10 := by omega
  have e1 : U % 10000 % 100 / 10 = U / 10 ^ 1 % 10 := by omega
  have e2 : U % 10000 / 100 % 10 = U / 10 ^ 2 % 10 := by omega
  have e3 : U % 10000 / 100 / 10 = U / 10 ^ 3 % 10 := by omega
  rw [e0, e1, e2, e3]
  rfl

theorem fb_t5 (F n c U : Nat) (l : List Nat) (os : List Ob) (tk : List (Nat × Nat)) (hn : 5 ≤ n) (hl : l.length = 24) (h20 : n ≤ 20) (hU : U < 100000) :
    fbK F (.exit 0) (Env.mk 167 [(0, .ms 0 1 1 n c), (1, .int .u64 (U : Int)), (4, .int .i64 ((5 : Nat) : Int))]) ⟨.cells (bC l) :: os, tk⟩ = some (.ret (.tup []), ⟨.cells (bC (wr l U 5 5)) :: os, tk⟩) := by
  rw [fbK, fb_out]
  simp (disch := omega) only [tm4, tm2, td4, td2, w32, w64, w8, m2, a1, a48, ds1, ds2, ds3, ds4, vOdd, vEven, Int.toNat_natCast, Nat.mul_one]
  simp (disch := (first | omega | (simp only [List.length_set]; omega))) only [setC_byte]
  rw [branch_of (decide_eq_true (by omega))]
  rw [branch_of (inS (by omega)), branch_of (inS (by omega))]
  rw [if_pos ⟨by omega, by omega⟩, branch_of (okB (b := 0) (by first | omega | (simp only [List.length_set]; omega)))]
  rw [if_pos ⟨by omega, by omega⟩, branch_of (okB (b := 0) (by first | omega | (simp only [List.length_set]; omega)))]
  rw [branch_of (inS (by omega)), branch_of (inS (by omega))]
  rw [if_pos ⟨by omega, by omega⟩, branch_of (okB (b := 0) (by first | omega | (simp only [List.length_set]; omega)))]
  rw [if_pos ⟨by omega, by omega⟩, branch_of (okB (b := 0) (by first | omega | (simp only [List.length_set]; omega)))]
  rw [branch_not (decide_eq_false (by omega))]
  rw [branch_of (decide_eq_true (by omega))]
  rw [if_pos ⟨by omega, by omega⟩, branch_of (okB (b := 0) (by first | omega | (simp only [List.length_set]; omega)))]
  have e0 : U % 10000 % 100 % 10 = U / 10 ^ 0 % 10 := by omega
  have e1 : U % 10000 % 100 / 10 = U / 10 ^ 1 % 10 := by omega
  have e2 : U % 10000 / 100 % 10 = U / 10 ^ 2 % 10 := by omega
  have e3 : U % 10000 / 100 / 10 = U / 10 ^ 3 % 10 := by omega
  rw [e0, e1, e2, e3]
  have ez : U / 10000 = U / 10 ^ 4 % 10 := by omega
  rw [ez]
  rfl

theorem fb_t6 (F n c U : Nat) (l : List Nat) (os : List Ob) (tk : List (Nat × Nat)) (hn : 6 ≤ n) (hl : l.length = 24) (h20 : n ≤ 20) (hU : U < 1000000) :
    fbK F (.exit 0) (Env.mk 167 [(0, .ms 0 1 1 n c), (1, .int .u64 (U : Int)), (4, .int .i64 ((6 : Nat) : Int))]) ⟨.cells (bC l) :: os, tk⟩ = some (.ret (.tup []), ⟨.cells (bC (wr l U 6 6)) :: os, tk⟩) := by
  rw [fbK, fb_out]
  simp (disch := omega) only [tm4, tm2, td4, td2, w32, w64, w8, m2, a1, a48, ds1, ds2, ds3, ds4, vOdd, vEven, Int.toNat_natCast, Nat.mul_one]
  simp (disch := (first | omega | (simp only [List.length_set]; omega))) only [setC_byte]
  rw [branch_of (decide_eq_true (by omega))]
  rw [branch_of (inS (by omega)), branch_of (inS (by omega))]
  rw [if_pos ⟨by omega, by omega⟩, branch_of (okB (b := 0) (by first | omega | (simp only [List.length_set]; omega)))]
  rw [if_pos ⟨by omega, by omega⟩, branch_of (okB (b := 0) (by first | omega | (simp only [List.length_set]; omega)))]
  rw [branch_of (inS (by omega)), branch_of (inS (by omega))]
  rw [if_pos ⟨by omega, by omega⟩, branch_of (okB (b := 0) (by first | omega | (simp only [List.length_set]; omega)))]
  rw [if_pos ⟨by omega, by omega⟩, branch_of (okB (b := 0) (by first | omega | (simp only [List.length_set]; omega)))]
  rw [branch_of (decide_eq_true (by omega))]
  rw [branch_of (inS (by omega)), branch_of (inS (by omega))]
  rw [if_pos ⟨by omega, by omega⟩, branch_of (okB (b := 0) (by first | omega | (simp only [List.length_set]; omega)))]
  rw [if_pos ⟨by omega, by omega⟩, branch_of (okB (b := 0) (by first | omega | (simp only [List.length_set]; omega)))]
  rw [branch_not (decide_eq_false (by omega))]
  have e0 : U % 10000 % 100 % 10 = U / 10 ^ 0 % 10 := by omega
  have e1 : U % 10000 % 100 / 10 = U / 10 ^ 1 % 10 := by omega
  have e2 : U % 10000 / 100 % 10 = U / 10 ^ 2 % 10 := by omega
  have e3 : U % 10000 / 100 / 10 = U / 10 ^ 3 % 10 := by omega
  have e4 : U / 10000 % 100 % 10 = U / 10 ^ 4 % 10 := by omega
  have e5 : U / 10000 % 100 / 10 = U / 10 ^ 5 % 10 := by omega
  rw [e0, e1, e2, e3, e4, e5]
  rfl

theorem fb_t7 (F n c U : Nat) (l : List Nat) (os : List Ob) (tk : List (Nat × Nat)) (hn : 7 ≤ n) (hl : l.length = 24) (h20 : n ≤ 20) (hU : U < 10000000) :
    fbK F (.exit 0) (Env.mk 167 [(0, .ms 0 1 1 n c), (1, .int .u64 (U : Int)), (4, .int .i64 ((7 : Nat) : Int))]) ⟨.cells (bC l) :: os, tk⟩ = some (.ret (.tup []), ⟨.cells (bC (wr l U 7 7)) :: os, tk⟩) := by
  rw [fbK, fb_out]
  simp (disch := omega) only [tm4, tm2, td4, td2, w32, w64, w8, m2, a1, a48, ds1, ds2, ds3, ds4, vOdd, vEven, Int.toNat_natCast, Nat.mul_one]
  simp (disch := (first | omega | (simp only [List.length_set]; omega))) only [setC_byte]
  rw [branch_of (decide_eq_true (by omega))]
  rw [branch_of (inS (by omega)), branch_of (inS (by omega))]
  rw [if_pos ⟨by omega, by omega⟩, branch_of (okB (b := 0) (by first | omega | (simp only [List.length_set]; omega)))]
  rw [if_pos ⟨by omega, by omega⟩, branch_of (okB (b := 0) (by first | omega | (simp only [List.length_set]; omega)))]
  rw [branch_of (inS (by omega)), branch_of (inS (by omega))]
  rw [if_pos ⟨by omega, by omega⟩, branch_of (okB (b := 0) (by first | omega | (simp only [List.length_set]; omega)))]
  rw [if_pos ⟨by omega, by omega⟩, branch_of (okB (b := 0) (by first | omega | (simp only [List.length_set]; omega)))]
  rw [branch_of (decide_eq_true (by omega))]
  rw [branch_of (inS (by omega)), branch_of (inS (by omega))]
  rw [if_pos ⟨by omega, by omega⟩, branch_of (okB (b := 0) (by first | omega | (simp only [List.length_set]; omega)))]
  rw [if_pos ⟨by omega, by omega⟩, branch_of (okB (b := 0) (by first | omega | (simp only [List.length_set]; omega)))]
  rw [branch_of (decide_eq_true (by omega))]
  rw [if_pos ⟨by omega, by omega⟩, branch_of (okB (b := 0) (by first | omega | (simp only [List.length_set]; omega)))]
  have e0 : U % 10000 % 100 % 10 = U / 10 ^ 0 % 10 := by omega
  have e1 : U % 10000 % 100 / 10 = U / 10 ^ 1 % 10 := by omega
  have e2 : U % 10000 / 100 % 10 = U / 10 ^ 2 % 10 := by omega
  have e3 : U % 10000 / 100 / 10 = U / 10 ^ 3 % 10 := by omega
  have e4 : U / 10000 % 100 % 10 = U / 10 ^ 4 % 10 := by omega
  have e5 : U / 10000 % 100 / 10 = U / 10 ^ 5 % 10 := by omega
  rw [e0, e1, e2, e3, e4, e5]
  have ez : U / 10000 / 100 = U / 10 ^ 6 % 10 := by omega
  rw [ez]
  rfl

theorem fb_tail (F n c U D : Nat) (l : List Nat) (os : List Ob) (tk : List (Nat × Nat)) (h8 : D < 8) (hn : D ≤ n) (hl : l.length = 24) (h20 : n ≤ 20) (hU : U < 10 ^ D) :
    fbK F (.exit 0) (Env.mk 167 [(0, .ms 0 1 1 n c), (1, .int .u64 (U : Int)), (4, .int .i64 (D : Int))]) ⟨.cells (bC l) :: os, tk⟩ = some (.ret (.tup []), ⟨.cells (bC (wr l U D D)) :: os, tk⟩) := by
  match D, h8, hn, hU with
  | 0, _, hn, hU => exact fb_t0 F n c U l os tk hn hl h20 hU
  | 1, _, hn, hU => exact fb_t1 F n c U l os tk hn hl h20 hU
  | 2, _, hn, hU => exact fb_t2 F n c U l os tk hn hl h20 hU
  | 3, _, hn, hU => exact fb_t3 F n c U l os tk hn hl h20 hU
  | 4, _, hn, hU => exact fb_t4 F n c U l os tk hn hl h20 hU
  | 5, _, hn, hU => exact fb_t5 F n c U l os tk hn hl h20 hU
  | 6, _, hn, hU => exact fb_t6 F n c U l os tk hn hl h20 hU
  | 7, _, hn, hU => exact fb_t7 F n c U l os tk hn hl h20 hU
theorem fb_all (F n c : Nat) (os : List Ob) (tk : List (Nat × Nat)) (h20 : n ≤ 20) : ∀ (m D U : Nat) (l : List Nat), D < 8 * m → D ≤ n → l.length = 24 → U < 10 ^ D → U < 18446744073709551616 →
    loopRun (f86_l0.run F) [0, 1, 4] (fbK F) m (Env.mk 167 [(0, .ms 0 1 1 n c), (1, .int .u64 (U : Int)), (4, .int .i64 (D : Int))]) ⟨.cells (bC l) :: os, tk⟩ = some (.ret (.tup []), ⟨.cells (bC (wr l U D D)) :: os, tk⟩)
  | 0, D, U, l, h, _, _, _, _ => by omega
  | m + 1, D, U, l, h, hn, hl, hU, hU2 => by
    rw [show m + 1 = m.succ from rfl]
    by_cases h8 : D < 8
    · rw [fb_round, branch_not (decide_eq_false (by omega))]
      exact fb_tail F n c U D l os tk h8 hn hl h20 hU
    · have hd : U / 10 ^ 8 < 10 ^ (D - 8) := by
        rw [Nat.div_lt_iff_lt_mul (by decide), ← Nat.pow_add, show D - 8 + 8 = D by omega]; exact hU
      rw [fb_step F m (fbK F) n c U D l os tk (by omega) hn hl h20 hU2, fb_all F n c os tk h20 m (D - 8) (U / 10 ^ 8) _ (by omega) (by omega) (by rw [wr_len]; exact hl) hd (Nat.lt_of_le_of_lt (Nat.div_le_self _ _) hU2), wr_add, show 8 + (D - 8) = D by omega]
theorem fb_eq {F : Nat} (hF : 2 < F) (n c U : Nat) (l : List Nat) (os : List Ob) (tk : List (Nat × Nat)) (h20 : n ≤ 20) (hl : l.length = 24) (hU : U < 10 ^ n) (hU2 : U < 18446744073709551616) :
    f86.run F [.ms 0 1 1 n c, .int .u64 (U : Int)] ⟨.cells (bC l) :: os, tk⟩ = some (.ret (.tup []), ⟨.cells (bC (wr l U n n)) :: os, tk⟩) := by
  rw [fb_run]
  exact fb_all F n c os tk h20 F n U l (by omega) (Nat.le_refl _) hl hU hU2
end Go.Proofs.YtcfedmheblbdnaaDoor.V

/- Values: formatBase10 and small, as callees. -/
set_option linter.unusedVariables false
namespace Go.Proofs.YtcfedmheblbdnaaDoor.V
open Go Go.V Go.RowKit

def unB (C : List AV) : List Nat := C.map fun x => (hdI [x]).toNat
theorem unB_bC (l : List Nat) : unB (bC l) = l := by
  simp only [unB, bC, List.map_map]
  conv => rhs; rw [← List.map_id l]
  exact List.map_congr_left fun x _ => rfl
noncomputable def fbOk (C : List AV) (n : Nat) (u : Int) : Bool := cdec (C = bC (unB C) ∧ C.length = 24 ∧ n ≤ 20 ∧ 0 ≤ u ∧ u < ((10 ^ n : Nat) : Int) ∧ u < 18446744073709551616)
noncomputable def wrC (C : List AV) (u : Int) (n : Nat) : List AV := opq (bC (wr (unB C) u.toNat n n))
/-- formatBase10 of the one array, from its second byte on. -/
noncomputable def s86 : OrcS Tryd.prog := f86.cps
  (fun args st k => match args with
    | [.ms 0 1 1 n c, .int .u64 u] => match st.objs with
      | .cells C :: os => match fbOk C n u with
        | true => k (.ret (.tup [])) ⟨.cells (wrC C u n) :: os, st.tk⟩
        | false => none
      | _ => none
    | _ => none)
  fun args st k fin h => by
    obtain ⟨objs, tk⟩ := st
    split at h
    · rename_i n c u
      simp only at h
      split at h
      · rename_i C os
        split at h
        · rename_i hk
          obtain ⟨h1, h2, h3, h4, h5, h6⟩ := cdec_iff.mp hk
          obtain ⟨U, rfl⟩ := Int.eq_ofNat_of_zero_le h4
          have hr := fb_eq (F := 3) (by omega) n c U (unB C) os tk h3 (by simp [unB, h2]) (by omega) (by omega)
          rw [← h1] at hr
          refine ⟨_, _, h, 3, ?_⟩
          rw [hr, wrC, opq_eq, Int.toNat_natCast]
        · cases h
      · cases h
    · cases h
/-- The last n digits of a number. -/
def digs (U n : Nat) : List Nat := (List.range n).map fun j => 48 + U / 10 ^ (n - 1 - j) % 10
theorem sm_sub {i : Nat} (h : i < 100) : ((strL tx_730b8f).take (i * 2 + 2)).drop (i * 2) = digs i 2 := by
  have h1 := sm_len
  have h2 := sm_tab ⟨i, h⟩
  simp only [List.getD_eq_getElem?_getD] at h2
  rw [List.getElem?_eq_getElem (by omega), List.getElem?_eq_getElem (by omega)] at h2
  simp only [Option.getD_some] at h2
  rw [List.drop_take, show i * 2 + 2 - i * 2 = 2 by omega, List.drop_eq_getElem_cons (by omega), List.drop_eq_getElem_cons (by omega), List.take_succ_cons, List.take_succ_cons, List.take_zero, h2.1, h2.2]
  show [48 + i / 10, 48 + i % 10] = [48 + i / 10 ^ 1 % 10, 48 + i / 10 ^ 0 % 10]
  rw [show i / 10 ^ 1 % 10 = i / 10 by omega, show i / 10 ^ 0 % 10 = i % 10 by omega]
end Go.Proofs.YtcfedmheblbdnaaDoor.V

/- The functions' pieces, as told by gen.py. -/
set_option linter.unusedVariables false
set_option maxRecDepth 20000
namespace Go.Proofs.YtcfedmheblbdnaaDoor.V
open Go Go.V Go.RowKit

theorem ze105 : (Tryd.prog.info? 105).bind (·.zero) = some (.agg #[(.int .u8 0), (.int .u8 0), (.int .u8 0), (.int .u8 0), (.int .u8 0), (.int .u8 0), (.int .u8 0), (.int .u8 0), (.int .u8 0), (.int .u8 0), (.int .u8 0), (.int .u8 0), (.int .u8 0), (.int .u8 0), (.int .u8 0), (.int .u8 0), (.int .u8 0), (.int .u8 0), (.int .u8 0), (.int .u8 0), (.int .u8 0), (.int .u8 0), (.int .u8 0), (.int .u8 0)]) := by kernel_rfl

/-! ### 72: internal/strconv.FormatInt (2, 3); results 4; slots: 0 i, 1 base, 2 i, 3 base, 5 a, 6 u, 7 nd, 8 _, 9 s -/
noncomputable def f72_b : Sim Tryd.prog :=
 (.seq (.live [0, 1] (.region 0 [
 ⟨(opAssign (some 4) (.const (Value.string { data := #[] })) 9 "itoa.go:29" #[]).op, none⟩
 ] (by kernel_rfl)))
 (.seq (.seq (.live [0, 1, 11] (.region 1 [
 ⟨(opMove (some 10) (.tmp 1) 3 "itoa.go:30" #[]).op, none⟩,
 ⟨(opBin (some 11) .eql 3 (.tmp 10) (.const (Value.int IntKind.i64 10)) 3 4 "itoa.go:30" #[{ on := 0, ground := Ground.data }]).op, none⟩
 ] (by kernel_rfl)))
 (.cond (.tmp 11)
 (.seq (.seq (.live [0, 17] (.region 2 [
 ⟨(opMove (some 12) (.tmp 0) 2 "itoa.go:31" #[]).op, none⟩,
 ⟨(opBin (some 13) .leq 2 (.const (Value.int IntKind.i64 0)) (.tmp 12) 2 4 "itoa.go:31" #[{ on := 0, ground := Ground.data }]).op, none⟩,
 ⟨(opMove (some 14) (.tmp 13) 4 "itoa.go:31" #[{ on := 1, ground := Ground.data }]).op, none⟩,
 ⟨(opMove (some 15) (.tmp 0) 2 "itoa.go:31" #[{ on := 2, ground := Ground.guard }]).op, (some (2, 14, true))⟩,
 ⟨(opBin (some 16) .lss 2 (.tmp 15) (.const (Value.int IntKind.i64 100)) 2 4 "itoa.go:31" #[{ on := 3, ground := Ground.data }, { on := 2, ground := Ground.guard }]).op, (some (2, 14, true))⟩,
 ⟨(opPick (some 17) (.tmp 14) (.tmp 16) (.const (Value.bool false)) 4 "itoa.go:31" #[{ on := 2, ground := Ground.data }, { on := 4, ground := Ground.data }]).op, none⟩
 ] (by kernel_rfl)))
 (.cond (.tmp 17)
 (.seq (.live [4] (.region 3 [
 ⟨(opMove (some 18) (.tmp 0) 2 "itoa.go:32" #[]).op, none⟩,
 ⟨opCall (f84.orc 0) (some 19) [(.tmp 18)] #[3] 9 "itoa.go:32" #[{ on := 0, ground := Ground.data }], none⟩,
 ⟨(opAssign (some 4) (.tmp 19) 9 "itoa.go:32" #[{ on := 1, ground := Ground.data }, { on := 1, ground := Ground.chain }, { on := 0, ground := Ground.phase }, { on := 1, ground := Ground.phase }]).op, none⟩
 ] (by kernel_rfl)))
 (.live [4] .ret))
 .skip))
 (.seq (.live [0, 5] (.region 4 [
 ⟨(opAllocZ 24 (AV.int .u8 0) (some 5) 105 (.agg #[(.int .u8 0), (.int .u8 0), (.int .u8 0), (.int .u8 0), (.int .u8 0), (.int .u8 0), (.int .u8 0), (.int .u8 0), (.int .u8 0), (.int .u8 0), (.int .u8 0), (.int .u8 0), (.int .u8 0), (.int .u8 0), (.int .u8 0), (.int .u8 0), (.int .u8 0), (.int .u8 0), (.int .u8 0), (.int .u8 0), (.int .u8 0), (.int .u8 0), (.int .u8 0), (.int .u8 0)]) ze105 (by kernel_rfl) 0 "itoa.go:34" #[]).op, none⟩
 ] (by kernel_rfl)))
 (.seq (.live [0, 5, 6] (.region 5 [
 ⟨(opMove (some 20) (.tmp 0) 2 "itoa.go:35" #[]).op, none⟩,
 ⟨(opConvInt (some 21) 2 84 (.tmp 20) (.int .i64) Tryd.underlying2 .u64 Tryd.underlying84 84 "itoa.go:35" #[{ on := 0, ground := Ground.data }]).op, none⟩,
 ⟨(opAssign (some 6) (.tmp 21) 84 "itoa.go:35" #[{ on := 1, ground := Ground.data }, { on := 0, ground := Ground.phase }, { on := 1, ground := Ground.phase }]).op, none⟩
 ] (by kernel_rfl)))
 (.seq (.seq (.live [0, 5, 6, 23] (.region 6 [
 ⟨(opMove (some 22) (.tmp 0) 2 "itoa.go:36" #[]).op, none⟩,
 ⟨(opBin (some 23) .lss 2 (.tmp 22) (.const (Value.int IntKind.i64 0)) 2 4 "itoa.go:36" #[{ on := 0, ground := Ground.data }]).op, none⟩
 ] (by kernel_rfl)))
 (.cond (.tmp 23)
 (.live [0, 5, 6] (.region 7 [
 ⟨(opMove (some 24) (.tmp 6) 84 "itoa.go:37" #[]).op, none⟩,
 ⟨(opNeg (some 25) 84 (.tmp 24) 84 "itoa.go:37" #[{ on := 0, ground := Ground.data }]).op, none⟩,
 ⟨(opAssign (some 6) (.tmp 25) 84 "itoa.go:37" #[{ on := 1, ground := Ground.data }, { on := 0, ground := Ground.phase }, { on := 1, ground := Ground.phase }]).op, none⟩
 ] (by kernel_rfl)))
 .skip))
 (.seq (.live [0, 5, 6, 7] (.region 8 [
 ⟨(opMove (some 26) (.tmp 6) 84 "itoa.go:39" #[]).op, none⟩,
 ⟨(opCallP p85 (some 27) [(.tmp 26)] #[84] 3 "itoa.go:39" #[{ on := 0, ground := Ground.data }]).op, none⟩,
 ⟨(opAssign (some 7) (.tmp 27) 3 "itoa.go:39" #[{ on := 1, ground := Ground.data }, { on := 1, ground := Ground.chain }, { on := 0, ground := Ground.phase }, { on := 1, ground := Ground.phase }]).op, none⟩
 ] (by kernel_rfl)))
 (.seq (.live [0, 5, 7] (.region 9 [
 ⟨(opMove (some 28) (.tmp 7) 3 "itoa.go:40" #[]).op, none⟩,
 ⟨(opBin (some 29) .add 3 (.const (Value.int IntKind.i64 1)) (.tmp 28) 3 3 "itoa.go:40" #[{ on := 0, ground := Ground.data }]).op, none⟩,
 ⟨(opSliceB (some 30) 105 (.tmp 5) (some (.const (Value.int IntKind.i64 1))) (some (.tmp 29)) none 24 5 1 Tryd.underlying105 (by decide) sz5 46 "itoa.go:40" #[{ on := 1, ground := Ground.data }]).op, none⟩,
 ⟨(opMove (some 31) (.tmp 6) 84 "itoa.go:40" #[]).op, none⟩,
 ⟨opCall (s86).orc (some 32) [(.tmp 30), (.tmp 31)] #[46, 84] 0 "itoa.go:40" #[{ on := 2, ground := Ground.data }, { on := 3, ground := Ground.data }], none⟩
 ] (by kernel_rfl)))
 (.seq (.seq (.live [5, 7, 34] (.region 10 [
 ⟨(opMove (some 33) (.tmp 0) 2 "itoa.go:41" #[]).op, none⟩,
 ⟨(opBin (some 34) .lss 2 (.tmp 33) (.const (Value.int IntKind.i64 0)) 2 4 "itoa.go:41" #[{ on := 0, ground := Ground.data }]).op, none⟩
 ] (by kernel_rfl)))
 (.cond (.tmp 34)
 (.seq (.live [5, 7] (.region 11 [
 ⟨(opIndexAddrA (some 35) 105 (.tmp 5) (.const (Value.int IntKind.i64 0)) 24 5 1 Tryd.underlying105 sz5 0 "itoa.go:42" #[]).op, none⟩,
 ⟨(opStore none 5 (.tmp 35) (.const (Value.int IntKind.u8 45)) 1 sz5 0 "itoa.go:42" #[{ on := 0, ground := Ground.data }]).op, none⟩
 ] (by kernel_rfl)))
 (.seq (.live [4] (.region 12 [
 ⟨(opMove (some 36) (.tmp 7) 3 "itoa.go:43" #[]).op, none⟩,
 ⟨(opBin (some 37) .add 3 (.const (Value.int IntKind.i64 1)) (.tmp 36) 3 3 "itoa.go:43" #[{ on := 0, ground := Ground.data }]).op, none⟩,
 ⟨(opSliceB (some 38) 105 (.tmp 5) none (some (.tmp 37)) none 24 5 1 Tryd.underlying105 (by decide) sz5 46 "itoa.go:43" #[{ on := 1, ground := Ground.data }]).op, none⟩,
 ⟨(opBytesStr (some 39) 46 9 (.tmp 38) 5 Tryd.underlying46 Tryd.underlying5 Tryd.underlying9 9 "itoa.go:43" #[{ on := 2, ground := Ground.data }]).op, none⟩,
 ⟨(opAssign (some 4) (.tmp 39) 9 "itoa.go:43" #[{ on := 3, ground := Ground.data }, { on := 0, ground := Ground.phase }, { on := 1, ground := Ground.phase }, { on := 2, ground := Ground.phase }, { on := 3, ground := Ground.phase }]).op, none⟩
 ] (by kernel_rfl)))
 (.live [4] .ret)))
 .skip))
 (.seq (.live [4] (.region 13 [
 ⟨(opMove (some 40) (.tmp 7) 3 "itoa.go:45" #[]).op, none⟩,
 ⟨(opBin (some 41) .add 3 (.const (Value.int IntKind.i64 1)) (.tmp 40) 3 3 "itoa.go:45" #[{ on := 0, ground := Ground.data }]).op, none⟩,
 ⟨(opSliceB (some 42) 105 (.tmp 5) (some (.const (Value.int IntKind.i64 1))) (some (.tmp 41)) none 24 5 1 Tryd.underlying105 (by decide) sz5 46 "itoa.go:45" #[{ on := 1, ground := Ground.data }]).op, none⟩,
 ⟨(opBytesStr (some 43) 46 9 (.tmp 42) 5 Tryd.underlying46 Tryd.underlying5 Tryd.underlying9 9 "itoa.go:45" #[{ on := 2, ground := Ground.data }]).op, none⟩,
 ⟨(opAssign (some 4) (.tmp 43) 9 "itoa.go:45" #[{ on := 3, ground := Ground.data }, { on := 0, ground := Ground.phase }, { on := 1, ground := Ground.phase }, { on := 2, ground := Ground.phase }, { on := 3, ground := Ground.phase }]).op, none⟩
 ] (by kernel_rfl)))
 (.live [4] .ret)))))))))
 .skip))
 (.seq (.live [9] (.region 14 [
 ⟨(opMove (some 45) (.tmp 0) 2 "itoa.go:47" #[]).op, none⟩,
 ⟨(opConvInt (some 46) 2 84 (.tmp 45) (.int .i64) Tryd.underlying2 .u64 Tryd.underlying84 84 "itoa.go:47" #[{ on := 0, ground := Ground.data }]).op, none⟩,
 ⟨(opMove (some 47) (.tmp 1) 3 "itoa.go:47" #[]).op, none⟩,
 ⟨(opMove (some 48) (.tmp 0) 2 "itoa.go:47" #[]).op, none⟩,
 ⟨(opBin (some 49) .lss 2 (.tmp 48) (.const (Value.int IntKind.i64 0)) 2 4 "itoa.go:47" #[{ on := 3, ground := Ground.data }]).op, none⟩,
 ⟨opCall (Orc.dead 87 Tryd.f87 Tryd.func87 (by kernel_rfl) (by kernel_rfl)) (some 50) [(.const (Value.slice none 0 0)), (.tmp 46), (.tmp 47), (.tmp 49), (.const (Value.bool false))] #[46, 84, 3, 4, 4] 107 "itoa.go:47" #[{ on := 1, ground := Ground.data }, { on := 2, ground := Ground.data }, { on := 4, ground := Ground.data }], none⟩,
 ⟨(opMove (some 44) (.tmp 50) 107 "itoa.go:47" #[{ on := 5, ground := Ground.data }]).op, none⟩,
 ⟨(opExtract (some 51) (.tmp 44) 0 46 "itoa.go:47" #[{ on := 6, ground := Ground.data }]).op, none⟩,
 ⟨(opExtract (some 52) (.tmp 44) 1 9 "itoa.go:47" #[{ on := 6, ground := Ground.data }, { on := 9, ground := (Ground.gcOnly Departure.lateStores) }]).op, none⟩,
 ⟨(opAssign (some 8) (.tmp 51) 46 "itoa.go:47" #[{ on := 7, ground := Ground.data }, { on := 5, ground := Ground.chain }, { on := 0, ground := Ground.phase }, { on := 1, ground := Ground.phase }, { on := 2, ground := Ground.phase }, { on := 3, ground := Ground.phase }, { on := 4, ground := Ground.phase }, { on := 5, ground := Ground.phase }, { on := 6, ground := Ground.phase }, { on := 7, ground := Ground.phase }, { on := 8, ground := (Ground.textOnly Departure.lateStores) }]).op, none⟩,
 ⟨(opAssign (some 9) (.tmp 52) 9 "itoa.go:47" #[{ on := 8, ground := Ground.data }, { on := 9, ground := Ground.chain }, { on := 0, ground := Ground.phase }, { on := 1, ground := Ground.phase }, { on := 2, ground := Ground.phase }, { on := 3, ground := Ground.phase }, { on := 4, ground := Ground.phase }, { on := 5, ground := Ground.phase }, { on := 6, ground := Ground.phase }, { on := 7, ground := Ground.phase }, { on := 8, ground := Ground.phase }, { on := 9, ground := Ground.phase }]).op, none⟩
 ] (by kernel_rfl)))
 (.seq (.live [4] (.region 15 [
 ⟨(opMove (some 53) (.tmp 9) 9 "itoa.go:48" #[]).op, none⟩,
 ⟨(opAssign (some 4) (.tmp 53) 9 "itoa.go:48" #[{ on := 0, ground := Ground.data }, { on := 0, ground := Ground.phase }]).op, none⟩
 ] (by kernel_rfl)))
 (.live [4] .ret)))))

noncomputable def f72 : Fun Tryd.prog where
 id := 72
 fn := Tryd.f72
 hf := Tryd.func72
 hname := by kernel_rfl
 body := f72_b
 hbody := by kernel_rfl
 res := [rTmp 4]
 hres := by kernel_rfl
 n := 54
 hn := by kernel_rfl

end Go.Proofs.YtcfedmheblbdnaaDoor.V

/- What the functions' runs come to; the right sides were printed by a tool, Lean checks them. -/
set_option linter.unusedVariables false
set_option maxRecDepth 100000
namespace Go.Proofs.YtcfedmheblbdnaaDoor.V
open Go Go.V Go.RowKit

theorem fi_run (F : Nat) (i : Int) :
 (f72.run F [.int .i64 i, .int .i64 10] ⟨[], []⟩ : Ans) =
 branch (AV.bool (decide ((0 : Int) ≤ i)))
 (branch (AV.bool (decide (i < (100 : Int))))
 (branch (AV.bool (decide (i < (10 : Int))))
 (branch (AV.bool (inSl tx_b18925 i (IntKind.i64.wrap (i + (1 : Int)))))
 (some (Fin.ret (AV.str (subT tx_b18925 i (IntKind.i64.wrap (i + (1 : Int))))), St.mk [] [])) none)
 (branch
 (AV.bool
 (inSl tx_730b8f (IntKind.i64.wrap (i * (2 : Int)))
 (IntKind.i64.wrap (IntKind.i64.wrap (i * (2 : Int)) + (2 : Int)))))
 (some
 (Fin.ret
 (AV.str
 (subT tx_730b8f (IntKind.i64.wrap (i * (2 : Int)))
 (IntKind.i64.wrap (IntKind.i64.wrap (i * (2 : Int)) + (2 : Int))))),
 St.mk [] []))
 none))
 (branch (AV.bool (decide (i < (0 : Int))))
 (branch (AV.bool (okW (IntKind.u64.wrap ((0 : Int) - IntKind.u64.wrap i))))
 (if
 (0 : Int) ≤ IntKind.i64.wrap ((1 : Int) + ndO (IntKind.u64.wrap ((0 : Int) - IntKind.u64.wrap i))) ∧
 IntKind.i64.wrap ((1 : Int) + ndO (IntKind.u64.wrap ((0 : Int) - IntKind.u64.wrap i))) ≤ (24 : Int) then
 if
 (0 : Int) ≤ (1 : Int) ∧
 (1 : Int) ≤
 (↑(IntKind.i64.wrap ((1 : Int) + ndO (IntKind.u64.wrap ((0 : Int) - IntKind.u64.wrap i)))).toNat :
 Int) then
 branch
 (AV.bool
 (fbOk (zAr 24 (AV.int IntKind.u8 (0 : Int)))
 ((IntKind.i64.wrap ((1 : Int) + ndO (IntKind.u64.wrap ((0 : Int) - IntKind.u64.wrap i)))).toNat -
 1)
 (IntKind.u64.wrap ((0 : Int) - IntKind.u64.wrap i))))
 (branch (AV.bool (decide (i < (0 : Int))))
 (if
 1 = 1 ∧
 1 ≤
 (wrC (zAr 24 (AV.int IntKind.u8 (0 : Int)))
 (IntKind.u64.wrap ((0 : Int) - IntKind.u64.wrap i))
 ((IntKind.i64.wrap
 ((1 : Int) + ndO (IntKind.u64.wrap ((0 : Int) - IntKind.u64.wrap i)))).toNat -
 1)).length then
 if
 (0 : Int) ≤
 IntKind.i64.wrap ((1 : Int) + ndO (IntKind.u64.wrap ((0 : Int) - IntKind.u64.wrap i))) ∧
 IntKind.i64.wrap ((1 : Int) + ndO (IntKind.u64.wrap ((0 : Int) - IntKind.u64.wrap i))) ≤
 (24 : Int) then
 onSome
 (rowsA 1
 (AV.ms 0 1 0
 ((IntKind.i64.wrap
 ((1 : Int) + ndO (IntKind.u64.wrap ((0 : Int) - IntKind.u64.wrap i)))).toNat -
 0)
 24)
 (St.mk
 [Ob.cells
 (setAt
 (wrC (zAr 24 (AV.int IntKind.u8 (0 : Int)))
 (IntKind.u64.wrap ((0 : Int) - IntKind.u64.wrap i))
 ((IntKind.i64.wrap
 ((1 : Int) + ndO (IntKind.u64.wrap ((0 : Int) - IntKind.u64.wrap i)))).toNat -
 1))
 0 [AV.int IntKind.u8 (45 : Int)])]
 []))
 none fun (o : List (List AV)) =>
 onSome (numsOf o) none fun (o : List Int) =>
 some
 (Fin.ret (AV.str (textOf o)),
 St.mk
 [Ob.cells
 (setAt
 (wrC (zAr 24 (AV.int IntKind.u8 (0 : Int)))
 (IntKind.u64.wrap ((0 : Int) - IntKind.u64.wrap i))
 ((IntKind.i64.wrap
 ((1 : Int) +
 ndO (IntKind.u64.wrap ((0 : Int) - IntKind.u64.wrap i)))).toNat -
 1))
 0 [AV.int IntKind.u8 (45 : Int)])]
 [])
 else none
 else none)
 (if
 (0 : Int) ≤ IntKind.i64.wrap ((1 : Int) + ndO (IntKind.u64.wrap ((0 : Int) - IntKind.u64.wrap i))) ∧
 IntKind.i64.wrap ((1 : Int) + ndO (IntKind.u64.wrap ((0 : Int) - IntKind.u64.wrap i))) ≤
 (24 : Int) then
 if
 (0 : Int) ≤ (1 : Int) ∧
 (1 : Int) ≤
 (↑(IntKind.i64.wrap
 ((1 : Int) + ndO (IntKind.u64.wrap ((0 : Int) - IntKind.u64.wrap i)))).toNat :
 Int) then
 onSome
 (rowsA 1
 (AV.ms 0 1 1
 ((IntKind.i64.wrap
 ((1 : Int) + ndO (IntKind.u64.wrap ((0 : Int) - IntKind.u64.wrap i)))).toNat -
 1)
 23)
 (St.mk
 [Ob.cells
 (wrC (zAr 24 (AV.int IntKind.u8 (0 : Int)))
 (IntKind.u64.wrap ((0 : Int) - IntKind.u64.wrap i))
 ((IntKind.i64.wrap
 ((1 : Int) + ndO (IntKind.u64.wrap ((0 : Int) - IntKind.u64.wrap i)))).toNat -
 1))]
 []))
 none fun (o : List (List AV)) =>
 onSome (numsOf o) none fun (o : List Int) =>
 some
 (Fin.ret (AV.str (textOf o)),
 St.mk
 [Ob.cells
 (wrC (zAr 24 (AV.int IntKind.u8 (0 : Int)))
 (IntKind.u64.wrap ((0 : Int) - IntKind.u64.wrap i))
 ((IntKind.i64.wrap
 ((1 : Int) + ndO (IntKind.u64.wrap ((0 : Int) - IntKind.u64.wrap i)))).toNat -
 1))]
 [])
 else none
 else none))
 none
 else none
 else none)
 none)
 (branch (AV.bool (okW (IntKind.u64.wrap i)))
 (if
 (0 : Int) ≤ IntKind.i64.wrap ((1 : Int) + ndO (IntKind.u64.wrap i)) ∧
 IntKind.i64.wrap ((1 : Int) + ndO (IntKind.u64.wrap i)) ≤ (24 : Int) then
 if
 (0 : Int) ≤ (1 : Int) ∧
 (1 : Int) ≤ (↑(IntKind.i64.wrap ((1 : Int) + ndO (IntKind.u64.wrap i))).toNat : Int) then
 branch
 (AV.bool
 (fbOk (zAr 24 (AV.int IntKind.u8 (0 : Int)))
 ((IntKind.i64.wrap ((1 : Int) + ndO (IntKind.u64.wrap i))).toNat - 1) (IntKind.u64.wrap i)))
 (branch (AV.bool (decide (i < (0 : Int))))
 (if
 1 = 1 ∧
 1 ≤
 (wrC (zAr 24 (AV.int IntKind.u8 (0 : Int))) (IntKind.u64.wrap i)
 ((IntKind.i64.wrap ((1 : Int) + ndO (IntKind.u64.wrap i))).toNat - 1)).length then
 if
 (0 : Int) ≤ IntKind.i64.wrap ((1 : Int) + ndO (IntKind.u64.wrap i)) ∧
 IntKind.i64.wrap ((1 : Int) + ndO (IntKind.u64.wrap i)) ≤ (24 : Int) then
 onSome
 (rowsA 1
 (AV.ms 0 1 0
 ((IntKind.i64.wrap ((1 : Int) + ndO (IntKind.u64.wrap i))).toNat - 0) 24)
 (St.mk
 [Ob.cells
 (setAt
 (wrC (zAr 24 (AV.int IntKind.u8 (0 : Int))) (IntKind.u64.wrap i)
 ((IntKind.i64.wrap ((1 : Int) + ndO (IntKind.u64.wrap i))).toNat - 1))
 0 [AV.int IntKind.u8 (45 : Int)])]
 []))
 none fun (o : List (List AV)) =>
 onSome (numsOf o) none fun (o : List Int) =>
 some
 (Fin.ret (AV.str (textOf o)),
 St.mk
 [Ob.cells
 (setAt
 (wrC (zAr 24 (AV.int IntKind.u8 (0 : Int))) (IntKind.u64.wrap i)
 ((IntKind.i64.wrap ((1 : Int) + ndO (IntKind.u64.wrap i))).toNat - 1))
 0 [AV.int IntKind.u8 (45 : Int)])]
 [])
 else none
 else none)
 (if
 (0 : Int) ≤ IntKind.i64.wrap ((1 : Int) + ndO (IntKind.u64.wrap i)) ∧
 IntKind.i64.wrap ((1 : Int) + ndO (IntKind.u64.wrap i)) ≤ (24 : Int) then
 if
 (0 : Int) ≤ (1 : Int) ∧
 (1 : Int) ≤ (↑(IntKind.i64.wrap ((1 : Int) + ndO (IntKind.u64.wrap i))).toNat : Int) then
 onSome
 (rowsA 1
 (AV.ms 0 1 1
 ((IntKind.i64.wrap ((1 : Int) + ndO (IntKind.u64.wrap i))).toNat - 1) 23)
 (St.mk
 [Ob.cells
 (wrC (zAr 24 (AV.int IntKind.u8 (0 : Int))) (IntKind.u64.wrap i)
 ((IntKind.i64.wrap ((1 : Int) + ndO (IntKind.u64.wrap i))).toNat - 1))]
 []))
 none fun (o : List (List AV)) =>
 onSome (numsOf o) none fun (o : List Int) =>
 some
 (Fin.ret (AV.str (textOf o)),
 St.mk
 [Ob.cells
 (wrC (zAr 24 (AV.int IntKind.u8 (0 : Int))) (IntKind.u64.wrap i)
 ((IntKind.i64.wrap ((1 : Int) + ndO (IntKind.u64.wrap i))).toNat - 1))]
 [])
 else none
 else none))
 none
 else none
 else none)
 none)))
 (branch (AV.bool (decide (i < (0 : Int))))
 (branch (AV.bool (okW (IntKind.u64.wrap ((0 : Int) - IntKind.u64.wrap i))))
 (if
 (0 : Int) ≤ IntKind.i64.wrap ((1 : Int) + ndO (IntKind.u64.wrap ((0 : Int) - IntKind.u64.wrap i))) ∧
 IntKind.i64.wrap ((1 : Int) + ndO (IntKind.u64.wrap ((0 : Int) - IntKind.u64.wrap i))) ≤ (24 : Int) then
 if
 (0 : Int) ≤ (1 : Int) ∧
 (1 : Int) ≤
 (↑(IntKind.i64.wrap ((1 : Int) + ndO (IntKind.u64.wrap ((0 : Int) - IntKind.u64.wrap i)))).toNat :
 Int) then
 branch
 (AV.bool
 (fbOk (zAr 24 (AV.int IntKind.u8 (0 : Int)))
 ((IntKind.i64.wrap ((1 : Int) + ndO (IntKind.u64.wrap ((0 : Int) - IntKind.u64.wrap i)))).toNat -
 1)
 (IntKind.u64.wrap ((0 : Int) - IntKind.u64.wrap i))))
 (branch (AV.bool (decide (i < (0 : Int))))
 (if
 1 = 1 ∧
 1 ≤
 (wrC (zAr 24 (AV.int IntKind.u8 (0 : Int)))
 (IntKind.u64.wrap ((0 : Int) - IntKind.u64.wrap i))
 ((IntKind.i64.wrap
 ((1 : Int) + ndO (IntKind.u64.wrap ((0 : Int) - IntKind.u64.wrap i)))).toNat -
 1)).length then
 if
 (0 : Int) ≤ IntKind.i64.wrap ((1 : Int) + ndO (IntKind.u64.wrap ((0 : Int) - IntKind.u64.wrap i))) ∧
 IntKind.i64.wrap ((1 : Int) + ndO (IntKind.u64.wrap ((0 : Int) - IntKind.u64.wrap i))) ≤
 (24 : Int) then
 onSome
 (rowsA 1
 (AV.ms 0 1 0
 ((IntKind.i64.wrap
 ((1 : Int) + ndO (IntKind.u64.wrap ((0 : Int) - IntKind.u64.wrap i)))).toNat -
 0)
 24)
 (St.mk
 [Ob.cells
 (setAt
 (wrC (zAr 24 (AV.int IntKind.u8 (0 : Int)))
 (IntKind.u64.wrap ((0 : Int) - IntKind.u64.wrap i))
 ((IntKind.i64.wrap
 ((1 : Int) + ndO (IntKind.u64.wrap ((0 : Int) - IntKind.u64.wrap i)))).toNat -
 1))
 0 [AV.int IntKind.u8 (45 : Int)])]
 []))
 none fun (o : List (List AV)) =>
 onSome (numsOf o) none fun (o : List Int) =>
 some
 (Fin.ret (AV.str (textOf o)),
 St.mk
 [Ob.cells
 (setAt
 (wrC (zAr 24 (AV.int IntKind.u8 (0 : Int)))
 (IntKind.u64.wrap ((0 : Int) - IntKind.u64.wrap i))
 ((IntKind.i64.wrap
 ((1 : Int) + ndO (IntKind.u64.wrap ((0 : Int) - IntKind.u64.wrap i)))).toNat -
 1))
 0 [AV.int IntKind.u8 (45 : Int)])]
 [])
 else none
 else none)
 (if
 (0 : Int) ≤ IntKind.i64.wrap ((1 : Int) + ndO (IntKind.u64.wrap ((0 : Int) - IntKind.u64.wrap i))) ∧
 IntKind.i64.wrap ((1 : Int) + ndO (IntKind.u64.wrap ((0 : Int) - IntKind.u64.wrap i))) ≤
 (24 : Int) then
 if
 (0 : Int) ≤ (1 : Int) ∧
 (1 : Int) ≤
 (↑(IntKind.i64.wrap
 ((1 : Int) + ndO (IntKind.u64.wrap ((0 : Int) - IntKind.u64.wrap i)))).toNat :
 Int) then
 onSome
 (rowsA 1
 (AV.ms 0 1 1
 ((IntKind.i64.wrap
 ((1 : Int) + ndO (IntKind.u64.wrap ((0 : Int) - IntKind.u64.wrap i)))).toNat -
 1)
 23)
 (St.mk
 [Ob.cells
 (wrC (zAr 24 (AV.int IntKind.u8 (0 : Int)))
 (IntKind.u64.wrap ((0 : Int) - IntKind.u64.wrap i))
 ((IntKind.i64.wrap
 ((1 : Int) + ndO (IntKind.u64.wrap ((0 : Int) - IntKind.u64.wrap i)))).toNat -
 1))]
 []))
 none fun (o : List (List AV)) =>
 onSome (numsOf o) none fun (o : List Int) =>
 some
 (Fin.ret (AV.str (textOf o)),
 St.mk
 [Ob.cells
 (wrC (zAr 24 (AV.int IntKind.u8 (0 : Int)))
 (IntKind.u64.wrap ((0 : Int) - IntKind.u64.wrap i))
 ((IntKind.i64.wrap
 ((1 : Int) + ndO (IntKind.u64.wrap ((0 : Int) - IntKind.u64.wrap i)))).toNat -
 1))]
 [])
 else none
 else none))
 none
 else none
 else none)
 none)
 (branch (AV.bool (okW (IntKind.u64.wrap i)))
 (if
 (0 : Int) ≤ IntKind.i64.wrap ((1 : Int) + ndO (IntKind.u64.wrap i)) ∧
 IntKind.i64.wrap ((1 : Int) + ndO (IntKind.u64.wrap i)) ≤ (24 : Int) then
 if
 (0 : Int) ≤ (1 : Int) ∧
 (1 : Int) ≤ (↑(IntKind.i64.wrap ((1 : Int) + ndO (IntKind.u64.wrap i))).toNat : Int) then
 branch
 (AV.bool
 (fbOk (zAr 24 (AV.int IntKind.u8 (0 : Int)))
 ((IntKind.i64.wrap ((1 : Int) + ndO (IntKind.u64.wrap i))).toNat - 1) (IntKind.u64.wrap i)))
 (branch (AV.bool (decide (i < (0 : Int))))
 (if
 1 = 1 ∧
 1 ≤
 (wrC (zAr 24 (AV.int IntKind.u8 (0 : Int))) (IntKind.u64.wrap i)
 ((IntKind.i64.wrap ((1 : Int) + ndO (IntKind.u64.wrap i))).toNat - 1)).length then
 if
 (0 : Int) ≤ IntKind.i64.wrap ((1 : Int) + ndO (IntKind.u64.wrap i)) ∧
 IntKind.i64.wrap ((1 : Int) + ndO (IntKind.u64.wrap i)) ≤ (24 : Int) then
 onSome
 (rowsA 1
 (AV.ms 0 1 0
 ((IntKind.i64.wrap ((1 : Int) + ndO (IntKind.u64.wrap i))).toNat - 0) 24)
 (St.mk
 [Ob.cells
 (setAt
 (wrC (zAr 24 (AV.int IntKind.u8 (0 : Int))) (IntKind.u64.wrap i)
 ((IntKind.i64.wrap ((1 : Int) + ndO (IntKind.u64.wrap i))).toNat - 1))
 0 [AV.int IntKind.u8 (45 : Int)])]
 []))
 none fun (o : List (List AV)) =>
 onSome (numsOf o) none fun (o : List Int) =>
 some
 (Fin.ret (AV.str (textOf o)),
 St.mk
 [Ob.cells
 (setAt
 (wrC (zAr 24 (AV.int IntKind.u8 (0 : Int))) (IntKind.u64.wrap i)
 ((IntKind.i64.wrap ((1 : Int) + ndO (IntKind.u64.wrap i))).toNat - 1))
 0 [AV.int IntKind.u8 (45 : Int)])]
 [])
 else none
 else none)
 (if
 (0 : Int) ≤ IntKind.i64.wrap ((1 : Int) + ndO (IntKind.u64.wrap i)) ∧
 IntKind.i64.wrap ((1 : Int) + ndO (IntKind.u64.wrap i)) ≤ (24 : Int) then
 if
 (0 : Int) ≤ (1 : Int) ∧
 (1 : Int) ≤ (↑(IntKind.i64.wrap ((1 : Int) + ndO (IntKind.u64.wrap i))).toNat : Int) then
 onSome
 (rowsA 1
 (AV.ms 0 1 1
 ((IntKind.i64.wrap ((1 : Int) + ndO (IntKind.u64.wrap i))).toNat - 1) 23)
 (St.mk
 [Ob.cells
 (wrC (zAr 24 (AV.int IntKind.u8 (0 : Int))) (IntKind.u64.wrap i)
 ((IntKind.i64.wrap ((1 : Int) + ndO (IntKind.u64.wrap i))).toNat - 1))]
 []))
 none fun (o : List (List AV)) =>
 onSome (numsOf o) none fun (o : List Int) =>
 some
 (Fin.ret (AV.str (textOf o)),
 St.mk
 [Ob.cells
 (wrC (zAr 24 (AV.int IntKind.u8 (0 : Int))) (IntKind.u64.wrap i)
 ((IntKind.i64.wrap ((1 : Int) + ndO (IntKind.u64.wrap i))).toNat - 1))]
 [])
 else none
 else none))
 none
 else none
 else none)
 none)) := by kernel_rfl

end Go.Proofs.YtcfedmheblbdnaaDoor.V

/- Values: a number as a text (FormatInt to the base ten). -/
set_option linter.unusedVariables false
namespace Go.Proofs.YtcfedmheblbdnaaDoor.V
open Go Go.V Go.RowKit

theorem wr_at (l : List Nat) (U D : Nat) (hl : D + 1 ≤ l.length) : ∀ k, k ≤ D → ∀ p, p < l.length → (wr l U D k)[p]? = some (if 1 + (D - k) ≤ p ∧ p < 1 + D then 48 + U / 10 ^ (D - p) % 10 else l.getD p 0)
  | 0, _, p, hp => by
    rw [wr, if_neg (by omega), List.getElem?_eq_getElem hp, List.getD_eq_getElem?_getD, List.getElem?_eq_getElem hp]; rfl
  | k + 1, hk, p, hp => by
    rw [wr, List.getElem?_set, wr_len, wr_at l U D hl k (by omega) p hp]
    by_cases h : 1 + (D - (k + 1)) = p
    · rw [if_pos h, if_pos (by omega), if_pos (by omega), show D - p = k by omega]
    · rw [if_neg h]
      by_cases h2 : 1 + (D - k) ≤ p ∧ p < 1 + D
      · rw [if_pos h2, if_pos (by omega)]
      · rw [if_neg h2, if_neg (by omega)]
theorem wr_digs (l : List Nat) (U n : Nat) (hl : n + 1 ≤ l.length) : ((wr l U n n).drop 1).take n = digs U n := by
  apply List.ext_getElem?
  intro j
  rw [List.getElem?_take, digs, List.getElem?_map]
  by_cases hj : j < n
  · rw [if_pos hj, List.getElem?_drop, wr_at l U n hl n (Nat.le_refl _) (1 + j) (by omega), if_pos (by omega), List.getElem?_range hj]
    simp only [Option.map_some]
    rw [show n - (1 + j) = n - 1 - j by omega]
  · rw [if_neg hj, List.getElem?_eq_none (by simp; omega)]; rfl
/-- A number's digits. -/
def dec (U : Nat) : List Nat := if U = 0 then [48] else digs U (ndN U)
def numL (i : Int) : List Nat := if i < 0 then 45 :: dec (-i).toNat else dec i.toNat
theorem digs_lt (U n : Nat) : ∀ b ∈ digs U n, b < 256 := by
  intro b hb
  obtain ⟨j, _, rfl⟩ := List.mem_map.mp hb
  omega
theorem dec_lt (U : Nat) : ∀ b ∈ dec U, b < 256 := by
  unfold dec
  split
  · intro b hb; simp at hb; omega
  · exact digs_lt _ _
theorem numL_lt (i : Int) : ∀ b ∈ numL i, b < 256 := by
  unfold numL
  split
  · intro b hb
    rcases List.mem_cons.mp hb with rfl | hb
    · omega
    · exact dec_lt _ b hb
  · exact dec_lt _
theorem dec_of {U n : Nat} (h1 : 1 ≤ n) (h2 : 10 ^ (n - 1) ≤ U) (h3 : U < 10 ^ n) (h4 : U < 18446744073709551616) : dec U = digs U n := by
  have h0 : U ≠ 0 := by have := Nat.pow_pos (n := n - 1) (show 0 < 10 by omega); omega
  obtain ⟨k1, k2, k3, k4⟩ := ndN_spec h0 h4
  unfold dec
  rw [if_neg h0]
  rcases Nat.lt_trichotomy n (ndN U) with h | h | h
  · have := Nat.pow_le_pow_right (n := 10) (by omega) (show n ≤ ndN U - 1 by omega); omega
  · rw [h]
  · have := Nat.pow_le_pow_right (n := 10) (by omega) (show ndN U ≤ n - 1 by omega); omega
noncomputable def showI (i : Int) : ByteArray := txt (numL i)
theorem strL_txt {l : List Nat} (h : ∀ b ∈ l, b < 256) : strL (txt l) = l := own_txt h
theorem dig_sub {i : Nat} (h : i < 10) : ((strL tx_b18925).take (i + 1)).drop i = [48 + i] := by
  have h1 : ∀ j : Fin 10, ((strL tx_b18925).take (j.val + 1)).drop j.val = [48 + j.val] := by rw [tx_b18925_eq]; decide +kernel
  exact h1 ⟨i, h⟩
theorem dig_len : (strL tx_b18925).length = 36 := by rw [tx_b18925_eq]; decide +kernel
theorem text_rows {l : List Nat} (h : ∀ b ∈ l, b < 256) : numsOf (bR l) = some (l.map fun (b : Nat) => (b : Int)) := by
  rw [numsOf_nR (okR_bR h), nR_bR]
theorem zAr_bC : zAr 24 (AV.int IntKind.u8 (0 : Int)) = bC (List.replicate 24 0) := by rw [zAr, opq_eq]; rfl
theorem fi_eq (i : Int) (h1 : -9223372036854775808 ≤ i) (h2 : i ≤ 9223372036854775807) : ∃ st', f72.run 0 [.int .i64 i, .int .i64 10] ⟨[], []⟩ = some (.ret (.str (showI i)), st') := by
  rw [fi_run]
  by_cases hneg : i < 0
  · rw [branch_not (decide_eq_false (by omega)), branch_of (decide_eq_true hneg)]
    obtain ⟨U, hU⟩ : ∃ U : Nat, -i = (U : Nat) := Int.eq_ofNat_of_zero_le (by omega)
    have hU0 : U ≠ 0 := by omega
    have hUm : U ≤ 9223372036854775808 := by omega
    have e1 : IntKind.u64.wrap (0 - IntKind.u64.wrap i) = (U : Nat) := by
      unfold IntKind.wrap
      simp only [IntKind.signed, IntKind.bits]
      simp
      omega
    obtain ⟨k1, k2, k3, k4⟩ := ndN_spec hU0 (by omega)
    have e2 : ndO ((U : Nat) : Int) = (ndN U : Nat) := by rw [ndO, opq_eq, Int.toNat_natCast]
    have e3 : IntKind.i64.wrap (1 + ((ndN U : Nat) : Int)) = ((ndN U + 1 : Nat) : Int) := by rw [wrapS (by omega) (by omega)]; omega
    have e4 : unB (bC (List.replicate 24 0)) = List.replicate 24 0 := unB_bC _
    have e5 : wrC (bC (List.replicate 24 0)) (U : Nat) (ndN U) = bC (wr (List.replicate 24 0) U (ndN U) (ndN U)) := by rw [wrC, opq_eq, e4, Int.toNat_natCast]
    have hW : (wr (List.replicate 24 0) U (ndN U) (ndN U)).length = 24 := by rw [wr_len]; rfl
    have hd := wr_digs (List.replicate 24 0) U (ndN U) (by simp; omega)
    rw [e1, e2, e3, zAr_bC, Int.toNat_natCast, Nat.add_sub_cancel, e5]
    generalize wr (List.replicate 24 0) U (ndN U) (ndN U) = W at *
    rw [branch_of (show okW (U : Int) = true from cdec_iff.mpr ⟨by omega, by omega⟩), if_pos ⟨by omega, by omega⟩, if_pos ⟨by omega, by omega⟩,
      branch_of (show fbOk (bC (List.replicate 24 0)) (ndN U) (U : Int) = true from cdec_iff.mpr ⟨by rw [e4], by simp [bC], k2, by omega, by exact_mod_cast k4, by omega⟩), branch_of (decide_eq_true hneg), if_pos ⟨rfl, by rw [bC_length, hW]; omega⟩, if_pos ⟨by omega, by omega⟩]
    have e6 : setAt (bC W) 0 [AV.int IntKind.u8 (45 : Int)] = bC (W.set 0 45) := by
      have := setC_byte (l := W) (o := 0) (b := 45) (by omega)
      rw [setC, opq_eq] at this
      exact this
    have e7 : rowsA 1 (.ms 0 1 0 (ndN U + 1 - 0) 24) ⟨[.cells (bC (W.set 0 45))], []⟩ = some (bR ((W.set 0 45).take (ndN U + 1))) := rowsOf_bC (ndN U + 1) (W.set 0 45) (by simp; omega)
    have e8 : (W.set 0 45).take (ndN U + 1) = numL i := by
      match W, hW, hd with
      | x :: W, _, hd =>
        show 45 :: W.take (ndN U) = _
        rw [numL, if_pos hneg, hU, Int.toNat_natCast, dec, if_neg hU0, ← hd]; rfl
    rw [e6, e7]
    simp only [onSome]
    rw [e8, text_rows (numL_lt i)]
    exact ⟨_, rfl⟩
  · obtain ⟨U, rfl⟩ := Int.eq_ofNat_of_zero_le (show 0 ≤ i by omega)
    rw [branch_of (decide_eq_true (by omega))]
    by_cases h100 : U < 100
    · rw [branch_of (decide_eq_true (by omega))]
      by_cases h10 : U < 10
      · have e1 : IntKind.i64.wrap ((U : Int) + 1) = ((U + 1 : Nat) : Int) := by rw [wrapS (by omega) (by omega)]; omega
        have e2 : subT tx_b18925 (U : Int) ((U + 1 : Nat) : Int) = showI (U : Int) := by
          apply strL_inj
          rw [subT_list, showI, strL_txt (numL_lt _), Int.toNat_natCast, Int.toNat_natCast, dig_sub h10, numL, if_neg (by omega), Int.toNat_natCast]
          by_cases h0 : U = 0
          · subst h0; rfl
          · rw [dec_of (n := 1) (by omega) (by simp; omega) (by omega) (by omega), digs]
            simp [List.range_succ]; omega
        rw [branch_of (decide_eq_true (by omega)), e1, branch_of (inSl_iff.mpr ⟨by omega, by omega, by rw [dig_len]; omega⟩), e2]
        exact ⟨_, rfl⟩
      · have e1 : IntKind.i64.wrap ((U : Int) * 2) = ((U * 2 : Nat) : Int) := by rw [wrapS (by omega) (by omega)]; omega
        have e3 : IntKind.i64.wrap (((U * 2 : Nat) : Int) + 2) = ((U * 2 + 2 : Nat) : Int) := by rw [wrapS (by omega) (by omega)]; omega
        have e2 : subT tx_730b8f ((U * 2 : Nat) : Int) ((U * 2 + 2 : Nat) : Int) = showI (U : Int) := by
          apply strL_inj
          rw [subT_list, showI, strL_txt (numL_lt _), Int.toNat_natCast, Int.toNat_natCast, sm_sub h100, numL, if_neg (by omega), Int.toNat_natCast, dec_of (n := 2) (by omega) (by simp; omega) (by omega) (by omega)]
        have hs := sm_len
        rw [branch_not (decide_eq_false (by omega)), e1, e3, branch_of (inSl_iff.mpr ⟨by omega, by omega, by omega⟩), e2]
        exact ⟨_, rfl⟩
    · rw [branch_not (decide_eq_false (by omega)), branch_not (decide_eq_false (by omega))]
      have hU0 : U ≠ 0 := by omega
      have e1 : IntKind.u64.wrap (U : Int) = (U : Nat) := w64 (by omega)
      obtain ⟨k1, k2, k3, k4⟩ := ndN_spec hU0 (by omega)
      have e2 : ndO ((U : Nat) : Int) = (ndN U : Nat) := by rw [ndO, opq_eq, Int.toNat_natCast]
      have e3 : IntKind.i64.wrap (1 + ((ndN U : Nat) : Int)) = ((ndN U + 1 : Nat) : Int) := by rw [wrapS (by omega) (by omega)]; omega
      have e4 : unB (bC (List.replicate 24 0)) = List.replicate 24 0 := unB_bC _
      have e5 : wrC (bC (List.replicate 24 0)) (U : Nat) (ndN U) = bC (wr (List.replicate 24 0) U (ndN U) (ndN U)) := by rw [wrC, opq_eq, e4, Int.toNat_natCast]
      have hW : (wr (List.replicate 24 0) U (ndN U) (ndN U)).length = 24 := by rw [wr_len]; rfl
      have hd := wr_digs (List.replicate 24 0) U (ndN U) (by simp; omega)
      rw [e1, e2, e3, zAr_bC, Int.toNat_natCast, Nat.add_sub_cancel, e5]
      generalize wr (List.replicate 24 0) U (ndN U) (ndN U) = W at *
      rw [branch_of (show okW (U : Int) = true from cdec_iff.mpr ⟨by omega, by omega⟩), if_pos ⟨by omega, by omega⟩, if_pos ⟨by omega, by omega⟩,
        branch_of (show fbOk (bC (List.replicate 24 0)) (ndN U) (U : Int) = true from cdec_iff.mpr ⟨by rw [e4], by simp [bC], k2, by omega, by exact_mod_cast k4, by omega⟩), branch_not (decide_eq_false hneg), if_pos ⟨by omega, by omega⟩, if_pos ⟨by omega, by omega⟩]
      have e7 : rowsA 1 (.ms 0 1 1 (ndN U) 23) ⟨[.cells (bC W)], []⟩ = some (bR ((W.drop 1).take (ndN U))) := by
        show rowsOf 1 (ndN U) ((bC W).drop 1) = _
        rw [bC_drop]; exact rowsOf_bC _ _ (by simp; omega)
      have e8 : (W.drop 1).take (ndN U) = numL (U : Int) := by rw [hd, numL, if_neg (by omega), Int.toNat_natCast, dec, if_neg hU0]
      rw [e7]
      simp only [onSome]
      rw [e8, text_rows (numL_lt _)]
      exact ⟨_, rfl⟩
end Go.Proofs.YtcfedmheblbdnaaDoor.V

/- The functions' pieces, as told by gen.py. -/
set_option linter.unusedVariables false
set_option maxRecDepth 20000
namespace Go.Proofs.YtcfedmheblbdnaaDoor.V
open Go Go.V Go.RowKit


/-! ### 20: interlock/interlockref04.Right (24); results 2; slots: 0 v, 1 v -/
noncomputable def f20_b : Sim Tryd.prog :=
 (.seq (.live [1] (.region 0 [
 ⟨(opBoxF (some 1) 24 (.tmp 0) 0 "ref.go:11" #[]).op, none⟩,
 ⟨(opAssign (some 2) (.const (Value.bool false)) 4 "ref.go:11" #[]).op, none⟩
 ] (by kernel_rfl)))
 (.seq (.seq (.live [1, 4] (.region 1 [
 ⟨(opFieldAddr (some 3) 24 (.tmp 1) 0 0 1 false fl24_0 (by decide) 0 "ref.go:12" #[]).op, none⟩,
 ⟨(opLoadT (.one (.int .i64)) (some 4) 3 (.tmp 3) (.int .i64) Tryd.underlying3 1 sz3 (by kernel_rfl) 3 "ref.go:12" #[{ on := 0, ground := Ground.data }]).op, none⟩
 ] (by kernel_rfl)))
 (.block 0 (.seq (.live [1, 4, 5] (.region 2 [
 ⟨(opBin (some 6) .eql 3 (.tmp 4) (.const (Value.int IntKind.i64 0)) 3 4 "ref.go:13" #[]).op, none⟩,
 ⟨(opAssign (some 5) (.tmp 6) 4 "ref.go:13" #[{ on := 0, ground := Ground.data }]).op, none⟩
 ] (by kernel_rfl)))
 (.cond (.tmp 5)
 (.seq (.live [2] (.region 3 [
 ⟨(opFieldAddr (some 7) 24 (.tmp 1) 1 1 1 false fl24_1 (by decide) 0 "ref.go:14" #[]).op, none⟩,
 ⟨(opLoadT (.one (.int .i64)) (some 8) 3 (.tmp 7) (.int .i64) Tryd.underlying3 1 sz3 (by kernel_rfl) 3 "ref.go:14" #[{ on := 0, ground := Ground.data }]).op, none⟩,
 ⟨(opBin (some 9) .eql 3 (.tmp 8) (.const (Value.int IntKind.i64 0)) 3 4 "ref.go:14" #[{ on := 1, ground := Ground.data }]).op, none⟩,
 ⟨(opMove (some 10) (.tmp 9) 4 "ref.go:14" #[{ on := 2, ground := Ground.data }]).op, none⟩,
 ⟨(opFieldAddr (some 11) 24 (.tmp 1) 2 2 1 false fl24_2 (by decide) 0 "ref.go:14" #[{ on := 3, ground := Ground.guard }]).op, (some (3, 10, true))⟩,
 ⟨(opLoadT (.one .str) (some 12) 9 (.tmp 11) .string Tryd.underlying9 1 sz9 (by kernel_rfl) 9 "ref.go:14" #[{ on := 4, ground := Ground.data }, { on := 3, ground := Ground.guard }]).op, (some (3, 10, true))⟩,
 ⟨(opBinS (some 13) .eql 9 (.tmp 12) (.const (Value.string { data := #[] })) 9 4 "ref.go:14" #[{ on := 5, ground := Ground.data }, { on := 3, ground := Ground.guard }]).op, (some (3, 10, true))⟩,
 ⟨(opPick (some 14) (.tmp 10) (.tmp 13) (.const (Value.bool false)) 4 "ref.go:14" #[{ on := 3, ground := Ground.data }, { on := 6, ground := Ground.data }]).op, none⟩,
 ⟨(opAssign (some 2) (.tmp 14) 4 "ref.go:14" #[{ on := 7, ground := Ground.data }, { on := 3, ground := Ground.chain }, { on := 0, ground := Ground.phase }, { on := 1, ground := Ground.phase }, { on := 2, ground := Ground.phase }, { on := 3, ground := Ground.phase }, { on := 4, ground := Ground.phase }, { on := 5, ground := Ground.phase }, { on := 6, ground := Ground.phase }, { on := 7, ground := Ground.phase }]).op, none⟩
 ] (by kernel_rfl)))
 (.live [2] .ret))
 (.seq (.live [1, 4, 15] (.region 4 [
 ⟨(opBin (some 16) .eql 3 (.tmp 4) (.const (Value.int IntKind.i64 1)) 3 4 "ref.go:15" #[]).op, none⟩,
 ⟨(opAssign (some 15) (.tmp 16) 4 "ref.go:15" #[{ on := 0, ground := Ground.data }]).op, none⟩
 ] (by kernel_rfl)))
 (.cond (.tmp 15)
 (.seq (.live [2] (.region 5 [
 ⟨(opFieldAddr (some 17) 24 (.tmp 1) 2 2 1 false fl24_2 (by decide) 0 "ref.go:16" #[]).op, none⟩,
 ⟨(opLoadT (.one .str) (some 18) 9 (.tmp 17) .string Tryd.underlying9 1 sz9 (by kernel_rfl) 9 "ref.go:16" #[{ on := 0, ground := Ground.data }]).op, none⟩,
 ⟨(opBinS (some 19) .eql 9 (.tmp 18) (.const (Value.string { data := #[] })) 9 4 "ref.go:16" #[{ on := 1, ground := Ground.data }]).op, none⟩,
 ⟨(opAssign (some 2) (.tmp 19) 4 "ref.go:16" #[{ on := 2, ground := Ground.data }, { on := 0, ground := Ground.phase }, { on := 1, ground := Ground.phase }, { on := 2, ground := Ground.phase }]).op, none⟩
 ] (by kernel_rfl)))
 (.live [2] .ret))
 (.seq (.live [1, 4, 20] (.region 6 [
 ⟨(opBin (some 21) .eql 3 (.tmp 4) (.const (Value.int IntKind.i64 2)) 3 4 "ref.go:17" #[]).op, none⟩,
 ⟨(opAssign (some 20) (.tmp 21) 4 "ref.go:17" #[{ on := 0, ground := Ground.data }]).op, none⟩
 ] (by kernel_rfl)))
 (.cond (.tmp 20)
 (.seq (.live [2] (.region 7 [
 ⟨(opFieldAddr (some 22) 24 (.tmp 1) 1 1 1 false fl24_1 (by decide) 0 "ref.go:18" #[]).op, none⟩,
 ⟨(opLoadT (.one (.int .i64)) (some 23) 3 (.tmp 22) (.int .i64) Tryd.underlying3 1 sz3 (by kernel_rfl) 3 "ref.go:18" #[{ on := 0, ground := Ground.data }]).op, none⟩,
 ⟨(opBin (some 24) .eql 3 (.tmp 23) (.const (Value.int IntKind.i64 0)) 3 4 "ref.go:18" #[{ on := 1, ground := Ground.data }]).op, none⟩,
 ⟨(opMove (some 25) (.tmp 24) 4 "ref.go:18" #[{ on := 2, ground := Ground.data }]).op, none⟩,
 ⟨(opFieldAddr (some 26) 24 (.tmp 1) 1 1 1 false fl24_1 (by decide) 0 "ref.go:18" #[{ on := 3, ground := Ground.guard }]).op, (some (3, 25, false))⟩,
 ⟨(opLoadT (.one (.int .i64)) (some 27) 3 (.tmp 26) (.int .i64) Tryd.underlying3 1 sz3 (by kernel_rfl) 3 "ref.go:18" #[{ on := 4, ground := Ground.data }, { on := 3, ground := Ground.guard }]).op, (some (3, 25, false))⟩,
 ⟨(opBin (some 28) .eql 3 (.tmp 27) (.const (Value.int IntKind.i64 1)) 3 4 "ref.go:18" #[{ on := 5, ground := Ground.data }, { on := 3, ground := Ground.guard }]).op, (some (3, 25, false))⟩,
 ⟨(opPick (some 29) (.tmp 25) (.const (Value.bool true)) (.tmp 28) 4 "ref.go:18" #[{ on := 3, ground := Ground.data }, { on := 6, ground := Ground.data }]).op, none⟩,
 ⟨(opMove (some 30) (.tmp 29) 4 "ref.go:18" #[{ on := 7, ground := Ground.data }, { on := 3, ground := Ground.chain }]).op, none⟩,
 ⟨(opFieldAddr (some 31) 24 (.tmp 1) 2 2 1 false fl24_2 (by decide) 0 "ref.go:18" #[{ on := 8, ground := Ground.guard }]).op, (some (8, 30, true))⟩,
 ⟨(opLoadT (.one .str) (some 32) 9 (.tmp 31) .string Tryd.underlying9 1 sz9 (by kernel_rfl) 9 "ref.go:18" #[{ on := 9, ground := Ground.data }, { on := 8, ground := Ground.guard }]).op, (some (8, 30, true))⟩,
 ⟨(opBinS (some 33) .eql 9 (.tmp 32) (.const (Value.string { data := #[] })) 9 4 "ref.go:18" #[{ on := 10, ground := Ground.data }, { on := 8, ground := Ground.guard }]).op, (some (8, 30, true))⟩,
 ⟨(opPick (some 34) (.tmp 30) (.tmp 33) (.const (Value.bool false)) 4 "ref.go:18" #[{ on := 8, ground := Ground.data }, { on := 11, ground := Ground.data }]).op, none⟩,
 ⟨(opAssign (some 2) (.tmp 34) 4 "ref.go:18" #[{ on := 12, ground := Ground.data }, { on := 8, ground := Ground.chain }, { on := 0, ground := Ground.phase }, { on := 1, ground := Ground.phase }, { on := 2, ground := Ground.phase }, { on := 3, ground := Ground.phase }, { on := 4, ground := Ground.phase }, { on := 5, ground := Ground.phase }, { on := 6, ground := Ground.phase }, { on := 7, ground := Ground.phase }, { on := 8, ground := Ground.phase }, { on := 9, ground := Ground.phase }, { on := 10, ground := Ground.phase }, { on := 11, ground := Ground.phase }, { on := 12, ground := Ground.phase }]).op, none⟩
 ] (by kernel_rfl)))
 (.live [2] .ret))
 (.seq (.live [1, 35] (.region 8 [
 ⟨(opBin (some 36) .eql 3 (.tmp 4) (.const (Value.int IntKind.i64 3)) 3 4 "ref.go:19" #[]).op, none⟩,
 ⟨(opAssign (some 35) (.tmp 36) 4 "ref.go:19" #[{ on := 0, ground := Ground.data }]).op, none⟩
 ] (by kernel_rfl)))
 (.cond (.tmp 35)
 (.seq (.live [2] (.region 9 [
 ⟨(opFieldAddr (some 37) 24 (.tmp 1) 1 1 1 false fl24_1 (by decide) 0 "ref.go:20" #[]).op, none⟩,
 ⟨(opLoadT (.one (.int .i64)) (some 38) 3 (.tmp 37) (.int .i64) Tryd.underlying3 1 sz3 (by kernel_rfl) 3 "ref.go:20" #[{ on := 0, ground := Ground.data }]).op, none⟩,
 ⟨(opBin (some 39) .eql 3 (.tmp 38) (.const (Value.int IntKind.i64 0)) 3 4 "ref.go:20" #[{ on := 1, ground := Ground.data }]).op, none⟩,
 ⟨(opMove (some 40) (.tmp 39) 4 "ref.go:20" #[{ on := 2, ground := Ground.data }]).op, none⟩,
 ⟨(opFieldAddr (some 41) 24 (.tmp 1) 2 2 1 false fl24_2 (by decide) 0 "ref.go:20" #[{ on := 3, ground := Ground.guard }]).op, (some (3, 40, true))⟩,
 ⟨(opLoadT (.one .str) (some 42) 9 (.tmp 41) .string Tryd.underlying9 1 sz9 (by kernel_rfl) 9 "ref.go:20" #[{ on := 4, ground := Ground.data }, { on := 3, ground := Ground.guard }]).op, (some (3, 40, true))⟩,
 ⟨(opLen (some 43) (.tmp 42) 9 .string Tryd.underlying9 3 "ref.go:20" #[{ on := 5, ground := Ground.data }, { on := 3, ground := Ground.guard }]).op, (some (3, 40, true))⟩,
 ⟨(opBin (some 44) .leq 3 (.tmp 43) (.const (Value.int IntKind.i64 16)) 3 4 "ref.go:20" #[{ on := 6, ground := Ground.data }, { on := 3, ground := Ground.guard }]).op, (some (3, 40, true))⟩,
 ⟨(opPick (some 45) (.tmp 40) (.tmp 44) (.const (Value.bool false)) 4 "ref.go:20" #[{ on := 3, ground := Ground.data }, { on := 7, ground := Ground.data }]).op, none⟩,
 ⟨(opAssign (some 2) (.tmp 45) 4 "ref.go:20" #[{ on := 8, ground := Ground.data }, { on := 3, ground := Ground.chain }, { on := 0, ground := Ground.phase }, { on := 1, ground := Ground.phase }, { on := 2, ground := Ground.phase }, { on := 3, ground := Ground.phase }, { on := 4, ground := Ground.phase }, { on := 5, ground := Ground.phase }, { on := 6, ground := Ground.phase }, { on := 7, ground := Ground.phase }, { on := 8, ground := Ground.phase }]).op, none⟩
 ] (by kernel_rfl)))
 (.live [2] .ret))
 .skip))))))))))
 (.seq (.live [2] (.region 10 [
 ⟨(opAssign (some 2) (.const (Value.bool false)) 4 "ref.go:22" #[]).op, none⟩
 ] (by kernel_rfl)))
 (.live [2] .ret))))

noncomputable def f20 : Fun Tryd.prog where
 id := 20
 fn := Tryd.f20
 hf := Tryd.func20
 hname := by kernel_rfl
 body := f20_b
 hbody := by kernel_rfl
 res := [rTmp 2]
 hres := by kernel_rfl
 n := 46
 hn := by kernel_rfl

/-! ### 39: interlock/interlockref04.cmp (3, 3); results 4; slots: 0 a, 1 b, 2 a, 3 b -/
noncomputable def f39_b : Sim Tryd.prog :=
 (.seq (.live [0, 1] (.region 0 [
 ⟨(opAssign (some 4) (.const (Value.int IntKind.i64 0)) 3 "ref.go:38" #[]).op, none⟩
 ] (by kernel_rfl)))
 (.seq (.seq (.live [0, 1, 7] (.region 1 [
 ⟨(opMove (some 5) (.tmp 0) 3 "ref.go:39" #[]).op, none⟩,
 ⟨(opMove (some 6) (.tmp 1) 3 "ref.go:39" #[]).op, none⟩,
 ⟨(opBin (some 7) .lss 3 (.tmp 5) (.tmp 6) 3 4 "ref.go:39" #[{ on := 0, ground := Ground.data }, { on := 1, ground := Ground.data }]).op, none⟩
 ] (by kernel_rfl)))
 (.cond (.tmp 7)
 (.seq (.live [4] (.region 2 [
 ⟨(opAssign (some 4) (.const (Value.int IntKind.i64 (-1))) 3 "ref.go:40" #[]).op, none⟩
 ] (by kernel_rfl)))
 (.live [4] .ret))
 .skip))
 (.seq (.seq (.live [10] (.region 3 [
 ⟨(opMove (some 8) (.tmp 0) 3 "ref.go:42" #[]).op, none⟩,
 ⟨(opMove (some 9) (.tmp 1) 3 "ref.go:42" #[]).op, none⟩,
 ⟨(opBin (some 10) .gtr 3 (.tmp 8) (.tmp 9) 3 4 "ref.go:42" #[{ on := 0, ground := Ground.data }, { on := 1, ground := Ground.data }]).op, none⟩
 ] (by kernel_rfl)))
 (.cond (.tmp 10)
 (.seq (.live [4] (.region 4 [
 ⟨(opAssign (some 4) (.const (Value.int IntKind.i64 1)) 3 "ref.go:43" #[]).op, none⟩
 ] (by kernel_rfl)))
 (.live [4] .ret))
 .skip))
 (.seq (.live [4] (.region 5 [
 ⟨(opAssign (some 4) (.const (Value.int IntKind.i64 0)) 3 "ref.go:45" #[]).op, none⟩
 ] (by kernel_rfl)))
 (.live [4] .ret)))))

noncomputable def f39 : Fun Tryd.prog where
 id := 39
 fn := Tryd.f39
 hf := Tryd.func39
 hname := by kernel_rfl
 body := f39_b
 hbody := by kernel_rfl
 res := [rTmp 4]
 hres := by kernel_rfl
 n := 11
 hn := by kernel_rfl

end Go.Proofs.YtcfedmheblbdnaaDoor.V

/- What the functions' runs come to; the right sides were printed by a tool, Lean checks them. -/
set_option linter.unusedVariables false
set_option maxRecDepth 100000
namespace Go.Proofs.YtcfedmheblbdnaaDoor.V
open Go Go.V Go.RowKit

theorem rright_run (F : Nat) (v : Va) (st : St) :
 (f20.run F [v.av] st : Ans) =
 branch (AV.bool (v.k == (0 : Int)))
 (branch (AV.bool (v.n == (0 : Int))) (some (Fin.ret (AV.bool (v.s.toList == [])), st))
 (some (Fin.ret (AV.bool false), st)))
 (branch (AV.bool (v.k == (1 : Int))) (some (Fin.ret (AV.bool (v.s.toList == [])), st))
 (branch (AV.bool (v.k == (2 : Int)))
 (branch (AV.bool (v.n == (0 : Int))) (some (Fin.ret (AV.bool (v.s.toList == [])), st))
 (branch (AV.bool (v.n == (1 : Int))) (some (Fin.ret (AV.bool (v.s.toList == [])), st))
 (some (Fin.ret (AV.bool false), st))))
 (branch (AV.bool (v.k == (3 : Int)))
 (branch (AV.bool (v.n == (0 : Int))) (some (Fin.ret (AV.bool (decide ((↑v.s.size : Int) ≤ (16 : Int)))), st))
 (some (Fin.ret (AV.bool false), st)))
 (some (Fin.ret (AV.bool false), st))))) := by kernel_rfl

theorem rcmp_run (F : Nat) (a b : Int) (st : St) :
 (f39.run F [.int .i64 a, .int .i64 b] st : Ans) =
 branch (AV.bool (decide (a < b))) (some (Fin.ret (AV.int IntKind.i64 (-1 : Int)), st))
 (branch (AV.bool (decide (a > b))) (some (Fin.ret (AV.int IntKind.i64 (1 : Int)), st))
 (some (Fin.ret (AV.int IntKind.i64 (0 : Int)), st))) := by kernel_rfl

end Go.Proofs.YtcfedmheblbdnaaDoor.V

/- Values: the reference's Right and comparison of numbers, as callees. -/
set_option linter.unusedVariables false
namespace Go.Proofs.YtcfedmheblbdnaaDoor.V
open Go Go.V Go.RowKit

theorem rright_eq {F : Nat} (v : Va) (st : St) : f20.run F [v.av] st = some (.ret (.bool (rightV v)), st) := by
  rw [rright_run]
  simp only [rightV]
  cases h0 : v.k == 0
  · cases h1 : v.k == 1
    · cases h2 : v.k == 2
      · cases h3 : v.k == 3
        · rfl
        · cases v.n == 0 <;> rfl
      · cases v.s.toList == [] <;> cases v.n == 0 <;> cases v.n == 1 <;> rfl
    · rfl
  · cases v.n == 0 <;> rfl
noncomputable def p20 : POrc Tryd.prog := f20.pureIf dec1v (fun v => [v.av]) dec1v_enc (fun _ => true) (fun v => .bool (rightV v)) (fun _ _ => ⟨rfl, fun _ _ => trivial⟩) fun v _ => ⟨0, fun st => rright_eq v st⟩
theorem p20_nat : p20.Nat := pureIf_nat
noncomputable def p39 : POrc Tryd.prog := f39.pureIf dec2i (fun a => [.int .i64 a.1, .int .i64 a.2]) dec2i_enc (fun _ => true) (fun a => .int .i64 (cmpI a.1 a.2)) (fun _ _ => ⟨rfl, fun _ _ => trivial⟩) fun a _ => ⟨0, fun st => by
  obtain ⟨a, b⟩ := a
  show f39.run 0 [.int .i64 a, .int .i64 b] st = _
  rw [rcmp_run]
  simp only [cmpI, gt_iff_lt]
  cases decide (a < b) <;> cases decide (b < a) <;> rfl⟩
theorem p39_nat : p39.Nat := pureIf_nat
end Go.Proofs.YtcfedmheblbdnaaDoor.V

/- The functions' pieces, as told by gen.py. -/
set_option linter.unusedVariables false
set_option maxRecDepth 20000
namespace Go.Proofs.YtcfedmheblbdnaaDoor.V
open Go Go.V Go.RowKit


/-! ### 40: interlock/interlockref04.Texts (9, 9); results 4; slots: 0 a, 1 b, 2 a, 3 b, 5 i -/
/-- A loop's round; at its head live: 0 a, 1 b, 5 i -/
noncomputable def f40_l0 : Sim Tryd.prog :=
 (.seq (.seq (.live [0, 1, 5, 15] (.region 2 [
 ⟨(opMove (some 6) (.tmp 5) 3 "ref.go:50" #[]).op, none⟩,
 ⟨(opMove (some 7) (.tmp 0) 9 "ref.go:50" #[]).op, none⟩,
 ⟨(opLen (some 8) (.tmp 7) 9 .string Tryd.underlying9 3 "ref.go:50" #[{ on := 1, ground := Ground.data }]).op, none⟩,
 ⟨(opBin (some 9) .lss 3 (.tmp 6) (.tmp 8) 3 4 "ref.go:50" #[{ on := 0, ground := Ground.data }, { on := 2, ground := Ground.data }]).op, none⟩,
 ⟨(opMove (some 10) (.tmp 9) 4 "ref.go:50" #[{ on := 3, ground := Ground.data }]).op, none⟩,
 ⟨(opMove (some 11) (.tmp 5) 3 "ref.go:50" #[{ on := 4, ground := Ground.guard }]).op, (some (4, 10, true))⟩,
 ⟨(opMove (some 12) (.tmp 1) 9 "ref.go:50" #[{ on := 4, ground := Ground.guard }]).op, (some (4, 10, true))⟩,
 ⟨(opLen (some 13) (.tmp 12) 9 .string Tryd.underlying9 3 "ref.go:50" #[{ on := 6, ground := Ground.data }, { on := 4, ground := Ground.guard }]).op, (some (4, 10, true))⟩,
 ⟨(opBin (some 14) .lss 3 (.tmp 11) (.tmp 13) 3 4 "ref.go:50" #[{ on := 5, ground := Ground.data }, { on := 7, ground := Ground.data }, { on := 4, ground := Ground.guard }]).op, (some (4, 10, true))⟩,
 ⟨(opPick (some 15) (.tmp 10) (.tmp 14) (.const (Value.bool false)) 4 "ref.go:50" #[{ on := 4, ground := Ground.data }, { on := 8, ground := Ground.data }]).op, none⟩
 ] (by kernel_rfl)))
 (.cond (.tmp 15)
 .skip
 (.live [0, 1] (.exit 0))))
 (.seq (.block 1 (.seq (.live [0, 1, 5, 24] (.draw 4 [
 ⟨.p (opMove (some 18) (.tmp 0) 9 "ref.go:51" #[]), none⟩,
 ⟨.p (opMove (some 19) (.tmp 5) 3 "ref.go:51" #[]), none⟩,
 ⟨.pn (opIndexStrW (some 20) 9 (.tmp 18) (.tmp 19) Tryd.underlying9 5 "ref.go:51" #[{ on := 0, ground := Ground.data }, { on := 1, ground := Ground.data }]) opIndexStrW_nat, none⟩,
 ⟨.p (opMove (some 21) (.tmp 1) 9 "ref.go:51" #[]), none⟩,
 ⟨.p (opMove (some 22) (.tmp 5) 3 "ref.go:51" #[]), none⟩,
 ⟨.pn (opIndexStrW (some 23) 9 (.tmp 21) (.tmp 22) Tryd.underlying9 5 "ref.go:51" #[{ on := 3, ground := Ground.data }, { on := 4, ground := Ground.data }]) opIndexStrW_nat, none⟩,
 ⟨.pn (opBin (some 24) .neq 5 (.tmp 20) (.tmp 23) 5 4 "ref.go:51" #[{ on := 2, ground := Ground.data }, { on := 5, ground := Ground.data }]) opBin_nat, none⟩
 ] mixed (by kernel_rfl)))
 (.cond (.tmp 24)
 (.seq (.live [4] (.draw 5 [
 ⟨.p (opMove (some 25) (.tmp 0) 9 "ref.go:52" #[]), none⟩,
 ⟨.p (opMove (some 26) (.tmp 5) 3 "ref.go:52" #[]), none⟩,
 ⟨.pn (opIndexStrW (some 27) 9 (.tmp 25) (.tmp 26) Tryd.underlying9 5 "ref.go:52" #[{ on := 0, ground := Ground.data }, { on := 1, ground := Ground.data }]) opIndexStrW_nat, none⟩,
 ⟨.pn (opConvInt (some 28) 5 3 (.tmp 27) (.int .u8) Tryd.underlying5 .i64 Tryd.underlying3 3 "ref.go:52" #[{ on := 2, ground := Ground.data }]) opConvInt_nat, none⟩,
 ⟨.p (opMove (some 29) (.tmp 1) 9 "ref.go:52" #[]), none⟩,
 ⟨.p (opMove (some 30) (.tmp 5) 3 "ref.go:52" #[]), none⟩,
 ⟨.pn (opIndexStrW (some 31) 9 (.tmp 29) (.tmp 30) Tryd.underlying9 5 "ref.go:52" #[{ on := 4, ground := Ground.data }, { on := 5, ground := Ground.data }]) opIndexStrW_nat, none⟩,
 ⟨.pn (opConvInt (some 32) 5 3 (.tmp 31) (.int .u8) Tryd.underlying5 .i64 Tryd.underlying3 3 "ref.go:52" #[{ on := 6, ground := Ground.data }]) opConvInt_nat, none⟩,
 ⟨.pn (opCallP p39 (some 33) [(.tmp 28), (.tmp 32)] #[3, 3] 3 "ref.go:52" #[{ on := 3, ground := Ground.data }, { on := 7, ground := Ground.data }]) (opCallP_nat p39_nat), none⟩,
 ⟨.p (opAssign (some 4) (.tmp 33) 3 "ref.go:52" #[{ on := 8, ground := Ground.data }, { on := 8, ground := Ground.chain }, { on := 0, ground := Ground.phase }, { on := 1, ground := Ground.phase }, { on := 2, ground := Ground.phase }, { on := 3, ground := Ground.phase }, { on := 4, ground := Ground.phase }, { on := 5, ground := Ground.phase }, { on := 6, ground := Ground.phase }, { on := 7, ground := Ground.phase }, { on := 8, ground := Ground.phase }]), none⟩
 ] mixed (by kernel_rfl)))
 (.live [4] .ret))
 .skip)))
 (.live [0, 1, 5] (.region 3 [
 ⟨(opMove (some 16) (.tmp 5) 3 "ref.go:50" #[]).op, none⟩,
 ⟨(opBin (some 17) .add 3 (.tmp 16) (.const (Value.int IntKind.i64 1)) 3 3 "ref.go:50" #[{ on := 0, ground := Ground.data }]).op, none⟩,
 ⟨(opAssign (some 5) (.tmp 17) 3 "ref.go:50" #[{ on := 1, ground := Ground.data }, { on := 0, ground := Ground.phase }, { on := 1, ground := Ground.phase }]).op, none⟩
 ] (by kernel_rfl)))))

/-- What follows a loop. -/
noncomputable def f40_r0 : Sim Tryd.prog :=
 (.seq (.live [4] (.region 6 [
 ⟨(opMove (some 34) (.tmp 0) 9 "ref.go:55" #[]).op, none⟩,
 ⟨(opLen (some 35) (.tmp 34) 9 .string Tryd.underlying9 3 "ref.go:55" #[{ on := 0, ground := Ground.data }]).op, none⟩,
 ⟨(opMove (some 36) (.tmp 1) 9 "ref.go:55" #[]).op, none⟩,
 ⟨(opLen (some 37) (.tmp 36) 9 .string Tryd.underlying9 3 "ref.go:55" #[{ on := 2, ground := Ground.data }]).op, none⟩,
 ⟨(opCallP p39 (some 38) [(.tmp 35), (.tmp 37)] #[3, 3] 3 "ref.go:55" #[{ on := 1, ground := Ground.data }, { on := 3, ground := Ground.data }]).op, none⟩,
 ⟨(opAssign (some 4) (.tmp 38) 3 "ref.go:55" #[{ on := 4, ground := Ground.data }, { on := 4, ground := Ground.chain }, { on := 0, ground := Ground.phase }, { on := 1, ground := Ground.phase }, { on := 2, ground := Ground.phase }, { on := 3, ground := Ground.phase }, { on := 4, ground := Ground.phase }]).op, none⟩
 ] (by kernel_rfl)))
 (.live [4] .ret))

noncomputable def f40_b : Sim Tryd.prog :=
 (.seq (.live [0, 1] (.region 0 [
 ⟨(opAssign (some 4) (.const (Value.int IntKind.i64 0)) 3 "ref.go:49" #[]).op, none⟩
 ] (by kernel_rfl)))
 (.seq (.seq (.live [0, 1, 5] (.region 1 [
 ⟨(opAssign (some 5) (.const (Value.int IntKind.i64 0)) 3 "ref.go:50" #[]).op, none⟩
 ] (by kernel_rfl)))
 (.block 0 (.loop [0, 1, 5] f40_l0)))
 f40_r0))

noncomputable def f40 : Fun Tryd.prog where
 id := 40
 fn := Tryd.f40
 hf := Tryd.func40
 hname := by kernel_rfl
 body := f40_b
 hbody := by kernel_rfl
 res := [rTmp 4]
 hres := by kernel_rfl
 n := 39
 hn := by kernel_rfl

/-! ### 23: interlock/interlockref04.Fits (24, 32); results 4; slots: 0 v, 1 c, 2 v, 3 c -/
noncomputable def f23_b : Sim Tryd.prog :=
 (.seq (.live [2, 3] (.region 0 [
 ⟨(opBoxF (some 2) 24 (.tmp 0) 0 "ref.go:89" #[]).op, none⟩,
 ⟨(opBoxF (some 3) 32 (.tmp 1) 0 "ref.go:89" #[]).op, none⟩,
 ⟨(opAssign (some 4) (.const (Value.int IntKind.i64 0)) 33 "ref.go:89" #[]).op, none⟩
 ] (by kernel_rfl)))
 (.seq (.seq (.live [2, 3, 7] (.region 1 [
 ⟨(opLoadT (.agg [(.int .i64), (.int .i64), .str]) (some 5) 24 (.tmp 2) d24 ud24 3 sz24 (by kernel_rfl) 24 "ref.go:90" #[]).op, none⟩,
 ⟨(opCallP p20 (some 6) [(.tmp 5)] #[24] 4 "ref.go:90" #[{ on := 0, ground := Ground.data }]).op, none⟩,
 ⟨(opNot (some 7) 4 (.tmp 6) 4 "ref.go:90" #[{ on := 1, ground := Ground.data }]).op, none⟩
 ] (by kernel_rfl)))
 (.cond (.tmp 7)
 (.seq (.live [4] (.region 2 [
 ⟨(opAssign (some 4) (.const (Value.int IntKind.i64 10)) 33 "ref.go:91" #[]).op, none⟩
 ] (by kernel_rfl)))
 (.live [4] .ret))
 .skip))
 (.seq (.seq (.live [2, 3, 10] (.region 3 [
 ⟨(opFieldAddr (some 8) 24 (.tmp 2) 0 0 1 false fl24_0 (by decide) 0 "ref.go:93" #[]).op, none⟩,
 ⟨(opLoadT (.one (.int .i64)) (some 9) 3 (.tmp 8) (.int .i64) Tryd.underlying3 1 sz3 (by kernel_rfl) 3 "ref.go:93" #[{ on := 0, ground := Ground.data }]).op, none⟩,
 ⟨(opBin (some 10) .eql 3 (.tmp 9) (.const (Value.int IntKind.i64 0)) 3 4 "ref.go:93" #[{ on := 1, ground := Ground.data }]).op, none⟩
 ] (by kernel_rfl)))
 (.cond (.tmp 10)
 (.seq (.seq (.live [12] (.region 4 [
 ⟨(opFieldAddr (some 11) 32 (.tmp 3) 2 2 1 false fl32_2 (by decide) 0 "ref.go:94" #[]).op, none⟩,
 ⟨(opLoadT (.one .bool) (some 12) 4 (.tmp 11) .bool Tryd.underlying4 1 sz4 (by kernel_rfl) 4 "ref.go:94" #[{ on := 0, ground := Ground.data }]).op, none⟩
 ] (by kernel_rfl)))
 (.cond (.tmp 12)
 (.seq (.live [4] (.region 5 [
 ⟨(opAssign (some 4) (.const (Value.int IntKind.i64 16)) 33 "ref.go:95" #[]).op, none⟩
 ] (by kernel_rfl)))
 (.live [4] .ret))
 .skip))
 (.seq (.live [4] (.region 6 [
 ⟨(opAssign (some 4) (.const (Value.int IntKind.i64 0)) 33 "ref.go:97" #[]).op, none⟩
 ] (by kernel_rfl)))
 (.live [4] .ret)))
 .skip))
 (.seq (.seq (.live [17] (.region 7 [
 ⟨(opFieldAddr (some 13) 24 (.tmp 2) 0 0 1 false fl24_0 (by decide) 0 "ref.go:99" #[]).op, none⟩,
 ⟨(opLoadT (.one (.int .i64)) (some 14) 3 (.tmp 13) (.int .i64) Tryd.underlying3 1 sz3 (by kernel_rfl) 3 "ref.go:99" #[{ on := 0, ground := Ground.data }]).op, none⟩,
 ⟨(opFieldAddr (some 15) 32 (.tmp 3) 1 1 1 false fl32_1 (by decide) 0 "ref.go:99" #[]).op, none⟩,
 ⟨(opLoadT (.one (.int .i64)) (some 16) 3 (.tmp 15) (.int .i64) Tryd.underlying3 1 sz3 (by kernel_rfl) 3 "ref.go:99" #[{ on := 2, ground := Ground.data }]).op, none⟩,
 ⟨(opBin (some 17) .neq 3 (.tmp 14) (.tmp 16) 3 4 "ref.go:99" #[{ on := 1, ground := Ground.data }, { on := 3, ground := Ground.data }]).op, none⟩
 ] (by kernel_rfl)))
 (.cond (.tmp 17)
 (.seq (.live [4] (.region 8 [
 ⟨(opAssign (some 4) (.const (Value.int IntKind.i64 14)) 33 "ref.go:100" #[]).op, none⟩
 ] (by kernel_rfl)))
 (.live [4] .ret))
 .skip))
 (.seq (.live [4] (.region 9 [
 ⟨(opAssign (some 4) (.const (Value.int IntKind.i64 0)) 33 "ref.go:102" #[]).op, none⟩
 ] (by kernel_rfl)))
 (.live [4] .ret))))))

noncomputable def f23 : Fun Tryd.prog where
 id := 23
 fn := Tryd.f23
 hf := Tryd.func23
 hname := by kernel_rfl
 body := f23_b
 hbody := by kernel_rfl
 res := [rTmp 4]
 hres := by kernel_rfl
 n := 18
 hn := by kernel_rfl

end Go.Proofs.YtcfedmheblbdnaaDoor.V

/- What the functions' runs come to; the right sides were printed by a tool, Lean checks them. -/
set_option linter.unusedVariables false
set_option maxRecDepth 100000
namespace Go.Proofs.YtcfedmheblbdnaaDoor.V
open Go Go.V Go.RowKit

theorem rfits_run (F : Nat) (v : Va) (nm : ByteArray) (k : Int) (nn : Bool) (st : St) :
 (f23.run F [v.av, .agg [.str nm, .int .i64 k, .bool nn]] st : Ans) =
 branch (AV.bool !rightV (Va.mk (hdI v.cells) (hdI v.cells.tail) (hdS v.cells.tail.tail)))
 (some (Fin.ret (AV.int IntKind.i64 (10 : Int)), st))
 (branch (AV.bool (v.k == (0 : Int)))
 (branch (AV.bool nn) (some (Fin.ret (AV.int IntKind.i64 (16 : Int)), st))
 (some (Fin.ret (AV.int IntKind.i64 (0 : Int)), st)))
 (branch (AV.bool (v.k != k)) (some (Fin.ret (AV.int IntKind.i64 (14 : Int)), st))
 (some (Fin.ret (AV.int IntKind.i64 (0 : Int)), st)))) := by kernel_rfl

theorem tx_run (F : Nat) (s t : ByteArray) (st : St) :
 (f40.run F [.str s, .str t] st : Ans) =
 loopRun (f40_l0.run F) [0, 1, 5]
 (Cont.block 0 (Cont.then (f40_r0.run F (f40.leaveK Fun.done)) (f40.leaveK Fun.done))) F
 (Env.mk 39 [(0, AV.str s), (1, AV.str t), (5, AV.int IntKind.i64 (0 : Int))]) st := by kernel_rfl

theorem tx_round (F m : Nat) (K : Cont) (s t : ByteArray) (i : Int) (st : St) :
 (loopRun (f40_l0.run F) [0, 1, 5] K m.succ (Env.mk 39 [(0, .str s), (1, .str t), (5, .int .i64 i)]) st : Ans) =
 branch (AV.bool (decide (i < (↑s.size : Int))))
 (branch (AV.bool (decide (i < (↑t.size : Int))))
 (branch (AV.bool (inT s i))
 (branch (AV.bool (inT t i))
 (branch (AV.bool (atT s i != atT t i))
 (branch (AV.bool (inT s i))
 (branch (AV.bool (inT t i))
 (K AX.ret
 (Env.mk 39
 [(4, AV.int IntKind.i64 (cmpI (IntKind.i64.wrap (atT s i)) (IntKind.i64.wrap (atT t i))))])
 st)
 none)
 none)
 (loopRun (f40_l0.run F) [0, 1, 5] K m
 (Env.mk 39
 [(0, AV.str s), (1, AV.str t),
 (5, AV.int IntKind.i64 (IntKind.i64.wrap (i + (1 : Int))))])
 st))
 none)
 none)
 (K (AX.exit 0) (Env.mk 39 [(0, AV.str s), (1, AV.str t)]) st))
 (K (AX.exit 0) (Env.mk 39 [(0, AV.str s), (1, AV.str t)]) st) := by kernel_rfl

theorem tx_out (F : Nat) (s t : ByteArray) (st : St) :
 ((Cont.block 0 (Cont.then (f40_r0.run F (f40.leaveK Fun.done)) (f40.leaveK Fun.done))) (.exit 0) (Env.mk 39 [(0, .str s), (1, .str t)]) st : Ans) =
 some (Fin.ret (AV.int IntKind.i64 (cmpI (↑s.size : Int) (↑t.size : Int))), st) := by kernel_rfl

theorem tx_ret (F : Nat) (n : Int) (st : St) :
 ((Cont.block 0 (Cont.then (f40_r0.run F (f40.leaveK Fun.done)) (f40.leaveK Fun.done))) .ret (Env.mk 39 [(4, .int .i64 n)]) st : Ans) =
 some (Fin.ret (AV.int IntKind.i64 n), st) := by kernel_rfl

end Go.Proofs.YtcfedmheblbdnaaDoor.V

/- Values: the reference's comparison of texts, and both sides' Fits, as callees. -/
set_option linter.unusedVariables false
namespace Go.Proofs.YtcfedmheblbdnaaDoor.V
open Go Go.V Go.RowKit

def cmpN (x y : Nat) : Int := cmpI (x : Int) (y : Int)
theorem lexL_map {α β : Type} {c : β → β → Int} (f : α → β) : ∀ l r : List α, lexL c (l.map f) (r.map f) = lexL (fun x y => c (f x) (f y)) l r
  | [], [] => rfl
  | [], _ :: _ => rfl
  | _ :: _, [] => rfl
  | x :: l, y :: r => by
    have ih := lexL_map (c := c) f l r
    simp only [List.map_cons, lexL, ih]
theorem cmpS_lex (s t : ByteArray) : cmpS s t = lexL cmpN (strL s) (strL t) := by
  show cmpB s.toList t.toList = _
  rw [cmpB_lex, strL, strL, lexL_map, ByteArray.toList_eq, ByteArray.toList_eq]; rfl
theorem cmpI_self (a : Int) : cmpI a a = 0 := lin_int.self a
theorem tx_all (F : Nat) (s t : ByteArray) (st : St) (hs : s.size ≤ 100000) : ∀ (k i m : Nat), i + k = s.size → i ≤ t.size → k < m →
    loopRun (f40_l0.run F) [0, 1, 5] (Cont.block 0 (Cont.then (f40_r0.run F (f40.leaveK Fun.done)) (f40.leaveK Fun.done))) m (Env.mk 39 [(0, .str s), (1, .str t), (5, .int .i64 (i : Nat))]) st
      = some (.ret (.int .i64 (lexL cmpN ((strL s).drop i) ((strL t).drop i))), st)
  | k, i, 0, _, _, h => by omega
  | 0, i, m + 1, h1, h2, h3 => by
    have e1 : (strL s).drop i = [] := List.drop_eq_nil_of_le (by rw [← strL_size]; omega)
    rw [show m + 1 = m.succ from rfl, tx_round, branch_not (decide_eq_false (by omega)), tx_out, e1, show (s.size : Int) = (i : Nat) by omega]
    by_cases hc : i < t.size
    · rw [lexL_nil_cons (by intro e; have := congrArg List.length e; rw [List.length_drop, ← strL_size, List.length_nil] at this; omega), show cmpI (i : Nat) (t.size : Int) = -1 by unfold cmpI; rw [decide_eq_true (by omega)]; rfl]
    · rw [show (strL t).drop i = [] from List.drop_eq_nil_of_le (by rw [← strL_size]; omega), show (t.size : Int) = (i : Nat) by omega, cmpI_self]; rfl
  | k + 1, i, m + 1, h1, h2, h3 => by
    have hi : i < (strL s).length := by rw [← strL_size]; omega
    have is : inT s (i : Nat) = true := inT_iff.mpr ⟨by omega, by simpa using hi⟩
    have asq : atT s (i : Nat) = ((strL s)[i] : Nat) := by rw [atT, opq_eq]; simp [List.getElem?_eq_getElem hi]
    rw [show m + 1 = m.succ from rfl, tx_round, branch_of (decide_eq_true (by omega))]
    by_cases hc : i < t.size
    · have hj : i < (strL t).length := by rw [← strL_size]; omega
      have it : inT t (i : Nat) = true := inT_iff.mpr ⟨by omega, by simpa using hj⟩
      have at' : atT t (i : Nat) = ((strL t)[i] : Nat) := by rw [atT, opq_eq]; simp [List.getElem?_eq_getElem hj]
      have ls := strL_lt s _ (List.getElem_mem hi)
      have lt' := strL_lt t _ (List.getElem_mem hj)
      rw [branch_of (decide_eq_true (by omega)), branch_of is, branch_of it, asq, at', List.drop_eq_getElem_cons hi, List.drop_eq_getElem_cons hj, lexL]
      by_cases he : (strL s)[i] = (strL t)[i]
      · rw [he, branch_not (by simp), show (cmpN (strL t)[i] (strL t)[i] != 0) = false by rw [cmpN, cmpI_self]; rfl, wrapS (by omega) (by omega), show ((i : Int) + 1) = ((i + 1 : Nat) : Int) by omega]
        exact tx_all F s t st hs k (i + 1) m (by omega) (by omega) (by omega)
      · have hn : ¬ (((strL s)[i] : Nat) : Int) = ((strL t)[i] : Nat) := by omega
        have hz : cmpN (strL s)[i] (strL t)[i] ≠ 0 := fun e => hn (lin_int.eq _ _ e)
        rw [branch_of (bne_iff_ne.mpr hn), branch_of is, branch_of it, tx_ret, show (cmpN (strL s)[i] (strL t)[i] != 0) = true by simpa using hz, wrapS (by omega) (by omega), wrapS (by omega) (by omega)]
        rfl
    · rw [branch_not (decide_eq_false (by omega)), tx_out, List.drop_eq_getElem_cons hi, show (strL t).drop i = [] from List.drop_eq_nil_of_le (by rw [← strL_size]; omega)]
      rw [show cmpI (s.size : Int) (t.size : Int) = 1 by unfold cmpI; rw [decide_eq_false (by omega), decide_eq_true (by omega)]; rfl]
      rfl
noncomputable def p40 : POrc Tryd.prog := f40.pureIf dec2s (fun a => [.str a.1, .str a.2]) dec2s_enc (fun a => cdec (a.1.size ≤ 100000)) (fun a => .int .i64 (cmpS a.1 a.2)) (fun _ _ => ⟨rfl, fun _ _ => trivial⟩) fun a h => ⟨100001, fun st => by
  have h := cdec_iff.mp h
  obtain ⟨s, t⟩ := a
  show f40.run 100001 [.str s, .str t] st = some (.ret (.int .i64 (cmpS s t)), st)
  rw [tx_run, cmpS_lex]
  exact tx_all 100001 s t st h s.size 0 100001 (by omega) (by omega) (by have : s.size ≤ 100000 := h; omega)⟩
/-- A column. -/
structure Co where
  nm : ByteArray
  k : Int
  nn : Bool
def Co.cells (c : Co) : List AV := [.str c.nm, .int .i64 c.k, .bool c.nn]
def Co.av (c : Co) : AV := .agg c.cells
def fitsV (v : Va) (c : Co) : Int := bif rightV v then bif v.k == 0 then bif c.nn then 16 else 0 else bif v.k == c.k then 0 else 14 else 10
def decCo : AV → Option Co
  | .agg [a, b, c] => match a with
    | .str nm => match b with
      | .int .i64 k => match c with
        | .bool nn => some ⟨nm, k, nn⟩
        | _ => none
      | _ => none
    | _ => none
  | _ => none
theorem decCo_some {x : AV} {c : Co} (h : decCo x = some c) : x = c.av := by
  unfold decCo at h
  split at h
  · split at h
    · split at h
      · split at h
        · cases h; rfl
        · cases h
      · cases h
    · cases h
  · cases h
def decVC : List AV → Option (Va × Co)
  | [x, y] => match decVa x with
    | some v => match decCo y with
      | some c => some (v, c)
      | none => none
    | none => none
  | _ => none
theorem decVC_enc : ∀ l a, decVC l = some a → l = [a.1.av, a.2.av] := by
  intro l a h
  unfold decVC at h
  split at h
  · split at h
    · rename_i h1
      split at h
      · rename_i h2; cases h; rw [decVa_some h1, decCo_some h2]
      · cases h
    · cases h
  · cases h
theorem right_eta (v : Va) : rightV (Va.mk (hdI v.cells) (hdI v.cells.tail) (hdS v.cells.tail.tail)) = rightV v := rfl
noncomputable def p23 : POrc Tryd.prog := f23.pureIf decVC (fun a => [a.1.av, a.2.av]) decVC_enc (fun _ => true) (fun a => .int .i64 (fitsV a.1 a.2)) (fun _ _ => ⟨rfl, fun _ _ => trivial⟩) fun a _ => ⟨0, fun st => by
  obtain ⟨v, nm, k, nn⟩ := a
  refine (rfits_run 0 v nm k nn st).trans ?_
  rw [right_eta, show (v.k != k) = !(v.k == k) from rfl, fitsV]
  cases rightV v <;> cases v.k == 0 <;> cases v.k == k <;> cases nn <;> rfl⟩
theorem p23_nat : p23.Nat := pureIf_nat
noncomputable def p14 : POrc Tryd.prog := f14.pureIf decVC (fun a => [a.1.av, a.2.av]) decVC_enc (fun _ => true) (fun a => .int .i64 (fitsV a.1 a.2)) (fun _ _ => ⟨rfl, fun _ _ => trivial⟩) fun a _ => ⟨0, fun st => by
  obtain ⟨v, nm, k, nn⟩ := a
  refine (fits_run 0 v nm k nn st).trans ?_
  rw [right_eta, show (v.k != k) = !(v.k == k) from rfl, show (v.k != 0) = !(v.k == 0) from rfl, fitsV]
  cases rightV v <;> cases v.k == 0 <;> cases v.k == k <;> cases nn <;> rfl⟩
theorem p14_nat : p14.Nat := pureIf_nat
end Go.Proofs.YtcfedmheblbdnaaDoor.V
