/- Merged out of 28 texts: what the claim's code comes to, and why. -/
import Derived.Test.YtcfedmheblbdnaaGreatDoorRows
import Derived.Test.YtcfedmheblbdnaaGreatDoorR14
/- The functions' pieces, as told by gen.py. -/
set_option linter.unusedVariables false
set_option maxRecDepth 20000
namespace Go.Proofs.YtcfedmheblbdnaaGreatDoor.V
open Go Go.V Go.RowKit


/-! ### 39: interlock/interlockref04.Order (40, 40); results 4; slots: 0 a, 1 b, 2 a, 3 b -/
noncomputable def f39_b : Sim Tryz.prog :=
 (.seq (.live [2, 3] (.region 0 [
 ⟨(opBoxF (some 2) 40 (.tmp 0) 0 "ref.go:59" #[]).op, none⟩,
 ⟨(opBoxF (some 3) 40 (.tmp 1) 0 "ref.go:59" #[]).op, none⟩,
 ⟨(opAssign (some 4) (.const (Value.int IntKind.i64 0)) 3 "ref.go:59" #[]).op, none⟩
 ] (by kernel_rfl)))
 (.seq (.seq (.live [2, 3, 9] (.region 1 [
 ⟨(opFieldAddr (some 5) 40 (.tmp 2) 0 0 1 false fl40_0 (by decide) 0 "ref.go:60" #[]).op, none⟩,
 ⟨(opLoadT (.one (.int .i64)) (some 6) 3 (.tmp 5) (.int .i64) Tryz.underlying3 1 sz3 (by kernel_rfl) 3 "ref.go:60" #[{ on := 0, ground := Ground.data }]).op, none⟩,
 ⟨(opFieldAddr (some 7) 40 (.tmp 3) 0 0 1 false fl40_0 (by decide) 0 "ref.go:60" #[]).op, none⟩,
 ⟨(opLoadT (.one (.int .i64)) (some 8) 3 (.tmp 7) (.int .i64) Tryz.underlying3 1 sz3 (by kernel_rfl) 3 "ref.go:60" #[{ on := 2, ground := Ground.data }]).op, none⟩,
 ⟨(opBin (some 9) .neq 3 (.tmp 6) (.tmp 8) 3 4 "ref.go:60" #[{ on := 1, ground := Ground.data }, { on := 3, ground := Ground.data }]).op, none⟩
 ] (by kernel_rfl)))
 (.cond (.tmp 9)
 (.seq (.live [4] (.region 2 [
 ⟨(opFieldAddr (some 10) 40 (.tmp 2) 0 0 1 false fl40_0 (by decide) 0 "ref.go:61" #[]).op, none⟩,
 ⟨(opLoadT (.one (.int .i64)) (some 11) 3 (.tmp 10) (.int .i64) Tryz.underlying3 1 sz3 (by kernel_rfl) 3 "ref.go:61" #[{ on := 0, ground := Ground.data }]).op, none⟩,
 ⟨(opFieldAddr (some 12) 40 (.tmp 3) 0 0 1 false fl40_0 (by decide) 0 "ref.go:61" #[]).op, none⟩,
 ⟨(opLoadT (.one (.int .i64)) (some 13) 3 (.tmp 12) (.int .i64) Tryz.underlying3 1 sz3 (by kernel_rfl) 3 "ref.go:61" #[{ on := 2, ground := Ground.data }]).op, none⟩,
 ⟨(opCallP p40 (some 14) [(.tmp 11), (.tmp 13)] #[3, 3] 3 "ref.go:61" #[{ on := 1, ground := Ground.data }, { on := 3, ground := Ground.data }]).op, none⟩,
 ⟨(opAssign (some 4) (.tmp 14) 3 "ref.go:61" #[{ on := 4, ground := Ground.data }, { on := 4, ground := Ground.chain }, { on := 0, ground := Ground.phase }, { on := 1, ground := Ground.phase }, { on := 2, ground := Ground.phase }, { on := 3, ground := Ground.phase }, { on := 4, ground := Ground.phase }]).op, none⟩
 ] (by kernel_rfl)))
 (.live [4] .ret))
 .skip))
 (.seq (.seq (.live [2, 3, 19] (.region 3 [
 ⟨(opFieldAddr (some 15) 40 (.tmp 2) 1 1 1 false fl40_1 (by decide) 0 "ref.go:63" #[]).op, none⟩,
 ⟨(opLoadT (.one (.int .i64)) (some 16) 3 (.tmp 15) (.int .i64) Tryz.underlying3 1 sz3 (by kernel_rfl) 3 "ref.go:63" #[{ on := 0, ground := Ground.data }]).op, none⟩,
 ⟨(opFieldAddr (some 17) 40 (.tmp 3) 1 1 1 false fl40_1 (by decide) 0 "ref.go:63" #[]).op, none⟩,
 ⟨(opLoadT (.one (.int .i64)) (some 18) 3 (.tmp 17) (.int .i64) Tryz.underlying3 1 sz3 (by kernel_rfl) 3 "ref.go:63" #[{ on := 2, ground := Ground.data }]).op, none⟩,
 ⟨(opBin (some 19) .neq 3 (.tmp 16) (.tmp 18) 3 4 "ref.go:63" #[{ on := 1, ground := Ground.data }, { on := 3, ground := Ground.data }]).op, none⟩
 ] (by kernel_rfl)))
 (.cond (.tmp 19)
 (.seq (.live [4] (.region 4 [
 ⟨(opFieldAddr (some 20) 40 (.tmp 2) 1 1 1 false fl40_1 (by decide) 0 "ref.go:64" #[]).op, none⟩,
 ⟨(opLoadT (.one (.int .i64)) (some 21) 3 (.tmp 20) (.int .i64) Tryz.underlying3 1 sz3 (by kernel_rfl) 3 "ref.go:64" #[{ on := 0, ground := Ground.data }]).op, none⟩,
 ⟨(opFieldAddr (some 22) 40 (.tmp 3) 1 1 1 false fl40_1 (by decide) 0 "ref.go:64" #[]).op, none⟩,
 ⟨(opLoadT (.one (.int .i64)) (some 23) 3 (.tmp 22) (.int .i64) Tryz.underlying3 1 sz3 (by kernel_rfl) 3 "ref.go:64" #[{ on := 2, ground := Ground.data }]).op, none⟩,
 ⟨(opCallP p40 (some 24) [(.tmp 21), (.tmp 23)] #[3, 3] 3 "ref.go:64" #[{ on := 1, ground := Ground.data }, { on := 3, ground := Ground.data }]).op, none⟩,
 ⟨(opAssign (some 4) (.tmp 24) 3 "ref.go:64" #[{ on := 4, ground := Ground.data }, { on := 4, ground := Ground.chain }, { on := 0, ground := Ground.phase }, { on := 1, ground := Ground.phase }, { on := 2, ground := Ground.phase }, { on := 3, ground := Ground.phase }, { on := 4, ground := Ground.phase }]).op, none⟩
 ] (by kernel_rfl)))
 (.live [4] .ret))
 .skip))
 (.seq (.live [4] (.region 5 [
 ⟨(opFieldAddr (some 25) 40 (.tmp 2) 2 2 1 false fl40_2 (by decide) 0 "ref.go:66" #[]).op, none⟩,
 ⟨(opLoadT (.one .str) (some 26) 9 (.tmp 25) .string Tryz.underlying9 1 sz9 (by kernel_rfl) 9 "ref.go:66" #[{ on := 0, ground := Ground.data }]).op, none⟩,
 ⟨(opFieldAddr (some 27) 40 (.tmp 3) 2 2 1 false fl40_2 (by decide) 0 "ref.go:66" #[]).op, none⟩,
 ⟨(opLoadT (.one .str) (some 28) 9 (.tmp 27) .string Tryz.underlying9 1 sz9 (by kernel_rfl) 9 "ref.go:66" #[{ on := 2, ground := Ground.data }]).op, none⟩,
 ⟨(opCallP p56 (some 29) [(.tmp 26), (.tmp 28)] #[9, 9] 3 "ref.go:66" #[{ on := 1, ground := Ground.data }, { on := 3, ground := Ground.data }]).op, none⟩,
 ⟨(opAssign (some 4) (.tmp 29) 3 "ref.go:66" #[{ on := 4, ground := Ground.data }, { on := 4, ground := Ground.chain }, { on := 0, ground := Ground.phase }, { on := 1, ground := Ground.phase }, { on := 2, ground := Ground.phase }, { on := 3, ground := Ground.phase }, { on := 4, ground := Ground.phase }]).op, none⟩
 ] (by kernel_rfl)))
 (.live [4] .ret)))))

noncomputable def f39 : Fun Tryz.prog where
 id := 39
 fn := Tryz.f39
 hf := Tryz.func39
 hname := by kernel_rfl
 body := f39_b
 hbody := by kernel_rfl
 res := [rTmp 4]
 hres := by kernel_rfl
 n := 30
 hn := by kernel_rfl

end Go.Proofs.YtcfedmheblbdnaaGreatDoor.V

/- What the functions' runs come to; the right sides were printed by a tool, Lean checks them. -/
set_option linter.unusedVariables false
set_option maxRecDepth 100000
namespace Go.Proofs.YtcfedmheblbdnaaGreatDoor.V
open Go Go.V Go.RowKit

theorem rorder_run (F : Nat) (a b : Va) (st : St) :
 (f39.run F [a.av, b.av] st : Ans) =
 branch (AV.bool (a.k != b.k)) (some (Fin.ret (AV.int IntKind.i64 (cmpI a.k b.k)), st))
 (branch (AV.bool (a.n != b.n)) (some (Fin.ret (AV.int IntKind.i64 (cmpI a.n b.n)), st))
 (branch (AV.bool (cdec (a.s.size ≤ 100000))) (some (Fin.ret (AV.int IntKind.i64 (cmpS a.s b.s)), st)) none)) := by kernel_rfl

end Go.Proofs.YtcfedmheblbdnaaGreatDoor.V

/- Values: the reference's Order, as a callee. -/
set_option linter.unusedVariables false
namespace Go.Proofs.YtcfedmheblbdnaaGreatDoor.V
open Go Go.V Go.RowKit

theorem cmpI_ne {a b : Int} (h : a ≠ b) : (cmpI a b != 0) = true := by
  have : cmpI a b ≠ 0 := fun e => h (lin_int.eq _ _ e)
  simpa using this
theorem rorder_eq {F : Nat} (a b : Va) (st : St) (h : a.s.size ≤ 100000) : f39.run F [a.av, b.av] st = some (.ret (.int .i64 (cmpV a b)), st) := by
  rw [rorder_run, cmpV, orI]
  by_cases hk : a.k = b.k
  · rw [branch_not (by simp [hk]), hk, cmpI_self]
    by_cases hn : a.n = b.n
    · rw [branch_not (by simp [hn]), hn, cmpI_self, branch_of (cdec_iff.mpr h)]; rfl
    · rw [branch_of (by simpa using hn), cmpI_ne hn]; rfl
  · rw [branch_of (by simpa using hk), cmpI_ne hk]; rfl
noncomputable def p39 : POrc Tryz.prog := f39.pureIf dec2v (fun a => [a.1.av, a.2.av]) dec2v_enc (fun a => cdec (a.1.s.size ≤ 100000)) (fun a => .int .i64 (cmpV a.1 a.2)) (fun _ _ => ⟨rfl, fun _ _ => trivial⟩) fun a h => ⟨0, fun st => rorder_eq a.1 a.2 st (cdec_iff.mp h)⟩
theorem p39_nat : p39.Nat := pureIf_nat
end Go.Proofs.YtcfedmheblbdnaaGreatDoor.V

/- The functions' pieces, as told by gen.py. -/
set_option linter.unusedVariables false
set_option maxRecDepth 20000
namespace Go.Proofs.YtcfedmheblbdnaaGreatDoor.V
open Go Go.V Go.RowKit

theorem sz63 : (Tryz.prog.info? 63).map (·.size) = some 3 := by kernel_rfl
noncomputable abbrev d63 : TypeDesc := (Tryz.prog.underlying 63).getD .bool
theorem ud63 : Tryz.prog.underlying 63 = some d63 := by kernel_rfl

/-! ### 12: interlock/interlockref04.RightRow (23); results 2; slots: 0 r, 1 r, 3 i -/
/-- A loop's round; at its head live: 0 r, 3 i -/
noncomputable def f12_l0 : Sim Tryz.prog :=
 (.seq (.seq (.live [0, 3, 10] (.region 4 [
 ⟨(opMove (some 7) (.tmp 3) 3 "ref.go:30" #[]).op, none⟩,
 ⟨(opMove (some 8) (.tmp 0) 23 "ref.go:30" #[]).op, none⟩,
 ⟨(opLen (some 9) (.tmp 8) 23 (.slice 40) Tryz.underlying23 3 "ref.go:30" #[{ on := 1, ground := Ground.data }]).op, none⟩,
 ⟨(opBin (some 10) .lss 3 (.tmp 7) (.tmp 9) 3 4 "ref.go:30" #[{ on := 0, ground := Ground.data }, { on := 2, ground := Ground.data }]).op, none⟩
 ] (by kernel_rfl)))
 (.cond (.tmp 10)
 .skip
 (.live [] (.exit 0))))
 (.seq (.block 1 (.seq (.live [0, 3, 18] (.region 6 [
 ⟨(opMove (some 13) (.tmp 0) 23 "ref.go:31" #[]).op, none⟩,
 ⟨(opMove (some 14) (.tmp 3) 3 "ref.go:31" #[]).op, none⟩,
 ⟨(opIndexAddrT (some 15) 23 (.tmp 13) (.tmp 14) 40 3 Tryz.underlying23 sz40 0 "ref.go:31" #[{ on := 0, ground := Ground.data }, { on := 1, ground := Ground.data }]).op, none⟩,
 ⟨(opLoadT (.agg [(.int .i64), (.int .i64), .str]) (some 16) 40 (.tmp 15) d40 ud40 3 sz40 (by kernel_rfl) 40 "ref.go:31" #[{ on := 2, ground := Ground.data }]).op, none⟩,
 ⟨(opCallP p37 (some 17) [(.tmp 16)] #[40] 4 "ref.go:31" #[{ on := 3, ground := Ground.data }]).op, none⟩,
 ⟨(opNot (some 18) 4 (.tmp 17) 4 "ref.go:31" #[{ on := 4, ground := Ground.data }]).op, none⟩
 ] (by kernel_rfl)))
 (.cond (.tmp 18)
 (.seq (.live [2] (.region 7 [
 ⟨(opAssign (some 2) (.const (Value.bool false)) 4 "ref.go:32" #[]).op, none⟩
 ] (by kernel_rfl)))
 (.live [2] .ret))
 .skip)))
 (.live [0, 3] (.region 5 [
 ⟨(opMove (some 11) (.tmp 3) 3 "ref.go:30" #[]).op, none⟩,
 ⟨(opBin (some 12) .add 3 (.tmp 11) (.const (Value.int IntKind.i64 1)) 3 3 "ref.go:30" #[{ on := 0, ground := Ground.data }]).op, none⟩,
 ⟨(opAssign (some 3) (.tmp 12) 3 "ref.go:30" #[{ on := 1, ground := Ground.data }, { on := 0, ground := Ground.phase }, { on := 1, ground := Ground.phase }]).op, none⟩
 ] (by kernel_rfl)))))

/-- What follows a loop. -/
noncomputable def f12_r0 : Sim Tryz.prog :=
 (.seq (.live [2] (.region 8 [
 ⟨(opAssign (some 2) (.const (Value.bool true)) 4 "ref.go:35" #[]).op, none⟩
 ] (by kernel_rfl)))
 (.live [2] .ret))

noncomputable def f12_b : Sim Tryz.prog :=
 (.seq (.live [0] (.region 0 [
 ⟨(opAssign (some 2) (.const (Value.bool false)) 4 "ref.go:26" #[]).op, none⟩
 ] (by kernel_rfl)))
 (.seq (.seq (.live [0, 6] (.region 1 [
 ⟨(opMove (some 4) (.tmp 0) 23 "ref.go:27" #[]).op, none⟩,
 ⟨(opLen (some 5) (.tmp 4) 23 (.slice 40) Tryz.underlying23 3 "ref.go:27" #[{ on := 0, ground := Ground.data }]).op, none⟩,
 ⟨(opBin (some 6) .gtr 3 (.tmp 5) (.const (Value.int IntKind.i64 8)) 3 4 "ref.go:27" #[{ on := 1, ground := Ground.data }]).op, none⟩
 ] (by kernel_rfl)))
 (.cond (.tmp 6)
 (.seq (.live [2] (.region 2 [
 ⟨(opAssign (some 2) (.const (Value.bool false)) 4 "ref.go:28" #[]).op, none⟩
 ] (by kernel_rfl)))
 (.live [2] .ret))
 .skip))
 (.seq (.seq (.live [0, 3] (.region 3 [
 ⟨(opAssign (some 3) (.const (Value.int IntKind.i64 0)) 3 "ref.go:30" #[]).op, none⟩
 ] (by kernel_rfl)))
 (.block 0 (.loop [0, 3] f12_l0)))
 f12_r0)))

noncomputable def f12 : Fun Tryz.prog where
 id := 12
 fn := Tryz.f12
 hf := Tryz.func12
 hname := by kernel_rfl
 body := f12_b
 hbody := by kernel_rfl
 res := [rTmp 2]
 hres := by kernel_rfl
 n := 19
 hn := by kernel_rfl

/-! ### 14: interlock/interlockref04.OrderRows (23, 23); results 4; slots: 0 a, 1 b, 2 a, 3 b, 5 i, 6 c -/
/-- A loop's round; at its head live: 0 a, 1 b, 5 i -/
noncomputable def f14_l0 : Sim Tryz.prog :=
 (.seq (.seq (.live [0, 1, 5, 16] (.region 2 [
 ⟨(opMove (some 7) (.tmp 5) 3 "ref.go:79" #[]).op, none⟩,
 ⟨(opMove (some 8) (.tmp 0) 23 "ref.go:79" #[]).op, none⟩,
 ⟨(opLen (some 9) (.tmp 8) 23 (.slice 40) Tryz.underlying23 3 "ref.go:79" #[{ on := 1, ground := Ground.data }]).op, none⟩,
 ⟨(opBin (some 10) .lss 3 (.tmp 7) (.tmp 9) 3 4 "ref.go:79" #[{ on := 0, ground := Ground.data }, { on := 2, ground := Ground.data }]).op, none⟩,
 ⟨(opMove (some 11) (.tmp 10) 4 "ref.go:79" #[{ on := 3, ground := Ground.data }]).op, none⟩,
 ⟨(opMove (some 12) (.tmp 5) 3 "ref.go:79" #[{ on := 4, ground := Ground.guard }]).op, (some (4, 11, true))⟩,
 ⟨(opMove (some 13) (.tmp 1) 23 "ref.go:79" #[{ on := 4, ground := Ground.guard }]).op, (some (4, 11, true))⟩,
 ⟨(opLen (some 14) (.tmp 13) 23 (.slice 40) Tryz.underlying23 3 "ref.go:79" #[{ on := 6, ground := Ground.data }, { on := 4, ground := Ground.guard }]).op, (some (4, 11, true))⟩,
 ⟨(opBin (some 15) .lss 3 (.tmp 12) (.tmp 14) 3 4 "ref.go:79" #[{ on := 5, ground := Ground.data }, { on := 7, ground := Ground.data }, { on := 4, ground := Ground.guard }]).op, (some (4, 11, true))⟩,
 ⟨(opPick (some 16) (.tmp 11) (.tmp 15) (.const (Value.bool false)) 4 "ref.go:79" #[{ on := 4, ground := Ground.data }, { on := 8, ground := Ground.data }]).op, none⟩
 ] (by kernel_rfl)))
 (.cond (.tmp 16)
 .skip
 (.live [0, 1] (.exit 0))))
 (.seq (.block 1 (.seq (.live [0, 1, 5, 6] (.draw 4 [
 ⟨.p (opMove (some 19) (.tmp 0) 23 "ref.go:80" #[]), none⟩,
 ⟨.p (opMove (some 20) (.tmp 5) 3 "ref.go:80" #[]), none⟩,
 ⟨.pn (opIndexAddrT (some 21) 23 (.tmp 19) (.tmp 20) 40 3 Tryz.underlying23 sz40 0 "ref.go:80" #[{ on := 0, ground := Ground.data }, { on := 1, ground := Ground.data }]) opIndexAddrT_nat, none⟩,
 ⟨.qn (opLoadT (.agg [(.int .i64), (.int .i64), .str]) (some 22) 40 (.tmp 21) d40 ud40 3 sz40 (by kernel_rfl) 40 "ref.go:80" #[{ on := 2, ground := Ground.data }]) opLoadT_nat, none⟩,
 ⟨.p (opMove (some 23) (.tmp 1) 23 "ref.go:80" #[]), none⟩,
 ⟨.p (opMove (some 24) (.tmp 5) 3 "ref.go:80" #[]), none⟩,
 ⟨.pn (opIndexAddrT (some 25) 23 (.tmp 23) (.tmp 24) 40 3 Tryz.underlying23 sz40 0 "ref.go:80" #[{ on := 4, ground := Ground.data }, { on := 5, ground := Ground.data }]) opIndexAddrT_nat, none⟩,
 ⟨.qn (opLoadT (.agg [(.int .i64), (.int .i64), .str]) (some 26) 40 (.tmp 25) d40 ud40 3 sz40 (by kernel_rfl) 40 "ref.go:80" #[{ on := 6, ground := Ground.data }]) opLoadT_nat, none⟩,
 ⟨.pn (opCallP p39 (some 27) [(.tmp 22), (.tmp 26)] #[40, 40] 3 "ref.go:80" #[{ on := 3, ground := Ground.data }, { on := 7, ground := Ground.data }]) (opCallP_nat p39_nat), none⟩,
 ⟨.p (opAssign (some 6) (.tmp 27) 3 "ref.go:80" #[{ on := 8, ground := Ground.data }, { on := 8, ground := Ground.chain }, { on := 0, ground := Ground.phase }, { on := 1, ground := Ground.phase }, { on := 2, ground := Ground.phase }, { on := 3, ground := Ground.phase }, { on := 4, ground := Ground.phase }, { on := 5, ground := Ground.phase }, { on := 6, ground := Ground.phase }, { on := 7, ground := Ground.phase }, { on := 8, ground := Ground.phase }]), none⟩
 ] mixed (by kernel_rfl)))
 (.seq (.live [0, 1, 5, 6, 29] (.region 5 [
 ⟨(opMove (some 28) (.tmp 6) 3 "ref.go:81" #[]).op, none⟩,
 ⟨(opBin (some 29) .neq 3 (.tmp 28) (.const (Value.int IntKind.i64 0)) 3 4 "ref.go:81" #[{ on := 0, ground := Ground.data }]).op, none⟩
 ] (by kernel_rfl)))
 (.cond (.tmp 29)
 (.seq (.live [4] (.region 6 [
 ⟨(opMove (some 30) (.tmp 6) 3 "ref.go:82" #[]).op, none⟩,
 ⟨(opAssign (some 4) (.tmp 30) 3 "ref.go:82" #[{ on := 0, ground := Ground.data }, { on := 0, ground := Ground.phase }]).op, none⟩
 ] (by kernel_rfl)))
 (.live [4] .ret))
 .skip))))
 (.live [0, 1, 5] (.region 3 [
 ⟨(opMove (some 17) (.tmp 5) 3 "ref.go:79" #[]).op, none⟩,
 ⟨(opBin (some 18) .add 3 (.tmp 17) (.const (Value.int IntKind.i64 1)) 3 3 "ref.go:79" #[{ on := 0, ground := Ground.data }]).op, none⟩,
 ⟨(opAssign (some 5) (.tmp 18) 3 "ref.go:79" #[{ on := 1, ground := Ground.data }, { on := 0, ground := Ground.phase }, { on := 1, ground := Ground.phase }]).op, none⟩
 ] (by kernel_rfl)))))

/-- What follows a loop. -/
noncomputable def f14_r0 : Sim Tryz.prog :=
 (.seq (.live [4] (.region 7 [
 ⟨(opMove (some 31) (.tmp 0) 23 "ref.go:85" #[]).op, none⟩,
 ⟨(opLen (some 32) (.tmp 31) 23 (.slice 40) Tryz.underlying23 3 "ref.go:85" #[{ on := 0, ground := Ground.data }]).op, none⟩,
 ⟨(opMove (some 33) (.tmp 1) 23 "ref.go:85" #[]).op, none⟩,
 ⟨(opLen (some 34) (.tmp 33) 23 (.slice 40) Tryz.underlying23 3 "ref.go:85" #[{ on := 2, ground := Ground.data }]).op, none⟩,
 ⟨(opCallP p40 (some 35) [(.tmp 32), (.tmp 34)] #[3, 3] 3 "ref.go:85" #[{ on := 1, ground := Ground.data }, { on := 3, ground := Ground.data }]).op, none⟩,
 ⟨(opAssign (some 4) (.tmp 35) 3 "ref.go:85" #[{ on := 4, ground := Ground.data }, { on := 4, ground := Ground.chain }, { on := 0, ground := Ground.phase }, { on := 1, ground := Ground.phase }, { on := 2, ground := Ground.phase }, { on := 3, ground := Ground.phase }, { on := 4, ground := Ground.phase }]).op, none⟩
 ] (by kernel_rfl)))
 (.live [4] .ret))

noncomputable def f14_b : Sim Tryz.prog :=
 (.seq (.live [0, 1] (.region 0 [
 ⟨(opAssign (some 4) (.const (Value.int IntKind.i64 0)) 3 "ref.go:78" #[]).op, none⟩
 ] (by kernel_rfl)))
 (.seq (.seq (.live [0, 1, 5] (.region 1 [
 ⟨(opAssign (some 5) (.const (Value.int IntKind.i64 0)) 3 "ref.go:79" #[]).op, none⟩
 ] (by kernel_rfl)))
 (.block 0 (.loop [0, 1, 5] f14_l0)))
 f14_r0))

noncomputable def f14 : Fun Tryz.prog where
 id := 14
 fn := Tryz.f14
 hf := Tryz.func14
 hname := by kernel_rfl
 body := f14_b
 hbody := by kernel_rfl
 res := [rTmp 4]
 hres := by kernel_rfl
 n := 36
 hn := by kernel_rfl

/-! ### 15: interlock/value.FitsRow (23, 24); results 4; slots: 0 r, 1 cols, 2 r, 3 cols, 5 i, 6 v, 7 e -/
/-- A loop's round; at its head live: 1 cols, 13 , 14 , 15  -/
noncomputable def f15_l0 : Sim Tryz.prog :=
 (.seq (.live [1, 13, 14, 15, 16] (.region 4 [
 ⟨(opBin (some 16) .lss 3 (.tmp 15) (.tmp 14) 3 0 "value.go:70" #[]).op, none⟩
 ] (by kernel_rfl)))
 (.seq (.cond (.tmp 16)
 .skip
 (.live [] (.exit 0)))
 (.seq (.block 1 (.seq (.live [1, 5, 6, 13, 14, 15] (.items 5 [
 .one ((opMove (some 17) (.tmp 15) 3 "value.go:70" #[]).op),
 .one ((opIndexAddrT (some 18) 23 (.tmp 13) (.tmp 15) 40 3 Tryz.underlying23 sz40 0 "value.go:70" #[]).op),
 .one ((opLoadT (.agg [(.int .i64), (.int .i64), .str]) (some 19) 40 (.tmp 18) d40 ud40 3 sz40 (by kernel_rfl) 40 "value.go:70" #[{ on := 1, ground := Ground.data }]).op),
 .three (op3Box 6 40 (.agg #[(.int .i64 0), (.int .i64 0), (.string ⟨#[]⟩)]) ze40 (.tmp 19) (by rfl) 3 sz40 (by kernel_rfl) 30 (by rfl) 5 (.tmp 17) (by rfl) (by rfl) (by rfl) 0 0 3 "value.go:70" "value.go:70" "value.go:70" #[] #[{ on := 3, ground := Ground.data }, { on := 2, ground := Ground.data }, { on := 4, ground := Ground.chain }, { on := 0, ground := Ground.phase }, { on := 1, ground := Ground.phase }, { on := 2, ground := Ground.phase }, { on := 3, ground := Ground.phase }, { on := 4, ground := Ground.phase }] #[{ on := 0, ground := Ground.data }, { on := 0, ground := Ground.phase }, { on := 1, ground := Ground.phase }, { on := 2, ground := Ground.phase }, { on := 3, ground := Ground.phase }])
 ]))
 (.seq (.live [1, 7, 13, 14, 15] (.draw 6 [
 ⟨.qn (opLoadT (.agg [(.int .i64), (.int .i64), .str]) (some 20) 40 (.tmp 6) d40 ud40 3 sz40 (by kernel_rfl) 40 "value.go:71" #[]) opLoadT_nat, none⟩,
 ⟨.p (opMove (some 21) (.tmp 1) 24 "value.go:71" #[]), none⟩,
 ⟨.p (opMove (some 22) (.tmp 5) 3 "value.go:71" #[]), none⟩,
 ⟨.pn (opIndexAddrT (some 23) 24 (.tmp 21) (.tmp 22) 63 3 Tryz.underlying24 sz63 0 "value.go:71" #[{ on := 1, ground := Ground.data }, { on := 2, ground := Ground.data }]) opIndexAddrT_nat, none⟩,
 ⟨.qn (opLoadT (.agg [.str, (.int .i64), .bool]) (some 24) 63 (.tmp 23) d63 ud63 3 sz63 (by kernel_rfl) 63 "value.go:71" #[{ on := 3, ground := Ground.data }]) opLoadT_nat, none⟩,
 ⟨.pn (opCallP p41 (some 25) [(.tmp 20), (.tmp 24)] #[40, 63] 34 "value.go:71" #[{ on := 0, ground := Ground.data }, { on := 4, ground := Ground.data }]) (opCallP_nat p41_nat), none⟩,
 ⟨.p (opAssign (some 7) (.tmp 25) 34 "value.go:71" #[{ on := 5, ground := Ground.data }, { on := 5, ground := Ground.chain }, { on := 0, ground := Ground.phase }, { on := 1, ground := Ground.phase }, { on := 2, ground := Ground.phase }, { on := 3, ground := Ground.phase }, { on := 4, ground := Ground.phase }, { on := 5, ground := Ground.phase }]), none⟩
 ] mixed (by kernel_rfl)))
 (.seq (.live [1, 7, 13, 14, 15, 27] (.region 7 [
 ⟨(opMove (some 26) (.tmp 7) 34 "value.go:71" #[]).op, none⟩,
 ⟨(opBin (some 27) .neq 34 (.tmp 26) (.const (Value.int IntKind.i64 0)) 34 4 "value.go:71" #[{ on := 0, ground := Ground.data }]).op, none⟩
 ] (by kernel_rfl)))
 (.cond (.tmp 27)
 (.seq (.live [4] (.region 8 [
 ⟨(opMove (some 28) (.tmp 7) 34 "value.go:72" #[]).op, none⟩,
 ⟨(opAssign (some 4) (.tmp 28) 34 "value.go:72" #[{ on := 0, ground := Ground.data }, { on := 0, ground := Ground.phase }]).op, none⟩
 ] (by kernel_rfl)))
 (.live [4] .ret))
 .skip)))))
 (.live [1, 13, 14, 15] (.region 9 [
 ⟨(opBin (some 29) .add 3 (.tmp 15) (.const (Value.int IntKind.i64 1)) 3 3 "value.go:70" #[]).op, none⟩,
 ⟨(opMove (some 15) (.tmp 29) 3 "value.go:70" #[{ on := 0, ground := Ground.data }]).op, none⟩
 ] (by kernel_rfl))))))

/-- What follows a loop. -/
noncomputable def f15_r0 : Sim Tryz.prog :=
 (.seq (.live [4] (.region 10 [
 ⟨(opAssign (some 4) (.const (Value.int IntKind.i64 0)) 34 "value.go:75" #[]).op, none⟩
 ] (by kernel_rfl)))
 (.live [4] .ret))

noncomputable def f15_b : Sim Tryz.prog :=
 (.seq (.live [0, 1] (.region 0 [
 ⟨(opAssign (some 4) (.const (Value.int IntKind.i64 0)) 34 "value.go:66" #[]).op, none⟩
 ] (by kernel_rfl)))
 (.seq (.seq (.live [0, 1, 12] (.region 1 [
 ⟨(opMove (some 8) (.tmp 0) 23 "value.go:67" #[]).op, none⟩,
 ⟨(opLen (some 9) (.tmp 8) 23 (.slice 40) Tryz.underlying23 3 "value.go:67" #[{ on := 0, ground := Ground.data }]).op, none⟩,
 ⟨(opMove (some 10) (.tmp 1) 24 "value.go:67" #[]).op, none⟩,
 ⟨(opLen (some 11) (.tmp 10) 24 (.slice 63) Tryz.underlying24 3 "value.go:67" #[{ on := 2, ground := Ground.data }]).op, none⟩,
 ⟨(opBin (some 12) .neq 3 (.tmp 9) (.tmp 11) 3 4 "value.go:67" #[{ on := 1, ground := Ground.data }, { on := 3, ground := Ground.data }]).op, none⟩
 ] (by kernel_rfl)))
 (.cond (.tmp 12)
 (.seq (.live [4] (.region 2 [
 ⟨(opAssign (some 4) (.const (Value.int IntKind.i64 10)) 34 "value.go:68" #[]).op, none⟩
 ] (by kernel_rfl)))
 (.live [4] .ret))
 .skip))
 (.seq (.seq (.live [1, 13, 14, 15] (.region 3 [
 ⟨(opMove (some 13) (.tmp 0) 23 "value.go:70" #[]).op, none⟩,
 ⟨(opLen (some 14) (.tmp 13) 23 (.slice 40) Tryz.underlying23 3 "value.go:70" #[{ on := 0, ground := Ground.data }]).op, none⟩,
 ⟨(opMove (some 15) (.const (Value.int IntKind.i64 0)) 3 "value.go:70" #[]).op, none⟩
 ] (by kernel_rfl)))
 (.block 0 (.loop [1, 13, 14, 15] f15_l0)))
 f15_r0)))

noncomputable def f15 : Fun Tryz.prog where
 id := 15
 fn := Tryz.f15
 hf := Tryz.func15
 hname := by kernel_rfl
 body := f15_b
 hbody := by kernel_rfl
 res := [rTmp 4]
 hres := by kernel_rfl
 n := 30
 hn := by kernel_rfl

/-! ### 16: interlock/interlockref04.FitsRow (23, 24); results 4; slots: 0 r, 1 cols, 2 r, 3 cols, 5 i, 6 e -/
/-- A loop's round; at its head live: 0 r, 1 cols, 5 i -/
noncomputable def f16_l0 : Sim Tryz.prog :=
 (.seq (.seq (.live [0, 1, 5, 15] (.region 4 [
 ⟨(opMove (some 12) (.tmp 5) 3 "ref.go:110" #[]).op, none⟩,
 ⟨(opMove (some 13) (.tmp 0) 23 "ref.go:110" #[]).op, none⟩,
 ⟨(opLen (some 14) (.tmp 13) 23 (.slice 40) Tryz.underlying23 3 "ref.go:110" #[{ on := 1, ground := Ground.data }]).op, none⟩,
 ⟨(opBin (some 15) .lss 3 (.tmp 12) (.tmp 14) 3 4 "ref.go:110" #[{ on := 0, ground := Ground.data }, { on := 2, ground := Ground.data }]).op, none⟩
 ] (by kernel_rfl)))
 (.cond (.tmp 15)
 .skip
 (.live [] (.exit 0))))
 (.seq (.block 1 (.seq (.live [0, 1, 5, 6] (.draw 6 [
 ⟨.p (opMove (some 18) (.tmp 0) 23 "ref.go:111" #[]), none⟩,
 ⟨.p (opMove (some 19) (.tmp 5) 3 "ref.go:111" #[]), none⟩,
 ⟨.pn (opIndexAddrT (some 20) 23 (.tmp 18) (.tmp 19) 40 3 Tryz.underlying23 sz40 0 "ref.go:111" #[{ on := 0, ground := Ground.data }, { on := 1, ground := Ground.data }]) opIndexAddrT_nat, none⟩,
 ⟨.qn (opLoadT (.agg [(.int .i64), (.int .i64), .str]) (some 21) 40 (.tmp 20) d40 ud40 3 sz40 (by kernel_rfl) 40 "ref.go:111" #[{ on := 2, ground := Ground.data }]) opLoadT_nat, none⟩,
 ⟨.p (opMove (some 22) (.tmp 1) 24 "ref.go:111" #[]), none⟩,
 ⟨.p (opMove (some 23) (.tmp 5) 3 "ref.go:111" #[]), none⟩,
 ⟨.pn (opIndexAddrT (some 24) 24 (.tmp 22) (.tmp 23) 63 3 Tryz.underlying24 sz63 0 "ref.go:111" #[{ on := 4, ground := Ground.data }, { on := 5, ground := Ground.data }]) opIndexAddrT_nat, none⟩,
 ⟨.qn (opLoadT (.agg [.str, (.int .i64), .bool]) (some 25) 63 (.tmp 24) d63 ud63 3 sz63 (by kernel_rfl) 63 "ref.go:111" #[{ on := 6, ground := Ground.data }]) opLoadT_nat, none⟩,
 ⟨.pn (opCallP p42 (some 26) [(.tmp 21), (.tmp 25)] #[40, 63] 34 "ref.go:111" #[{ on := 3, ground := Ground.data }, { on := 7, ground := Ground.data }]) (opCallP_nat p42_nat), none⟩,
 ⟨.p (opAssign (some 6) (.tmp 26) 34 "ref.go:111" #[{ on := 8, ground := Ground.data }, { on := 8, ground := Ground.chain }, { on := 0, ground := Ground.phase }, { on := 1, ground := Ground.phase }, { on := 2, ground := Ground.phase }, { on := 3, ground := Ground.phase }, { on := 4, ground := Ground.phase }, { on := 5, ground := Ground.phase }, { on := 6, ground := Ground.phase }, { on := 7, ground := Ground.phase }, { on := 8, ground := Ground.phase }]), none⟩
 ] mixed (by kernel_rfl)))
 (.seq (.live [0, 1, 5, 6, 28] (.region 7 [
 ⟨(opMove (some 27) (.tmp 6) 34 "ref.go:112" #[]).op, none⟩,
 ⟨(opBin (some 28) .neq 34 (.tmp 27) (.const (Value.int IntKind.i64 0)) 34 4 "ref.go:112" #[{ on := 0, ground := Ground.data }]).op, none⟩
 ] (by kernel_rfl)))
 (.cond (.tmp 28)
 (.seq (.live [4] (.region 8 [
 ⟨(opMove (some 29) (.tmp 6) 34 "ref.go:113" #[]).op, none⟩,
 ⟨(opAssign (some 4) (.tmp 29) 34 "ref.go:113" #[{ on := 0, ground := Ground.data }, { on := 0, ground := Ground.phase }]).op, none⟩
 ] (by kernel_rfl)))
 (.live [4] .ret))
 .skip))))
 (.live [0, 1, 5] (.region 5 [
 ⟨(opMove (some 16) (.tmp 5) 3 "ref.go:110" #[]).op, none⟩,
 ⟨(opBin (some 17) .add 3 (.tmp 16) (.const (Value.int IntKind.i64 1)) 3 3 "ref.go:110" #[{ on := 0, ground := Ground.data }]).op, none⟩,
 ⟨(opAssign (some 5) (.tmp 17) 3 "ref.go:110" #[{ on := 1, ground := Ground.data }, { on := 0, ground := Ground.phase }, { on := 1, ground := Ground.phase }]).op, none⟩
 ] (by kernel_rfl)))))

/-- What follows a loop. -/
noncomputable def f16_r0 : Sim Tryz.prog :=
 (.seq (.live [4] (.region 9 [
 ⟨(opAssign (some 4) (.const (Value.int IntKind.i64 0)) 34 "ref.go:116" #[]).op, none⟩
 ] (by kernel_rfl)))
 (.live [4] .ret))

noncomputable def f16_b : Sim Tryz.prog :=
 (.seq (.live [0, 1] (.region 0 [
 ⟨(opAssign (some 4) (.const (Value.int IntKind.i64 0)) 34 "ref.go:106" #[]).op, none⟩
 ] (by kernel_rfl)))
 (.seq (.seq (.live [0, 1, 11] (.region 1 [
 ⟨(opMove (some 7) (.tmp 0) 23 "ref.go:107" #[]).op, none⟩,
 ⟨(opLen (some 8) (.tmp 7) 23 (.slice 40) Tryz.underlying23 3 "ref.go:107" #[{ on := 0, ground := Ground.data }]).op, none⟩,
 ⟨(opMove (some 9) (.tmp 1) 24 "ref.go:107" #[]).op, none⟩,
 ⟨(opLen (some 10) (.tmp 9) 24 (.slice 63) Tryz.underlying24 3 "ref.go:107" #[{ on := 2, ground := Ground.data }]).op, none⟩,
 ⟨(opBin (some 11) .neq 3 (.tmp 8) (.tmp 10) 3 4 "ref.go:107" #[{ on := 1, ground := Ground.data }, { on := 3, ground := Ground.data }]).op, none⟩
 ] (by kernel_rfl)))
 (.cond (.tmp 11)
 (.seq (.live [4] (.region 2 [
 ⟨(opAssign (some 4) (.const (Value.int IntKind.i64 10)) 34 "ref.go:108" #[]).op, none⟩
 ] (by kernel_rfl)))
 (.live [4] .ret))
 .skip))
 (.seq (.seq (.live [0, 1, 5] (.region 3 [
 ⟨(opAssign (some 5) (.const (Value.int IntKind.i64 0)) 3 "ref.go:110" #[]).op, none⟩
 ] (by kernel_rfl)))
 (.block 0 (.loop [0, 1, 5] f16_l0)))
 f16_r0)))

noncomputable def f16 : Fun Tryz.prog where
 id := 16
 fn := Tryz.f16
 hf := Tryz.func16
 hname := by kernel_rfl
 body := f16_b
 hbody := by kernel_rfl
 res := [rTmp 4]
 hres := by kernel_rfl
 n := 30
 hn := by kernel_rfl

/-! ### 6: interlock/interlockref00.CopyRow (23); results 2; slots: 0 r, 1 r, 3 out -/
noncomputable def f6_b : Sim Tryz.prog :=
 (.seq (.live [0] (.region 0 [
 ⟨(opAssign (some 2) (.const (Value.slice none 0 0)) 23 "ref.go:125" #[]).op, none⟩
 ] (by kernel_rfl)))
 (.seq (.live [0, 3] (.region 1 [
 ⟨(opBuildSlice (some 4) 23 0 [] 40 3 32 (.agg #[(.int .i64 0), (.int .i64 0), (.string ⟨#[]⟩)]) el23 (by kernel_rfl) (by decide) 23 "ref.go:126" #[]).op, none⟩,
 ⟨(opAssign (some 3) (.tmp 4) 23 "ref.go:126" #[{ on := 0, ground := Ground.data }, { on := 0, ground := Ground.phase }]).op, none⟩
 ] (by kernel_rfl)))
 (.seq (.live [3] (.region 2 [
 ⟨(opMove (some 5) (.tmp 3) 23 "ref.go:127" #[]).op, none⟩,
 ⟨(opMove (some 6) (.tmp 0) 23 "ref.go:127" #[]).op, none⟩,
 ⟨(opAppend (some 7) (.tmp 5) (.tmp 6) 23 23 40 3 32 (.agg #[(.int .i64 0), (.int .i64 0), (.string ⟨#[]⟩)]) el23 (.slice 40) Tryz.underlying23 rfl 23 "ref.go:127" #[{ on := 0, ground := Ground.data }, { on := 1, ground := Ground.data }]).op, none⟩,
 ⟨(opAssign (some 3) (.tmp 7) 23 "ref.go:127" #[{ on := 2, ground := Ground.data }, { on := 2, ground := Ground.chain }, { on := 0, ground := Ground.phase }, { on := 1, ground := Ground.phase }, { on := 2, ground := Ground.phase }]).op, none⟩
 ] (by kernel_rfl)))
 (.seq (.live [2] (.region 3 [
 ⟨(opMove (some 8) (.tmp 3) 23 "ref.go:128" #[]).op, none⟩,
 ⟨(opAssign (some 2) (.tmp 8) 23 "ref.go:128" #[{ on := 0, ground := Ground.data }, { on := 0, ground := Ground.phase }]).op, none⟩
 ] (by kernel_rfl)))
 (.live [2] .ret)))))

noncomputable def f6 : Fun Tryz.prog where
 id := 6
 fn := Tryz.f6
 hf := Tryz.func6
 hname := by kernel_rfl
 body := f6_b
 hbody := by kernel_rfl
 res := [rTmp 2]
 hres := by kernel_rfl
 n := 9
 hn := by kernel_rfl

end Go.Proofs.YtcfedmheblbdnaaGreatDoor.V

/- What the functions' runs come to; the right sides were printed by a tool, Lean checks them. -/
set_option linter.unusedVariables false
set_option maxRecDepth 100000
namespace Go.Proofs.YtcfedmheblbdnaaGreatDoor.V
open Go Go.V Go.RowKit

theorem rrr_run (F : Nat) (z : Bool) (l : List (List AV)) (st : St) :
 (f12.run F [.ns z 3 l] st : Ans) =
 branch (AV.bool (decide ((↑l.length : Int) > (8 : Int)))) (some (Fin.ret (AV.bool false), st))
 (loopRun (f12_l0.run F) [0, 3]
 (Cont.block 0 (Cont.then (f12_r0.run F (f12.leaveK Fun.done)) (f12.leaveK Fun.done))) F
 (Env.mk 19 [(0, AV.ns z 3 l), (3, AV.int IntKind.i64 (0 : Int))]) st) := by kernel_rfl

theorem ror_run (F : Nat) (z y : Bool) (l r : List (List AV)) (st : St) :
 (f14.run F [.ns z 3 l, .ns y 3 r] st : Ans) =
 loopRun (f14_l0.run F) [0, 1, 5]
 (Cont.block 0 (Cont.then (f14_r0.run F (f14.leaveK Fun.done)) (f14.leaveK Fun.done))) F
 (Env.mk 36
 [(0, AV.ns z 3 l), (1, AV.ns y 3 r), (5, AV.int IntKind.i64 (0 : Int))])
 st := by kernel_rfl

theorem fr_run (F : Nat) (z y : Bool) (l r : List (List AV)) (st : St) :
 (f15.run F [.ns z 3 l, .ns y 3 r] st : Ans) =
 branch (AV.bool ((↑l.length : Int) != (↑r.length : Int))) (some (Fin.ret (AV.int IntKind.i64 (10 : Int)), st))
 (loopRun (f15_l0.run F) [1, 13, 14, 15]
 (Cont.block 0 (Cont.then (f15_r0.run F (f15.leaveK Fun.done)) (f15.leaveK Fun.done))) F
 (Env.mk 30
 [(1, AV.ns y 3 r), (13, AV.ns z 3 l),
 (14, AV.int IntKind.i64 (↑l.length : Int)), (15, AV.int IntKind.i64 (0 : Int))])
 st) := by kernel_rfl

theorem rfr_run (F : Nat) (z y : Bool) (l r : List (List AV)) (st : St) :
 (f16.run F [.ns z 3 l, .ns y 3 r] st : Ans) =
 branch (AV.bool ((↑l.length : Int) != (↑r.length : Int))) (some (Fin.ret (AV.int IntKind.i64 (10 : Int)), st))
 (loopRun (f16_l0.run F) [0, 1, 5]
 (Cont.block 0 (Cont.then (f16_r0.run F (f16.leaveK Fun.done)) (f16.leaveK Fun.done))) F
 (Env.mk 30
 [(0, AV.ns z 3 l), (1, AV.ns y 3 r), (5, AV.int IntKind.i64 (0 : Int))])
 st) := by kernel_rfl

theorem cp_run (F : Nat) (z : Bool) (l : List (List AV)) (st : St) :
 (f6.run F [.ns z 3 l] st : Ans) =
 onCons l (some (Fin.ret (AV.sl 3 true []), st)) fun (x : List AV) (l : List (List AV)) =>
 if (0 + (x :: l).length) * 32 ≤ 140737488355328 then
 some (Fin.ret (AV.lg st.tk.length 3 (x :: l)), St.mk st.objs (st.tk ++ [(3, (x :: l).length)]))
 else none := by kernel_rfl

theorem rrr_round (F m : Nat) (K : Cont) (z : Bool) (l : List (List AV)) (i : Int) (st : St) :
 (loopRun (f12_l0.run F) [0, 3] K m.succ (Env.mk 19 [(0, .ns z 3 l), (3, .int .i64 i)]) st : Ans) =
 branch (AV.bool (decide (i < (↑l.length : Int))))
 (branch (AV.bool (inR l i))
 (branch (AV.bool ((LD.agg [LT.int IntKind.i64, LT.int IntKind.i64, LT.str]).is (V.rowAt l i)))
 (branch (AV.bool !rightV (Va.mk (hdI (V.rowAt l i)) (hdI (V.rowAt l i).tail) (hdS (V.rowAt l i).tail.tail)))
 (K AX.ret (Env.mk 19 [(2, AV.bool false)]) st)
 (loopRun (f12_l0.run F) [0, 3] K m
 (Env.mk 19
 [(0, AV.ns z 3 l), (3, AV.int IntKind.i64 (IntKind.i64.wrap (i + (1 : Int))))])
 st))
 none)
 none)
 (K (AX.exit 0) (Env.mk 19 []) st) := by kernel_rfl

theorem rrr_out (F : Nat) (st : St) :
 ((Cont.block 0 (Cont.then (f12_r0.run F (f12.leaveK Fun.done)) (f12.leaveK Fun.done))) (.exit 0) (Env.mk 19 []) st : Ans) =
 some (Fin.ret (AV.bool true), st) := by kernel_rfl

theorem rrr_ret (F : Nat) (b : Bool) (st : St) :
 ((Cont.block 0 (Cont.then (f12_r0.run F (f12.leaveK Fun.done)) (f12.leaveK Fun.done))) .ret (Env.mk 19 [(2, .bool b)]) st : Ans) =
 some (Fin.ret (AV.bool b), st) := by kernel_rfl

theorem ror_round (F m : Nat) (K : Cont) (z y : Bool) (l r : List (List AV)) (i : Int) (st : St) :
 (loopRun (f14_l0.run F) [0, 1, 5] K m.succ (Env.mk 36 [(0, .ns z 3 l), (1, .ns y 3 r), (5, .int .i64 i)]) st : Ans) =
 branch (AV.bool (decide (i < (↑l.length : Int))))
 (branch (AV.bool (decide (i < (↑r.length : Int))))
 (branch (AV.bool (inR l i))
 (branch (AV.bool ((LD.agg [LT.int IntKind.i64, LT.int IntKind.i64, LT.str]).is (V.rowAt l i)))
 (branch (AV.bool (inR r i))
 (branch (AV.bool ((LD.agg [LT.int IntKind.i64, LT.int IntKind.i64, LT.str]).is (V.rowAt r i)))
 (branch
 (AV.bool
 (cdec
 ((Va.mk (hdI (V.rowAt l i)) (hdI (V.rowAt l i).tail) (hdS (V.rowAt l i).tail.tail),
 Va.mk (hdI (V.rowAt r i)) (hdI (V.rowAt r i).tail)
 (hdS (V.rowAt r i).tail.tail)).fst.s.size ≤
 100000)))
 (branch
 (AV.bool
 (cmpV
 (Va.mk (hdI (V.rowAt l i)) (hdI (V.rowAt l i).tail) (hdS (V.rowAt l i).tail.tail),
 Va.mk (hdI (V.rowAt r i)) (hdI (V.rowAt r i).tail) (hdS (V.rowAt r i).tail.tail)).fst
 (Va.mk (hdI (V.rowAt l i)) (hdI (V.rowAt l i).tail) (hdS (V.rowAt l i).tail.tail),
 Va.mk (hdI (V.rowAt r i)) (hdI (V.rowAt r i).tail) (hdS (V.rowAt r i).tail.tail)).snd !=
 (0 : Int)))
 (K AX.ret
 (Env.mk 36
 [(4,
 AV.int IntKind.i64
 (cmpV
 (Va.mk (hdI (V.rowAt l i)) (hdI (V.rowAt l i).tail) (hdS (V.rowAt l i).tail.tail),
 Va.mk (hdI (V.rowAt r i)) (hdI (V.rowAt r i).tail) (hdS (V.rowAt r i).tail.tail)).fst
 (Va.mk (hdI (V.rowAt l i)) (hdI (V.rowAt l i).tail) (hdS (V.rowAt l i).tail.tail),
 Va.mk (hdI (V.rowAt r i)) (hdI (V.rowAt r i).tail)
 (hdS (V.rowAt r i).tail.tail)).snd))])
 st)
 (loopRun (f14_l0.run F) [0, 1, 5] K m
 (Env.mk 36
 [(0, AV.ns z 3 l), (1, AV.ns y 3 r),
 (5, AV.int IntKind.i64 (IntKind.i64.wrap (i + (1 : Int))))])
 st))
 none)
 none)
 none)
 none)
 none)
 (K (AX.exit 0) (Env.mk 36 [(0, AV.ns z 3 l), (1, AV.ns y 3 r)]) st))
 (K (AX.exit 0) (Env.mk 36 [(0, AV.ns z 3 l), (1, AV.ns y 3 r)]) st) := by kernel_rfl

theorem ror_out (F : Nat) (z y : Bool) (l r : List (List AV)) (st : St) :
 ((Cont.block 0 (Cont.then (f14_r0.run F (f14.leaveK Fun.done)) (f14.leaveK Fun.done))) (.exit 0) (Env.mk 36 [(0, .ns z 3 l), (1, .ns y 3 r)]) st : Ans) =
 some (Fin.ret (AV.int IntKind.i64 (cmpI (↑l.length : Int) (↑r.length : Int))), st) := by kernel_rfl

theorem ror_ret (F : Nat) (n : Int) (st : St) :
 ((Cont.block 0 (Cont.then (f14_r0.run F (f14.leaveK Fun.done)) (f14.leaveK Fun.done))) .ret (Env.mk 36 [(4, .int .i64 n)]) st : Ans) =
 some (Fin.ret (AV.int IntKind.i64 n), st) := by kernel_rfl

theorem fr_round (F m : Nat) (K : Cont) (z y : Bool) (l r : List (List AV)) (i : Int) (st : St) :
 (loopRun (f15_l0.run F) [1, 13, 14, 15] K m.succ (Env.mk 30 [(1, .ns y 3 r), (13, .ns z 3 l), (14, .int .i64 (l.length : Int)), (15, .int .i64 i)]) st : Ans) =
 branch (AV.bool (decide (i < (↑l.length : Int))))
 (branch (AV.bool (inR l i))
 (branch (AV.bool ((LD.agg [LT.int IntKind.i64, LT.int IntKind.i64, LT.str]).is (V.rowAt l i)))
 (branch (AV.bool (inR r i))
 (branch (AV.bool ((LD.agg [LT.str, LT.int IntKind.i64, LT.bool]).is (V.rowAt r i)))
 (branch
 (AV.bool
 (fitsV
 (Va.mk (hdI (valLTs [LT.int IntKind.i64, LT.int IntKind.i64, LT.str] (V.rowAt l i)))
 (hdI (valLTs [LT.int IntKind.i64, LT.int IntKind.i64, LT.str] (V.rowAt l i)).tail)
 (hdS (valLTs [LT.int IntKind.i64, LT.int IntKind.i64, LT.str] (V.rowAt l i)).tail.tail),
 Co.mk (hdS (V.rowAt r i)) (hdI (V.rowAt r i).tail) (hdB (V.rowAt r i).tail.tail)).fst
 (Va.mk (hdI (valLTs [LT.int IntKind.i64, LT.int IntKind.i64, LT.str] (V.rowAt l i)))
 (hdI (valLTs [LT.int IntKind.i64, LT.int IntKind.i64, LT.str] (V.rowAt l i)).tail)
 (hdS (valLTs [LT.int IntKind.i64, LT.int IntKind.i64, LT.str] (V.rowAt l i)).tail.tail),
 Co.mk (hdS (V.rowAt r i)) (hdI (V.rowAt r i).tail) (hdB (V.rowAt r i).tail.tail)).snd !=
 (0 : Int)))
 (K AX.ret
 (Env.mk 30
 [(4,
 AV.int IntKind.i64
 (fitsV
 (Va.mk (hdI (valLTs [LT.int IntKind.i64, LT.int IntKind.i64, LT.str] (V.rowAt l i)))
 (hdI (valLTs [LT.int IntKind.i64, LT.int IntKind.i64, LT.str] (V.rowAt l i)).tail)
 (hdS (valLTs [LT.int IntKind.i64, LT.int IntKind.i64, LT.str] (V.rowAt l i)).tail.tail),
 Co.mk (hdS (V.rowAt r i)) (hdI (V.rowAt r i).tail) (hdB (V.rowAt r i).tail.tail)).fst
 (Va.mk (hdI (valLTs [LT.int IntKind.i64, LT.int IntKind.i64, LT.str] (V.rowAt l i)))
 (hdI (valLTs [LT.int IntKind.i64, LT.int IntKind.i64, LT.str] (V.rowAt l i)).tail)
 (hdS (valLTs [LT.int IntKind.i64, LT.int IntKind.i64, LT.str] (V.rowAt l i)).tail.tail),
 Co.mk (hdS (V.rowAt r i)) (hdI (V.rowAt r i).tail) (hdB (V.rowAt r i).tail.tail)).snd))])
 st)
 (loopRun (f15_l0.run F) [1, 13, 14, 15] K m
 (Env.mk 30
 [(1, AV.ns y 3 r), (13, AV.ns z 3 l),
 (14, AV.int IntKind.i64 (↑l.length : Int)),
 (15, AV.int IntKind.i64 (IntKind.i64.wrap (i + (1 : Int))))])
 st))
 none)
 none)
 none)
 none)
 (K (AX.exit 0) (Env.mk 30 []) st) := by kernel_rfl

theorem rfr_round (F m : Nat) (K : Cont) (z y : Bool) (l r : List (List AV)) (i : Int) (st : St) :
 (loopRun (f16_l0.run F) [0, 1, 5] K m.succ (Env.mk 30 [(0, .ns z 3 l), (1, .ns y 3 r), (5, .int .i64 i)]) st : Ans) =
 branch (AV.bool (decide (i < (↑l.length : Int))))
 (branch (AV.bool (inR l i))
 (branch (AV.bool ((LD.agg [LT.int IntKind.i64, LT.int IntKind.i64, LT.str]).is (V.rowAt l i)))
 (branch (AV.bool (inR r i))
 (branch (AV.bool ((LD.agg [LT.str, LT.int IntKind.i64, LT.bool]).is (V.rowAt r i)))
 (branch
 (AV.bool
 (fitsV
 (Va.mk (hdI (V.rowAt l i)) (hdI (V.rowAt l i).tail) (hdS (V.rowAt l i).tail.tail),
 Co.mk (hdS (V.rowAt r i)) (hdI (V.rowAt r i).tail) (hdB (V.rowAt r i).tail.tail)).fst
 (Va.mk (hdI (V.rowAt l i)) (hdI (V.rowAt l i).tail) (hdS (V.rowAt l i).tail.tail),
 Co.mk (hdS (V.rowAt r i)) (hdI (V.rowAt r i).tail) (hdB (V.rowAt r i).tail.tail)).snd !=
 (0 : Int)))
 (K AX.ret
 (Env.mk 30
 [(4,
 AV.int IntKind.i64
 (fitsV
 (Va.mk (hdI (V.rowAt l i)) (hdI (V.rowAt l i).tail) (hdS (V.rowAt l i).tail.tail),
 Co.mk (hdS (V.rowAt r i)) (hdI (V.rowAt r i).tail) (hdB (V.rowAt r i).tail.tail)).fst
 (Va.mk (hdI (V.rowAt l i)) (hdI (V.rowAt l i).tail) (hdS (V.rowAt l i).tail.tail),
 Co.mk (hdS (V.rowAt r i)) (hdI (V.rowAt r i).tail) (hdB (V.rowAt r i).tail.tail)).snd))])
 st)
 (loopRun (f16_l0.run F) [0, 1, 5] K m
 (Env.mk 30
 [(0, AV.ns z 3 l), (1, AV.ns y 3 r),
 (5, AV.int IntKind.i64 (IntKind.i64.wrap (i + (1 : Int))))])
 st))
 none)
 none)
 none)
 none)
 (K (AX.exit 0) (Env.mk 30 []) st) := by kernel_rfl

theorem fr_out (F : Nat) (st : St) :
 ((Cont.block 0 (Cont.then (f15_r0.run F (f15.leaveK Fun.done)) (f15.leaveK Fun.done))) (.exit 0) (Env.mk 30 []) st : Ans) =
 some (Fin.ret (AV.int IntKind.i64 (0 : Int)), st) := by kernel_rfl

theorem fr_ret (F : Nat) (n : Int) (st : St) :
 ((Cont.block 0 (Cont.then (f15_r0.run F (f15.leaveK Fun.done)) (f15.leaveK Fun.done))) .ret (Env.mk 30 [(4, .int .i64 n)]) st : Ans) =
 some (Fin.ret (AV.int IntKind.i64 n), st) := by kernel_rfl

theorem rfr_out (F : Nat) (st : St) :
 ((Cont.block 0 (Cont.then (f16_r0.run F (f16.leaveK Fun.done)) (f16.leaveK Fun.done))) (.exit 0) (Env.mk 30 []) st : Ans) =
 some (Fin.ret (AV.int IntKind.i64 (0 : Int)), st) := by kernel_rfl

theorem rfr_ret (F : Nat) (n : Int) (st : St) :
 ((Cont.block 0 (Cont.then (f16_r0.run F (f16.leaveK Fun.done)) (f16.leaveK Fun.done))) .ret (Env.mk 30 [(4, .int .i64 n)]) st : Ans) =
 some (Fin.ret (AV.int IntKind.i64 n), st) := by kernel_rfl

end Go.Proofs.YtcfedmheblbdnaaGreatDoor.V

/- Callees shown at the empty state, their answers read as less. -/
set_option linter.unusedVariables false
set_option linter.unusedSimpArgs false
namespace Go.V
section
variable {P : Program}

/-- A function that makes what it answers, shown at the empty state; its answer is read as less (g') than it is (g). -/
def Fun.seenAs {α : Type} (f : Fun P) (dec : List AV → Option α) (enc : α → List AV) (hde : ∀ l a, dec l = some a → l = enc a) (pre : α → Bool) (g' : α → AV)
    (h : ∀ a, pre a = true → ScopedL 0 0 (enc a) ∧ ∃ r F r' st', frz r' = r ∧ Scoped 0 0 r ∧ f.run F (enc a) ⟨[], []⟩ = some (.ret r', st') ∧ ∀ g w v, Rel g w r v → Rel g w (g' a) v) : POrc P where
  id := f.id
  fn := f.fn
  hf := f.hf
  hname := f.hname
  hb := by rw [f.hbody]; rfl
  F args k := match dec args with
    | some a => match pre a with
      | true => k (g' a)
      | false => none
    | none => none
  sound k args fin h' := by
    split at h'
    · rename_i a hd
      split at h'
      · rename_i hp
        obtain ⟨h1, r, F, r', st', h2, h3, h4, h5⟩ := h a hp
        subst h2
        rw [← hde args a hd] at h4 h1
        refine ⟨g' a, h', fun st gh w vals hr hs => ?_⟩
        refine (framed (f.sound h4) h1 h3 st gh w vals hr hs).mono fun e w' ⟨g2, k1, k2, k3⟩ => ?_
        obtain ⟨v, rfl, hv⟩ := k1
        exact ⟨g2, ⟨v, rfl, h5 _ _ _ hv⟩, k2, k3⟩
      · cases h'
    · cases h'
/-- The same, its arguments read as less first (enc2). -/
def Fun.seenAs2 {α : Type} (f : Fun P) (dec : List AV → Option α) (enc enc2 : α → List AV) (hde : ∀ l a, dec l = some a → l = enc a) (pre : α → Bool) (g' : α → AV)
    (h : ∀ a, pre a = true → (∀ g w vals, RelAll g w (enc a) vals → RelAll g w (enc2 a) vals) ∧ ScopedL 0 0 (enc2 a) ∧ ∃ r F r' st', frz r' = r ∧ Scoped 0 0 r ∧ f.run F (enc2 a) ⟨[], []⟩ = some (.ret r', st') ∧ ∀ g w v, Rel g w r v → Rel g w (g' a) v) : POrc P where
  id := f.id
  fn := f.fn
  hf := f.hf
  hname := f.hname
  hb := by rw [f.hbody]; rfl
  F args k := match dec args with
    | some a => match pre a with
      | true => k (g' a)
      | false => none
    | none => none
  sound k args fin h' := by
    split at h'
    · rename_i a hd
      split at h'
      · rename_i hp
        obtain ⟨h0, h1, r, F, r', st', h2, h3, h4, h5⟩ := h a hp
        subst h2
        refine ⟨g' a, h', fun st gh w vals hr hs => ?_⟩
        rw [hde args a hd] at hr
        refine (framed (f.sound h4) h1 h3 st gh w vals (h0 _ _ _ hr) hs).mono fun e w' ⟨g2, k1, k2, k3⟩ => ?_
        obtain ⟨v, rfl, hv⟩ := k1
        exact ⟨g2, ⟨v, rfl, h5 _ _ _ hv⟩, k2, k3⟩
      · cases h'
    · cases h'
/-- A slice read as one that never changes, maybe nil. -/
def nsOf (sz : Nat) (x : AV) : AV :=
  match x with
  | .nilsl => .ns true sz []
  | .sl s f l => match Nat.beq s sz with
    | true => .ns false sz l
    | false => x
  | .lg t s l => match Nat.beq s sz with
    | true => .ns false sz l
    | false => x
  | x => x
theorem nsOf_rel {sz : Nat} {g : Gh} {w : World} {x : AV} {v : Value} (h : Rel g w x v) : Rel g w (nsOf sz x) v := by
  unfold nsOf
  split
  · exact .inl ⟨rfl, rfl, h⟩
  · split
    · rename_i h1
      rw [← Nat.eq_of_beq_eq_true h1]
      obtain ⟨b, off, sp, cap, r1, r2, r3, rs, r4⟩ := h
      exact .inr ⟨rfl, b, off, sp, cap, r1, r2, rs, r4⟩
    · exact h
  · split
    · rename_i h1
      rw [← Nat.eq_of_beq_eq_true h1]
      have h2 : Rel g w (.sl _ false _) v := frz1_rel (x := .lg _ _ _) h
      obtain ⟨b, off, sp, cap, r1, r2, r3, rs, r4⟩ := h2
      exact .inr ⟨rfl, b, off, sp, cap, r1, r2, rs, r4⟩
    · exact h
  · exact h
theorem nsOf_all {sz : Nat} {g : Gh} {w : World} : ∀ {xs : List AV} {vs : List Value}, RelAll g w xs vs → RelAll g w (xs.map (nsOf sz)) vs
  | [], _, h => h
  | x :: xs, _, ⟨v, vr, e, h1, h2⟩ => ⟨v, vr, e, nsOf_rel h1, nsOf_all h2⟩
/-- A callee that reads such slices, of any. -/
def POrc.asNs (O : POrc P) (sz : _root_.Nat) : POrc P where
  id := O.id
  fn := O.fn
  hf := O.hf
  hname := O.hname
  hb := O.hb
  F args k := O.F (args.map (nsOf sz)) k
  sound k args fin h := by
    obtain ⟨r, h1, h2⟩ := O.sound _ _ _ h
    exact ⟨r, h1, fun st g w vals hr hs => h2 st g w vals (nsOf_all hr) hs⟩
end
theorem ns_of_sl {g : Gh} {w : World} {s : Nat} {f : Bool} {l : List (List AV)} {v : Value} (h : Rel g w (.sl s f l) v) : Rel g w (.ns false s l) v := by
  obtain ⟨b, off, sp, cap, r1, r2, r3, rs, r4⟩ := h
  exact .inr ⟨rfl, b, off, sp, cap, r1, r2, rs, r4⟩
theorem ns_of_nil {g : Gh} {w : World} {s : Nat} {v : Value} (h : Rel g w .nilsl v) : Rel g w (.ns true s []) v := .inl ⟨rfl, rfl, h⟩
theorem tup2_mono {g : Gh} {w : World} {x x' y : AV} {v : Value} (hx : ∀ v, Rel g w x v → Rel g w x' v) (h : Rel g w (.tup [x, y]) v) : Rel g w (.tup [x', y]) v := by
  obtain ⟨vs, h1, v1, vr, h2, h3, h4⟩ := h
  exact ⟨vs, h1, v1, vr, h2, hx _ h3, h4⟩
/-- A slice's two readings. -/
def nsSl (z : Bool) (sz : Nat) (l : List (List AV)) : AV := match z with
  | true => .nilsl
  | false => .sl sz false l
theorem nsSl_rel {g : Gh} {w : World} {z : Bool} {sz : Nat} {l : List (List AV)} {v : Value} (h : Rel g w (.ns z sz l) v) : Rel g w (nsSl z sz l) v := by
  rcases h with ⟨rfl, rfl, h⟩ | ⟨rfl, b, off, sp, cap, r1, r2, rs, r4⟩
  · exact h
  · exact ⟨b, off, sp, cap, r1, r2, fun h => (by cases h), rs, r4⟩
end Go.V

/- Values: rows: right ones, their order, what fits, copies, as callees. -/
set_option linter.unusedVariables false
namespace Go.Proofs.YtcfedmheblbdnaaGreatDoor.V
open Go Go.V Go.RowKit

theorem rrr_all (F : Nat) (z : Bool) (l : List (List AV)) (st : St) (hl : okV l = true) (hn : l.length ≤ 1000) : ∀ (k i m : Nat), i + k = l.length → k < m →
    loopRun (f12_l0.run F) [0, 3] (Cont.block 0 (Cont.then (f12_r0.run F (f12.leaveK Fun.done)) (f12.leaveK Fun.done))) m (Env.mk 19 [(0, .ns z 3 l), (3, .int .i64 (i : Nat))]) st = some (.ret (.bool ((rowsV (l.drop i)).all rightV)), st)
  | k, i, 0, _, h => by omega
  | 0, i, m + 1, h1, h3 => by
    rw [show m + 1 = m.succ from rfl, rrr_round, branch_not (decide_eq_false (by omega)), rrr_out, rowsV_end (by omega)]; rfl
  | k + 1, i, m + 1, h1, h3 => by
    have hi : i < l.length := by omega
    have hv := okV_at hl hi
    rw [show m + 1 = m.succ from rfl, rrr_round, branch_of (decide_eq_true (by omega)), branch_of (inR_nat hi), rowAt_nat hi, branch_of (show (LD.agg [LT.int IntKind.i64, LT.int IntKind.i64, LT.str]).is l[i] = true from isVa hv), rowsV_drop hi, List.all_cons]
    show branch (.bool (!rightV (vaR l[i]))) _ _ = _
    cases hq : rightV (vaR l[i]) with
    | true => rw [Bool.not_true, branch_false, wrap_n hi hn, Bool.true_and]; exact rrr_all F z l st hl hn k (i + 1) m (by omega) (by omega)
    | false => rw [Bool.not_false, branch_true, rrr_ret]; rfl
noncomputable def p12 : POrc Tryz.prog := f12.pureIf dec1r (fun a => [nsA a]) dec1r_enc (fun a => okV a.2) (fun a => .bool (rrV a.2)) (fun _ _ => ⟨rfl, fun _ _ => trivial⟩) fun a h => ⟨1001, fun st => by
  obtain ⟨z, l⟩ := a
  show f12.run 1001 [.ns z 3 l] st = _
  rw [rrr_run, rrV]
  by_cases h8 : (l.length : Int) > 8
  · rw [branch_of (decide_eq_true h8), decide_eq_false (show ¬ (l.length : Int) ≤ 8 by omega)]; rfl
  · rw [branch_not (decide_eq_false h8), decide_eq_true (show (l.length : Int) ≤ 8 by omega), Bool.true_and]
    exact rrr_all 1001 z l st h (by omega) l.length 0 1001 (by omega) (by omega)⟩
/-- Texts that are no longer than the statements let in. -/
noncomputable def okS (l : List (List AV)) : Bool := cdec (∀ v ∈ rowsV l, v.s.size ≤ 1000)
theorem ror_all (F : Nat) (z y : Bool) (l r : List (List AV)) (st : St) (hl : okV l = true) (hr : okV r = true) (hn : l.length ≤ 1000) (hs : ∀ v ∈ rowsV l, v.s.size ≤ 1000) : ∀ (k i m : Nat), i + k = l.length → i ≤ r.length → k < m →
    loopRun (f14_l0.run F) [0, 1, 5] (Cont.block 0 (Cont.then (f14_r0.run F (f14.leaveK Fun.done)) (f14.leaveK Fun.done))) m (Env.mk 36 [(0, .ns z 3 l), (1, .ns y 3 r), (5, .int .i64 (i : Nat))]) st = some (.ret (.int .i64 (ordV (l.drop i) (r.drop i))), st)
  | k, i, 0, _, _, h => by omega
  | 0, i, m + 1, h1, h2, h3 => by
    rw [show m + 1 = m.succ from rfl, ror_round, branch_not (decide_eq_false (by omega)), ror_out]
    unfold ordV
    rw [rowsV_end (l := l) (by omega), show (l.length : Int) = (i : Nat) by omega]
    by_cases hc : i < r.length
    · rw [lexL_nil_cons (rowsV_ne hc), show cmpI (i : Nat) (r.length : Int) = -1 by unfold cmpI; rw [decide_eq_true (by omega)]; rfl]
    · rw [rowsV_end (l := r) (by omega), show (r.length : Int) = (i : Nat) by omega, cmpI_self]; rfl
  | k + 1, i, m + 1, h1, h2, h3 => by
    have hi : i < l.length := by omega
    have hv := okV_at hl hi
    rw [show m + 1 = m.succ from rfl, ror_round, branch_of (decide_eq_true (by omega))]
    by_cases hc : i < r.length
    · have hw := okV_at hr hc
      have hsz : (vaR l[i]).s.size ≤ 1000 := hs _ (List.mem_map.mpr ⟨_, List.getElem_mem hi, rfl⟩)
      rw [branch_of (decide_eq_true (by omega)), branch_of (inR_nat hi), rowAt_nat hi, branch_of (show (LD.agg [LT.int IntKind.i64, LT.int IntKind.i64, LT.str]).is l[i] = true from isVa hv),
        branch_of (inR_nat hc), rowAt_nat hc, branch_of (show (LD.agg [LT.int IntKind.i64, LT.int IntKind.i64, LT.str]).is r[i] = true from isVa hw)]
      unfold ordV
      rw [rowsV_drop hi, rowsV_drop hc, lexL]
      show branch (.bool (cdec ((vaR l[i]).s.size ≤ 100000))) (branch (.bool (cmpV (vaR l[i]) (vaR r[i]) != 0)) _ _) none = _
      rw [branch_of (cdec_iff.mpr (by omega))]
      cases hq : cmpV (vaR l[i]) (vaR r[i]) != 0 with
      | true => rw [branch_true]; exact ror_ret F (cmpV (vaR l[i]) (vaR r[i])) st
      | false =>
        rw [branch_false, wrap_n hi hn]
        exact ror_all F z y l r st hl hr hn hs k (i + 1) m (by omega) (by omega) (by omega)
    · rw [branch_not (decide_eq_false (by omega)), ror_out]
      unfold ordV
      rw [rowsV_drop hi, rowsV_end (l := r) (by omega), show cmpI (l.length : Int) (r.length : Int) = 1 by unfold cmpI; rw [decide_eq_false (by omega), decide_eq_true (by omega)]; rfl]
      rfl
noncomputable def ok2s (a : Ro2) : Bool := okS a.1.2 && ok2 a
theorem ok2s_iff {a : Ro2} : ok2s a = true ↔ (∀ v ∈ rowsV a.1.2, v.s.size ≤ 1000) ∧ okV a.1.2 = true ∧ okV a.2.2 = true ∧ a.1.2.length ≤ 1000 := by
  simp only [ok2s, okS, Bool.and_eq_true, cdec_iff, ok2_iff]
noncomputable def p14 : POrc Tryz.prog := f14.pureIf dec2r (fun a => [nsA a.1, nsA a.2]) dec2r_enc ok2s (fun a => .int .i64 (ordV a.1.2 a.2.2)) (fun a _ => ⟨rfl, fun _ _ => trivial⟩) fun a h => ⟨1001, fun st => by
  obtain ⟨h0, h1, h2, h3⟩ := ok2s_iff.mp h
  refine (ror_run 1001 a.1.1 a.2.1 a.1.2 a.2.2 st).trans ?_
  exact ror_all 1001 a.1.1 a.2.1 a.1.2 a.2.2 st h1 h2 h3 h0 a.1.2.length 0 1001 (by omega) (by omega) (by omega)⟩
/-- Columns. -/
def tCo : List LT := [.str, .int .i64, .bool]
def coR (r : List AV) : Co := ⟨hdS r, hdI r.tail, hdB r.tail.tail⟩
def rowsC (l : List (List AV)) : List Co := l.map coR
def okC (l : List (List AV)) : Bool := l.all (isRow tCo)
theorem okC_at {l : List (List AV)} (h : okC l = true) {i : Nat} (hi : i < l.length) : (LD.agg [LT.str, LT.int IntKind.i64, LT.bool]).is l[i] = true := by
  have := List.all_eq_true.mp h _ (List.getElem_mem hi)
  simp only [isRow, Bool.and_eq_true] at this; exact this.1
theorem rowsC_drop {l : List (List AV)} {i : Nat} (h : i < l.length) : rowsC (l.drop i) = coR l[i] :: rowsC (l.drop (i + 1)) := by
  rw [List.drop_eq_getElem_cons h]; rfl
def fitsR : List Va → List Co → Int
  | v :: l, c :: r => bif fitsV v c != 0 then fitsV v c else fitsR l r
  | _, _ => 0
def fitsRow (l r : List (List AV)) : Int := bif (l.length : Int) != r.length then 10 else fitsR (rowsV l) (rowsC r)
theorem fr_all (F : Nat) (z y : Bool) (l r : List (List AV)) (st : St) (hl : okV l = true) (hr : okC r = true) (hn : l.length ≤ 1000) (he : l.length = r.length) : ∀ (k i m : Nat), i + k = l.length → k < m →
    loopRun (f15_l0.run F) [1, 13, 14, 15] (Cont.block 0 (Cont.then (f15_r0.run F (f15.leaveK Fun.done)) (f15.leaveK Fun.done))) m (Env.mk 30 [(1, .ns y 3 r), (13, .ns z 3 l), (14, .int .i64 (l.length : Int)), (15, .int .i64 (i : Nat))]) st = some (.ret (.int .i64 (fitsR (rowsV (l.drop i)) (rowsC (r.drop i)))), st)
  | k, i, 0, _, h => by omega
  | 0, i, m + 1, h1, h3 => by
    rw [show m + 1 = m.succ from rfl, fr_round, branch_not (decide_eq_false (by omega)), fr_out, rowsV_end (by omega)]; rfl
  | k + 1, i, m + 1, h1, h3 => by
    have hi : i < l.length := by omega
    have hc : i < r.length := by omega
    have hv := okV_at hl hi
    rw [show m + 1 = m.succ from rfl, fr_round, branch_of (decide_eq_true (by omega)), branch_of (inR_nat hi), rowAt_nat hi, branch_of (show (LD.agg [LT.int IntKind.i64, LT.int IntKind.i64, LT.str]).is l[i] = true from isVa hv),
      branch_of (inR_nat hc), rowAt_nat hc, branch_of (okC_at hr hc), rowsV_drop hi, rowsC_drop hc, fitsR]
    show branch (.bool (fitsV (vaR l[i]) (coR r[i]) != 0)) _ _ = _
    cases hq : fitsV (vaR l[i]) (coR r[i]) != 0 with
    | true => rw [branch_true]; exact fr_ret F (fitsV (vaR l[i]) (coR r[i])) st
    | false => rw [branch_false, wrap_n hi hn]; exact fr_all F z y l r st hl hr hn he k (i + 1) m (by omega) (by omega)
theorem rfr_all (F : Nat) (z y : Bool) (l r : List (List AV)) (st : St) (hl : okV l = true) (hr : okC r = true) (hn : l.length ≤ 1000) (he : l.length = r.length) : ∀ (k i m : Nat), i + k = l.length → k < m →
    loopRun (f16_l0.run F) [0, 1, 5] (Cont.block 0 (Cont.then (f16_r0.run F (f16.leaveK Fun.done)) (f16.leaveK Fun.done))) m (Env.mk 30 [(0, .ns z 3 l), (1, .ns y 3 r), (5, .int .i64 (i : Nat))]) st = some (.ret (.int .i64 (fitsR (rowsV (l.drop i)) (rowsC (r.drop i)))), st)
  | k, i, 0, _, h => by omega
  | 0, i, m + 1, h1, h3 => by
    rw [show m + 1 = m.succ from rfl, rfr_round, branch_not (decide_eq_false (by omega)), rfr_out, rowsV_end (by omega)]; rfl
  | k + 1, i, m + 1, h1, h3 => by
    have hi : i < l.length := by omega
    have hc : i < r.length := by omega
    have hv := okV_at hl hi
    rw [show m + 1 = m.succ from rfl, rfr_round, branch_of (decide_eq_true (by omega)), branch_of (inR_nat hi), rowAt_nat hi, branch_of (show (LD.agg [LT.int IntKind.i64, LT.int IntKind.i64, LT.str]).is l[i] = true from isVa hv),
      branch_of (inR_nat hc), rowAt_nat hc, branch_of (okC_at hr hc), rowsV_drop hi, rowsC_drop hc, fitsR]
    show branch (.bool (fitsV (vaR l[i]) (coR r[i]) != 0)) _ _ = _
    cases hq : fitsV (vaR l[i]) (coR r[i]) != 0 with
    | true => rw [branch_true]; exact rfr_ret F (fitsV (vaR l[i]) (coR r[i])) st
    | false => rw [branch_false, wrap_n hi hn]; exact rfr_all F z y l r st hl hr hn he k (i + 1) m (by omega) (by omega)
noncomputable def okRC (a : Ro2) : Bool := okV a.1.2 && (okC a.2.2 && cdec (a.1.2.length ≤ 1000))
theorem okRC_iff {a : Ro2} : okRC a = true ↔ okV a.1.2 = true ∧ okC a.2.2 = true ∧ a.1.2.length ≤ 1000 := by
  simp only [okRC, Bool.and_eq_true, cdec_iff]
noncomputable def p15 : POrc Tryz.prog := f15.pureIf dec2r (fun a => [nsA a.1, nsA a.2]) dec2r_enc okRC (fun a => .int .i64 (fitsRow a.1.2 a.2.2)) (fun a _ => ⟨rfl, fun _ _ => trivial⟩) fun a h => ⟨1001, fun st => by
  obtain ⟨h1, h2, h3⟩ := okRC_iff.mp h
  refine (fr_run 1001 a.1.1 a.2.1 a.1.2 a.2.2 st).trans ?_
  unfold fitsRow
  by_cases he : a.1.2.length = a.2.2.length
  · rw [show ((a.1.2.length : Int) != a.2.2.length) = false by simp [he]]
    exact fr_all 1001 a.1.1 a.2.1 a.1.2 a.2.2 st h1 h2 h3 he a.1.2.length 0 1001 (by omega) (by omega)
  · rw [show ((a.1.2.length : Int) != a.2.2.length) = true by rw [bne_iff_ne]; omega]; rfl⟩
noncomputable def p16 : POrc Tryz.prog := f16.pureIf dec2r (fun a => [nsA a.1, nsA a.2]) dec2r_enc okRC (fun a => .int .i64 (fitsRow a.1.2 a.2.2)) (fun a _ => ⟨rfl, fun _ _ => trivial⟩) fun a h => ⟨1001, fun st => by
  obtain ⟨h1, h2, h3⟩ := okRC_iff.mp h
  refine (rfr_run 1001 a.1.1 a.2.1 a.1.2 a.2.2 st).trans ?_
  unfold fitsRow
  by_cases he : a.1.2.length = a.2.2.length
  · rw [show ((a.1.2.length : Int) != a.2.2.length) = false by simp [he]]
    exact rfr_all 1001 a.1.1 a.2.1 a.1.2 a.2.2 st h1 h2 h3 he a.1.2.length 0 1001 (by omega) (by omega)
  · rw [show ((a.1.2.length : Int) != a.2.2.length) = true by rw [bne_iff_ne]; omega]; rfl⟩
theorem scoped_va {n m : Nat} {r : List AV} (h : isRow tVa r = true) : ScopedL n m r := by
  rw [isRow_va h]; exact ⟨trivial, trivial, trivial, trivial⟩
theorem scoped_okV {n m : Nat} : ∀ {l : List (List AV)}, okV l = true → ScopedR n m l
  | [], _ => trivial
  | r :: l, h => by
    simp only [okV, List.all_cons, Bool.and_eq_true] at h
    exact ⟨scoped_va h.1, scoped_okV h.2⟩
noncomputable def p6 : POrc Tryz.prog := f6.seenAs dec1r (fun a => [nsA a]) dec1r_enc okN (fun a => .ns false 3 a.2) fun a h => by
  obtain ⟨h1, h2⟩ := okN_iff.mp h
  obtain ⟨z, l⟩ := a
  refine ⟨⟨scoped_okV h1, trivial⟩, .sl 3 (match l with | [] => true | _ => false) l, 0, ?_⟩
  have hr := cp_run 0 z l ⟨[], []⟩
  cases l with
  | nil => exact ⟨_, _, rfl, trivial, hr, fun _ _ _ => ns_of_sl⟩
  | cons x l =>
    rw [onCons_cons, if_pos (by simp at h2 ⊢; omega)] at hr
    exact ⟨_, _, rfl, scoped_okV h1, hr, fun _ _ _ => ns_of_sl⟩
end Go.Proofs.YtcfedmheblbdnaaGreatDoor.V

/- What the functions' runs come to; the right sides were printed by a tool, Lean checks them. -/
set_option linter.unusedVariables false
set_option maxRecDepth 100000
namespace Go.Proofs.YtcfedmheblbdnaaGreatDoor.V
open Go Go.V Go.RowKit

theorem sb_run (F : Nat) (z y : Bool) (l r : List (List AV)) (st : St) :
 (f17.run F [.ns z 1 l, .ns y 1 r] st : Ans) =
 branch (AV.bool ((↑l.length : Int) != (↑r.length : Int))) (some (Fin.ret (AV.bool false), st))
 (loopRun (f17_l0.run F) [0, 1, 5]
 (Cont.block 0 (Cont.then (f17_r0.run F (f17.leaveK Fun.done)) (f17.leaveK Fun.done))) F
 (Env.mk 26
 [(0, AV.ns z 1 l), (1, AV.ns y 1 r), (5, AV.int IntKind.i64 (0 : Int))])
 st) := by kernel_rfl

theorem sb_round (F m : Nat) (K : Cont) (z y : Bool) (l r : List (List AV)) (i : Int) (st : St) :
 (loopRun (f17_l0.run F) [0, 1, 5] K m.succ (Env.mk 26 [(0, .ns z 1 l), (1, .ns y 1 r), (5, .int .i64 i)]) st : Ans) =
 branch (AV.bool (decide (i < (↑l.length : Int))))
 (branch (AV.bool (inR l i))
 (branch (AV.bool ((LD.one (LT.int IntKind.u8)).is (V.rowAt l i)))
 (branch (AV.bool (inR r i))
 (branch (AV.bool ((LD.one (LT.int IntKind.u8)).is (V.rowAt r i)))
 (branch (AV.bool (hdI (V.rowAt l i) != hdI (V.rowAt r i)))
 (K AX.ret (Env.mk 26 [(4, AV.bool false)]) st)
 (loopRun (f17_l0.run F) [0, 1, 5] K m
 (Env.mk 26
 [(0, AV.ns z 1 l), (1, AV.ns y 1 r),
 (5, AV.int IntKind.i64 (IntKind.i64.wrap (i + (1 : Int))))])
 st))
 none)
 none)
 none)
 none)
 (K (AX.exit 0) (Env.mk 26 []) st) := by kernel_rfl

theorem sb_out (F : Nat) (st : St) :
 ((Cont.block 0 (Cont.then (f17_r0.run F (f17.leaveK Fun.done)) (f17.leaveK Fun.done))) (.exit 0) (Env.mk 26 []) st : Ans) =
 some (Fin.ret (AV.bool true), st) := by kernel_rfl

theorem sb_ret (F : Nat) (b : Bool) (st : St) :
 ((Cont.block 0 (Cont.then (f17_r0.run F (f17.leaveK Fun.done)) (f17.leaveK Fun.done))) .ret (Env.mk 26 [(4, .bool b)]) st : Ans) =
 some (Fin.ret (AV.bool b), st) := by kernel_rfl

end Go.Proofs.YtcfedmheblbdnaaGreatDoor.V

/- The functions' pieces, as told by gen.py. -/
set_option linter.unusedVariables false
set_option maxRecDepth 20000
namespace Go.Proofs.YtcfedmheblbdnaaGreatDoor.K
open Go Go.V Go.RowKit

theorem sz5 : (Tryz.prog.info? 5).map (·.size) = some 1 := by kernel_rfl
theorem ze5 : (Tryz.prog.info? 5).bind (·.zero) = some (.int .u8 0) := by kernel_rfl
theorem by5 : (Tryz.prog.info? 5).map (·.bytes) = some 1 := by kernel_rfl
theorem el25 : ElemOf Tryz.prog 25 5 1 1 (.int .u8 0) := ⟨Tryz.underlying25, sz5, by5, ze5, by kernel_rfl, by decide⟩
theorem fl73_0 : fieldB Tryz.prog 73 0 0 1 false = true := by kernel_rfl
theorem sz25 : (Tryz.prog.info? 25).map (·.size) = some 1 := by kernel_rfl
theorem fl73_1 : fieldB Tryz.prog 73 1 1 1 false = true := by kernel_rfl
theorem sz4 : (Tryz.prog.info? 4).map (·.size) = some 1 := by kernel_rfl
theorem mixed : Tryz.prog.follows .mixedOrders = true := by kernel_rfl

/-! ### 68: interlock/bits.digits (25); results 2, 3; slots: 0 b, 1 b, 4 u, 5 i, 6 c, 7 d -/
/-- A loop's round; at its head live: 4 u, 12 , 13 , 14  -/
noncomputable def f68_l0 : Sim Tryz.prog :=
 (.seq (.live [4, 12, 13, 14, 15] (.region 3 [
 ⟨(opBin (some 15) .lss 3 (.tmp 14) (.tmp 13) 3 0 "bits.go:55" #[]).op, none⟩
 ] (by kernel_rfl)))
 (.seq (.cond (.tmp 15)
 .skip
 (.live [] (.exit 0)))
 (.seq (.block 1 (.seq (.live [4, 5, 6, 12, 13, 14] (.region 4 [
 ⟨(opMove (some 16) (.tmp 14) 3 "bits.go:55" #[]).op, none⟩,
 ⟨(opIndexAddr (some 17) 25 (.tmp 12) (.tmp 14) 5 1 Tryz.underlying25 sz5 0 "bits.go:55" #[]).op, none⟩,
 ⟨(opLoad (some 18) 5 (.tmp 17) (.int .u8) Tryz.underlying5 1 sz5 5 "bits.go:55" #[{ on := 1, ground := Ground.data }]).op, none⟩,
 ⟨(opAssign (some 5) (.tmp 16) 3 "bits.go:55" #[{ on := 0, ground := Ground.data }, { on := 0, ground := Ground.phase }, { on := 1, ground := Ground.phase }, { on := 2, ground := Ground.phase }]).op, none⟩,
 ⟨(opAssign (some 6) (.tmp 18) 5 "bits.go:55" #[{ on := 2, ground := Ground.data }, { on := 3, ground := Ground.chain }, { on := 0, ground := Ground.phase }, { on := 1, ground := Ground.phase }, { on := 2, ground := Ground.phase }, { on := 3, ground := Ground.phase }]).op, none⟩
 ] (by kernel_rfl)))
 (.seq (.live [4, 5, 6, 7, 12, 13, 14] (.region 5 [
 ⟨(opMove (some 19) (.tmp 6) 5 "bits.go:56" #[]).op, none⟩,
 ⟨(opBin (some 20) .andNot 5 (.tmp 19) (.const (Value.int IntKind.u8 128)) 5 5 "bits.go:56" #[{ on := 0, ground := Ground.data }]).op, none⟩,
 ⟨(opConvInt (some 21) 5 69 (.tmp 20) (.int .u8) Tryz.underlying5 .u64 Tryz.underlying69 69 "bits.go:56" #[{ on := 1, ground := Ground.data }]).op, none⟩,
 ⟨(opAssign (some 7) (.tmp 21) 69 "bits.go:56" #[{ on := 2, ground := Ground.data }, { on := 0, ground := Ground.phase }, { on := 1, ground := Ground.phase }, { on := 2, ground := Ground.phase }]).op, none⟩
 ] (by kernel_rfl)))
 (.seq (.seq (.live [4, 5, 6, 7, 12, 13, 14, 27] (.region 6 [
 ⟨(opMove (some 22) (.tmp 5) 3 "bits.go:57" #[]).op, none⟩,
 ⟨(opBin (some 23) .eql 3 (.tmp 22) (.const (Value.int IntKind.i64 9)) 3 4 "bits.go:57" #[{ on := 0, ground := Ground.data }]).op, none⟩,
 ⟨(opMove (some 24) (.tmp 23) 4 "bits.go:57" #[{ on := 1, ground := Ground.data }]).op, none⟩,
 ⟨(opMove (some 25) (.tmp 7) 69 "bits.go:57" #[{ on := 2, ground := Ground.guard }]).op, (some (2, 24, true))⟩,
 ⟨(opBin (some 26) .gtr 69 (.tmp 25) (.const (Value.int IntKind.u64 1)) 69 4 "bits.go:57" #[{ on := 3, ground := Ground.data }, { on := 2, ground := Ground.guard }]).op, (some (2, 24, true))⟩,
 ⟨(opPick (some 27) (.tmp 24) (.tmp 26) (.const (Value.bool false)) 4 "bits.go:57" #[{ on := 2, ground := Ground.data }, { on := 4, ground := Ground.data }]).op, none⟩
 ] (by kernel_rfl)))
 (.cond (.tmp 27)
 (.seq (.live [2, 3] (.region 7 [
 ⟨(opAssign (some 2) (.const (Value.int IntKind.u64 0)) 69 "bits.go:58" #[]).op, none⟩,
 ⟨(opAssign (some 3) (.const (Value.int IntKind.i64 0)) 3 "bits.go:58" #[{ on := 0, ground := Ground.chain }, { on := 0, ground := Ground.phase }]).op, none⟩
 ] (by kernel_rfl)))
 (.live [2, 3] .ret))
 .skip))
 (.seq (.live [4, 5, 6, 7, 12, 13, 14] (.region 8 [
 ⟨(opMove (some 28) (.tmp 4) 69 "bits.go:60" #[]).op, none⟩,
 ⟨(opMove (some 29) (.tmp 7) 69 "bits.go:60" #[]).op, none⟩,
 ⟨(opMove (some 30) (.tmp 5) 3 "bits.go:60" #[]).op, none⟩,
 ⟨(opBin (some 31) .mul 3 (.const (Value.int IntKind.i64 7)) (.tmp 30) 3 3 "bits.go:60" #[{ on := 2, ground := Ground.data }]).op, none⟩,
 ⟨(opBin (some 32) .shl 69 (.tmp 29) (.tmp 31) 3 69 "bits.go:60" #[{ on := 1, ground := Ground.data }, { on := 3, ground := Ground.data }]).op, none⟩,
 ⟨(opBin (some 33) .or 69 (.tmp 28) (.tmp 32) 69 69 "bits.go:60" #[{ on := 0, ground := Ground.data }, { on := 4, ground := Ground.data }]).op, none⟩,
 ⟨(opAssign (some 4) (.tmp 33) 69 "bits.go:60" #[{ on := 5, ground := Ground.data }, { on := 0, ground := Ground.phase }, { on := 1, ground := Ground.phase }, { on := 2, ground := Ground.phase }, { on := 3, ground := Ground.phase }, { on := 4, ground := Ground.phase }, { on := 5, ground := Ground.phase }]).op, none⟩
 ] (by kernel_rfl)))
 (.seq (.live [4, 5, 7, 12, 13, 14, 35] (.region 9 [
 ⟨(opMove (some 34) (.tmp 6) 5 "bits.go:61" #[]).op, none⟩,
 ⟨(opBin (some 35) .lss 5 (.tmp 34) (.const (Value.int IntKind.u8 128)) 5 4 "bits.go:61" #[{ on := 0, ground := Ground.data }]).op, none⟩
 ] (by kernel_rfl)))
 (.cond (.tmp 35)
 (.seq (.seq (.live [4, 5, 41] (.region 10 [
 ⟨(opMove (some 36) (.tmp 7) 69 "bits.go:62" #[]).op, none⟩,
 ⟨(opBin (some 37) .eql 69 (.tmp 36) (.const (Value.int IntKind.u64 0)) 69 4 "bits.go:62" #[{ on := 0, ground := Ground.data }]).op, none⟩,
 ⟨(opMove (some 38) (.tmp 37) 4 "bits.go:62" #[{ on := 1, ground := Ground.data }]).op, none⟩,
 ⟨(opMove (some 39) (.tmp 5) 3 "bits.go:62" #[{ on := 2, ground := Ground.guard }]).op, (some (2, 38, true))⟩,
 ⟨(opBin (some 40) .gtr 3 (.tmp 39) (.const (Value.int IntKind.i64 0)) 3 4 "bits.go:62" #[{ on := 3, ground := Ground.data }, { on := 2, ground := Ground.guard }]).op, (some (2, 38, true))⟩,
 ⟨(opPick (some 41) (.tmp 38) (.tmp 40) (.const (Value.bool false)) 4 "bits.go:62" #[{ on := 2, ground := Ground.data }, { on := 4, ground := Ground.data }]).op, none⟩
 ] (by kernel_rfl)))
 (.cond (.tmp 41)
 (.seq (.live [2, 3] (.region 11 [
 ⟨(opAssign (some 2) (.const (Value.int IntKind.u64 0)) 69 "bits.go:63" #[]).op, none⟩,
 ⟨(opAssign (some 3) (.const (Value.int IntKind.i64 0)) 3 "bits.go:63" #[{ on := 0, ground := Ground.chain }, { on := 0, ground := Ground.phase }]).op, none⟩
 ] (by kernel_rfl)))
 (.live [2, 3] .ret))
 .skip))
 (.seq (.live [2, 3] (.region 12 [
 ⟨(opMove (some 42) (.tmp 4) 69 "bits.go:65" #[]).op, none⟩,
 ⟨(opMove (some 43) (.tmp 5) 3 "bits.go:65" #[{ on := 3, ground := (Ground.gcOnly Departure.lateStores) }]).op, none⟩,
 ⟨(opBin (some 44) .add 3 (.tmp 43) (.const (Value.int IntKind.i64 1)) 3 3 "bits.go:65" #[{ on := 1, ground := Ground.data }, { on := 3, ground := (Ground.gcOnly Departure.lateStores) }]).op, none⟩,
 ⟨(opAssign (some 2) (.tmp 42) 69 "bits.go:65" #[{ on := 0, ground := Ground.data }, { on := 0, ground := Ground.phase }, { on := 1, ground := (Ground.textOnly Departure.lateStores) }, { on := 2, ground := (Ground.textOnly Departure.lateStores) }]).op, none⟩,
 ⟨(opAssign (some 3) (.tmp 44) 3 "bits.go:65" #[{ on := 2, ground := Ground.data }, { on := 3, ground := Ground.chain }, { on := 0, ground := Ground.phase }, { on := 1, ground := Ground.phase }, { on := 2, ground := Ground.phase }, { on := 3, ground := Ground.phase }]).op, none⟩
 ] (by kernel_rfl)))
 (.live [2, 3] .ret)))
 .skip)))))))
 (.live [4, 12, 13, 14] (.region 13 [
 ⟨(opBin (some 45) .add 3 (.tmp 14) (.const (Value.int IntKind.i64 1)) 3 3 "bits.go:55" #[]).op, none⟩,
 ⟨(opMove (some 14) (.tmp 45) 3 "bits.go:55" #[{ on := 0, ground := Ground.data }]).op, none⟩
 ] (by kernel_rfl))))))

/-- What follows a loop. -/
noncomputable def f68_r0 : Sim Tryz.prog :=
 (.seq (.live [2, 3] (.region 14 [
 ⟨(opAssign (some 2) (.const (Value.int IntKind.u64 0)) 69 "bits.go:68" #[]).op, none⟩,
 ⟨(opAssign (some 3) (.const (Value.int IntKind.i64 0)) 3 "bits.go:68" #[{ on := 0, ground := Ground.chain }, { on := 0, ground := Ground.phase }]).op, none⟩
 ] (by kernel_rfl)))
 (.live [2, 3] .ret))

noncomputable def f68_b : Sim Tryz.prog :=
 (.seq (.live [0] (.region 0 [
 ⟨(opAssign (some 2) (.const (Value.int IntKind.u64 0)) 69 "bits.go:53" #[]).op, none⟩,
 ⟨(opAssign (some 3) (.const (Value.int IntKind.i64 0)) 3 "bits.go:53" #[{ on := 0, ground := Ground.chain }]).op, none⟩
 ] (by kernel_rfl)))
 (.seq (.live [0, 4] (.region 1 [
 ⟨(opAssign (some 4) (.const (Value.int IntKind.u64 0)) 69 "bits.go:54" #[]).op, none⟩
 ] (by kernel_rfl)))
 (.seq (.seq (.live [4, 12, 13, 14] (.region 2 [
 ⟨(opMove (some 8) (.tmp 0) 25 "bits.go:55" #[]).op, none⟩,
 ⟨(opMove (some 9) (.tmp 0) 25 "bits.go:55" #[]).op, none⟩,
 ⟨(opLen (some 10) (.tmp 9) 25 (.slice 5) Tryz.underlying25 3 "bits.go:55" #[{ on := 1, ground := Ground.data }]).op, none⟩,
 ⟨(opMinMax (some 11) false (.tmp 10) [(.const (Value.int IntKind.i64 10))] #[3, 3] 3 "bits.go:55" #[{ on := 2, ground := Ground.data }]).op, none⟩,
 ⟨(opSlice (some 12) 25 (.tmp 8) none (some (.tmp 11)) none 5 1 Tryz.underlying25 sz5 25 "bits.go:55" #[{ on := 0, ground := Ground.data }, { on := 3, ground := Ground.data }]).op, none⟩,
 ⟨(opLen (some 13) (.tmp 12) 25 (.slice 5) Tryz.underlying25 3 "bits.go:55" #[{ on := 4, ground := Ground.data }]).op, none⟩,
 ⟨(opMove (some 14) (.const (Value.int IntKind.i64 0)) 3 "bits.go:55" #[]).op, none⟩
 ] (by kernel_rfl)))
 (.block 0 (.loop [4, 12, 13, 14] f68_l0)))
 f68_r0)))

noncomputable def f68 : Fun Tryz.prog where
 id := 68
 fn := Tryz.f68
 hf := Tryz.func68
 hname := by kernel_rfl
 body := f68_b
 hbody := by kernel_rfl
 res := [rTmp 2, rTmp 3]
 hres := by kernel_rfl
 n := 46
 hn := by kernel_rfl

/-! ### 69: interlock/bits.unfold (69); results 2; slots: 0 u, 1 u -/
noncomputable def f69_b : Sim Tryz.prog :=
 (.seq (.live [0] (.region 0 [
 ⟨(opAssign (some 2) (.const (Value.int IntKind.i64 0)) 3 "bits.go:16" #[]).op, none⟩
 ] (by kernel_rfl)))
 (.seq (.live [2] (.region 1 [
 ⟨(opMove (some 3) (.tmp 0) 69 "bits.go:16" #[]).op, none⟩,
 ⟨(opBin (some 4) .shr 69 (.tmp 3) (.const (Value.int IntKind.u64 1)) 71 69 "bits.go:16" #[{ on := 0, ground := Ground.data }]).op, none⟩,
 ⟨(opConvInt (some 5) 69 3 (.tmp 4) (.int .u64) Tryz.underlying69 .i64 Tryz.underlying3 3 "bits.go:16" #[{ on := 1, ground := Ground.data }]).op, none⟩,
 ⟨(opMove (some 6) (.tmp 0) 69 "bits.go:16" #[]).op, none⟩,
 ⟨(opBin (some 7) .and 69 (.tmp 6) (.const (Value.int IntKind.u64 1)) 69 69 "bits.go:16" #[{ on := 3, ground := Ground.data }]).op, none⟩,
 ⟨(opConvInt (some 8) 69 3 (.tmp 7) (.int .u64) Tryz.underlying69 .i64 Tryz.underlying3 3 "bits.go:16" #[{ on := 4, ground := Ground.data }]).op, none⟩,
 ⟨(opNeg (some 9) 3 (.tmp 8) 3 "bits.go:16" #[{ on := 5, ground := Ground.data }]).op, none⟩,
 ⟨(opBin (some 10) .xor 3 (.tmp 5) (.tmp 9) 3 3 "bits.go:16" #[{ on := 2, ground := Ground.data }, { on := 6, ground := Ground.data }]).op, none⟩,
 ⟨(opAssign (some 2) (.tmp 10) 3 "bits.go:16" #[{ on := 7, ground := Ground.data }, { on := 0, ground := Ground.phase }, { on := 1, ground := Ground.phase }, { on := 2, ground := Ground.phase }, { on := 3, ground := Ground.phase }, { on := 4, ground := Ground.phase }, { on := 5, ground := Ground.phase }, { on := 6, ground := Ground.phase }, { on := 7, ground := Ground.phase }]).op, none⟩
 ] (by kernel_rfl)))
 (.live [2] .ret)))

noncomputable def f69 : Fun Tryz.prog where
 id := 69
 fn := Tryz.f69
 hf := Tryz.func69
 hname := by kernel_rfl
 body := f69_b
 hbody := by kernel_rfl
 res := [rTmp 2]
 hres := by kernel_rfl
 n := 11
 hn := by kernel_rfl

/-! ### 50: interlock/bits.fold (3); results 2; slots: 0 n, 1 n -/
noncomputable def f50_b : Sim Tryz.prog :=
 (.seq (.live [0] (.region 0 [
 ⟨(opAssign (some 2) (.const (Value.int IntKind.u64 0)) 69 "bits.go:13" #[]).op, none⟩
 ] (by kernel_rfl)))
 (.seq (.live [2] (.region 1 [
 ⟨(opMove (some 3) (.tmp 0) 3 "bits.go:13" #[]).op, none⟩,
 ⟨(opConvInt (some 4) 3 69 (.tmp 3) (.int .i64) Tryz.underlying3 .u64 Tryz.underlying69 69 "bits.go:13" #[{ on := 0, ground := Ground.data }]).op, none⟩,
 ⟨(opBin (some 5) .shl 69 (.tmp 4) (.const (Value.int IntKind.u64 1)) 71 69 "bits.go:13" #[{ on := 1, ground := Ground.data }]).op, none⟩,
 ⟨(opMove (some 6) (.tmp 0) 3 "bits.go:13" #[]).op, none⟩,
 ⟨(opBin (some 7) .shr 3 (.tmp 6) (.const (Value.int IntKind.u64 63)) 71 3 "bits.go:13" #[{ on := 3, ground := Ground.data }]).op, none⟩,
 ⟨(opConvInt (some 8) 3 69 (.tmp 7) (.int .i64) Tryz.underlying3 .u64 Tryz.underlying69 69 "bits.go:13" #[{ on := 4, ground := Ground.data }]).op, none⟩,
 ⟨(opBin (some 9) .xor 69 (.tmp 5) (.tmp 8) 69 69 "bits.go:13" #[{ on := 2, ground := Ground.data }, { on := 5, ground := Ground.data }]).op, none⟩,
 ⟨(opAssign (some 2) (.tmp 9) 69 "bits.go:13" #[{ on := 6, ground := Ground.data }, { on := 0, ground := Ground.phase }, { on := 1, ground := Ground.phase }, { on := 2, ground := Ground.phase }, { on := 3, ground := Ground.phase }, { on := 4, ground := Ground.phase }, { on := 5, ground := Ground.phase }, { on := 6, ground := Ground.phase }]).op, none⟩
 ] (by kernel_rfl)))
 (.live [2] .ret)))

noncomputable def f50 : Fun Tryz.prog where
 id := 50
 fn := Tryz.f50
 hf := Tryz.func50
 hname := by kernel_rfl
 body := f50_b
 hbody := by kernel_rfl
 res := [rTmp 2]
 hres := by kernel_rfl
 n := 10
 hn := by kernel_rfl

/-! ### 17: interlock/interlockref00.SameBytes (25, 25); results 4; slots: 0 a, 1 b, 2 a, 3 b, 5 i -/
/-- A loop's round; at its head live: 0 a, 1 b, 5 i -/
noncomputable def f17_l0 : Sim Tryz.prog :=
 (.seq (.seq (.live [0, 1, 5, 14] (.region 4 [
 ⟨(opMove (some 11) (.tmp 5) 3 "ref.go:18" #[]).op, none⟩,
 ⟨(opMove (some 12) (.tmp 0) 25 "ref.go:18" #[]).op, none⟩,
 ⟨(opLen (some 13) (.tmp 12) 25 (.slice 5) Tryz.underlying25 3 "ref.go:18" #[{ on := 1, ground := Ground.data }]).op, none⟩,
 ⟨(opBin (some 14) .lss 3 (.tmp 11) (.tmp 13) 3 4 "ref.go:18" #[{ on := 0, ground := Ground.data }, { on := 2, ground := Ground.data }]).op, none⟩
 ] (by kernel_rfl)))
 (.cond (.tmp 14)
 .skip
 (.live [] (.exit 0))))
 (.seq (.block 1 (.seq (.live [0, 1, 5, 25] (.draw 6 [
 ⟨.p (opMove (some 17) (.tmp 0) 25 "ref.go:19" #[]), none⟩,
 ⟨.p (opMove (some 18) (.tmp 5) 3 "ref.go:19" #[]), none⟩,
 ⟨.pn (opIndexAddr (some 19) 25 (.tmp 17) (.tmp 18) 5 1 Tryz.underlying25 sz5 0 "ref.go:19" #[{ on := 0, ground := Ground.data }, { on := 1, ground := Ground.data }]) opIndexAddr_nat, none⟩,
 ⟨.qn (opLoad (some 20) 5 (.tmp 19) (.int .u8) Tryz.underlying5 1 sz5 5 "ref.go:19" #[{ on := 2, ground := Ground.data }]) opLoad_nat, none⟩,
 ⟨.p (opMove (some 21) (.tmp 1) 25 "ref.go:19" #[]), none⟩,
 ⟨.p (opMove (some 22) (.tmp 5) 3 "ref.go:19" #[]), none⟩,
 ⟨.pn (opIndexAddr (some 23) 25 (.tmp 21) (.tmp 22) 5 1 Tryz.underlying25 sz5 0 "ref.go:19" #[{ on := 4, ground := Ground.data }, { on := 5, ground := Ground.data }]) opIndexAddr_nat, none⟩,
 ⟨.qn (opLoad (some 24) 5 (.tmp 23) (.int .u8) Tryz.underlying5 1 sz5 5 "ref.go:19" #[{ on := 6, ground := Ground.data }]) opLoad_nat, none⟩,
 ⟨.pn (opBin (some 25) .neq 5 (.tmp 20) (.tmp 24) 5 4 "ref.go:19" #[{ on := 3, ground := Ground.data }, { on := 7, ground := Ground.data }]) opBin_nat, none⟩
 ] mixed (by kernel_rfl)))
 (.cond (.tmp 25)
 (.seq (.live [4] (.region 7 [
 ⟨(opAssign (some 4) (.const (Value.bool false)) 4 "ref.go:20" #[]).op, none⟩
 ] (by kernel_rfl)))
 (.live [4] .ret))
 .skip)))
 (.live [0, 1, 5] (.region 5 [
 ⟨(opMove (some 15) (.tmp 5) 3 "ref.go:18" #[]).op, none⟩,
 ⟨(opBin (some 16) .add 3 (.tmp 15) (.const (Value.int IntKind.i64 1)) 3 3 "ref.go:18" #[{ on := 0, ground := Ground.data }]).op, none⟩,
 ⟨(opAssign (some 5) (.tmp 16) 3 "ref.go:18" #[{ on := 1, ground := Ground.data }, { on := 0, ground := Ground.phase }, { on := 1, ground := Ground.phase }]).op, none⟩
 ] (by kernel_rfl)))))

/-- What follows a loop. -/
noncomputable def f17_r0 : Sim Tryz.prog :=
 (.seq (.live [4] (.region 8 [
 ⟨(opAssign (some 4) (.const (Value.bool true)) 4 "ref.go:23" #[]).op, none⟩
 ] (by kernel_rfl)))
 (.live [4] .ret))

noncomputable def f17_b : Sim Tryz.prog :=
 (.seq (.live [0, 1] (.region 0 [
 ⟨(opAssign (some 4) (.const (Value.bool false)) 4 "ref.go:14" #[]).op, none⟩
 ] (by kernel_rfl)))
 (.seq (.seq (.live [0, 1, 10] (.region 1 [
 ⟨(opMove (some 6) (.tmp 0) 25 "ref.go:15" #[]).op, none⟩,
 ⟨(opLen (some 7) (.tmp 6) 25 (.slice 5) Tryz.underlying25 3 "ref.go:15" #[{ on := 0, ground := Ground.data }]).op, none⟩,
 ⟨(opMove (some 8) (.tmp 1) 25 "ref.go:15" #[]).op, none⟩,
 ⟨(opLen (some 9) (.tmp 8) 25 (.slice 5) Tryz.underlying25 3 "ref.go:15" #[{ on := 2, ground := Ground.data }]).op, none⟩,
 ⟨(opBin (some 10) .neq 3 (.tmp 7) (.tmp 9) 3 4 "ref.go:15" #[{ on := 1, ground := Ground.data }, { on := 3, ground := Ground.data }]).op, none⟩
 ] (by kernel_rfl)))
 (.cond (.tmp 10)
 (.seq (.live [4] (.region 2 [
 ⟨(opAssign (some 4) (.const (Value.bool false)) 4 "ref.go:16" #[]).op, none⟩
 ] (by kernel_rfl)))
 (.live [4] .ret))
 .skip))
 (.seq (.seq (.live [0, 1, 5] (.region 3 [
 ⟨(opAssign (some 5) (.const (Value.int IntKind.i64 0)) 3 "ref.go:18" #[]).op, none⟩
 ] (by kernel_rfl)))
 (.block 0 (.loop [0, 1, 5] f17_l0)))
 f17_r0)))

noncomputable def f17 : Fun Tryz.prog where
 id := 17
 fn := Tryz.f17
 hf := Tryz.func17
 hname := by kernel_rfl
 body := f17_b
 hbody := by kernel_rfl
 res := [rTmp 4]
 hres := by kernel_rfl
 n := 26
 hn := by kernel_rfl

/-! ### 30: interlock/interlockref00.CopyBytes (25); results 2; slots: 0 b, 1 b, 3 out -/
noncomputable def f30_b : Sim Tryz.prog :=
 (.seq (.live [0] (.region 0 [
 ⟨(opAssign (some 2) (.const (Value.slice none 0 0)) 25 "ref.go:7" #[]).op, none⟩
 ] (by kernel_rfl)))
 (.seq (.live [0, 3] (.region 1 [
 ⟨(opBuildSlice (some 4) 25 0 [] 5 1 1 (.int .u8 0) el25 (by kernel_rfl) (by decide) 25 "ref.go:8" #[]).op, none⟩,
 ⟨(opAssign (some 3) (.tmp 4) 25 "ref.go:8" #[{ on := 0, ground := Ground.data }, { on := 0, ground := Ground.phase }]).op, none⟩
 ] (by kernel_rfl)))
 (.seq (.live [3] (.region 2 [
 ⟨(opMove (some 5) (.tmp 3) 25 "ref.go:9" #[]).op, none⟩,
 ⟨(opMove (some 6) (.tmp 0) 25 "ref.go:9" #[]).op, none⟩,
 ⟨(opAppend (some 7) (.tmp 5) (.tmp 6) 25 25 5 1 1 (.int .u8 0) el25 (.slice 5) Tryz.underlying25 rfl 25 "ref.go:9" #[{ on := 0, ground := Ground.data }, { on := 1, ground := Ground.data }]).op, none⟩,
 ⟨(opAssign (some 3) (.tmp 7) 25 "ref.go:9" #[{ on := 2, ground := Ground.data }, { on := 2, ground := Ground.chain }, { on := 0, ground := Ground.phase }, { on := 1, ground := Ground.phase }, { on := 2, ground := Ground.phase }]).op, none⟩
 ] (by kernel_rfl)))
 (.seq (.live [2] (.region 3 [
 ⟨(opMove (some 8) (.tmp 3) 25 "ref.go:10" #[]).op, none⟩,
 ⟨(opAssign (some 2) (.tmp 8) 25 "ref.go:10" #[{ on := 0, ground := Ground.data }, { on := 0, ground := Ground.phase }]).op, none⟩
 ] (by kernel_rfl)))
 (.live [2] .ret)))))

noncomputable def f30 : Fun Tryz.prog where
 id := 30
 fn := Tryz.f30
 hf := Tryz.func30
 hname := by kernel_rfl
 body := f30_b
 hbody := by kernel_rfl
 res := [rTmp 2]
 hres := by kernel_rfl
 n := 9
 hn := by kernel_rfl

/-! ### 53: (*interlock/bits.Reader).fail (47); results ; slots: 0 r, 1 r -/
noncomputable def f53_b : Sim Tryz.prog :=
 (.live [] (.region 0 [
 ⟨(opMove (some 2) (.tmp 0) 47 "bits.go:50" #[]).op, none⟩,
 ⟨(opMove (some 3) (.tmp 0) 47 "bits.go:50" #[{ on := 4, ground := (Ground.gcOnly Departure.lateStores) }]).op, none⟩,
 ⟨(opNilCheck (some 4) (.tmp 2) 0 "bits.go:50" #[{ on := 0, ground := Ground.data }, { on := 0, ground := Ground.phase }, { on := 1, ground := (Ground.textOnly Departure.lateStores) }]).op, none⟩,
 ⟨(opFieldAddr (some 5) 73 (.tmp 4) 0 0 1 false fl73_0 (by decide) 0 "bits.go:50" #[{ on := 2, ground := Ground.data }, { on := 0, ground := Ground.phase }, { on := 1, ground := (Ground.textOnly Departure.lateStores) }]).op, none⟩,
 ⟨(opStore none 25 (.tmp 5) (.const (Value.slice none 0 0)) 1 sz25 0 "bits.go:50" #[{ on := 3, ground := Ground.data }, { on := 0, ground := Ground.phase }, { on := 1, ground := (Ground.textOnly Departure.lateStores) }]).op, none⟩,
 ⟨(opNilCheck (some 6) (.tmp 3) 0 "bits.go:50" #[{ on := 1, ground := Ground.data }, { on := 0, ground := Ground.phase }, { on := 1, ground := Ground.phase }, { on := 2, ground := Ground.phase }, { on := 3, ground := Ground.phase }, { on := 4, ground := Ground.phase }]).op, none⟩,
 ⟨(opFieldAddr (some 7) 73 (.tmp 6) 1 1 1 false fl73_1 (by decide) 0 "bits.go:50" #[{ on := 5, ground := Ground.data }, { on := 0, ground := Ground.phase }, { on := 1, ground := Ground.phase }, { on := 2, ground := Ground.phase }, { on := 3, ground := Ground.phase }, { on := 4, ground := Ground.phase }]).op, none⟩,
 ⟨(opStore none 4 (.tmp 7) (.const (Value.bool true)) 1 sz4 0 "bits.go:50" #[{ on := 6, ground := Ground.data }, { on := 4, ground := Ground.chain }, { on := 0, ground := Ground.phase }, { on := 1, ground := Ground.phase }, { on := 2, ground := Ground.phase }, { on := 3, ground := Ground.phase }, { on := 4, ground := Ground.phase }]).op, none⟩
 ] (by kernel_rfl)))

noncomputable def f53 : Fun Tryz.prog where
 id := 53
 fn := Tryz.f53
 hf := Tryz.func53
 hname := by kernel_rfl
 body := f53_b
 hbody := by kernel_rfl
 res := []
 hres := by kernel_rfl
 n := 8
 hn := by kernel_rfl

/-! ### 29: (*interlock/bits.Reader).Done (47); results 2; slots: 0 r, 1 r -/
noncomputable def f29_b : Sim Tryz.prog :=
 (.seq (.live [0] (.region 0 [
 ⟨(opAssign (some 2) (.const (Value.bool false)) 4 "bits.go:132" #[]).op, none⟩
 ] (by kernel_rfl)))
 (.seq (.live [2] (.region 1 [
 ⟨(opMove (some 3) (.tmp 0) 47 "bits.go:132" #[]).op, none⟩,
 ⟨(opNilCheck (some 4) (.tmp 3) 0 "bits.go:132" #[{ on := 0, ground := Ground.data }]).op, none⟩,
 ⟨(opFieldAddr (some 5) 73 (.tmp 4) 1 1 1 false fl73_1 (by decide) 0 "bits.go:132" #[{ on := 1, ground := Ground.data }]).op, none⟩,
 ⟨(opLoad (some 6) 4 (.tmp 5) .bool Tryz.underlying4 1 sz4 4 "bits.go:132" #[{ on := 2, ground := Ground.data }]).op, none⟩,
 ⟨(opNot (some 7) 4 (.tmp 6) 4 "bits.go:132" #[{ on := 3, ground := Ground.data }]).op, none⟩,
 ⟨(opMove (some 8) (.tmp 7) 4 "bits.go:132" #[{ on := 4, ground := Ground.data }]).op, none⟩,
 ⟨(opMove (some 9) (.tmp 0) 47 "bits.go:132" #[{ on := 5, ground := Ground.guard }]).op, (some (5, 8, true))⟩,
 ⟨(opNilCheck (some 10) (.tmp 9) 0 "bits.go:132" #[{ on := 6, ground := Ground.data }, { on := 5, ground := Ground.guard }]).op, (some (5, 8, true))⟩,
 ⟨(opFieldAddr (some 11) 73 (.tmp 10) 0 0 1 false fl73_0 (by decide) 0 "bits.go:132" #[{ on := 7, ground := Ground.data }, { on := 5, ground := Ground.guard }]).op, (some (5, 8, true))⟩,
 ⟨(opLoad (some 12) 25 (.tmp 11) (.slice 5) Tryz.underlying25 1 sz25 25 "bits.go:132" #[{ on := 8, ground := Ground.data }, { on := 5, ground := Ground.guard }]).op, (some (5, 8, true))⟩,
 ⟨(opLen (some 13) (.tmp 12) 25 (.slice 5) Tryz.underlying25 3 "bits.go:132" #[{ on := 9, ground := Ground.data }, { on := 5, ground := Ground.guard }]).op, (some (5, 8, true))⟩,
 ⟨(opBin (some 14) .eql 3 (.tmp 13) (.const (Value.int IntKind.i64 0)) 3 4 "bits.go:132" #[{ on := 10, ground := Ground.data }, { on := 5, ground := Ground.guard }]).op, (some (5, 8, true))⟩,
 ⟨(opPick (some 15) (.tmp 8) (.tmp 14) (.const (Value.bool false)) 4 "bits.go:132" #[{ on := 5, ground := Ground.data }, { on := 11, ground := Ground.data }]).op, none⟩,
 ⟨(opAssign (some 2) (.tmp 15) 4 "bits.go:132" #[{ on := 12, ground := Ground.data }, { on := 5, ground := Ground.chain }, { on := 0, ground := Ground.phase }, { on := 1, ground := Ground.phase }, { on := 2, ground := Ground.phase }, { on := 3, ground := Ground.phase }, { on := 4, ground := Ground.phase }, { on := 5, ground := Ground.phase }, { on := 6, ground := Ground.phase }, { on := 7, ground := Ground.phase }, { on := 8, ground := Ground.phase }, { on := 9, ground := Ground.phase }, { on := 10, ground := Ground.phase }, { on := 11, ground := Ground.phase }, { on := 12, ground := Ground.phase }]).op, none⟩
 ] (by kernel_rfl)))
 (.live [2] .ret)))

noncomputable def f29 : Fun Tryz.prog where
 id := 29
 fn := Tryz.f29
 hf := Tryz.func29
 hname := by kernel_rfl
 body := f29_b
 hbody := by kernel_rfl
 res := [rTmp 2]
 hres := by kernel_rfl
 n := 16
 hn := by kernel_rfl

/-! ### 24: interlock/interlockref01.Int (3); results 2; slots: 0 n, 1 n, 3 u, 4 out -/
/-- A loop's round; at its head live: 3 u, 4 out -/
noncomputable def f24_l0 : Sim Tryz.prog :=
 (.seq (.seq (.live [3, 4, 18] (.region 5 [
 ⟨(opMove (some 17) (.tmp 3) 69 "ref.go:11" #[]).op, none⟩,
 ⟨(opBin (some 18) .geq 69 (.tmp 17) (.const (Value.int IntKind.u64 128)) 69 4 "ref.go:11" #[{ on := 0, ground := Ground.data }]).op, none⟩
 ] (by kernel_rfl)))
 (.cond (.tmp 18)
 .skip
 (.live [3, 4] (.exit 0))))
 (.block 1 (.seq (.live [3, 4] (.region 6 [
 ⟨(opMove (some 19) (.tmp 4) 25 "ref.go:12" #[]).op, none⟩,
 ⟨(opMove (some 20) (.tmp 3) 69 "ref.go:12" #[]).op, none⟩,
 ⟨(opBin (some 21) .rem 69 (.tmp 20) (.const (Value.int IntKind.u64 128)) 69 69 "ref.go:12" #[{ on := 1, ground := Ground.data }]).op, none⟩,
 ⟨(opConvInt (some 22) 69 5 (.tmp 21) (.int .u64) Tryz.underlying69 .u8 Tryz.underlying5 5 "ref.go:12" #[{ on := 2, ground := Ground.data }]).op, none⟩,
 ⟨(opBin (some 23) .add 5 (.tmp 22) (.const (Value.int IntKind.u8 128)) 5 5 "ref.go:12" #[{ on := 3, ground := Ground.data }]).op, none⟩,
 ⟨(opBuildSlice (some 24) 25 1 [(0, (.tmp 23))] 5 1 1 (.int .u8 0) el25 (by kernel_rfl) (by decide) 25 "ref.go:12" #[{ on := 4, ground := Ground.data }]).op, none⟩,
 ⟨(opAppend (some 25) (.tmp 19) (.tmp 24) 25 25 5 1 1 (.int .u8 0) el25 (.slice 5) Tryz.underlying25 rfl 25 "ref.go:12" #[{ on := 0, ground := Ground.data }, { on := 5, ground := Ground.data }]).op, none⟩,
 ⟨(opAssign (some 4) (.tmp 25) 25 "ref.go:12" #[{ on := 6, ground := Ground.data }, { on := 6, ground := Ground.chain }, { on := 0, ground := Ground.phase }, { on := 1, ground := Ground.phase }, { on := 2, ground := Ground.phase }, { on := 3, ground := Ground.phase }, { on := 4, ground := Ground.phase }, { on := 5, ground := Ground.phase }, { on := 6, ground := Ground.phase }]).op, none⟩
 ] (by kernel_rfl)))
 (.live [3, 4] (.region 7 [
 ⟨(opMove (some 26) (.tmp 3) 69 "ref.go:13" #[]).op, none⟩,
 ⟨(opBin (some 27) .quo 69 (.tmp 26) (.const (Value.int IntKind.u64 128)) 69 69 "ref.go:13" #[{ on := 0, ground := Ground.data }]).op, none⟩,
 ⟨(opAssign (some 3) (.tmp 27) 69 "ref.go:13" #[{ on := 1, ground := Ground.data }, { on := 0, ground := Ground.phase }, { on := 1, ground := Ground.phase }]).op, none⟩
 ] (by kernel_rfl))))))

/-- What follows a loop. -/
noncomputable def f24_r0 : Sim Tryz.prog :=
 (.seq (.live [2] (.region 8 [
 ⟨(opMove (some 28) (.tmp 4) 25 "ref.go:15" #[]).op, none⟩,
 ⟨(opMove (some 29) (.tmp 3) 69 "ref.go:15" #[]).op, none⟩,
 ⟨(opConvInt (some 30) 69 5 (.tmp 29) (.int .u64) Tryz.underlying69 .u8 Tryz.underlying5 5 "ref.go:15" #[{ on := 1, ground := Ground.data }]).op, none⟩,
 ⟨(opBuildSlice (some 31) 25 1 [(0, (.tmp 30))] 5 1 1 (.int .u8 0) el25 (by kernel_rfl) (by decide) 25 "ref.go:15" #[{ on := 2, ground := Ground.data }]).op, none⟩,
 ⟨(opAppend (some 32) (.tmp 28) (.tmp 31) 25 25 5 1 1 (.int .u8 0) el25 (.slice 5) Tryz.underlying25 rfl 25 "ref.go:15" #[{ on := 0, ground := Ground.data }, { on := 3, ground := Ground.data }]).op, none⟩,
 ⟨(opAssign (some 2) (.tmp 32) 25 "ref.go:15" #[{ on := 4, ground := Ground.data }, { on := 4, ground := Ground.chain }, { on := 0, ground := Ground.phase }, { on := 1, ground := Ground.phase }, { on := 2, ground := Ground.phase }, { on := 3, ground := Ground.phase }, { on := 4, ground := Ground.phase }]).op, none⟩
 ] (by kernel_rfl)))
 (.live [2] .ret))

noncomputable def f24_b : Sim Tryz.prog :=
 (.seq (.live [0] (.region 0 [
 ⟨(opAssign (some 2) (.const (Value.slice none 0 0)) 25 "ref.go:5" #[]).op, none⟩
 ] (by kernel_rfl)))
 (.seq (.live [0, 3] (.region 1 [
 ⟨(opMove (some 5) (.tmp 0) 3 "ref.go:6" #[]).op, none⟩,
 ⟨(opConvInt (some 6) 3 69 (.tmp 5) (.int .i64) Tryz.underlying3 .u64 Tryz.underlying69 69 "ref.go:6" #[{ on := 0, ground := Ground.data }]).op, none⟩,
 ⟨(opBin (some 7) .mul 69 (.tmp 6) (.const (Value.int IntKind.u64 2)) 69 69 "ref.go:6" #[{ on := 1, ground := Ground.data }]).op, none⟩,
 ⟨(opAssign (some 3) (.tmp 7) 69 "ref.go:6" #[{ on := 2, ground := Ground.data }, { on := 0, ground := Ground.phase }, { on := 1, ground := Ground.phase }, { on := 2, ground := Ground.phase }]).op, none⟩
 ] (by kernel_rfl)))
 (.seq (.seq (.live [0, 3, 9] (.region 2 [
 ⟨(opMove (some 8) (.tmp 0) 3 "ref.go:7" #[]).op, none⟩,
 ⟨(opBin (some 9) .lss 3 (.tmp 8) (.const (Value.int IntKind.i64 0)) 3 4 "ref.go:7" #[{ on := 0, ground := Ground.data }]).op, none⟩
 ] (by kernel_rfl)))
 (.cond (.tmp 9)
 (.live [3] (.region 3 [
 ⟨(opMove (some 10) (.tmp 0) 3 "ref.go:8" #[]).op, none⟩,
 ⟨(opBin (some 11) .add 3 (.tmp 10) (.const (Value.int IntKind.i64 1)) 3 3 "ref.go:8" #[{ on := 0, ground := Ground.data }]).op, none⟩,
 ⟨(opNeg (some 12) 3 (.tmp 11) 3 "ref.go:8" #[{ on := 1, ground := Ground.data }]).op, none⟩,
 ⟨(opConvInt (some 13) 3 69 (.tmp 12) (.int .i64) Tryz.underlying3 .u64 Tryz.underlying69 69 "ref.go:8" #[{ on := 2, ground := Ground.data }]).op, none⟩,
 ⟨(opBin (some 14) .mul 69 (.tmp 13) (.const (Value.int IntKind.u64 2)) 69 69 "ref.go:8" #[{ on := 3, ground := Ground.data }]).op, none⟩,
 ⟨(opBin (some 15) .add 69 (.tmp 14) (.const (Value.int IntKind.u64 1)) 69 69 "ref.go:8" #[{ on := 4, ground := Ground.data }]).op, none⟩,
 ⟨(opAssign (some 3) (.tmp 15) 69 "ref.go:8" #[{ on := 5, ground := Ground.data }, { on := 0, ground := Ground.phase }, { on := 1, ground := Ground.phase }, { on := 2, ground := Ground.phase }, { on := 3, ground := Ground.phase }, { on := 4, ground := Ground.phase }, { on := 5, ground := Ground.phase }]).op, none⟩
 ] (by kernel_rfl)))
 .skip))
 (.seq (.live [3, 4] (.region 4 [
 ⟨(opBuildSlice (some 16) 25 0 [] 5 1 1 (.int .u8 0) el25 (by kernel_rfl) (by decide) 25 "ref.go:10" #[]).op, none⟩,
 ⟨(opAssign (some 4) (.tmp 16) 25 "ref.go:10" #[{ on := 0, ground := Ground.data }, { on := 0, ground := Ground.phase }]).op, none⟩
 ] (by kernel_rfl)))
 (.seq (.block 0 (.loop [3, 4] f24_l0))
 f24_r0)))))

noncomputable def f24 : Fun Tryz.prog where
 id := 24
 fn := Tryz.f24
 hf := Tryz.func24
 hname := by kernel_rfl
 body := f24_b
 hbody := by kernel_rfl
 res := [rTmp 2]
 hres := by kernel_rfl
 n := 33
 hn := by kernel_rfl

/-! ### 51: slices.Clone[[]byte,byte] (25); results 2; slots: 0 s, 1 s -/
noncomputable def f51_b : Sim Tryz.prog :=
 (.seq (.live [0] (.region 0 [
 ⟨(opAssign (some 2) (.const (Value.slice none 0 0)) 25 "slices.go:355" #[]).op, none⟩
 ] (by kernel_rfl)))
 (.seq (.seq (.live [0, 4] (.region 1 [
 ⟨(opMove (some 3) (.tmp 0) 25 "slices.go:357" #[]).op, none⟩,
 ⟨(opEq (some 4) 25 (.slice 5) Tryz.underlying25 (.tmp 3) (.const (Value.slice none 0 0)) (.inl rfl) 25 4 "slices.go:357" #[{ on := 0, ground := Ground.data }]).op, none⟩
 ] (by kernel_rfl)))
 (.cond (.tmp 4)
 (.seq (.live [2] (.region 2 [
 ⟨(opAssign (some 2) (.const (Value.slice none 0 0)) 25 "slices.go:358" #[]).op, none⟩
 ] (by kernel_rfl)))
 (.live [2] .ret))
 .skip))
 (.seq (.live [2] (.region 3 [
 ⟨(opBuildSlice (some 5) 25 0 [] 5 1 1 (.int .u8 0) el25 (by kernel_rfl) (by decide) 25 "slices.go:362" #[]).op, none⟩,
 ⟨(opMove (some 6) (.tmp 0) 25 "slices.go:362" #[]).op, none⟩,
 ⟨(opAppend (some 7) (.tmp 5) (.tmp 6) 25 25 5 1 1 (.int .u8 0) el25 (.slice 5) Tryz.underlying25 rfl 25 "slices.go:362" #[{ on := 0, ground := Ground.data }, { on := 1, ground := Ground.data }]).op, none⟩,
 ⟨(opAssign (some 2) (.tmp 7) 25 "slices.go:362" #[{ on := 2, ground := Ground.data }, { on := 2, ground := Ground.chain }, { on := 0, ground := Ground.phase }, { on := 1, ground := Ground.phase }, { on := 2, ground := Ground.phase }]).op, none⟩
 ] (by kernel_rfl)))
 (.live [2] .ret))))

noncomputable def f51 : Fun Tryz.prog where
 id := 51
 fn := Tryz.f51
 hf := Tryz.func51
 hname := by kernel_rfl
 body := f51_b
 hbody := by kernel_rfl
 res := [rTmp 2]
 hres := by kernel_rfl
 n := 8
 hn := by kernel_rfl

end Go.Proofs.YtcfedmheblbdnaaGreatDoor.K

/- What the functions' runs come to; the right sides were printed by a tool, Lean checks them. -/
set_option linter.unusedVariables false
set_option maxRecDepth 100000
namespace Go.Proofs.YtcfedmheblbdnaaGreatDoor.K
open Go Go.V Go.RowKit

theorem unfold_run (u : Int) (st : St) :
 (f69.run 0 [.int .u64 u] st : Ans) =
 some
 (Fin.ret
 (AV.int IntKind.i64
 (bitsI BinOp.xor IntKind.i64 (IntKind.i64.wrap (u.fdiv (2 : Int)))
 (IntKind.i64.wrap ((0 : Int) - IntKind.i64.wrap (bitsI BinOp.and IntKind.u64 u (1 : Int)))))),
 st) := by kernel_rfl

theorem digits_run (F : Nat) (f : Bool) (l : List (List AV)) (st : St) :
 (f68.run F [.sl 1 f l] st : Ans) =
 if
 (0 : Int) ≤ leastI false (↑l.length : Int) (10 : Int) ∧
 leastI false (↑l.length : Int) (10 : Int) ≤ (↑l.length : Int) then
 loopRun (f68_l0.run F) [4, 12, 13, 14]
 (Cont.block 0 (Cont.then (f68_r0.run F (f68.leaveK Fun.done)) (f68.leaveK Fun.done))) F
 (Env.mk 46
 [(4, AV.int IntKind.u64 (0 : Int)),
 (12,
 AV.sl 1 (f && (leastI false (↑l.length : Int) (10 : Int)).toNat.beq l.length)
 (List.drop 0 (List.take (leastI false (↑l.length : Int) (10 : Int)).toNat l))),
 (13,
 AV.int IntKind.i64
 (↑(List.drop 0 (List.take (leastI false (↑l.length : Int) (10 : Int)).toNat l)).length : Int)),
 (14, AV.int IntKind.i64 (0 : Int))])
 st
 else none := by kernel_rfl

theorem digits_nil (F : Nat) (st : St) :
 (f68.run F.succ [.nilsl] st : Ans) =
 some (Fin.ret (AV.tup [AV.int IntKind.u64 (0 : Int), AV.int IntKind.i64 (0 : Int)]), st) := by kernel_rfl

theorem digits_round_raw (F n : Nat) (K : Cont) (u i c : Int) (f : Bool) (l : List (List AV)) (st : St) :
 (loopRun (f68_l0.run F) [4, 12, 13, 14] K n.succ (Env.mk 46 [(4, .int .u64 u), (12, .sl 1 f l), (13, .int .i64 l.length), (14, .int .i64 i)]) st : Ans) =
 branch (AV.bool (decide (i < (↑l.length : Int))))
 (onSome (elemAt l i) none fun (o : List AV) =>
 onCons o none fun (x : AV) (l_1 : List AV) =>
 onInt x fun (a : IntKind) (a_1 : Int) =>
 if a = IntKind.u8 then
 branch (AV.bool (i == (9 : Int)))
 (branch (AV.bool (decide (IntKind.u64.wrap (bitsI BinOp.andNot a a_1 (128 : Int)) > (1 : Int))))
 (K AX.ret
 (Env.mk 46
 [(2, AV.int IntKind.u64 (0 : Int)), (3, AV.int IntKind.i64 (0 : Int))])
 st)
 (if (0 : Int) ≤ IntKind.i64.wrap ((7 : Int) * i) then
 onInt x fun (a_2 : IntKind) (a_3 : Int) =>
 if a_2 = IntKind.u8 then
 branch (AV.bool (decide (a_3 < (128 : Int))))
 (branch (AV.bool (IntKind.u64.wrap (bitsI BinOp.andNot a a_1 (128 : Int)) == (0 : Int)))
 (branch (AV.bool (decide (i > (0 : Int))))
 (K AX.ret
 (Env.mk 46
 [(2, AV.int IntKind.u64 (0 : Int)), (3, AV.int IntKind.i64 (0 : Int))])
 st)
 (K AX.ret
 (Env.mk 46
 [(2,
 AV.int IntKind.u64
 (bitsI BinOp.or IntKind.u64 u
 (IntKind.u64.wrap
 (IntKind.u64.wrap (bitsI BinOp.andNot a a_1 (128 : Int)) *
 (2 : Int) ^ min (IntKind.i64.wrap ((7 : Int) * i)).toNat 64)))),
 (3, AV.int IntKind.i64 (IntKind.i64.wrap (i + (1 : Int))))])
 st))
 (K AX.ret
 (Env.mk 46
 [(2,
 AV.int IntKind.u64
 (bitsI BinOp.or IntKind.u64 u
 (IntKind.u64.wrap
 (IntKind.u64.wrap (bitsI BinOp.andNot a a_1 (128 : Int)) *
 (2 : Int) ^ min (IntKind.i64.wrap ((7 : Int) * i)).toNat 64)))),
 (3, AV.int IntKind.i64 (IntKind.i64.wrap (i + (1 : Int))))])
 st))
 (loopRun (f68_l0.run F) [4, 12, 13, 14] K n
 (Env.mk 46
 [(4,
 AV.int IntKind.u64
 (bitsI BinOp.or IntKind.u64 u
 (IntKind.u64.wrap
 (IntKind.u64.wrap (bitsI BinOp.andNot a a_1 (128 : Int)) *
 (2 : Int) ^ min (IntKind.i64.wrap ((7 : Int) * i)).toNat 64)))),
 (12, AV.sl 1 f l), (13, AV.int IntKind.i64 (↑l.length : Int)),
 (14, AV.int IntKind.i64 (IntKind.i64.wrap (i + (1 : Int))))])
 st)
 else none
 else none))
 (if (0 : Int) ≤ IntKind.i64.wrap ((7 : Int) * i) then
 onInt x fun (a_2 : IntKind) (a_3 : Int) =>
 if a_2 = IntKind.u8 then
 branch (AV.bool (decide (a_3 < (128 : Int))))
 (branch (AV.bool (IntKind.u64.wrap (bitsI BinOp.andNot a a_1 (128 : Int)) == (0 : Int)))
 (branch (AV.bool (decide (i > (0 : Int))))
 (K AX.ret
 (Env.mk 46
 [(2, AV.int IntKind.u64 (0 : Int)), (3, AV.int IntKind.i64 (0 : Int))])
 st)
 (K AX.ret
 (Env.mk 46
 [(2,
 AV.int IntKind.u64
 (bitsI BinOp.or IntKind.u64 u
 (IntKind.u64.wrap
 (IntKind.u64.wrap (bitsI BinOp.andNot a a_1 (128 : Int)) *
 (2 : Int) ^ min (IntKind.i64.wrap ((7 : Int) * i)).toNat 64)))),
 (3, AV.int IntKind.i64 (IntKind.i64.wrap (i + (1 : Int))))])
 st))
 (K AX.ret
 (Env.mk 46
 [(2,
 AV.int IntKind.u64
 (bitsI BinOp.or IntKind.u64 u
 (IntKind.u64.wrap
 (IntKind.u64.wrap (bitsI BinOp.andNot a a_1 (128 : Int)) *
 (2 : Int) ^ min (IntKind.i64.wrap ((7 : Int) * i)).toNat 64)))),
 (3, AV.int IntKind.i64 (IntKind.i64.wrap (i + (1 : Int))))])
 st))
 (loopRun (f68_l0.run F) [4, 12, 13, 14] K n
 (Env.mk 46
 [(4,
 AV.int IntKind.u64
 (bitsI BinOp.or IntKind.u64 u
 (IntKind.u64.wrap
 (IntKind.u64.wrap (bitsI BinOp.andNot a a_1 (128 : Int)) *
 (2 : Int) ^ min (IntKind.i64.wrap ((7 : Int) * i)).toNat 64)))),
 (12, AV.sl 1 f l), (13, AV.int IntKind.i64 (↑l.length : Int)),
 (14, AV.int IntKind.i64 (IntKind.i64.wrap (i + (1 : Int))))])
 st)
 else none
 else none)
 else none)
 (K (AX.exit 0) (Env.mk 46 []) st) := by kernel_rfl

theorem digits_round (F n : Nat) (K : Cont) (u i c : Int) (f : Bool) (l : List (List AV)) (st : St) (h0 : elemAt l i = some [.int .u8 c]) :
 (loopRun (f68_l0.run F) [4, 12, 13, 14] K n.succ (Env.mk 46 [(4, .int .u64 u), (12, .sl 1 f l), (13, .int .i64 l.length), (14, .int .i64 i)]) st : Ans) =
 branch (AV.bool (decide (i < (↑l.length : Int))))
 (branch (AV.bool (i == (9 : Int)))
 (branch (AV.bool (decide (IntKind.u64.wrap (bitsI BinOp.andNot IntKind.u8 c (128 : Int)) > (1 : Int))))
 (K AX.ret
 (Env.mk 46 [(2, AV.int IntKind.u64 (0 : Int)), (3, AV.int IntKind.i64 (0 : Int))]) st)
 (if (0 : Int) ≤ IntKind.i64.wrap ((7 : Int) * i) then
 branch (AV.bool (decide (c < (128 : Int))))
 (branch (AV.bool (IntKind.u64.wrap (bitsI BinOp.andNot IntKind.u8 c (128 : Int)) == (0 : Int)))
 (branch (AV.bool (decide (i > (0 : Int))))
 (K AX.ret
 (Env.mk 46
 [(2, AV.int IntKind.u64 (0 : Int)), (3, AV.int IntKind.i64 (0 : Int))])
 st)
 (K AX.ret
 (Env.mk 46
 [(2,
 AV.int IntKind.u64
 (bitsI BinOp.or IntKind.u64 u
 (IntKind.u64.wrap
 (IntKind.u64.wrap (bitsI BinOp.andNot IntKind.u8 c (128 : Int)) *
 (2 : Int) ^ min (IntKind.i64.wrap ((7 : Int) * i)).toNat 64)))),
 (3, AV.int IntKind.i64 (IntKind.i64.wrap (i + (1 : Int))))])
 st))
 (K AX.ret
 (Env.mk 46
 [(2,
 AV.int IntKind.u64
 (bitsI BinOp.or IntKind.u64 u
 (IntKind.u64.wrap
 (IntKind.u64.wrap (bitsI BinOp.andNot IntKind.u8 c (128 : Int)) *
 (2 : Int) ^ min (IntKind.i64.wrap ((7 : Int) * i)).toNat 64)))),
 (3, AV.int IntKind.i64 (IntKind.i64.wrap (i + (1 : Int))))])
 st))
 (loopRun (f68_l0.run F) [4, 12, 13, 14] K n
 (Env.mk 46
 [(4,
 AV.int IntKind.u64
 (bitsI BinOp.or IntKind.u64 u
 (IntKind.u64.wrap
 (IntKind.u64.wrap (bitsI BinOp.andNot IntKind.u8 c (128 : Int)) *
 (2 : Int) ^ min (IntKind.i64.wrap ((7 : Int) * i)).toNat 64)))),
 (12, AV.sl 1 f l), (13, AV.int IntKind.i64 (↑l.length : Int)),
 (14, AV.int IntKind.i64 (IntKind.i64.wrap (i + (1 : Int))))])
 st)
 else none))
 (if (0 : Int) ≤ IntKind.i64.wrap ((7 : Int) * i) then
 branch (AV.bool (decide (c < (128 : Int))))
 (branch (AV.bool (IntKind.u64.wrap (bitsI BinOp.andNot IntKind.u8 c (128 : Int)) == (0 : Int)))
 (branch (AV.bool (decide (i > (0 : Int))))
 (K AX.ret
 (Env.mk 46 [(2, AV.int IntKind.u64 (0 : Int)), (3, AV.int IntKind.i64 (0 : Int))])
 st)
 (K AX.ret
 (Env.mk 46
 [(2,
 AV.int IntKind.u64
 (bitsI BinOp.or IntKind.u64 u
 (IntKind.u64.wrap
 (IntKind.u64.wrap (bitsI BinOp.andNot IntKind.u8 c (128 : Int)) *
 (2 : Int) ^ min (IntKind.i64.wrap ((7 : Int) * i)).toNat 64)))),
 (3, AV.int IntKind.i64 (IntKind.i64.wrap (i + (1 : Int))))])
 st))
 (K AX.ret
 (Env.mk 46
 [(2,
 AV.int IntKind.u64
 (bitsI BinOp.or IntKind.u64 u
 (IntKind.u64.wrap
 (IntKind.u64.wrap (bitsI BinOp.andNot IntKind.u8 c (128 : Int)) *
 (2 : Int) ^ min (IntKind.i64.wrap ((7 : Int) * i)).toNat 64)))),
 (3, AV.int IntKind.i64 (IntKind.i64.wrap (i + (1 : Int))))])
 st))
 (loopRun (f68_l0.run F) [4, 12, 13, 14] K n
 (Env.mk 46
 [(4,
 AV.int IntKind.u64
 (bitsI BinOp.or IntKind.u64 u
 (IntKind.u64.wrap
 (IntKind.u64.wrap (bitsI BinOp.andNot IntKind.u8 c (128 : Int)) *
 (2 : Int) ^ min (IntKind.i64.wrap ((7 : Int) * i)).toNat 64)))),
 (12, AV.sl 1 f l), (13, AV.int IntKind.i64 (↑l.length : Int)),
 (14, AV.int IntKind.i64 (IntKind.i64.wrap (i + (1 : Int))))])
 st)
 else none))
 (K (AX.exit 0) (Env.mk 46 []) st) := by
 rw [digits_round_raw F n K u i c f l st, h0]
 kernel_rfl

theorem digits_end_raw (F n : Nat) (K : Cont) (u i : Int) (f : Bool) (l : List (List AV)) (st : St) :
 (loopRun (f68_l0.run F) [4, 12, 13, 14] K n.succ (Env.mk 46 [(4, .int .u64 u), (12, .sl 1 f l), (13, .int .i64 l.length), (14, .int .i64 i)]) st : Ans) =
 branch (AV.bool (decide (i < (↑l.length : Int))))
 (onSome (elemAt l i) none fun (o : List AV) =>
 onCons o none fun (x : AV) (l_1 : List AV) =>
 onInt x fun (a : IntKind) (a_1 : Int) =>
 if a = IntKind.u8 then
 branch (AV.bool (i == (9 : Int)))
 (branch (AV.bool (decide (IntKind.u64.wrap (bitsI BinOp.andNot a a_1 (128 : Int)) > (1 : Int))))
 (K AX.ret
 (Env.mk 46
 [(2, AV.int IntKind.u64 (0 : Int)), (3, AV.int IntKind.i64 (0 : Int))])
 st)
 (if (0 : Int) ≤ IntKind.i64.wrap ((7 : Int) * i) then
 onInt x fun (a_2 : IntKind) (a_3 : Int) =>
 if a_2 = IntKind.u8 then
 branch (AV.bool (decide (a_3 < (128 : Int))))
 (branch (AV.bool (IntKind.u64.wrap (bitsI BinOp.andNot a a_1 (128 : Int)) == (0 : Int)))
 (branch (AV.bool (decide (i > (0 : Int))))
 (K AX.ret
 (Env.mk 46
 [(2, AV.int IntKind.u64 (0 : Int)), (3, AV.int IntKind.i64 (0 : Int))])
 st)
 (K AX.ret
 (Env.mk 46
 [(2,
 AV.int IntKind.u64
 (bitsI BinOp.or IntKind.u64 u
 (IntKind.u64.wrap
 (IntKind.u64.wrap (bitsI BinOp.andNot a a_1 (128 : Int)) *
 (2 : Int) ^ min (IntKind.i64.wrap ((7 : Int) * i)).toNat 64)))),
 (3, AV.int IntKind.i64 (IntKind.i64.wrap (i + (1 : Int))))])
 st))
 (K AX.ret
 (Env.mk 46
 [(2,
 AV.int IntKind.u64
 (bitsI BinOp.or IntKind.u64 u
 (IntKind.u64.wrap
 (IntKind.u64.wrap (bitsI BinOp.andNot a a_1 (128 : Int)) *
 (2 : Int) ^ min (IntKind.i64.wrap ((7 : Int) * i)).toNat 64)))),
 (3, AV.int IntKind.i64 (IntKind.i64.wrap (i + (1 : Int))))])
 st))
 (loopRun (f68_l0.run F) [4, 12, 13, 14] K n
 (Env.mk 46
 [(4,
 AV.int IntKind.u64
 (bitsI BinOp.or IntKind.u64 u
 (IntKind.u64.wrap
 (IntKind.u64.wrap (bitsI BinOp.andNot a a_1 (128 : Int)) *
 (2 : Int) ^ min (IntKind.i64.wrap ((7 : Int) * i)).toNat 64)))),
 (12, AV.sl 1 f l), (13, AV.int IntKind.i64 (↑l.length : Int)),
 (14, AV.int IntKind.i64 (IntKind.i64.wrap (i + (1 : Int))))])
 st)
 else none
 else none))
 (if (0 : Int) ≤ IntKind.i64.wrap ((7 : Int) * i) then
 onInt x fun (a_2 : IntKind) (a_3 : Int) =>
 if a_2 = IntKind.u8 then
 branch (AV.bool (decide (a_3 < (128 : Int))))
 (branch (AV.bool (IntKind.u64.wrap (bitsI BinOp.andNot a a_1 (128 : Int)) == (0 : Int)))
 (branch (AV.bool (decide (i > (0 : Int))))
 (K AX.ret
 (Env.mk 46
 [(2, AV.int IntKind.u64 (0 : Int)), (3, AV.int IntKind.i64 (0 : Int))])
 st)
 (K AX.ret
 (Env.mk 46
 [(2,
 AV.int IntKind.u64
 (bitsI BinOp.or IntKind.u64 u
 (IntKind.u64.wrap
 (IntKind.u64.wrap (bitsI BinOp.andNot a a_1 (128 : Int)) *
 (2 : Int) ^ min (IntKind.i64.wrap ((7 : Int) * i)).toNat 64)))),
 (3, AV.int IntKind.i64 (IntKind.i64.wrap (i + (1 : Int))))])
 st))
 (K AX.ret
 (Env.mk 46
 [(2,
 AV.int IntKind.u64
 (bitsI BinOp.or IntKind.u64 u
 (IntKind.u64.wrap
 (IntKind.u64.wrap (bitsI BinOp.andNot a a_1 (128 : Int)) *
 (2 : Int) ^ min (IntKind.i64.wrap ((7 : Int) * i)).toNat 64)))),
 (3, AV.int IntKind.i64 (IntKind.i64.wrap (i + (1 : Int))))])
 st))
 (loopRun (f68_l0.run F) [4, 12, 13, 14] K n
 (Env.mk 46
 [(4,
 AV.int IntKind.u64
 (bitsI BinOp.or IntKind.u64 u
 (IntKind.u64.wrap
 (IntKind.u64.wrap (bitsI BinOp.andNot a a_1 (128 : Int)) *
 (2 : Int) ^ min (IntKind.i64.wrap ((7 : Int) * i)).toNat 64)))),
 (12, AV.sl 1 f l), (13, AV.int IntKind.i64 (↑l.length : Int)),
 (14, AV.int IntKind.i64 (IntKind.i64.wrap (i + (1 : Int))))])
 st)
 else none
 else none)
 else none)
 (K (AX.exit 0) (Env.mk 46 []) st) := by kernel_rfl

theorem digits_end (F n : Nat) (K : Cont) (u i : Int) (f : Bool) (l : List (List AV)) (st : St) (h0 : decide (i < (l.length : Int)) = false) :
 (loopRun (f68_l0.run F) [4, 12, 13, 14] K n.succ (Env.mk 46 [(4, .int .u64 u), (12, .sl 1 f l), (13, .int .i64 l.length), (14, .int .i64 i)]) st : Ans) =
 K (AX.exit 0) (Env.mk 46 []) st := by
 rw [digits_end_raw F n K u i f l st, h0]
 kernel_rfl

theorem digits_out (F : Nat) (st : St) :
 ((Cont.block 0 (Cont.then (f68_r0.run F (f68.leaveK Fun.done)) (f68.leaveK Fun.done))) (.exit 0) (Env.mk 46 []) st : Ans) =
 some (Fin.ret (AV.tup [AV.int IntKind.u64 (0 : Int), AV.int IntKind.i64 (0 : Int)]), st) := by kernel_rfl

theorem digits_ret (F : Nat) (u m : Int) (st : St) :
 ((Cont.block 0 (Cont.then (f68_r0.run F (f68.leaveK Fun.done)) (f68.leaveK Fun.done))) .ret (Env.mk 46 [(2, .int .u64 u), (3, .int .i64 m)]) st : Ans) =
 some (Fin.ret (AV.tup [AV.int IntKind.u64 u, AV.int IntKind.i64 m]), st) := by kernel_rfl

theorem same_run (F : Nat) (f f' : Bool) (l l' : List (List AV)) (st : St) :
 (f17.run F [.sl 1 f l, .sl 1 f' l'] st : Ans) =
 branch (AV.bool ((↑l.length : Int) != (↑l'.length : Int))) (some (Fin.ret (AV.bool false), st))
 (loopRun (f17_l0.run F) [0, 1, 5]
 (Cont.block 0 (Cont.then (f17_r0.run F (f17.leaveK Fun.done)) (f17.leaveK Fun.done))) F
 (Env.mk 26
 [(0, AV.sl 1 f l), (1, AV.sl 1 f' l'), (5, AV.int IntKind.i64 (0 : Int))])
 st) := by kernel_rfl

theorem same_round_raw (F n : Nat) (K : Cont) (i a b : Int) (f f' : Bool) (l l' : List (List AV)) (st : St) :
 (loopRun (f17_l0.run F) [0, 1, 5] K n.succ (Env.mk 26 [(0, .sl 1 f l), (1, .sl 1 f' l'), (5, .int .i64 i)]) st : Ans) =
 branch (AV.bool (decide (i < (↑l.length : Int))))
 (onSome (elemAt l i) none fun (o : List AV) =>
 onCons o none fun (x : AV) (l_1 : List AV) =>
 onSome (elemAt l' i) none fun (o : List AV) =>
 onCons o none fun (x_1 : AV) (l_2 : List AV) =>
 onInt x fun (a : IntKind) (a_1 : Int) =>
 onInt x_1 fun (a_2 : IntKind) (a_3 : Int) =>
 if a = a_2 then
 branch (AV.bool (a_1 != a_3)) (K AX.ret (Env.mk 26 [(4, AV.bool false)]) st)
 (loopRun (f17_l0.run F) [0, 1, 5] K n
 (Env.mk 26
 [(0, AV.sl 1 f l), (1, AV.sl 1 f' l'),
 (5, AV.int IntKind.i64 (IntKind.i64.wrap (i + (1 : Int))))])
 st)
 else none)
 (K (AX.exit 0) (Env.mk 26 []) st) := by kernel_rfl

theorem same_round (F n : Nat) (K : Cont) (i a b : Int) (f f' : Bool) (l l' : List (List AV)) (st : St) (h0 : elemAt l i = some [.int .u8 a]) (h1 : elemAt l' i = some [.int .u8 b]) :
 (loopRun (f17_l0.run F) [0, 1, 5] K n.succ (Env.mk 26 [(0, .sl 1 f l), (1, .sl 1 f' l'), (5, .int .i64 i)]) st : Ans) =
 branch (AV.bool (decide (i < (↑l.length : Int))))
 (branch (AV.bool (a != b)) (K AX.ret (Env.mk 26 [(4, AV.bool false)]) st)
 (loopRun (f17_l0.run F) [0, 1, 5] K n
 (Env.mk 26
 [(0, AV.sl 1 f l), (1, AV.sl 1 f' l'),
 (5, AV.int IntKind.i64 (IntKind.i64.wrap (i + (1 : Int))))])
 st))
 (K (AX.exit 0) (Env.mk 26 []) st) := by
 rw [same_round_raw F n K i a b f f' l l' st, h0, h1]
 kernel_rfl

theorem copy_run (F : Nat) (f : Bool) (l : List (List AV)) (st : St) :
 (f30.run F [.sl 1 f l] st : Ans) =
 onCons l (some (Fin.ret (AV.sl 1 true []), st)) fun (x : List AV) (l : List (List AV)) =>
 if (0 + (x :: l).length) * 1 ≤ 140737488355328 then
 some (Fin.ret (AV.lg st.tk.length 1 (x :: l)), St.mk st.objs (st.tk ++ [(1, (x :: l).length)]))
 else none := by kernel_rfl

theorem copy_nil (F : Nat) (st : St) :
 (f30.run F [.nilsl] st : Ans) =
 some (Fin.ret (AV.sl 1 true []), st) := by kernel_rfl

theorem clone_run (F : Nat) (f : Bool) (l : List (List AV)) (st : St) :
 (f51.run F [.sl 1 f l] st : Ans) =
 onCons l (some (Fin.ret (AV.sl 1 true []), st)) fun (x : List AV) (l : List (List AV)) =>
 if (0 + (x :: l).length) * 1 ≤ 140737488355328 then
 some (Fin.ret (AV.lg st.tk.length 1 (x :: l)), St.mk st.objs (st.tk ++ [(1, (x :: l).length)]))
 else none := by kernel_rfl

theorem clone_nil (F : Nat) (st : St) :
 (f51.run F [.nilsl] st : Ans) =
 some (Fin.ret AV.nilsl, st) := by kernel_rfl

theorem rint_run (F : Nat) (n : Int) (st : St) :
 (f24.run F [.int .i64 n] st : Ans) =
 branch (AV.bool (decide (n < (0 : Int))))
 (loopRun (f24_l0.run F) [3, 4]
 (Cont.block 0 (Cont.then (f24_r0.run F (f24.leaveK Fun.done)) (f24.leaveK Fun.done))) F
 (Env.mk 33
 [(3,
 AV.int IntKind.u64
 (IntKind.u64.wrap
 (IntKind.u64.wrap
 (IntKind.u64.wrap (IntKind.i64.wrap ((0 : Int) - IntKind.i64.wrap (n + (1 : Int)))) * (2 : Int)) +
 (1 : Int)))),
 (4, AV.sl 1 true [])])
 st)
 (loopRun (f24_l0.run F) [3, 4]
 (Cont.block 0 (Cont.then (f24_r0.run F (f24.leaveK Fun.done)) (f24.leaveK Fun.done))) F
 (Env.mk 33
 [(3, AV.int IntKind.u64 (IntKind.u64.wrap (IntKind.u64.wrap n * (2 : Int)))),
 (4, AV.sl 1 true [])])
 st) := by kernel_rfl

theorem rint_first (F n : Nat) (K : Cont) (u : Int) (st : St) :
 (loopRun (f24_l0.run F) [3, 4] K n.succ (Env.mk 33 [(3, .int .u64 u), (4, .sl 1 true [])]) st : Ans) =
 branch (AV.bool (decide (u ≥ (128 : Int))))
 (loopRun (f24_l0.run F) [3, 4] K n
 (Env.mk 33
 [(3, AV.int IntKind.u64 (IntKind.u64.wrap (u.tdiv (128 : Int)))),
 (4,
 AV.lg st.tk.length 1
 [[AV.int IntKind.u8 (IntKind.u8.wrap (IntKind.u8.wrap (u.tmod (128 : Int)) + (128 : Int)))]])])
 (St.mk st.objs (st.tk ++ [(1, 1)])))
 (K (AX.exit 0) (Env.mk 33 [(3, AV.int IntKind.u64 u), (4, AV.sl 1 true [])])
 st) := by kernel_rfl

theorem rint_round (F n t : Nat) (K : Cont) (u : Int) (l : List (List AV)) (st : St) :
 (loopRun (f24_l0.run F) [3, 4] K n.succ (Env.mk 33 [(3, .int .u64 u), (4, .lg t 1 l)]) st : Ans) =
 branch (AV.bool (decide (u ≥ (128 : Int))))
 (if st.tk[t]? = some (1, l.length) ∧ (l.length + 1) * 1 ≤ 140737488355328 then
 loopRun (f24_l0.run F) [3, 4] K n
 (Env.mk 33
 [(3, AV.int IntKind.u64 (IntKind.u64.wrap (u.tdiv (128 : Int)))),
 (4,
 AV.lg t 1
 (l ++ [[AV.int IntKind.u8 (IntKind.u8.wrap (IntKind.u8.wrap (u.tmod (128 : Int)) + (128 : Int)))]]))])
 (St.mk st.objs (st.tk.set t (1, l.length + 1)))
 else none)
 (K (AX.exit 0) (Env.mk 33 [(3, AV.int IntKind.u64 u), (4, AV.lg t 1 l)]) st) := by kernel_rfl

theorem rint_out (F t : Nat) (u : Int) (l : List (List AV)) (st : St) :
 ((Cont.block 0 (Cont.then (f24_r0.run F (f24.leaveK Fun.done)) (f24.leaveK Fun.done))) (.exit 0) (Env.mk 33 [(3, .int .u64 u), (4, .lg t 1 l)]) st : Ans) =
 if st.tk[t]? = some (1, l.length) ∧ (l.length + 1) * 1 ≤ 140737488355328 then
 some
 (Fin.ret (AV.lg t 1 (l ++ [[AV.int IntKind.u8 (IntKind.u8.wrap u)]])),
 St.mk st.objs (st.tk.set t (1, l.length + 1)))
 else none := by kernel_rfl

theorem rint_out0 (F : Nat) (u : Int) (st : St) :
 ((Cont.block 0 (Cont.then (f24_r0.run F (f24.leaveK Fun.done)) (f24.leaveK Fun.done))) (.exit 0) (Env.mk 33 [(3, .int .u64 u), (4, .sl 1 true [])]) st : Ans) =
 some
 (Fin.ret (AV.lg st.tk.length 1 [[AV.int IntKind.u8 (IntKind.u8.wrap u)]]),
 St.mk st.objs (st.tk ++ [(1, 1)])) := by kernel_rfl

theorem same_end_raw (F n : Nat) (K : Cont) (i : Int) (f f' : Bool) (l l' : List (List AV)) (st : St) :
 (loopRun (f17_l0.run F) [0, 1, 5] K n.succ (Env.mk 26 [(0, .sl 1 f l), (1, .sl 1 f' l'), (5, .int .i64 i)]) st : Ans) =
 branch (AV.bool (decide (i < (↑l.length : Int))))
 (onSome (elemAt l i) none fun (o : List AV) =>
 onCons o none fun (x : AV) (l_1 : List AV) =>
 onSome (elemAt l' i) none fun (o : List AV) =>
 onCons o none fun (x_1 : AV) (l_2 : List AV) =>
 onInt x fun (a : IntKind) (a_1 : Int) =>
 onInt x_1 fun (a_2 : IntKind) (a_3 : Int) =>
 if a = a_2 then
 branch (AV.bool (a_1 != a_3)) (K AX.ret (Env.mk 26 [(4, AV.bool false)]) st)
 (loopRun (f17_l0.run F) [0, 1, 5] K n
 (Env.mk 26
 [(0, AV.sl 1 f l), (1, AV.sl 1 f' l'),
 (5, AV.int IntKind.i64 (IntKind.i64.wrap (i + (1 : Int))))])
 st)
 else none)
 (K (AX.exit 0) (Env.mk 26 []) st) := by kernel_rfl

theorem same_end (F n : Nat) (K : Cont) (i : Int) (f f' : Bool) (l l' : List (List AV)) (st : St) (h0 : decide (i < (l.length : Int)) = false) :
 (loopRun (f17_l0.run F) [0, 1, 5] K n.succ (Env.mk 26 [(0, .sl 1 f l), (1, .sl 1 f' l'), (5, .int .i64 i)]) st : Ans) =
 K (AX.exit 0) (Env.mk 26 []) st := by
 rw [same_end_raw F n K i f f' l l' st, h0]
 kernel_rfl

theorem same_out (F : Nat) (st : St) :
 ((Cont.block 0 (Cont.then (f17_r0.run F (f17.leaveK Fun.done)) (f17.leaveK Fun.done))) (.exit 0) (Env.mk 26 []) st : Ans) =
 some (Fin.ret (AV.bool true), st) := by kernel_rfl

theorem same_ret (F : Nat) (st : St) :
 ((Cont.block 0 (Cont.then (f17_r0.run F (f17.leaveK Fun.done)) (f17.leaveK Fun.done))) .ret (Env.mk 26 [(4, .bool false)]) st : Ans) =
 some (Fin.ret (AV.bool false), st) := by kernel_rfl

theorem same_nn (F : Nat) (st : St) :
 (f17.run F.succ [.nilsl, .nilsl] st : Ans) =
 some (Fin.ret (AV.bool true), st) := by kernel_rfl

theorem same_ns (F : Nat) (f : Bool) (l : List (List AV)) (st : St) :
 (f17.run F.succ [.nilsl, .sl 1 f l] st : Ans) =
 branch (AV.bool ((0 : Int) != (↑l.length : Int))) (some (Fin.ret (AV.bool false), st))
 (some (Fin.ret (AV.bool true), st)) := by kernel_rfl

theorem same_sn (F : Nat) (f : Bool) (l : List (List AV)) (st : St) :
 (f17.run F.succ [.sl 1 f l, .nilsl] st : Ans) =
 branch (AV.bool ((↑l.length : Int) != (0 : Int))) (some (Fin.ret (AV.bool false), st))
 (branch (AV.bool (decide ((0 : Int) < (↑l.length : Int))))
 (onSome (elemAt l (0 : Int)) none fun (o : List AV) => onCons o none fun (x : AV) (l : List AV) => none)
 (some (Fin.ret (AV.bool true), st))) := by kernel_rfl

end Go.Proofs.YtcfedmheblbdnaaGreatDoor.K

/- Facts on numbers as bits. -/
set_option linter.unusedVariables false
set_option linter.unusedSimpArgs false
namespace Go.V

theorem ofIntNat {w : Nat} {x : Nat} (h : x < 2 ^ w) : (BitVec.ofInt w (x : Int)).toNat = x := by
  rw [BitVec.toNat_ofInt]
  have : ((x : Int) % ((2 ^ w : Nat) : Int)) = (x : Int) := Int.emod_eq_of_lt (by omega) (by exact_mod_cast h)
  rw [this]; rfl

theorem wrapNat {k : IntKind} (hs : k.signed = false) {n : Nat} (h : n < 2 ^ k.bits) : k.wrap (n : Int) = n :=
  wrapU hs (by omega) (by exact_mod_cast h)

theorem bitsOr {k : IntKind} (hs : k.signed = false) {x y : Nat} (hx : x < 2 ^ k.bits) (hy : y < 2 ^ k.bits) : bitsI .or k (x : Int) (y : Int) = ((x ||| y : Nat) : Int) := by
  simp only [bitsI, BitVec.toNat_or, ofIntNat hx, ofIntNat hy]
  exact wrapNat hs (Nat.or_lt_two_pow hx hy)
theorem bitsAnd {k : IntKind} (hs : k.signed = false) {x y : Nat} (hx : x < 2 ^ k.bits) (hy : y < 2 ^ k.bits) : bitsI .and k (x : Int) (y : Int) = ((x &&& y : Nat) : Int) := by
  simp only [bitsI, BitVec.toNat_and, ofIntNat hx, ofIntNat hy]
  exact wrapNat hs (Nat.and_lt_two_pow _ hy)
theorem bitsXor {k : IntKind} (hs : k.signed = false) {x y : Nat} (hx : x < 2 ^ k.bits) (hy : y < 2 ^ k.bits) : bitsI .xor k (x : Int) (y : Int) = ((x ^^^ y : Nat) : Int) := by
  simp only [bitsI, BitVec.toNat_xor, ofIntNat hx, ofIntNat hy]
  exact wrapNat hs (Nat.xor_lt_two_pow hx hy)

theorem or128 {x : Nat} (h : x < 256) : bitsI .or .u8 (x : Int) 128 = ((x % 128 + 128 : Nat) : Int) := by
  have : ∀ x : _root_.Fin 256, (x.1 ||| 128) = x.1 % 128 + 128 := by decide +kernel
  rw [show (128 : Int) = ((128 : Nat) : Int) from rfl, bitsOr rfl (by simpa [IntKind.bits] using h) (by decide)]
  rw [this ⟨x, h⟩]
theorem andNot128 {x : Nat} (h : x < 256) : bitsI .andNot .u8 (x : Int) 128 = ((x % 128 : Nat) : Int) := by
  have h2 : ∀ x : _root_.Fin 256, (BitVec.ofNat 8 x.1 &&& ~~~ BitVec.ofInt 8 128).toNat = x.1 % 128 := by decide +kernel
  have h3 : BitVec.ofInt 8 (x : Int) = BitVec.ofNat 8 x := by
    apply BitVec.eq_of_toNat_eq
    rw [ofIntNat (by simpa using h)]
    simp; omega
  have h4 : (BitVec.ofNat 8 x &&& ~~~ BitVec.ofInt 8 128).toNat = x % 128 := h2 ⟨x, h⟩
  show IntKind.u8.wrap (((BitVec.ofInt 8 (x : Int)) &&& ~~~ BitVec.ofInt 8 128).toNat : Int) = _
  rw [h3, h4]
  exact wrapNat rfl (by simp [IntKind.bits]; omega)

/-- A piece put above what is there. -/
theorem or_above {u d i : Nat} (h : u < 2 ^ i) : u ||| d * 2 ^ i = u + d * 2 ^ i := by
  rw [Nat.or_comm, Nat.mul_comm, ← Nat.two_pow_add_eq_or_of_lt h, Nat.add_comm]

theorem xor_ones {x : Nat} (h : x < 2 ^ 64) : x ^^^ (2 ^ 64 - 1) = 2 ^ 64 - 1 - x := by
  have h1 : ((BitVec.ofNat 64 x) ^^^ BitVec.allOnes 64).toNat = 2 ^ 64 - 1 - x := by
    rw [BitVec.xor_allOnes, BitVec.toNat_not]
    simp [Nat.mod_eq_of_lt h]
  rw [BitVec.toNat_xor, BitVec.toNat_allOnes] at h1
  simpa [Nat.mod_eq_of_lt h] using h1
end Go.V

/- The functions' pieces, as told by gen.py. -/
set_option linter.unusedVariables false
set_option maxRecDepth 20000
namespace Go.Proofs.YtcfedmheblbdnaaGreatDoor.K
open Go Go.V Go.RowKit


/-! ### 22: interlock/bits.Int (3); results 2; slots: 0 n, 1 n, 3 out, 4 u -/
/-- A loop's round; at its head live: 3 out, 4 u -/
noncomputable def f22_l0 : Sim Tryz.prog :=
 (.seq (.seq (.live [3, 4, 8] (.region 3 [
 ⟨(opMove (some 7) (.tmp 4) 69 "bits.go:22" #[]).op, none⟩,
 ⟨(opBin (some 8) .geq 69 (.tmp 7) (.const (Value.int IntKind.u64 128)) 69 4 "bits.go:22" #[{ on := 0, ground := Ground.data }]).op, none⟩
 ] (by kernel_rfl)))
 (.cond (.tmp 8)
 .skip
 (.live [3, 4] (.exit 0))))
 (.seq (.block 1 (.live [3, 4] (.region 5 [
 ⟨(opMove (some 11) (.tmp 3) 25 "bits.go:23" #[]).op, none⟩,
 ⟨(opMove (some 12) (.tmp 4) 69 "bits.go:23" #[]).op, none⟩,
 ⟨(opConvInt (some 13) 69 5 (.tmp 12) (.int .u64) Tryz.underlying69 .u8 Tryz.underlying5 5 "bits.go:23" #[{ on := 1, ground := Ground.data }]).op, none⟩,
 ⟨(opBin (some 14) .or 5 (.tmp 13) (.const (Value.int IntKind.u8 128)) 5 5 "bits.go:23" #[{ on := 2, ground := Ground.data }]).op, none⟩,
 ⟨(opBuildSlice (some 15) 25 1 [(0, (.tmp 14))] 5 1 1 (.int .u8 0) el25 (by kernel_rfl) (by decide) 25 "bits.go:23" #[{ on := 3, ground := Ground.data }]).op, none⟩,
 ⟨(opAppend (some 16) (.tmp 11) (.tmp 15) 25 25 5 1 1 (.int .u8 0) el25 (.slice 5) Tryz.underlying25 rfl 25 "bits.go:23" #[{ on := 0, ground := Ground.data }, { on := 4, ground := Ground.data }]).op, none⟩,
 ⟨(opAssign (some 3) (.tmp 16) 25 "bits.go:23" #[{ on := 5, ground := Ground.data }, { on := 5, ground := Ground.chain }, { on := 0, ground := Ground.phase }, { on := 1, ground := Ground.phase }, { on := 2, ground := Ground.phase }, { on := 3, ground := Ground.phase }, { on := 4, ground := Ground.phase }, { on := 5, ground := Ground.phase }]).op, none⟩
 ] (by kernel_rfl))))
 (.live [3, 4] (.region 4 [
 ⟨(opMove (some 9) (.tmp 4) 69 "bits.go:22" #[]).op, none⟩,
 ⟨(opBin (some 10) .shr 69 (.tmp 9) (.const (Value.int IntKind.u64 7)) 71 69 "bits.go:22" #[{ on := 0, ground := Ground.data }]).op, none⟩,
 ⟨(opAssign (some 4) (.tmp 10) 69 "bits.go:22" #[{ on := 1, ground := Ground.data }, { on := 0, ground := Ground.phase }, { on := 1, ground := Ground.phase }]).op, none⟩
 ] (by kernel_rfl)))))

/-- What follows a loop. -/
noncomputable def f22_r0 : Sim Tryz.prog :=
 (.seq (.live [2] (.region 6 [
 ⟨(opMove (some 17) (.tmp 3) 25 "bits.go:25" #[]).op, none⟩,
 ⟨(opMove (some 18) (.tmp 4) 69 "bits.go:25" #[]).op, none⟩,
 ⟨(opConvInt (some 19) 69 5 (.tmp 18) (.int .u64) Tryz.underlying69 .u8 Tryz.underlying5 5 "bits.go:25" #[{ on := 1, ground := Ground.data }]).op, none⟩,
 ⟨(opBuildSlice (some 20) 25 1 [(0, (.tmp 19))] 5 1 1 (.int .u8 0) el25 (by kernel_rfl) (by decide) 25 "bits.go:25" #[{ on := 2, ground := Ground.data }]).op, none⟩,
 ⟨(opAppend (some 21) (.tmp 17) (.tmp 20) 25 25 5 1 1 (.int .u8 0) el25 (.slice 5) Tryz.underlying25 rfl 25 "bits.go:25" #[{ on := 0, ground := Ground.data }, { on := 3, ground := Ground.data }]).op, none⟩,
 ⟨(opAssign (some 2) (.tmp 21) 25 "bits.go:25" #[{ on := 4, ground := Ground.data }, { on := 4, ground := Ground.chain }, { on := 0, ground := Ground.phase }, { on := 1, ground := Ground.phase }, { on := 2, ground := Ground.phase }, { on := 3, ground := Ground.phase }, { on := 4, ground := Ground.phase }]).op, none⟩
 ] (by kernel_rfl)))
 (.live [2] .ret))

noncomputable def f22_b : Sim Tryz.prog :=
 (.seq (.live [0] (.region 0 [
 ⟨(opAssign (some 2) (.const (Value.slice none 0 0)) 25 "bits.go:19" #[]).op, none⟩
 ] (by kernel_rfl)))
 (.seq (.live [0, 3] (.region 1 [
 ⟨(opAssign (some 3) (.const (Value.slice none 0 0)) 25 "bits.go:20" #[]).op, none⟩
 ] (by kernel_rfl)))
 (.seq (.live [3, 4] (.region 2 [
 ⟨(opMove (some 5) (.tmp 0) 3 "bits.go:21" #[]).op, none⟩,
 ⟨opCall (f50.orc 0) (some 6) [(.tmp 5)] #[3] 69 "bits.go:21" #[{ on := 0, ground := Ground.data }], none⟩,
 ⟨(opAssign (some 4) (.tmp 6) 69 "bits.go:21" #[{ on := 1, ground := Ground.data }, { on := 1, ground := Ground.chain }, { on := 0, ground := Ground.phase }, { on := 1, ground := Ground.phase }]).op, none⟩
 ] (by kernel_rfl)))
 (.seq (.block 0 (.loop [3, 4] f22_l0))
 f22_r0))))

noncomputable def f22 : Fun Tryz.prog where
 id := 22
 fn := Tryz.f22
 hf := Tryz.func22
 hname := by kernel_rfl
 body := f22_b
 hbody := by kernel_rfl
 res := [rTmp 2]
 hres := by kernel_rfl
 n := 22
 hn := by kernel_rfl

end Go.Proofs.YtcfedmheblbdnaaGreatDoor.K

/- What the functions' runs come to; the right sides were printed by a tool, Lean checks them. -/
set_option linter.unusedVariables false
set_option maxRecDepth 100000
namespace Go.Proofs.YtcfedmheblbdnaaGreatDoor.K
open Go Go.V Go.RowKit

theorem int_run (F : Nat) (n : Int) (st : St) :
 (f22.run F [.int .i64 n] st : Ans) =
 loopRun (f22_l0.run F) [3, 4]
 (Cont.block 0 (Cont.then (f22_r0.run F (f22.leaveK Fun.done)) (f22.leaveK Fun.done))) F
 (Env.mk 22
 [(3, AV.nilsl),
 (4,
 AV.int IntKind.u64
 (bitsI BinOp.xor IntKind.u64 (IntKind.u64.wrap (IntKind.u64.wrap n * (2 : Int)))
 (IntKind.u64.wrap (n.fdiv (9223372036854775808 : Int)))))])
 st := by kernel_rfl

theorem int_first (F n : Nat) (K : Cont) (u : Int) (st : St) :
 (loopRun (f22_l0.run F) [3, 4] K n.succ (Env.mk 22 [(3, .nilsl), (4, .int .u64 u)]) st : Ans) =
 branch (AV.bool (decide (u ≥ (128 : Int))))
 (loopRun (f22_l0.run F) [3, 4] K n
 (Env.mk 22
 [(3,
 AV.lg st.tk.length 1
 [[AV.int IntKind.u8 (bitsI BinOp.or IntKind.u8 (IntKind.u8.wrap u) (128 : Int))]]),
 (4, AV.int IntKind.u64 (u.fdiv (128 : Int)))])
 (St.mk st.objs (st.tk ++ [(1, 1)])))
 (K (AX.exit 0) (Env.mk 22 [(3, AV.nilsl), (4, AV.int IntKind.u64 u)]) st) := by kernel_rfl

theorem int_round (F n t : Nat) (K : Cont) (u : Int) (l : List (List AV)) (st : St) :
 (loopRun (f22_l0.run F) [3, 4] K n.succ (Env.mk 22 [(3, .lg t 1 l), (4, .int .u64 u)]) st : Ans) =
 branch (AV.bool (decide (u ≥ (128 : Int))))
 (if st.tk[t]? = some (1, l.length) ∧ (l.length + 1) * 1 ≤ 140737488355328 then
 loopRun (f22_l0.run F) [3, 4] K n
 (Env.mk 22
 [(3,
 AV.lg t 1 (l ++ [[AV.int IntKind.u8 (bitsI BinOp.or IntKind.u8 (IntKind.u8.wrap u) (128 : Int))]])),
 (4, AV.int IntKind.u64 (u.fdiv (128 : Int)))])
 (St.mk st.objs (st.tk.set t (1, l.length + 1)))
 else none)
 (K (AX.exit 0) (Env.mk 22 [(3, AV.lg t 1 l), (4, AV.int IntKind.u64 u)]) st) := by kernel_rfl

theorem int_out (F t : Nat) (u : Int) (l : List (List AV)) (st : St) :
 ((Cont.block 0 (Cont.then (f22_r0.run F (f22.leaveK Fun.done)) (f22.leaveK Fun.done))) (.exit 0) (Env.mk 22 [(3, .lg t 1 l), (4, .int .u64 u)]) st : Ans) =
 if st.tk[t]? = some (1, l.length) ∧ (l.length + 1) * 1 ≤ 140737488355328 then
 some
 (Fin.ret (AV.lg t 1 (l ++ [[AV.int IntKind.u8 (IntKind.u8.wrap u)]])),
 St.mk st.objs (st.tk.set t (1, l.length + 1)))
 else none := by kernel_rfl

theorem int_out0 (F : Nat) (u : Int) (st : St) :
 ((Cont.block 0 (Cont.then (f22_r0.run F (f22.leaveK Fun.done)) (f22.leaveK Fun.done))) (.exit 0) (Env.mk 22 [(3, .nilsl), (4, .int .u64 u)]) st : Ans) =
 some
 (Fin.ret (AV.lg st.tk.length 1 [[AV.int IntKind.u8 (IntKind.u8.wrap u)]]),
 St.mk st.objs (st.tk ++ [(1, 1)])) := by kernel_rfl

end Go.Proofs.YtcfedmheblbdnaaGreatDoor.K

/- Bits: numbers as bytes. -/
set_option linter.unusedVariables false
namespace Go.Proofs.YtcfedmheblbdnaaGreatDoor.K
open Go Go.V Go.RowKit

/-- Bytes as rows. -/
def rb (bs : List Nat) : List (List AV) := bs.map fun (b : Nat) => [.int .u8 (b : Int)]
/-- A number's digits, the lowest first; k: how many may follow the first. -/
def encN : Nat → Nat → List Nat
  | 0, u => [u]
  | k + 1, u => if u < 128 then [u] else (u % 128 + 128) :: encN k (u / 128)
/-- A number without a sign. -/
def foldN (n : Int) : Nat := if n < 0 then (-n).toNat * 2 - 1 else n.toNat * 2

theorem rb_append (a b : List Nat) : rb (a ++ b) = rb a ++ rb b := by simp [rb]
theorem rb_length (a : List Nat) : (rb a).length = a.length := by simp [rb]
theorem scoped_rb (n m : Nat) : ∀ l : List Nat, ScopedR n m (rb l)
  | [] => trivial
  | x :: l => ⟨⟨trivial, trivial⟩, scoped_rb n m l⟩
theorem encN_len : ∀ k u, (encN k u).length ≤ k + 1
  | 0, u => by simp [encN]
  | k + 1, u => by
    rw [encN]; split
    · simp
    · simp; exact encN_len k (u / 128)

theorem wrapU64 {n : Nat} (h : n < 18446744073709551616) : IntKind.u64.wrap (n : Int) = n := wrapNat rfl (by simpa [IntKind.bits] using h)
theorem wrapU8 {n : Nat} (h : n < 256) : IntKind.u8.wrap (n : Int) = n := wrapNat rfl (by simpa [IntKind.bits] using h)
theorem wrapU8mod (n : Nat) : IntKind.u8.wrap (n : Int) = ((n % 256 : Nat) : Int) := by
  unfold IntKind.wrap
  simp [IntKind.signed, IntKind.bits]

theorem tk_at (tk : List (Nat × Nat)) (x : Nat × Nat) : (tk ++ [x])[tk.length]? = some x := by simp
theorem tk_set (tk : List (Nat × Nat)) (x y : Nat × Nat) : (tk ++ [x]).set tk.length y = tk ++ [y] := by simp

theorem u_div {u : Nat} (h : u < 18446744073709551616) : IntKind.u64.wrap ((u : Int).tdiv 128) = ((u / 128 : Nat) : Int) := by
  rw [show (u : Int).tdiv 128 = ((u / 128 : Nat) : Int) by rw [show (128 : Int) = ((128 : Nat) : Int) from rfl]; exact (Int.ofNat_tdiv u 128).symm]
  exact wrapU64 (by omega)
theorem u_mod (u : Nat) : IntKind.u8.wrap (IntKind.u8.wrap ((u : Int).tmod 128) + 128) = ((u % 128 + 128 : Nat) : Int) := by
  rw [show (u : Int).tmod 128 = ((u % 128 : Nat) : Int) by rw [show (128 : Int) = ((128 : Nat) : Int) from rfl]; exact (Int.ofNat_tmod u 128).symm]
  rw [wrapU8 (by omega), show ((u % 128 : Nat) : Int) + 128 = ((u % 128 + 128 : Nat) : Int) by omega]
  exact wrapU8 (by omega)

theorem u_shr (u : Nat) : (u : Int).fdiv 128 = ((u / 128 : Nat) : Int) := by
  rw [Int.fdiv_eq_ediv_of_nonneg _ (by omega)]; rfl
theorem u_or (u : Nat) : bitsI .or .u8 (IntKind.u8.wrap (u : Int)) 128 = ((u % 128 + 128 : Nat) : Int) := by
  rw [wrapU8mod, or128 (by omega), show u % 256 % 128 = u % 128 by omega]

theorem rint_loop (F : Nat) (objs : List Ob) (tk : List (Nat × Nat)) : ∀ (k n u : Nat) (l : List (List AV)), u < 128 ^ (k + 1) → u < 18446744073709551616 → k < n → l.length + k < 1000 →
    loopRun (f24_l0.run F) [3, 4] (Cont.block 0 (Cont.then (f24_r0.run F (f24.leaveK Fun.done)) (f24.leaveK Fun.done))) n (Env.mk 33 [(3, .int .u64 u), (4, .lg tk.length 1 l)]) ⟨objs, tk ++ [(1, l.length)]⟩
      = some (.ret (.lg tk.length 1 (l ++ rb (encN k u))), ⟨objs, tk ++ [(1, l.length + (encN k u).length)]⟩)
  | k, 0, u, l, h, hu, hk, hl => by omega
  | 0, n + 1, u, l, h, hu, hk, hl => by
    rw [show n + 1 = n.succ from rfl, rint_round, branch_not (by simp; omega), rint_out, if_pos ⟨tk_at _ _, by omega⟩]
    rw [wrapU8 (by omega)]
    simp [encN, rb]
  | k + 1, n + 1, u, l, h, hu, hk, hl => by
    rw [show n + 1 = n.succ from rfl, rint_round]
    by_cases hb : u < 128
    · rw [branch_not (by simp; omega), rint_out, if_pos ⟨tk_at _ _, by omega⟩, wrapU8 (by omega)]
      simp [encN, rb, hb]
    · rw [branch_of (by simp; omega), if_pos ⟨tk_at _ _, by omega⟩, u_div hu, u_mod]
      simp only [tk_set]
      have ih := rint_loop F objs tk k n (u / 128) (l ++ [[.int .u8 ((u % 128 + 128 : Nat) : Int)]]) (Nat.div_lt_of_lt_mul (by rw [Nat.pow_succ] at h; omega)) (by omega) (by omega) (by simp; omega)
      rw [List.length_append, List.length_singleton] at ih
      rw [ih, show l.length + 1 + (encN k (u / 128)).length = l.length + ((encN k (u / 128)).length + 1) by omega]
      simp only [encN, if_neg hb, rb, List.map_cons, List.append_assoc, List.singleton_append, List.length_cons]

theorem int_loop (F : Nat) (objs : List Ob) (tk : List (Nat × Nat)) : ∀ (k n u : Nat) (l : List (List AV)), u < 128 ^ (k + 1) → u < 18446744073709551616 → k < n → l.length + k < 1000 →
    loopRun (f22_l0.run F) [3, 4] (Cont.block 0 (Cont.then (f22_r0.run F (f22.leaveK Fun.done)) (f22.leaveK Fun.done))) n (Env.mk 22 [(3, .lg tk.length 1 l), (4, .int .u64 u)]) ⟨objs, tk ++ [(1, l.length)]⟩
      = some (.ret (.lg tk.length 1 (l ++ rb (encN k u))), ⟨objs, tk ++ [(1, l.length + (encN k u).length)]⟩)
  | k, 0, u, l, h, hu, hk, hl => by omega
  | 0, n + 1, u, l, h, hu, hk, hl => by
    rw [show n + 1 = n.succ from rfl, int_round, branch_not (by simp; omega), int_out, if_pos ⟨tk_at _ _, by omega⟩]
    rw [wrapU8 (by omega)]
    simp [encN, rb]
  | k + 1, n + 1, u, l, h, hu, hk, hl => by
    rw [show n + 1 = n.succ from rfl, int_round]
    by_cases hb : u < 128
    · rw [branch_not (by simp; omega), int_out, if_pos ⟨tk_at _ _, by omega⟩, wrapU8 (by omega)]
      simp [encN, rb, hb]
    · rw [branch_of (by simp; omega), if_pos ⟨tk_at _ _, by omega⟩, u_shr, u_or]
      simp only [tk_set]
      have ih := int_loop F objs tk k n (u / 128) (l ++ [[.int .u8 ((u % 128 + 128 : Nat) : Int)]]) (Nat.div_lt_of_lt_mul (by rw [Nat.pow_succ] at h; omega)) (by omega) (by omega) (by simp; omega)
      rw [List.length_append, List.length_singleton] at ih
      rw [ih, show l.length + 1 + (encN k (u / 128)).length = l.length + ((encN k (u / 128)).length + 1) by omega]
      simp only [encN, if_neg hb, rb, List.map_cons, List.append_assoc, List.singleton_append, List.length_cons]

theorem rint_all (F n : Nat) (st : St) (u : Nat) (hu : u < 18446744073709551616) :
    loopRun (f24_l0.run F) [3, 4] (Cont.block 0 (Cont.then (f24_r0.run F (f24.leaveK Fun.done)) (f24.leaveK Fun.done))) (n + 11) (Env.mk 33 [(3, .int .u64 u), (4, .sl 1 true [])]) st
      = some (.ret (.lg st.tk.length 1 (rb (encN 9 u))), ⟨st.objs, st.tk ++ [(1, (encN 9 u).length)]⟩) := by
  rw [show n + 11 = (n + 10).succ from rfl, rint_first]
  by_cases hb : u < 128
  · rw [branch_not (by simp; omega), rint_out0, wrapU8 (by omega)]
    simp [encN, rb, hb]
  · rw [branch_of (by simp; omega), u_div hu, u_mod]
    have ih := rint_loop F st.objs st.tk 8 (n + 10) (u / 128) [[.int .u8 ((u % 128 + 128 : Nat) : Int)]] (by omega) (by omega) (by omega) (by simp)
    rw [List.length_singleton] at ih
    rw [ih, show 1 + (encN 8 (u / 128)).length = (encN 8 (u / 128)).length + 1 by omega]
    rw [show encN 9 u = (u % 128 + 128) :: encN 8 (u / 128) from if_neg hb]
    simp only [rb, List.map_cons, List.singleton_append, List.length_cons]
theorem int_all (F n : Nat) (st : St) (u : Nat) (hu : u < 18446744073709551616) :
    loopRun (f22_l0.run F) [3, 4] (Cont.block 0 (Cont.then (f22_r0.run F (f22.leaveK Fun.done)) (f22.leaveK Fun.done))) (n + 11) (Env.mk 22 [(3, .nilsl), (4, .int .u64 u)]) st
      = some (.ret (.lg st.tk.length 1 (rb (encN 9 u))), ⟨st.objs, st.tk ++ [(1, (encN 9 u).length)]⟩) := by
  rw [show n + 11 = (n + 10).succ from rfl, int_first]
  by_cases hb : u < 128
  · rw [branch_not (by simp; omega), int_out0, wrapU8 (by omega)]
    simp [encN, rb, hb]
  · rw [branch_of (by simp; omega), u_shr, u_or]
    have ih := int_loop F st.objs st.tk 8 (n + 10) (u / 128) [[.int .u8 ((u % 128 + 128 : Nat) : Int)]] (by omega) (by omega) (by omega) (by simp)
    rw [List.length_singleton] at ih
    rw [ih, show 1 + (encN 8 (u / 128)).length = (encN 8 (u / 128)).length + 1 by omega]
    rw [show encN 9 u = (u % 128 + 128) :: encN 8 (u / 128) from if_neg hb]
    simp only [rb, List.map_cons, List.singleton_append, List.length_cons]

theorem foldN_lt {n : Int} (h1 : -9223372036854775808 ≤ n) (h2 : n ≤ 9223372036854775807) : foldN n < 18446744073709551616 := by
  unfold foldN; split <;> omega
/-- The reference's fold. -/
theorem rfold_neg {n : Int} (h1 : -9223372036854775808 ≤ n) (h : n < 0) : IntKind.u64.wrap (IntKind.u64.wrap (IntKind.u64.wrap (IntKind.i64.wrap (0 - IntKind.i64.wrap (n + 1))) * 2) + 1) = ((foldN n : Nat) : Int) := by
  rw [wrapS (n := n + 1) (by omega) (by omega), wrapS (by omega) (by omega)]
  obtain ⟨m, hm⟩ : ∃ m : Nat, 0 - (n + 1) = m := ⟨(0 - (n + 1)).toNat, by omega⟩
  rw [hm, wrapU64 (by omega), show (m : Int) * 2 = ((m * 2 : Nat) : Int) by omega, wrapU64 (by omega), show ((m * 2 : Nat) : Int) + 1 = ((m * 2 + 1 : Nat) : Int) by omega, wrapU64 (by omega)]
  unfold foldN
  rw [if_pos h]
  omega
theorem rfold_pos {n : Int} (h2 : n ≤ 9223372036854775807) (h : ¬ n < 0) : IntKind.u64.wrap (IntKind.u64.wrap n * 2) = ((foldN n : Nat) : Int) := by
  obtain ⟨m, rfl⟩ : ∃ m : Nat, n = m := ⟨n.toNat, by omega⟩
  rw [wrapU64 (by omega), show (m : Int) * 2 = ((m * 2 : Nat) : Int) by omega, wrapU64 (by omega)]
  unfold foldN
  rw [if_neg h]
  omega
/-- The program's fold. -/
theorem fold_eq {n : Int} (h1 : -9223372036854775808 ≤ n) (h2 : n ≤ 9223372036854775807) :
    bitsI .xor .u64 (IntKind.u64.wrap (IntKind.u64.wrap n * 2)) (IntKind.u64.wrap (n.fdiv 9223372036854775808)) = ((foldN n : Nat) : Int) := by
  by_cases h : n < 0
  · have e1 : n.fdiv 9223372036854775808 = -1 := by
      rw [Int.fdiv_eq_ediv_of_nonneg _ (by omega)]; omega
    have e2 : IntKind.u64.wrap (-1) = ((18446744073709551615 : Nat) : Int) := by decide
    obtain ⟨m, rfl⟩ : ∃ m : Nat, n = -(m : Int) := ⟨(-n).toNat, by omega⟩
    have e3 : IntKind.u64.wrap (-(m : Int)) = ((18446744073709551616 - m : Nat) : Int) := by
      unfold IntKind.wrap
      simp only [IntKind.signed, IntKind.bits, Bool.false_and, Bool.false_eq_true, if_false]
      omega
    have e4 : IntKind.u64.wrap (((18446744073709551616 - m : Nat) : Int) * 2) = ((18446744073709551616 - 2 * m : Nat) : Int) := by
      unfold IntKind.wrap
      simp only [IntKind.signed, IntKind.bits, Bool.false_and, Bool.false_eq_true, if_false]
      omega
    rw [e1, e2, e3, e4, bitsXor rfl (by simp only [IntKind.bits]; omega) (by decide), show (18446744073709551615 : Nat) = 2 ^ 64 - 1 from rfl, xor_ones (by omega)]
    unfold foldN
    rw [if_pos h]
    omega
  · obtain ⟨m, rfl⟩ : ∃ m : Nat, n = m := ⟨n.toNat, by omega⟩
    have e1 : (m : Int).fdiv 9223372036854775808 = 0 := by
      rw [Int.fdiv_eq_ediv_of_nonneg _ (by omega)]; omega
    rw [e1, rfold_pos h2 h, show IntKind.u64.wrap 0 = ((0 : Nat) : Int) from rfl, bitsXor rfl (by have := foldN_lt (n := (m : Int)) (by omega) h2; simpa [IntKind.bits] using this) (by decide), Nat.xor_zero]

def i64B (n : Int) : Bool := decide (-9223372036854775808 ≤ n) && decide (n ≤ 9223372036854775807)
theorem i64B_spec {n : Int} (h : i64B n = true) : -9223372036854775808 ≤ n ∧ n ≤ 9223372036854775807 := by
  simpa [i64B] using h
/-- A number's bytes. -/
def intBytes (n : Int) : List Nat := encN 9 (foldN n)

theorem f24_spec (n : Int) (h : i64B n = true) (st : St) : f24.run 11 [.int .i64 n] st = some (.ret (.lg st.tk.length 1 (rb (intBytes n))), ⟨st.objs, st.tk ++ [(1, (intBytes n).length)]⟩) := by
  obtain ⟨h1, h2⟩ := i64B_spec h
  rw [rint_run]
  by_cases hn : n < 0
  · rw [branch_of (by simpa using hn), rfold_neg h1 hn]
    exact rint_all 11 0 st _ (foldN_lt h1 h2)
  · rw [branch_not (by simpa using hn), rfold_pos h2 hn]
    exact rint_all 11 0 st _ (foldN_lt h1 h2)
theorem f22_spec (n : Int) (h : i64B n = true) (st : St) : f22.run 11 [.int .i64 n] st = some (.ret (.lg st.tk.length 1 (rb (intBytes n))), ⟨st.objs, st.tk ++ [(1, (intBytes n).length)]⟩) := by
  obtain ⟨h1, h2⟩ := i64B_spec h
  rw [int_run, fold_eq h1 h2]
  exact int_all 11 0 st _ (foldN_lt h1 h2)
end Go.Proofs.YtcfedmheblbdnaaGreatDoor.K

/- Bits: numbers as bytes, as callees; equal bytes; copies. -/
set_option linter.unusedVariables false
namespace Go.Proofs.YtcfedmheblbdnaaGreatDoor.K
open Go Go.V Go.RowKit

noncomputable def q22 : OrcS Tryz.prog := f22.effIf dec1i (fun m => [.int .i64 m]) dec1i_enc (fun n _ => i64B n) (fun n st => (.lg st.tk.length 1 (rb (intBytes n)), ⟨st.objs, st.tk ++ [(1, (intBytes n).length)]⟩)) fun n st h => ⟨11, f22_spec n h st⟩
noncomputable def q24 : OrcS Tryz.prog := f24.effIf dec1i (fun m => [.int .i64 m]) dec1i_enc (fun n _ => i64B n) (fun n st => (.lg st.tk.length 1 (rb (intBytes n)), ⟨st.objs, st.tk ++ [(1, (intBytes n).length)]⟩)) fun n st h => ⟨11, f24_spec n h st⟩

/-! ### Equal bytes -/
def sameRows : List Int → List Int → Bool
  | [], [] => true
  | a :: l, b :: m => a == b && sameRows l m
  | _, _ => false
theorem same_loop (F : Nat) (f f' : Bool) (st : St) (K : Cont) (bs cs : List Int) (hl : bs.length = cs.length) (hb : bs.length < 9223372036854775807) : ∀ (k i n : Nat), i + k = bs.length → k < n →
    loopRun (f17_l0.run F) [0, 1, 5] K n (Env.mk 26 [(0, .sl 1 f (bs.map fun b => [.int .u8 b])), (1, .sl 1 f' (cs.map fun b => [.int .u8 b])), (5, .int .i64 i)]) st
      = branch (.bool (sameRows (bs.drop i) (cs.drop i))) (K (.exit 0) (Env.mk 26 []) st) (K .ret (Env.mk 26 [(4, .bool false)]) st)
  | 0, i, n + 1, hi, hk => by
    have e1 : bs.drop i = [] := List.drop_eq_nil_of_le (by omega)
    have e2 : cs.drop i = [] := List.drop_eq_nil_of_le (by omega)
    rw [e1, e2, show n + 1 = n.succ from rfl, same_end _ _ _ _ _ _ _ _ _ (by simp; omega)]
    rfl
  | k + 1, i, n + 1, hi, hk => by
    have hi1 : i < bs.length := by omega
    have hi2 : i < cs.length := by omega
    have ih := same_loop F f f' st K bs cs hl hb k (i + 1) n (by omega) (by omega)
    rw [show n + 1 = n.succ from rfl, same_round F n K i bs[i] cs[i] f f' _ _ st (elemAt_nat _ _ _ hi1) (elemAt_nat _ _ _ hi2), branch_of (by simp; omega), wrapS (by omega) (by omega)]
    rw [show ((i : Int) + 1) = ((i + 1 : Nat) : Int) by omega, ih]
    rw [List.drop_eq_getElem_cons hi1, List.drop_eq_getElem_cons hi2]
    simp only [sameRows, branch_ite, bne]
    cases (bs[i] == cs[i]) <;> simp
end Go.Proofs.YtcfedmheblbdnaaGreatDoor.K

/- Bits: equal bytes and copies, as callees. -/
set_option linter.unusedVariables false
namespace Go.Proofs.YtcfedmheblbdnaaGreatDoor.K
open Go Go.V Go.RowKit

/-- A slice of bytes. -/
inductive Bt where
  | nil
  | sl (f : Bool) (bs : List Int)
def ri (bs : List Int) : List (List AV) := bs.map fun b => [.int .u8 b]
def Bt.av : Bt → AV
  | .nil => .nilsl
  | .sl f bs => .sl 1 f (ri bs)
def Bt.list : Bt → List Int
  | .nil => []
  | .sl _ bs => bs
def decBt (x : AV) : Option Bt :=
  match x with
  | .nilsl => some .nil
  | .sl 1 f l => match numsOf l with
    | some bs => some (.sl f bs)
    | none => none
  | _ => none
theorem numsOf_eq : ∀ {l : List (List AV)} {bs : List Int}, numsOf l = some bs → l = ri bs
  | [], bs, h => by simp only [numsOf, Option.some.injEq] at h; subst h; rfl
  | r :: l, bs, h => by
    unfold numsOf at h
    split at h
    · split at h
      · rename_i n _ ns hn
        simp only [Option.some.injEq] at h
        subst h
        rw [numsOf_eq hn]; rfl
      · cases h
    · cases h
theorem decBt_av {x : AV} {b : Bt} (h : decBt x = some b) : x = b.av := by
  unfold decBt at h
  split at h
  · cases h; rfl
  · split at h
    · rename_i hn; cases h; rw [numsOf_eq hn]; rfl
    · cases h
  · cases h
theorem decBt_of (b : Bt) : decBt b.av = some b := by
  cases b with
  | nil => rfl
  | sl f bs => simp [Bt.av, decBt, ri, numsOf_map]

def dec2b : List AV → Option (Bt × Bt)
  | [x, y] => match decBt x, decBt y with
    | some a, some b => some (a, b)
    | _, _ => none
  | _ => none
theorem dec2b_enc (l : List AV) (a : Bt × Bt) (h : dec2b l = some a) : l = [a.1.av, a.2.av] := by
  unfold dec2b at h
  split at h
  · split at h
    · rename_i h1 h2; cases h; rw [decBt_av h1, decBt_av h2]
    · cases h
  · cases h
def dec1b : List AV → Option Bt
  | [x] => decBt x
  | _ => none
theorem dec1b_enc (l : List AV) (a : Bt) (h : dec1b l = some a) : l = [a.av] := by
  unfold dec1b at h
  split at h
  · rw [decBt_av h]
  · cases h
def small (b : Bt) : Bool := decide (b.list.length < 140737488355328)

theorem sameRows_len : ∀ {a b : List Int}, a.length ≠ b.length → sameRows a b = false
  | [], [], h => absurd rfl h
  | [], _ :: _, _ => rfl
  | _ :: _, [], _ => rfl
  | x :: a, y :: b, h => by
    simp only [sameRows, sameRows_len (a := a) (b := b) (by simpa using h), Bool.and_false]
noncomputable def p17 : POrc Tryz.prog := (f17.pureIf dec2b (fun a => [a.1.av, a.2.av]) dec2b_enc (fun a => small a.1) (fun a => .bool (sameRows a.1.list a.2.list)) (fun a _ => ⟨rfl, fun _ _ => trivial⟩) fun a h => by
  obtain ⟨x, y⟩ := a
  refine ⟨x.list.length + 1, fun st => ?_⟩
  cases x with
  | nil =>
    cases y with
    | nil => exact same_nn 0 st
    | sl f bs =>
      show f17.run (0 + 1) [.nilsl, .sl 1 f (ri bs)] st = _
      rw [show 0 + 1 = Nat.succ 0 from rfl, same_ns]
      cases bs with
      | nil => rfl
      | cons b bs => rw [branch_of (by simp [ri, bne]; omega)]; rfl
  | sl f bs =>
    have hs : bs.length < 140737488355328 := of_decide_eq_true h
    cases y with
    | nil =>
      show f17.run (bs.length + 1) [.sl 1 f (ri bs), .nilsl] st = _
      rw [show bs.length + 1 = Nat.succ bs.length from rfl, same_sn]
      cases bs with
      | nil => rfl
      | cons b bs => rw [branch_of (by simp [ri, bne]; omega)]; rfl
    | sl f' cs =>
      show f17.run (bs.length + 1) [.sl 1 f (ri bs), .sl 1 f' (ri cs)] st = some (.ret (.bool (sameRows bs cs)), st)
      rw [same_run]
      by_cases hl : bs.length = cs.length
      · rw [branch_not (by simp [ri, hl])]
        have := same_loop (bs.length + 1) f f' st (Cont.block 0 (Cont.then (f17_r0.run (bs.length + 1) (f17.leaveK Fun.done)) (f17.leaveK Fun.done))) bs cs hl (by omega) bs.length 0 (bs.length + 1) (by omega) (by omega)
        simp only [ri]
        rw [show ((0 : Nat) : Int) = 0 from rfl] at this
        rw [this, same_out, same_ret]
        simp only [List.drop_zero]
        cases sameRows bs cs <;> rfl
      · rw [branch_of (by simp [ri, bne]; omega), sameRows_len hl]).fz

theorem small_sl {f : Bool} {bs : List Int} (h : small (.sl f bs) = true) : bs.length < 140737488355328 := of_decide_eq_true h
/-- What a copy is. -/
noncomputable def p30 : POrc Tryz.prog := (f30.pureIfX dec1b (fun a => [a.av]) dec1b_enc small (fun a => .sl 1 a.list.isEmpty (ri a.list)) (fun a n m => scoped_ints _ _ _ _) fun a h => ⟨1, fun st => by
  cases a with
  | nil => exact ⟨.sl 1 true [], [], [], rfl, by show f30.run 1 [.nilsl] st = _; rw [copy_nil]; simp⟩
  | sl f bs =>
    have hs := small_sl h
    cases bs with
    | nil => exact ⟨.sl 1 true [], [], [], rfl, by show f30.run 1 [.sl 1 f []] st = _; rw [copy_run]; simp⟩
    | cons b bs =>
      refine ⟨.lg st.tk.length 1 (ri (b :: bs)), [], [(1, (b :: bs).length)], rfl, ?_⟩
      show f30.run 1 [.sl 1 f ([.int .u8 b] :: ri bs)] st = _
      rw [copy_run, onCons_cons, if_pos (by simp only [List.length_cons, ri, List.length_map] at hs ⊢; omega), List.append_nil]
      simp [ri]⟩).fz
noncomputable def p51 : POrc Tryz.prog := (f51.pureIfX dec1b (fun a => [a.av]) dec1b_enc small (fun a => match a with | .nil => .nilsl | .sl _ bs => .sl 1 bs.isEmpty (ri bs)) (fun a n m => by cases a with | nil => trivial | sl f bs => exact scoped_ints _ _ _ _) fun a h => ⟨1, fun st => by
  cases a with
  | nil => exact ⟨.nilsl, [], [], rfl, by show f51.run 1 [.nilsl] st = _; rw [clone_nil]; simp⟩
  | sl f bs =>
    have hs := small_sl h
    cases bs with
    | nil => exact ⟨.sl 1 true [], [], [], rfl, by show f51.run 1 [.sl 1 f []] st = _; rw [clone_run]; simp⟩
    | cons b bs =>
      refine ⟨.lg st.tk.length 1 (ri (b :: bs)), [], [(1, (b :: bs).length)], rfl, ?_⟩
      show f51.run 1 [.sl 1 f ([.int .u8 b] :: ri bs)] st = _
      rw [clone_run, onCons_cons, if_pos (by simp only [List.length_cons, ri, List.length_map] at hs ⊢; omega), List.append_nil]
      simp [ri]⟩).fz
end Go.Proofs.YtcfedmheblbdnaaGreatDoor.K

/- Bits: the number that stands next. -/
set_option linter.unusedVariables false
namespace Go.Proofs.YtcfedmheblbdnaaGreatDoor.K
open Go Go.V Go.RowKit

/-- The number that stands next, and how many bytes it has; i: the place, u: what has been read. -/
def digF : Nat → Nat → List Int → Nat × Nat
  | _, _, [] => (0, 0)
  | i, u, c :: r => if i = 9 ∧ c.toNat % 128 > 1 then (0, 0) else
    if c.toNat < 128 then (if c.toNat % 128 = 0 ∧ i > 0 then (0, 0) else (u + c.toNat % 128 * 2 ^ (7 * i), i + 1))
    else digF (i + 1) (u + c.toNat % 128 * 2 ^ (7 * i)) r
def okB (bs : List Int) : Bool := bs.all fun b => decide (0 ≤ b) && decide (b < 256)
theorem okB_at {bs : List Int} (h : okB bs = true) {i : Nat} (hi : i < bs.length) : ∃ c : Nat, bs[i] = (c : Int) ∧ c < 256 := by
  have := List.all_eq_true.mp h bs[i] (List.getElem_mem hi)
  simp only [Bool.and_eq_true, decide_eq_true_eq] at this
  exact ⟨bs[i].toNat, by omega, by omega⟩

theorem dig_or {i u d : Nat} (hi : i ≤ 9) (hu : u < 2 ^ (7 * i)) (hd : d < 128) (h9 : ¬ (i = 9 ∧ d > 1)) :
    bitsI .or .u64 (u : Int) (IntKind.u64.wrap (IntKind.u64.wrap (d : Int) * 2 ^ min (IntKind.i64.wrap (7 * (i : Int))).toNat 64)) = ((u + d * 2 ^ (7 * i) : Nat) : Int) ∧ u + d * 2 ^ (7 * i) < 2 ^ 64 ∧ u + d * 2 ^ (7 * i) < 2 ^ (7 * (i + 1)) := by
  have e1 : (IntKind.i64.wrap (7 * (i : Int))).toNat = 7 * i := by rw [wrapS (by omega) (by omega)]; omega
  have e2 : min (7 * i) 64 = 7 * i := by omega
  have hP : 2 ^ (7 * i) ≤ 2 ^ 63 := Nat.pow_le_pow_right (by omega) (by omega)
  have hdP : u + d * 2 ^ (7 * i) < 2 ^ 64 := by
    by_cases h : i = 9
    · have : d ≤ 1 := by omega
      have : d * 2 ^ (7 * i) ≤ 1 * 2 ^ (7 * i) := Nat.mul_le_mul_right _ this
      omega
    · have hQ : 2 ^ (7 * i) ≤ 2 ^ 56 := Nat.pow_le_pow_right (by omega) (by omega)
      have : d * 2 ^ (7 * i) ≤ 127 * 2 ^ (7 * i) := Nat.mul_le_mul_right _ (by omega)
      omega
  have hdP' : u + d * 2 ^ (7 * i) < 2 ^ (7 * (i + 1)) := by
    have : d * 2 ^ (7 * i) ≤ 127 * 2 ^ (7 * i) := Nat.mul_le_mul_right _ (by omega)
    rw [show 7 * (i + 1) = 7 * i + 7 by omega, Nat.pow_add]
    omega
  refine ⟨?_, hdP, hdP'⟩
  rw [e1, e2, wrapU64 (by omega), show (d : Int) * 2 ^ (7 * i) = ((d * 2 ^ (7 * i) : Nat) : Int) by rw [Int.natCast_mul, Int.natCast_pow]; rfl, wrapU64 (by omega), bitsOr rfl (by simp only [IntKind.bits]; omega) (by simp only [IntKind.bits]; omega), or_above hu]

theorem dig_loop (F : Nat) (f : Bool) (st : St) (cs : List Int) (hc : cs.length ≤ 10) (hok : okB cs = true) : ∀ (k i u n : Nat), i + k = cs.length → k < n → u < 2 ^ (7 * i) →
    loopRun (f68_l0.run F) [4, 12, 13, 14] (Cont.block 0 (Cont.then (f68_r0.run F (f68.leaveK Fun.done)) (f68.leaveK Fun.done))) n (Env.mk 46 [(4, .int .u64 u), (12, .sl 1 f (ri cs)), (13, .int .i64 (ri cs).length), (14, .int .i64 i)]) st
      = some (.ret (.tup [.int .u64 ((digF i u (cs.drop i)).1 : Int), .int .i64 ((digF i u (cs.drop i)).2 : Int)]), st)
  | 0, i, u, n + 1, hi, hk, hu => by
    rw [show n + 1 = n.succ from rfl, digits_end _ _ _ _ _ _ _ _ (by simp [ri]; omega), digits_out, List.drop_eq_nil_of_le (by omega)]
    rfl
  | k + 1, i, u, n + 1, hi, hk, hu => by
    have hi1 : i < cs.length := by omega
    obtain ⟨c, hc1, hc2⟩ := okB_at hok hi1
    have hel : elemAt (ri cs) (i : Int) = some [.int .u8 (c : Int)] := by rw [← hc1]; exact elemAt_nat _ _ _ hi1
    have hd : IntKind.u64.wrap (bitsI .andNot .u8 (c : Int) 128) = ((c % 128 : Nat) : Int) := by rw [andNot128 hc2]; exact wrapU64 (by omega)
    have ih := dig_loop F f st cs hc hok k (i + 1) (u + c % 128 * 2 ^ (7 * i)) n (by omega) (by omega)
    rw [show n + 1 = n.succ from rfl, digits_round F n _ u i c f (ri cs) st hel, branch_of (by simp [ri]; omega), hd, List.drop_eq_getElem_cons hi1, hc1]
    simp only [digF, Int.toNat_natCast]
    by_cases h9 : i = 9 ∧ c % 128 > 1
    · rw [if_pos h9, branch_of (by simp; omega), branch_of (by simp; omega), digits_ret]
      rfl
    · obtain ⟨o901, o902, o903⟩ := dig_or (d := c % 128) (by omega) hu (by omega) h9
      have hrest : (if 0 ≤ IntKind.i64.wrap (7 * (i : Int)) then
          branch (.bool (decide ((c : Int) < 128)))
            (branch (.bool (((c % 128 : Nat) : Int) == 0))
              (branch (.bool (decide ((i : Int) > 0)))
                ((Cont.block 0 (Cont.then (f68_r0.run F (f68.leaveK Fun.done)) (f68.leaveK Fun.done))) .ret (Env.mk 46 [(2, .int .u64 0), (3, .int .i64 0)]) st)
                ((Cont.block 0 (Cont.then (f68_r0.run F (f68.leaveK Fun.done)) (f68.leaveK Fun.done))) .ret (Env.mk 46 [(2, .int .u64 (bitsI .or .u64 (u : Int) (IntKind.u64.wrap (((c % 128 : Nat) : Int) * 2 ^ min (IntKind.i64.wrap (7 * (i : Int))).toNat 64)))), (3, .int .i64 (IntKind.i64.wrap ((i : Int) + 1)))]) st))
              ((Cont.block 0 (Cont.then (f68_r0.run F (f68.leaveK Fun.done)) (f68.leaveK Fun.done))) .ret (Env.mk 46 [(2, .int .u64 (bitsI .or .u64 (u : Int) (IntKind.u64.wrap (((c % 128 : Nat) : Int) * 2 ^ min (IntKind.i64.wrap (7 * (i : Int))).toNat 64)))), (3, .int .i64 (IntKind.i64.wrap ((i : Int) + 1)))]) st))
            (loopRun (f68_l0.run F) [4, 12, 13, 14] (Cont.block 0 (Cont.then (f68_r0.run F (f68.leaveK Fun.done)) (f68.leaveK Fun.done))) n (Env.mk 46 [(4, .int .u64 (bitsI .or .u64 (u : Int) (IntKind.u64.wrap (((c % 128 : Nat) : Int) * 2 ^ min (IntKind.i64.wrap (7 * (i : Int))).toNat 64)))), (12, .sl 1 f (ri cs)), (13, .int .i64 (ri cs).length), (14, .int .i64 (IntKind.i64.wrap ((i : Int) + 1)))]) st)
          else none) = some (.ret (.tup [.int .u64 ((if c < 128 then (if c % 128 = 0 ∧ i > 0 then (0, 0) else (u + c % 128 * 2 ^ (7 * i), i + 1)) else digF (i + 1) (u + c % 128 * 2 ^ (7 * i)) (cs.drop (i + 1))).1 : Int), .int .i64 ((if c < 128 then (if c % 128 = 0 ∧ i > 0 then (0, 0) else (u + c % 128 * 2 ^ (7 * i), i + 1)) else digF (i + 1) (u + c % 128 * 2 ^ (7 * i)) (cs.drop (i + 1))).2 : Int)]), st) := by
        rw [wrapU64 (n := c % 128) (by omega)] at o901
        rw [if_pos (by rw [wrapS (by omega) (by omega)]; omega), o901, wrapS (by omega) (by omega), show ((i : Int) + 1) = ((i + 1 : Nat) : Int) by omega]
        by_cases h1 : c < 128
        · rw [branch_of (by simp; omega), if_pos h1]
          by_cases h2 : c % 128 = 0
          · rw [branch_of (by simp; omega)]
            by_cases h3 : i > 0
            · rw [branch_of (by simp; omega), if_pos ⟨h2, h3⟩, digits_ret]; rfl
            · rw [branch_not (by simp; omega), if_neg (by omega), digits_ret]
          · rw [branch_not (by simp; omega), if_neg (by omega), digits_ret]
        · rw [branch_not (by simp; omega), if_neg h1, ih o903]
      rw [if_neg h9]
      by_cases h : i = 9
      · rw [branch_of (by simp; omega), branch_not (by simp; omega)]
        exact hrest
      · rw [branch_not (by simp; omega)]
        exact hrest
end Go.Proofs.YtcfedmheblbdnaaGreatDoor.K

/- Bits: digits as a callee. -/
set_option linter.unusedVariables false
namespace Go.Proofs.YtcfedmheblbdnaaGreatDoor.K
open Go Go.V Go.RowKit

def digB (bs : List Int) : Nat × Nat := digF 0 0 (bs.take 10)
theorem okB_take {bs : List Int} (h : okB bs = true) (n : Nat) : okB (bs.take n) = true :=
  List.all_eq_true.mpr fun x hx => List.all_eq_true.mp h x (List.mem_of_mem_take hx)
theorem digits_spec (f : Bool) (bs : List Int) (hs : bs.length < 140737488355328) (hok : okB bs = true) (st : St) :
    f68.run 11 [.sl 1 f (ri bs)] st = some (.ret (.tup [.int .u64 ((digB bs).1 : Int), .int .i64 ((digB bs).2 : Int)]), st) := by
  have hl : (ri bs).length = bs.length := by simp [ri]
  have hmin : (leastI false ((ri bs).length : Int) 10).toNat = min 10 bs.length := by
    simp only [leastI]; rw [hl]; split <;> omega
  have ht : List.drop 0 (List.take (leastI false ((ri bs).length : Int) 10).toNat (ri bs)) = ri (bs.take 10) := by
    rw [hmin, List.drop_zero]
    simp only [ri, ← List.map_take]
    congr 1
    rw [List.take_eq_take_iff]
    omega
  have hle : (0 : Int) ≤ leastI false ((ri bs).length : Int) 10 ∧ leastI false ((ri bs).length : Int) 10 ≤ ((ri bs).length : Int) := by
    simp only [leastI]; split <;> omega
  rw [digits_run, if_pos hle, ht]
  exact dig_loop 11 _ st (bs.take 10) (by simp; omega) (okB_take hok 10) (bs.take 10).length 0 0 11 (by omega) (by simp; omega) (by decide)

noncomputable def p68 : POrc Tryz.prog := (f68.pureIf dec1b (fun a => [a.av]) dec1b_enc (fun a => small a && okB a.list) (fun a => .tup [.int .u64 ((digB a.list).1 : Int), .int .i64 ((digB a.list).2 : Int)]) (fun a _ => ⟨rfl, fun _ _ => ⟨trivial, trivial, trivial⟩⟩) fun a h => ⟨11, fun st => by
  cases a with
  | nil => exact digits_nil 10 st
  | sl f bs =>
    simp only [Bool.and_eq_true] at h
    exact digits_spec f bs (small_sl h.1) h.2 st⟩).fz
end Go.Proofs.YtcfedmheblbdnaaGreatDoor.K

/- Bits: the callees again, read no deeper than they must. -/
set_option linter.unusedVariables false
namespace Go.Proofs.YtcfedmheblbdnaaGreatDoor.K
open Go Go.V Go.RowKit
def iR (l : List (List AV)) : List Int := (nR l).map fun (b : Nat) => (b : Int)
def Br.bt : Br → Bt
  | .nil => .nil
  | .sl f l => .sl f (iR l)
theorem okR_ri {l : List (List AV)} (h : okR l = true) : l = ri (iR l) := by
  conv => lhs; rw [okR_rows h]
  simp [bR, ri, iR]
theorem Br.bt_av {b : Br} (h : okR b.list = true) : b.av = (Br.bt b).av := by
  cases b with
  | nil => rfl
  | sl f l => show AV.sl 1 f l = AV.sl 1 f (ri (iR l)); rw [← okR_ri (l := l) h]
theorem Br.bt_list (b : Br) : (Br.bt b).list = iR b.list := by cases b <;> rfl
theorem iR_length (l : List (List AV)) : (iR l).length = l.length := by simp [iR, nR]
theorem iR_ok {l : List (List AV)} (h : okR l = true) : okB (iR l) = true := by
  simp only [okB, iR, List.all_map, List.all_eq_true]
  intro b hb
  have := okR_lt h hb
  simp; omega
/-- Fit to be handed to a callee. -/
def fit (b : Br) : Bool := okR b.list && decide (b.list.length < 140737488355328)
theorem fit_spec {b : Br} (h : fit b = true) : okR b.list = true ∧ b.list.length < 140737488355328 := by
  simpa [fit] using h
theorem fit_small {b : Br} (h : fit b = true) : small (Br.bt b) = true := by
  simp only [small, Br.bt_list, iR_length, decide_eq_true_eq]; exact (fit_spec h).2

noncomputable def r30 : POrc Tryz.prog := p30.re byt1 fit (fun a => .sl 1 a.list.isEmpty a.list) fun args a h hp k => by
  unfold p30
  refine Eq.trans (pureIfX_fz (a := Br.bt a) (by rw [byt1_of h, Br.bt_av (fit_spec hp).1]; simp only [dec1b, decBt_of]) (fit_small hp) k) ?_
  simp only [Br.bt_list]
  rw [← okR_ri (fit_spec hp).1, show (iR a.list).isEmpty = a.list.isEmpty by simp [iR, nR]]
noncomputable def r51 : POrc Tryz.prog := p51.re byt1 fit (fun a => match a with | .nil => .nilsl | .sl _ l => .sl 1 l.isEmpty l) fun args a h hp k => by
  unfold p51
  refine Eq.trans (pureIfX_fz (a := Br.bt a) (by rw [byt1_of h, Br.bt_av (fit_spec hp).1]; simp only [dec1b, decBt_of]) (fit_small hp) k) ?_
  cases a with
  | nil => rfl
  | sl f l =>
    simp only [Br.bt]
    rw [← okR_ri (l := l) (fit_spec hp).1, show (iR l).isEmpty = l.isEmpty by simp [iR, nR]]
/-- The number that bytes begin with, without its sign, and its length; 0: none. -/
def digR (l : List (List AV)) : Nat × Nat := digB (iR l)
noncomputable def r68 : POrc Tryz.prog := p68.re byt1 fit (fun a => .tup [.int .u64 ((digR a.list).1 : Int), .int .i64 ((digR a.list).2 : Int)]) fun args a h hp k => by
  unfold p68
  refine Eq.trans (pureIf_fz (a := Br.bt a) (by rw [byt1_of h, Br.bt_av (fit_spec hp).1]; simp only [dec1b, decBt_of]) (by rw [fit_small hp, Br.bt_list, iR_ok (fit_spec hp).1]; rfl) k) ?_
  simp only [Br.bt_list, digR]
end Go.Proofs.YtcfedmheblbdnaaGreatDoor.K

/- Bits: numbers read and written, in plain words. -/
set_option linter.unusedVariables false
namespace Go.Proofs.YtcfedmheblbdnaaGreatDoor.K
open Go Go.V Go.RowKit

/-- The number that stands next; i: the place, u: what has been read. -/
def digN : Nat → Nat → List Nat → Nat × Nat
  | _, _, [] => (0, 0)
  | i, u, c :: r => if i = 9 ∧ c % 128 > 1 then (0, 0) else
    if c < 128 then (if c % 128 = 0 ∧ i > 0 then (0, 0) else (u + c % 128 * 2 ^ (7 * i), i + 1))
    else digN (i + 1) (u + c % 128 * 2 ^ (7 * i)) r
theorem digF_nat : ∀ (l : List Nat) (i u : Nat), digF i u (l.map fun (b : Nat) => (b : Int)) = digN i u l
  | [], _, _ => rfl
  | c :: r, i, u => by
    simp only [List.map_cons, digF, digN, Int.toNat_natCast, digF_nat r]
theorem digR_nat (l : List (List AV)) : digR l = digN 0 0 ((nR l).take 10) := by
  simp only [digR, digB, iR, ← List.map_take, digF_nat]

/-- A number out of one without a sign. -/
def unfN (u : Nat) : Int := if u % 2 = 0 then (u / 2 : Nat) else -((u / 2 : Nat) : Int) - 1
theorem dig_back : ∀ (l : List Nat) (i u w m : Nat), (∀ b ∈ l, b < 256) → i + l.length ≤ 10 → digN i u l = (w, m) → m ≠ 0 →
    ∃ v j, w = u + v * 2 ^ (7 * i) ∧ m = i + j ∧ j ≤ l.length ∧ 0 < j ∧ i ≤ 9 ∧ encN (9 - i) v = l.take j ∧ v < 2 ^ (64 - 7 * i) ∧ (0 < i → 0 < v)
  | [], i, u, w, m, hb, hl, h, hm => by simp [digN] at h; omega
  | c :: r, i, u, w, m, hb, hl, h, hm => by
    have hc : c < 256 := hb c (by simp)
    have hi9 : i ≤ 9 := by simp at hl; omega
    rw [digN] at h
    split at h
    · simp at h; omega
    · rename_i h9
      split at h
      · rename_i h1
        split at h
        · simp at h; omega
        · rename_i h2
          simp only [Prod.mk.injEq] at h
          refine ⟨c, 1, by rw [← h.1, Nat.mod_eq_of_lt h1], by omega, by simp, by omega, hi9, ?_, ?_, by omega⟩
          · rw [List.take_succ_cons, List.take_zero]
            cases hk : 9 - i with
            | zero => rfl
            | succ k => rw [encN, if_pos h1]
          · by_cases hi : i = 9
            · subst hi; simp; omega
            · have : 2 ^ 7 ≤ 2 ^ (64 - 7 * i) := Nat.pow_le_pow_right (by omega) (by omega)
              omega
      · rename_i h1
        by_cases hi : i = 9
        · subst hi
          have : r = [] := by apply List.eq_nil_of_length_eq_zero; simp at hl; omega
          subst this
          simp [digN] at h; omega
        · obtain ⟨v, j, e1, e2, e3, e4, e5, e6, e7, e8⟩ := dig_back r (i + 1) _ w m (fun b hb' => hb b (by simp [hb'])) (by simp at hl; omega) h hm
          have hv := e8 (by omega)
          have hp : 2 ^ (64 - 7 * i) = 128 * 2 ^ (64 - 7 * (i + 1)) := by
            rw [show 64 - 7 * i = 7 + (64 - 7 * (i + 1)) by omega, Nat.pow_add]
          refine ⟨c % 128 + 128 * v, j + 1, ?_, by omega, by simp; omega, by omega, hi9, ?_, by omega, by omega⟩
          · rw [e1, show 7 * (i + 1) = 7 * i + 7 by omega, Nat.pow_add, Nat.add_mul, Nat.add_assoc, Nat.mul_comm 128 v, Nat.mul_assoc, Nat.mul_comm (2 ^ (7 * i)) (2 ^ 7)]
          · rw [show 9 - i = (9 - (i + 1)) + 1 by omega, encN, if_neg (by omega), List.take_succ_cons, show (c % 128 + 128 * v) / 128 = v by omega, e6, show (c % 128 + 128 * v) % 128 + 128 = c by omega]

/-- The number that bytes begin with, and how many bytes it has. -/
def getN (l : List Nat) : Option (Int × Nat) :=
  if (digN 0 0 (l.take 10)).2 = 0 then none else some (unfN (digN 0 0 (l.take 10)).1, (digN 0 0 (l.take 10)).2)

theorem getN_digR {l : List (List AV)} : getN (nR l) = if (digR l).2 = 0 then none else some (unfN (digR l).1, (digR l).2) := by rw [digR_nat]; rfl
theorem digR_lt {l : List (List AV)} (h : okR l = true) (h0 : (digR l).2 ≠ 0) : (digR l).1 < 18446744073709551616 ∧ (digR l).2 ≤ l.length := by
  rw [digR_nat] at h0 ⊢
  obtain ⟨v, j, e1, e2, e3, e4, e5, e6, e7, e8⟩ := dig_back ((nR l).take 10) 0 0 _ _ (fun b hb' => okR_lt h (List.mem_of_mem_take hb')) (by simp; omega) rfl h0
  simp only [List.length_take, nR_length] at e3
  simp only [Nat.mul_zero, Nat.pow_zero, Nat.mul_one, Nat.zero_add] at e1 e2
  exact ⟨by rw [e1]; simpa using e7, by omega⟩
/-- The program's unfold. -/
theorem unfold_eq {u : Nat} (h : u < 18446744073709551616) :
    bitsI .xor .i64 (IntKind.i64.wrap ((u : Int).fdiv 2)) (IntKind.i64.wrap (0 - IntKind.i64.wrap (bitsI .and .u64 (u : Int) 1))) = unfN u := by
  have e1 : (u : Int).fdiv 2 = ((u / 2 : Nat) : Int) := by rw [Int.fdiv_eq_ediv_of_nonneg _ (by omega)]; rfl
  have e2 : bitsI .and .u64 (u : Int) 1 = ((u % 2 : Nat) : Int) := by
    rw [show (1 : Int) = ((1 : Nat) : Int) from rfl, bitsAnd rfl (by simpa [IntKind.bits] using h) (by decide), Nat.and_one_is_mod]
  rw [e1, e2, wrapS (by omega) (by omega), wrapS (n := ((u % 2 : Nat) : Int)) (by omega) (by omega), wrapS (by omega) (by omega)]
  have key : ∀ x : Nat, x < 2 ^ 63 → (BitVec.ofInt 64 (x : Int)).toNat = x := fun x hx => ofIntNat (by omega)
  unfold unfN
  split
  · rename_i h2
    rw [h2]
    show IntKind.i64.wrap ((BitVec.ofInt 64 ((u / 2 : Nat) : Int) ^^^ BitVec.ofInt 64 0).toNat : Int) = _
    rw [show (BitVec.ofInt 64 0) = 0#64 from rfl, BitVec.xor_zero, key _ (by omega), wrapS (by omega) (by omega)]
  · have h2 : u % 2 = 1 := by omega
    rw [h2]
    show IntKind.i64.wrap ((BitVec.ofInt 64 ((u / 2 : Nat) : Int) ^^^ BitVec.ofInt 64 (-1)).toNat : Int) = _
    rw [show (BitVec.ofInt 64 (-1)) = BitVec.allOnes 64 by decide, BitVec.toNat_xor, BitVec.toNat_allOnes, key _ (by omega), xor_ones (by omega)]
    unfold IntKind.wrap
    simp only [IntKind.signed, IntKind.bits]
    have : (((2 ^ 64 - 1 - u / 2 : Nat) : Int)) % (2 ^ 64 : Nat) = ((2 ^ 64 - 1 - u / 2 : Nat) : Int) := Int.emod_eq_of_lt (by omega) (by omega)
    simp
    omega

def dec1u : List AV → Option Int
  | [.int .u64 u] => some u
  | _ => none
theorem dec1u_enc (l : List AV) (a : Int) (h : dec1u l = some a) : l = [.int .u64 a] := by
  unfold dec1u at h; split at h <;> first | (cases h; rfl) | cases h
noncomputable def r69 : POrc Tryz.prog := f69.pureIf dec1u (fun u => [.int .u64 u]) dec1u_enc (fun u => cdec (0 ≤ u ∧ u < 18446744073709551616)) (fun u => .int .i64 (unfN u.toNat)) (fun a _ => ⟨rfl, fun _ _ => trivial⟩) fun u h => ⟨0, fun st => by
  rw [cdec_iff] at h
  obtain ⟨m, rfl⟩ : ∃ m : Nat, u = m := ⟨u.toNat, by omega⟩
  rw [unfold_run, unfold_eq (by omega)]; rfl⟩
end Go.Proofs.YtcfedmheblbdnaaGreatDoor.K

/- The functions' pieces, as told by gen.py. -/
set_option linter.unusedVariables false
set_option maxRecDepth 20000
namespace Go.Proofs.YtcfedmheblbdnaaGreatDoor.K
open Go Go.V Go.RowKit

theorem ze73 : (Tryz.prog.info? 73).bind (·.zero) = some (.agg #[(.slice none 0 0), (.bool false)]) := by kernel_rfl

/-! ### 26: interlock/bits.NewReader (25); results 2; slots: 0 b, 1 b -/
noncomputable def f26_b : Sim Tryz.prog :=
 (.seq (.live [0] (.region 0 [
 ⟨(opAssign (some 2) (.const (Value.pointer none)) 47 "bits.go:47" #[]).op, none⟩
 ] (by kernel_rfl)))
 (.seq (.live [2] (.region 1 [
 ⟨(opMove (some 3) (.tmp 0) 25 "bits.go:47" #[]).op, none⟩,
 ⟨(opCallP r51 (some 4) [(.tmp 3)] #[25] 25 "bits.go:47" #[{ on := 0, ground := Ground.data }]).op, none⟩,
 ⟨(opBuild (some 5) 73 #[(.slice none 0 0), (.bool false)] [(0, 0, 1, (.tmp 4))] ze73 (by kernel_rfl) 73 "bits.go:47" #[{ on := 1, ground := Ground.data }]).op, none⟩,
 ⟨(opBox (some 6) 73 (.tmp 5) 47 "bits.go:47" #[{ on := 2, ground := Ground.data }]).op, none⟩,
 ⟨(opAssign (some 2) (.tmp 6) 47 "bits.go:47" #[{ on := 3, ground := Ground.data }, { on := 1, ground := Ground.chain }, { on := 0, ground := Ground.phase }, { on := 1, ground := Ground.phase }, { on := 2, ground := Ground.phase }, { on := 3, ground := Ground.phase }]).op, none⟩
 ] (by kernel_rfl)))
 (.live [2] .ret)))

noncomputable def f26 : Fun Tryz.prog where
 id := 26
 fn := Tryz.f26
 hf := Tryz.func26
 hname := by kernel_rfl
 body := f26_b
 hbody := by kernel_rfl
 res := [rTmp 2]
 hres := by kernel_rfl
 n := 7
 hn := by kernel_rfl

/-! ### 52: (*interlock/bits.Reader).Int (47); results 2; slots: 0 r, 1 r, 3 u, 4 n -/
noncomputable def f52_b : Sim Tryz.prog :=
 (.seq (.live [0] (.region 0 [
 ⟨(opAssign (some 2) (.const (Value.int IntKind.i64 0)) 3 "bits.go:72" #[]).op, none⟩
 ] (by kernel_rfl)))
 (.seq (.live [0, 3, 4] (.region 1 [
 ⟨(opMove (some 6) (.tmp 0) 47 "bits.go:73" #[]).op, none⟩,
 ⟨(opNilCheck (some 7) (.tmp 6) 0 "bits.go:73" #[{ on := 0, ground := Ground.data }]).op, none⟩,
 ⟨(opFieldAddr (some 8) 73 (.tmp 7) 0 0 1 false fl73_0 (by decide) 0 "bits.go:73" #[{ on := 1, ground := Ground.data }]).op, none⟩,
 ⟨(opLoad (some 9) 25 (.tmp 8) (.slice 5) Tryz.underlying25 1 sz25 25 "bits.go:73" #[{ on := 2, ground := Ground.data }]).op, none⟩,
 ⟨(opCallP r68 (some 10) [(.tmp 9)] #[25] 89 "bits.go:73" #[{ on := 3, ground := Ground.data }]).op, none⟩,
 ⟨(opMove (some 5) (.tmp 10) 89 "bits.go:73" #[{ on := 4, ground := Ground.data }]).op, none⟩,
 ⟨(opExtract (some 11) (.tmp 5) 0 69 "bits.go:73" #[{ on := 5, ground := Ground.data }]).op, none⟩,
 ⟨(opExtract (some 12) (.tmp 5) 1 3 "bits.go:73" #[{ on := 5, ground := Ground.data }, { on := 8, ground := (Ground.gcOnly Departure.lateStores) }]).op, none⟩,
 ⟨(opAssign (some 3) (.tmp 11) 69 "bits.go:73" #[{ on := 6, ground := Ground.data }, { on := 4, ground := Ground.chain }, { on := 0, ground := Ground.phase }, { on := 1, ground := Ground.phase }, { on := 2, ground := Ground.phase }, { on := 3, ground := Ground.phase }, { on := 4, ground := Ground.phase }, { on := 5, ground := Ground.phase }, { on := 6, ground := Ground.phase }, { on := 7, ground := (Ground.textOnly Departure.lateStores) }]).op, none⟩,
 ⟨(opAssign (some 4) (.tmp 12) 3 "bits.go:73" #[{ on := 7, ground := Ground.data }, { on := 8, ground := Ground.chain }, { on := 0, ground := Ground.phase }, { on := 1, ground := Ground.phase }, { on := 2, ground := Ground.phase }, { on := 3, ground := Ground.phase }, { on := 4, ground := Ground.phase }, { on := 5, ground := Ground.phase }, { on := 6, ground := Ground.phase }, { on := 7, ground := Ground.phase }, { on := 8, ground := Ground.phase }]).op, none⟩
 ] (by kernel_rfl)))
 (.seq (.seq (.live [0, 3, 4, 14] (.region 2 [
 ⟨(opMove (some 13) (.tmp 4) 3 "bits.go:74" #[]).op, none⟩,
 ⟨(opBin (some 14) .eql 3 (.tmp 13) (.const (Value.int IntKind.i64 0)) 3 4 "bits.go:74" #[{ on := 0, ground := Ground.data }]).op, none⟩
 ] (by kernel_rfl)))
 (.cond (.tmp 14)
 (.seq (.live [] (.region 3 [
 ⟨(opMove (some 15) (.tmp 0) 47 "bits.go:75" #[]).op, none⟩,
 ⟨opCall (f53.orc 0) (some 16) [(.tmp 15)] #[47] 0 "bits.go:75" #[{ on := 0, ground := Ground.data }], none⟩
 ] (by kernel_rfl)))
 (.seq (.live [2] (.region 4 [
 ⟨(opAssign (some 2) (.const (Value.int IntKind.i64 0)) 3 "bits.go:76" #[]).op, none⟩
 ] (by kernel_rfl)))
 (.live [2] .ret)))
 .skip))
 (.seq (.live [3] (.region 5 [
 ⟨(opMove (some 17) (.tmp 0) 47 "bits.go:78" #[]).op, none⟩,
 ⟨(opMove (some 18) (.tmp 0) 47 "bits.go:78" #[]).op, none⟩,
 ⟨(opNilCheck (some 19) (.tmp 18) 0 "bits.go:78" #[{ on := 1, ground := Ground.data }]).op, none⟩,
 ⟨(opFieldAddr (some 20) 73 (.tmp 19) 0 0 1 false fl73_0 (by decide) 0 "bits.go:78" #[{ on := 2, ground := Ground.data }]).op, none⟩,
 ⟨(opLoad (some 21) 25 (.tmp 20) (.slice 5) Tryz.underlying25 1 sz25 25 "bits.go:78" #[{ on := 3, ground := Ground.data }]).op, none⟩,
 ⟨(opMove (some 22) (.tmp 4) 3 "bits.go:78" #[]).op, none⟩,
 ⟨(opSlice (some 23) 25 (.tmp 21) (some (.tmp 22)) none none 5 1 Tryz.underlying25 sz5 25 "bits.go:78" #[{ on := 4, ground := Ground.data }, { on := 5, ground := Ground.data }]).op, none⟩,
 ⟨(opNilCheck (some 24) (.tmp 17) 0 "bits.go:78" #[{ on := 0, ground := Ground.data }, { on := 0, ground := Ground.phase }, { on := 1, ground := Ground.phase }, { on := 2, ground := Ground.phase }, { on := 3, ground := Ground.phase }, { on := 4, ground := Ground.phase }, { on := 5, ground := Ground.phase }, { on := 6, ground := Ground.phase }]).op, none⟩,
 ⟨(opFieldAddr (some 25) 73 (.tmp 24) 0 0 1 false fl73_0 (by decide) 0 "bits.go:78" #[{ on := 7, ground := Ground.data }, { on := 0, ground := Ground.phase }, { on := 1, ground := Ground.phase }, { on := 2, ground := Ground.phase }, { on := 3, ground := Ground.phase }, { on := 4, ground := Ground.phase }, { on := 5, ground := Ground.phase }, { on := 6, ground := Ground.phase }]).op, none⟩,
 ⟨(opStore none 25 (.tmp 25) (.tmp 23) 1 sz25 0 "bits.go:78" #[{ on := 8, ground := Ground.data }, { on := 6, ground := Ground.data }, { on := 0, ground := Ground.phase }, { on := 1, ground := Ground.phase }, { on := 2, ground := Ground.phase }, { on := 3, ground := Ground.phase }, { on := 4, ground := Ground.phase }, { on := 5, ground := Ground.phase }, { on := 6, ground := Ground.phase }]).op, none⟩
 ] (by kernel_rfl)))
 (.seq (.live [2] (.region 6 [
 ⟨(opMove (some 26) (.tmp 3) 69 "bits.go:79" #[]).op, none⟩,
 ⟨(opCallP r69 (some 27) [(.tmp 26)] #[69] 3 "bits.go:79" #[{ on := 0, ground := Ground.data }]).op, none⟩,
 ⟨(opAssign (some 2) (.tmp 27) 3 "bits.go:79" #[{ on := 1, ground := Ground.data }, { on := 1, ground := Ground.chain }, { on := 0, ground := Ground.phase }, { on := 1, ground := Ground.phase }]).op, none⟩
 ] (by kernel_rfl)))
 (.live [2] .ret))))))

noncomputable def f52 : Fun Tryz.prog where
 id := 52
 fn := Tryz.f52
 hf := Tryz.func52
 hname := by kernel_rfl
 body := f52_b
 hbody := by kernel_rfl
 res := [rTmp 2]
 hres := by kernel_rfl
 n := 28
 hn := by kernel_rfl

/-! ### 23: interlock/bits.Text (9); results 2; slots: 0 s, 1 s -/
noncomputable def f23_b : Sim Tryz.prog :=
 (.seq (.live [0] (.region 0 [
 ⟨(opAssign (some 2) (.const (Value.slice none 0 0)) 25 "bits.go:29" #[]).op, none⟩
 ] (by kernel_rfl)))
 (.seq (.live [2] (.region 1 [
 ⟨(opMove (some 3) (.tmp 0) 9 "bits.go:29" #[]).op, none⟩,
 ⟨(opLen (some 4) (.tmp 3) 9 .string Tryz.underlying9 3 "bits.go:29" #[{ on := 0, ground := Ground.data }]).op, none⟩,
 ⟨opCall (q22).orc (some 5) [(.tmp 4)] #[3] 25 "bits.go:29" #[{ on := 1, ground := Ground.data }], none⟩,
 ⟨(opMove (some 6) (.tmp 0) 9 "bits.go:29" #[]).op, none⟩,
 ⟨(opAppend (some 7) (.tmp 5) (.tmp 6) 25 9 5 1 1 (.int .u8 0) el25 .string Tryz.underlying9 rfl 25 "bits.go:29" #[{ on := 2, ground := Ground.data }, { on := 3, ground := Ground.data }, { on := 2, ground := Ground.chain }]).op, none⟩,
 ⟨(opAssign (some 2) (.tmp 7) 25 "bits.go:29" #[{ on := 4, ground := Ground.data }, { on := 4, ground := Ground.chain }, { on := 0, ground := Ground.phase }, { on := 1, ground := Ground.phase }, { on := 2, ground := Ground.phase }, { on := 3, ground := Ground.phase }, { on := 4, ground := Ground.phase }]).op, none⟩
 ] (by kernel_rfl)))
 (.live [2] .ret)))

noncomputable def f23 : Fun Tryz.prog where
 id := 23
 fn := Tryz.f23
 hf := Tryz.func23
 hname := by kernel_rfl
 body := f23_b
 hbody := by kernel_rfl
 res := [rTmp 2]
 hres := by kernel_rfl
 n := 8
 hn := by kernel_rfl

/-! ### 25: interlock/interlockref01.Text (9); results 2; slots: 0 s, 1 s -/
noncomputable def f25_b : Sim Tryz.prog :=
 (.seq (.live [0] (.region 0 [
 ⟨(opAssign (some 2) (.const (Value.slice none 0 0)) 25 "ref.go:19" #[]).op, none⟩
 ] (by kernel_rfl)))
 (.seq (.live [2] (.region 1 [
 ⟨(opMove (some 3) (.tmp 0) 9 "ref.go:20" #[]).op, none⟩,
 ⟨(opLen (some 4) (.tmp 3) 9 .string Tryz.underlying9 3 "ref.go:20" #[{ on := 0, ground := Ground.data }]).op, none⟩,
 ⟨opCall (q24).orc (some 5) [(.tmp 4)] #[3] 25 "ref.go:20" #[{ on := 1, ground := Ground.data }], none⟩,
 ⟨(opMove (some 6) (.tmp 0) 9 "ref.go:20" #[]).op, none⟩,
 ⟨(opStrBytes (some 7) 9 25 (.tmp 6) 5 Tryz.underlying9 Tryz.underlying25 Tryz.underlying5 25 "ref.go:20" #[{ on := 3, ground := Ground.data }]).op, none⟩,
 ⟨(opAppend (some 8) (.tmp 5) (.tmp 7) 25 25 5 1 1 (.int .u8 0) el25 (.slice 5) Tryz.underlying25 rfl 25 "ref.go:20" #[{ on := 2, ground := Ground.data }, { on := 4, ground := Ground.data }, { on := 2, ground := Ground.chain }]).op, none⟩,
 ⟨(opAssign (some 2) (.tmp 8) 25 "ref.go:20" #[{ on := 5, ground := Ground.data }, { on := 5, ground := Ground.chain }, { on := 0, ground := Ground.phase }, { on := 1, ground := Ground.phase }, { on := 2, ground := Ground.phase }, { on := 3, ground := Ground.phase }, { on := 4, ground := Ground.phase }, { on := 5, ground := Ground.phase }]).op, none⟩
 ] (by kernel_rfl)))
 (.live [2] .ret)))

noncomputable def f25 : Fun Tryz.prog where
 id := 25
 fn := Tryz.f25
 hf := Tryz.func25
 hname := by kernel_rfl
 body := f25_b
 hbody := by kernel_rfl
 res := [rTmp 2]
 hres := by kernel_rfl
 n := 9
 hn := by kernel_rfl

end Go.Proofs.YtcfedmheblbdnaaGreatDoor.K

/- What the functions' runs come to; the right sides were printed by a tool, Lean checks them. -/
set_option linter.unusedVariables false
set_option maxRecDepth 100000
namespace Go.Proofs.YtcfedmheblbdnaaGreatDoor.K
open Go Go.V Go.RowKit

theorem rdint_run0 (f b : Bool) (l : List (List AV)) (os : List Ob) (tk : List (Nat × Nat)) :
 (f52.run 0 [.ptr 0 0] ⟨.cells [.sl 1 f l, .bool b] :: os, tk⟩ : Ans) =
 branch (AV.bool (fit (Br.sl f l)))
 (branch (AV.bool ((↑(digR l).snd : Int) == (0 : Int)))
 (some (Fin.ret (AV.int IntKind.i64 (0 : Int)), St.mk (Ob.cells [AV.nilsl, AV.bool true] :: os) tk))
 (if (0 : Int) ≤ (↑(digR l).snd : Int) ∧ (↑(digR l).snd : Int) ≤ (↑l.length : Int) then
 branch (AV.bool (cdec ((0 : Int) ≤ (↑(digR l).fst : Int) ∧ (↑(digR l).fst : Int) < (18446744073709551616 : Int))))
 (some
 (Fin.ret (AV.int IntKind.i64 (unfN (↑(digR l).fst : Int).toNat)),
 St.mk
 (Ob.cells
 [AV.sl 1 (f && l.length.beq l.length)
 (List.drop (↑(digR l).snd : Int).toNat (List.take l.length l)),
 AV.bool b] ::
 os)
 tk))
 none
 else none))
 none := by kernel_rfl

theorem rdint_nil0 (b : Bool) (os : List Ob) (tk : List (Nat × Nat)) :
 (f52.run 0 [.ptr 0 0] ⟨.cells [.nilsl, .bool b] :: os, tk⟩ : Ans) =
 some (Fin.ret (AV.int IntKind.i64 (0 : Int)), St.mk (Ob.cells [AV.nilsl, AV.bool true] :: os) tk) := by kernel_rfl

theorem rdint_run1 (f b : Bool) (l : List (List AV)) (o : Ob) (os : List Ob) (tk : List (Nat × Nat)) :
 (f52.run 0 [.ptr 1 0] ⟨o :: .cells [.sl 1 f l, .bool b] :: os, tk⟩ : Ans) =
 branch (AV.bool (fit (Br.sl f l)))
 (branch (AV.bool ((↑(digR l).snd : Int) == (0 : Int)))
 (some (Fin.ret (AV.int IntKind.i64 (0 : Int)), St.mk (o :: Ob.cells [AV.nilsl, AV.bool true] :: os) tk))
 (if (0 : Int) ≤ (↑(digR l).snd : Int) ∧ (↑(digR l).snd : Int) ≤ (↑l.length : Int) then
 branch (AV.bool (cdec ((0 : Int) ≤ (↑(digR l).fst : Int) ∧ (↑(digR l).fst : Int) < (18446744073709551616 : Int))))
 (some
 (Fin.ret (AV.int IntKind.i64 (unfN (↑(digR l).fst : Int).toNat)),
 St.mk
 (o ::
 Ob.cells
 [AV.sl 1 (f && l.length.beq l.length)
 (List.drop (↑(digR l).snd : Int).toNat (List.take l.length l)),
 AV.bool b] ::
 os)
 tk))
 none
 else none))
 none := by kernel_rfl

theorem rdint_nil1 (b : Bool) (o : Ob) (os : List Ob) (tk : List (Nat × Nat)) :
 (f52.run 0 [.ptr 1 0] ⟨o :: .cells [.nilsl, .bool b] :: os, tk⟩ : Ans) =
 some (Fin.ret (AV.int IntKind.i64 (0 : Int)), St.mk (o :: Ob.cells [AV.nilsl, AV.bool true] :: os) tk) := by kernel_rfl

theorem text_run (s : ByteArray) (st : St) :
 (f23.run 0 [.str s] st : Ans) =
 branch (AV.bool (i64B (↑s.size : Int)))
 (if
 (St.mk st.objs (st.tk ++ [(1, (intBytes (↑s.size : Int)).length)])).tk[st.tk.length]? =
 some (1, (rb (intBytes (↑s.size : Int))).length) ∧
 ((rb (intBytes (↑s.size : Int))).length +
 (List.map (fun (c : UInt8) => [AV.int IntKind.u8 (↑c.toNat : Int)]) s.data.toList).length) *
 1 ≤
 140737488355328 then
 some
 (Fin.ret
 (AV.lg st.tk.length 1
 (rb (intBytes (↑s.size : Int)) ++
 List.map (fun (c : UInt8) => [AV.int IntKind.u8 (↑c.toNat : Int)]) s.data.toList)),
 St.mk (St.mk st.objs (st.tk ++ [(1, (intBytes (↑s.size : Int)).length)])).objs
 ((St.mk st.objs (st.tk ++ [(1, (intBytes (↑s.size : Int)).length)])).tk.set st.tk.length
 (1,
 (rb (intBytes (↑s.size : Int))).length +
 (List.map (fun (c : UInt8) => [AV.int IntKind.u8 (↑c.toNat : Int)]) s.data.toList).length)))
 else none)
 none := by kernel_rfl

theorem rtext_run (s : ByteArray) (st : St) :
 (f25.run 0 [.str s] st : Ans) =
 branch (AV.bool (i64B (↑s.size : Int)))
 (if
 (St.mk st.objs (st.tk ++ [(1, (intBytes (↑s.size : Int)).length)])).tk[st.tk.length]? =
 some (1, (rb (intBytes (↑s.size : Int))).length) ∧
 ((rb (intBytes (↑s.size : Int))).length + (rowsOfStr s).length) * 1 ≤ 140737488355328 then
 some
 (Fin.ret (AV.lg st.tk.length 1 (rb (intBytes (↑s.size : Int)) ++ rowsOfStr s)),
 St.mk (St.mk st.objs (st.tk ++ [(1, (intBytes (↑s.size : Int)).length)])).objs
 ((St.mk st.objs (st.tk ++ [(1, (intBytes (↑s.size : Int)).length)])).tk.set st.tk.length
 (1, (rb (intBytes (↑s.size : Int))).length + (rowsOfStr s).length)))
 else none)
 none := by kernel_rfl

end Go.Proofs.YtcfedmheblbdnaaGreatDoor.K

/- Bits: texts as bytes. -/
set_option linter.unusedVariables false
namespace Go.Proofs.YtcfedmheblbdnaaGreatDoor.K
open Go Go.V Go.RowKit

def dec1s : List AV → Option ByteArray
  | [.str s] => some s
  | _ => none
theorem dec1s_enc (l : List AV) (a : ByteArray) (h : dec1s l = some a) : l = [.str a] := by
  unfold dec1s at h; split at h <;> first | (cases h; rfl) | cases h
/-- A text's own bytes. -/
def own (s : ByteArray) : List Nat := s.data.toList.map UInt8.toNat
/-- A text as bytes. -/
def textBytes (s : ByteArray) : List Nat := intBytes s.size ++ own s
theorem rows_own (s : ByteArray) : rowsOfStr s = rb (own s) := by simp [rowsOfStr, rb, own]
theorem rows_own' (s : ByteArray) : List.map (fun (c : UInt8) => [AV.int IntKind.u8 (c.toNat : Int)]) s.data.toList = rb (own s) := rows_own s
theorem own_length (s : ByteArray) : (own s).length = s.size := by simp [own]
theorem intBytes_length (n : Int) : (intBytes n).length ≤ 10 := encN_len 9 _
def shortS (s : ByteArray) : Bool := decide (s.size < 140737488355300)

theorem f23_spec (s : ByteArray) (h : shortS s = true) (st : St) : f23.run 0 [.str s] st = some (.ret (.lg st.tk.length 1 (rb (textBytes s))), ⟨st.objs, st.tk ++ [(1, (textBytes s).length)]⟩) := by
  have hs : s.size < 140737488355300 := of_decide_eq_true h
  have hl := intBytes_length s.size
  rw [text_run, branch_of (by simp [i64B]; omega), rows_own', if_pos ⟨by rw [rb_length]; exact tk_at _ _, by rw [rb_length, rb_length, own_length]; omega⟩]
  simp only [tk_set, rb_length, textBytes, rb_append, List.length_append]
theorem f25_spec (s : ByteArray) (h : shortS s = true) (st : St) : f25.run 0 [.str s] st = some (.ret (.lg st.tk.length 1 (rb (textBytes s))), ⟨st.objs, st.tk ++ [(1, (textBytes s).length)]⟩) := by
  have hs : s.size < 140737488355300 := of_decide_eq_true h
  have hl := intBytes_length s.size
  rw [rtext_run, branch_of (by simp [i64B]; omega), rows_own, if_pos ⟨by rw [rb_length]; exact tk_at _ _, by rw [rb_length, rb_length, own_length]; omega⟩]
  simp only [tk_set, rb_length, textBytes, rb_append, List.length_append]
noncomputable def q23 : OrcS Tryz.prog := f23.effIf dec1s (fun s => [.str s]) dec1s_enc (fun s _ => shortS s) (fun s st => (.lg st.tk.length 1 (rb (textBytes s)), ⟨st.objs, st.tk ++ [(1, (textBytes s).length)]⟩)) fun s st h => ⟨0, f23_spec s h st⟩
noncomputable def q25 : OrcS Tryz.prog := f25.effIf dec1s (fun s => [.str s]) dec1s_enc (fun s _ => shortS s) (fun s st => (.lg st.tk.length 1 (rb (textBytes s)), ⟨st.objs, st.tk ++ [(1, (textBytes s).length)]⟩)) fun s st h => ⟨0, f25_spec s h st⟩
end Go.Proofs.YtcfedmheblbdnaaGreatDoor.K

/- Bits: a reader's next number. -/
set_option linter.unusedVariables false
namespace Go.Proofs.YtcfedmheblbdnaaGreatDoor.K
open Go Go.V Go.RowKit

/-- A reader's cells. -/
inductive Rd where
  | nil (b : Bool)
  | sl (f b : Bool) (l : List (List AV))
def Rd.cells : Rd → List AV
  | .nil b => [.nilsl, .bool b]
  | .sl f b l => [.sl 1 f l, .bool b]
def rdOf : List AV → Option Rd
  | [.nilsl, .bool b] => some (.nil b)
  | [.sl 1 f l, .bool b] => some (.sl f b l)
  | _ => none
theorem rdOf_eq {cs : List AV} {r : Rd} (h : rdOf cs = some r) : cs = r.cells := by
  unfold rdOf at h; split at h <;> first | (cases h; rfl) | cases h
/-- A reader at the first or at the second object, and how it is put anew. -/
def rdAt (p : AV) (st : St) : Option (Rd × (AV → Bool → St)) :=
  match p with
  | .ptr 0 0 => match st.objs with
    | .cells cs :: os => match rdOf cs with
      | some r => some (r, fun a b => ⟨.cells [a, .bool b] :: os, st.tk⟩)
      | none => none
    | _ => none
  | .ptr 1 0 => match st.objs with
    | o :: .cells cs :: os => match rdOf cs with
      | some r => some (r, fun a b => ⟨o :: .cells [a, .bool b] :: os, st.tk⟩)
      | none => none
    | _ => none
  | _ => none
theorem rdAt_eq {p : AV} {st : St} {r : Rd} {put : AV → Bool → St} (h : rdAt p st = some (r, put)) :
    (p = .ptr 0 0 ∧ ∃ os, st = ⟨.cells r.cells :: os, st.tk⟩ ∧ put = fun a b => ⟨.cells [a, .bool b] :: os, st.tk⟩) ∨
    (p = .ptr 1 0 ∧ ∃ o os, st = ⟨o :: .cells r.cells :: os, st.tk⟩ ∧ put = fun a b => ⟨o :: .cells [a, .bool b] :: os, st.tk⟩) := by
  obtain ⟨objs, tk⟩ := st
  unfold rdAt at h
  split at h
  · split at h
    · rename_i h1
      split at h
      · rename_i h2
        cases h; simp only at h1; subst h1
        rw [rdOf_eq h2]
        exact .inl ⟨rfl, _, rfl, rfl⟩
      · cases h
    · cases h
  · split at h
    · rename_i h1
      split at h
      · rename_i h2
        cases h; simp only at h1; subst h1
        rw [rdOf_eq h2]
        exact .inr ⟨rfl, _, _, rfl, rfl⟩
      · cases h
    · cases h
  · cases h

theorem f52_spec {p : AV} {st : St} {f b : Bool} {l : List (List AV)} {put : AV → Bool → St} (h : rdAt p st = some (.sl f b l, put)) (hf : fit (.sl f l) = true) :
    f52.run 0 [p] st = match getN (nR l) with
      | none => some (.ret (.int .i64 0), put .nilsl true)
      | some o => some (.ret (.int .i64 o.1), put (.sl 1 f (l.drop o.2)) b) := by
  obtain ⟨h1, h2⟩ := fit_spec hf
  have hb : Nat.beq l.length l.length = true := Nat.beq_refl _
  rcases rdAt_eq h with ⟨rfl, os, hs, rfl⟩ | ⟨rfl, o, os, hs, rfl⟩
  all_goals rw [hs]; simp only [Rd.cells]
  · rw [rdint_run0, branch_of hf, getN_digR]
    by_cases h0 : (digR l).2 = 0
    · rw [branch_of (by simp [h0]), if_pos h0]
    · obtain ⟨h3, h4⟩ := digR_lt (l := l) h1 h0
      rw [branch_not (by simp [h0]), if_pos (by omega), if_neg h0, branch_of (cdec_iff.mpr (by omega))]
      simp
  · rw [rdint_run1, branch_of hf, getN_digR]
    by_cases h0 : (digR l).2 = 0
    · rw [branch_of (by simp [h0]), if_pos h0]
    · obtain ⟨h3, h4⟩ := digR_lt (l := l) h1 h0
      rw [branch_not (by simp [h0]), if_pos (by omega), if_neg h0, branch_of (cdec_iff.mpr (by omega))]
      simp
theorem f52_nil {p : AV} {st : St} {b : Bool} {put : AV → Bool → St} (h : rdAt p st = some (.nil b, put)) : f52.run 0 [p] st = some (.ret (.int .i64 0), put .nilsl true) := by
  rcases rdAt_eq h with ⟨rfl, os, hs, rfl⟩ | ⟨rfl, o, os, hs, rfl⟩
  all_goals rw [hs]; simp only [Rd.cells]
  · rw [rdint_nil0]
  · rw [rdint_nil1]

/-- Reader.Int. -/
noncomputable def q52 : OrcS Tryz.prog := f52.cps
  (fun args st k => match args with
    | [p] => match rdAt p st with
      | some (.nil _, put) => k (.ret (.int .i64 0)) (put .nilsl true)
      | some (.sl f b l, put) => match fit (.sl f l) with
        | true => match getN (nR l) with
          | none => k (.ret (.int .i64 0)) (put .nilsl true)
          | some o => k (.ret (.int .i64 o.1)) (put (.sl 1 f (l.drop o.2)) b)
        | false => none
      | none => none
    | _ => none)
  fun args st k fin h => by
    split at h
    · split at h
      · rename_i h1; exact ⟨_, _, h, 0, f52_nil h1⟩
      · rename_i h1
        split at h
        · rename_i h2
          have := f52_spec h1 h2
          split at h
          · rename_i h3; rw [h3] at this; exact ⟨_, _, h, 0, this⟩
          · rename_i h3; rw [h3] at this; exact ⟨_, _, h, 0, this⟩
        · cases h
      · cases h
    · cases h
end Go.Proofs.YtcfedmheblbdnaaGreatDoor.K

/- The functions' pieces, as told by gen.py. -/
set_option linter.unusedVariables false
set_option maxRecDepth 20000
namespace Go.Proofs.YtcfedmheblbdnaaGreatDoor.K
open Go Go.V Go.RowKit


/-! ### 54: (*interlock/bits.Reader).Text (47); results 2; slots: 0 r, 1 r, 3 n, 4 s -/
noncomputable def f54_b : Sim Tryz.prog :=
 (.seq (.live [0] (.region 0 [
 ⟨(opAssign (some 2) (.const (Value.string { data := #[] })) 9 "bits.go:95" #[]).op, none⟩
 ] (by kernel_rfl)))
 (.seq (.live [0, 3] (.region 1 [
 ⟨(opMove (some 5) (.tmp 0) 47 "bits.go:96" #[]).op, none⟩,
 ⟨opCall (q52).orc (some 6) [(.tmp 5)] #[47] 3 "bits.go:96" #[{ on := 0, ground := Ground.data }], none⟩,
 ⟨(opAssign (some 3) (.tmp 6) 3 "bits.go:96" #[{ on := 1, ground := Ground.data }, { on := 1, ground := Ground.chain }, { on := 0, ground := Ground.phase }, { on := 1, ground := Ground.phase }]).op, none⟩
 ] (by kernel_rfl)))
 (.seq (.seq (.live [0, 3, 17] (.region 2 [
 ⟨(opMove (some 7) (.tmp 3) 3 "bits.go:97" #[]).op, none⟩,
 ⟨(opBin (some 8) .lss 3 (.tmp 7) (.const (Value.int IntKind.i64 0)) 3 4 "bits.go:97" #[{ on := 0, ground := Ground.data }]).op, none⟩,
 ⟨(opMove (some 9) (.tmp 8) 4 "bits.go:97" #[{ on := 1, ground := Ground.data }]).op, none⟩,
 ⟨(opMove (some 10) (.tmp 3) 3 "bits.go:97" #[{ on := 2, ground := Ground.guard }]).op, (some (2, 9, false))⟩,
 ⟨(opMove (some 11) (.tmp 0) 47 "bits.go:97" #[{ on := 2, ground := Ground.guard }]).op, (some (2, 9, false))⟩,
 ⟨(opNilCheck (some 12) (.tmp 11) 0 "bits.go:97" #[{ on := 4, ground := Ground.data }, { on := 2, ground := Ground.guard }]).op, (some (2, 9, false))⟩,
 ⟨(opFieldAddr (some 13) 73 (.tmp 12) 0 0 1 false fl73_0 (by decide) 0 "bits.go:97" #[{ on := 5, ground := Ground.data }, { on := 2, ground := Ground.guard }]).op, (some (2, 9, false))⟩,
 ⟨(opLoad (some 14) 25 (.tmp 13) (.slice 5) Tryz.underlying25 1 sz25 25 "bits.go:97" #[{ on := 6, ground := Ground.data }, { on := 2, ground := Ground.guard }]).op, (some (2, 9, false))⟩,
 ⟨(opLen (some 15) (.tmp 14) 25 (.slice 5) Tryz.underlying25 3 "bits.go:97" #[{ on := 7, ground := Ground.data }, { on := 2, ground := Ground.guard }]).op, (some (2, 9, false))⟩,
 ⟨(opBin (some 16) .gtr 3 (.tmp 10) (.tmp 15) 3 4 "bits.go:97" #[{ on := 3, ground := Ground.data }, { on := 8, ground := Ground.data }, { on := 2, ground := Ground.guard }]).op, (some (2, 9, false))⟩,
 ⟨(opPick (some 17) (.tmp 9) (.const (Value.bool true)) (.tmp 16) 4 "bits.go:97" #[{ on := 2, ground := Ground.data }, { on := 9, ground := Ground.data }]).op, none⟩
 ] (by kernel_rfl)))
 (.cond (.tmp 17)
 (.live [0, 3] (.region 3 [
 ⟨(opMove (some 18) (.tmp 0) 47 "bits.go:98" #[]).op, none⟩,
 ⟨opCall (f53.orc 0) (some 19) [(.tmp 18)] #[47] 0 "bits.go:98" #[{ on := 0, ground := Ground.data }], none⟩
 ] (by kernel_rfl)))
 .skip))
 (.seq (.seq (.live [0, 3, 23] (.region 4 [
 ⟨(opMove (some 20) (.tmp 0) 47 "bits.go:100" #[]).op, none⟩,
 ⟨(opNilCheck (some 21) (.tmp 20) 0 "bits.go:100" #[{ on := 0, ground := Ground.data }]).op, none⟩,
 ⟨(opFieldAddr (some 22) 73 (.tmp 21) 1 1 1 false fl73_1 (by decide) 0 "bits.go:100" #[{ on := 1, ground := Ground.data }]).op, none⟩,
 ⟨(opLoad (some 23) 4 (.tmp 22) .bool Tryz.underlying4 1 sz4 4 "bits.go:100" #[{ on := 2, ground := Ground.data }]).op, none⟩
 ] (by kernel_rfl)))
 (.cond (.tmp 23)
 (.seq (.live [2] (.region 5 [
 ⟨(opAssign (some 2) (.const (Value.string { data := #[] })) 9 "bits.go:101" #[]).op, none⟩
 ] (by kernel_rfl)))
 (.live [2] .ret))
 .skip))
 (.seq (.live [0, 3, 4] (.region 6 [
 ⟨(opMove (some 24) (.tmp 0) 47 "bits.go:103" #[]).op, none⟩,
 ⟨(opNilCheck (some 25) (.tmp 24) 0 "bits.go:103" #[{ on := 0, ground := Ground.data }]).op, none⟩,
 ⟨(opFieldAddr (some 26) 73 (.tmp 25) 0 0 1 false fl73_0 (by decide) 0 "bits.go:103" #[{ on := 1, ground := Ground.data }]).op, none⟩,
 ⟨(opLoad (some 27) 25 (.tmp 26) (.slice 5) Tryz.underlying25 1 sz25 25 "bits.go:103" #[{ on := 2, ground := Ground.data }]).op, none⟩,
 ⟨(opMove (some 28) (.tmp 3) 3 "bits.go:103" #[]).op, none⟩,
 ⟨(opSlice (some 29) 25 (.tmp 27) none (some (.tmp 28)) none 5 1 Tryz.underlying25 sz5 25 "bits.go:103" #[{ on := 3, ground := Ground.data }, { on := 4, ground := Ground.data }]).op, none⟩,
 ⟨(opBytesStr (some 30) 25 9 (.tmp 29) 5 Tryz.underlying25 Tryz.underlying5 Tryz.underlying9 9 "bits.go:103" #[{ on := 5, ground := Ground.data }]).op, none⟩,
 ⟨(opAssign (some 4) (.tmp 30) 9 "bits.go:103" #[{ on := 6, ground := Ground.data }, { on := 0, ground := Ground.phase }, { on := 1, ground := Ground.phase }, { on := 2, ground := Ground.phase }, { on := 3, ground := Ground.phase }, { on := 4, ground := Ground.phase }, { on := 5, ground := Ground.phase }, { on := 6, ground := Ground.phase }]).op, none⟩
 ] (by kernel_rfl)))
 (.seq (.live [4] (.region 7 [
 ⟨(opMove (some 31) (.tmp 0) 47 "bits.go:104" #[]).op, none⟩,
 ⟨(opMove (some 32) (.tmp 0) 47 "bits.go:104" #[]).op, none⟩,
 ⟨(opNilCheck (some 33) (.tmp 32) 0 "bits.go:104" #[{ on := 1, ground := Ground.data }]).op, none⟩,
 ⟨(opFieldAddr (some 34) 73 (.tmp 33) 0 0 1 false fl73_0 (by decide) 0 "bits.go:104" #[{ on := 2, ground := Ground.data }]).op, none⟩,
 ⟨(opLoad (some 35) 25 (.tmp 34) (.slice 5) Tryz.underlying25 1 sz25 25 "bits.go:104" #[{ on := 3, ground := Ground.data }]).op, none⟩,
 ⟨(opMove (some 36) (.tmp 3) 3 "bits.go:104" #[]).op, none⟩,
 ⟨(opSlice (some 37) 25 (.tmp 35) (some (.tmp 36)) none none 5 1 Tryz.underlying25 sz5 25 "bits.go:104" #[{ on := 4, ground := Ground.data }, { on := 5, ground := Ground.data }]).op, none⟩,
 ⟨(opNilCheck (some 38) (.tmp 31) 0 "bits.go:104" #[{ on := 0, ground := Ground.data }, { on := 0, ground := Ground.phase }, { on := 1, ground := Ground.phase }, { on := 2, ground := Ground.phase }, { on := 3, ground := Ground.phase }, { on := 4, ground := Ground.phase }, { on := 5, ground := Ground.phase }, { on := 6, ground := Ground.phase }]).op, none⟩,
 ⟨(opFieldAddr (some 39) 73 (.tmp 38) 0 0 1 false fl73_0 (by decide) 0 "bits.go:104" #[{ on := 7, ground := Ground.data }, { on := 0, ground := Ground.phase }, { on := 1, ground := Ground.phase }, { on := 2, ground := Ground.phase }, { on := 3, ground := Ground.phase }, { on := 4, ground := Ground.phase }, { on := 5, ground := Ground.phase }, { on := 6, ground := Ground.phase }]).op, none⟩,
 ⟨(opStore none 25 (.tmp 39) (.tmp 37) 1 sz25 0 "bits.go:104" #[{ on := 8, ground := Ground.data }, { on := 6, ground := Ground.data }, { on := 0, ground := Ground.phase }, { on := 1, ground := Ground.phase }, { on := 2, ground := Ground.phase }, { on := 3, ground := Ground.phase }, { on := 4, ground := Ground.phase }, { on := 5, ground := Ground.phase }, { on := 6, ground := Ground.phase }]).op, none⟩
 ] (by kernel_rfl)))
 (.seq (.live [2] (.region 8 [
 ⟨(opMove (some 40) (.tmp 4) 9 "bits.go:105" #[]).op, none⟩,
 ⟨(opAssign (some 2) (.tmp 40) 9 "bits.go:105" #[{ on := 0, ground := Ground.data }, { on := 0, ground := Ground.phase }]).op, none⟩
 ] (by kernel_rfl)))
 (.live [2] .ret))))))))

noncomputable def f54 : Fun Tryz.prog where
 id := 54
 fn := Tryz.f54
 hf := Tryz.func54
 hname := by kernel_rfl
 body := f54_b
 hbody := by kernel_rfl
 res := [rTmp 2]
 hres := by kernel_rfl
 n := 41
 hn := by kernel_rfl

/-! ### 27: (*interlock/bits.Reader).Count (47, 3); results 4; slots: 0 r, 1 most, 2 r, 3 most, 5 n -/
noncomputable def f27_b : Sim Tryz.prog :=
 (.seq (.live [0, 1] (.region 0 [
 ⟨(opAssign (some 4) (.const (Value.int IntKind.i64 0)) 3 "bits.go:83" #[]).op, none⟩
 ] (by kernel_rfl)))
 (.seq (.live [0, 1, 5] (.region 1 [
 ⟨(opMove (some 6) (.tmp 0) 47 "bits.go:84" #[]).op, none⟩,
 ⟨opCall (q52).orc (some 7) [(.tmp 6)] #[47] 3 "bits.go:84" #[{ on := 0, ground := Ground.data }], none⟩,
 ⟨(opAssign (some 5) (.tmp 7) 3 "bits.go:84" #[{ on := 1, ground := Ground.data }, { on := 1, ground := Ground.chain }, { on := 0, ground := Ground.phase }, { on := 1, ground := Ground.phase }]).op, none⟩
 ] (by kernel_rfl)))
 (.seq (.seq (.live [0, 5, 14] (.region 2 [
 ⟨(opMove (some 8) (.tmp 5) 3 "bits.go:85" #[]).op, none⟩,
 ⟨(opBin (some 9) .lss 3 (.tmp 8) (.const (Value.int IntKind.i64 0)) 3 4 "bits.go:85" #[{ on := 0, ground := Ground.data }]).op, none⟩,
 ⟨(opMove (some 10) (.tmp 9) 4 "bits.go:85" #[{ on := 1, ground := Ground.data }]).op, none⟩,
 ⟨(opMove (some 11) (.tmp 5) 3 "bits.go:85" #[{ on := 2, ground := Ground.guard }]).op, (some (2, 10, false))⟩,
 ⟨(opMove (some 12) (.tmp 1) 3 "bits.go:85" #[{ on := 2, ground := Ground.guard }]).op, (some (2, 10, false))⟩,
 ⟨(opBin (some 13) .gtr 3 (.tmp 11) (.tmp 12) 3 4 "bits.go:85" #[{ on := 3, ground := Ground.data }, { on := 4, ground := Ground.data }, { on := 2, ground := Ground.guard }]).op, (some (2, 10, false))⟩,
 ⟨(opPick (some 14) (.tmp 10) (.const (Value.bool true)) (.tmp 13) 4 "bits.go:85" #[{ on := 2, ground := Ground.data }, { on := 5, ground := Ground.data }]).op, none⟩
 ] (by kernel_rfl)))
 (.cond (.tmp 14)
 (.live [0, 5] (.region 3 [
 ⟨(opMove (some 15) (.tmp 0) 47 "bits.go:86" #[]).op, none⟩,
 ⟨opCall (f53.orc 0) (some 16) [(.tmp 15)] #[47] 0 "bits.go:86" #[{ on := 0, ground := Ground.data }], none⟩
 ] (by kernel_rfl)))
 .skip))
 (.seq (.seq (.live [5, 20] (.region 4 [
 ⟨(opMove (some 17) (.tmp 0) 47 "bits.go:88" #[]).op, none⟩,
 ⟨(opNilCheck (some 18) (.tmp 17) 0 "bits.go:88" #[{ on := 0, ground := Ground.data }]).op, none⟩,
 ⟨(opFieldAddr (some 19) 73 (.tmp 18) 1 1 1 false fl73_1 (by decide) 0 "bits.go:88" #[{ on := 1, ground := Ground.data }]).op, none⟩,
 ⟨(opLoad (some 20) 4 (.tmp 19) .bool Tryz.underlying4 1 sz4 4 "bits.go:88" #[{ on := 2, ground := Ground.data }]).op, none⟩
 ] (by kernel_rfl)))
 (.cond (.tmp 20)
 (.seq (.live [4] (.region 5 [
 ⟨(opAssign (some 4) (.const (Value.int IntKind.i64 0)) 3 "bits.go:89" #[]).op, none⟩
 ] (by kernel_rfl)))
 (.live [4] .ret))
 .skip))
 (.seq (.live [4] (.region 6 [
 ⟨(opMove (some 21) (.tmp 5) 3 "bits.go:91" #[]).op, none⟩,
 ⟨(opAssign (some 4) (.tmp 21) 3 "bits.go:91" #[{ on := 0, ground := Ground.data }, { on := 0, ground := Ground.phase }]).op, none⟩
 ] (by kernel_rfl)))
 (.live [4] .ret))))))

noncomputable def f27 : Fun Tryz.prog where
 id := 27
 fn := Tryz.f27
 hf := Tryz.func27
 hname := by kernel_rfl
 body := f27_b
 hbody := by kernel_rfl
 res := [rTmp 4]
 hres := by kernel_rfl
 n := 22
 hn := by kernel_rfl

end Go.Proofs.YtcfedmheblbdnaaGreatDoor.K

/- What the functions' runs come to; the right sides were printed by a tool, Lean checks them. -/
set_option linter.unusedVariables false
set_option maxRecDepth 100000
namespace Go.Proofs.YtcfedmheblbdnaaGreatDoor.K
open Go Go.V Go.RowKit

theorem rdtext_run0 (f : Bool) (l : List (List AV)) (os : List Ob) (tk : List (Nat × Nat)) :
 (f54.run 0 [.ptr 0 0] ⟨.cells [.sl 1 f l, .bool false] :: os, tk⟩ : Ans) =
 branch (AV.bool (fit (Br.sl f l)))
 (onSome (getN (nR l)) (some (Fin.ret (AV.str (ByteArray.mk #[])), St.mk (Ob.cells [AV.nilsl, AV.bool true] :: os) tk))
 fun (o : Int × Nat) =>
 branch (AV.bool (decide (o.fst < (0 : Int))))
 (some (Fin.ret (AV.str (ByteArray.mk #[])), St.mk (Ob.cells [AV.nilsl, AV.bool true] :: os) tk))
 (branch (AV.bool (decide (o.fst > (↑(List.drop o.snd l).length : Int))))
 (some (Fin.ret (AV.str (ByteArray.mk #[])), St.mk (Ob.cells [AV.nilsl, AV.bool true] :: os) tk))
 (if (0 : Int) ≤ o.fst ∧ o.fst ≤ (↑(List.drop o.snd l).length : Int) then
 onSome (numsOf (List.drop 0 (List.take o.fst.toNat (List.drop o.snd l)))) none fun (o_1 : List Int) =>
 if (0 : Int) ≤ o.fst ∧ o.fst ≤ (↑(List.drop o.snd l).length : Int) then
 some
 (Fin.ret (AV.str (textOf o_1)),
 St.mk
 (Ob.cells
 [AV.sl 1 (f && (List.drop o.snd l).length.beq (List.drop o.snd l).length)
 (List.drop o.fst.toNat (List.take (List.drop o.snd l).length (List.drop o.snd l))),
 AV.bool false] ::
 os)
 tk)
 else none
 else none)))
 none := by kernel_rfl

theorem rdtext_nil0 (b : Bool) (os : List Ob) (tk : List (Nat × Nat)) :
 (f54.run 0 [.ptr 0 0] ⟨.cells [.nilsl, .bool b] :: os, tk⟩ : Ans) =
 some (Fin.ret (AV.str (ByteArray.mk #[])), St.mk (Ob.cells [AV.nilsl, AV.bool true] :: os) tk) := by kernel_rfl

theorem rdtext_run1 (f : Bool) (l : List (List AV)) (o : Ob) (os : List Ob) (tk : List (Nat × Nat)) :
 (f54.run 0 [.ptr 1 0] ⟨o :: .cells [.sl 1 f l, .bool false] :: os, tk⟩ : Ans) =
 branch (AV.bool (fit (Br.sl f l)))
 (onSome (getN (nR l))
 (some (Fin.ret (AV.str (ByteArray.mk #[])), St.mk (o :: Ob.cells [AV.nilsl, AV.bool true] :: os) tk))
 fun (o_1 : Int × Nat) =>
 branch (AV.bool (decide (o_1.fst < (0 : Int))))
 (some (Fin.ret (AV.str (ByteArray.mk #[])), St.mk (o :: Ob.cells [AV.nilsl, AV.bool true] :: os) tk))
 (branch (AV.bool (decide (o_1.fst > (↑(List.drop o_1.snd l).length : Int))))
 (some (Fin.ret (AV.str (ByteArray.mk #[])), St.mk (o :: Ob.cells [AV.nilsl, AV.bool true] :: os) tk))
 (if (0 : Int) ≤ o_1.fst ∧ o_1.fst ≤ (↑(List.drop o_1.snd l).length : Int) then
 onSome (numsOf (List.drop 0 (List.take o_1.fst.toNat (List.drop o_1.snd l)))) none
 fun (o_2 : List Int) =>
 if (0 : Int) ≤ o_1.fst ∧ o_1.fst ≤ (↑(List.drop o_1.snd l).length : Int) then
 some
 (Fin.ret (AV.str (textOf o_2)),
 St.mk
 (o ::
 Ob.cells
 [AV.sl 1 (f && (List.drop o_1.snd l).length.beq (List.drop o_1.snd l).length)
 (List.drop o_1.fst.toNat (List.take (List.drop o_1.snd l).length (List.drop o_1.snd l))),
 AV.bool false] ::
 os)
 tk)
 else none
 else none)))
 none := by kernel_rfl

theorem rdtext_nil1 (b : Bool) (o : Ob) (os : List Ob) (tk : List (Nat × Nat)) :
 (f54.run 0 [.ptr 1 0] ⟨o :: .cells [.nilsl, .bool b] :: os, tk⟩ : Ans) =
 some (Fin.ret (AV.str (ByteArray.mk #[])), St.mk (o :: Ob.cells [AV.nilsl, AV.bool true] :: os) tk) := by kernel_rfl

theorem rdcount_run0 (f : Bool) (n : Int) (l : List (List AV)) (os : List Ob) (tk : List (Nat × Nat)) :
 (f27.run 0 [.ptr 0 0, .int .i64 n] ⟨.cells [.sl 1 f l, .bool false] :: os, tk⟩ : Ans) =
 branch (AV.bool (fit (Br.sl f l)))
 (onSome (getN (nR l))
 (branch (AV.bool (decide ((0 : Int) > n)))
 (some (Fin.ret (AV.int IntKind.i64 (0 : Int)), St.mk (Ob.cells [AV.nilsl, AV.bool true] :: os) tk))
 (some (Fin.ret (AV.int IntKind.i64 (0 : Int)), St.mk (Ob.cells [AV.nilsl, AV.bool true] :: os) tk)))
 fun (o : Int × Nat) =>
 branch (AV.bool (decide (o.fst < (0 : Int))))
 (some (Fin.ret (AV.int IntKind.i64 (0 : Int)), St.mk (Ob.cells [AV.nilsl, AV.bool true] :: os) tk))
 (branch (AV.bool (decide (o.fst > n)))
 (some (Fin.ret (AV.int IntKind.i64 (0 : Int)), St.mk (Ob.cells [AV.nilsl, AV.bool true] :: os) tk))
 (some
 (Fin.ret (AV.int IntKind.i64 o.fst),
 St.mk (Ob.cells [AV.sl 1 f (List.drop o.snd l), AV.bool false] :: os) tk))))
 none := by kernel_rfl

theorem rdcount_nil0 (b : Bool) (n : Int) (os : List Ob) (tk : List (Nat × Nat)) :
 (f27.run 0 [.ptr 0 0, .int .i64 n] ⟨.cells [.nilsl, .bool b] :: os, tk⟩ : Ans) =
 branch (AV.bool (decide ((0 : Int) > n)))
 (some (Fin.ret (AV.int IntKind.i64 (0 : Int)), St.mk (Ob.cells [AV.nilsl, AV.bool true] :: os) tk))
 (some (Fin.ret (AV.int IntKind.i64 (0 : Int)), St.mk (Ob.cells [AV.nilsl, AV.bool true] :: os) tk)) := by kernel_rfl

end Go.Proofs.YtcfedmheblbdnaaGreatDoor.K

/- Bits: a reader's next text, and the next count. -/
set_option linter.unusedVariables false
namespace Go.Proofs.YtcfedmheblbdnaaGreatDoor.K
open Go Go.V Go.RowKit

/-- Bytes as a text. -/
def txt (l : List Nat) : ByteArray := textOf (l.map fun (b : Nat) => (b : Int))
/-- The text that bytes begin with, and how many bytes it has. -/
def getS (l : List Nat) : Option (ByteArray × Nat) :=
  match getN l with
  | none => none
  | some o => if o.1 < 0 ∨ ((l.length - o.2 : Nat) : Int) < o.1 then none else some (txt ((l.drop o.2).take o.1.toNat), o.2 + o.1.toNat)
/-- The number from 0 to most that bytes begin with. -/
def getC (most : Int) (l : List Nat) : Option (Int × Nat) :=
  match getN l with
  | none => none
  | some o => if o.1 < 0 ∨ most < o.1 then none else some o

theorem numsOf_ok {l : List (List AV)} (h : okR l = true) : numsOf l = some (iR l) := by
  conv => lhs; rw [okR_ri h]
  exact numsOf_map _

def noText : ByteArray := ByteArray.mk #[]
theorem f54_spec {p : AV} {st : St} {f : Bool} {l : List (List AV)} {put : AV → Bool → St} (h : rdAt p st = some (.sl f false l, put)) (hf : fit (.sl f l) = true) :
    f54.run 0 [p] st = match getS (nR l) with
      | none => some (.ret (.str noText), put .nilsl true)
      | some o => some (.ret (.str o.1), put (.sl 1 f (l.drop o.2)) false) := by
  obtain ⟨h1, h2⟩ := fit_spec hf
  rcases rdAt_eq h with ⟨rfl, os, hs, rfl⟩ | ⟨rfl, o, os, hs, rfl⟩
  all_goals rw [hs]; simp only [Rd.cells]
  · rw [rdtext_run0, branch_of hf, getS]
    cases hg : getN (nR l) with
    | none => rfl
    | some o =>
      obtain ⟨n, k⟩ := o
      simp only [onSome, List.length_drop, nR_length]
      by_cases hn : n < 0
      · rw [branch_of (by simpa using hn), if_pos (.inl hn)]; rfl
      · rw [branch_not (by simpa using hn)]
        by_cases hm : ((l.length - k : Nat) : Int) < n
        · rw [branch_of (by simpa using hm), if_pos (.inr hm)]; rfl
        · rw [branch_not (by simpa using hm), if_pos (by omega), if_neg (by omega), List.drop_zero, numsOf_ok (okR_take (okR_drop (l := l) h1 _) _)]
          simp only
          rw [if_pos (by omega), show (List.take (l.length - k) (List.drop k l)) = List.drop k l from List.take_of_length_le (by simp)]
          simp only [Nat.beq_refl, Bool.and_true, List.drop_drop, iR, nR_take, nR_drop, txt]
  · rw [rdtext_run1, branch_of hf, getS]
    cases hg : getN (nR l) with
    | none => rfl
    | some o =>
      obtain ⟨n, k⟩ := o
      simp only [onSome, List.length_drop, nR_length]
      by_cases hn : n < 0
      · rw [branch_of (by simpa using hn), if_pos (.inl hn)]; rfl
      · rw [branch_not (by simpa using hn)]
        by_cases hm : ((l.length - k : Nat) : Int) < n
        · rw [branch_of (by simpa using hm), if_pos (.inr hm)]; rfl
        · rw [branch_not (by simpa using hm), if_pos (by omega), if_neg (by omega), List.drop_zero, numsOf_ok (okR_take (okR_drop (l := l) h1 _) _)]
          simp only
          rw [if_pos (by omega), show (List.take (l.length - k) (List.drop k l)) = List.drop k l from List.take_of_length_le (by simp)]
          simp only [Nat.beq_refl, Bool.and_true, List.drop_drop, iR, nR_take, nR_drop, txt]
theorem f54_nil {p : AV} {st : St} {b : Bool} {put : AV → Bool → St} (h : rdAt p st = some (.nil b, put)) : f54.run 0 [p] st = some (.ret (.str noText), put .nilsl true) := by
  rcases rdAt_eq h with ⟨rfl, os, hs, rfl⟩ | ⟨rfl, o, os, hs, rfl⟩
  all_goals rw [hs]; simp only [Rd.cells]
  · rw [rdtext_nil0]; rfl
  · rw [rdtext_nil1]; rfl
/-- Reader.Text. -/
noncomputable def q54 : OrcS Tryz.prog := f54.cps
  (fun args st k => match args with
    | [p] => match rdAt p st with
      | some (.nil _, put) => k (.ret (.str noText)) (put .nilsl true)
      | some (.sl f false l, put) => match fit (.sl f l) with
        | true => match getS (nR l) with
          | none => k (.ret (.str noText)) (put .nilsl true)
          | some o => k (.ret (.str o.1)) (put (.sl 1 f (l.drop o.2)) false)
        | false => none
      | _ => none
    | _ => none)
  fun args st k fin h => by
    split at h
    · split at h
      · rename_i h1; exact ⟨_, _, h, 0, f54_nil h1⟩
      · rename_i h1
        split at h
        · rename_i h2
          have := f54_spec h1 h2
          split at h
          · rename_i h3; rw [h3] at this; exact ⟨_, _, h, 0, this⟩
          · rename_i h3; rw [h3] at this; exact ⟨_, _, h, 0, this⟩
        · cases h
      · cases h
    · cases h

theorem f27_spec {st : St} {f : Bool} {l : List (List AV)} {n : Int} {put : AV → Bool → St} (h : rdAt (.ptr 0 0) st = some (.sl f false l, put)) (hf : fit (.sl f l) = true) :
    f27.run 0 [.ptr 0 0, .int .i64 n] st = match getC n (nR l) with
      | none => some (.ret (.int .i64 0), put .nilsl true)
      | some o => some (.ret (.int .i64 o.1), put (.sl 1 f (l.drop o.2)) false) := by
  rcases rdAt_eq h with ⟨_, os, hs, rfl⟩ | ⟨h3, o, os, hs, rfl⟩
  · rw [hs]; simp only [Rd.cells]
    rw [rdcount_run0, branch_of hf, getC]
    cases hg : getN (nR l) with
    | none => simp only [onSome]; cases decide (0 > n) <;> rfl
    | some o =>
      obtain ⟨m, k⟩ := o
      simp only [onSome]
      by_cases hn : m < 0
      · rw [branch_of (by simpa using hn), if_pos (.inl hn)]
      · rw [branch_not (by simpa using hn)]
        by_cases hm : n < m
        · rw [branch_of (by simpa using hm), if_pos (.inr hm)]
        · rw [branch_not (by simpa using hm), if_neg (by omega)]
  · cases h3
theorem f27_nil {st : St} {b : Bool} {n : Int} {put : AV → Bool → St} (h : rdAt (.ptr 0 0) st = some (.nil b, put)) : f27.run 0 [.ptr 0 0, .int .i64 n] st = some (.ret (.int .i64 0), put .nilsl true) := by
  rcases rdAt_eq h with ⟨_, os, hs, rfl⟩ | ⟨h3, o, os, hs, rfl⟩
  · rw [hs]; simp only [Rd.cells]
    rw [rdcount_nil0]
    cases decide (0 > n) <;> rfl
  · cases h3
/-- Reader.Count. -/
noncomputable def q27 : OrcS Tryz.prog := f27.cps
  (fun args st k => match args with
    | [.ptr 0 0, .int .i64 n] => match rdAt (.ptr 0 0) st with
      | some (.nil _, put) => k (.ret (.int .i64 0)) (put .nilsl true)
      | some (.sl f false l, put) => match fit (.sl f l) with
        | true => match getC n (nR l) with
          | none => k (.ret (.int .i64 0)) (put .nilsl true)
          | some o => k (.ret (.int .i64 o.1)) (put (.sl 1 f (l.drop o.2)) false)
        | false => none
      | _ => none
    | _ => none)
  fun args st k fin h => by
    split at h
    · split at h
      · rename_i h1; exact ⟨_, _, h, 0, f27_nil h1⟩
      · rename_i h1
        split at h
        · rename_i h2
          split at h
          · rename_i h3; exact ⟨_, _, h, 0, by rw [f27_spec h1 h2, h3]⟩
          · rename_i h3; exact ⟨_, _, h, 0, by rw [f27_spec h1 h2, h3]⟩
        · cases h
      · cases h
    · cases h
end Go.Proofs.YtcfedmheblbdnaaGreatDoor.K

/- The functions' pieces, as told by gen.py. -/
set_option linter.unusedVariables false
set_option maxRecDepth 20000
namespace Go.Proofs.YtcfedmheblbdnaaGreatDoor.K
open Go Go.V Go.RowKit

theorem fl54_1 : fieldB Tryz.prog 54 1 1 1 false = true := by kernel_rfl
theorem fl54_0 : fieldB Tryz.prog 54 0 0 1 false = true := by kernel_rfl

/-! ### 32: (*interlock/interlockref01.Reader).Int (51); results 2; slots: 0 r, 1 r, 3 u, 4 i, 5 d -/
/-- A loop's round; at its head live: 0 r, 3 u, 4 i -/
noncomputable def f32_l0 : Sim Tryz.prog :=
 (.seq (.seq (.live [0, 3, 4, 20] (.region 5 [
 ⟨(opMove (some 10) (.tmp 4) 3 "ref.go:44" #[]).op, none⟩,
 ⟨(opMove (some 11) (.tmp 0) 51 "ref.go:44" #[]).op, none⟩,
 ⟨(opNilCheck (some 12) (.tmp 11) 0 "ref.go:44" #[{ on := 1, ground := Ground.data }]).op, none⟩,
 ⟨(opFieldAddr (some 13) 54 (.tmp 12) 0 0 1 false fl54_0 (by decide) 0 "ref.go:44" #[{ on := 2, ground := Ground.data }]).op, none⟩,
 ⟨(opLoad (some 14) 25 (.tmp 13) (.slice 5) Tryz.underlying25 1 sz25 25 "ref.go:44" #[{ on := 3, ground := Ground.data }]).op, none⟩,
 ⟨(opLen (some 15) (.tmp 14) 25 (.slice 5) Tryz.underlying25 3 "ref.go:44" #[{ on := 4, ground := Ground.data }]).op, none⟩,
 ⟨(opBin (some 16) .lss 3 (.tmp 10) (.tmp 15) 3 4 "ref.go:44" #[{ on := 0, ground := Ground.data }, { on := 5, ground := Ground.data }]).op, none⟩,
 ⟨(opMove (some 17) (.tmp 16) 4 "ref.go:44" #[{ on := 6, ground := Ground.data }]).op, none⟩,
 ⟨(opMove (some 18) (.tmp 4) 3 "ref.go:44" #[{ on := 7, ground := Ground.guard }]).op, (some (7, 17, true))⟩,
 ⟨(opBin (some 19) .lss 3 (.tmp 18) (.const (Value.int IntKind.i64 10)) 3 4 "ref.go:44" #[{ on := 8, ground := Ground.data }, { on := 7, ground := Ground.guard }]).op, (some (7, 17, true))⟩,
 ⟨(opPick (some 20) (.tmp 17) (.tmp 19) (.const (Value.bool false)) 4 "ref.go:44" #[{ on := 7, ground := Ground.data }, { on := 9, ground := Ground.data }]).op, none⟩
 ] (by kernel_rfl)))
 (.cond (.tmp 20)
 .skip
 (.live [0] (.exit 0))))
 (.seq (.block 1 (.seq (.live [0, 3, 4, 5] (.region 7 [
 ⟨(opMove (some 23) (.tmp 0) 51 "ref.go:45" #[]).op, none⟩,
 ⟨(opNilCheck (some 24) (.tmp 23) 0 "ref.go:45" #[{ on := 0, ground := Ground.data }]).op, none⟩,
 ⟨(opFieldAddr (some 25) 54 (.tmp 24) 0 0 1 false fl54_0 (by decide) 0 "ref.go:45" #[{ on := 1, ground := Ground.data }]).op, none⟩,
 ⟨(opLoad (some 26) 25 (.tmp 25) (.slice 5) Tryz.underlying25 1 sz25 25 "ref.go:45" #[{ on := 2, ground := Ground.data }]).op, none⟩,
 ⟨(opMove (some 27) (.tmp 4) 3 "ref.go:45" #[]).op, none⟩,
 ⟨(opIndexAddr (some 28) 25 (.tmp 26) (.tmp 27) 5 1 Tryz.underlying25 sz5 0 "ref.go:45" #[{ on := 3, ground := Ground.data }, { on := 4, ground := Ground.data }]).op, none⟩,
 ⟨(opLoad (some 29) 5 (.tmp 28) (.int .u8) Tryz.underlying5 1 sz5 5 "ref.go:45" #[{ on := 5, ground := Ground.data }]).op, none⟩,
 ⟨(opBin (some 30) .rem 5 (.tmp 29) (.const (Value.int IntKind.u8 128)) 5 5 "ref.go:45" #[{ on := 6, ground := Ground.data }]).op, none⟩,
 ⟨(opConvInt (some 31) 5 69 (.tmp 30) (.int .u8) Tryz.underlying5 .u64 Tryz.underlying69 69 "ref.go:45" #[{ on := 7, ground := Ground.data }]).op, none⟩,
 ⟨(opAssign (some 5) (.tmp 31) 69 "ref.go:45" #[{ on := 8, ground := Ground.data }, { on := 0, ground := Ground.phase }, { on := 1, ground := Ground.phase }, { on := 2, ground := Ground.phase }, { on := 3, ground := Ground.phase }, { on := 4, ground := Ground.phase }, { on := 5, ground := Ground.phase }, { on := 6, ground := Ground.phase }, { on := 7, ground := Ground.phase }, { on := 8, ground := Ground.phase }]).op, none⟩
 ] (by kernel_rfl)))
 (.seq (.seq (.live [0, 3, 4, 5, 37] (.region 8 [
 ⟨(opMove (some 32) (.tmp 4) 3 "ref.go:46" #[]).op, none⟩,
 ⟨(opBin (some 33) .eql 3 (.tmp 32) (.const (Value.int IntKind.i64 9)) 3 4 "ref.go:46" #[{ on := 0, ground := Ground.data }]).op, none⟩,
 ⟨(opMove (some 34) (.tmp 33) 4 "ref.go:46" #[{ on := 1, ground := Ground.data }]).op, none⟩,
 ⟨(opMove (some 35) (.tmp 5) 69 "ref.go:46" #[{ on := 2, ground := Ground.guard }]).op, (some (2, 34, true))⟩,
 ⟨(opBin (some 36) .gtr 69 (.tmp 35) (.const (Value.int IntKind.u64 1)) 69 4 "ref.go:46" #[{ on := 3, ground := Ground.data }, { on := 2, ground := Ground.guard }]).op, (some (2, 34, true))⟩,
 ⟨(opPick (some 37) (.tmp 34) (.tmp 36) (.const (Value.bool false)) 4 "ref.go:46" #[{ on := 2, ground := Ground.data }, { on := 4, ground := Ground.data }]).op, none⟩
 ] (by kernel_rfl)))
 (.cond (.tmp 37)
 (.live [0] (.exit 0))
 .skip))
 (.seq (.live [0, 3, 4, 5] (.region 9 [
 ⟨(opMove (some 38) (.tmp 3) 69 "ref.go:49" #[]).op, none⟩,
 ⟨(opMove (some 39) (.tmp 5) 69 "ref.go:49" #[]).op, none⟩,
 ⟨(opMove (some 40) (.tmp 4) 3 "ref.go:49" #[]).op, none⟩,
 ⟨(opBin (some 41) .mul 3 (.const (Value.int IntKind.i64 7)) (.tmp 40) 3 3 "ref.go:49" #[{ on := 2, ground := Ground.data }]).op, none⟩,
 ⟨(opConvInt (some 42) 3 71 (.tmp 41) (.int .i64) Tryz.underlying3 .u64 Tryz.underlying71 71 "ref.go:49" #[{ on := 3, ground := Ground.data }]).op, none⟩,
 ⟨(opBin (some 43) .shl 69 (.tmp 39) (.tmp 42) 71 69 "ref.go:49" #[{ on := 1, ground := Ground.data }, { on := 4, ground := Ground.data }]).op, none⟩,
 ⟨(opBin (some 44) .add 69 (.tmp 38) (.tmp 43) 69 69 "ref.go:49" #[{ on := 0, ground := Ground.data }, { on := 5, ground := Ground.data }]).op, none⟩,
 ⟨(opAssign (some 3) (.tmp 44) 69 "ref.go:49" #[{ on := 6, ground := Ground.data }, { on := 0, ground := Ground.phase }, { on := 1, ground := Ground.phase }, { on := 2, ground := Ground.phase }, { on := 3, ground := Ground.phase }, { on := 4, ground := Ground.phase }, { on := 5, ground := Ground.phase }, { on := 6, ground := Ground.phase }]).op, none⟩
 ] (by kernel_rfl)))
 (.seq (.live [0, 3, 4, 5, 52] (.region 10 [
 ⟨(opMove (some 45) (.tmp 0) 51 "ref.go:50" #[]).op, none⟩,
 ⟨(opNilCheck (some 46) (.tmp 45) 0 "ref.go:50" #[{ on := 0, ground := Ground.data }]).op, none⟩,
 ⟨(opFieldAddr (some 47) 54 (.tmp 46) 0 0 1 false fl54_0 (by decide) 0 "ref.go:50" #[{ on := 1, ground := Ground.data }]).op, none⟩,
 ⟨(opLoad (some 48) 25 (.tmp 47) (.slice 5) Tryz.underlying25 1 sz25 25 "ref.go:50" #[{ on := 2, ground := Ground.data }]).op, none⟩,
 ⟨(opMove (some 49) (.tmp 4) 3 "ref.go:50" #[]).op, none⟩,
 ⟨(opIndexAddr (some 50) 25 (.tmp 48) (.tmp 49) 5 1 Tryz.underlying25 sz5 0 "ref.go:50" #[{ on := 3, ground := Ground.data }, { on := 4, ground := Ground.data }]).op, none⟩,
 ⟨(opLoad (some 51) 5 (.tmp 50) (.int .u8) Tryz.underlying5 1 sz5 5 "ref.go:50" #[{ on := 5, ground := Ground.data }]).op, none⟩,
 ⟨(opBin (some 52) .lss 5 (.tmp 51) (.const (Value.int IntKind.u8 128)) 5 4 "ref.go:50" #[{ on := 6, ground := Ground.data }]).op, none⟩
 ] (by kernel_rfl)))
 (.cond (.tmp 52)
 (.seq (.seq (.live [0, 3, 4, 58] (.region 11 [
 ⟨(opMove (some 53) (.tmp 4) 3 "ref.go:51" #[]).op, none⟩,
 ⟨(opBin (some 54) .gtr 3 (.tmp 53) (.const (Value.int IntKind.i64 0)) 3 4 "ref.go:51" #[{ on := 0, ground := Ground.data }]).op, none⟩,
 ⟨(opMove (some 55) (.tmp 54) 4 "ref.go:51" #[{ on := 1, ground := Ground.data }]).op, none⟩,
 ⟨(opMove (some 56) (.tmp 5) 69 "ref.go:51" #[{ on := 2, ground := Ground.guard }]).op, (some (2, 55, true))⟩,
 ⟨(opBin (some 57) .eql 69 (.tmp 56) (.const (Value.int IntKind.u64 0)) 69 4 "ref.go:51" #[{ on := 3, ground := Ground.data }, { on := 2, ground := Ground.guard }]).op, (some (2, 55, true))⟩,
 ⟨(opPick (some 58) (.tmp 55) (.tmp 57) (.const (Value.bool false)) 4 "ref.go:51" #[{ on := 2, ground := Ground.data }, { on := 4, ground := Ground.data }]).op, none⟩
 ] (by kernel_rfl)))
 (.cond (.tmp 58)
 (.live [0] (.exit 0))
 .skip))
 (.seq (.live [3] (.region 12 [
 ⟨(opMove (some 59) (.tmp 0) 51 "ref.go:54" #[]).op, none⟩,
 ⟨(opMove (some 60) (.tmp 0) 51 "ref.go:54" #[]).op, none⟩,
 ⟨(opNilCheck (some 61) (.tmp 60) 0 "ref.go:54" #[{ on := 1, ground := Ground.data }]).op, none⟩,
 ⟨(opFieldAddr (some 62) 54 (.tmp 61) 0 0 1 false fl54_0 (by decide) 0 "ref.go:54" #[{ on := 2, ground := Ground.data }]).op, none⟩,
 ⟨(opLoad (some 63) 25 (.tmp 62) (.slice 5) Tryz.underlying25 1 sz25 25 "ref.go:54" #[{ on := 3, ground := Ground.data }]).op, none⟩,
 ⟨(opMove (some 64) (.tmp 4) 3 "ref.go:54" #[]).op, none⟩,
 ⟨(opBin (some 65) .add 3 (.tmp 64) (.const (Value.int IntKind.i64 1)) 3 3 "ref.go:54" #[{ on := 5, ground := Ground.data }]).op, none⟩,
 ⟨(opSlice (some 66) 25 (.tmp 63) (some (.tmp 65)) none none 5 1 Tryz.underlying25 sz5 25 "ref.go:54" #[{ on := 4, ground := Ground.data }, { on := 6, ground := Ground.data }]).op, none⟩,
 ⟨(opNilCheck (some 67) (.tmp 59) 0 "ref.go:54" #[{ on := 0, ground := Ground.data }, { on := 0, ground := Ground.phase }, { on := 1, ground := Ground.phase }, { on := 2, ground := Ground.phase }, { on := 3, ground := Ground.phase }, { on := 4, ground := Ground.phase }, { on := 5, ground := Ground.phase }, { on := 6, ground := Ground.phase }, { on := 7, ground := Ground.phase }]).op, none⟩,
 ⟨(opFieldAddr (some 68) 54 (.tmp 67) 0 0 1 false fl54_0 (by decide) 0 "ref.go:54" #[{ on := 8, ground := Ground.data }, { on := 0, ground := Ground.phase }, { on := 1, ground := Ground.phase }, { on := 2, ground := Ground.phase }, { on := 3, ground := Ground.phase }, { on := 4, ground := Ground.phase }, { on := 5, ground := Ground.phase }, { on := 6, ground := Ground.phase }, { on := 7, ground := Ground.phase }]).op, none⟩,
 ⟨(opStore none 25 (.tmp 68) (.tmp 66) 1 sz25 0 "ref.go:54" #[{ on := 9, ground := Ground.data }, { on := 7, ground := Ground.data }, { on := 0, ground := Ground.phase }, { on := 1, ground := Ground.phase }, { on := 2, ground := Ground.phase }, { on := 3, ground := Ground.phase }, { on := 4, ground := Ground.phase }, { on := 5, ground := Ground.phase }, { on := 6, ground := Ground.phase }, { on := 7, ground := Ground.phase }]).op, none⟩
 ] (by kernel_rfl)))
 (.seq (.seq (.live [3, 71] (.region 13 [
 ⟨(opMove (some 69) (.tmp 3) 69 "ref.go:55" #[]).op, none⟩,
 ⟨(opBin (some 70) .rem 69 (.tmp 69) (.const (Value.int IntKind.u64 2)) 69 69 "ref.go:55" #[{ on := 0, ground := Ground.data }]).op, none⟩,
 ⟨(opBin (some 71) .eql 69 (.tmp 70) (.const (Value.int IntKind.u64 1)) 69 4 "ref.go:55" #[{ on := 1, ground := Ground.data }]).op, none⟩
 ] (by kernel_rfl)))
 (.cond (.tmp 71)
 (.seq (.live [2] (.region 14 [
 ⟨(opMove (some 72) (.tmp 3) 69 "ref.go:56" #[]).op, none⟩,
 ⟨(opBin (some 73) .quo 69 (.tmp 72) (.const (Value.int IntKind.u64 2)) 69 69 "ref.go:56" #[{ on := 0, ground := Ground.data }]).op, none⟩,
 ⟨(opConvInt (some 74) 69 3 (.tmp 73) (.int .u64) Tryz.underlying69 .i64 Tryz.underlying3 3 "ref.go:56" #[{ on := 1, ground := Ground.data }]).op, none⟩,
 ⟨(opNeg (some 75) 3 (.tmp 74) 3 "ref.go:56" #[{ on := 2, ground := Ground.data }]).op, none⟩,
 ⟨(opBin (some 76) .sub 3 (.tmp 75) (.const (Value.int IntKind.i64 1)) 3 3 "ref.go:56" #[{ on := 3, ground := Ground.data }]).op, none⟩,
 ⟨(opAssign (some 2) (.tmp 76) 3 "ref.go:56" #[{ on := 4, ground := Ground.data }, { on := 0, ground := Ground.phase }, { on := 1, ground := Ground.phase }, { on := 2, ground := Ground.phase }, { on := 3, ground := Ground.phase }, { on := 4, ground := Ground.phase }]).op, none⟩
 ] (by kernel_rfl)))
 (.live [2] .ret))
 .skip))
 (.seq (.live [2] (.region 15 [
 ⟨(opMove (some 77) (.tmp 3) 69 "ref.go:58" #[]).op, none⟩,
 ⟨(opBin (some 78) .quo 69 (.tmp 77) (.const (Value.int IntKind.u64 2)) 69 69 "ref.go:58" #[{ on := 0, ground := Ground.data }]).op, none⟩,
 ⟨(opConvInt (some 79) 69 3 (.tmp 78) (.int .u64) Tryz.underlying69 .i64 Tryz.underlying3 3 "ref.go:58" #[{ on := 1, ground := Ground.data }]).op, none⟩,
 ⟨(opAssign (some 2) (.tmp 79) 3 "ref.go:58" #[{ on := 2, ground := Ground.data }, { on := 0, ground := Ground.phase }, { on := 1, ground := Ground.phase }, { on := 2, ground := Ground.phase }]).op, none⟩
 ] (by kernel_rfl)))
 (.live [2] .ret)))))
 .skip))))))
 (.live [0, 3, 4] (.region 6 [
 ⟨(opMove (some 21) (.tmp 4) 3 "ref.go:44" #[]).op, none⟩,
 ⟨(opBin (some 22) .add 3 (.tmp 21) (.const (Value.int IntKind.i64 1)) 3 3 "ref.go:44" #[{ on := 0, ground := Ground.data }]).op, none⟩,
 ⟨(opAssign (some 4) (.tmp 22) 3 "ref.go:44" #[{ on := 1, ground := Ground.data }, { on := 0, ground := Ground.phase }, { on := 1, ground := Ground.phase }]).op, none⟩
 ] (by kernel_rfl)))))

/-- What follows a loop. -/
noncomputable def f32_r0 : Sim Tryz.prog :=
 (.seq (.live [] (.region 16 [
 ⟨(opMove (some 80) (.tmp 0) 51 "ref.go:61" #[]).op, none⟩,
 ⟨(opNilCheck (some 81) (.tmp 80) 0 "ref.go:61" #[{ on := 0, ground := Ground.data }, { on := 0, ground := Ground.phase }]).op, none⟩,
 ⟨(opFieldAddr (some 82) 54 (.tmp 81) 1 1 1 false fl54_1 (by decide) 0 "ref.go:61" #[{ on := 1, ground := Ground.data }, { on := 0, ground := Ground.phase }]).op, none⟩,
 ⟨(opStore none 4 (.tmp 82) (.const (Value.bool true)) 1 sz4 0 "ref.go:61" #[{ on := 2, ground := Ground.data }, { on := 0, ground := Ground.phase }]).op, none⟩
 ] (by kernel_rfl)))
 (.seq (.live [2] (.region 17 [
 ⟨(opAssign (some 2) (.const (Value.int IntKind.i64 0)) 3 "ref.go:62" #[]).op, none⟩
 ] (by kernel_rfl)))
 (.live [2] .ret)))

noncomputable def f32_b : Sim Tryz.prog :=
 (.seq (.live [0] (.region 0 [
 ⟨(opAssign (some 2) (.const (Value.int IntKind.i64 0)) 3 "ref.go:39" #[]).op, none⟩
 ] (by kernel_rfl)))
 (.seq (.seq (.live [0, 9] (.region 1 [
 ⟨(opMove (some 6) (.tmp 0) 51 "ref.go:40" #[]).op, none⟩,
 ⟨(opNilCheck (some 7) (.tmp 6) 0 "ref.go:40" #[{ on := 0, ground := Ground.data }]).op, none⟩,
 ⟨(opFieldAddr (some 8) 54 (.tmp 7) 1 1 1 false fl54_1 (by decide) 0 "ref.go:40" #[{ on := 1, ground := Ground.data }]).op, none⟩,
 ⟨(opLoad (some 9) 4 (.tmp 8) .bool Tryz.underlying4 1 sz4 4 "ref.go:40" #[{ on := 2, ground := Ground.data }]).op, none⟩
 ] (by kernel_rfl)))
 (.cond (.tmp 9)
 (.seq (.live [2] (.region 2 [
 ⟨(opAssign (some 2) (.const (Value.int IntKind.i64 0)) 3 "ref.go:41" #[]).op, none⟩
 ] (by kernel_rfl)))
 (.live [2] .ret))
 .skip))
 (.seq (.live [0, 3] (.region 3 [
 ⟨(opAssign (some 3) (.const (Value.int IntKind.u64 0)) 69 "ref.go:43" #[]).op, none⟩
 ] (by kernel_rfl)))
 (.seq (.seq (.live [0, 3, 4] (.region 4 [
 ⟨(opAssign (some 4) (.const (Value.int IntKind.i64 0)) 3 "ref.go:44" #[]).op, none⟩
 ] (by kernel_rfl)))
 (.block 0 (.loop [0, 3, 4] f32_l0)))
 f32_r0))))

noncomputable def f32 : Fun Tryz.prog where
 id := 32
 fn := Tryz.f32
 hf := Tryz.func32
 hname := by kernel_rfl
 body := f32_b
 hbody := by kernel_rfl
 res := [rTmp 2]
 hres := by kernel_rfl
 n := 83
 hn := by kernel_rfl

end Go.Proofs.YtcfedmheblbdnaaGreatDoor.K
