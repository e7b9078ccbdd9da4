/- Merged out of 23 texts: what the claim's code comes to, and why. -/
import Derived.Test.YtcfedmheblbdnaaDoorRows
import Derived.WalkKit
import Derived.ProofKit
import Derived.OpenShut
import Derived.LaidMore
import Derived.LaidLaws
import Derived.Test.YtcfedmheblbdnaaDoorR35
/- The functions' pieces, as told by gen.py. -/
set_option linter.unusedVariables false
set_option maxRecDepth 20000
namespace Go.Proofs.YtcfedmheblbdnaaDoor.V
open Go Go.V Go.RowKit


/-! ### 22: interlock/interlockref04.Order (24, 24); results 4; slots: 0 a, 1 b, 2 a, 3 b -/
noncomputable def f22_b : Sim Tryd.prog :=
 (.seq (.live [2, 3] (.region 0 [
 ⟨(opBoxF (some 2) 24 (.tmp 0) 0 "ref.go:59" #[]).op, none⟩,
 ⟨(opBoxF (some 3) 24 (.tmp 1) 0 "ref.go:59" #[]).op, none⟩,
 ⟨(opAssign (some 4) (.const (Value.int IntKind.i64 0)) 3 "ref.go:59" #[]).op, none⟩
 ] (by kernel_rfl)))
 (.seq (.seq (.live [2, 3, 9] (.region 1 [
 ⟨(opFieldAddr (some 5) 24 (.tmp 2) 0 0 1 false fl24_0 (by decide) 0 "ref.go:60" #[]).op, none⟩,
 ⟨(opLoadT (.one (.int .i64)) (some 6) 3 (.tmp 5) (.int .i64) Tryd.underlying3 1 sz3 (by kernel_rfl) 3 "ref.go:60" #[{ on := 0, ground := Ground.data }]).op, none⟩,
 ⟨(opFieldAddr (some 7) 24 (.tmp 3) 0 0 1 false fl24_0 (by decide) 0 "ref.go:60" #[]).op, none⟩,
 ⟨(opLoadT (.one (.int .i64)) (some 8) 3 (.tmp 7) (.int .i64) Tryd.underlying3 1 sz3 (by kernel_rfl) 3 "ref.go:60" #[{ on := 2, ground := Ground.data }]).op, none⟩,
 ⟨(opBin (some 9) .neq 3 (.tmp 6) (.tmp 8) 3 4 "ref.go:60" #[{ on := 1, ground := Ground.data }, { on := 3, ground := Ground.data }]).op, none⟩
 ] (by kernel_rfl)))
 (.cond (.tmp 9)
 (.seq (.live [4] (.region 2 [
 ⟨(opFieldAddr (some 10) 24 (.tmp 2) 0 0 1 false fl24_0 (by decide) 0 "ref.go:61" #[]).op, none⟩,
 ⟨(opLoadT (.one (.int .i64)) (some 11) 3 (.tmp 10) (.int .i64) Tryd.underlying3 1 sz3 (by kernel_rfl) 3 "ref.go:61" #[{ on := 0, ground := Ground.data }]).op, none⟩,
 ⟨(opFieldAddr (some 12) 24 (.tmp 3) 0 0 1 false fl24_0 (by decide) 0 "ref.go:61" #[]).op, none⟩,
 ⟨(opLoadT (.one (.int .i64)) (some 13) 3 (.tmp 12) (.int .i64) Tryd.underlying3 1 sz3 (by kernel_rfl) 3 "ref.go:61" #[{ on := 2, ground := Ground.data }]).op, none⟩,
 ⟨(opCallP p39 (some 14) [(.tmp 11), (.tmp 13)] #[3, 3] 3 "ref.go:61" #[{ on := 1, ground := Ground.data }, { on := 3, ground := Ground.data }]).op, none⟩,
 ⟨(opAssign (some 4) (.tmp 14) 3 "ref.go:61" #[{ on := 4, ground := Ground.data }, { on := 4, ground := Ground.chain }, { on := 0, ground := Ground.phase }, { on := 1, ground := Ground.phase }, { on := 2, ground := Ground.phase }, { on := 3, ground := Ground.phase }, { on := 4, ground := Ground.phase }]).op, none⟩
 ] (by kernel_rfl)))
 (.live [4] .ret))
 .skip))
 (.seq (.seq (.live [2, 3, 19] (.region 3 [
 ⟨(opFieldAddr (some 15) 24 (.tmp 2) 1 1 1 false fl24_1 (by decide) 0 "ref.go:63" #[]).op, none⟩,
 ⟨(opLoadT (.one (.int .i64)) (some 16) 3 (.tmp 15) (.int .i64) Tryd.underlying3 1 sz3 (by kernel_rfl) 3 "ref.go:63" #[{ on := 0, ground := Ground.data }]).op, none⟩,
 ⟨(opFieldAddr (some 17) 24 (.tmp 3) 1 1 1 false fl24_1 (by decide) 0 "ref.go:63" #[]).op, none⟩,
 ⟨(opLoadT (.one (.int .i64)) (some 18) 3 (.tmp 17) (.int .i64) Tryd.underlying3 1 sz3 (by kernel_rfl) 3 "ref.go:63" #[{ on := 2, ground := Ground.data }]).op, none⟩,
 ⟨(opBin (some 19) .neq 3 (.tmp 16) (.tmp 18) 3 4 "ref.go:63" #[{ on := 1, ground := Ground.data }, { on := 3, ground := Ground.data }]).op, none⟩
 ] (by kernel_rfl)))
 (.cond (.tmp 19)
 (.seq (.live [4] (.region 4 [
 ⟨(opFieldAddr (some 20) 24 (.tmp 2) 1 1 1 false fl24_1 (by decide) 0 "ref.go:64" #[]).op, none⟩,
 ⟨(opLoadT (.one (.int .i64)) (some 21) 3 (.tmp 20) (.int .i64) Tryd.underlying3 1 sz3 (by kernel_rfl) 3 "ref.go:64" #[{ on := 0, ground := Ground.data }]).op, none⟩,
 ⟨(opFieldAddr (some 22) 24 (.tmp 3) 1 1 1 false fl24_1 (by decide) 0 "ref.go:64" #[]).op, none⟩,
 ⟨(opLoadT (.one (.int .i64)) (some 23) 3 (.tmp 22) (.int .i64) Tryd.underlying3 1 sz3 (by kernel_rfl) 3 "ref.go:64" #[{ on := 2, ground := Ground.data }]).op, none⟩,
 ⟨(opCallP p39 (some 24) [(.tmp 21), (.tmp 23)] #[3, 3] 3 "ref.go:64" #[{ on := 1, ground := Ground.data }, { on := 3, ground := Ground.data }]).op, none⟩,
 ⟨(opAssign (some 4) (.tmp 24) 3 "ref.go:64" #[{ on := 4, ground := Ground.data }, { on := 4, ground := Ground.chain }, { on := 0, ground := Ground.phase }, { on := 1, ground := Ground.phase }, { on := 2, ground := Ground.phase }, { on := 3, ground := Ground.phase }, { on := 4, ground := Ground.phase }]).op, none⟩
 ] (by kernel_rfl)))
 (.live [4] .ret))
 .skip))
 (.seq (.live [4] (.region 5 [
 ⟨(opFieldAddr (some 25) 24 (.tmp 2) 2 2 1 false fl24_2 (by decide) 0 "ref.go:66" #[]).op, none⟩,
 ⟨(opLoadT (.one .str) (some 26) 9 (.tmp 25) .string Tryd.underlying9 1 sz9 (by kernel_rfl) 9 "ref.go:66" #[{ on := 0, ground := Ground.data }]).op, none⟩,
 ⟨(opFieldAddr (some 27) 24 (.tmp 3) 2 2 1 false fl24_2 (by decide) 0 "ref.go:66" #[]).op, none⟩,
 ⟨(opLoadT (.one .str) (some 28) 9 (.tmp 27) .string Tryd.underlying9 1 sz9 (by kernel_rfl) 9 "ref.go:66" #[{ on := 2, ground := Ground.data }]).op, none⟩,
 ⟨(opCallP p40 (some 29) [(.tmp 26), (.tmp 28)] #[9, 9] 3 "ref.go:66" #[{ on := 1, ground := Ground.data }, { on := 3, ground := Ground.data }]).op, none⟩,
 ⟨(opAssign (some 4) (.tmp 29) 3 "ref.go:66" #[{ on := 4, ground := Ground.data }, { on := 4, ground := Ground.chain }, { on := 0, ground := Ground.phase }, { on := 1, ground := Ground.phase }, { on := 2, ground := Ground.phase }, { on := 3, ground := Ground.phase }, { on := 4, ground := Ground.phase }]).op, none⟩
 ] (by kernel_rfl)))
 (.live [4] .ret)))))

noncomputable def f22 : Fun Tryd.prog where
 id := 22
 fn := Tryd.f22
 hf := Tryd.func22
 hname := by kernel_rfl
 body := f22_b
 hbody := by kernel_rfl
 res := [rTmp 4]
 hres := by kernel_rfl
 n := 30
 hn := by kernel_rfl

end Go.Proofs.YtcfedmheblbdnaaDoor.V

/- What the functions' runs come to; the right sides were printed by a tool, Lean checks them. -/
set_option linter.unusedVariables false
set_option maxRecDepth 100000
namespace Go.Proofs.YtcfedmheblbdnaaDoor.V
open Go Go.V Go.RowKit

theorem rorder_run (F : Nat) (a b : Va) (st : St) :
 (f22.run F [a.av, b.av] st : Ans) =
 branch (AV.bool (a.k != b.k)) (some (Fin.ret (AV.int IntKind.i64 (cmpI a.k b.k)), st))
 (branch (AV.bool (a.n != b.n)) (some (Fin.ret (AV.int IntKind.i64 (cmpI a.n b.n)), st))
 (branch (AV.bool (cdec (a.s.size ≤ 100000))) (some (Fin.ret (AV.int IntKind.i64 (cmpS a.s b.s)), st)) none)) := by kernel_rfl

end Go.Proofs.YtcfedmheblbdnaaDoor.V

/- Values: the reference's Order, as a callee. -/
set_option linter.unusedVariables false
namespace Go.Proofs.YtcfedmheblbdnaaDoor.V
open Go Go.V Go.RowKit

theorem cmpI_ne {a b : Int} (h : a ≠ b) : (cmpI a b != 0) = true := by
  have : cmpI a b ≠ 0 := fun e => h (lin_int.eq _ _ e)
  simpa using this
theorem rorder_eq {F : Nat} (a b : Va) (st : St) (h : a.s.size ≤ 100000) : f22.run F [a.av, b.av] st = some (.ret (.int .i64 (cmpV a b)), st) := by
  rw [rorder_run, cmpV, orI]
  by_cases hk : a.k = b.k
  · rw [branch_not (by simp [hk]), hk, cmpI_self]
    by_cases hn : a.n = b.n
    · rw [branch_not (by simp [hn]), hn, cmpI_self, branch_of (cdec_iff.mpr h)]; rfl
    · rw [branch_of (by simpa using hn), cmpI_ne hn]; rfl
  · rw [branch_of (by simpa using hk), cmpI_ne hk]; rfl
noncomputable def p22 : POrc Tryd.prog := f22.pureIf dec2v (fun a => [a.1.av, a.2.av]) dec2v_enc (fun a => cdec (a.1.s.size ≤ 100000)) (fun a => .int .i64 (cmpV a.1 a.2)) (fun _ _ => ⟨rfl, fun _ _ => trivial⟩) fun a h => ⟨0, fun st => rorder_eq a.1 a.2 st (cdec_iff.mp h)⟩
theorem p22_nat : p22.Nat := pureIf_nat
end Go.Proofs.YtcfedmheblbdnaaDoor.V

/- Values: FormatInt, as a callee. -/
set_option linter.unusedVariables false
namespace Go.Proofs.YtcfedmheblbdnaaDoor.V
open Go Go.V Go.RowKit

def dec2t : List AV → Option Int
  | [x, y] => match x with
    | .int k i => match k with
      | .i64 => match y with
        | .int k' n => match k' with
          | .i64 => match decide (n = 10) with
            | true => some i
            | false => none
          | _ => none
        | _ => none
      | _ => none
    | _ => none
  | _ => none
theorem dec2t_enc : ∀ l a, dec2t l = some a → l = [.int .i64 a, .int .i64 10] := by
  intro l a h
  unfold dec2t at h
  split at h
  · split at h
    · split at h
      · split at h
        · split at h
          · split at h
            · rename_i hn; cases h; rw [of_decide_eq_true hn]
            · cases h
          · cases h
        · cases h
      · cases h
    · cases h
  · cases h
noncomputable def okI (i : Int) : Bool := cdec (-9223372036854775808 ≤ i ∧ i ≤ 9223372036854775807)
noncomputable def p72 : POrc Tryd.prog := f72.flatIf dec2t (fun i => [.int .i64 i, .int .i64 10]) dec2t_enc okI (fun i => .str (showI i)) (fun _ => ⟨trivial, trivial, trivial⟩) (fun _ => trivial) fun i h => by
  obtain ⟨h1, h2⟩ := cdec_iff.mp h
  obtain ⟨st', h⟩ := fi_eq i h1 h2
  exact ⟨0, st', h⟩
end Go.Proofs.YtcfedmheblbdnaaDoor.V

/- The functions' pieces, as told by gen.py. -/
set_option linter.unusedVariables false
set_option maxRecDepth 20000
namespace Go.Proofs.YtcfedmheblbdnaaDoor.V
open Go Go.V Go.RowKit


/-! ### 54: internal/strconv.Itoa (3); results 2; slots: 0 i, 1 i -/
noncomputable def f54_b : Sim Tryd.prog :=
 (.seq (.live [0] (.region 0 [
 ⟨(opAssign (some 2) (.const (Value.string { data := #[] })) 9 "itoa.go:52" #[]).op, none⟩
 ] (by kernel_rfl)))
 (.seq (.live [2] (.region 1 [
 ⟨(opMove (some 3) (.tmp 0) 3 "itoa.go:53" #[]).op, none⟩,
 ⟨(opCallP p72 (some 4) [(.tmp 3), (.const (Value.int IntKind.i64 10))] #[2, 3] 9 "itoa.go:53" #[{ on := 0, ground := Ground.data }]).op, none⟩,
 ⟨(opAssign (some 2) (.tmp 4) 9 "itoa.go:53" #[{ on := 1, ground := Ground.data }, { on := 1, ground := Ground.chain }, { on := 0, ground := Ground.phase }, { on := 1, ground := Ground.phase }]).op, none⟩
 ] (by kernel_rfl)))
 (.live [2] .ret)))

noncomputable def f54 : Fun Tryd.prog where
 id := 54
 fn := Tryd.f54
 hf := Tryd.func54
 hname := by kernel_rfl
 body := f54_b
 hbody := by kernel_rfl
 res := [rTmp 2]
 hres := by kernel_rfl
 n := 5
 hn := by kernel_rfl

/-! ### 55: internal/strconv.FormatBool (4); results 2; slots: 0 b, 1 b -/
noncomputable def f55_b : Sim Tryd.prog :=
 (.seq (.live [0] (.region 0 [
 ⟨(opAssign (some 2) (.const (Value.string { data := #[] })) 9 "atob.go:21" #[]).op, none⟩
 ] (by kernel_rfl)))
 (.seq (.seq (.live [3] (.region 1 [
 ⟨(opMove (some 3) (.tmp 0) 4 "atob.go:22" #[]).op, none⟩
 ] (by kernel_rfl)))
 (.cond (.tmp 3)
 (.seq (.live [2] (.region 2 [
 ⟨(opAssign (some 2) (.const (Value.string { data := #[116, 114, 117, 101] })) 9 "atob.go:23" #[]).op, none⟩
 ] (by kernel_rfl)))
 (.live [2] .ret))
 .skip))
 (.seq (.live [2] (.region 3 [
 ⟨(opAssign (some 2) (.const (Value.string { data := #[102, 97, 108, 115, 101] })) 9 "atob.go:25" #[]).op, none⟩
 ] (by kernel_rfl)))
 (.live [2] .ret))))

noncomputable def f55 : Fun Tryd.prog where
 id := 55
 fn := Tryd.f55
 hf := Tryd.func55
 hname := by kernel_rfl
 body := f55_b
 hbody := by kernel_rfl
 res := [rTmp 2]
 hres := by kernel_rfl
 n := 4
 hn := by kernel_rfl

/-! ### 32: strconv.Itoa (3); results 2; slots: 0 i, 1 i -/
noncomputable def f32_b : Sim Tryd.prog :=
 (.seq (.live [0] (.region 0 [
 ⟨(opAssign (some 2) (.const (Value.string { data := #[] })) 9 "number.go:214" #[]).op, none⟩
 ] (by kernel_rfl)))
 (.seq (.live [2] (.region 1 [
 ⟨(opMove (some 3) (.tmp 0) 3 "number.go:215" #[]).op, none⟩,
 ⟨opCall (f54.orc 0) (some 4) [(.tmp 3)] #[3] 9 "number.go:215" #[{ on := 0, ground := Ground.data }], none⟩,
 ⟨(opAssign (some 2) (.tmp 4) 9 "number.go:215" #[{ on := 1, ground := Ground.data }, { on := 1, ground := Ground.chain }, { on := 0, ground := Ground.phase }, { on := 1, ground := Ground.phase }]).op, none⟩
 ] (by kernel_rfl)))
 (.live [2] .ret)))

noncomputable def f32 : Fun Tryd.prog where
 id := 32
 fn := Tryd.f32
 hf := Tryd.func32
 hname := by kernel_rfl
 body := f32_b
 hbody := by kernel_rfl
 res := [rTmp 2]
 hres := by kernel_rfl
 n := 5
 hn := by kernel_rfl

/-! ### 33: strconv.FormatBool (4); results 2; slots: 0 b, 1 b -/
noncomputable def f33_b : Sim Tryd.prog :=
 (.seq (.live [0] (.region 0 [
 ⟨(opAssign (some 2) (.const (Value.string { data := #[] })) 9 "number.go:28" #[]).op, none⟩
 ] (by kernel_rfl)))
 (.seq (.live [2] (.region 1 [
 ⟨(opMove (some 3) (.tmp 0) 4 "number.go:29" #[]).op, none⟩,
 ⟨opCall (f55.orc 0) (some 4) [(.tmp 3)] #[4] 9 "number.go:29" #[{ on := 0, ground := Ground.data }], none⟩,
 ⟨(opAssign (some 2) (.tmp 4) 9 "number.go:29" #[{ on := 1, ground := Ground.data }, { on := 1, ground := Ground.chain }, { on := 0, ground := Ground.phase }, { on := 1, ground := Ground.phase }]).op, none⟩
 ] (by kernel_rfl)))
 (.live [2] .ret)))

noncomputable def f33 : Fun Tryd.prog where
 id := 33
 fn := Tryd.f33
 hf := Tryd.func33
 hname := by kernel_rfl
 body := f33_b
 hbody := by kernel_rfl
 res := [rTmp 2]
 hres := by kernel_rfl
 n := 5
 hn := by kernel_rfl

end Go.Proofs.YtcfedmheblbdnaaDoor.V

/- The functions' pieces, as told by gen.py. -/
set_option linter.unusedVariables false
set_option maxRecDepth 20000
namespace Go.Proofs.YtcfedmheblbdnaaDoor.V
open Go Go.V Go.RowKit


/-! ### 12: interlock/value.Show (24); results 2; slots: 0 v, 1 v -/
noncomputable def g12_b : Sim Tryd.prog :=
 (.seq (.live [1] (.region 0 [
 ⟨(opBoxF (some 1) 24 (.tmp 0) 0 "value.go:138" #[]).op, none⟩,
 ⟨(opAssign (some 2) (.const (Value.string { data := #[] })) 9 "value.go:138" #[]).op, none⟩
 ] (by kernel_rfl)))
 (.seq (.block 0 (.seq (.live [1, 3] (.region 1 [
 ⟨(opLoadT (.agg [(.int .i64), (.int .i64), .str]) (some 4) 24 (.tmp 1) d24 ud24 3 sz24 (by kernel_rfl) 24 "value.go:140" #[]).op, none⟩,
 ⟨(opCallP p13 (some 5) [(.tmp 4)] #[24] 4 "value.go:140" #[{ on := 0, ground := Ground.data }]).op, none⟩,
 ⟨(opNot (some 6) 4 (.tmp 5) 4 "value.go:140" #[{ on := 1, ground := Ground.data }]).op, none⟩,
 ⟨(opAssign (some 3) (.tmp 6) 4 "value.go:140" #[{ on := 2, ground := Ground.data }, { on := 1, ground := Ground.chain }]).op, none⟩
 ] (by kernel_rfl)))
 (.cond (.tmp 3)
 (.seq (.live [2] (.region 2 [
 ⟨(opAssign (some 2) (.const (Value.string { data := #[63] })) 9 "value.go:141" #[]).op, none⟩
 ] (by kernel_rfl)))
 (.live [2] .ret))
 (.seq (.live [1, 7] (.region 3 [
 ⟨(opFieldAddr (some 8) 24 (.tmp 1) 0 0 1 false fl24_0 (by decide) 0 "value.go:142" #[]).op, none⟩,
 ⟨(opLoadT (.one (.int .i64)) (some 9) 3 (.tmp 8) (.int .i64) Tryd.underlying3 1 sz3 (by kernel_rfl) 3 "value.go:142" #[{ on := 0, ground := Ground.data }]).op, none⟩,
 ⟨(opBin (some 10) .eql 3 (.tmp 9) (.const (Value.int IntKind.i64 1)) 3 4 "value.go:142" #[{ on := 1, ground := Ground.data }]).op, none⟩,
 ⟨(opAssign (some 7) (.tmp 10) 4 "value.go:142" #[{ on := 2, ground := Ground.data }]).op, none⟩
 ] (by kernel_rfl)))
 (.cond (.tmp 7)
 (.seq (.live [2] (.region 4 [
 ⟨(opFieldAddr (some 11) 24 (.tmp 1) 1 1 1 false fl24_1 (by decide) 0 "value.go:143" #[]).op, none⟩,
 ⟨(opLoadT (.one (.int .i64)) (some 12) 3 (.tmp 11) (.int .i64) Tryd.underlying3 1 sz3 (by kernel_rfl) 3 "value.go:143" #[{ on := 0, ground := Ground.data }]).op, none⟩,
 ⟨opCall (f32.orc 0) (some 13) [(.tmp 12)] #[3] 9 "value.go:143" #[{ on := 1, ground := Ground.data }], none⟩,
 ⟨(opAssign (some 2) (.tmp 13) 9 "value.go:143" #[{ on := 2, ground := Ground.data }, { on := 2, ground := Ground.chain }, { on := 0, ground := Ground.phase }, { on := 1, ground := Ground.phase }, { on := 2, ground := Ground.phase }]).op, none⟩
 ] (by kernel_rfl)))
 (.live [2] .ret))
 (.seq (.live [1, 14] (.region 5 [
 ⟨(opFieldAddr (some 15) 24 (.tmp 1) 0 0 1 false fl24_0 (by decide) 0 "value.go:144" #[]).op, none⟩,
 ⟨(opLoadT (.one (.int .i64)) (some 16) 3 (.tmp 15) (.int .i64) Tryd.underlying3 1 sz3 (by kernel_rfl) 3 "value.go:144" #[{ on := 0, ground := Ground.data }]).op, none⟩,
 ⟨(opBin (some 17) .eql 3 (.tmp 16) (.const (Value.int IntKind.i64 2)) 3 4 "value.go:144" #[{ on := 1, ground := Ground.data }]).op, none⟩,
 ⟨(opAssign (some 14) (.tmp 17) 4 "value.go:144" #[{ on := 2, ground := Ground.data }]).op, none⟩
 ] (by kernel_rfl)))
 (.cond (.tmp 14)
 (.seq (.live [2] (.region 6 [
 ⟨(opFieldAddr (some 18) 24 (.tmp 1) 1 1 1 false fl24_1 (by decide) 0 "value.go:145" #[]).op, none⟩,
 ⟨(opLoadT (.one (.int .i64)) (some 19) 3 (.tmp 18) (.int .i64) Tryd.underlying3 1 sz3 (by kernel_rfl) 3 "value.go:145" #[{ on := 0, ground := Ground.data }]).op, none⟩,
 ⟨(opBin (some 20) .eql 3 (.tmp 19) (.const (Value.int IntKind.i64 1)) 3 4 "value.go:145" #[{ on := 1, ground := Ground.data }]).op, none⟩,
 ⟨opCall (f33.orc 0) (some 21) [(.tmp 20)] #[4] 9 "value.go:145" #[{ on := 2, ground := Ground.data }], none⟩,
 ⟨(opAssign (some 2) (.tmp 21) 9 "value.go:145" #[{ on := 3, ground := Ground.data }, { on := 3, ground := Ground.chain }, { on := 0, ground := Ground.phase }, { on := 1, ground := Ground.phase }, { on := 2, ground := Ground.phase }, { on := 3, ground := Ground.phase }]).op, none⟩
 ] (by kernel_rfl)))
 (.live [2] .ret))
 (.seq (.live [1, 22] (.region 7 [
 ⟨(opFieldAddr (some 23) 24 (.tmp 1) 0 0 1 false fl24_0 (by decide) 0 "value.go:146" #[]).op, none⟩,
 ⟨(opLoadT (.one (.int .i64)) (some 24) 3 (.tmp 23) (.int .i64) Tryd.underlying3 1 sz3 (by kernel_rfl) 3 "value.go:146" #[{ on := 0, ground := Ground.data }]).op, none⟩,
 ⟨(opBin (some 25) .eql 3 (.tmp 24) (.const (Value.int IntKind.i64 3)) 3 4 "value.go:146" #[{ on := 1, ground := Ground.data }]).op, none⟩,
 ⟨(opAssign (some 22) (.tmp 25) 4 "value.go:146" #[{ on := 2, ground := Ground.data }]).op, none⟩
 ] (by kernel_rfl)))
 (.cond (.tmp 22)
 (.seq (.live [2] (.region 8 [
 ⟨(opFieldAddr (some 26) 24 (.tmp 1) 2 2 1 false fl24_2 (by decide) 0 "value.go:147" #[]).op, none⟩,
 ⟨(opLoadT (.one .str) (some 27) 9 (.tmp 26) .string Tryd.underlying9 1 sz9 (by kernel_rfl) 9 "value.go:147" #[{ on := 0, ground := Ground.data }]).op, none⟩,
 ⟨(opCallP p34 (some 28) [(.tmp 27)] #[9] 9 "value.go:147" #[{ on := 1, ground := Ground.data }]).op, none⟩,
 ⟨(opAssign (some 2) (.tmp 28) 9 "value.go:147" #[{ on := 2, ground := Ground.data }, { on := 2, ground := Ground.chain }, { on := 0, ground := Ground.phase }, { on := 1, ground := Ground.phase }, { on := 2, ground := Ground.phase }]).op, none⟩
 ] (by kernel_rfl)))
 (.live [2] .ret))
 .skip)))))))))
 (.seq (.live [2] (.region 9 [
 ⟨(opAssign (some 2) (.const (Value.string { data := #[110, 117, 108, 108] })) 9 "value.go:149" #[]).op, none⟩
 ] (by kernel_rfl)))
 (.live [2] .ret))))

noncomputable def g12 : Fun Tryd.prog where
 id := 12
 fn := Tryd.f12
 hf := Tryd.func12
 hname := by kernel_rfl
 body := g12_b
 hbody := by kernel_rfl
 res := [rTmp 2]
 hres := by kernel_rfl
 n := 29
 hn := by kernel_rfl

end Go.Proofs.YtcfedmheblbdnaaDoor.V

/- What the functions' runs come to; the right sides were printed by a tool, Lean checks them. -/
set_option linter.unusedVariables false
set_option maxRecDepth 100000
namespace Go.Proofs.YtcfedmheblbdnaaDoor.V
open Go Go.V Go.RowKit

theorem show_run (F : Nat) (v : Va) (st : St) :
 (g12.run F [v.av] st : Ans) =
 branch (AV.bool !rightV (Va.mk (hdI v.cells) (hdI v.cells.tail) (hdS v.cells.tail.tail)))
 (some (Fin.ret (AV.str (ByteArray.mk #[(63 : UInt8)])), st))
 (branch (AV.bool (v.k == (1 : Int))) (branch (AV.bool (okI v.n)) (some (Fin.ret (AV.str (showI v.n)), st)) none)
 (branch (AV.bool (v.k == (2 : Int)))
 (branch (AV.bool (v.n == (1 : Int)))
 (some (Fin.ret (AV.str (ByteArray.mk #[(116 : UInt8), (114 : UInt8), (117 : UInt8), (101 : UInt8)])), st))
 (some
 (Fin.ret (AV.str (ByteArray.mk #[(102 : UInt8), (97 : UInt8), (108 : UInt8), (115 : UInt8), (101 : UInt8)])),
 st)))
 (branch (AV.bool (v.k == (3 : Int)))
 (branch (AV.bool (cdec ((strL v.s).length ≤ 100000000)))
 (some (Fin.ret (AV.str (strB (34 :: (List.flatMap encQ (strL v.s) ++ [34])))), st)) none)
 (some (Fin.ret (AV.str (ByteArray.mk #[(110 : UInt8), (117 : UInt8), (108 : UInt8), (108 : UInt8)])), st))))) := by kernel_rfl

end Go.Proofs.YtcfedmheblbdnaaDoor.V

/- Values: Show, as a callee. -/
set_option linter.unusedVariables false
namespace Go.Proofs.YtcfedmheblbdnaaDoor.V
open Go Go.V Go.RowKit

def wq : ByteArray := ByteArray.mk #[63]
def wtrue : ByteArray := ByteArray.mk #[116, 114, 117, 101]
def wfalse : ByteArray := ByteArray.mk #[102, 97, 108, 115, 101]
def wnull : ByteArray := ByteArray.mk #[110, 117, 108, 108]
noncomputable def showV (v : Va) : ByteArray := bif rightV v then bif v.k == 1 then showI v.n else bif v.k == 2 then bif v.n == 1 then wtrue else wfalse else bif v.k == 3 then strB (qtL (strL v.s)) else wnull else wq
noncomputable def okSh (v : Va) : Bool := cdec (-9223372036854775808 ≤ v.n ∧ v.n ≤ 9223372036854775807 ∧ v.s.size ≤ 1000)
theorem show_eq (v : Va) (h : okSh v = true) (st : St) : g12.run 0 [v.av] st = some (.ret (.str (showV v)), st) := by
  obtain ⟨h1, h2, h3⟩ := cdec_iff.mp h
  rw [show_run, branch_of (show okI v.n = true from cdec_iff.mpr ⟨h1, h2⟩), branch_of (cdec_iff.mpr (by rw [← strL_size]; omega)), showV]
  show branch (.bool (!rightV v)) _ _ = _
  cases rightV v with
  | false => rfl
  | true =>
    rw [Bool.not_true, branch_false, cond_true]
    cases v.k == 1 with
    | true => rfl
    | false =>
      rw [branch_false, cond_false]
      cases v.k == 2 with
      | true => cases v.n == 1 <;> rfl
      | false => cases v.k == 3 <;> rfl
noncomputable def p12 : POrc Tryd.prog := g12.pureIf dec1v (fun v => [v.av]) dec1v_enc okSh (fun v => .str (showV v)) (fun _ _ => ⟨rfl, fun _ _ => trivial⟩) fun v h => ⟨0, fun st => show_eq v h st⟩
theorem p12_nat : p12.Nat := pureIf_nat
end Go.Proofs.YtcfedmheblbdnaaDoor.V

/- The functions' pieces, as told by gen.py. -/
set_option linter.unusedVariables false
set_option maxRecDepth 20000
namespace Go.Proofs.YtcfedmheblbdnaaDoor.V
open Go Go.V Go.RowKit


/-! ### 41: interlock/interlockref00.Show (3); results 2; slots: 0 v, 1 v, 3 n, 4 d, 5 out, 6 i -/
/-- A loop's round; at its head live: 0 v, 3 n, 4 d -/
noncomputable def f41_l0 : Sim Tryd.prog :=
 (.block 1 (.seq (.live [0, 3, 4] (.region 5 [
 ⟨(opMove (some 13) (.tmp 4) 46 "ref.go:108" #[]).op, none⟩,
 ⟨(opMove (some 14) (.tmp 3) 3 "ref.go:108" #[]).op, none⟩,
 ⟨(opBin (some 15) .rem 3 (.tmp 14) (.const (Value.int IntKind.i64 10)) 3 3 "ref.go:108" #[{ on := 1, ground := Ground.data }]).op, none⟩,
 ⟨(opBin (some 16) .sub 3 (.const (Value.int IntKind.i64 48)) (.tmp 15) 3 3 "ref.go:108" #[{ on := 2, ground := Ground.data }]).op, none⟩,
 ⟨(opConvInt (some 17) 3 5 (.tmp 16) (.int .i64) Tryd.underlying3 .u8 Tryd.underlying5 5 "ref.go:108" #[{ on := 3, ground := Ground.data }]).op, none⟩,
 ⟨(opBuildSlice (some 18) 46 1 [(0, (.tmp 17))] 5 1 1 (.int .u8 0) el46 (by kernel_rfl) (by decide) 46 "ref.go:108" #[{ on := 4, ground := Ground.data }]).op, none⟩,
 ⟨(opAppend (some 19) (.tmp 13) (.tmp 18) 46 46 5 1 1 (.int .u8 0) el46 (.slice 5) Tryd.underlying46 rfl 46 "ref.go:108" #[{ on := 0, ground := Ground.data }, { on := 5, ground := Ground.data }]).op, none⟩,
 ⟨(opAssign (some 4) (.tmp 19) 46 "ref.go:108" #[{ on := 6, ground := Ground.data }, { on := 6, ground := Ground.chain }, { on := 0, ground := Ground.phase }, { on := 1, ground := Ground.phase }, { on := 2, ground := Ground.phase }, { on := 3, ground := Ground.phase }, { on := 4, ground := Ground.phase }, { on := 5, ground := Ground.phase }, { on := 6, ground := Ground.phase }]).op, none⟩
 ] (by kernel_rfl)))
 (.seq (.live [0, 3, 4] (.region 6 [
 ⟨(opMove (some 20) (.tmp 3) 3 "ref.go:109" #[]).op, none⟩,
 ⟨(opBin (some 21) .quo 3 (.tmp 20) (.const (Value.int IntKind.i64 10)) 3 3 "ref.go:109" #[{ on := 0, ground := Ground.data }]).op, none⟩,
 ⟨(opAssign (some 3) (.tmp 21) 3 "ref.go:109" #[{ on := 1, ground := Ground.data }, { on := 0, ground := Ground.phase }, { on := 1, ground := Ground.phase }]).op, none⟩
 ] (by kernel_rfl)))
 (.seq (.live [0, 3, 4, 23] (.region 7 [
 ⟨(opMove (some 22) (.tmp 3) 3 "ref.go:110" #[]).op, none⟩,
 ⟨(opBin (some 23) .eql 3 (.tmp 22) (.const (Value.int IntKind.i64 0)) 3 4 "ref.go:110" #[{ on := 0, ground := Ground.data }]).op, none⟩
 ] (by kernel_rfl)))
 (.cond (.tmp 23)
 (.live [0, 4] (.exit 0))
 .skip)))))

/-- A loop's round; at its head live: 4 d, 5 out, 6 i -/
noncomputable def f41_l1 : Sim Tryd.prog :=
 (.seq (.seq (.live [4, 5, 6, 34] (.region 12 [
 ⟨(opMove (some 33) (.tmp 6) 3 "ref.go:118" #[]).op, none⟩,
 ⟨(opBin (some 34) .geq 3 (.tmp 33) (.const (Value.int IntKind.i64 0)) 3 4 "ref.go:118" #[{ on := 0, ground := Ground.data }]).op, none⟩
 ] (by kernel_rfl)))
 (.cond (.tmp 34)
 .skip
 (.live [5] (.exit 2))))
 (.seq (.block 3 (.live [4, 5, 6] (.region 14 [
 ⟨(opMove (some 37) (.tmp 5) 46 "ref.go:119" #[]).op, none⟩,
 ⟨(opMove (some 38) (.tmp 4) 46 "ref.go:119" #[]).op, none⟩,
 ⟨(opMove (some 39) (.tmp 6) 3 "ref.go:119" #[]).op, none⟩,
 ⟨(opIndexAddrT (some 40) 46 (.tmp 38) (.tmp 39) 5 1 Tryd.underlying46 sz5 0 "ref.go:119" #[{ on := 1, ground := Ground.data }, { on := 2, ground := Ground.data }]).op, none⟩,
 ⟨(opLoadT (.one (.int .u8)) (some 41) 5 (.tmp 40) (.int .u8) Tryd.underlying5 1 sz5 (by kernel_rfl) 5 "ref.go:119" #[{ on := 3, ground := Ground.data }]).op, none⟩,
 ⟨(opBuildSlice (some 42) 46 1 [(0, (.tmp 41))] 5 1 1 (.int .u8 0) el46 (by kernel_rfl) (by decide) 46 "ref.go:119" #[{ on := 4, ground := Ground.data }]).op, none⟩,
 ⟨(opAppend (some 43) (.tmp 37) (.tmp 42) 46 46 5 1 1 (.int .u8 0) el46 (.slice 5) Tryd.underlying46 rfl 46 "ref.go:119" #[{ on := 0, ground := Ground.data }, { on := 5, ground := Ground.data }]).op, none⟩,
 ⟨(opAssign (some 5) (.tmp 43) 46 "ref.go:119" #[{ on := 6, ground := Ground.data }, { on := 6, ground := Ground.chain }, { on := 0, ground := Ground.phase }, { on := 1, ground := Ground.phase }, { on := 2, ground := Ground.phase }, { on := 3, ground := Ground.phase }, { on := 4, ground := Ground.phase }, { on := 5, ground := Ground.phase }, { on := 6, ground := Ground.phase }]).op, none⟩
 ] (by kernel_rfl))))
 (.live [4, 5, 6] (.region 13 [
 ⟨(opMove (some 35) (.tmp 6) 3 "ref.go:118" #[]).op, none⟩,
 ⟨(opBin (some 36) .sub 3 (.tmp 35) (.const (Value.int IntKind.i64 1)) 3 3 "ref.go:118" #[{ on := 0, ground := Ground.data }]).op, none⟩,
 ⟨(opAssign (some 6) (.tmp 36) 3 "ref.go:118" #[{ on := 1, ground := Ground.data }, { on := 0, ground := Ground.phase }, { on := 1, ground := Ground.phase }]).op, none⟩
 ] (by kernel_rfl)))))

/-- What follows a loop. -/
noncomputable def f41_r0 : Sim Tryd.prog :=
 (.seq (.live [2] (.region 15 [
 ⟨(opMove (some 44) (.tmp 5) 46 "ref.go:121" #[]).op, none⟩,
 ⟨(opBytesStr (some 45) 46 9 (.tmp 44) 5 Tryd.underlying46 Tryd.underlying5 Tryd.underlying9 9 "ref.go:121" #[{ on := 0, ground := Ground.data }]).op, none⟩,
 ⟨(opAssign (some 2) (.tmp 45) 9 "ref.go:121" #[{ on := 1, ground := Ground.data }, { on := 0, ground := Ground.phase }, { on := 1, ground := Ground.phase }]).op, none⟩
 ] (by kernel_rfl)))
 (.live [2] .ret))

/-- What follows a loop. -/
noncomputable def f41_r1 : Sim Tryd.prog :=
 (.seq (.seq (.live [4, 25] (.region 8 [
 ⟨(opMove (some 24) (.tmp 0) 3 "ref.go:114" #[]).op, none⟩,
 ⟨(opBin (some 25) .lss 3 (.tmp 24) (.const (Value.int IntKind.i64 0)) 3 4 "ref.go:114" #[{ on := 0, ground := Ground.data }]).op, none⟩
 ] (by kernel_rfl)))
 (.cond (.tmp 25)
 (.live [4] (.region 9 [
 ⟨(opMove (some 26) (.tmp 4) 46 "ref.go:115" #[]).op, none⟩,
 ⟨(opBuildSlice (some 27) 46 1 [(0, (.const (Value.int IntKind.u8 45)))] 5 1 1 (.int .u8 0) el46 (by kernel_rfl) (by decide) 46 "ref.go:115" #[]).op, none⟩,
 ⟨(opAppend (some 28) (.tmp 26) (.tmp 27) 46 46 5 1 1 (.int .u8 0) el46 (.slice 5) Tryd.underlying46 rfl 46 "ref.go:115" #[{ on := 0, ground := Ground.data }, { on := 1, ground := Ground.data }]).op, none⟩,
 ⟨(opAssign (some 4) (.tmp 28) 46 "ref.go:115" #[{ on := 2, ground := Ground.data }, { on := 2, ground := Ground.chain }, { on := 0, ground := Ground.phase }, { on := 1, ground := Ground.phase }, { on := 2, ground := Ground.phase }]).op, none⟩
 ] (by kernel_rfl)))
 .skip))
 (.seq (.live [4, 5] (.region 10 [
 ⟨(opBuildSlice (some 29) 46 0 [] 5 1 1 (.int .u8 0) el46 (by kernel_rfl) (by decide) 46 "ref.go:117" #[]).op, none⟩,
 ⟨(opAssign (some 5) (.tmp 29) 46 "ref.go:117" #[{ on := 0, ground := Ground.data }, { on := 0, ground := Ground.phase }]).op, none⟩
 ] (by kernel_rfl)))
 (.seq (.seq (.live [4, 5, 6] (.region 11 [
 ⟨(opMove (some 30) (.tmp 4) 46 "ref.go:118" #[]).op, none⟩,
 ⟨(opLen (some 31) (.tmp 30) 46 (.slice 5) Tryd.underlying46 3 "ref.go:118" #[{ on := 0, ground := Ground.data }]).op, none⟩,
 ⟨(opBin (some 32) .sub 3 (.tmp 31) (.const (Value.int IntKind.i64 1)) 3 3 "ref.go:118" #[{ on := 1, ground := Ground.data }]).op, none⟩,
 ⟨(opAssign (some 6) (.tmp 32) 3 "ref.go:118" #[{ on := 2, ground := Ground.data }, { on := 0, ground := Ground.phase }, { on := 1, ground := Ground.phase }, { on := 2, ground := Ground.phase }]).op, none⟩
 ] (by kernel_rfl)))
 (.block 2 (.loop [4, 5, 6] f41_l1)))
 f41_r0)))

noncomputable def f41_b : Sim Tryd.prog :=
 (.seq (.live [0] (.region 0 [
 ⟨(opAssign (some 2) (.const (Value.string { data := #[] })) 9 "ref.go:101" #[]).op, none⟩
 ] (by kernel_rfl)))
 (.seq (.live [0, 3] (.region 1 [
 ⟨(opMove (some 7) (.tmp 0) 3 "ref.go:102" #[]).op, none⟩,
 ⟨(opAssign (some 3) (.tmp 7) 3 "ref.go:102" #[{ on := 0, ground := Ground.data }, { on := 0, ground := Ground.phase }]).op, none⟩
 ] (by kernel_rfl)))
 (.seq (.seq (.live [0, 3, 9] (.region 2 [
 ⟨(opMove (some 8) (.tmp 3) 3 "ref.go:103" #[]).op, none⟩,
 ⟨(opBin (some 9) .gtr 3 (.tmp 8) (.const (Value.int IntKind.i64 0)) 3 4 "ref.go:103" #[{ on := 0, ground := Ground.data }]).op, none⟩
 ] (by kernel_rfl)))
 (.cond (.tmp 9)
 (.live [0, 3] (.region 3 [
 ⟨(opMove (some 10) (.tmp 3) 3 "ref.go:104" #[]).op, none⟩,
 ⟨(opNeg (some 11) 3 (.tmp 10) 3 "ref.go:104" #[{ on := 0, ground := Ground.data }]).op, none⟩,
 ⟨(opAssign (some 3) (.tmp 11) 3 "ref.go:104" #[{ on := 1, ground := Ground.data }, { on := 0, ground := Ground.phase }, { on := 1, ground := Ground.phase }]).op, none⟩
 ] (by kernel_rfl)))
 .skip))
 (.seq (.live [0, 3, 4] (.region 4 [
 ⟨(opBuildSlice (some 12) 46 0 [] 5 1 1 (.int .u8 0) el46 (by kernel_rfl) (by decide) 46 "ref.go:106" #[]).op, none⟩,
 ⟨(opAssign (some 4) (.tmp 12) 46 "ref.go:106" #[{ on := 0, ground := Ground.data }, { on := 0, ground := Ground.phase }]).op, none⟩
 ] (by kernel_rfl)))
 (.seq (.block 0 (.loop [0, 3, 4] f41_l0))
 f41_r1)))))

noncomputable def f41 : Fun Tryd.prog where
 id := 41
 fn := Tryd.f41
 hf := Tryd.func41
 hname := by kernel_rfl
 body := f41_b
 hbody := by kernel_rfl
 res := [rTmp 2]
 hres := by kernel_rfl
 n := 46
 hn := by kernel_rfl

end Go.Proofs.YtcfedmheblbdnaaDoor.V

/- What the functions' runs come to; the right sides were printed by a tool, Lean checks them. -/
set_option linter.unusedVariables false
set_option maxRecDepth 100000
namespace Go.Proofs.YtcfedmheblbdnaaDoor.V
open Go Go.V Go.RowKit

theorem us_run (F : Nat) (i : Int) :
 (f41.run F [.int .i64 i] ⟨[], []⟩ : Ans) =
 branch (AV.bool (decide (i > (0 : Int))))
 (loopRun (f41_l0.run F) [0, 3, 4]
 (Cont.block 0 (Cont.then (f41_r1.run F (f41.leaveK Fun.done)) (f41.leaveK Fun.done))) F
 (Env.mk 46
 [(0, AV.int IntKind.i64 i), (3, AV.int IntKind.i64 (IntKind.i64.wrap ((0 : Int) - i))),
 (4, AV.sl 1 true [])])
 (St.mk [] []))
 (loopRun (f41_l0.run F) [0, 3, 4]
 (Cont.block 0 (Cont.then (f41_r1.run F (f41.leaveK Fun.done)) (f41.leaveK Fun.done))) F
 (Env.mk 46
 [(0, AV.int IntKind.i64 i), (3, AV.int IntKind.i64 i), (4, AV.sl 1 true [])])
 (St.mk [] [])) := by kernel_rfl

theorem us_a0 (F m : Nat) (K : Cont) (v n : Int) :
 (loopRun (f41_l0.run F) [0, 3, 4] K m.succ (Env.mk 46 [(0, .int .i64 v), (3, .int .i64 n), (4, .sl 1 true [])]) ⟨[], []⟩ : Ans) =
 branch (AV.bool (IntKind.i64.wrap (n.tdiv (10 : Int)) == (0 : Int)))
 (K (AX.exit 0)
 (Env.mk 46
 [(0, AV.int IntKind.i64 v),
 (4,
 AV.lg 0 1
 [[AV.int IntKind.u8 (IntKind.u8.wrap (IntKind.i64.wrap ((48 : Int) - n.tmod (10 : Int))))]])])
 (St.mk [] [(1, 1)]))
 (loopRun (f41_l0.run F) [0, 3, 4] K m
 (Env.mk 46
 [(0, AV.int IntKind.i64 v), (3, AV.int IntKind.i64 (IntKind.i64.wrap (n.tdiv (10 : Int)))),
 (4,
 AV.lg 0 1
 [[AV.int IntKind.u8 (IntKind.u8.wrap (IntKind.i64.wrap ((48 : Int) - n.tmod (10 : Int))))]])])
 (St.mk [] [(1, 1)])) := by kernel_rfl

theorem us_a1 (F m : Nat) (K : Cont) (v n : Int) (l : List (List AV)) :
 (loopRun (f41_l0.run F) [0, 3, 4] K m.succ (Env.mk 46 [(0, .int .i64 v), (3, .int .i64 n), (4, .lg 0 1 l)]) ⟨[], [(1, l.length)]⟩ : Ans) =
 if
 some (1, l.length) = some (1, l.length) ∧
 (l.length + 1) * 1 ≤ 140737488355328 then
 branch (AV.bool (IntKind.i64.wrap (n.tdiv (10 : Int)) == (0 : Int)))
 (K (AX.exit 0)
 (Env.mk 46
 [(0, AV.int IntKind.i64 v),
 (4,
 AV.lg 0 1
 (l ++ [[AV.int IntKind.u8 (IntKind.u8.wrap (IntKind.i64.wrap ((48 : Int) - n.tmod (10 : Int))))]]))])
 (St.mk [] [(1, l.length + 1)]))
 (loopRun (f41_l0.run F) [0, 3, 4] K m
 (Env.mk 46
 [(0, AV.int IntKind.i64 v), (3, AV.int IntKind.i64 (IntKind.i64.wrap (n.tdiv (10 : Int)))),
 (4,
 AV.lg 0 1
 (l ++ [[AV.int IntKind.u8 (IntKind.u8.wrap (IntKind.i64.wrap ((48 : Int) - n.tmod (10 : Int))))]]))])
 (St.mk [] [(1, l.length + 1)]))
 else none := by kernel_rfl

theorem us_mid (F : Nat) (v : Int) (l : List (List AV)) :
 ((Cont.block 0 (Cont.then (f41_r1.run F (f41.leaveK Fun.done)) (f41.leaveK Fun.done))) (.exit 0) (Env.mk 46 [(0, .int .i64 v), (4, .lg 0 1 l)]) ⟨[], [(1, l.length)]⟩ : Ans) =
 branch (AV.bool (decide (v < (0 : Int))))
 (if
 some (1, l.length) = some (1, l.length) ∧
 (l.length + 1) * 1 ≤ 140737488355328 then
 loopRun (f41_l1.run F) [4, 5, 6]
 (Cont.block 2 (Cont.then (f41_r0.run F (f41.leaveK Fun.done)) (f41.leaveK Fun.done))) F
 (Env.mk 46
 [(4, AV.lg 0 1 (l ++ [[AV.int IntKind.u8 (45 : Int)]])),
 (5, AV.sl 1 true []),
 (6,
 AV.int IntKind.i64
 (IntKind.i64.wrap ((↑(l ++ [[AV.int IntKind.u8 (45 : Int)]]).length : Int) - (1 : Int))))])
 (St.mk [] [(1, l.length + 1)])
 else none)
 (loopRun (f41_l1.run F) [4, 5, 6]
 (Cont.block 2 (Cont.then (f41_r0.run F (f41.leaveK Fun.done)) (f41.leaveK Fun.done))) F
 (Env.mk 46
 [(4, AV.lg 0 1 l), (5, AV.sl 1 true []),
 (6, AV.int IntKind.i64 (IntKind.i64.wrap ((↑l.length : Int) - (1 : Int))))])
 (St.mk [] [(1, l.length)])) := by kernel_rfl

theorem us_b0 (F m : Nat) (K : Cont) (i : Int) (l : List (List AV)) (n : Nat) :
 (loopRun (f41_l1.run F) [4, 5, 6] K m.succ (Env.mk 46 [(4, .lg 0 1 l), (5, .sl 1 true []), (6, .int .i64 i)]) ⟨[], [(1, n)]⟩ : Ans) =
 branch (AV.bool (decide (i ≥ (0 : Int))))
 (branch (AV.bool (inR l i))
 (branch (AV.bool ((LD.one (LT.int IntKind.u8)).is (V.rowAt l i)))
 (loopRun (f41_l1.run F) [4, 5, 6] K m
 (Env.mk 46
 [(4, AV.lg 0 1 l),
 (5, AV.lg 1 1 [[AV.int IntKind.u8 (hdI (V.rowAt l i))]]),
 (6, AV.int IntKind.i64 (IntKind.i64.wrap (i - (1 : Int))))])
 (St.mk [] [(1, n), (1, 1)]))
 none)
 none)
 (K (AX.exit 2) (Env.mk 46 [(5, AV.sl 1 true [])]) (St.mk [] [(1, n)])) := by kernel_rfl

theorem us_b1 (F m : Nat) (K : Cont) (i : Int) (l r : List (List AV)) (n : Nat) :
 (loopRun (f41_l1.run F) [4, 5, 6] K m.succ (Env.mk 46 [(4, .lg 0 1 l), (5, .lg 1 1 r), (6, .int .i64 i)]) ⟨[], [(1, n), (1, r.length)]⟩ : Ans) =
 branch (AV.bool (decide (i ≥ (0 : Int))))
 (branch (AV.bool (inR l i))
 (branch (AV.bool ((LD.one (LT.int IntKind.u8)).is (V.rowAt l i)))
 (if
 some (1, r.length) = some (1, r.length) ∧
 (r.length + 1) * 1 ≤ 140737488355328 then
 loopRun (f41_l1.run F) [4, 5, 6] K m
 (Env.mk 46
 [(4, AV.lg 0 1 l),
 (5, AV.lg 1 1 (r ++ [[AV.int IntKind.u8 (hdI (V.rowAt l i))]])),
 (6, AV.int IntKind.i64 (IntKind.i64.wrap (i - (1 : Int))))])
 (St.mk [] [(1, n), (1, r.length + 1)])
 else none)
 none)
 none)
 (K (AX.exit 2) (Env.mk 46 [(5, AV.lg 1 1 r)])
 (St.mk [] [(1, n), (1, r.length)])) := by kernel_rfl

theorem us_end (F : Nat) (r : List (List AV)) (st : St) :
 ((Cont.block 2 (Cont.then (f41_r0.run F (f41.leaveK Fun.done)) (f41.leaveK Fun.done))) (.exit 2) (Env.mk 46 [(5, .lg 1 1 r)]) st : Ans) =
 onSome (numsOf r) none fun (o : List Int) => some (Fin.ret (AV.str (textOf o)), st) := by kernel_rfl

end Go.Proofs.YtcfedmheblbdnaaDoor.V

/- Values: the references' Show of a number, as a callee. -/
set_option linter.unusedVariables false
namespace Go.Proofs.YtcfedmheblbdnaaDoor.V
open Go Go.V Go.RowKit

/-- The k lowest digits, the lowest first. -/
def lows (U k : Nat) : List Nat := (List.range k).map fun j => 48 + U / 10 ^ j % 10
theorem lows_succ (U k : Nat) : lows U (k + 1) = lows U k ++ [48 + U / 10 ^ k % 10] := by simp [lows, List.range_succ]
theorem lows_len (U k : Nat) : (lows U k).length = k := by simp [lows]
theorem lows_lt (U k : Nat) : ∀ b ∈ lows U k, b < 256 := by
  intro b hb
  obtain ⟨j, _, rfl⟩ := List.mem_map.mp hb
  omega
theorem lows_rev (U n : Nat) : (lows U n).reverse = digs U n := by
  apply List.ext_getElem?
  intro j
  by_cases hj : j < n
  · rw [List.getElem?_reverse (by rw [lows_len]; exact hj), lows_len, lows, digs, List.getElem?_map, List.getElem?_map, List.getElem?_range (by omega), List.getElem?_range hj]; rfl
  · rw [List.getElem?_eq_none (by simp [lows]; omega), List.getElem?_eq_none (by simp [digs]; omega)]
theorem dg_byte (U : Nat) : IntKind.u8.wrap (IntKind.i64.wrap (48 - (-(U : Int)).tmod 10)) = ((48 + U % 10 : Nat) : Int) := by
  have e : (-(U : Int)).tmod 10 = -((U % 10 : Nat) : Int) := by rw [Int.neg_tmod, show (10 : Int) = ((10 : Nat) : Int) from rfl, ← Int.ofNat_tmod]
  rw [e, wrapS (by omega) (by omega), show (48 : Int) - -((U % 10 : Nat) : Int) = ((48 + U % 10 : Nat) : Int) by omega]
  exact w8 (by omega)
theorem dg_next {U : Nat} (h : U ≤ 9223372036854775808) : IntKind.i64.wrap ((-(U : Int)).tdiv 10) = -((U / 10 : Nat) : Int) := by
  have e : (-(U : Int)).tdiv 10 = -((U / 10 : Nat) : Int) := by rw [Int.neg_tdiv, show (10 : Int) = ((10 : Nat) : Int) from rfl, ← Int.ofNat_tdiv]
  rw [e, wrapS (by omega) (by omega)]
theorem dg_zero (x : Nat) : (-((x : Nat) : Int) == 0) = (x == 0) := by
  rw [Bool.eq_iff_iff, beq_iff_eq, beq_iff_eq]; omega
theorem us_a (F : Nat) (K' : Cont) (v : Int) (U N : Nat) (hU : U ≤ 9223372036854775808) (hN : N ≤ 20) (h0 : U / 10 ^ N = 0) (h1 : ∀ j, j < N → U / 10 ^ j ≠ 0 ∨ j = 0) : ∀ (t k m : Nat), k + t = N → 1 ≤ k → k < N → t ≤ m →
    loopRun (f41_l0.run F) [0, 3, 4] K' m (Env.mk 46 [(0, .int .i64 v), (3, .int .i64 (-((U / 10 ^ k : Nat) : Int))), (4, .lg 0 1 (bR (lows U k)))]) ⟨[], [(1, (bR (lows U k)).length)]⟩
      = K' (.exit 0) (Env.mk 46 [(0, .int .i64 v), (4, .lg 0 1 (bR (lows U N)))]) ⟨[], [(1, (bR (lows U N)).length)]⟩
  | 0, k, m, h, _, hk, _ => by omega
  | t + 1, k, 0, h, _, hk, hm => by omega
  | t + 1, k, m + 1, h, hk1, hk, hm => by
    have hle : U / 10 ^ k ≤ 9223372036854775808 := Nat.le_trans (Nat.div_le_self _ _) hU
    have e : bR (lows U k) ++ [[AV.int IntKind.u8 ((48 + U / 10 ^ k % 10 : Nat) : Int)]] = bR (lows U (k + 1)) := by rw [lows_succ, bR_append]; rfl
    have el : (bR (lows U k)).length + 1 = (bR (lows U (k + 1))).length := by rw [bR_length, bR_length, lows_len, lows_len]
    rw [show m + 1 = m.succ from rfl, us_a1, dg_byte, dg_next hle, dg_zero, Nat.div_div_eq_div_mul, ← Nat.pow_succ, if_pos ⟨rfl, by rw [bR_length, lows_len]; omega⟩, e, el]
    by_cases hl : k + 1 = N
    · rw [show k.succ = N from hl, hl, branch_of (by rw [h0]; rfl)]
    · rw [branch_not (by rw [beq_eq_false_iff_ne]; exact (h1 (k + 1) (by omega)).resolve_right (by omega))]
      exact us_a F K' v U N hU hN h0 h1 t (k + 1) m (by omega) (by omega) (by omega) (by omega)
theorem us_first (F m : Nat) (K' : Cont) (v : Int) (U N : Nat) (hU : U ≤ 9223372036854775808) (hN1 : 1 ≤ N) (hN : N ≤ 20) (hm : 20 ≤ m) (h0 : U / 10 ^ N = 0) (h1 : ∀ j, j < N → U / 10 ^ j ≠ 0 ∨ j = 0) :
    loopRun (f41_l0.run F) [0, 3, 4] K' m.succ (Env.mk 46 [(0, .int .i64 v), (3, .int .i64 (-((U : Nat) : Int))), (4, .sl 1 true [])]) ⟨[], []⟩
      = K' (.exit 0) (Env.mk 46 [(0, .int .i64 v), (4, .lg 0 1 (bR (lows U N)))]) ⟨[], [(1, (bR (lows U N)).length)]⟩ := by
  have e : [[AV.int IntKind.u8 ((48 + U % 10 : Nat) : Int)]] = bR (lows U 1) := by rw [lows_succ]; show _ = bR [48 + U / 1 % 10]; rw [Nat.div_one]; rfl
  rw [us_a0, dg_byte, dg_next hU, dg_zero, e]
  by_cases hl : N = 1
  · subst hl; rw [branch_of (by rw [show U / 10 = 0 from h0]; rfl)]; rfl
  · rw [branch_not (by rw [beq_eq_false_iff_ne]; have := (h1 1 (by omega)).resolve_right (by omega); simpa using this)]
    have := us_a F K' v U N hU hN h0 h1 (N - 1) 1 m (by omega) (by omega) (by omega) (by omega)
    rw [Nat.pow_one] at this
    exact this
theorem take_rev {L : List Nat} {k : Nat} (h : k < L.length) : (L.take (k + 1)).reverse = L[k] :: (L.take k).reverse := by
  rw [List.take_succ_eq_append_getElem h, List.reverse_append]; rfl
noncomputable def usK (F : Nat) : Cont := Cont.block 2 (Cont.then (f41_r0.run F (f41.leaveK Fun.done)) (f41.leaveK Fun.done))
theorem us_b (F : Nat) (L : List Nat) (hL : ∀ b ∈ L, b < 256) (hl : L.length ≤ 100) (n : Nat) : ∀ (k m : Nat) (r : List Nat), k ≤ L.length → k < m → r.length + k ≤ 200 → (∀ b ∈ r, b < 256) →
    ∃ st', loopRun (f41_l1.run F) [4, 5, 6] (usK F) m (Env.mk 46 [(4, .lg 0 1 (bR L)), (5, .lg 1 1 (bR r)), (6, .int .i64 ((k : Int) - 1))]) ⟨[], [(1, n), (1, (bR r).length)]⟩ = some (.ret (.str (txt (r ++ (L.take k).reverse))), st')
  | k, 0, r, _, h, _, _ => by omega
  | 0, m + 1, r, _, _, _, hr => by
    rw [show m + 1 = m.succ from rfl, us_b1, branch_not (decide_eq_false (by omega)), usK, us_end, text_rows hr, List.take_zero, List.reverse_nil, List.append_nil]
    exact ⟨_, rfl⟩
  | k + 1, m + 1, r, hk, hm, hs, hr => by
    have hi : k < (bR L).length := by rw [bR_length]; omega
    have hrow : (bR L)[k] = [.int .u8 ((L[k] : Nat) : Int)] := by simp [bR]
    have e1 : ((k + 1 : Nat) : Int) - 1 = (k : Nat) := by omega
    have e2 : bR r ++ [[AV.int IntKind.u8 ((L[k] : Nat) : Int)]] = bR (r ++ [L[k]]) := by rw [bR_append]; rfl
    have e3 : (bR r).length + 1 = (bR (r ++ [L[k]])).length := by simp [bR_length]
    have e4 : IntKind.i64.wrap ((k : Int) - 1) = (k : Int) - 1 := wrapS (by omega) (by omega)
    rw [show m + 1 = m.succ from rfl, e1, us_b1, branch_of (decide_eq_true (by omega)), branch_of (inR_nat hi), rowAt_nat hi, hrow, branch_of (show (LD.one (LT.int IntKind.u8)).is [AV.int IntKind.u8 ((L[k] : Nat) : Int)] = true from rfl), if_pos ⟨rfl, by rw [bR_length]; omega⟩]
    simp only [hdI]
    rw [e2, e3, e4]
    obtain ⟨st', ih⟩ := us_b F L hL hl n k m (r ++ [L[k]]) (by omega) (by omega) (by simp; omega) (by
      intro b hb
      rcases List.mem_append.mp hb with hb | hb
      · exact hr b hb
      · simp at hb; subst hb; exact hL _ (List.getElem_mem _))
    refine ⟨st', ih.trans ?_⟩
    rw [take_rev (by omega), List.append_assoc]; rfl
theorem us_bb (F m : Nat) (L : List Nat) (hL : ∀ b ∈ L, b < 256) (hl : L.length ≤ 100) (h0 : L ≠ []) (n : Nat) (hm : 100 < m) :
    ∃ st', loopRun (f41_l1.run F) [4, 5, 6] (usK F) m.succ (Env.mk 46 [(4, .lg 0 1 (bR L)), (5, .sl 1 true []), (6, .int .i64 ((L.length : Int) - 1))]) ⟨[], [(1, n)]⟩ = some (.ret (.str (txt L.reverse)), st') := by
  obtain ⟨k, hk⟩ : ∃ k, L.length = k + 1 := ⟨L.length - 1, by have := List.length_pos_iff.mpr h0; omega⟩
  have hi : k < (bR L).length := by rw [bR_length]; omega
  have hrow : (bR L)[k] = [.int .u8 ((L[k]'(by omega) : Nat) : Int)] := by simp [bR]
  have e1 : (L.length : Int) - 1 = (k : Nat) := by omega
  have e4 : IntKind.i64.wrap ((k : Int) - 1) = (k : Int) - 1 := wrapS (by omega) (by omega)
  rw [e1, us_b0, branch_of (decide_eq_true (by omega)), branch_of (inR_nat hi), rowAt_nat hi, hrow, branch_of (show (LD.one (LT.int IntKind.u8)).is [AV.int IntKind.u8 ((L[k]'(by omega) : Nat) : Int)] = true from rfl), e4]
  obtain ⟨st', ih⟩ := us_b F L hL hl n k m [L[k]'(by omega)] (by omega) (by omega) (by simp; omega) (by intro b hb; simp at hb; subst hb; exact hL _ (List.getElem_mem _))
  refine ⟨st', ih.trans ?_⟩
  have : L.take (k + 1) = L := List.take_of_length_le (by omega)
  have h2 := take_rev (L := L) (k := k) (by omega)
  rw [this] at h2
  rw [h2]; rfl
theorem us_eq (i : Int) (h1 : -9223372036854775808 ≤ i) (h2 : i ≤ 9223372036854775807) : ∃ st', f41.run 201 [.int .i64 i] ⟨[], []⟩ = some (.ret (.str (showI i)), st') := by
  obtain ⟨U, hU, hUi⟩ : ∃ U : Nat, (i = U ∨ i = -(U : Int)) ∧ U = i.natAbs := ⟨i.natAbs, by omega, rfl⟩
  have hUm : U ≤ 9223372036854775808 := by omega
  have hUb : U < 18446744073709551616 := by omega
  obtain ⟨N, hN, hN1, hN2, h0, h3, hd⟩ : ∃ N, N ≤ 20 ∧ 1 ≤ N ∧ (10 ^ (N - 1) ≤ U ∨ N = 1) ∧ U / 10 ^ N = 0 ∧ (∀ j, j < N → U / 10 ^ j ≠ 0 ∨ j = 0) ∧ digs U N = dec U := by
    by_cases hz : U = 0
    · subst hz
      exact ⟨1, by omega, by omega, .inr rfl, rfl, fun j hj => .inr (by omega), rfl⟩
    · obtain ⟨k1, k2, k3, k4⟩ := ndN_spec hz hUb
      refine ⟨ndN U, k2, k1, .inl k3, Nat.div_eq_of_lt k4, fun j hj => .inl ?_, by rw [dec, if_neg hz]⟩
      have h5 : 10 ^ j ≤ U := Nat.le_trans (Nat.pow_le_pow_right (by omega) (by omega)) k3
      have := Nat.div_pos h5 (Nat.pow_pos (n := j) (show 0 < 10 by omega)); omega
  have hlen : (bR (lows U N)).length = N := by rw [bR_length, lows_len]
  rw [us_run]
  have go : ∀ K', loopRun (f41_l0.run 201) [0, 3, 4] K' 201 (Env.mk 46 [(0, .int .i64 i), (3, .int .i64 (-((U : Nat) : Int))), (4, .sl 1 true [])]) ⟨[], []⟩ = K' (.exit 0) (Env.mk 46 [(0, .int .i64 i), (4, .lg 0 1 (bR (lows U N)))]) ⟨[], [(1, (bR (lows U N)).length)]⟩ := fun K' =>
    us_first 201 200 K' i U N hUm hN1 hN (by omega) h0 h3
  have ends : ∀ A B : Ans, A = B → (∃ st', B = some (.ret (.str (showI i)), st')) → ∃ st', A = some (.ret (.str (showI i)), st') := fun A B h h' => by rw [h]; exact h'
  by_cases hneg : i < 0
  · have hi : i = -(U : Int) := by omega
    rw [branch_not (decide_eq_false (by omega))]
    conv => arg 1; ext st'; lhs; rw [show (3, AV.int IntKind.i64 i) = (3, AV.int IntKind.i64 (-((U : Nat) : Int))) by rw [← hi]]
    rw [go, us_mid, branch_of (decide_eq_true hneg), if_pos ⟨rfl, by rw [hlen]; omega⟩]
    have e5 : bR (lows U N) ++ [[AV.int IntKind.u8 (45 : Int)]] = bR (lows U N ++ [45]) := by rw [bR_append]; rfl
    rw [e5]
    have hL : (lows U N ++ [45]).length = N + 1 := by simp [lows_len]
    have e6 : IntKind.i64.wrap (((bR (lows U N ++ [45])).length : Int) - 1) = (((lows U N ++ [45]).length : Nat) : Int) - 1 := by rw [bR_length, wrapS (by omega) (by omega)]
    rw [e6]
    obtain ⟨st', h⟩ := us_bb 201 200 (lows U N ++ [45]) (by
      intro b hb
      rcases List.mem_append.mp hb with hb | hb
      · exact lows_lt _ _ b hb
      · simp at hb; omega) (by omega) (by simp) ((bR (lows U N)).length + 1) (by omega)
    refine ⟨st', h.trans ?_⟩
    rw [List.reverse_append, lows_rev, hd, showI, numL, if_pos hneg, show (-i).toNat = U by omega]; rfl
  · have hi : i = (U : Int) := by omega
    have goal : ∃ st', loopRun (f41_l0.run 201) [0, 3, 4] (Cont.block 0 (Cont.then (f41_r1.run 201 (f41.leaveK Fun.done)) (f41.leaveK Fun.done))) 201 (Env.mk 46 [(0, .int .i64 i), (3, .int .i64 (-((U : Nat) : Int))), (4, .sl 1 true [])]) ⟨[], []⟩ = some (.ret (.str (showI i)), st') := by
      rw [go, us_mid, branch_not (decide_eq_false hneg)]
      have e6 : IntKind.i64.wrap (((bR (lows U N)).length : Int) - 1) = (((lows U N).length : Nat) : Int) - 1 := by rw [bR_length, lows_len, wrapS (by omega) (by omega)]
      rw [e6]
      obtain ⟨st', h⟩ := us_bb 201 200 (lows U N) (lows_lt U N) (by rw [lows_len]; omega) (by intro e; have := congrArg List.length e; rw [lows_len] at this; simp at this; omega) ((bR (lows U N)).length) (by omega)
      refine ⟨st', h.trans ?_⟩
      rw [lows_rev, hd, showI, numL, if_neg hneg, show i.toNat = U by omega]
    by_cases hp : i > 0
    · have e7 : IntKind.i64.wrap (0 - i) = -((U : Nat) : Int) := by rw [wrapS (by omega) (by omega)]; omega
      rw [branch_of (decide_eq_true hp), e7]; exact goal
    · have e7 : i = -((U : Nat) : Int) := by omega
      rw [branch_not (decide_eq_false hp)]
      conv => arg 1; ext st'; lhs; rw [show (3, AV.int IntKind.i64 i) = (3, AV.int IntKind.i64 (-((U : Nat) : Int))) by rw [← e7]]
      exact goal
end Go.Proofs.YtcfedmheblbdnaaDoor.V

/- Values: the references' Show of a number. -/
set_option linter.unusedVariables false
namespace Go.Proofs.YtcfedmheblbdnaaDoor.V
open Go Go.V Go.RowKit

def dec1i : List AV → Option Int
  | [x] => match x with
    | .int k i => match k with
      | .i64 => some i
      | _ => none
    | _ => none
  | _ => none
theorem dec1i_enc : ∀ l a, dec1i l = some a → l = [.int .i64 a] := by
  intro l a h
  unfold dec1i at h
  split at h
  · split at h
    · split at h
      · cases h; rfl
      · cases h
    · cases h
  · cases h
noncomputable def p41 : POrc Tryd.prog := f41.flatIf dec1i (fun i => [.int .i64 i]) dec1i_enc okI (fun i => .str (showI i)) (fun _ => ⟨trivial, trivial⟩) (fun _ => trivial) fun i h => by
  obtain ⟨h1, h2⟩ := cdec_iff.mp h
  obtain ⟨st', h⟩ := us_eq i h1 h2
  exact ⟨201, st', h⟩
end Go.Proofs.YtcfedmheblbdnaaDoor.V

/- The functions' pieces, as told by gen.py. -/
set_option linter.unusedVariables false
set_option maxRecDepth 20000
namespace Go.Proofs.YtcfedmheblbdnaaDoor.V
open Go Go.V Go.RowKit


/-! ### 24: interlock/interlockref04.Show (24); results 2; slots: 0 v, 1 v, 3 out, 4 i, 5 c -/
/-- A loop's round; at its head live: 1 v, 3 out, 4 i -/
noncomputable def f24_l0 : Sim Tryd.prog :=
 (.seq (.seq (.live [1, 3, 4, 29] (.region 13 [
 ⟨(opMove (some 25) (.tmp 4) 3 "ref.go:178" #[]).op, none⟩,
 ⟨(opFieldAddr (some 26) 24 (.tmp 1) 2 2 1 false fl24_2 (by decide) 0 "ref.go:178" #[]).op, none⟩,
 ⟨(opLoadT (.one .str) (some 27) 9 (.tmp 26) .string Tryd.underlying9 1 sz9 (by kernel_rfl) 9 "ref.go:178" #[{ on := 1, ground := Ground.data }]).op, none⟩,
 ⟨(opLen (some 28) (.tmp 27) 9 .string Tryd.underlying9 3 "ref.go:178" #[{ on := 2, ground := Ground.data }]).op, none⟩,
 ⟨(opBin (some 29) .lss 3 (.tmp 25) (.tmp 28) 3 4 "ref.go:178" #[{ on := 0, ground := Ground.data }, { on := 3, ground := Ground.data }]).op, none⟩
 ] (by kernel_rfl)))
 (.cond (.tmp 29)
 .skip
 (.live [3] (.exit 0))))
 (.seq (.block 1 (.seq (.live [1, 3, 4, 5] (.region 15 [
 ⟨(opFieldAddr (some 32) 24 (.tmp 1) 2 2 1 false fl24_2 (by decide) 0 "ref.go:179" #[]).op, none⟩,
 ⟨(opLoadT (.one .str) (some 33) 9 (.tmp 32) .string Tryd.underlying9 1 sz9 (by kernel_rfl) 9 "ref.go:179" #[{ on := 0, ground := Ground.data }]).op, none⟩,
 ⟨(opMove (some 34) (.tmp 4) 3 "ref.go:179" #[]).op, none⟩,
 ⟨(opIndexStrW (some 35) 9 (.tmp 33) (.tmp 34) Tryd.underlying9 5 "ref.go:179" #[{ on := 1, ground := Ground.data }, { on := 2, ground := Ground.data }]).op, none⟩,
 ⟨(opAssign (some 5) (.tmp 35) 5 "ref.go:179" #[{ on := 3, ground := Ground.data }, { on := 0, ground := Ground.phase }, { on := 1, ground := Ground.phase }, { on := 2, ground := Ground.phase }, { on := 3, ground := Ground.phase }]).op, none⟩
 ] (by kernel_rfl)))
 (.seq (.live [1, 3, 4, 5, 49] (.region 16 [
 ⟨(opMove (some 36) (.tmp 5) 5 "ref.go:180" #[]).op, none⟩,
 ⟨(opBin (some 37) .lss 5 (.tmp 36) (.const (Value.int IntKind.u8 32)) 5 4 "ref.go:180" #[{ on := 0, ground := Ground.data }]).op, none⟩,
 ⟨(opMove (some 38) (.tmp 37) 4 "ref.go:180" #[{ on := 1, ground := Ground.data }]).op, none⟩,
 ⟨(opMove (some 39) (.tmp 5) 5 "ref.go:180" #[{ on := 2, ground := Ground.guard }]).op, (some (2, 38, false))⟩,
 ⟨(opBin (some 40) .gtr 5 (.tmp 39) (.const (Value.int IntKind.u8 126)) 5 4 "ref.go:180" #[{ on := 3, ground := Ground.data }, { on := 2, ground := Ground.guard }]).op, (some (2, 38, false))⟩,
 ⟨(opPick (some 41) (.tmp 38) (.const (Value.bool true)) (.tmp 40) 4 "ref.go:180" #[{ on := 2, ground := Ground.data }, { on := 4, ground := Ground.data }]).op, none⟩,
 ⟨(opMove (some 42) (.tmp 41) 4 "ref.go:180" #[{ on := 5, ground := Ground.data }, { on := 2, ground := Ground.chain }]).op, none⟩,
 ⟨(opMove (some 43) (.tmp 5) 5 "ref.go:180" #[{ on := 6, ground := Ground.guard }]).op, (some (6, 42, false))⟩,
 ⟨(opBin (some 44) .eql 5 (.tmp 43) (.const (Value.int IntKind.u8 34)) 5 4 "ref.go:180" #[{ on := 7, ground := Ground.data }, { on := 6, ground := Ground.guard }]).op, (some (6, 42, false))⟩,
 ⟨(opPick (some 45) (.tmp 42) (.const (Value.bool true)) (.tmp 44) 4 "ref.go:180" #[{ on := 6, ground := Ground.data }, { on := 8, ground := Ground.data }]).op, none⟩,
 ⟨(opMove (some 46) (.tmp 45) 4 "ref.go:180" #[{ on := 9, ground := Ground.data }, { on := 6, ground := Ground.chain }]).op, none⟩,
 ⟨(opMove (some 47) (.tmp 5) 5 "ref.go:180" #[{ on := 10, ground := Ground.guard }]).op, (some (10, 46, false))⟩,
 ⟨(opBin (some 48) .eql 5 (.tmp 47) (.const (Value.int IntKind.u8 92)) 5 4 "ref.go:180" #[{ on := 11, ground := Ground.data }, { on := 10, ground := Ground.guard }]).op, (some (10, 46, false))⟩,
 ⟨(opPick (some 49) (.tmp 46) (.const (Value.bool true)) (.tmp 48) 4 "ref.go:180" #[{ on := 10, ground := Ground.data }, { on := 12, ground := Ground.data }]).op, none⟩
 ] (by kernel_rfl)))
 (.cond (.tmp 49)
 (.live [1, 3, 4] (.draw 17 [
 ⟨.p (opMove (some 50) (.tmp 3) 46 "ref.go:181" #[]), none⟩,
 ⟨.p (opMove (some 51) (.tmp 5) 5 "ref.go:181" #[]), none⟩,
 ⟨.pn (PSim.hide (opBin (some 52) .quo 5 (.tmp 51) (.const (Value.int IntKind.u8 16)) 5 5 "ref.go:181" #[{ on := 1, ground := Ground.data }])) (PSim.hide_nat opBin_nat), none⟩,
 ⟨.pn (opIndexStrW (some 53) 9 (.const (Value.string { data := #[48, 49, 50, 51, 52, 53, 54, 55, 56, 57, 97, 98, 99, 100, 101, 102] })) (.tmp 52) Tryd.underlying9 5 "ref.go:181" #[{ on := 2, ground := Ground.data }]) opIndexStrW_nat, none⟩,
 ⟨.p (opMove (some 54) (.tmp 5) 5 "ref.go:181" #[]), none⟩,
 ⟨.pn (PSim.hide (opBin (some 55) .rem 5 (.tmp 54) (.const (Value.int IntKind.u8 16)) 5 5 "ref.go:181" #[{ on := 4, ground := Ground.data }])) (PSim.hide_nat opBin_nat), none⟩,
 ⟨.pn (opIndexStrW (some 56) 9 (.const (Value.string { data := #[48, 49, 50, 51, 52, 53, 54, 55, 56, 57, 97, 98, 99, 100, 101, 102] })) (.tmp 55) Tryd.underlying9 5 "ref.go:181" #[{ on := 5, ground := Ground.data }]) opIndexStrW_nat, none⟩,
 ⟨.p (opBuildSlice (some 57) 46 3 [(0, (.const (Value.int IntKind.u8 92))), (1, (.tmp 53)), (2, (.tmp 56))] 5 1 1 (.int .u8 0) el46 (by kernel_rfl) (by decide) 46 "ref.go:181" #[{ on := 3, ground := Ground.data }, { on := 6, ground := Ground.data }]), none⟩,
 ⟨.mn (opAppend (some 58) (.tmp 50) (.tmp 57) 46 46 5 1 1 (.int .u8 0) el46 (.slice 5) Tryd.underlying46 rfl 46 "ref.go:181" #[{ on := 0, ground := Ground.data }, { on := 7, ground := Ground.data }]) opAppend_nat, none⟩,
 ⟨.p (opAssign (some 3) (.tmp 58) 46 "ref.go:181" #[{ on := 8, ground := Ground.data }, { on := 8, ground := Ground.chain }, { on := 0, ground := Ground.phase }, { on := 1, ground := Ground.phase }, { on := 2, ground := Ground.phase }, { on := 3, ground := Ground.phase }, { on := 4, ground := Ground.phase }, { on := 5, ground := Ground.phase }, { on := 6, ground := Ground.phase }, { on := 7, ground := Ground.phase }, { on := 8, ground := Ground.phase }]), none⟩
 ] mixed (by kernel_rfl)))
 (.live [1, 3, 4] (.region 18 [
 ⟨(opMove (some 59) (.tmp 3) 46 "ref.go:183" #[]).op, none⟩,
 ⟨(opMove (some 60) (.tmp 5) 5 "ref.go:183" #[]).op, none⟩,
 ⟨(opBuildSlice (some 61) 46 1 [(0, (.tmp 60))] 5 1 1 (.int .u8 0) el46 (by kernel_rfl) (by decide) 46 "ref.go:183" #[{ on := 1, ground := Ground.data }]).op, none⟩,
 ⟨(opAppend (some 62) (.tmp 59) (.tmp 61) 46 46 5 1 1 (.int .u8 0) el46 (.slice 5) Tryd.underlying46 rfl 46 "ref.go:183" #[{ on := 0, ground := Ground.data }, { on := 2, ground := Ground.data }]).op, none⟩,
 ⟨(opAssign (some 3) (.tmp 62) 46 "ref.go:183" #[{ on := 3, ground := Ground.data }, { on := 3, ground := Ground.chain }, { on := 0, ground := Ground.phase }, { on := 1, ground := Ground.phase }, { on := 2, ground := Ground.phase }, { on := 3, ground := Ground.phase }]).op, none⟩
 ] (by kernel_rfl)))))))
 (.live [1, 3, 4] (.region 14 [
 ⟨(opMove (some 30) (.tmp 4) 3 "ref.go:178" #[]).op, none⟩,
 ⟨(opBin (some 31) .add 3 (.tmp 30) (.const (Value.int IntKind.i64 1)) 3 3 "ref.go:178" #[{ on := 0, ground := Ground.data }]).op, none⟩,
 ⟨(opAssign (some 4) (.tmp 31) 3 "ref.go:178" #[{ on := 1, ground := Ground.data }, { on := 0, ground := Ground.phase }, { on := 1, ground := Ground.phase }]).op, none⟩
 ] (by kernel_rfl)))))

/-- What follows a loop. -/
noncomputable def f24_r0 : Sim Tryd.prog :=
 (.seq (.live [2] (.region 19 [
 ⟨(opMove (some 63) (.tmp 3) 46 "ref.go:186" #[]).op, none⟩,
 ⟨(opBuildSlice (some 64) 46 1 [(0, (.const (Value.int IntKind.u8 34)))] 5 1 1 (.int .u8 0) el46 (by kernel_rfl) (by decide) 46 "ref.go:186" #[]).op, none⟩,
 ⟨(opAppend (some 65) (.tmp 63) (.tmp 64) 46 46 5 1 1 (.int .u8 0) el46 (.slice 5) Tryd.underlying46 rfl 46 "ref.go:186" #[{ on := 0, ground := Ground.data }, { on := 1, ground := Ground.data }]).op, none⟩,
 ⟨(opBytesStr (some 66) 46 9 (.tmp 65) 5 Tryd.underlying46 Tryd.underlying5 Tryd.underlying9 9 "ref.go:186" #[{ on := 2, ground := Ground.data }]).op, none⟩,
 ⟨(opAssign (some 2) (.tmp 66) 9 "ref.go:186" #[{ on := 3, ground := Ground.data }, { on := 2, ground := Ground.chain }, { on := 0, ground := Ground.phase }, { on := 1, ground := Ground.phase }, { on := 2, ground := Ground.phase }, { on := 3, ground := Ground.phase }]).op, none⟩
 ] (by kernel_rfl)))
 (.live [2] .ret))

noncomputable def f24_b : Sim Tryd.prog :=
 (.seq (.live [1] (.region 0 [
 ⟨(opBoxF (some 1) 24 (.tmp 0) 0 "ref.go:161" #[]).op, none⟩,
 ⟨(opAssign (some 2) (.const (Value.string { data := #[] })) 9 "ref.go:161" #[]).op, none⟩
 ] (by kernel_rfl)))
 (.seq (.seq (.live [1, 8] (.region 1 [
 ⟨(opLoadT (.agg [(.int .i64), (.int .i64), .str]) (some 6) 24 (.tmp 1) d24 ud24 3 sz24 (by kernel_rfl) 24 "ref.go:162" #[]).op, none⟩,
 ⟨(opCallP p20 (some 7) [(.tmp 6)] #[24] 4 "ref.go:162" #[{ on := 0, ground := Ground.data }]).op, none⟩,
 ⟨(opNot (some 8) 4 (.tmp 7) 4 "ref.go:162" #[{ on := 1, ground := Ground.data }]).op, none⟩
 ] (by kernel_rfl)))
 (.cond (.tmp 8)
 (.seq (.live [2] (.region 2 [
 ⟨(opAssign (some 2) (.const (Value.string { data := #[63] })) 9 "ref.go:163" #[]).op, none⟩
 ] (by kernel_rfl)))
 (.live [2] .ret))
 .skip))
 (.seq (.seq (.live [1, 11] (.region 3 [
 ⟨(opFieldAddr (some 9) 24 (.tmp 1) 0 0 1 false fl24_0 (by decide) 0 "ref.go:165" #[]).op, none⟩,
 ⟨(opLoadT (.one (.int .i64)) (some 10) 3 (.tmp 9) (.int .i64) Tryd.underlying3 1 sz3 (by kernel_rfl) 3 "ref.go:165" #[{ on := 0, ground := Ground.data }]).op, none⟩,
 ⟨(opBin (some 11) .eql 3 (.tmp 10) (.const (Value.int IntKind.i64 0)) 3 4 "ref.go:165" #[{ on := 1, ground := Ground.data }]).op, none⟩
 ] (by kernel_rfl)))
 (.cond (.tmp 11)
 (.seq (.live [2] (.region 4 [
 ⟨(opAssign (some 2) (.const (Value.string { data := #[110, 117, 108, 108] })) 9 "ref.go:166" #[]).op, none⟩
 ] (by kernel_rfl)))
 (.live [2] .ret))
 .skip))
 (.seq (.seq (.live [1, 14] (.region 5 [
 ⟨(opFieldAddr (some 12) 24 (.tmp 1) 0 0 1 false fl24_0 (by decide) 0 "ref.go:168" #[]).op, none⟩,
 ⟨(opLoadT (.one (.int .i64)) (some 13) 3 (.tmp 12) (.int .i64) Tryd.underlying3 1 sz3 (by kernel_rfl) 3 "ref.go:168" #[{ on := 0, ground := Ground.data }]).op, none⟩,
 ⟨(opBin (some 14) .eql 3 (.tmp 13) (.const (Value.int IntKind.i64 1)) 3 4 "ref.go:168" #[{ on := 1, ground := Ground.data }]).op, none⟩
 ] (by kernel_rfl)))
 (.cond (.tmp 14)
 (.seq (.live [2] (.region 6 [
 ⟨(opFieldAddr (some 15) 24 (.tmp 1) 1 1 1 false fl24_1 (by decide) 0 "ref.go:169" #[]).op, none⟩,
 ⟨(opLoadT (.one (.int .i64)) (some 16) 3 (.tmp 15) (.int .i64) Tryd.underlying3 1 sz3 (by kernel_rfl) 3 "ref.go:169" #[{ on := 0, ground := Ground.data }]).op, none⟩,
 ⟨(opCallP p41 (some 17) [(.tmp 16)] #[3] 9 "ref.go:169" #[{ on := 1, ground := Ground.data }]).op, none⟩,
 ⟨(opAssign (some 2) (.tmp 17) 9 "ref.go:169" #[{ on := 2, ground := Ground.data }, { on := 2, ground := Ground.chain }, { on := 0, ground := Ground.phase }, { on := 1, ground := Ground.phase }, { on := 2, ground := Ground.phase }]).op, none⟩
 ] (by kernel_rfl)))
 (.live [2] .ret))
 .skip))
 (.seq (.seq (.live [1, 20] (.region 7 [
 ⟨(opFieldAddr (some 18) 24 (.tmp 1) 0 0 1 false fl24_0 (by decide) 0 "ref.go:171" #[]).op, none⟩,
 ⟨(opLoadT (.one (.int .i64)) (some 19) 3 (.tmp 18) (.int .i64) Tryd.underlying3 1 sz3 (by kernel_rfl) 3 "ref.go:171" #[{ on := 0, ground := Ground.data }]).op, none⟩,
 ⟨(opBin (some 20) .eql 3 (.tmp 19) (.const (Value.int IntKind.i64 2)) 3 4 "ref.go:171" #[{ on := 1, ground := Ground.data }]).op, none⟩
 ] (by kernel_rfl)))
 (.cond (.tmp 20)
 (.seq (.seq (.live [23] (.region 8 [
 ⟨(opFieldAddr (some 21) 24 (.tmp 1) 1 1 1 false fl24_1 (by decide) 0 "ref.go:172" #[]).op, none⟩,
 ⟨(opLoadT (.one (.int .i64)) (some 22) 3 (.tmp 21) (.int .i64) Tryd.underlying3 1 sz3 (by kernel_rfl) 3 "ref.go:172" #[{ on := 0, ground := Ground.data }]).op, none⟩,
 ⟨(opBin (some 23) .eql 3 (.tmp 22) (.const (Value.int IntKind.i64 1)) 3 4 "ref.go:172" #[{ on := 1, ground := Ground.data }]).op, none⟩
 ] (by kernel_rfl)))
 (.cond (.tmp 23)
 (.seq (.live [2] (.region 9 [
 ⟨(opAssign (some 2) (.const (Value.string { data := #[116, 114, 117, 101] })) 9 "ref.go:173" #[]).op, none⟩
 ] (by kernel_rfl)))
 (.live [2] .ret))
 .skip))
 (.seq (.live [2] (.region 10 [
 ⟨(opAssign (some 2) (.const (Value.string { data := #[102, 97, 108, 115, 101] })) 9 "ref.go:175" #[]).op, none⟩
 ] (by kernel_rfl)))
 (.live [2] .ret)))
 .skip))
 (.seq (.live [1, 3] (.region 11 [
 ⟨(opBuildSlice (some 24) 46 1 [(0, (.const (Value.int IntKind.u8 34)))] 5 1 1 (.int .u8 0) el46 (by kernel_rfl) (by decide) 46 "ref.go:177" #[]).op, none⟩,
 ⟨(opAssign (some 3) (.tmp 24) 46 "ref.go:177" #[{ on := 0, ground := Ground.data }, { on := 0, ground := Ground.phase }]).op, none⟩
 ] (by kernel_rfl)))
 (.seq (.seq (.live [1, 3, 4] (.region 12 [
 ⟨(opAssign (some 4) (.const (Value.int IntKind.i64 0)) 3 "ref.go:178" #[]).op, none⟩
 ] (by kernel_rfl)))
 (.block 0 (.loop [1, 3, 4] f24_l0)))
 f24_r0)))))))

noncomputable def f24 : Fun Tryd.prog where
 id := 24
 fn := Tryd.f24
 hf := Tryd.func24
 hname := by kernel_rfl
 body := f24_b
 hbody := by kernel_rfl
 res := [rTmp 2]
 hres := by kernel_rfl
 n := 67
 hn := by kernel_rfl

end Go.Proofs.YtcfedmheblbdnaaDoor.V

/- What the functions' runs come to; the right sides were printed by a tool, Lean checks them. -/
set_option linter.unusedVariables false
set_option maxRecDepth 100000
namespace Go.Proofs.YtcfedmheblbdnaaDoor.V
open Go Go.V Go.RowKit

theorem rs_run (F : Nat) (v : Va) :
 (f24.run F [v.av] ⟨[], []⟩ : Ans) =
 branch (AV.bool !rightV (Va.mk (hdI v.cells) (hdI v.cells.tail) (hdS v.cells.tail.tail)))
 (some (Fin.ret (AV.str (ByteArray.mk #[(63 : UInt8)])), St.mk [] []))
 (branch (AV.bool (v.k == (0 : Int)))
 (some (Fin.ret (AV.str (ByteArray.mk #[(110 : UInt8), (117 : UInt8), (108 : UInt8), (108 : UInt8)])), St.mk [] []))
 (branch (AV.bool (v.k == (1 : Int)))
 (branch (AV.bool (okI v.n)) (some (Fin.ret (AV.str (showI v.n)), St.mk [] [])) none)
 (branch (AV.bool (v.k == (2 : Int)))
 (branch (AV.bool (v.n == (1 : Int)))
 (some
 (Fin.ret (AV.str (ByteArray.mk #[(116 : UInt8), (114 : UInt8), (117 : UInt8), (101 : UInt8)])),
 St.mk [] []))
 (some
 (Fin.ret
 (AV.str (ByteArray.mk #[(102 : UInt8), (97 : UInt8), (108 : UInt8), (115 : UInt8), (101 : UInt8)])),
 St.mk [] [])))
 (loopRun (f24_l0.run F) [1, 3, 4]
 (Cont.block 0 (Cont.then (f24_r0.run F (f24.leaveK Fun.done)) (f24.leaveK Fun.done))) F
 (Env.mk 67
 [(1, AV.eptr [AV.int IntKind.i64 v.k, AV.int IntKind.i64 v.n, AV.str v.s]),
 (3, AV.sl 1 true [[AV.int IntKind.u8 (34 : Int)]]),
 (4, AV.int IntKind.i64 (0 : Int))])
 (St.mk [] []))))) := by kernel_rfl

theorem rs_a0 (F m : Nat) (K : Cont) (k n i : Int) (s : ByteArray) :
 (loopRun (f24_l0.run F) [1, 3, 4] K m.succ (Env.mk 67 [(1, .eptr [.int .i64 k, .int .i64 n, .str s]), (3, .sl 1 true [[.int .u8 (34 : Int)]]), (4, .int .i64 i)]) ⟨[], []⟩ : Ans) =
 branch (AV.bool (decide (i < (↑s.size : Int))))
 (branch (AV.bool (inT s i))
 (branch (AV.bool (decide (atT s i < (32 : Int))))
 (branch
 (AV.bool
 (inT
 (ByteArray.mk
 #[(48 : UInt8), (49 : UInt8), (50 : UInt8), (51 : UInt8), (52 : UInt8), (53 : UInt8), (54 : UInt8),
 (55 : UInt8), (56 : UInt8), (57 : UInt8), (97 : UInt8), (98 : UInt8), (99 : UInt8), (100 : UInt8),
 (101 : UInt8), (102 : UInt8)])
 (opq (IntKind.u8.wrap ((atT s i).tdiv (16 : Int))))))
 (branch
 (AV.bool
 (inT
 (ByteArray.mk
 #[(48 : UInt8), (49 : UInt8), (50 : UInt8), (51 : UInt8), (52 : UInt8), (53 : UInt8), (54 : UInt8),
 (55 : UInt8), (56 : UInt8), (57 : UInt8), (97 : UInt8), (98 : UInt8), (99 : UInt8), (100 : UInt8),
 (101 : UInt8), (102 : UInt8)])
 (opq ((atT s i).tmod (16 : Int)))))
 (loopRun (f24_l0.run F) [1, 3, 4] K m
 (Env.mk 67
 [(1, AV.eptr [AV.int IntKind.i64 k, AV.int IntKind.i64 n, AV.str s]),
 (3,
 AV.lg 0 1
 [[AV.int IntKind.u8 (34 : Int)], [AV.int IntKind.u8 (92 : Int)],
 [AV.int IntKind.u8
 (atT
 (ByteArray.mk
 #[(48 : UInt8), (49 : UInt8), (50 : UInt8), (51 : UInt8), (52 : UInt8), (53 : UInt8),
 (54 : UInt8), (55 : UInt8), (56 : UInt8), (57 : UInt8), (97 : UInt8), (98 : UInt8),
 (99 : UInt8), (100 : UInt8), (101 : UInt8), (102 : UInt8)])
 (opq (IntKind.u8.wrap ((atT s i).tdiv (16 : Int)))))],
 [AV.int IntKind.u8
 (atT
 (ByteArray.mk
 #[(48 : UInt8), (49 : UInt8), (50 : UInt8), (51 : UInt8), (52 : UInt8), (53 : UInt8),
 (54 : UInt8), (55 : UInt8), (56 : UInt8), (57 : UInt8), (97 : UInt8), (98 : UInt8),
 (99 : UInt8), (100 : UInt8), (101 : UInt8), (102 : UInt8)])
 (opq ((atT s i).tmod (16 : Int))))]]),
 (4, AV.int IntKind.i64 (IntKind.i64.wrap (i + (1 : Int))))])
 (St.mk [] [(1, 4)]))
 none)
 none)
 (branch (AV.bool (decide (atT s i > (126 : Int))))
 (branch
 (AV.bool
 (inT
 (ByteArray.mk
 #[(48 : UInt8), (49 : UInt8), (50 : UInt8), (51 : UInt8), (52 : UInt8), (53 : UInt8), (54 : UInt8),
 (55 : UInt8), (56 : UInt8), (57 : UInt8), (97 : UInt8), (98 : UInt8), (99 : UInt8), (100 : UInt8),
 (101 : UInt8), (102 : UInt8)])
 (opq (IntKind.u8.wrap ((atT s i).tdiv (16 : Int))))))
 (branch
 (AV.bool
 (inT
 (ByteArray.mk
 #[(48 : UInt8), (49 : UInt8), (50 : UInt8), (51 : UInt8), (52 : UInt8), (53 : UInt8), (54 : UInt8),
 (55 : UInt8), (56 : UInt8), (57 : UInt8), (97 : UInt8), (98 : UInt8), (99 : UInt8), (100 : UInt8),
 (101 : UInt8), (102 : UInt8)])
 (opq ((atT s i).tmod (16 : Int)))))
 (loopRun (f24_l0.run F) [1, 3, 4] K m
 (Env.mk 67
 [(1, AV.eptr [AV.int IntKind.i64 k, AV.int IntKind.i64 n, AV.str s]),
 (3,
 AV.lg 0 1
 [[AV.int IntKind.u8 (34 : Int)], [AV.int IntKind.u8 (92 : Int)],
 [AV.int IntKind.u8
 (atT
 (ByteArray.mk
 #[(48 : UInt8), (49 : UInt8), (50 : UInt8), (51 : UInt8), (52 : UInt8), (53 : UInt8),
 (54 : UInt8), (55 : UInt8), (56 : UInt8), (57 : UInt8), (97 : UInt8), (98 : UInt8),
 (99 : UInt8), (100 : UInt8), (101 : UInt8), (102 : UInt8)])
 (opq (IntKind.u8.wrap ((atT s i).tdiv (16 : Int)))))],
 [AV.int IntKind.u8
 (atT
 (ByteArray.mk
 #[(48 : UInt8), (49 : UInt8), (50 : UInt8), (51 : UInt8), (52 : UInt8), (53 : UInt8),
 (54 : UInt8), (55 : UInt8), (56 : UInt8), (57 : UInt8), (97 : UInt8), (98 : UInt8),
 (99 : UInt8), (100 : UInt8), (101 : UInt8), (102 : UInt8)])
 (opq ((atT s i).tmod (16 : Int))))]]),
 (4, AV.int IntKind.i64 (IntKind.i64.wrap (i + (1 : Int))))])
 (St.mk [] [(1, 4)]))
 none)
 none)
 (branch (AV.bool (atT s i == (34 : Int)))
 (branch
 (AV.bool
 (inT
 (ByteArray.mk
 #[(48 : UInt8), (49 : UInt8), (50 : UInt8), (51 : UInt8), (52 : UInt8), (53 : UInt8), (54 : UInt8),
 (55 : UInt8), (56 : UInt8), (57 : UInt8), (97 : UInt8), (98 : UInt8), (99 : UInt8), (100 : UInt8),
 (101 : UInt8), (102 : UInt8)])
 (opq (IntKind.u8.wrap ((atT s i).tdiv (16 : Int))))))
 (branch
 (AV.bool
 (inT
 (ByteArray.mk
 #[(48 : UInt8), (49 : UInt8), (50 : UInt8), (51 : UInt8), (52 : UInt8), (53 : UInt8), (54 : UInt8),
 (55 : UInt8), (56 : UInt8), (57 : UInt8), (97 : UInt8), (98 : UInt8), (99 : UInt8), (100 : UInt8),
 (101 : UInt8), (102 : UInt8)])
 (opq ((atT s i).tmod (16 : Int)))))
 (loopRun (f24_l0.run F) [1, 3, 4] K m
 (Env.mk 67
 [(1, AV.eptr [AV.int IntKind.i64 k, AV.int IntKind.i64 n, AV.str s]),
 (3,
 AV.lg 0 1
 [[AV.int IntKind.u8 (34 : Int)], [AV.int IntKind.u8 (92 : Int)],
 [AV.int IntKind.u8
 (atT
 (ByteArray.mk
 #[(48 : UInt8), (49 : UInt8), (50 : UInt8), (51 : UInt8), (52 : UInt8), (53 : UInt8),
 (54 : UInt8), (55 : UInt8), (56 : UInt8), (57 : UInt8), (97 : UInt8), (98 : UInt8),
 (99 : UInt8), (100 : UInt8), (101 : UInt8), (102 : UInt8)])
 (opq (IntKind.u8.wrap ((atT s i).tdiv (16 : Int)))))],
 [AV.int IntKind.u8
 (atT
 (ByteArray.mk
 #[(48 : UInt8), (49 : UInt8), (50 : UInt8), (51 : UInt8), (52 : UInt8), (53 : UInt8),
 (54 : UInt8), (55 : UInt8), (56 : UInt8), (57 : UInt8), (97 : UInt8), (98 : UInt8),
 (99 : UInt8), (100 : UInt8), (101 : UInt8), (102 : UInt8)])
 (opq ((atT s i).tmod (16 : Int))))]]),
 (4, AV.int IntKind.i64 (IntKind.i64.wrap (i + (1 : Int))))])
 (St.mk [] [(1, 4)]))
 none)
 none)
 (branch (AV.bool (atT s i == (92 : Int)))
 (branch
 (AV.bool
 (inT
 (ByteArray.mk
 #[(48 : UInt8), (49 : UInt8), (50 : UInt8), (51 : UInt8), (52 : UInt8), (53 : UInt8), (54 : UInt8),
 (55 : UInt8), (56 : UInt8), (57 : UInt8), (97 : UInt8), (98 : UInt8), (99 : UInt8), (100 : UInt8),
 (101 : UInt8), (102 : UInt8)])
 (opq (IntKind.u8.wrap ((atT s i).tdiv (16 : Int))))))
 (branch
 (AV.bool
 (inT
 (ByteArray.mk
 #[(48 : UInt8), (49 : UInt8), (50 : UInt8), (51 : UInt8), (52 : UInt8), (53 : UInt8),
 (54 : UInt8), (55 : UInt8), (56 : UInt8), (57 : UInt8), (97 : UInt8), (98 : UInt8),
 (99 : UInt8), (100 : UInt8), (101 : UInt8), (102 : UInt8)])
 (opq ((atT s i).tmod (16 : Int)))))
 (loopRun (f24_l0.run F) [1, 3, 4] K m
 (Env.mk 67
 [(1, AV.eptr [AV.int IntKind.i64 k, AV.int IntKind.i64 n, AV.str s]),
 (3,
 AV.lg 0 1
 [[AV.int IntKind.u8 (34 : Int)], [AV.int IntKind.u8 (92 : Int)],
 [AV.int IntKind.u8
 (atT
 (ByteArray.mk
 #[(48 : UInt8), (49 : UInt8), (50 : UInt8), (51 : UInt8), (52 : UInt8),
 (53 : UInt8), (54 : UInt8), (55 : UInt8), (56 : UInt8), (57 : UInt8),
 (97 : UInt8), (98 : UInt8), (99 : UInt8), (100 : UInt8), (101 : UInt8),
 (102 : UInt8)])
 (opq (IntKind.u8.wrap ((atT s i).tdiv (16 : Int)))))],
 [AV.int IntKind.u8
 (atT
 (ByteArray.mk
 #[(48 : UInt8), (49 : UInt8), (50 : UInt8), (51 : UInt8), (52 : UInt8),
 (53 : UInt8), (54 : UInt8), (55 : UInt8), (56 : UInt8), (57 : UInt8),
 (97 : UInt8), (98 : UInt8), (99 : UInt8), (100 : UInt8), (101 : UInt8),
 (102 : UInt8)])
 (opq ((atT s i).tmod (16 : Int))))]]),
 (4, AV.int IntKind.i64 (IntKind.i64.wrap (i + (1 : Int))))])
 (St.mk [] [(1, 4)]))
 none)
 none)
 (loopRun (f24_l0.run F) [1, 3, 4] K m
 (Env.mk 67
 [(1, AV.eptr [AV.int IntKind.i64 k, AV.int IntKind.i64 n, AV.str s]),
 (3,
 AV.lg 0 1 [[AV.int IntKind.u8 (34 : Int)], [AV.int IntKind.u8 (atT s i)]]),
 (4, AV.int IntKind.i64 (IntKind.i64.wrap (i + (1 : Int))))])
 (St.mk [] [(1, 2)]))))))
 none)
 (K (AX.exit 0) (Env.mk 67 [(3, AV.sl 1 true [[AV.int IntKind.u8 (34 : Int)]])])
 (St.mk [] [])) := by kernel_rfl

theorem rs_a1 (F m : Nat) (K : Cont) (k n i : Int) (s : ByteArray) (lo : List (List AV)) :
 (loopRun (f24_l0.run F) [1, 3, 4] K m.succ (Env.mk 67 [(1, .eptr [.int .i64 k, .int .i64 n, .str s]), (3, .lg 0 1 lo), (4, .int .i64 i)]) ⟨[], [(1, lo.length)]⟩ : Ans) =
 branch (AV.bool (decide (i < (↑s.size : Int))))
 (branch (AV.bool (inT s i))
 (branch (AV.bool (decide (atT s i < (32 : Int))))
 (branch
 (AV.bool
 (inT
 (ByteArray.mk
 #[(48 : UInt8), (49 : UInt8), (50 : UInt8), (51 : UInt8), (52 : UInt8), (53 : UInt8), (54 : UInt8),
 (55 : UInt8), (56 : UInt8), (57 : UInt8), (97 : UInt8), (98 : UInt8), (99 : UInt8), (100 : UInt8),
 (101 : UInt8), (102 : UInt8)])
 (opq (IntKind.u8.wrap ((atT s i).tdiv (16 : Int))))))
 (branch
 (AV.bool
 (inT
 (ByteArray.mk
 #[(48 : UInt8), (49 : UInt8), (50 : UInt8), (51 : UInt8), (52 : UInt8), (53 : UInt8), (54 : UInt8),
 (55 : UInt8), (56 : UInt8), (57 : UInt8), (97 : UInt8), (98 : UInt8), (99 : UInt8), (100 : UInt8),
 (101 : UInt8), (102 : UInt8)])
 (opq ((atT s i).tmod (16 : Int)))))
 (if
 some (1, lo.length) = some (1, lo.length) ∧
 (lo.length + 3) * 1 ≤ 140737488355328 then
 loopRun (f24_l0.run F) [1, 3, 4] K m
 (Env.mk 67
 [(1, AV.eptr [AV.int IntKind.i64 k, AV.int IntKind.i64 n, AV.str s]),
 (3,
 AV.lg 0 1
 (lo ++
 [[AV.int IntKind.u8 (92 : Int)],
 [AV.int IntKind.u8
 (atT
 (ByteArray.mk
 #[(48 : UInt8), (49 : UInt8), (50 : UInt8), (51 : UInt8), (52 : UInt8), (53 : UInt8),
 (54 : UInt8), (55 : UInt8), (56 : UInt8), (57 : UInt8), (97 : UInt8), (98 : UInt8),
 (99 : UInt8), (100 : UInt8), (101 : UInt8), (102 : UInt8)])
 (opq (IntKind.u8.wrap ((atT s i).tdiv (16 : Int)))))],
 [AV.int IntKind.u8
 (atT
 (ByteArray.mk
 #[(48 : UInt8), (49 : UInt8), (50 : UInt8), (51 : UInt8), (52 : UInt8), (53 : UInt8),
 (54 : UInt8), (55 : UInt8), (56 : UInt8), (57 : UInt8), (97 : UInt8), (98 : UInt8),
 (99 : UInt8), (100 : UInt8), (101 : UInt8), (102 : UInt8)])
 (opq ((atT s i).tmod (16 : Int))))]])),
 (4, AV.int IntKind.i64 (IntKind.i64.wrap (i + (1 : Int))))])
 (St.mk [] [(1, lo.length + 3)])
 else none)
 none)
 none)
 (branch (AV.bool (decide (atT s i > (126 : Int))))
 (branch
 (AV.bool
 (inT
 (ByteArray.mk
 #[(48 : UInt8), (49 : UInt8), (50 : UInt8), (51 : UInt8), (52 : UInt8), (53 : UInt8), (54 : UInt8),
 (55 : UInt8), (56 : UInt8), (57 : UInt8), (97 : UInt8), (98 : UInt8), (99 : UInt8), (100 : UInt8),
 (101 : UInt8), (102 : UInt8)])
 (opq (IntKind.u8.wrap ((atT s i).tdiv (16 : Int))))))
 (branch
 (AV.bool
 (inT
 (ByteArray.mk
 #[(48 : UInt8), (49 : UInt8), (50 : UInt8), (51 : UInt8), (52 : UInt8), (53 : UInt8), (54 : UInt8),
 (55 : UInt8), (56 : UInt8), (57 : UInt8), (97 : UInt8), (98 : UInt8), (99 : UInt8), (100 : UInt8),
 (101 : UInt8), (102 : UInt8)])
 (opq ((atT s i).tmod (16 : Int)))))
 (if
 some (1, lo.length) = some (1, lo.length) ∧
 (lo.length + 3) * 1 ≤ 140737488355328 then
 loopRun (f24_l0.run F) [1, 3, 4] K m
 (Env.mk 67
 [(1, AV.eptr [AV.int IntKind.i64 k, AV.int IntKind.i64 n, AV.str s]),
 (3,
 AV.lg 0 1
 (lo ++
 [[AV.int IntKind.u8 (92 : Int)],
 [AV.int IntKind.u8
 (atT
 (ByteArray.mk
 #[(48 : UInt8), (49 : UInt8), (50 : UInt8), (51 : UInt8), (52 : UInt8),
 (53 : UInt8), (54 : UInt8), (55 : UInt8), (56 : UInt8), (57 : UInt8),
 (97 : UInt8), (98 : UInt8), (99 : UInt8), (100 : UInt8), (101 : UInt8),
 (102 : UInt8)])
 (opq (IntKind.u8.wrap ((atT s i).tdiv (16 : Int)))))],
 [AV.int IntKind.u8
 (atT
 (ByteArray.mk
 #[(48 : UInt8), (49 : UInt8), (50 : UInt8), (51 : UInt8), (52 : UInt8),
 (53 : UInt8), (54 : UInt8), (55 : UInt8), (56 : UInt8), (57 : UInt8),
 (97 : UInt8), (98 : UInt8), (99 : UInt8), (100 : UInt8), (101 : UInt8),
 (102 : UInt8)])
 (opq ((atT s i).tmod (16 : Int))))]])),
 (4, AV.int IntKind.i64 (IntKind.i64.wrap (i + (1 : Int))))])
 (St.mk [] [(1, lo.length + 3)])
 else none)
 none)
 none)
 (branch (AV.bool (atT s i == (34 : Int)))
 (branch
 (AV.bool
 (inT
 (ByteArray.mk
 #[(48 : UInt8), (49 : UInt8), (50 : UInt8), (51 : UInt8), (52 : UInt8), (53 : UInt8), (54 : UInt8),
 (55 : UInt8), (56 : UInt8), (57 : UInt8), (97 : UInt8), (98 : UInt8), (99 : UInt8), (100 : UInt8),
 (101 : UInt8), (102 : UInt8)])
 (opq (IntKind.u8.wrap ((atT s i).tdiv (16 : Int))))))
 (branch
 (AV.bool
 (inT
 (ByteArray.mk
 #[(48 : UInt8), (49 : UInt8), (50 : UInt8), (51 : UInt8), (52 : UInt8), (53 : UInt8), (54 : UInt8),
 (55 : UInt8), (56 : UInt8), (57 : UInt8), (97 : UInt8), (98 : UInt8), (99 : UInt8), (100 : UInt8),
 (101 : UInt8), (102 : UInt8)])
 (opq ((atT s i).tmod (16 : Int)))))
 (if
 some (1, lo.length) = some (1, lo.length) ∧
 (lo.length + 3) * 1 ≤ 140737488355328 then
 loopRun (f24_l0.run F) [1, 3, 4] K m
 (Env.mk 67
 [(1, AV.eptr [AV.int IntKind.i64 k, AV.int IntKind.i64 n, AV.str s]),
 (3,
 AV.lg 0 1
 (lo ++
 [[AV.int IntKind.u8 (92 : Int)],
 [AV.int IntKind.u8
 (atT
 (ByteArray.mk
 #[(48 : UInt8), (49 : UInt8), (50 : UInt8), (51 : UInt8), (52 : UInt8),
 (53 : UInt8), (54 : UInt8), (55 : UInt8), (56 : UInt8), (57 : UInt8),
 (97 : UInt8), (98 : UInt8), (99 : UInt8), (100 : UInt8), (101 : UInt8),
 (102 : UInt8)])
 (opq (IntKind.u8.wrap ((atT s i).tdiv (16 : Int)))))],
 [AV.int IntKind.u8
 (atT
 (ByteArray.mk
 #[(48 : UInt8), (49 : UInt8), (50 : UInt8), (51 : UInt8), (52 : UInt8),
 (53 : UInt8), (54 : UInt8), (55 : UInt8), (56 : UInt8), (57 : UInt8),
 (97 : UInt8), (98 : UInt8), (99 : UInt8), (100 : UInt8), (101 : UInt8),
 (102 : UInt8)])
 (opq ((atT s i).tmod (16 : Int))))]])),
 (4, AV.int IntKind.i64 (IntKind.i64.wrap (i + (1 : Int))))])
 (St.mk [] [(1, lo.length + 3)])
 else none)
 none)
 none)
 (branch (AV.bool (atT s i == (92 : Int)))
 (branch
 (AV.bool
 (inT
 (ByteArray.mk
 #[(48 : UInt8), (49 : UInt8), (50 : UInt8), (51 : UInt8), (52 : UInt8), (53 : UInt8), (54 : UInt8),
 (55 : UInt8), (56 : UInt8), (57 : UInt8), (97 : UInt8), (98 : UInt8), (99 : UInt8), (100 : UInt8),
 (101 : UInt8), (102 : UInt8)])
 (opq (IntKind.u8.wrap ((atT s i).tdiv (16 : Int))))))
 (branch
 (AV.bool
 (inT
 (ByteArray.mk
 #[(48 : UInt8), (49 : UInt8), (50 : UInt8), (51 : UInt8), (52 : UInt8), (53 : UInt8),
 (54 : UInt8), (55 : UInt8), (56 : UInt8), (57 : UInt8), (97 : UInt8), (98 : UInt8),
 (99 : UInt8), (100 : UInt8), (101 : UInt8), (102 : UInt8)])
 (opq ((atT s i).tmod (16 : Int)))))
 (if
 some (1, lo.length) = some (1, lo.length) ∧
 (lo.length + 3) * 1 ≤ 140737488355328 then
 loopRun (f24_l0.run F) [1, 3, 4] K m
 (Env.mk 67
 [(1, AV.eptr [AV.int IntKind.i64 k, AV.int IntKind.i64 n, AV.str s]),
 (3,
 AV.lg 0 1
 (lo ++
 [[AV.int IntKind.u8 (92 : Int)],
 [AV.int IntKind.u8
 (atT
 (ByteArray.mk
 #[(48 : UInt8), (49 : UInt8), (50 : UInt8), (51 : UInt8), (52 : UInt8),
 (53 : UInt8), (54 : UInt8), (55 : UInt8), (56 : UInt8), (57 : UInt8),
 (97 : UInt8), (98 : UInt8), (99 : UInt8), (100 : UInt8), (101 : UInt8),
 (102 : UInt8)])
 (opq (IntKind.u8.wrap ((atT s i).tdiv (16 : Int)))))],
 [AV.int IntKind.u8
 (atT
 (ByteArray.mk
 #[(48 : UInt8), (49 : UInt8), (50 : UInt8), (51 : UInt8), (52 : UInt8),
 (53 : UInt8), (54 : UInt8), (55 : UInt8), (56 : UInt8), (57 : UInt8),
 (97 : UInt8), (98 : UInt8), (99 : UInt8), (100 : UInt8), (101 : UInt8),
 (102 : UInt8)])
 (opq ((atT s i).tmod (16 : Int))))]])),
 (4, AV.int IntKind.i64 (IntKind.i64.wrap (i + (1 : Int))))])
 (St.mk [] [(1, lo.length + 3)])
 else none)
 none)
 none)
 (if
 some (1, lo.length) = some (1, lo.length) ∧
 (lo.length + 1) * 1 ≤ 140737488355328 then
 loopRun (f24_l0.run F) [1, 3, 4] K m
 (Env.mk 67
 [(1, AV.eptr [AV.int IntKind.i64 k, AV.int IntKind.i64 n, AV.str s]),
 (3, AV.lg 0 1 (lo ++ [[AV.int IntKind.u8 (atT s i)]])),
 (4, AV.int IntKind.i64 (IntKind.i64.wrap (i + (1 : Int))))])
 (St.mk [] [(1, lo.length + 1)])
 else none)))))
 none)
 (K (AX.exit 0) (Env.mk 67 [(3, AV.lg 0 1 lo)])
 (St.mk [] [(1, lo.length)])) := by kernel_rfl

theorem rs_e0 (F : Nat) :
 ((Cont.block 0 (Cont.then (f24_r0.run F (f24.leaveK Fun.done)) (f24.leaveK Fun.done))) (.exit 0) (Env.mk 67 [(3, .sl 1 true [[.int .u8 (34 : Int)]])]) ⟨[], []⟩ : Ans) =
 some (Fin.ret (AV.str (textOf [(34 : Int), (34 : Int)])), St.mk [] [(1, 2)]) := by kernel_rfl

theorem rs_e1 (F : Nat) (lo : List (List AV)) :
 ((Cont.block 0 (Cont.then (f24_r0.run F (f24.leaveK Fun.done)) (f24.leaveK Fun.done))) (.exit 0) (Env.mk 67 [(3, .lg 0 1 lo)]) ⟨[], [(1, lo.length)]⟩ : Ans) =
 if
 some (1, lo.length) = some (1, lo.length) ∧
 (lo.length + 1) * 1 ≤ 140737488355328 then
 onSome (numsOf (lo ++ [[AV.int IntKind.u8 (34 : Int)]])) none fun (o : List Int) =>
 some (Fin.ret (AV.str (textOf o)), St.mk [] [(1, lo.length + 1)])
 else none := by kernel_rfl

end Go.Proofs.YtcfedmheblbdnaaDoor.V

/- Values: the reference's Show, as a callee. -/
set_option linter.unusedVariables false
namespace Go.Proofs.YtcfedmheblbdnaaDoor.V
open Go Go.V Go.RowKit

theorem hx_tab : ∀ j : Fin 16, (strL (ByteArray.mk #[48, 49, 50, 51, 52, 53, 54, 55, 56, 57, 97, 98, 99, 100, 101, 102])).getD j.val 0 = hexD j.val := by decide +kernel
theorem hx_in {j : Nat} (h : j < 16) : inT (ByteArray.mk #[48, 49, 50, 51, 52, 53, 54, 55, 56, 57, 97, 98, 99, 100, 101, 102]) (j : Int) = true := inT_iff.mpr ⟨by omega, by rw [Int.toNat_natCast]; exact h⟩
theorem hx_at {j : Nat} (h : j < 16) : atT (ByteArray.mk #[48, 49, 50, 51, 52, 53, 54, 55, 56, 57, 97, 98, 99, 100, 101, 102]) (j : Int) = ((hexD j : Nat) : Int) := by
  rw [atT, opq_eq, Int.toNat_natCast, hx_tab ⟨j, h⟩]
theorem encQ_esc {x : Nat} (h : escB x = true) : encQ x = [92, hexD (x / 16), hexD (x % 16)] := by rw [encQ, h]; rfl
theorem encQ_plain {x : Nat} (h : escB x = false) : encQ x = [x] := by rw [encQ, h]; rfl
theorem escB_eq (x : Nat) : escB x = (decide (x < 32) || (decide (126 < x) || (decide (x = 34) || decide (x = 92)))) := by
  rw [Bool.eq_iff_iff]
  simp only [escB, Bool.or_eq_true, Nat.blt_eq, Nat.beq_eq, decide_eq_true_eq]
section
variable (F m : Nat) (K' : Cont) (k n : Int) (s : ByteArray) (i x : Nat) (hi : i < (strL s).length) (hx : (strL s)[i] = x) (hs : s.size ≤ 1000)
include hi hx hs
theorem rs_facts : inT s (i : Int) = true ∧ atT s (i : Int) = (x : Nat) ∧ x < 256 ∧ IntKind.i64.wrap ((i : Int) + 1) = ((i + 1 : Nat) : Int) ∧ (i : Int) < (s.size : Int) ∧ opq (IntKind.u8.wrap (((x : Nat) : Int).tdiv 16)) = ((x / 16 : Nat) : Int) ∧ opq (((x : Nat) : Int).tmod 16) = ((x % 16 : Nat) : Int) := by
  have h256 : x < 256 := by rw [← hx]; exact strL_lt s _ (List.getElem_mem hi)
  have hsz := strL_size s
  refine ⟨inT_iff.mpr ⟨by omega, by simpa using hi⟩, by rw [atT, opq_eq]; simp [List.getElem?_eq_getElem hi, hx], h256, by rw [wrapS (by omega) (by omega)]; omega, by omega, ?_, ?_⟩
  · rw [opq_eq, show ((x : Nat) : Int).tdiv 16 = ((x / 16 : Nat) : Int) from (Int.ofNat_tdiv x 16).symm]; exact w8 (by omega)
  · rw [opq_eq]; exact (Int.ofNat_tmod x 16).symm
theorem rs_step1 (L : List Nat) (hL : L.length ≤ 10000) :
    loopRun (f24_l0.run F) [1, 3, 4] K' m.succ (Env.mk 67 [(1, .eptr [.int .i64 k, .int .i64 n, .str s]), (3, .lg 0 1 (bR L)), (4, .int .i64 (i : Int))]) ⟨[], [(1, (bR L).length)]⟩
      = loopRun (f24_l0.run F) [1, 3, 4] K' m (Env.mk 67 [(1, .eptr [.int .i64 k, .int .i64 n, .str s]), (3, .lg 0 1 (bR (L ++ encQ x))), (4, .int .i64 ((i + 1 : Nat) : Int))]) ⟨[], [(1, (bR (L ++ encQ x)).length)]⟩ := by
  obtain ⟨f1, f2, f3, f4, f5, f6, f7⟩ := rs_facts s i x hi hx hs
  have hl : (bR L).length = L.length := bR_length L
  have a1 : x / 16 < 16 := by omega
  have a2 : x % 16 < 16 := by omega
  rw [rs_a1, branch_of (decide_eq_true f5), branch_of f1, f2, f4, f6, f7]
  have esc : escB x = true → bR L ++ [[AV.int IntKind.u8 (92 : Int)], [AV.int IntKind.u8 ((hexD (x / 16) : Nat) : Int)], [AV.int IntKind.u8 ((hexD (x % 16) : Nat) : Int)]] = bR (L ++ encQ x) ∧ (bR L).length + 3 = (bR (L ++ encQ x)).length := fun h => by
    rw [encQ_esc h, bR_append]; exact ⟨rfl, by simp [bR_length]⟩
  have c3 : some (1, (bR L).length) = some (1, (bR L).length) ∧ ((bR L).length + 3) * 1 ≤ 140737488355328 := ⟨rfl, by omega⟩
  have c1 : some (1, (bR L).length) = some (1, (bR L).length) ∧ ((bR L).length + 1) * 1 ≤ 140737488355328 := ⟨rfl, by omega⟩
  rw [hx_at a1, hx_at a2]
  by_cases h1 : x < 32
  · obtain ⟨g1, g2⟩ := esc (by rw [escB_eq, decide_eq_true h1]; rfl)
    rw [branch_of (decide_eq_true (by omega)), branch_of (hx_in a1), branch_of (hx_in a2), if_pos c3, g1, g2]
  · rw [branch_not (decide_eq_false (by omega))]
    by_cases h2 : 126 < x
    · obtain ⟨g1, g2⟩ := esc (by rw [escB_eq, decide_eq_true h2]; simp)
      rw [branch_of (decide_eq_true (by omega)), branch_of (hx_in a1), branch_of (hx_in a2), if_pos c3, g1, g2]
    · rw [branch_not (decide_eq_false (by omega))]
      by_cases h3 : x = 34
      · obtain ⟨g1, g2⟩ := esc (by rw [escB_eq, decide_eq_true h3]; simp)
        rw [branch_of (show (((x : Nat) : Int) == 34) = true by rw [beq_iff_eq]; omega), branch_of (hx_in a1), branch_of (hx_in a2), if_pos c3, g1, g2]
      · rw [branch_not (show (((x : Nat) : Int) == 34) = false by rw [beq_eq_false_iff_ne]; omega)]
        by_cases h4 : x = 92
        · obtain ⟨g1, g2⟩ := esc (by rw [escB_eq, decide_eq_true h4]; simp)
          rw [branch_of (show (((x : Nat) : Int) == 92) = true by rw [beq_iff_eq]; omega), branch_of (hx_in a1), branch_of (hx_in a2), if_pos c3, g1, g2]
        · have hp : escB x = false := by rw [escB_eq, decide_eq_false h1, decide_eq_false h2, decide_eq_false h3, decide_eq_false h4]; rfl
          have g1 : bR L ++ [[AV.int IntKind.u8 ((x : Nat) : Int)]] = bR (L ++ encQ x) := by rw [encQ_plain hp, bR_append]; rfl
          have g2 : (bR L).length + 1 = (bR (L ++ encQ x)).length := by rw [encQ_plain hp]; simp [bR_length]
          rw [branch_not (show (((x : Nat) : Int) == 92) = false by rw [beq_eq_false_iff_ne]; omega), if_pos c1, g1, g2]
theorem rs_step0 :
    loopRun (f24_l0.run F) [1, 3, 4] K' m.succ (Env.mk 67 [(1, .eptr [.int .i64 k, .int .i64 n, .str s]), (3, .sl 1 true [[.int .u8 (34 : Int)]]), (4, .int .i64 (i : Int))]) ⟨[], []⟩
      = loopRun (f24_l0.run F) [1, 3, 4] K' m (Env.mk 67 [(1, .eptr [.int .i64 k, .int .i64 n, .str s]), (3, .lg 0 1 (bR ([34] ++ encQ x))), (4, .int .i64 ((i + 1 : Nat) : Int))]) ⟨[], [(1, (bR ([34] ++ encQ x)).length)]⟩ := by
  obtain ⟨f1, f2, f3, f4, f5, f6, f7⟩ := rs_facts s i x hi hx hs
  have a1 : x / 16 < 16 := by omega
  have a2 : x % 16 < 16 := by omega
  rw [rs_a0, branch_of (decide_eq_true f5), branch_of f1, f2, f4, f6, f7]
  rw [hx_at a1, hx_at a2]
  by_cases h1 : x < 32
  · rw [branch_of (decide_eq_true (by omega)), branch_of (hx_in a1), branch_of (hx_in a2), encQ_esc (by rw [escB_eq, decide_eq_true h1]; rfl)]; rfl
  · rw [branch_not (decide_eq_false (by omega))]
    by_cases h2 : 126 < x
    · rw [branch_of (decide_eq_true (by omega)), branch_of (hx_in a1), branch_of (hx_in a2), encQ_esc (by rw [escB_eq, decide_eq_true h2]; simp)]; rfl
    · rw [branch_not (decide_eq_false (by omega))]
      by_cases h3 : x = 34
      · rw [branch_of (show (((x : Nat) : Int) == 34) = true by rw [beq_iff_eq]; omega), branch_of (hx_in a1), branch_of (hx_in a2), encQ_esc (by rw [escB_eq, decide_eq_true h3]; simp)]; rfl
      · rw [branch_not (show (((x : Nat) : Int) == 34) = false by rw [beq_eq_false_iff_ne]; omega)]
        by_cases h4 : x = 92
        · rw [branch_of (show (((x : Nat) : Int) == 92) = true by rw [beq_iff_eq]; omega), branch_of (hx_in a1), branch_of (hx_in a2), encQ_esc (by rw [escB_eq, decide_eq_true h4]; simp)]; rfl
        · have hp : escB x = false := by rw [escB_eq, decide_eq_false h1, decide_eq_false h2, decide_eq_false h3, decide_eq_false h4]; rfl
          rw [branch_not (show (((x : Nat) : Int) == 92) = false by rw [beq_eq_false_iff_ne]; omega), encQ_plain hp]; rfl
end
noncomputable def rsK (F : Nat) : Cont := Cont.block 0 (Cont.then (f24_r0.run F (f24.leaveK Fun.done)) (f24.leaveK Fun.done))
end Go.Proofs.YtcfedmheblbdnaaDoor.V

/- Values: the reference's Show, as a callee. -/
set_option linter.unusedVariables false
namespace Go.Proofs.YtcfedmheblbdnaaDoor.V
open Go Go.V Go.RowKit

theorem rs_all (F : Nat) (k0 n0 : Int) (s : ByteArray) (hs : s.size ≤ 1000) : ∀ (k i m : Nat) (L : List Nat), i + k = (strL s).length → k < m → L.length ≤ 10 + 3 * i → (∀ b ∈ L, b < 256) →
    ∃ st', loopRun (f24_l0.run F) [1, 3, 4] (rsK F) m (Env.mk 67 [(1, .eptr [.int .i64 k0, .int .i64 n0, .str s]), (3, .lg 0 1 (bR L)), (4, .int .i64 (i : Int))]) ⟨[], [(1, (bR L).length)]⟩
      = some (.ret (.str (txt (L ++ (((strL s).drop i).flatMap encQ ++ [34])))), st')
  | k, i, 0, L, _, h, _, _ => by omega
  | 0, i, m + 1, L, h, _, hL, hb => by
    have hsz := strL_size s
    have hlt : ∀ b ∈ L ++ [34], b < 256 := by
      intro b h
      rcases List.mem_append.mp h with h | h
      · exact hb b h
      · simp at h; omega
    have e : bR L ++ [[AV.int IntKind.u8 (34 : Int)]] = bR (L ++ [34]) := by rw [bR_append]; rfl
    rw [show m + 1 = m.succ from rfl, rs_a1, branch_not (decide_eq_false (by omega)), rsK, rs_e1, if_pos ⟨rfl, by rw [bR_length]; omega⟩, e, text_rows hlt, List.drop_eq_nil_of_le (by omega)]
    exact ⟨_, rfl⟩
  | k + 1, i, m + 1, L, h, hm, hL, hb => by
    have hsz := strL_size s
    have hi : i < (strL s).length := by omega
    have hl := encQ_len (strL s)[i]
    obtain ⟨st', ih⟩ := rs_all F k0 n0 s hs k (i + 1) m (L ++ encQ (strL s)[i]) (by omega) (by omega) (by rw [List.length_append]; omega) (by
      intro b h
      rcases List.mem_append.mp h with h | h
      · exact hb b h
      · exact encQ_lt (strL_lt s _ (List.getElem_mem hi)) b h)
    refine ⟨st', ?_⟩
    rw [show m + 1 = m.succ from rfl, rs_step1 F m (rsK F) k0 n0 s i _ hi rfl hs L (by omega), ih, List.drop_eq_getElem_cons hi, List.flatMap_cons]
    simp only [List.append_assoc]
theorem rs_text (F : Nat) (hF : 1001 < F) (k0 n0 : Int) (s : ByteArray) (hs : s.size ≤ 1000) :
    ∃ st', loopRun (f24_l0.run F) [1, 3, 4] (rsK F) F (Env.mk 67 [(1, .eptr [.int .i64 k0, .int .i64 n0, .str s]), (3, .sl 1 true [[.int .u8 (34 : Int)]]), (4, .int .i64 (0 : Int))]) ⟨[], []⟩ = some (.ret (.str (txt (qtL (strL s)))), st') := by
  have hsz := strL_size s
  obtain ⟨m, rfl⟩ : ∃ m, F = m + 1 := ⟨F - 1, by omega⟩
  cases hl : strL s with
  | nil =>
    have h0 : s.size = 0 := by rw [hsz, hl]; rfl
    rw [show m + 1 = m.succ from rfl, rs_a0, branch_not (decide_eq_false (by omega)), rsK, rs_e0]
    exact ⟨_, rfl⟩
  | cons x l =>
    have hi : 0 < (strL s).length := by rw [hl]; simp
    have hx : (strL s)[0] = x := by simp [hl]
    obtain ⟨st', ih⟩ := rs_all (m + 1) k0 n0 s hs ((strL s).length - 1) 1 m ([34] ++ encQ x) (by omega) (by omega) (by have h5 := encQ_len x; rw [List.length_append]; show 1 + (encQ x).length ≤ 10 + 3 * 1; omega) (by
      intro b h
      rcases List.mem_append.mp h with h | h
      · simp at h; omega
      · exact encQ_lt (by rw [← hx]; exact strL_lt s _ (List.getElem_mem hi)) b h)
    refine ⟨st', ?_⟩
    rw [show (0 : Int) = ((0 : Nat) : Int) from rfl]
    have := rs_step0 (m + 1) m (rsK (m + 1)) k0 n0 s 0 x hi hx hs
    rw [show m + 1 = m.succ from rfl] at this ⊢
    refine this.trans (ih.trans ?_)
    rw [hl, qtL]
    simp [List.flatMap_cons]
theorem rs_eq (v : Va) (h : okSh v = true) : ∃ st', f24.run 1002 [v.av] ⟨[], []⟩ = some (.ret (.str (showV v)), st') := by
  obtain ⟨h1, h2, h3⟩ := cdec_iff.mp h
  rw [rs_run, showV]
  have hok : okI v.n = true := cdec_iff.mpr ⟨h1, h2⟩
  show ∃ st', branch (.bool (!rightV v)) _ _ = _
  cases hr : rightV v with
  | false => exact ⟨_, rfl⟩
  | true =>
    rw [Bool.not_true, branch_false, cond_true, branch_of hok]
    cases k0 : v.k == 0 with
    | true =>
      rw [beq_iff_eq] at k0
      rw [k0]; exact ⟨_, rfl⟩
    | false =>
      rw [branch_false]
      cases k1 : v.k == 1 with
      | true => exact ⟨_, rfl⟩
      | false =>
        rw [branch_false, cond_false]
        cases k2 : v.k == 2 with
        | true => cases v.n == 1 <;> exact ⟨_, rfl⟩
        | false =>
          have k3 : v.k == 3 := by
            unfold rightV at hr
            rw [k0, k1, k2] at hr
            cases h3 : v.k == 3 with
            | true => rfl
            | false => rw [h3] at hr; cases hr
          rw [branch_false, cond_false, k3, cond_true]
          obtain ⟨st', ht⟩ := rs_text 1002 (by omega) v.k v.n v.s h3
          refine ⟨st', ht.trans ?_⟩
          have hq : ∀ b ∈ qtL (strL v.s), b < 256 := by
            intro b hb
            simp only [qtL, List.mem_cons, List.mem_append, List.not_mem_nil, or_false, List.mem_flatMap] at hb
            rcases hb with rfl | ⟨x, hx, hb⟩ | rfl
            · omega
            · exact encQ_lt (strL_lt _ _ hx) b hb
            · omega
          rw [show strB (qtL (strL v.s)) = txt (qtL (strL v.s)) from strL_inj (by rw [strL_strB hq, strL_txt hq])]
noncomputable def p24 : POrc Tryd.prog := f24.flatIf dec1v (fun v => [v.av]) dec1v_enc okSh (fun v => .str (showV v)) (fun _ => ⟨⟨trivial, trivial, trivial, trivial⟩, trivial⟩) (fun _ => trivial) fun v h => by
  obtain ⟨st', hr⟩ := rs_eq v h
  exact ⟨1002, st', hr⟩
theorem p24_nat : p24.Nat := flatIf_nat
end Go.Proofs.YtcfedmheblbdnaaDoor.V

/- The functions' pieces, as told by gen.py. -/
set_option linter.unusedVariables false
set_option maxRecDepth 20000
namespace Go.Proofs.YtcfedmheblbdnaaDoor.V
open Go Go.V Go.RowKit


/-! ### 18: interlock/value.Compare (24, 24); results 4, 5; slots: 0 a, 1 b, 2 a, 3 b -/
noncomputable def f18_b : Sim Tryd.prog :=
 (.seq (.live [2, 3] (.region 0 [
 ⟨(opBoxF (some 2) 24 (.tmp 0) 0 "value.go:42" #[]).op, none⟩,
 ⟨(opBoxF (some 3) 24 (.tmp 1) 0 "value.go:42" #[]).op, none⟩,
 ⟨(opAssign (some 4) (.const (Value.int IntKind.i64 0)) 3 "value.go:42" #[]).op, none⟩,
 ⟨(opAssign (some 5) (.const (Value.bool false)) 4 "value.go:42" #[{ on := 2, ground := Ground.chain }]).op, none⟩
 ] (by kernel_rfl)))
 (.seq (.seq (.live [2, 3, 25] (.region 1 [
 ⟨(opLoadT (.agg [(.int .i64), (.int .i64), .str]) (some 6) 24 (.tmp 2) d24 ud24 3 sz24 (by kernel_rfl) 24 "value.go:43" #[]).op, none⟩,
 ⟨(opCallP p13 (some 7) [(.tmp 6)] #[24] 4 "value.go:43" #[{ on := 0, ground := Ground.data }]).op, none⟩,
 ⟨(opNot (some 8) 4 (.tmp 7) 4 "value.go:43" #[{ on := 1, ground := Ground.data }]).op, none⟩,
 ⟨(opMove (some 9) (.tmp 8) 4 "value.go:43" #[{ on := 2, ground := Ground.data }, { on := 1, ground := Ground.chain }]).op, none⟩,
 ⟨(opLoadT (.agg [(.int .i64), (.int .i64), .str]) (some 10) 24 (.tmp 3) d24 ud24 3 sz24 (by kernel_rfl) 24 "value.go:43" #[{ on := 3, ground := Ground.guard }]).op, (some (3, 9, false))⟩,
 ⟨(opCallP p13 (some 11) [(.tmp 10)] #[24] 4 "value.go:43" #[{ on := 4, ground := Ground.data }, { on := 3, ground := Ground.chain }, { on := 3, ground := Ground.guard }]).op, (some (3, 9, false))⟩,
 ⟨(opNot (some 12) 4 (.tmp 11) 4 "value.go:43" #[{ on := 5, ground := Ground.data }, { on := 3, ground := Ground.guard }]).op, (some (3, 9, false))⟩,
 ⟨(opPick (some 13) (.tmp 9) (.const (Value.bool true)) (.tmp 12) 4 "value.go:43" #[{ on := 3, ground := Ground.data }, { on := 6, ground := Ground.data }]).op, none⟩,
 ⟨(opMove (some 14) (.tmp 13) 4 "value.go:43" #[{ on := 7, ground := Ground.data }, { on := 5, ground := Ground.chain }]).op, none⟩,
 ⟨(opFieldAddr (some 15) 24 (.tmp 2) 0 0 1 false fl24_0 (by decide) 0 "value.go:43" #[{ on := 8, ground := Ground.guard }]).op, (some (8, 14, false))⟩,
 ⟨(opLoadT (.one (.int .i64)) (some 16) 3 (.tmp 15) (.int .i64) Tryd.underlying3 1 sz3 (by kernel_rfl) 3 "value.go:43" #[{ on := 9, ground := Ground.data }, { on := 8, ground := Ground.guard }]).op, (some (8, 14, false))⟩,
 ⟨(opFieldAddr (some 17) 24 (.tmp 3) 0 0 1 false fl24_0 (by decide) 0 "value.go:43" #[{ on := 8, ground := Ground.guard }]).op, (some (8, 14, false))⟩,
 ⟨(opLoadT (.one (.int .i64)) (some 18) 3 (.tmp 17) (.int .i64) Tryd.underlying3 1 sz3 (by kernel_rfl) 3 "value.go:43" #[{ on := 11, ground := Ground.data }, { on := 8, ground := Ground.guard }]).op, (some (8, 14, false))⟩,
 ⟨(opBin (some 19) .neq 3 (.tmp 16) (.tmp 18) 3 4 "value.go:43" #[{ on := 10, ground := Ground.data }, { on := 12, ground := Ground.data }, { on := 8, ground := Ground.guard }]).op, (some (8, 14, false))⟩,
 ⟨(opPick (some 20) (.tmp 14) (.const (Value.bool true)) (.tmp 19) 4 "value.go:43" #[{ on := 8, ground := Ground.data }, { on := 13, ground := Ground.data }]).op, none⟩,
 ⟨(opMove (some 21) (.tmp 20) 4 "value.go:43" #[{ on := 14, ground := Ground.data }, { on := 8, ground := Ground.chain }]).op, none⟩,
 ⟨(opFieldAddr (some 22) 24 (.tmp 2) 0 0 1 false fl24_0 (by decide) 0 "value.go:43" #[{ on := 15, ground := Ground.guard }]).op, (some (15, 21, false))⟩,
 ⟨(opLoadT (.one (.int .i64)) (some 23) 3 (.tmp 22) (.int .i64) Tryd.underlying3 1 sz3 (by kernel_rfl) 3 "value.go:43" #[{ on := 16, ground := Ground.data }, { on := 15, ground := Ground.guard }]).op, (some (15, 21, false))⟩,
 ⟨(opBin (some 24) .eql 3 (.tmp 23) (.const (Value.int IntKind.i64 0)) 3 4 "value.go:43" #[{ on := 17, ground := Ground.data }, { on := 15, ground := Ground.guard }]).op, (some (15, 21, false))⟩,
 ⟨(opPick (some 25) (.tmp 21) (.const (Value.bool true)) (.tmp 24) 4 "value.go:43" #[{ on := 15, ground := Ground.data }, { on := 18, ground := Ground.data }]).op, none⟩
 ] (by kernel_rfl)))
 (.cond (.tmp 25)
 (.seq (.live [4, 5] (.region 2 [
 ⟨(opAssign (some 4) (.const (Value.int IntKind.i64 0)) 3 "value.go:44" #[]).op, none⟩,
 ⟨(opAssign (some 5) (.const (Value.bool false)) 4 "value.go:44" #[{ on := 0, ground := Ground.chain }, { on := 0, ground := Ground.phase }]).op, none⟩
 ] (by kernel_rfl)))
 (.live [4, 5] .ret))
 .skip))
 (.seq (.live [4, 5] (.region 3 [
 ⟨(opLoadT (.agg [(.int .i64), (.int .i64), .str]) (some 26) 24 (.tmp 2) d24 ud24 3 sz24 (by kernel_rfl) 24 "value.go:46" #[]).op, none⟩,
 ⟨(opLoadT (.agg [(.int .i64), (.int .i64), .str]) (some 27) 24 (.tmp 3) d24 ud24 3 sz24 (by kernel_rfl) 24 "value.go:46" #[]).op, none⟩,
 ⟨(opCallP p21 (some 28) [(.tmp 26), (.tmp 27)] #[24, 24] 3 "value.go:46" #[{ on := 0, ground := Ground.data }, { on := 1, ground := Ground.data }]).op, none⟩,
 ⟨(opAssign (some 4) (.tmp 28) 3 "value.go:46" #[{ on := 2, ground := Ground.data }, { on := 2, ground := Ground.chain }, { on := 0, ground := Ground.phase }, { on := 1, ground := Ground.phase }, { on := 2, ground := Ground.phase }]).op, none⟩,
 ⟨(opAssign (some 5) (.const (Value.bool true)) 4 "value.go:46" #[{ on := 3, ground := Ground.chain }, { on := 0, ground := Ground.phase }, { on := 1, ground := Ground.phase }, { on := 2, ground := Ground.phase }, { on := 3, ground := Ground.phase }]).op, none⟩
 ] (by kernel_rfl)))
 (.live [4, 5] .ret))))

noncomputable def f18 : Fun Tryd.prog where
 id := 18
 fn := Tryd.f18
 hf := Tryd.func18
 hname := by kernel_rfl
 body := f18_b
 hbody := by kernel_rfl
 res := [rTmp 4, rTmp 5]
 hres := by kernel_rfl
 n := 29
 hn := by kernel_rfl

/-! ### 19: interlock/interlockref04.Compare (24, 24); results 4, 5; slots: 0 a, 1 b, 2 a, 3 b -/
noncomputable def f19_b : Sim Tryd.prog :=
 (.seq (.live [2, 3] (.region 0 [
 ⟨(opBoxF (some 2) 24 (.tmp 0) 0 "ref.go:70" #[]).op, none⟩,
 ⟨(opBoxF (some 3) 24 (.tmp 1) 0 "ref.go:70" #[]).op, none⟩,
 ⟨(opAssign (some 4) (.const (Value.int IntKind.i64 0)) 3 "ref.go:70" #[]).op, none⟩,
 ⟨(opAssign (some 5) (.const (Value.bool false)) 4 "ref.go:70" #[{ on := 2, ground := Ground.chain }]).op, none⟩
 ] (by kernel_rfl)))
 (.seq (.seq (.live [2, 3, 25] (.region 1 [
 ⟨(opLoadT (.agg [(.int .i64), (.int .i64), .str]) (some 6) 24 (.tmp 2) d24 ud24 3 sz24 (by kernel_rfl) 24 "ref.go:71" #[]).op, none⟩,
 ⟨(opCallP p20 (some 7) [(.tmp 6)] #[24] 4 "ref.go:71" #[{ on := 0, ground := Ground.data }]).op, none⟩,
 ⟨(opNot (some 8) 4 (.tmp 7) 4 "ref.go:71" #[{ on := 1, ground := Ground.data }]).op, none⟩,
 ⟨(opMove (some 9) (.tmp 8) 4 "ref.go:71" #[{ on := 2, ground := Ground.data }, { on := 1, ground := Ground.chain }]).op, none⟩,
 ⟨(opLoadT (.agg [(.int .i64), (.int .i64), .str]) (some 10) 24 (.tmp 3) d24 ud24 3 sz24 (by kernel_rfl) 24 "ref.go:71" #[{ on := 3, ground := Ground.guard }]).op, (some (3, 9, false))⟩,
 ⟨(opCallP p20 (some 11) [(.tmp 10)] #[24] 4 "ref.go:71" #[{ on := 4, ground := Ground.data }, { on := 3, ground := Ground.chain }, { on := 3, ground := Ground.guard }]).op, (some (3, 9, false))⟩,
 ⟨(opNot (some 12) 4 (.tmp 11) 4 "ref.go:71" #[{ on := 5, ground := Ground.data }, { on := 3, ground := Ground.guard }]).op, (some (3, 9, false))⟩,
 ⟨(opPick (some 13) (.tmp 9) (.const (Value.bool true)) (.tmp 12) 4 "ref.go:71" #[{ on := 3, ground := Ground.data }, { on := 6, ground := Ground.data }]).op, none⟩,
 ⟨(opMove (some 14) (.tmp 13) 4 "ref.go:71" #[{ on := 7, ground := Ground.data }, { on := 5, ground := Ground.chain }]).op, none⟩,
 ⟨(opFieldAddr (some 15) 24 (.tmp 2) 0 0 1 false fl24_0 (by decide) 0 "ref.go:71" #[{ on := 8, ground := Ground.guard }]).op, (some (8, 14, false))⟩,
 ⟨(opLoadT (.one (.int .i64)) (some 16) 3 (.tmp 15) (.int .i64) Tryd.underlying3 1 sz3 (by kernel_rfl) 3 "ref.go:71" #[{ on := 9, ground := Ground.data }, { on := 8, ground := Ground.guard }]).op, (some (8, 14, false))⟩,
 ⟨(opFieldAddr (some 17) 24 (.tmp 3) 0 0 1 false fl24_0 (by decide) 0 "ref.go:71" #[{ on := 8, ground := Ground.guard }]).op, (some (8, 14, false))⟩,
 ⟨(opLoadT (.one (.int .i64)) (some 18) 3 (.tmp 17) (.int .i64) Tryd.underlying3 1 sz3 (by kernel_rfl) 3 "ref.go:71" #[{ on := 11, ground := Ground.data }, { on := 8, ground := Ground.guard }]).op, (some (8, 14, false))⟩,
 ⟨(opBin (some 19) .neq 3 (.tmp 16) (.tmp 18) 3 4 "ref.go:71" #[{ on := 10, ground := Ground.data }, { on := 12, ground := Ground.data }, { on := 8, ground := Ground.guard }]).op, (some (8, 14, false))⟩,
 ⟨(opPick (some 20) (.tmp 14) (.const (Value.bool true)) (.tmp 19) 4 "ref.go:71" #[{ on := 8, ground := Ground.data }, { on := 13, ground := Ground.data }]).op, none⟩,
 ⟨(opMove (some 21) (.tmp 20) 4 "ref.go:71" #[{ on := 14, ground := Ground.data }, { on := 8, ground := Ground.chain }]).op, none⟩,
 ⟨(opFieldAddr (some 22) 24 (.tmp 2) 0 0 1 false fl24_0 (by decide) 0 "ref.go:71" #[{ on := 15, ground := Ground.guard }]).op, (some (15, 21, false))⟩,
 ⟨(opLoadT (.one (.int .i64)) (some 23) 3 (.tmp 22) (.int .i64) Tryd.underlying3 1 sz3 (by kernel_rfl) 3 "ref.go:71" #[{ on := 16, ground := Ground.data }, { on := 15, ground := Ground.guard }]).op, (some (15, 21, false))⟩,
 ⟨(opBin (some 24) .eql 3 (.tmp 23) (.const (Value.int IntKind.i64 0)) 3 4 "ref.go:71" #[{ on := 17, ground := Ground.data }, { on := 15, ground := Ground.guard }]).op, (some (15, 21, false))⟩,
 ⟨(opPick (some 25) (.tmp 21) (.const (Value.bool true)) (.tmp 24) 4 "ref.go:71" #[{ on := 15, ground := Ground.data }, { on := 18, ground := Ground.data }]).op, none⟩
 ] (by kernel_rfl)))
 (.cond (.tmp 25)
 (.seq (.live [4, 5] (.region 2 [
 ⟨(opAssign (some 4) (.const (Value.int IntKind.i64 0)) 3 "ref.go:72" #[]).op, none⟩,
 ⟨(opAssign (some 5) (.const (Value.bool false)) 4 "ref.go:72" #[{ on := 0, ground := Ground.chain }, { on := 0, ground := Ground.phase }]).op, none⟩
 ] (by kernel_rfl)))
 (.live [4, 5] .ret))
 .skip))
 (.seq (.live [4, 5] (.region 3 [
 ⟨(opLoadT (.agg [(.int .i64), (.int .i64), .str]) (some 26) 24 (.tmp 2) d24 ud24 3 sz24 (by kernel_rfl) 24 "ref.go:74" #[]).op, none⟩,
 ⟨(opLoadT (.agg [(.int .i64), (.int .i64), .str]) (some 27) 24 (.tmp 3) d24 ud24 3 sz24 (by kernel_rfl) 24 "ref.go:74" #[]).op, none⟩,
 ⟨(opCallP p22 (some 28) [(.tmp 26), (.tmp 27)] #[24, 24] 3 "ref.go:74" #[{ on := 0, ground := Ground.data }, { on := 1, ground := Ground.data }]).op, none⟩,
 ⟨(opAssign (some 4) (.tmp 28) 3 "ref.go:74" #[{ on := 2, ground := Ground.data }, { on := 2, ground := Ground.chain }, { on := 0, ground := Ground.phase }, { on := 1, ground := Ground.phase }, { on := 2, ground := Ground.phase }]).op, none⟩,
 ⟨(opAssign (some 5) (.const (Value.bool true)) 4 "ref.go:74" #[{ on := 3, ground := Ground.chain }, { on := 0, ground := Ground.phase }, { on := 1, ground := Ground.phase }, { on := 2, ground := Ground.phase }, { on := 3, ground := Ground.phase }]).op, none⟩
 ] (by kernel_rfl)))
 (.live [4, 5] .ret))))

noncomputable def f19 : Fun Tryd.prog where
 id := 19
 fn := Tryd.f19
 hf := Tryd.func19
 hname := by kernel_rfl
 body := f19_b
 hbody := by kernel_rfl
 res := [rTmp 4, rTmp 5]
 hres := by kernel_rfl
 n := 29
 hn := by kernel_rfl

end Go.Proofs.YtcfedmheblbdnaaDoor.V

/- What the functions' runs come to; the right sides were printed by a tool, Lean checks them. -/
set_option linter.unusedVariables false
set_option maxRecDepth 100000
namespace Go.Proofs.YtcfedmheblbdnaaDoor.V
open Go Go.V Go.RowKit

theorem cmp_run (F : Nat) (a b : Va) (st : St) :
 (f18.run F [a.av, b.av] st : Ans) =
 branch (AV.bool !rightV (Va.mk (hdI a.cells) (hdI a.cells.tail) (hdS a.cells.tail.tail)))
 (some (Fin.ret (AV.tup [AV.int IntKind.i64 (0 : Int), AV.bool false]), st))
 (branch (AV.bool !rightV (Va.mk (hdI b.cells) (hdI b.cells.tail) (hdS b.cells.tail.tail)))
 (some (Fin.ret (AV.tup [AV.int IntKind.i64 (0 : Int), AV.bool false]), st))
 (branch (AV.bool (a.k != b.k)) (some (Fin.ret (AV.tup [AV.int IntKind.i64 (0 : Int), AV.bool false]), st))
 (branch (AV.bool (a.k == (0 : Int))) (some (Fin.ret (AV.tup [AV.int IntKind.i64 (0 : Int), AV.bool false]), st))
 (some
 (Fin.ret
 (AV.tup
 [AV.int IntKind.i64
 (cmpV
 (Va.mk (hdI a.cells) (hdI a.cells.tail) (hdS a.cells.tail.tail),
 Va.mk (hdI b.cells) (hdI b.cells.tail) (hdS b.cells.tail.tail)).fst
 (Va.mk (hdI a.cells) (hdI a.cells.tail) (hdS a.cells.tail.tail),
 Va.mk (hdI b.cells) (hdI b.cells.tail) (hdS b.cells.tail.tail)).snd),
 AV.bool true]),
 st))))) := by kernel_rfl

theorem rcmpv_run (F : Nat) (a b : Va) (st : St) :
 (f19.run F [a.av, b.av] st : Ans) =
 branch (AV.bool !rightV (Va.mk (hdI a.cells) (hdI a.cells.tail) (hdS a.cells.tail.tail)))
 (some (Fin.ret (AV.tup [AV.int IntKind.i64 (0 : Int), AV.bool false]), st))
 (branch (AV.bool !rightV (Va.mk (hdI b.cells) (hdI b.cells.tail) (hdS b.cells.tail.tail)))
 (some (Fin.ret (AV.tup [AV.int IntKind.i64 (0 : Int), AV.bool false]), st))
 (branch (AV.bool (a.k != b.k)) (some (Fin.ret (AV.tup [AV.int IntKind.i64 (0 : Int), AV.bool false]), st))
 (branch (AV.bool (a.k == (0 : Int))) (some (Fin.ret (AV.tup [AV.int IntKind.i64 (0 : Int), AV.bool false]), st))
 (branch
 (AV.bool
 (cdec
 ((Va.mk (hdI a.cells) (hdI a.cells.tail) (hdS a.cells.tail.tail),
 Va.mk (hdI b.cells) (hdI b.cells.tail) (hdS b.cells.tail.tail)).fst.s.size ≤
 100000)))
 (some
 (Fin.ret
 (AV.tup
 [AV.int IntKind.i64
 (cmpV
 (Va.mk (hdI a.cells) (hdI a.cells.tail) (hdS a.cells.tail.tail),
 Va.mk (hdI b.cells) (hdI b.cells.tail) (hdS b.cells.tail.tail)).fst
 (Va.mk (hdI a.cells) (hdI a.cells.tail) (hdS a.cells.tail.tail),
 Va.mk (hdI b.cells) (hdI b.cells.tail) (hdS b.cells.tail.tail)).snd),
 AV.bool true]),
 st))
 none)))) := by kernel_rfl

end Go.Proofs.YtcfedmheblbdnaaDoor.V

/- Values: both sides' Compare, as callees. -/
set_option linter.unusedVariables false
namespace Go.Proofs.YtcfedmheblbdnaaDoor.V
open Go Go.V Go.RowKit

def canC (a b : Va) : Bool := rightV a && (rightV b && (a.k == b.k && !(a.k == 0)))
def cmpC (a b : Va) : Int := bif canC a b then cmpV a b else 0
theorem cmp_eq (a b : Va) (st : St) : f18.run 0 [a.av, b.av] st = some (.ret (.tup [.int .i64 (cmpC a b), .bool (canC a b)]), st) := by
  rw [cmp_run, cmpC, canC]
  show branch (.bool (!rightV a)) _ (branch (.bool (!rightV b)) _ (branch (.bool (!(a.k == b.k))) _ _)) = _
  cases rightV a <;> cases rightV b <;> cases a.k == b.k <;> cases a.k == 0 <;> rfl
theorem rcmp_eq (a b : Va) (h : a.s.size ≤ 100000) (st : St) : f19.run 0 [a.av, b.av] st = some (.ret (.tup [.int .i64 (cmpC a b), .bool (canC a b)]), st) := by
  rw [rcmpv_run, cmpC, canC]
  show branch (.bool (!rightV a)) _ (branch (.bool (!rightV b)) _ (branch (.bool (!(a.k == b.k))) _ (branch (.bool (a.k == 0)) _ (branch (.bool (cdec (a.s.size ≤ 100000))) _ _)))) = _
  rw [cdec_iff.mpr h]
  cases rightV a <;> cases rightV b <;> cases a.k == b.k <;> cases a.k == 0 <;> rfl
noncomputable def p18 : POrc Tryd.prog := f18.pureIf dec2v (fun a => [a.1.av, a.2.av]) dec2v_enc (fun _ => true) (fun a => .tup [.int .i64 (cmpC a.1 a.2), .bool (canC a.1 a.2)]) (fun a _ => ⟨rfl, fun _ _ => ⟨trivial, trivial, trivial⟩⟩) fun a _ => ⟨0, fun st => cmp_eq a.1 a.2 st⟩
noncomputable def p19 : POrc Tryd.prog := f19.pureIf dec2v (fun a => [a.1.av, a.2.av]) dec2v_enc (fun a => cdec (a.1.s.size ≤ 100000)) (fun a => .tup [.int .i64 (cmpC a.1 a.2), .bool (canC a.1 a.2)]) (fun a _ => ⟨rfl, fun _ _ => ⟨trivial, trivial, trivial⟩⟩) fun a h => ⟨0, fun st => rcmp_eq a.1 a.2 (cdec_iff.mp h) st⟩
end Go.Proofs.YtcfedmheblbdnaaDoor.V

/- The functions' pieces, as told by gen.py. -/
set_option linter.unusedVariables false
set_option maxRecDepth 20000
namespace Go.Proofs.YtcfedmheblbdnaaDoor.V
open Go Go.V Go.RowKit


/-! ### 7: interlock/interlocklaw04.ValueAsks (24, 24, 32); results 6; slots: 0 a, 1 b, 2 c, 3 a, 4 b, 5 c, 7 x, 8 ok, 9 y, 10 is -/
noncomputable def f7_b : Sim Tryd.prog :=
 (.seq (.live [3, 4, 5] (.region 0 [
 ⟨(opBoxF (some 3) 24 (.tmp 0) 0 "law.go:31" #[]).op, none⟩,
 ⟨(opBoxF (some 4) 24 (.tmp 1) 0 "law.go:31" #[]).op, none⟩,
 ⟨(opBoxF (some 5) 32 (.tmp 2) 0 "law.go:31" #[]).op, none⟩,
 ⟨(opAssign (some 6) (.const (Value.bool false)) 4 "law.go:31" #[]).op, none⟩
 ] (by kernel_rfl)))
 (.seq (.seq (.live [3, 4, 5, 12] (.region 1 [
 ⟨(opCallP p9 (some 11) [] #[] 4 "law.go:32" #[]).op, none⟩,
 ⟨(opNot (some 12) 4 (.tmp 11) 4 "law.go:32" #[{ on := 0, ground := Ground.data }]).op, none⟩
 ] (by kernel_rfl)))
 (.cond (.tmp 12)
 (.seq (.live [6] (.region 2 [
 ⟨(opAssign (some 6) (.const (Value.bool false)) 4 "law.go:33" #[]).op, none⟩
 ] (by kernel_rfl)))
 (.live [6] .ret))
 .skip))
 (.seq (.seq (.live [3, 4, 5, 22] (.region 3 [
 ⟨(opFieldAddr (some 13) 24 (.tmp 3) 2 2 1 false fl24_2 (by decide) 0 "law.go:35" #[]).op, none⟩,
 ⟨(opLoadT (.one .str) (some 14) 9 (.tmp 13) .string Tryd.underlying9 1 sz9 (by kernel_rfl) 9 "law.go:35" #[{ on := 0, ground := Ground.data }]).op, none⟩,
 ⟨(opLen (some 15) (.tmp 14) 9 .string Tryd.underlying9 3 "law.go:35" #[{ on := 1, ground := Ground.data }]).op, none⟩,
 ⟨(opBin (some 16) .gtr 3 (.tmp 15) (.const (Value.int IntKind.i64 1000)) 3 4 "law.go:35" #[{ on := 2, ground := Ground.data }]).op, none⟩,
 ⟨(opMove (some 17) (.tmp 16) 4 "law.go:35" #[{ on := 3, ground := Ground.data }]).op, none⟩,
 ⟨(opFieldAddr (some 18) 24 (.tmp 4) 2 2 1 false fl24_2 (by decide) 0 "law.go:35" #[{ on := 4, ground := Ground.guard }]).op, (some (4, 17, false))⟩,
 ⟨(opLoadT (.one .str) (some 19) 9 (.tmp 18) .string Tryd.underlying9 1 sz9 (by kernel_rfl) 9 "law.go:35" #[{ on := 5, ground := Ground.data }, { on := 4, ground := Ground.guard }]).op, (some (4, 17, false))⟩,
 ⟨(opLen (some 20) (.tmp 19) 9 .string Tryd.underlying9 3 "law.go:35" #[{ on := 6, ground := Ground.data }, { on := 4, ground := Ground.guard }]).op, (some (4, 17, false))⟩,
 ⟨(opBin (some 21) .gtr 3 (.tmp 20) (.const (Value.int IntKind.i64 1000)) 3 4 "law.go:35" #[{ on := 7, ground := Ground.data }, { on := 4, ground := Ground.guard }]).op, (some (4, 17, false))⟩,
 ⟨(opPick (some 22) (.tmp 17) (.const (Value.bool true)) (.tmp 21) 4 "law.go:35" #[{ on := 4, ground := Ground.data }, { on := 8, ground := Ground.data }]).op, none⟩
 ] (by kernel_rfl)))
 (.cond (.tmp 22)
 (.seq (.live [6] (.region 4 [
 ⟨(opAssign (some 6) (.const (Value.bool true)) 4 "law.go:36" #[]).op, none⟩
 ] (by kernel_rfl)))
 (.live [6] .ret))
 .skip))
 (.seq (.live [3, 4, 5, 7, 8] (.region 5 [
 ⟨(opLoadT (.agg [(.int .i64), (.int .i64), .str]) (some 24) 24 (.tmp 3) d24 ud24 3 sz24 (by kernel_rfl) 24 "law.go:38" #[]).op, none⟩,
 ⟨(opLoadT (.agg [(.int .i64), (.int .i64), .str]) (some 25) 24 (.tmp 4) d24 ud24 3 sz24 (by kernel_rfl) 24 "law.go:38" #[]).op, none⟩,
 ⟨(opCallP p18 (some 26) [(.tmp 24), (.tmp 25)] #[24, 24] 42 "law.go:38" #[{ on := 0, ground := Ground.data }, { on := 1, ground := Ground.data }]).op, none⟩,
 ⟨(opMove (some 23) (.tmp 26) 42 "law.go:38" #[{ on := 2, ground := Ground.data }]).op, none⟩,
 ⟨(opExtract (some 27) (.tmp 23) 0 3 "law.go:38" #[{ on := 3, ground := Ground.data }]).op, none⟩,
 ⟨(opExtract (some 28) (.tmp 23) 1 4 "law.go:38" #[{ on := 3, ground := Ground.data }, { on := 6, ground := (Ground.gcOnly Departure.lateStores) }]).op, none⟩,
 ⟨(opAssign (some 7) (.tmp 27) 3 "law.go:38" #[{ on := 4, ground := Ground.data }, { on := 2, ground := Ground.chain }, { on := 0, ground := Ground.phase }, { on := 1, ground := Ground.phase }, { on := 2, ground := Ground.phase }, { on := 3, ground := Ground.phase }, { on := 4, ground := Ground.phase }, { on := 5, ground := (Ground.textOnly Departure.lateStores) }]).op, none⟩,
 ⟨(opAssign (some 8) (.tmp 28) 4 "law.go:38" #[{ on := 5, ground := Ground.data }, { on := 6, ground := Ground.chain }, { on := 0, ground := Ground.phase }, { on := 1, ground := Ground.phase }, { on := 2, ground := Ground.phase }, { on := 3, ground := Ground.phase }, { on := 4, ground := Ground.phase }, { on := 5, ground := Ground.phase }, { on := 6, ground := Ground.phase }]).op, none⟩
 ] (by kernel_rfl)))
 (.seq (.live [3, 4, 5, 7, 8, 9, 10] (.region 6 [
 ⟨(opLoadT (.agg [(.int .i64), (.int .i64), .str]) (some 30) 24 (.tmp 3) d24 ud24 3 sz24 (by kernel_rfl) 24 "law.go:39" #[]).op, none⟩,
 ⟨(opLoadT (.agg [(.int .i64), (.int .i64), .str]) (some 31) 24 (.tmp 4) d24 ud24 3 sz24 (by kernel_rfl) 24 "law.go:39" #[]).op, none⟩,
 ⟨(opCallP p19 (some 32) [(.tmp 30), (.tmp 31)] #[24, 24] 42 "law.go:39" #[{ on := 0, ground := Ground.data }, { on := 1, ground := Ground.data }]).op, none⟩,
 ⟨(opMove (some 29) (.tmp 32) 42 "law.go:39" #[{ on := 2, ground := Ground.data }]).op, none⟩,
 ⟨(opExtract (some 33) (.tmp 29) 0 3 "law.go:39" #[{ on := 3, ground := Ground.data }]).op, none⟩,
 ⟨(opExtract (some 34) (.tmp 29) 1 4 "law.go:39" #[{ on := 3, ground := Ground.data }, { on := 6, ground := (Ground.gcOnly Departure.lateStores) }]).op, none⟩,
 ⟨(opAssign (some 9) (.tmp 33) 3 "law.go:39" #[{ on := 4, ground := Ground.data }, { on := 2, ground := Ground.chain }, { on := 0, ground := Ground.phase }, { on := 1, ground := Ground.phase }, { on := 2, ground := Ground.phase }, { on := 3, ground := Ground.phase }, { on := 4, ground := Ground.phase }, { on := 5, ground := (Ground.textOnly Departure.lateStores) }]).op, none⟩,
 ⟨(opAssign (some 10) (.tmp 34) 4 "law.go:39" #[{ on := 5, ground := Ground.data }, { on := 6, ground := Ground.chain }, { on := 0, ground := Ground.phase }, { on := 1, ground := Ground.phase }, { on := 2, ground := Ground.phase }, { on := 3, ground := Ground.phase }, { on := 4, ground := Ground.phase }, { on := 5, ground := Ground.phase }, { on := 6, ground := Ground.phase }]).op, none⟩
 ] (by kernel_rfl)))
 (.seq (.live [6] (.draw 7 [
 ⟨.qn (opLoadT (.agg [(.int .i64), (.int .i64), .str]) (some 35) 24 (.tmp 3) d24 ud24 3 sz24 (by kernel_rfl) 24 "law.go:40" #[]) opLoadT_nat, none⟩,
 ⟨.pn (opCallP p13 (some 36) [(.tmp 35)] #[24] 4 "law.go:40" #[{ on := 0, ground := Ground.data }]) (opCallP_nat p13_nat), none⟩,
 ⟨.qn (opLoadT (.agg [(.int .i64), (.int .i64), .str]) (some 37) 24 (.tmp 3) d24 ud24 3 sz24 (by kernel_rfl) 24 "law.go:40" #[]) opLoadT_nat, none⟩,
 ⟨.pn (opCallP p20 (some 38) [(.tmp 37)] #[24] 4 "law.go:40" #[{ on := 2, ground := Ground.data }, { on := 1, ground := Ground.chain }]) (opCallP_nat p20_nat), none⟩,
 ⟨.p (opEq (some 39) 4 .bool Tryd.underlying4 (.tmp 36) (.tmp 38) (.inr rfl) 4 4 "law.go:40" #[{ on := 1, ground := Ground.data }, { on := 3, ground := Ground.data }]), none⟩,
 ⟨.p (opMove (some 40) (.tmp 39) 4 "law.go:40" #[{ on := 4, ground := Ground.data }, { on := 3, ground := Ground.chain }]), none⟩,
 ⟨.qn (opLoadT (.agg [(.int .i64), (.int .i64), .str]) (some 41) 24 (.tmp 3) d24 ud24 3 sz24 (by kernel_rfl) 24 "law.go:40" #[{ on := 5, ground := Ground.guard }]) opLoadT_nat, (some (5, 40, true))⟩,
 ⟨.qn (opLoadT (.agg [(.int .i64), (.int .i64), .str]) (some 42) 24 (.tmp 4) d24 ud24 3 sz24 (by kernel_rfl) 24 "law.go:40" #[{ on := 5, ground := Ground.guard }]) opLoadT_nat, (some (5, 40, true))⟩,
 ⟨.pn (opCallP p21 (some 43) [(.tmp 41), (.tmp 42)] #[24, 24] 3 "law.go:40" #[{ on := 6, ground := Ground.data }, { on := 7, ground := Ground.data }, { on := 5, ground := Ground.chain }, { on := 5, ground := Ground.guard }]) (opCallP_nat p21_nat), (some (5, 40, true))⟩,
 ⟨.qn (opLoadT (.agg [(.int .i64), (.int .i64), .str]) (some 44) 24 (.tmp 3) d24 ud24 3 sz24 (by kernel_rfl) 24 "law.go:40" #[{ on := 5, ground := Ground.guard }]) opLoadT_nat, (some (5, 40, true))⟩,
 ⟨.qn (opLoadT (.agg [(.int .i64), (.int .i64), .str]) (some 45) 24 (.tmp 4) d24 ud24 3 sz24 (by kernel_rfl) 24 "law.go:40" #[{ on := 5, ground := Ground.guard }]) opLoadT_nat, (some (5, 40, true))⟩,
 ⟨.pn (opCallP p22 (some 46) [(.tmp 44), (.tmp 45)] #[24, 24] 3 "law.go:40" #[{ on := 9, ground := Ground.data }, { on := 10, ground := Ground.data }, { on := 8, ground := Ground.chain }, { on := 5, ground := Ground.guard }]) (opCallP_nat p22_nat), (some (5, 40, true))⟩,
 ⟨.pn (opBin (some 47) .eql 3 (.tmp 43) (.tmp 46) 3 4 "law.go:40" #[{ on := 8, ground := Ground.data }, { on := 11, ground := Ground.data }, { on := 5, ground := Ground.guard }]) opBin_nat, (some (5, 40, true))⟩,
 ⟨.p (opPick (some 48) (.tmp 40) (.tmp 47) (.const (Value.bool false)) 4 "law.go:40" #[{ on := 5, ground := Ground.data }, { on := 12, ground := Ground.data }]), none⟩,
 ⟨.p (opMove (some 49) (.tmp 48) 4 "law.go:40" #[{ on := 13, ground := Ground.data }, { on := 11, ground := Ground.chain }]), none⟩,
 ⟨.p (opMove (some 50) (.tmp 7) 3 "law.go:40" #[{ on := 14, ground := Ground.guard }]), (some (14, 49, true))⟩,
 ⟨.p (opMove (some 51) (.tmp 9) 3 "law.go:40" #[{ on := 14, ground := Ground.guard }]), (some (14, 49, true))⟩,
 ⟨.pn (opBin (some 52) .eql 3 (.tmp 50) (.tmp 51) 3 4 "law.go:40" #[{ on := 15, ground := Ground.data }, { on := 16, ground := Ground.data }, { on := 14, ground := Ground.guard }]) opBin_nat, (some (14, 49, true))⟩,
 ⟨.p (opPick (some 53) (.tmp 49) (.tmp 52) (.const (Value.bool false)) 4 "law.go:40" #[{ on := 14, ground := Ground.data }, { on := 17, ground := Ground.data }]), none⟩,
 ⟨.p (opMove (some 54) (.tmp 53) 4 "law.go:40" #[{ on := 18, ground := Ground.data }, { on := 14, ground := Ground.chain }]), none⟩,
 ⟨.p (opMove (some 55) (.tmp 8) 4 "law.go:40" #[{ on := 19, ground := Ground.guard }]), (some (19, 54, true))⟩,
 ⟨.p (opMove (some 56) (.tmp 10) 4 "law.go:40" #[{ on := 19, ground := Ground.guard }]), (some (19, 54, true))⟩,
 ⟨.p (opEq (some 57) 4 .bool Tryd.underlying4 (.tmp 55) (.tmp 56) (.inr rfl) 4 4 "law.go:40" #[{ on := 20, ground := Ground.data }, { on := 21, ground := Ground.data }, { on := 19, ground := Ground.guard }]), (some (19, 54, true))⟩,
 ⟨.p (opPick (some 58) (.tmp 54) (.tmp 57) (.const (Value.bool false)) 4 "law.go:40" #[{ on := 19, ground := Ground.data }, { on := 22, ground := Ground.data }]), none⟩,
 ⟨.p (opMove (some 59) (.tmp 58) 4 "law.go:40" #[{ on := 23, ground := Ground.data }, { on := 19, ground := Ground.chain }]), none⟩,
 ⟨.qn (opLoadT (.agg [(.int .i64), (.int .i64), .str]) (some 60) 24 (.tmp 3) d24 ud24 3 sz24 (by kernel_rfl) 24 "law.go:40" #[{ on := 24, ground := Ground.guard }]) opLoadT_nat, (some (24, 59, true))⟩,
 ⟨.qn (opLoadT (.agg [.str, (.int .i64), .bool]) (some 61) 32 (.tmp 5) d32 ud32 3 sz32 (by kernel_rfl) 32 "law.go:40" #[{ on := 24, ground := Ground.guard }]) opLoadT_nat, (some (24, 59, true))⟩,
 ⟨.pn (opCallP p14 (some 62) [(.tmp 60), (.tmp 61)] #[24, 32] 33 "law.go:40" #[{ on := 25, ground := Ground.data }, { on := 26, ground := Ground.data }, { on := 24, ground := Ground.chain }, { on := 24, ground := Ground.guard }]) (opCallP_nat p14_nat), (some (24, 59, true))⟩,
 ⟨.qn (opLoadT (.agg [(.int .i64), (.int .i64), .str]) (some 63) 24 (.tmp 3) d24 ud24 3 sz24 (by kernel_rfl) 24 "law.go:40" #[{ on := 24, ground := Ground.guard }]) opLoadT_nat, (some (24, 59, true))⟩,
 ⟨.qn (opLoadT (.agg [.str, (.int .i64), .bool]) (some 64) 32 (.tmp 5) d32 ud32 3 sz32 (by kernel_rfl) 32 "law.go:40" #[{ on := 24, ground := Ground.guard }]) opLoadT_nat, (some (24, 59, true))⟩,
 ⟨.pn (opCallP p23 (some 65) [(.tmp 63), (.tmp 64)] #[24, 32] 33 "law.go:40" #[{ on := 28, ground := Ground.data }, { on := 29, ground := Ground.data }, { on := 27, ground := Ground.chain }, { on := 24, ground := Ground.guard }]) (opCallP_nat p23_nat), (some (24, 59, true))⟩,
 ⟨.pn (opBin (some 66) .eql 33 (.tmp 62) (.tmp 65) 33 4 "law.go:40" #[{ on := 27, ground := Ground.data }, { on := 30, ground := Ground.data }, { on := 24, ground := Ground.guard }]) opBin_nat, (some (24, 59, true))⟩,
 ⟨.p (opPick (some 67) (.tmp 59) (.tmp 66) (.const (Value.bool false)) 4 "law.go:40" #[{ on := 24, ground := Ground.data }, { on := 31, ground := Ground.data }]), none⟩,
 ⟨.p (opMove (some 68) (.tmp 67) 4 "law.go:40" #[{ on := 32, ground := Ground.data }, { on := 30, ground := Ground.chain }]), none⟩,
 ⟨.qn (opLoadT (.agg [(.int .i64), (.int .i64), .str]) (some 69) 24 (.tmp 3) d24 ud24 3 sz24 (by kernel_rfl) 24 "law.go:40" #[{ on := 33, ground := Ground.guard }]) opLoadT_nat, (some (33, 68, true))⟩,
 ⟨.pn (opCallP p12 (some 70) [(.tmp 69)] #[24] 9 "law.go:40" #[{ on := 34, ground := Ground.data }, { on := 33, ground := Ground.chain }, { on := 33, ground := Ground.guard }]) (opCallP_nat p12_nat), (some (33, 68, true))⟩,
 ⟨.qn (opLoadT (.agg [(.int .i64), (.int .i64), .str]) (some 71) 24 (.tmp 3) d24 ud24 3 sz24 (by kernel_rfl) 24 "law.go:40" #[{ on := 33, ground := Ground.guard }]) opLoadT_nat, (some (33, 68, true))⟩,
 ⟨.pn (opCallP p24 (some 72) [(.tmp 71)] #[24] 9 "law.go:40" #[{ on := 36, ground := Ground.data }, { on := 35, ground := Ground.chain }, { on := 33, ground := Ground.guard }]) (opCallP_nat p24_nat), (some (33, 68, true))⟩,
 ⟨.pn (opBinS (some 73) .eql 9 (.tmp 70) (.tmp 72) 9 4 "law.go:40" #[{ on := 35, ground := Ground.data }, { on := 37, ground := Ground.data }, { on := 33, ground := Ground.guard }]) opBinS_nat, (some (33, 68, true))⟩,
 ⟨.p (opPick (some 74) (.tmp 68) (.tmp 73) (.const (Value.bool false)) 4 "law.go:40" #[{ on := 33, ground := Ground.data }, { on := 38, ground := Ground.data }]), none⟩,
 ⟨.p (opAssign (some 6) (.tmp 74) 4 "law.go:40" #[{ on := 39, ground := Ground.data }, { on := 37, ground := Ground.chain }, { on := 0, ground := Ground.phase }, { on := 1, ground := Ground.phase }, { on := 2, ground := Ground.phase }, { on := 3, ground := Ground.phase }, { on := 4, ground := Ground.phase }, { on := 5, ground := Ground.phase }, { on := 6, ground := Ground.phase }, { on := 7, ground := Ground.phase }, { on := 8, ground := Ground.phase }, { on := 9, ground := Ground.phase }, { on := 10, ground := Ground.phase }, { on := 11, ground := Ground.phase }, { on := 12, ground := Ground.phase }, { on := 13, ground := Ground.phase }, { on := 14, ground := Ground.phase }, { on := 15, ground := Ground.phase }, { on := 16, ground := Ground.phase }, { on := 17, ground := Ground.phase }, { on := 18, ground := Ground.phase }, { on := 19, ground := Ground.phase }, { on := 20, ground := Ground.phase }, { on := 21, ground := Ground.phase }, { on := 22, ground := Ground.phase }, { on := 23, ground := Ground.phase }, { on := 24, ground := Ground.phase }, { on := 25, ground := Ground.phase }, { on := 26, ground := Ground.phase }, { on := 27, ground := Ground.phase }, { on := 28, ground := Ground.phase }, { on := 29, ground := Ground.phase }, { on := 30, ground := Ground.phase }, { on := 31, ground := Ground.phase }, { on := 32, ground := Ground.phase }, { on := 33, ground := Ground.phase }, { on := 34, ground := Ground.phase }, { on := 35, ground := Ground.phase }, { on := 36, ground := Ground.phase }, { on := 37, ground := Ground.phase }, { on := 38, ground := Ground.phase }, { on := 39, ground := Ground.phase }]), none⟩
 ] mixed (by kernel_rfl)))
 (.live [6] .ret)))))))

noncomputable def f7 : Fun Tryd.prog where
 id := 7
 fn := Tryd.f7
 hf := Tryd.func7
 hname := by kernel_rfl
 body := f7_b
 hbody := by kernel_rfl
 res := [rTmp 6]
 hres := by kernel_rfl
 n := 75
 hn := by kernel_rfl

end Go.Proofs.YtcfedmheblbdnaaDoor.V

/- What the functions' runs come to; the right sides were printed by a tool, Lean checks them. -/
set_option linter.unusedVariables false
set_option maxRecDepth 100000
namespace Go.Proofs.YtcfedmheblbdnaaDoor.V
open Go Go.V Go.RowKit

theorem asks_run (F : Nat) (a b : Va) (c : Co) :
 (f7.run F [a.av, b.av, c.av] ⟨[], []⟩ : Ans) =
 branch (AV.bool (decide ((↑a.s.size : Int) > (1000 : Int)))) (some (Fin.ret (AV.bool true), St.mk [] []))
 (branch (AV.bool (decide ((↑b.s.size : Int) > (1000 : Int)))) (some (Fin.ret (AV.bool true), St.mk [] []))
 (branch
 (AV.bool
 (cdec
 ((Va.mk (hdI a.cells) (hdI a.cells.tail) (hdS a.cells.tail.tail),
 Va.mk (hdI b.cells) (hdI b.cells.tail) (hdS b.cells.tail.tail)).fst.s.size ≤
 100000)))
 (branch
 (AV.bool
 (rightV (Va.mk (hdI a.cells) (hdI a.cells.tail) (hdS a.cells.tail.tail)) ==
 rightV (Va.mk (hdI a.cells) (hdI a.cells.tail) (hdS a.cells.tail.tail))))
 (branch
 (AV.bool
 (cdec
 ((Va.mk (hdI a.cells) (hdI a.cells.tail) (hdS a.cells.tail.tail),
 Va.mk (hdI b.cells) (hdI b.cells.tail) (hdS b.cells.tail.tail)).fst.s.size ≤
 100000)))
 (branch
 (AV.bool
 (cmpV
 (Va.mk (hdI a.cells) (hdI a.cells.tail) (hdS a.cells.tail.tail),
 Va.mk (hdI b.cells) (hdI b.cells.tail) (hdS b.cells.tail.tail)).fst
 (Va.mk (hdI a.cells) (hdI a.cells.tail) (hdS a.cells.tail.tail),
 Va.mk (hdI b.cells) (hdI b.cells.tail) (hdS b.cells.tail.tail)).snd ==
 cmpV
 (Va.mk (hdI a.cells) (hdI a.cells.tail) (hdS a.cells.tail.tail),
 Va.mk (hdI b.cells) (hdI b.cells.tail) (hdS b.cells.tail.tail)).fst
 (Va.mk (hdI a.cells) (hdI a.cells.tail) (hdS a.cells.tail.tail),
 Va.mk (hdI b.cells) (hdI b.cells.tail) (hdS b.cells.tail.tail)).snd))
 (branch
 (AV.bool
 (cmpC
 (Va.mk (hdI a.cells) (hdI a.cells.tail) (hdS a.cells.tail.tail),
 Va.mk (hdI b.cells) (hdI b.cells.tail) (hdS b.cells.tail.tail)).fst
 (Va.mk (hdI a.cells) (hdI a.cells.tail) (hdS a.cells.tail.tail),
 Va.mk (hdI b.cells) (hdI b.cells.tail) (hdS b.cells.tail.tail)).snd ==
 cmpC
 (Va.mk (hdI a.cells) (hdI a.cells.tail) (hdS a.cells.tail.tail),
 Va.mk (hdI b.cells) (hdI b.cells.tail) (hdS b.cells.tail.tail)).fst
 (Va.mk (hdI a.cells) (hdI a.cells.tail) (hdS a.cells.tail.tail),
 Va.mk (hdI b.cells) (hdI b.cells.tail) (hdS b.cells.tail.tail)).snd))
 (branch
 (AV.bool
 (canC
 (Va.mk (hdI a.cells) (hdI a.cells.tail) (hdS a.cells.tail.tail),
 Va.mk (hdI b.cells) (hdI b.cells.tail) (hdS b.cells.tail.tail)).fst
 (Va.mk (hdI a.cells) (hdI a.cells.tail) (hdS a.cells.tail.tail),
 Va.mk (hdI b.cells) (hdI b.cells.tail) (hdS b.cells.tail.tail)).snd ==
 canC
 (Va.mk (hdI a.cells) (hdI a.cells.tail) (hdS a.cells.tail.tail),
 Va.mk (hdI b.cells) (hdI b.cells.tail) (hdS b.cells.tail.tail)).fst
 (Va.mk (hdI a.cells) (hdI a.cells.tail) (hdS a.cells.tail.tail),
 Va.mk (hdI b.cells) (hdI b.cells.tail) (hdS b.cells.tail.tail)).snd))
 (branch
 (AV.bool
 (fitsV
 (Va.mk (hdI a.cells) (hdI a.cells.tail) (hdS a.cells.tail.tail),
 Co.mk (hdS c.cells) (hdI c.cells.tail) (hdB c.cells.tail.tail)).fst
 (Va.mk (hdI a.cells) (hdI a.cells.tail) (hdS a.cells.tail.tail),
 Co.mk (hdS c.cells) (hdI c.cells.tail) (hdB c.cells.tail.tail)).snd ==
 fitsV
 (Va.mk (hdI a.cells) (hdI a.cells.tail) (hdS a.cells.tail.tail),
 Co.mk (hdS c.cells) (hdI c.cells.tail) (hdB c.cells.tail.tail)).fst
 (Va.mk (hdI a.cells) (hdI a.cells.tail) (hdS a.cells.tail.tail),
 Co.mk (hdS c.cells) (hdI c.cells.tail) (hdB c.cells.tail.tail)).snd))
 (branch (AV.bool (okSh (Va.mk (hdI a.cells) (hdI a.cells.tail) (hdS a.cells.tail.tail))))
 (branch (AV.bool (okSh (Va.mk (hdI a.cells) (hdI a.cells.tail) (hdS a.cells.tail.tail))))
 (some
 (Fin.ret
 (AV.bool
 ((showV (Va.mk (hdI a.cells) (hdI a.cells.tail) (hdS a.cells.tail.tail))).toList ==
 (showV (Va.mk (hdI a.cells) (hdI a.cells.tail) (hdS a.cells.tail.tail))).toList)),
 St.mk [] []))
 none)
 none)
 (some (Fin.ret (AV.bool false), St.mk [] [])))
 (some (Fin.ret (AV.bool false), St.mk [] [])))
 (some (Fin.ret (AV.bool false), St.mk [] [])))
 (some (Fin.ret (AV.bool false), St.mk [] [])))
 none)
 (some (Fin.ret (AV.bool false), St.mk [] [])))
 none)) := by kernel_rfl

end Go.Proofs.YtcfedmheblbdnaaDoor.V

/- Values: ValueAsks is true. -/
set_option linter.unusedVariables false
namespace Go.Proofs.YtcfedmheblbdnaaDoor.V
open Go Go.V Go.RowKit

theorem asks_true (a b : Va) (c : Co) (h1 : -9223372036854775808 ≤ a.n) (h2 : a.n ≤ 9223372036854775807) : ∃ st, f7.run 0 [a.av, b.av, c.av] ⟨[], []⟩ = some (.ret (.bool true), st) := by
  rw [asks_run]
  by_cases la : (a.s.size : Int) > 1000
  · rw [branch_of (decide_eq_true la)]; exact ⟨_, rfl⟩
  rw [branch_not (decide_eq_false la)]
  by_cases lb : (b.s.size : Int) > 1000
  · rw [branch_of (decide_eq_true lb)]; exact ⟨_, rfl⟩
  rw [branch_not (decide_eq_false lb)]
  have e : cdec ((Va.mk (hdI a.cells) (hdI a.cells.tail) (hdS a.cells.tail.tail), Va.mk (hdI b.cells) (hdI b.cells.tail) (hdS b.cells.tail.tail)).fst.s.size ≤ 100000) = true := cdec_iff.mpr (show a.s.size ≤ 100000 by omega)
  have e2 : okSh (Va.mk (hdI a.cells) (hdI a.cells.tail) (hdS a.cells.tail.tail)) = true := cdec_iff.mpr ⟨h1, h2, show a.s.size ≤ 1000 by omega⟩
  rw [branch_of e, branch_of (beq_self_eq_true _), branch_of e, branch_of (beq_self_eq_true _), branch_of (beq_self_eq_true _), branch_of (beq_self_eq_true _), branch_of (beq_self_eq_true _), branch_of e2, branch_of e2, beq_self_eq_true]
  exact ⟨_, rfl⟩
theorem va_shape2 {xs : List AV} (h : Ty.Shape tyVa xs) : ∃ v : Va, xs = v.cells ∧ -9223372036854775808 ≤ v.n ∧ v.n ≤ 9223372036854775807 := by
  obtain ⟨a, b, rfl, ⟨k, rfl, _⟩, h⟩ := h
  obtain ⟨a, b, rfl, ⟨n, rfl, hn⟩, h⟩ := h
  obtain ⟨a, b, rfl, ⟨s, rfl, hs⟩, h⟩ := h
  obtain rfl : b = [] := h
  simp only [Lit.wf, IntKind.min, IntKind.max, IntKind.signed, IntKind.bits] at hn
  simp at hn
  exact ⟨⟨k, n, s⟩, rfl, by show -9223372036854775808 ≤ n; omega, by show n ≤ 9223372036854775807; omega⟩
theorem asks_law (as0 as1 as2 : List AV) (s0 : Ty.Shape tyVa as0) (s1 : Ty.Shape tyVa as1) (s2 : Ty.Shape tyCo as2) : ∃ F st, f7.run F [tyVa.AV' as0, tyVa.AV' as1, tyCo.AV' as2] ⟨[], []⟩ = some (.ret (.bool true), st) := by
  obtain ⟨a, rfl, h1, h2⟩ := va_shape2 s0
  obtain ⟨b, rfl, _⟩ := va_shape2 s1
  obtain ⟨nm, k, nn, rfl⟩ := co_shape s2
  exact ⟨0, asks_true a b ⟨nm, k, nn⟩ h1 h2⟩
end Go.Proofs.YtcfedmheblbdnaaDoor.V

/- Values: what the rows' condition on package-level variables gives. -/
set_option linter.unusedVariables false
namespace Go.Proofs.YtcfedmheblbdnaaDoor.V
open Go Go.V Go.RowKit

def tens : List Int := [1, 10, 100, 1000, 10000, 100000, 1000000, 10000000, 100000000, 1000000000, 10000000000, 100000000000, 1000000000000, 10000000000000, 100000000000000, 1000000000000000, 10000000000000000, 100000000000000000, 1000000000000000000, 10000000000000000000]
theorem globs_eq : globs = [(0, [.dead]), (1, [.dead]), (2, tens.map fun n => AV.int .u64 n)] := rfl
theorem rel_ints (W : World) : ∀ l : List Int, RelAll g0 W (l.map fun n => AV.int .u64 n) (l.map fun n => Value.int .u64 n)
  | [] => rfl
  | x :: l => ⟨_, _, rfl, rfl, rel_ints W l⟩
theorem laid_pow : (Rows.laid_internal_strconv_uint64pow10 : DataW Unit) = .agg (tens.map fun n => .lit (.int .u64 n)) := rfl
theorem globs_laid {W : World} (h : laidMetH Tryd.prog [("math/bits.deBruijn32tab", Rows.laid_math_bits_deBruijn32tab), ("math/bits.deBruijn64tab", Rows.laid_math_bits_deBruijn64tab), ("internal/strconv.uint64pow10", Rows.laid_internal_strconv_uint64pow10), ("strconv.ErrRange", Rows.laid_strconv_ErrRange), ("strconv.ErrSyntax", Rows.laid_strconv_ErrSyntax)] W) : Globs g0 W := by
  rw [MakeChecks.laidMetH_plain _ _ _ (by kernel_rfl)] at h
  obtain ⟨ps, ⟨_, _, _, _, _, _, _, _, _, _, ⟨_, _, _, _, _, _, _, _, _, _, ⟨g2, t2, cs2, f2, p2, q2, hg2, ht2, hv2, hd2, ⟨g1, t1, cs1, f1, p1, q1, hg1, ht1, hv1, hd1, ⟨g3, t3, cs3, f3, p3, q3, hg3, ht3, hv3, hd3, _, _⟩, _⟩, _⟩, _⟩, _⟩, _, _⟩ := h
  have eP : Tryd.prog.globalNamed "internal/strconv.uint64pow10" = some 2 := by kernel_rfl
  have eR : Tryd.prog.globalNamed "strconv.ErrRange" = some 1 := by kernel_rfl
  have eS : Tryd.prog.globalNamed "strconv.ErrSyntax" = some 0 := by kernel_rfl
  have tP : (Tryd.prog.globals[2]?).map (·.type) = some 117 := by kernel_rfl
  have tR : (Tryd.prog.globals[1]?).map (·.type) = some 73 := by kernel_rfl
  have tS : (Tryd.prog.globals[0]?).map (·.type) = some 73 := by kernel_rfl
  obtain rfl := Option.some.inj (eP.symm.trans hg2)
  obtain rfl := Option.some.inj (eR.symm.trans hg1)
  obtain rfl := Option.some.inj (eS.symm.trans hg3)
  obtain rfl := Option.some.inj (tP.symm.trans ht2)
  obtain rfl := Option.some.inj (tR.symm.trans ht1)
  obtain rfl := Option.some.inj (tS.symm.trans ht3)
  have one : ∀ {g : Nat} {n : String} {cs : Array Value} {u v}, Tryd.prog.globalNamed n = some g → W.var? Tryd.prog n = some cs → cs.toList = [.iface u v] → RelCells g0 W [.dead] g 0 := by
    intro g n cs u v h1 h2 h3
    refine ⟨⟨.iface u v, ?_, trivial, rfl, trivial⟩, trivial⟩
    rw [World.var?_cell h1 h2 0, ← Array.getElem?_toList, h3]; rfl
  obtain ⟨_, _, _, c1, _⟩ := iface_of_trod Tryd.underlying73 hd1
  obtain ⟨_, _, _, c3, _⟩ := iface_of_trod Tryd.underlying73 hd3
  obtain ⟨xs, m, _, hx, hlen, hn, hel⟩ := DataW.trod_array Tryd.underlying117 hd2
  have k84 : Tryd.prog.cellsOf 84 = 1 := by kernel_rfl
  have k117 : Tryd.prog.cellsOf 117 = 20 := by kernel_rfl
  rw [laid_pow] at hx
  simp only [Prod.mk.injEq, DataW.agg.injEq] at hx
  have hx := hx.1
  rw [k117] at hlen
  have hcs : cs2.toList = tens.map fun n => Value.int .u64 n := by
    apply List.ext_getElem?
    intro i
    by_cases hi : i < 20
    · have h1 := hel i hi
      rw [k84, Nat.mul_one, List.drop_eq_getElem_cons (by omega), List.take_succ_cons, List.take_zero] at h1
      have hxi : i < xs.length := by omega
      rw [List.getElem?_eq_getElem hxi] at h1
      obtain ⟨n, e1, e2, _⟩ := DataW.trod_int Tryd.underlying84 h1
      have e3 : (tens.map fun n => (DataW.lit (.int .u64 n) : DataW Unit))[i]? = some (.lit (.int .u64 n)) := by
        rw [hx, List.getElem?_map, List.getElem?_eq_getElem hxi, e2]; rfl
      rw [List.getElem?_map] at e3
      obtain ⟨n', e4, e5⟩ := Option.map_eq_some_iff.mp e3
      simp only [DataW.lit.injEq, Lit.int.injEq, true_and] at e5
      subst e5
      rw [List.getElem?_eq_getElem (by omega), List.getElem?_map, e4]
      simp only [List.cons.injEq, and_true] at e1
      rw [e1]; rfl
    · rw [List.getElem?_eq_none (by omega), List.getElem?_eq_none (by simp [tens]; omega)]
  intro x hx'
  rw [globs_eq] at hx'
  simp only [List.mem_cons, List.not_mem_nil, or_false] at hx'
  rcases hx' with rfl | rfl | rfl
  · exact one eS hv3 c3
  · exact one eR hv1 c1
  · refine RelCells.ofCells _ _ 2 0 (rel_ints W tens) (fun u hu => ?_) fun i u hu => ?_
    · obtain ⟨n, _, rfl⟩ := List.mem_map.mp hu; rfl
    · rw [Nat.zero_add, World.var?_cell eP hv2 i, ← Array.getElem?_toList, hcs]; exact hu
end Go.Proofs.YtcfedmheblbdnaaDoor.V
