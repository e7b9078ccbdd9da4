/- Merged out of 25 texts: what the claim's code comes to, and why. -/
import Derived.Test.YtcfedmheblbdnaaDoorRows
import Derived.WalkKit
import Derived.ProofKit
import Derived.OpenShut
import Derived.LaidMore
import Derived.LaidLaws
import Derived.Test.YtcfedmheblbdnaaDoorR66
/- Values: what is shown is read again: numbers and quoted texts (plain law). -/
set_option linter.unusedVariables false
namespace Go.Proofs.YtcfedmheblbdnaaDoor.V
open Go Go.V Go.RowKit

def digsR (U : Nat) : Nat → List Nat
  | 0 => []
  | r + 1 => (48 + U / 10 ^ r % 10) :: digsR U r
theorem digs_R (U : Nat) : ∀ n, digs U n = digsR U n
  | 0 => rfl
  | n + 1 => by
    rw [digsR, ← digs_R U n, digs, List.range_succ_eq_map, List.map_cons, List.map_map, digs]
    rw [show n + 1 - 1 - 0 = n by omega]
    refine congrArg (List.cons _) (List.map_congr_left fun j hj => ?_)
    simp only [Function.comp, Nat.succ_eq_add_one]
    rw [show n + 1 - 1 - (j + 1) = n - 1 - j by omega]
theorem puF_R {U : Nat} (hU : U ≤ 9223372036854775808) : ∀ r, puF (digsR U r) (U / 10 ^ r) = (U, 0)
  | 0 => by rw [digsR, puF, Nat.pow_zero, Nat.div_one]
  | r + 1 => by
    have h1 : U / 10 ^ (r + 1) ≤ 9223372036854775808 / 10 := by
      rw [Nat.pow_succ, ← Nat.div_div_eq_div_mul]
      exact Nat.div_le_div_right (Nat.le_trans (Nat.div_le_self _ _) hU)
    have h2 : U / 10 ^ (r + 1) * 10 + U / 10 ^ r % 10 = U / 10 ^ r := by
      rw [Nat.pow_succ, ← Nat.div_div_eq_div_mul]; omega
    have h3 : U / 10 ^ r ≤ 9223372036854775808 := Nat.le_trans (Nat.div_le_self _ _) hU
    rw [digsR, puF, if_pos (by omega), show 48 + U / 10 ^ r % 10 - 48 = U / 10 ^ r % 10 by omega, h2, if_neg (by omega)]
    exact puF_R hU r
theorem dec_puL {U : Nat} (hU : U ≤ 9223372036854775808) : puL (dec U) = (U, 0) ∧ ∃ c r, dec U = c :: r ∧ 48 ≤ c ∧ c ≤ 57 := by
  unfold dec
  by_cases hz : U = 0
  · subst hz
    exact ⟨rfl, 48, [], rfl, by omega, by omega⟩
  · obtain ⟨k1, k2, k3, k4⟩ := ndN_spec hz (by omega)
    rw [if_neg hz]
    obtain ⟨n, hn⟩ : ∃ n, ndN U = n + 1 := ⟨ndN U - 1, by omega⟩
    have h := puF_R hU (ndN U)
    rw [Nat.div_eq_of_lt k4] at h
    have hd : digs U (ndN U) = (48 + U / 10 ^ n % 10) :: digsR U n := by rw [digs_R, hn, digsR]
    refine ⟨?_, _, _, hd, by omega, by omega⟩
    rw [puL, if_neg (by rw [hd]; simp), digs_R]; exact h
theorem piF_num {i : Int} (h1 : -9223372036854775808 ≤ i) (h2 : i ≤ 9223372036854775807) : piF (numL i) = (i, 0) := by
  unfold numL
  by_cases hn : i < 0
  · obtain ⟨h, _⟩ := dec_puL (U := (-i).toNat) (by omega)
    rw [if_pos hn, piF, if_neg (by decide), if_pos rfl, h, negF, if_neg (show ¬ (0 : Nat) = 2 by decide), if_neg (show ¬ 9223372036854775808 < (-i).toNat by omega)]
    simp only [Prod.mk.injEq, and_true]; omega
  · obtain ⟨h, c, r, e, hc1, hc2⟩ := dec_puL (U := i.toNat) (by omega)
    rw [if_neg hn, e, piF, if_neg (by omega), if_neg (by omega), ← e, h, posF, if_neg (show ¬ (0 : Nat) = 2 by decide), if_neg (show ¬ 9223372036854775808 ≤ i.toNat by omega)]
    simp only [Prod.mk.injEq, and_true]; omega
theorem digH_hex {u : Nat} (h : u < 16) : digH (hexD u) = (u : Int) := by
  have : (List.range 16).all (fun u => decide (digH (hexD u) = (u : Int))) = true := by decide
  exact of_decide_eq_true (List.all_eq_true.mp this u (List.mem_range.mpr h))
theorem unqF_enc : ∀ (l : List Nat) (n : Nat), (∀ b ∈ l, b < 256) → l.length < n → unqF n (l.flatMap encQ) = some l
  | [], n + 1, _, _ => rfl
  | x :: l, n + 1, hb, hn => by
    have hx := hb x (List.mem_cons_self ..)
    have ih := unqF_enc l n (fun b h => hb b (List.mem_cons_of_mem _ h)) (by simpa using hn)
    rw [List.flatMap_cons]
    cases he : escB x with
    | true =>
      rw [encQ, he, cond_true]
      rw [List.cons_append, List.cons_append, List.cons_append, List.nil_append, unqF]
      simp only [show Nat.beq 92 92 = true from rfl, cond_true]
      rw [digH_hex (by omega), digH_hex (by omega), show (negI ((x / 16 : Nat) : Int) || negI ((x % 16 : Nat) : Int)) = false by
        rw [negI, negI, decide_eq_false (by omega), decide_eq_false (by omega)]; rfl, cond_false, ih, Option.map_some, show (((x / 16 : Nat) : Int) * 16 + ((x % 16 : Nat) : Int)).toNat = x by omega]
    | false =>
      have h92 : Nat.beq x 92 = false := by
        unfold escB at he
        simp only [Bool.or_eq_false_iff] at he
        exact he.2.2.2
      rw [encQ, he, cond_false, List.cons_append, List.nil_append]
      show (match Nat.beq x 92 with | true => _ | false => Option.map (fun r => x :: r) (unqF n (l.flatMap encQ))) = some (x :: l)
      rw [h92, ih]; rfl
theorem enc_len : ∀ l : List Nat, l.length ≤ (l.flatMap encQ).length
  | [] => by simp
  | x :: l => by
    have := enc_len l
    have h : 1 ≤ (encQ x).length := by unfold encQ; cases escB x <;> simp
    rw [List.flatMap_cons, List.length_append, List.length_cons]; omega
theorem unqL_enc {l : List Nat} (hb : ∀ b ∈ l, b < 256) : unqL (l.flatMap encQ) = some l :=
  unqF_enc l _ hb (Nat.lt_succ_of_le (enc_len l))
end Go.Proofs.YtcfedmheblbdnaaDoor.V

/- Values: the reference's place and number, as callees. -/
set_option linter.unusedVariables false
namespace Go.Proofs.YtcfedmheblbdnaaDoor.V
open Go Go.V Go.RowKit

end Go.Proofs.YtcfedmheblbdnaaDoor.V

/- The functions' pieces, as told by gen.py. -/
set_option linter.unusedVariables false
set_option maxRecDepth 20000
namespace Go.Proofs.YtcfedmheblbdnaaDoor.V
open Go Go.V Go.RowKit

theorem sz73 : (Tryd.prog.info? 73).map (·.size) = some 1 := by kernel_rfl
theorem ze114 : (Tryd.prog.info? 114).bind (·.zero) = some (.agg #[(.string ⟨#[]⟩), (.string ⟨#[]⟩), .nilIface]) := by kernel_rfl

/-! ### 80: strconv.syntaxError (9, 9); results 4; slots: 0 fn, 1 str, 2 fn, 3 str -/
noncomputable def f80_b : Sim Tryd.prog :=
 (.seq (.live [0, 1] (.region 0 [
 ⟨(opAssign (some 4) (.const (Value.pointer none)) 102 "number.go:272" #[]).op, none⟩
 ] (by kernel_rfl)))
 (.seq (.live [4] (.draw 1 [
 ⟨.p (opMove (some 5) (.tmp 0) 9 "number.go:273" #[]), none⟩,
 ⟨.p (opMove (some 6) (.tmp 1) 9 "number.go:273" #[]), none⟩,
 ⟨.pn (opCallP p91 (some 7) [(.tmp 6)] #[9] 9 "number.go:273" #[eD 1]) (opCallP_nat p91_nat), none⟩,
 ⟨.qn (QSim.glob (opLoadT (.one .any) (some 8) 73 (.global 0) d73 ud73 1 sz73 (by kernel_rfl) 73 "number.go:273" #[])) (QSim.glob_nat opLoadT_nat), none⟩,
 ⟨.p (opBuild (some 9) 114 #[(.string ⟨#[]⟩), (.string ⟨#[]⟩), .nilIface] [(0, 0, 1, (.tmp 5)), (1, 1, 1, (.tmp 7)), (2, 2, 1, (.tmp 8))] ze114 (by kernel_rfl) 114 "number.go:273" #[eD 0, eD 2, eD 3]), none⟩,
 ⟨.p (opBoxF (some 10) 114 (.tmp 9) 102 "number.go:273" #[eD 4]), none⟩,
 ⟨.p (opAssign (some 4) (.tmp 10) 102 "number.go:273" #[eD 5, eC 2, eP 0, eP 1, eP 2, eP 3, eP 4, eP 5]), none⟩
 ] mixed (by kernel_rfl)))
 (.live [4] .ret)))

noncomputable def f80 : Fun Tryd.prog where
 id := 80
 fn := Tryd.f80
 hf := Tryd.func80
 hname := by kernel_rfl
 body := f80_b
 hbody := by kernel_rfl
 res := [rTmp 4]
 hres := by kernel_rfl
 n := 11
 hn := by kernel_rfl

/-! ### 81: strconv.rangeError (9, 9); results 4; slots: 0 fn, 1 str, 2 fn, 3 str -/
noncomputable def f81_b : Sim Tryd.prog :=
 (.seq (.live [0, 1] (.region 0 [
 ⟨(opAssign (some 4) (.const (Value.pointer none)) 102 "number.go:276" #[]).op, none⟩
 ] (by kernel_rfl)))
 (.seq (.live [4] (.draw 1 [
 ⟨.p (opMove (some 5) (.tmp 0) 9 "number.go:277" #[]), none⟩,
 ⟨.p (opMove (some 6) (.tmp 1) 9 "number.go:277" #[]), none⟩,
 ⟨.pn (opCallP p91 (some 7) [(.tmp 6)] #[9] 9 "number.go:277" #[eD 1]) (opCallP_nat p91_nat), none⟩,
 ⟨.qn (QSim.glob (opLoadT (.one .any) (some 8) 73 (.global 1) d73 ud73 1 sz73 (by kernel_rfl) 73 "number.go:277" #[])) (QSim.glob_nat opLoadT_nat), none⟩,
 ⟨.p (opBuild (some 9) 114 #[(.string ⟨#[]⟩), (.string ⟨#[]⟩), .nilIface] [(0, 0, 1, (.tmp 5)), (1, 1, 1, (.tmp 7)), (2, 2, 1, (.tmp 8))] ze114 (by kernel_rfl) 114 "number.go:277" #[eD 0, eD 2, eD 3]), none⟩,
 ⟨.p (opBoxF (some 10) 114 (.tmp 9) 102 "number.go:277" #[eD 4]), none⟩,
 ⟨.p (opAssign (some 4) (.tmp 10) 102 "number.go:277" #[eD 5, eC 2, eP 0, eP 1, eP 2, eP 3, eP 4, eP 5]), none⟩
 ] mixed (by kernel_rfl)))
 (.live [4] .ret)))

noncomputable def f81 : Fun Tryd.prog where
 id := 81
 fn := Tryd.f81
 hf := Tryd.func81
 hname := by kernel_rfl
 body := f81_b
 hbody := by kernel_rfl
 res := [rTmp 4]
 hres := by kernel_rfl
 n := 11
 hn := by kernel_rfl

/-! ### 71: strconv.toError (9, 9, 3, 3, 73); results 10; slots: 0 fn, 1 s, 2 base, 3 bitSize, 4 err, 5 fn, 6 s, 7 base, 8 bitSize, 9 err -/
noncomputable def f71_b : Sim Tryd.prog :=
 (.seq (.live [0, 1, 2, 3, 4] (.region 0 [
 ⟨(opAssign (some 10) (.const Value.nilIface) 73 "number.go:231" #[]).op, none⟩
 ] (by kernel_rfl)))
 (.seq (.seq (.live [0, 1, 2, 3, 4, 11] (.region 1 [
 ⟨(opMove (some 11) (.tmp 4) 73 "number.go:232" #[]).op, none⟩
 ] (by kernel_rfl)))
 (.block 0 (.seq (.live [0, 1, 2, 3, 4, 11, 12] (.region 2 [
 ⟨(opMakeIface (some 13) 99 (.const (Value.int IntKind.i64 2)) (.int .i64) Tryd.underlying99 (by kernel_rfl) 73 "number.go:233" #[]).op, none⟩,
 ⟨(opEqI (some 14) 73 99 .i64 if73 Tryd.underlying99 cp99 (.tmp 11) (.tmp 13) 73 4 "number.go:233" #[eD 0]).op, none⟩,
 ⟨(opAssign (some 12) (.tmp 14) 4 "number.go:233" #[eD 1]).op, none⟩
 ] (by kernel_rfl)))
 (.cond (.tmp 12)
 (.seq (.live [10] (.region 3 [
 ⟨(opMove (some 15) (.tmp 0) 9 "number.go:234" #[]).op, none⟩,
 ⟨(opMove (some 16) (.tmp 1) 9 "number.go:234" #[]).op, none⟩,
 ⟨opCall (f80.orc 0) (some 17) [(.tmp 15), (.tmp 16)] #[9, 9] 102 "number.go:234" #[eD 0, eD 1], none⟩,
 ⟨(opMakeIface (some 18) 102 (.tmp 17) (.pointer 114) Tryd.underlying102 (by kernel_rfl) 73 "number.go:234" #[eD 2]).op, none⟩,
 ⟨(opAssign (some 10) (.tmp 18) 73 "number.go:234" #[eD 3, eC 2, eP 0, eP 1, eP 2, eP 3]).op, none⟩
 ] (by kernel_rfl)))
 (.live [10] .ret))
 (.seq (.live [0, 1, 2, 3, 4, 11, 19] (.region 4 [
 ⟨(opMakeIface (some 20) 99 (.const (Value.int IntKind.i64 1)) (.int .i64) Tryd.underlying99 (by kernel_rfl) 73 "number.go:235" #[]).op, none⟩,
 ⟨(opEqI (some 21) 73 99 .i64 if73 Tryd.underlying99 cp99 (.tmp 11) (.tmp 20) 73 4 "number.go:235" #[eD 0]).op, none⟩,
 ⟨(opAssign (some 19) (.tmp 21) 4 "number.go:235" #[eD 1]).op, none⟩
 ] (by kernel_rfl)))
 (.cond (.tmp 19)
 (.seq (.live [10] (.region 5 [
 ⟨(opMove (some 22) (.tmp 0) 9 "number.go:236" #[]).op, none⟩,
 ⟨(opMove (some 23) (.tmp 1) 9 "number.go:236" #[]).op, none⟩,
 ⟨opCall (f81.orc 0) (some 24) [(.tmp 22), (.tmp 23)] #[9, 9] 102 "number.go:236" #[eD 0, eD 1], none⟩,
 ⟨(opMakeIface (some 25) 102 (.tmp 24) (.pointer 114) Tryd.underlying102 (by kernel_rfl) 73 "number.go:236" #[eD 2]).op, none⟩,
 ⟨(opAssign (some 10) (.tmp 25) 73 "number.go:236" #[eD 3, eC 2, eP 0, eP 1, eP 2, eP 3]).op, none⟩
 ] (by kernel_rfl)))
 (.live [10] .ret))
 (.seq (.live [0, 1, 2, 3, 4, 11, 26] (.region 6 [
 ⟨(opMakeIface (some 27) 99 (.const (Value.int IntKind.i64 3)) (.int .i64) Tryd.underlying99 (by kernel_rfl) 73 "number.go:237" #[]).op, none⟩,
 ⟨(opEqI (some 28) 73 99 .i64 if73 Tryd.underlying99 cp99 (.tmp 11) (.tmp 27) 73 4 "number.go:237" #[eD 0]).op, none⟩,
 ⟨(opAssign (some 26) (.tmp 28) 4 "number.go:237" #[eD 1]).op, none⟩
 ] (by kernel_rfl)))
 (.cond (.tmp 26)
 (.seq (.live [10] (.region 7 [
 ⟨(opMove (some 29) (.tmp 0) 9 "number.go:238" #[]).op, none⟩,
 ⟨(opMove (some 30) (.tmp 1) 9 "number.go:238" #[]).op, none⟩,
 ⟨(opMove (some 31) (.tmp 2) 3 "number.go:238" #[]).op, none⟩,
 ⟨opCall (Orc.dead 82 Tryd.f82 Tryd.func82 (by kernel_rfl) (by kernel_rfl)) (some 32) [(.tmp 29), (.tmp 30), (.tmp 31)] #[9, 9, 3] 102 "number.go:238" #[eD 0, eD 1, eD 2], none⟩,
 ⟨(opMakeIface (some 33) 102 (.tmp 32) (.pointer 114) Tryd.underlying102 (by kernel_rfl) 73 "number.go:238" #[eD 3]).op, none⟩,
 ⟨(opAssign (some 10) (.tmp 33) 73 "number.go:238" #[eD 4, eC 3, eP 0, eP 1, eP 2, eP 3, eP 4]).op, none⟩
 ] (by kernel_rfl)))
 (.live [10] .ret))
 (.seq (.live [0, 1, 3, 4, 34] (.region 8 [
 ⟨(opMakeIface (some 35) 99 (.const (Value.int IntKind.i64 4)) (.int .i64) Tryd.underlying99 (by kernel_rfl) 73 "number.go:239" #[]).op, none⟩,
 ⟨(opEqI (some 36) 73 99 .i64 if73 Tryd.underlying99 cp99 (.tmp 11) (.tmp 35) 73 4 "number.go:239" #[eD 0]).op, none⟩,
 ⟨(opAssign (some 34) (.tmp 36) 4 "number.go:239" #[eD 1]).op, none⟩
 ] (by kernel_rfl)))
 (.cond (.tmp 34)
 (.seq (.live [10] (.region 9 [
 ⟨(opMove (some 37) (.tmp 0) 9 "number.go:240" #[]).op, none⟩,
 ⟨(opMove (some 38) (.tmp 1) 9 "number.go:240" #[]).op, none⟩,
 ⟨(opMove (some 39) (.tmp 3) 3 "number.go:240" #[]).op, none⟩,
 ⟨opCall (Orc.dead 83 Tryd.f83 Tryd.func83 (by kernel_rfl) (by kernel_rfl)) (some 40) [(.tmp 37), (.tmp 38), (.tmp 39)] #[9, 9, 3] 102 "number.go:240" #[eD 0, eD 1, eD 2], none⟩,
 ⟨(opMakeIface (some 41) 102 (.tmp 40) (.pointer 114) Tryd.underlying102 (by kernel_rfl) 73 "number.go:240" #[eD 3]).op, none⟩,
 ⟨(opAssign (some 10) (.tmp 41) 73 "number.go:240" #[eD 4, eC 3, eP 0, eP 1, eP 2, eP 3, eP 4]).op, none⟩
 ] (by kernel_rfl)))
 (.live [10] .ret))
 .skip))))))))))
 (.seq (.live [10] (.region 10 [
 ⟨(opMove (some 42) (.tmp 4) 73 "number.go:242" #[]).op, none⟩,
 ⟨(opAssign (some 10) (.tmp 42) 73 "number.go:242" #[eD 0, eP 0]).op, none⟩
 ] (by kernel_rfl)))
 (.live [10] .ret))))

noncomputable def f71 : Fun Tryd.prog where
 id := 71
 fn := Tryd.f71
 hf := Tryd.func71
 hname := by kernel_rfl
 body := f71_b
 hbody := by kernel_rfl
 res := [rTmp 10]
 hres := by kernel_rfl
 n := 43
 hn := by kernel_rfl

/-! ### 53: strconv.Atoi (9); results 2, 3; slots: 0 s, 1 s, 4 x, 5 err -/
noncomputable def f53_b : Sim Tryd.prog :=
 (.seq (.live [0] (.region 0 [
 ⟨(opAssign (some 2) (.const (Value.int IntKind.i64 0)) 3 "number.go:146" #[]).op, none⟩,
 ⟨(opAssign (some 3) (.const Value.nilIface) 73 "number.go:146" #[eC 0]).op, none⟩
 ] (by kernel_rfl)))
 (.seq (.live [0, 4, 5] (.region 1 [
 ⟨(opMove (some 7) (.tmp 0) 9 "number.go:147" #[]).op, none⟩,
 ⟨(opCallP p70 (some 8) [(.tmp 7)] #[9] 74 "number.go:147" #[eD 0]).op, none⟩,
 ⟨(opMove (some 6) (.tmp 8) 74 "number.go:147" #[eD 1]).op, none⟩,
 ⟨(opExtract (some 9) (.tmp 6) 0 3 "number.go:147" #[eD 2]).op, none⟩,
 ⟨(opExtract (some 10) (.tmp 6) 1 73 "number.go:147" #[eD 2, { on := 5, ground := (Ground.gcOnly Departure.lateStores) }]).op, none⟩,
 ⟨(opAssign (some 4) (.tmp 9) 3 "number.go:147" #[eD 3, eC 1, eP 0, eP 1, eP 2, eP 3, { on := 4, ground := (Ground.textOnly Departure.lateStores) }]).op, none⟩,
 ⟨(opAssign (some 5) (.tmp 10) 73 "number.go:147" #[eD 4, eC 5, eP 0, eP 1, eP 2, eP 3, eP 4, eP 5]).op, none⟩
 ] (by kernel_rfl)))
 (.seq (.seq (.live [0, 4, 5, 12] (.region 2 [
 ⟨(opMove (some 11) (.tmp 5) 73 "number.go:148" #[]).op, none⟩,
 ⟨(opNe (some 12) 73 d73 ud73 (.tmp 11) (.const Value.nilIface) (.inl rfl) 73 4 "number.go:148" #[eD 0]).op, none⟩
 ] (by kernel_rfl)))
 (.cond (.tmp 12)
 (.seq (.live [2, 3] (.region 3 [
 ⟨(opMove (some 13) (.tmp 4) 3 "number.go:149" #[]).op, none⟩,
 ⟨(opMove (some 14) (.tmp 0) 9 "number.go:149" #[]).op, none⟩,
 ⟨(opMove (some 15) (.tmp 5) 73 "number.go:149" #[]).op, none⟩,
 ⟨opCall (f71.orc 0) (some 16) [(.const (Value.string { data := #[65, 116, 111, 105] })), (.tmp 14), (.const (Value.int IntKind.i64 0)), (.const (Value.int IntKind.i64 0)), (.tmp 15)] #[9, 9, 3, 3, 73] 73 "number.go:149" #[eD 1, eD 2], none⟩,
 ⟨(opAssign (some 2) (.tmp 13) 3 "number.go:149" #[eD 0, eC 3, eP 0, { on := 1, ground := (Ground.textOnly Departure.lateStores) }, { on := 2, ground := (Ground.textOnly Departure.lateStores) }, { on := 3, ground := (Ground.textOnly Departure.lateStoresUnsure) }]).op, none⟩,
 ⟨(opAssign (some 3) (.tmp 16) 73 "number.go:149" #[eD 3, eC 4, eP 0, eP 1, eP 2, eP 3, eP 4]).op, none⟩
 ] (by kernel_rfl)))
 (.live [2, 3] .ret))
 .skip))
 (.seq (.live [2, 3] (.region 4 [
 ⟨(opMove (some 17) (.tmp 4) 3 "number.go:151" #[]).op, none⟩,
 ⟨(opAssign (some 2) (.tmp 17) 3 "number.go:151" #[eD 0, eP 0]).op, none⟩,
 ⟨(opAssign (some 3) (.const Value.nilIface) 73 "number.go:151" #[eC 1, eP 0, eP 1]).op, none⟩
 ] (by kernel_rfl)))
 (.live [2, 3] .ret)))))

noncomputable def f53 : Fun Tryd.prog where
 id := 53
 fn := Tryd.f53
 hf := Tryd.func53
 hname := by kernel_rfl
 body := f53_b
 hbody := by kernel_rfl
 res := [rTmp 2, rTmp 3]
 hres := by kernel_rfl
 n := 18
 hn := by kernel_rfl

end Go.Proofs.YtcfedmheblbdnaaDoor.V

/- What the functions' runs come to; the right sides were printed by a tool, Lean checks them. -/
set_option linter.unusedVariables false
set_option maxRecDepth 100000
namespace Go.Proofs.YtcfedmheblbdnaaDoor.V
open Go Go.V Go.RowKit

theorem sa_run (F : Nat) (s : ByteArray) :
 (f53.run F [.str s] ⟨[], []⟩ : Ans) =
 branch (AV.bool (cdec (s.size ≤ 100000)))
 (branch (AV.bool (cdec ((piF (strL s)).snd = 0)))
 (some (Fin.ret (AV.tup [AV.int IntKind.i64 (opq (piF (strL s)).fst), AV.nilif]), St.mk [] []))
 (branch (AV.bool (cdec ((piF (strL s)).snd = 1)))
 (branch (AV.bool (cdec (s.size ≤ 100000)))
 (some
 (Fin.ret
 (AV.tup
 [AV.int IntKind.i64 (opq (piF (strL s)).fst),
 AV.ifc 102
 (AV.eptr
 [AV.str (ByteArray.mk #[(65 : UInt8), (116 : UInt8), (111 : UInt8), (105 : UInt8)]), AV.str s,
 AV.ifc 122 AV.dead])]),
 St.mk [] []))
 none)
 (branch (AV.bool (cdec ((piF (strL s)).snd = 2)))
 (branch (AV.bool (cdec (s.size ≤ 100000)))
 (some
 (Fin.ret
 (AV.tup
 [AV.int IntKind.i64 (opq (piF (strL s)).fst),
 AV.ifc 102
 (AV.eptr
 [AV.str (ByteArray.mk #[(65 : UInt8), (116 : UInt8), (111 : UInt8), (105 : UInt8)]), AV.str s,
 AV.ifc 122 AV.dead])]),
 St.mk [] []))
 none)
 none)))
 none := by kernel_rfl

end Go.Proofs.YtcfedmheblbdnaaDoor.V

/- Values: strconv.Atoi, as a callee: its error is read as one, no more. -/
set_option linter.unusedVariables false
namespace Go.Proofs.YtcfedmheblbdnaaDoor.V
open Go Go.V Go.RowKit

def saE (e : Nat) : AV := if e = 0 then .nilif else .ifc 102 .dead
def saA (x : Int × Nat) : AV := .tup [.int .i64 x.1, saE x.2]
theorem sa_can (s : ByteArray) (h : cdec (s.size ≤ 100000) = true) : ScopedL 0 0 [AV.str s] ∧ ∃ r F r' st', frz r' = r ∧ Scoped 0 0 r ∧ f53.run F [.str s] ⟨[], []⟩ = some (.ret r', st') ∧ ∀ g w v, Rel g w r v → Rel g w (saA (piF (strL s))) v := by
  refine ⟨⟨trivial, trivial⟩, ?_⟩
  have hr := sa_run 0 s
  rw [h, br_t, opq_eq] at hr
  have h3 := piF_le (strL s)
  generalize piF (strL s) = x at *
  obtain ⟨n, e⟩ := x
  simp only at h3 hr ⊢
  rcases h3 with rfl | rfl | rfl
  · rw [branch_of (cdec_iff.mpr rfl)] at hr
    refine ⟨AV.tup [AV.int IntKind.i64 n, AV.nilif], 0, _, _, ?_, ⟨trivial, trivial, trivial⟩, hr, fun g w v hv => hv⟩
    rfl
  · rw [branch_not (by rw [Bool.eq_false_iff, ne_eq, cdec_iff]; decide), branch_of (cdec_iff.mpr rfl), br_t] at hr
    refine ⟨AV.tup [AV.int IntKind.i64 n, AV.ifc 102 (AV.eptr [AV.str { data := #[65, 116, 111, 105] }, AV.str s, AV.ifc 122 AV.dead])], 0, _, _, rfl, ?_, hr, fun g w v hv => ?_⟩
    · exact ⟨trivial, ⟨trivial, trivial, trivial, trivial⟩, trivial⟩
    · obtain ⟨vs, e0, a, vr, e1, ha, b, vr2, e2, ⟨u, hu, _⟩, e3⟩ := hv
      exact ⟨vs, e0, a, vr, e1, ha, b, vr2, e2, ⟨u, hu, trivial⟩, e3⟩
  · rw [branch_not (by rw [Bool.eq_false_iff, ne_eq, cdec_iff]; decide), branch_not (by rw [Bool.eq_false_iff, ne_eq, cdec_iff]; decide), branch_of (cdec_iff.mpr rfl), br_t] at hr
    refine ⟨AV.tup [AV.int IntKind.i64 n, AV.ifc 102 (AV.eptr [AV.str { data := #[65, 116, 111, 105] }, AV.str s, AV.ifc 122 AV.dead])], 0, _, _, rfl, ?_, hr, fun g w v hv => ?_⟩
    · exact ⟨trivial, ⟨trivial, trivial, trivial, trivial⟩, trivial⟩
    · obtain ⟨vs, e0, a, vr, e1, ha, b, vr2, e2, ⟨u, hu, _⟩, e3⟩ := hv
      exact ⟨vs, e0, a, vr, e1, ha, b, vr2, e2, ⟨u, hu, trivial⟩, e3⟩
noncomputable def p53r : POrc Tryd.prog := f53.seenAs dec1s (fun s => [.str s]) dec1s_enc (fun s => cdec (s.size ≤ 100000)) (fun s => saA (piF (strL s))) sa_can
/-- Told apart: a number, or an error. -/
noncomputable def p53 : POrc Tryd.prog := byF p53r
  (fun args k => match dec1s args with
    | some s => match cdec (s.size ≤ 100000) with
      | true => branch (.bool (cdec ((piF (strL s)).2 = 0))) (k (.tup [.int .i64 (opq (piF (strL s)).1), .nilif])) (k (.tup [.int .i64 (opq (piF (strL s)).1), .ifc 102 .dead]))
      | false => none
    | none => none)
  fun k args fin h' => by
    split at h'
    · rename_i s hs
      split at h'
      · rename_i hc
        rw [show p53r.F args k = k (saA (piF (strL s))) by simp only [p53r, Fun.seenAs, hs, hc]]
        rw [opq_eq] at h'
        cases h0 : cdec ((piF (strL s)).2 = 0) with
        | true =>
          rw [h0, branch_true] at h'
          rw [saA, saE, if_pos (cdec_iff.mp h0)]; exact h'
        | false =>
          rw [h0, branch_false] at h'
          rw [saA, saE, if_neg (by rw [Bool.eq_false_iff, ne_eq, cdec_iff] at h0; exact h0)]; exact h'
      · cases h'
    · cases h'
end Go.Proofs.YtcfedmheblbdnaaDoor.V

/- The functions' pieces, as told by gen.py. -/
set_option linter.unusedVariables false
set_option maxRecDepth 20000
namespace Go.Proofs.YtcfedmheblbdnaaDoor.V
open Go Go.V Go.RowKit


/-! ### 76: internal/stringslite.HasPrefix (9, 9); results 4; slots: 0 s, 1 prefix, 2 s, 3 prefix -/
noncomputable def g76_b : Sim Tryd.prog :=
 (.seq (.live [0, 1] (.region 0 [
 ⟨(opAssign (some 4) (.const (Value.bool false)) 4 "strings.go:16" #[]).op, none⟩
 ] (by kernel_rfl)))
 (.seq (.live [4] (.region 1 [
 ⟨(opMove (some 5) (.tmp 0) 9 "strings.go:17" #[]).op, none⟩,
 ⟨(opLen (some 6) (.tmp 5) 9 .string Tryd.underlying9 3 "strings.go:17" #[eD 0]).op, none⟩,
 ⟨(opMove (some 7) (.tmp 1) 9 "strings.go:17" #[]).op, none⟩,
 ⟨(opLen (some 8) (.tmp 7) 9 .string Tryd.underlying9 3 "strings.go:17" #[eD 2]).op, none⟩,
 ⟨(opBin (some 9) .geq 3 (.tmp 6) (.tmp 8) 3 4 "strings.go:17" #[eD 1, eD 3]).op, none⟩,
 ⟨(opMove (some 10) (.tmp 9) 4 "strings.go:17" #[eD 4]).op, none⟩,
 ⟨(opMove (some 11) (.tmp 0) 9 "strings.go:17" #[eG 5]).op, (some (5, 10, true))⟩,
 ⟨(opMove (some 12) (.tmp 1) 9 "strings.go:17" #[eG 5]).op, (some (5, 10, true))⟩,
 ⟨(opLen (some 13) (.tmp 12) 9 .string Tryd.underlying9 3 "strings.go:17" #[eD 7, eG 5]).op, (some (5, 10, true))⟩,
 ⟨(opSliceStrW (some 14) 9 (.tmp 11) none (some (.tmp 13)) Tryd.underlying9 9 "strings.go:17" #[eD 6, eD 8, eG 5]).op, (some (5, 10, true))⟩,
 ⟨(opMove (some 15) (.tmp 1) 9 "strings.go:17" #[eG 5]).op, (some (5, 10, true))⟩,
 ⟨(opBinS (some 16) .eql 9 (.tmp 14) (.tmp 15) 9 4 "strings.go:17" #[eD 9, eD 10, eG 5]).op, (some (5, 10, true))⟩,
 ⟨(opPick (some 17) (.tmp 10) (.tmp 16) (.const (Value.bool false)) 4 "strings.go:17" #[eD 5, eD 11]).op, none⟩,
 ⟨(opAssign (some 4) (.tmp 17) 4 "strings.go:17" #[eD 12, eC 5, eP 0, eP 1, eP 2, eP 3, eP 4, eP 5, eP 6, eP 7, eP 8, eP 9, eP 10, eP 11, eP 12]).op, none⟩
 ] (by kernel_rfl)))
 (.live [4] .ret)))

noncomputable def g76 : Fun Tryd.prog where
 id := 76
 fn := Tryd.f76
 hf := Tryd.func76
 hname := by kernel_rfl
 body := g76_b
 hbody := by kernel_rfl
 res := [rTmp 4]
 hres := by kernel_rfl
 n := 18
 hn := by kernel_rfl

/-! ### 67: internal/stringslite.CutPrefix (9, 9); results 4, 5; slots: 0 s, 1 prefix, 2 s, 3 prefix, 4 after, 5 found -/
noncomputable def g67_b : Sim Tryd.prog :=
 (.seq (.live [0, 1] (.region 0 [
 ⟨(opAssign (some 4) (.const (Value.string { data := #[] })) 9 "strings.go:87" #[]).op, none⟩,
 ⟨(opAssign (some 5) (.const (Value.bool false)) 4 "strings.go:87" #[eC 0]).op, none⟩
 ] (by kernel_rfl)))
 (.seq (.seq (.live [0, 1, 9] (.region 1 [
 ⟨(opMove (some 6) (.tmp 0) 9 "strings.go:88" #[]).op, none⟩,
 ⟨(opMove (some 7) (.tmp 1) 9 "strings.go:88" #[]).op, none⟩,
 ⟨opCall (g76.orc 0) (some 8) [(.tmp 6), (.tmp 7)] #[9, 9] 4 "strings.go:88" #[eD 0, eD 1], none⟩,
 ⟨(opNot (some 9) 4 (.tmp 8) 4 "strings.go:88" #[eD 2]).op, none⟩
 ] (by kernel_rfl)))
 (.cond (.tmp 9)
 (.seq (.live [4, 5] (.region 2 [
 ⟨(opMove (some 10) (.tmp 0) 9 "strings.go:89" #[]).op, none⟩,
 ⟨(opAssign (some 4) (.tmp 10) 9 "strings.go:89" #[eD 0, eP 0]).op, none⟩,
 ⟨(opAssign (some 5) (.const (Value.bool false)) 4 "strings.go:89" #[eC 1, eP 0, eP 1]).op, none⟩
 ] (by kernel_rfl)))
 (.live [4, 5] .ret))
 .skip))
 (.seq (.live [4, 5] (.region 3 [
 ⟨(opMove (some 11) (.tmp 0) 9 "strings.go:91" #[]).op, none⟩,
 ⟨(opMove (some 12) (.tmp 1) 9 "strings.go:91" #[]).op, none⟩,
 ⟨(opLen (some 13) (.tmp 12) 9 .string Tryd.underlying9 3 "strings.go:91" #[eD 1]).op, none⟩,
 ⟨(opSliceStrW (some 14) 9 (.tmp 11) (some (.tmp 13)) none Tryd.underlying9 9 "strings.go:91" #[eD 0, eD 2]).op, none⟩,
 ⟨(opAssign (some 4) (.tmp 14) 9 "strings.go:91" #[eD 3, eP 0, eP 1, eP 2, eP 3]).op, none⟩,
 ⟨(opAssign (some 5) (.const (Value.bool true)) 4 "strings.go:91" #[eC 4, eP 0, eP 1, eP 2, eP 3, eP 4]).op, none⟩
 ] (by kernel_rfl)))
 (.live [4, 5] .ret))))

noncomputable def g67 : Fun Tryd.prog where
 id := 67
 fn := Tryd.f67
 hf := Tryd.func67
 hname := by kernel_rfl
 body := g67_b
 hbody := by kernel_rfl
 res := [rTmp 4, rTmp 5]
 hres := by kernel_rfl
 n := 15
 hn := by kernel_rfl

/-! ### 50: strings.CutPrefix (9, 9); results 4, 5; slots: 0 s, 1 prefix, 2 s, 3 prefix, 4 after, 5 found -/
noncomputable def g50_b : Sim Tryd.prog :=
 (.seq (.live [0, 1] (.region 0 [
 ⟨(opAssign (some 4) (.const (Value.string { data := #[] })) 9 "strings.go:1279" #[]).op, none⟩,
 ⟨(opAssign (some 5) (.const (Value.bool false)) 4 "strings.go:1279" #[eC 0]).op, none⟩
 ] (by kernel_rfl)))
 (.seq (.live [4, 5] (.region 1 [
 ⟨(opMove (some 6) (.tmp 0) 9 "strings.go:1280" #[]).op, none⟩,
 ⟨(opMove (some 7) (.tmp 1) 9 "strings.go:1280" #[]).op, none⟩,
 ⟨opCall (g67.orc 0) (some 8) [(.tmp 6), (.tmp 7)] #[9, 9] 69 "strings.go:1280" #[eD 0, eD 1], none⟩,
 ⟨(opExtract (some 9) (.tmp 8) 0 9 "strings.go:1280" #[eD 2]).op, none⟩,
 ⟨(opExtract (some 10) (.tmp 8) 1 4 "strings.go:1280" #[eD 2]).op, none⟩,
 ⟨(opAssign (some 4) (.tmp 9) 9 "strings.go:1280" #[eD 3, eC 2, eP 0, eP 1, eP 2, eP 3, eP 4]).op, none⟩,
 ⟨(opAssign (some 5) (.tmp 10) 4 "strings.go:1280" #[eD 4, eC 5, eP 0, eP 1, eP 2, eP 3, eP 4, eP 5]).op, none⟩
 ] (by kernel_rfl)))
 (.live [4, 5] .ret)))

noncomputable def g50 : Fun Tryd.prog where
 id := 50
 fn := Tryd.f50
 hf := Tryd.func50
 hname := by kernel_rfl
 body := g50_b
 hbody := by kernel_rfl
 res := [rTmp 4, rTmp 5]
 hres := by kernel_rfl
 n := 11
 hn := by kernel_rfl

/-! ### 77: internal/stringslite.HasSuffix (9, 9); results 4; slots: 0 s, 1 suffix, 2 s, 3 suffix -/
noncomputable def g77_b : Sim Tryd.prog :=
 (.seq (.live [0, 1] (.region 0 [
 ⟨(opAssign (some 4) (.const (Value.bool false)) 4 "strings.go:20" #[]).op, none⟩
 ] (by kernel_rfl)))
 (.seq (.live [4] (.region 1 [
 ⟨(opMove (some 5) (.tmp 0) 9 "strings.go:21" #[]).op, none⟩,
 ⟨(opLen (some 6) (.tmp 5) 9 .string Tryd.underlying9 3 "strings.go:21" #[eD 0]).op, none⟩,
 ⟨(opMove (some 7) (.tmp 1) 9 "strings.go:21" #[]).op, none⟩,
 ⟨(opLen (some 8) (.tmp 7) 9 .string Tryd.underlying9 3 "strings.go:21" #[eD 2]).op, none⟩,
 ⟨(opBin (some 9) .geq 3 (.tmp 6) (.tmp 8) 3 4 "strings.go:21" #[eD 1, eD 3]).op, none⟩,
 ⟨(opMove (some 10) (.tmp 9) 4 "strings.go:21" #[eD 4]).op, none⟩,
 ⟨(opMove (some 11) (.tmp 0) 9 "strings.go:21" #[eG 5]).op, (some (5, 10, true))⟩,
 ⟨(opMove (some 12) (.tmp 0) 9 "strings.go:21" #[eG 5]).op, (some (5, 10, true))⟩,
 ⟨(opLen (some 13) (.tmp 12) 9 .string Tryd.underlying9 3 "strings.go:21" #[eD 7, eG 5]).op, (some (5, 10, true))⟩,
 ⟨(opMove (some 14) (.tmp 1) 9 "strings.go:21" #[eG 5]).op, (some (5, 10, true))⟩,
 ⟨(opLen (some 15) (.tmp 14) 9 .string Tryd.underlying9 3 "strings.go:21" #[eD 9, eG 5]).op, (some (5, 10, true))⟩,
 ⟨(opBin (some 16) .sub 3 (.tmp 13) (.tmp 15) 3 3 "strings.go:21" #[eD 8, eD 10, eG 5]).op, (some (5, 10, true))⟩,
 ⟨(opSliceStrW (some 17) 9 (.tmp 11) (some (.tmp 16)) none Tryd.underlying9 9 "strings.go:21" #[eD 6, eD 11, eG 5]).op, (some (5, 10, true))⟩,
 ⟨(opMove (some 18) (.tmp 1) 9 "strings.go:21" #[eG 5]).op, (some (5, 10, true))⟩,
 ⟨(opBinS (some 19) .eql 9 (.tmp 17) (.tmp 18) 9 4 "strings.go:21" #[eD 12, eD 13, eG 5]).op, (some (5, 10, true))⟩,
 ⟨(opPick (some 20) (.tmp 10) (.tmp 19) (.const (Value.bool false)) 4 "strings.go:21" #[eD 5, eD 14]).op, none⟩,
 ⟨(opAssign (some 4) (.tmp 20) 4 "strings.go:21" #[eD 15, eC 5, eP 0, eP 1, eP 2, eP 3, eP 4, eP 5, eP 6, eP 7, eP 8, eP 9, eP 10, eP 11, eP 12, eP 13, eP 14, eP 15]).op, none⟩
 ] (by kernel_rfl)))
 (.live [4] .ret)))

noncomputable def g77 : Fun Tryd.prog where
 id := 77
 fn := Tryd.f77
 hf := Tryd.func77
 hname := by kernel_rfl
 body := g77_b
 hbody := by kernel_rfl
 res := [rTmp 4]
 hres := by kernel_rfl
 n := 21
 hn := by kernel_rfl

/-! ### 68: internal/stringslite.CutSuffix (9, 9); results 4, 5; slots: 0 s, 1 suffix, 2 s, 3 suffix, 4 before, 5 found -/
noncomputable def g68_b : Sim Tryd.prog :=
 (.seq (.live [0, 1] (.region 0 [
 ⟨(opAssign (some 4) (.const (Value.string { data := #[] })) 9 "strings.go:94" #[]).op, none⟩,
 ⟨(opAssign (some 5) (.const (Value.bool false)) 4 "strings.go:94" #[eC 0]).op, none⟩
 ] (by kernel_rfl)))
 (.seq (.seq (.live [0, 1, 9] (.region 1 [
 ⟨(opMove (some 6) (.tmp 0) 9 "strings.go:95" #[]).op, none⟩,
 ⟨(opMove (some 7) (.tmp 1) 9 "strings.go:95" #[]).op, none⟩,
 ⟨opCall (g77.orc 0) (some 8) [(.tmp 6), (.tmp 7)] #[9, 9] 4 "strings.go:95" #[eD 0, eD 1], none⟩,
 ⟨(opNot (some 9) 4 (.tmp 8) 4 "strings.go:95" #[eD 2]).op, none⟩
 ] (by kernel_rfl)))
 (.cond (.tmp 9)
 (.seq (.live [4, 5] (.region 2 [
 ⟨(opMove (some 10) (.tmp 0) 9 "strings.go:96" #[]).op, none⟩,
 ⟨(opAssign (some 4) (.tmp 10) 9 "strings.go:96" #[eD 0, eP 0]).op, none⟩,
 ⟨(opAssign (some 5) (.const (Value.bool false)) 4 "strings.go:96" #[eC 1, eP 0, eP 1]).op, none⟩
 ] (by kernel_rfl)))
 (.live [4, 5] .ret))
 .skip))
 (.seq (.live [4, 5] (.region 3 [
 ⟨(opMove (some 11) (.tmp 0) 9 "strings.go:98" #[]).op, none⟩,
 ⟨(opMove (some 12) (.tmp 0) 9 "strings.go:98" #[]).op, none⟩,
 ⟨(opLen (some 13) (.tmp 12) 9 .string Tryd.underlying9 3 "strings.go:98" #[eD 1]).op, none⟩,
 ⟨(opMove (some 14) (.tmp 1) 9 "strings.go:98" #[]).op, none⟩,
 ⟨(opLen (some 15) (.tmp 14) 9 .string Tryd.underlying9 3 "strings.go:98" #[eD 3]).op, none⟩,
 ⟨(opBin (some 16) .sub 3 (.tmp 13) (.tmp 15) 3 3 "strings.go:98" #[eD 2, eD 4]).op, none⟩,
 ⟨(opSliceStrW (some 17) 9 (.tmp 11) none (some (.tmp 16)) Tryd.underlying9 9 "strings.go:98" #[eD 0, eD 5]).op, none⟩,
 ⟨(opAssign (some 4) (.tmp 17) 9 "strings.go:98" #[eD 6, eP 0, eP 1, eP 2, eP 3, eP 4, eP 5, eP 6]).op, none⟩,
 ⟨(opAssign (some 5) (.const (Value.bool true)) 4 "strings.go:98" #[eC 7, eP 0, eP 1, eP 2, eP 3, eP 4, eP 5, eP 6, eP 7]).op, none⟩
 ] (by kernel_rfl)))
 (.live [4, 5] .ret))))

noncomputable def g68 : Fun Tryd.prog where
 id := 68
 fn := Tryd.f68
 hf := Tryd.func68
 hname := by kernel_rfl
 body := g68_b
 hbody := by kernel_rfl
 res := [rTmp 4, rTmp 5]
 hres := by kernel_rfl
 n := 18
 hn := by kernel_rfl

/-! ### 51: strings.CutSuffix (9, 9); results 4, 5; slots: 0 s, 1 suffix, 2 s, 3 suffix, 4 before, 5 found -/
noncomputable def g51_b : Sim Tryd.prog :=
 (.seq (.live [0, 1] (.region 0 [
 ⟨(opAssign (some 4) (.const (Value.string { data := #[] })) 9 "strings.go:1287" #[]).op, none⟩,
 ⟨(opAssign (some 5) (.const (Value.bool false)) 4 "strings.go:1287" #[eC 0]).op, none⟩
 ] (by kernel_rfl)))
 (.seq (.live [4, 5] (.region 1 [
 ⟨(opMove (some 6) (.tmp 0) 9 "strings.go:1288" #[]).op, none⟩,
 ⟨(opMove (some 7) (.tmp 1) 9 "strings.go:1288" #[]).op, none⟩,
 ⟨opCall (g68.orc 0) (some 8) [(.tmp 6), (.tmp 7)] #[9, 9] 69 "strings.go:1288" #[eD 0, eD 1], none⟩,
 ⟨(opExtract (some 9) (.tmp 8) 0 9 "strings.go:1288" #[eD 2]).op, none⟩,
 ⟨(opExtract (some 10) (.tmp 8) 1 4 "strings.go:1288" #[eD 2]).op, none⟩,
 ⟨(opAssign (some 4) (.tmp 9) 9 "strings.go:1288" #[eD 3, eC 2, eP 0, eP 1, eP 2, eP 3, eP 4]).op, none⟩,
 ⟨(opAssign (some 5) (.tmp 10) 4 "strings.go:1288" #[eD 4, eC 5, eP 0, eP 1, eP 2, eP 3, eP 4, eP 5]).op, none⟩
 ] (by kernel_rfl)))
 (.live [4, 5] .ret)))

noncomputable def g51 : Fun Tryd.prog where
 id := 51
 fn := Tryd.f51
 hf := Tryd.func51
 hname := by kernel_rfl
 body := g51_b
 hbody := by kernel_rfl
 res := [rTmp 4, rTmp 5]
 hres := by kernel_rfl
 n := 11
 hn := by kernel_rfl

/-! ### 29: interlock/value.parse (9); results 2, 3; slots: 0 s, 1 s, 4 inner, 5 ok, 6 inner, 7 ok, 8 text, 9 n, 10 e -/
noncomputable def g29_b : Sim Tryd.prog :=
 (.seq (.live [0, 2] (.region 0 [
 ⟨(opAlloc (some 2) 24 (.agg #[(.int .i64 0), (.int .i64 0), (.string ⟨#[]⟩)]) ze24 0 "value.go:174" #[]).op, none⟩,
 ⟨(opAssign (some 3) (.const (Value.bool false)) 4 "value.go:174" #[]).op, none⟩
 ] (by kernel_rfl)))
 (.seq (.seq (.live [0, 2, 4, 5] (.region 1 [
 ⟨(opMove (some 12) (.tmp 0) 9 "value.go:175" #[]).op, none⟩,
 ⟨opCall (g50.orc 0) (some 13) [(.tmp 12), (.const (Value.string { data := #[34] }))] #[9, 9] 69 "value.go:175" #[eD 0], none⟩,
 ⟨(opMove (some 11) (.tmp 13) 69 "value.go:175" #[eD 1]).op, none⟩,
 ⟨(opExtract (some 14) (.tmp 11) 0 9 "value.go:175" #[eD 2]).op, none⟩,
 ⟨(opExtract (some 15) (.tmp 11) 1 4 "value.go:175" #[eD 2, { on := 5, ground := (Ground.gcOnly Departure.lateStores) }]).op, none⟩,
 ⟨(opAssign (some 4) (.tmp 14) 9 "value.go:175" #[eD 3, eC 1, eP 0, eP 1, eP 2, eP 3, { on := 4, ground := (Ground.textOnly Departure.lateStores) }]).op, none⟩,
 ⟨(opAssign (some 5) (.tmp 15) 4 "value.go:175" #[eD 4, eC 5, eP 0, eP 1, eP 2, eP 3, eP 4, eP 5]).op, none⟩
 ] (by kernel_rfl)))
 (.seq (.live [0, 2, 4, 16] (.region 2 [
 ⟨(opMove (some 16) (.tmp 5) 4 "value.go:175" #[]).op, none⟩
 ] (by kernel_rfl)))
 (.cond (.tmp 16)
 (.seq (.live [2, 6, 7] (.region 3 [
 ⟨(opMove (some 18) (.tmp 4) 9 "value.go:176" #[]).op, none⟩,
 ⟨opCall (g51.orc 0) (some 19) [(.tmp 18), (.const (Value.string { data := #[34] }))] #[9, 9] 69 "value.go:176" #[eD 0], none⟩,
 ⟨(opMove (some 17) (.tmp 19) 69 "value.go:176" #[eD 1]).op, none⟩,
 ⟨(opExtract (some 20) (.tmp 17) 0 9 "value.go:176" #[eD 2]).op, none⟩,
 ⟨(opExtract (some 21) (.tmp 17) 1 4 "value.go:176" #[eD 2, { on := 5, ground := (Ground.gcOnly Departure.lateStores) }]).op, none⟩,
 ⟨(opAssign (some 6) (.tmp 20) 9 "value.go:176" #[eD 3, eC 1, eP 0, eP 1, eP 2, eP 3, { on := 4, ground := (Ground.textOnly Departure.lateStores) }]).op, none⟩,
 ⟨(opAssign (some 7) (.tmp 21) 4 "value.go:176" #[eD 4, eC 5, eP 0, eP 1, eP 2, eP 3, eP 4, eP 5]).op, none⟩
 ] (by kernel_rfl)))
 (.seq (.seq (.live [2, 6, 23] (.region 4 [
 ⟨(opMove (some 22) (.tmp 7) 4 "value.go:177" #[]).op, none⟩,
 ⟨(opNot (some 23) 4 (.tmp 22) 4 "value.go:177" #[eD 0]).op, none⟩
 ] (by kernel_rfl)))
 (.cond (.tmp 23)
 (.seq (.live [2, 3] (.region 5 [
 ⟨(opBuild (some 24) 24 #[(.int .i64 0), (.int .i64 0), (.string ⟨#[]⟩)] [] ze24 (by kernel_rfl) 24 "value.go:178" #[]).op, none⟩,
 ⟨(opStore none 24 (.tmp 2) (.tmp 24) 3 sz24 0 "value.go:178" #[eD 0, eP 0]).op, none⟩,
 ⟨(opAssign (some 3) (.const (Value.bool false)) 4 "value.go:178" #[eC 1, eP 0, eP 1]).op, none⟩
 ] (by kernel_rfl)))
 (.live [2, 3] .ret))
 .skip))
 (.seq (.live [2, 7, 8] (.region 6 [
 ⟨(opMove (some 26) (.tmp 6) 9 "value.go:180" #[]).op, none⟩,
 ⟨(opCallP p52 (some 27) [(.tmp 26)] #[9] 69 "value.go:180" #[eD 0]).op, none⟩,
 ⟨(opMove (some 25) (.tmp 27) 69 "value.go:180" #[eD 1]).op, none⟩,
 ⟨(opExtract (some 28) (.tmp 25) 0 9 "value.go:180" #[eD 2]).op, none⟩,
 ⟨(opExtract (some 29) (.tmp 25) 1 4 "value.go:180" #[eD 2, { on := 5, ground := (Ground.gcOnly Departure.lateStores) }]).op, none⟩,
 ⟨(opAssign (some 8) (.tmp 28) 9 "value.go:180" #[eD 3, eC 1, eP 0, eP 1, eP 2, eP 3, { on := 4, ground := (Ground.textOnly Departure.lateStores) }]).op, none⟩,
 ⟨(opAssign (some 7) (.tmp 29) 4 "value.go:180" #[eD 4, eC 5, eP 0, eP 1, eP 2, eP 3, eP 4, eP 5]).op, none⟩
 ] (by kernel_rfl)))
 (.seq (.live [2, 3] (.region 7 [
 ⟨(opMove (some 30) (.tmp 8) 9 "value.go:181" #[]).op, none⟩,
 ⟨(opBuild (some 31) 24 #[(.int .i64 0), (.int .i64 0), (.string ⟨#[]⟩)] [(0, 0, 1, (.const (Value.int IntKind.i64 3))), (2, 2, 1, (.tmp 30))] ze24 (by kernel_rfl) 24 "value.go:181" #[eD 0]).op, none⟩,
 ⟨(opMove (some 32) (.tmp 7) 4 "value.go:181" #[{ on := 3, ground := (Ground.gcOnly Departure.lateStores) }]).op, none⟩,
 ⟨(opStore none 24 (.tmp 2) (.tmp 31) 3 sz24 0 "value.go:181" #[eD 1, eP 0, eP 1, { on := 2, ground := (Ground.textOnly Departure.lateStores) }]).op, none⟩,
 ⟨(opAssign (some 3) (.tmp 32) 4 "value.go:181" #[eD 2, eC 3, eP 0, eP 1, eP 2, eP 3]).op, none⟩
 ] (by kernel_rfl)))
 (.live [2, 3] .ret)))))
 .skip)))
 (.seq (.seq (.live [0, 2, 33] (.region 8 [
 ⟨(opMove (some 33) (.tmp 0) 9 "value.go:183" #[]).op, none⟩
 ] (by kernel_rfl)))
 (.block 0 (.seq (.live [0, 2, 33, 34] (.region 9 [
 ⟨(opBinS (some 35) .eql 9 (.tmp 33) (.const (Value.string { data := #[110, 117, 108, 108] })) 9 4 "value.go:184" #[]).op, none⟩,
 ⟨(opAssign (some 34) (.tmp 35) 4 "value.go:184" #[eD 0]).op, none⟩
 ] (by kernel_rfl)))
 (.cond (.tmp 34)
 (.seq (.live [2, 3] (.region 10 [
 ⟨(opBuild (some 36) 24 #[(.int .i64 0), (.int .i64 0), (.string ⟨#[]⟩)] [] ze24 (by kernel_rfl) 24 "value.go:185" #[]).op, none⟩,
 ⟨(opStore none 24 (.tmp 2) (.tmp 36) 3 sz24 0 "value.go:185" #[eD 0, eP 0]).op, none⟩,
 ⟨(opAssign (some 3) (.const (Value.bool true)) 4 "value.go:185" #[eC 1, eP 0, eP 1]).op, none⟩
 ] (by kernel_rfl)))
 (.live [2, 3] .ret))
 (.seq (.live [0, 2, 33, 37] (.region 11 [
 ⟨(opBinS (some 38) .eql 9 (.tmp 33) (.const (Value.string { data := #[102, 97, 108, 115, 101] })) 9 4 "value.go:186" #[]).op, none⟩,
 ⟨(opAssign (some 37) (.tmp 38) 4 "value.go:186" #[eD 0]).op, none⟩
 ] (by kernel_rfl)))
 (.cond (.tmp 37)
 (.seq (.live [2, 3] (.region 12 [
 ⟨(opBuild (some 39) 24 #[(.int .i64 0), (.int .i64 0), (.string ⟨#[]⟩)] [(0, 0, 1, (.const (Value.int IntKind.i64 2)))] ze24 (by kernel_rfl) 24 "value.go:187" #[]).op, none⟩,
 ⟨(opStore none 24 (.tmp 2) (.tmp 39) 3 sz24 0 "value.go:187" #[eD 0, eP 0]).op, none⟩,
 ⟨(opAssign (some 3) (.const (Value.bool true)) 4 "value.go:187" #[eC 1, eP 0, eP 1]).op, none⟩
 ] (by kernel_rfl)))
 (.live [2, 3] .ret))
 (.seq (.live [0, 2, 40] (.region 13 [
 ⟨(opBinS (some 41) .eql 9 (.tmp 33) (.const (Value.string { data := #[116, 114, 117, 101] })) 9 4 "value.go:188" #[]).op, none⟩,
 ⟨(opAssign (some 40) (.tmp 41) 4 "value.go:188" #[eD 0]).op, none⟩
 ] (by kernel_rfl)))
 (.cond (.tmp 40)
 (.seq (.live [2, 3] (.region 14 [
 ⟨(opBuild (some 42) 24 #[(.int .i64 0), (.int .i64 0), (.string ⟨#[]⟩)] [(0, 0, 1, (.const (Value.int IntKind.i64 2))), (1, 1, 1, (.const (Value.int IntKind.i64 1)))] ze24 (by kernel_rfl) 24 "value.go:189" #[]).op, none⟩,
 ⟨(opStore none 24 (.tmp 2) (.tmp 42) 3 sz24 0 "value.go:189" #[eD 0, eP 0]).op, none⟩,
 ⟨(opAssign (some 3) (.const (Value.bool true)) 4 "value.go:189" #[eC 1, eP 0, eP 1]).op, none⟩
 ] (by kernel_rfl)))
 (.live [2, 3] .ret))
 .skip))))))))
 (.seq (.live [2, 9, 10] (.region 15 [
 ⟨(opMove (some 44) (.tmp 0) 9 "value.go:191" #[]).op, none⟩,
 ⟨(opCallP p53 (some 45) [(.tmp 44)] #[9] 74 "value.go:191" #[eD 0]).op, none⟩,
 ⟨(opMove (some 43) (.tmp 45) 74 "value.go:191" #[eD 1]).op, none⟩,
 ⟨(opExtract (some 46) (.tmp 43) 0 3 "value.go:191" #[eD 2]).op, none⟩,
 ⟨(opExtract (some 47) (.tmp 43) 1 73 "value.go:191" #[eD 2, { on := 5, ground := (Ground.gcOnly Departure.lateStores) }]).op, none⟩,
 ⟨(opAssign (some 9) (.tmp 46) 3 "value.go:191" #[eD 3, eC 1, eP 0, eP 1, eP 2, eP 3, { on := 4, ground := (Ground.textOnly Departure.lateStores) }]).op, none⟩,
 ⟨(opAssign (some 10) (.tmp 47) 73 "value.go:191" #[eD 4, eC 5, eP 0, eP 1, eP 2, eP 3, eP 4, eP 5]).op, none⟩
 ] (by kernel_rfl)))
 (.seq (.seq (.live [2, 9, 49] (.region 16 [
 ⟨(opMove (some 48) (.tmp 10) 73 "value.go:192" #[]).op, none⟩,
 ⟨(opNe (some 49) 73 d73 ud73 (.tmp 48) (.const Value.nilIface) (.inl rfl) 73 4 "value.go:192" #[eD 0]).op, none⟩
 ] (by kernel_rfl)))
 (.cond (.tmp 49)
 (.seq (.live [2, 3] (.region 17 [
 ⟨(opBuild (some 50) 24 #[(.int .i64 0), (.int .i64 0), (.string ⟨#[]⟩)] [] ze24 (by kernel_rfl) 24 "value.go:193" #[]).op, none⟩,
 ⟨(opStore none 24 (.tmp 2) (.tmp 50) 3 sz24 0 "value.go:193" #[eD 0, eP 0]).op, none⟩,
 ⟨(opAssign (some 3) (.const (Value.bool false)) 4 "value.go:193" #[eC 1, eP 0, eP 1]).op, none⟩
 ] (by kernel_rfl)))
 (.live [2, 3] .ret))
 .skip))
 (.seq (.live [2, 3] (.region 18 [
 ⟨(opMove (some 51) (.tmp 9) 3 "value.go:195" #[]).op, none⟩,
 ⟨(opBuild (some 52) 24 #[(.int .i64 0), (.int .i64 0), (.string ⟨#[]⟩)] [(0, 0, 1, (.const (Value.int IntKind.i64 1))), (1, 1, 1, (.tmp 51))] ze24 (by kernel_rfl) 24 "value.go:195" #[eD 0]).op, none⟩,
 ⟨(opStore none 24 (.tmp 2) (.tmp 52) 3 sz24 0 "value.go:195" #[eD 1, eP 0, eP 1]).op, none⟩,
 ⟨(opAssign (some 3) (.const (Value.bool true)) 4 "value.go:195" #[eC 2, eP 0, eP 1, eP 2]).op, none⟩
 ] (by kernel_rfl)))
 (.live [2, 3] .ret)))))))

noncomputable def g29 : Fun Tryd.prog where
 id := 29
 fn := Tryd.f29
 hf := Tryd.func29
 hname := by kernel_rfl
 body := g29_b
 hbody := by kernel_rfl
 res := [rCell 2 24 d24 ud24 3 sz24, rTmp 3]
 hres := by kernel_rfl
 n := 53
 hn := by kernel_rfl

end Go.Proofs.YtcfedmheblbdnaaDoor.V

/- What the functions' runs come to; the right sides were printed by a tool, Lean checks them. -/
set_option linter.unusedVariables false
set_option maxRecDepth 100000
namespace Go.Proofs.YtcfedmheblbdnaaDoor.V
open Go Go.V Go.RowKit

theorem pr_run (F : Nat) (s : ByteArray) :
 (g29.run F [.str s] ⟨[], []⟩ : Ans) =
 branch (AV.bool (decide ((↑s.size : Int) ≥ (1 : Int))))
 (branch (AV.bool (inSl s (0 : Int) (1 : Int)))
 (branch (AV.bool !(subT s (0 : Int) (1 : Int)).toList == [UInt8.ofNat 34])
 (branch
 (AV.bool
 (s.toList ==
 [UInt8.ofNat 110, UInt8.ofNat 117, UInt8.ofNat 108, UInt8.ofNat 108]))
 (some
 (Fin.ret
 (AV.tup
 [AV.agg [AV.int IntKind.i64 (0 : Int), AV.int IntKind.i64 (0 : Int), AV.str (ByteArray.mk #[])],
 AV.bool true]),
 St.mk [Ob.cells [AV.int IntKind.i64 (0 : Int), AV.int IntKind.i64 (0 : Int), AV.str (ByteArray.mk #[])]]
 []))
 (branch
 (AV.bool
 (s.toList ==
 [UInt8.ofNat 102, UInt8.ofNat 97, UInt8.ofNat 108, UInt8.ofNat 115,
 UInt8.ofNat 101]))
 (some
 (Fin.ret
 (AV.tup
 [AV.agg [AV.int IntKind.i64 (2 : Int), AV.int IntKind.i64 (0 : Int), AV.str (ByteArray.mk #[])],
 AV.bool true]),
 St.mk [Ob.cells [AV.int IntKind.i64 (2 : Int), AV.int IntKind.i64 (0 : Int), AV.str (ByteArray.mk #[])]]
 []))
 (branch
 (AV.bool
 (s.toList ==
 [UInt8.ofNat 116, UInt8.ofNat 114, UInt8.ofNat 117, UInt8.ofNat 101]))
 (some
 (Fin.ret
 (AV.tup
 [AV.agg [AV.int IntKind.i64 (2 : Int), AV.int IntKind.i64 (1 : Int), AV.str (ByteArray.mk #[])],
 AV.bool true]),
 St.mk [Ob.cells [AV.int IntKind.i64 (2 : Int), AV.int IntKind.i64 (1 : Int), AV.str (ByteArray.mk #[])]]
 []))
 (branch (AV.bool (cdec (s.size ≤ 100000)))
 (branch (AV.bool (cdec ((piF (strL s)).snd = 0)))
 (some
 (Fin.ret
 (AV.tup
 [AV.agg
 [AV.int IntKind.i64 (1 : Int), AV.int IntKind.i64 (opq (piF (strL s)).fst),
 AV.str (ByteArray.mk #[])],
 AV.bool true]),
 St.mk
 [Ob.cells
 [AV.int IntKind.i64 (1 : Int), AV.int IntKind.i64 (opq (piF (strL s)).fst),
 AV.str (ByteArray.mk #[])]]
 []))
 (some
 (Fin.ret
 (AV.tup
 [AV.agg [AV.int IntKind.i64 (0 : Int), AV.int IntKind.i64 (0 : Int), AV.str (ByteArray.mk #[])],
 AV.bool false]),
 St.mk
 [Ob.cells [AV.int IntKind.i64 (0 : Int), AV.int IntKind.i64 (0 : Int), AV.str (ByteArray.mk #[])]]
 [])))
 none))))
 (branch (AV.bool (inSl s (1 : Int) (↑s.size : Int)))
 (branch (AV.bool (decide ((↑(subT s (1 : Int) (↑s.size : Int)).size : Int) ≥ (1 : Int))))
 (branch
 (AV.bool
 (inSl (subT s (1 : Int) (↑s.size : Int))
 (IntKind.i64.wrap ((↑(subT s (1 : Int) (↑s.size : Int)).size : Int) - (1 : Int)))
 (↑(subT s (1 : Int) (↑s.size : Int)).size : Int)))
 (branch
 (AV.bool
 !(subT (subT s (1 : Int) (↑s.size : Int))
 (IntKind.i64.wrap ((↑(subT s (1 : Int) (↑s.size : Int)).size : Int) - (1 : Int)))
 (↑(subT s (1 : Int) (↑s.size : Int)).size : Int)).toList ==
 [UInt8.ofNat 34])
 (some
 (Fin.ret
 (AV.tup
 [AV.agg [AV.int IntKind.i64 (0 : Int), AV.int IntKind.i64 (0 : Int), AV.str (ByteArray.mk #[])],
 AV.bool false]),
 St.mk
 [Ob.cells [AV.int IntKind.i64 (0 : Int), AV.int IntKind.i64 (0 : Int), AV.str (ByteArray.mk #[])]]
 []))
 (branch
 (AV.bool
 (inSl (subT s (1 : Int) (↑s.size : Int)) (0 : Int)
 (IntKind.i64.wrap ((↑(subT s (1 : Int) (↑s.size : Int)).size : Int) - (1 : Int)))))
 (branch
 (AV.bool
 (cdec
 ((strL
 (subT (subT s (1 : Int) (↑s.size : Int)) (0 : Int)
 (IntKind.i64.wrap
 ((↑(subT s (1 : Int) (↑s.size : Int)).size : Int) - (1 : Int))))).length ≤
 100000000)))
 (some
 (Fin.ret
 (AV.tup
 [AV.agg
 [AV.int IntKind.i64 (3 : Int), AV.int IntKind.i64 (0 : Int),
 AV.str
 (unqS
 (subT (subT s (1 : Int) (↑s.size : Int)) (0 : Int)
 (IntKind.i64.wrap
 ((↑(subT s (1 : Int) (↑s.size : Int)).size : Int) - (1 : Int)))))],
 AV.bool
 (unqL
 (strL
 (subT (subT s (1 : Int) (↑s.size : Int)) (0 : Int)
 (IntKind.i64.wrap
 ((↑(subT s (1 : Int) (↑s.size : Int)).size : Int) - (1 : Int)))))).isSome]),
 St.mk
 [Ob.cells
 [AV.int IntKind.i64 (3 : Int), AV.int IntKind.i64 (0 : Int),
 AV.str
 (unqS
 (subT (subT s (1 : Int) (↑s.size : Int)) (0 : Int)
 (IntKind.i64.wrap
 ((↑(subT s (1 : Int) (↑s.size : Int)).size : Int) - (1 : Int)))))]]
 []))
 none)
 none))
 none)
 (some
 (Fin.ret
 (AV.tup
 [AV.agg [AV.int IntKind.i64 (0 : Int), AV.int IntKind.i64 (0 : Int), AV.str (ByteArray.mk #[])],
 AV.bool false]),
 St.mk [Ob.cells [AV.int IntKind.i64 (0 : Int), AV.int IntKind.i64 (0 : Int), AV.str (ByteArray.mk #[])]]
 [])))
 none))
 none)
 (branch
 (AV.bool
 (s.toList ==
 [UInt8.ofNat 110, UInt8.ofNat 117, UInt8.ofNat 108, UInt8.ofNat 108]))
 (some
 (Fin.ret
 (AV.tup
 [AV.agg [AV.int IntKind.i64 (0 : Int), AV.int IntKind.i64 (0 : Int), AV.str (ByteArray.mk #[])],
 AV.bool true]),
 St.mk [Ob.cells [AV.int IntKind.i64 (0 : Int), AV.int IntKind.i64 (0 : Int), AV.str (ByteArray.mk #[])]] []))
 (branch
 (AV.bool
 (s.toList ==
 [UInt8.ofNat 102, UInt8.ofNat 97, UInt8.ofNat 108, UInt8.ofNat 115,
 UInt8.ofNat 101]))
 (some
 (Fin.ret
 (AV.tup
 [AV.agg [AV.int IntKind.i64 (2 : Int), AV.int IntKind.i64 (0 : Int), AV.str (ByteArray.mk #[])],
 AV.bool true]),
 St.mk [Ob.cells [AV.int IntKind.i64 (2 : Int), AV.int IntKind.i64 (0 : Int), AV.str (ByteArray.mk #[])]] []))
 (branch
 (AV.bool
 (s.toList ==
 [UInt8.ofNat 116, UInt8.ofNat 114, UInt8.ofNat 117, UInt8.ofNat 101]))
 (some
 (Fin.ret
 (AV.tup
 [AV.agg [AV.int IntKind.i64 (2 : Int), AV.int IntKind.i64 (1 : Int), AV.str (ByteArray.mk #[])],
 AV.bool true]),
 St.mk [Ob.cells [AV.int IntKind.i64 (2 : Int), AV.int IntKind.i64 (1 : Int), AV.str (ByteArray.mk #[])]]
 []))
 (branch (AV.bool (cdec (s.size ≤ 100000)))
 (branch (AV.bool (cdec ((piF (strL s)).snd = 0)))
 (some
 (Fin.ret
 (AV.tup
 [AV.agg
 [AV.int IntKind.i64 (1 : Int), AV.int IntKind.i64 (opq (piF (strL s)).fst),
 AV.str (ByteArray.mk #[])],
 AV.bool true]),
 St.mk
 [Ob.cells
 [AV.int IntKind.i64 (1 : Int), AV.int IntKind.i64 (opq (piF (strL s)).fst),
 AV.str (ByteArray.mk #[])]]
 []))
 (some
 (Fin.ret
 (AV.tup
 [AV.agg [AV.int IntKind.i64 (0 : Int), AV.int IntKind.i64 (0 : Int), AV.str (ByteArray.mk #[])],
 AV.bool false]),
 St.mk [Ob.cells [AV.int IntKind.i64 (0 : Int), AV.int IntKind.i64 (0 : Int), AV.str (ByteArray.mk #[])]]
 [])))
 none)))) := by kernel_rfl

end Go.Proofs.YtcfedmheblbdnaaDoor.V

/- Values: parse, as a callee. -/
set_option linter.unusedVariables false
namespace Go.Proofs.YtcfedmheblbdnaaDoor.V
open Go Go.V Go.RowKit

def lNull : List Nat := [110, 117, 108, 108]
def lFalse : List Nat := [102, 97, 108, 115, 101]
def lTrue : List Nat := [116, 114, 117, 101]
def vaZ : Va := ⟨0, 0, ByteArray.mk #[]⟩
def unqB (l : List Nat) : ByteArray := match unqL l with
  | some r => strB r
  | none => ByteArray.mk #[]
def restP (l : List Nat) : Va × Bool := if l = lNull then (vaZ, true) else if l = lFalse then (⟨2, 0, ByteArray.mk #[]⟩, true) else if l = lTrue then (⟨2, 1, ByteArray.mk #[]⟩, true) else if (piF l).2 = 0 then (⟨1, (piF l).1, ByteArray.mk #[]⟩, true) else (vaZ, false)
def parL : List Nat → Va × Bool
  | [] => restP []
  | c :: r => if c = 34 then if r.drop (r.length - 1) = [34] then (⟨3, 0, unqB (r.take (r.length - 1))⟩, (unqL (r.take (r.length - 1))).isSome) else (vaZ, false) else restP (c :: r)
def vaA (x : Va × Bool) : AV := .tup [x.1.av, .bool x.2]
theorem toL_eq (s : ByteArray) {l : List Nat} (hl : ∀ b ∈ l, b < 256) : (s.toList == l.map fun n => UInt8.ofNat n) = decide (strL s = l) := by
  rw [ByteArray.toList_eq, Bool.eq_iff_iff, beq_iff_eq, decide_eq_true_eq]
  constructor
  · intro h
    rw [strL, h, List.map_map]
    conv => rhs; rw [← List.map_id l]
    refine List.map_congr_left fun b hb => ?_
    have := hl b hb
    simp only [Function.comp, id]
    rw [UInt8.toNat_ofNat']; exact Nat.mod_eq_of_lt this
  · intro h
    rw [← h, strL, List.map_map]
    conv => lhs; rw [← List.map_id s.data.toList]
    refine List.map_congr_left fun b hb => ?_
    simp
theorem rest_eq (s : ByteArray) (hs : s.size ≤ 100000) : ∃ st', (
    branch (AV.bool (s.toList == [UInt8.ofNat 110, UInt8.ofNat 117, UInt8.ofNat 108, UInt8.ofNat 108]))
      (some (Fin.ret (AV.tup [AV.agg [AV.int IntKind.i64 (0 : Int), AV.int IntKind.i64 (0 : Int), AV.str (ByteArray.mk #[])], AV.bool true]), St.mk [Ob.cells [AV.int IntKind.i64 (0 : Int), AV.int IntKind.i64 (0 : Int), AV.str (ByteArray.mk #[])]] []))
      (branch (AV.bool (s.toList == [UInt8.ofNat 102, UInt8.ofNat 97, UInt8.ofNat 108, UInt8.ofNat 115, UInt8.ofNat 101]))
        (some (Fin.ret (AV.tup [AV.agg [AV.int IntKind.i64 (2 : Int), AV.int IntKind.i64 (0 : Int), AV.str (ByteArray.mk #[])], AV.bool true]), St.mk [Ob.cells [AV.int IntKind.i64 (2 : Int), AV.int IntKind.i64 (0 : Int), AV.str (ByteArray.mk #[])]] []))
        (branch (AV.bool (s.toList == [UInt8.ofNat 116, UInt8.ofNat 114, UInt8.ofNat 117, UInt8.ofNat 101]))
          (some (Fin.ret (AV.tup [AV.agg [AV.int IntKind.i64 (2 : Int), AV.int IntKind.i64 (1 : Int), AV.str (ByteArray.mk #[])], AV.bool true]), St.mk [Ob.cells [AV.int IntKind.i64 (2 : Int), AV.int IntKind.i64 (1 : Int), AV.str (ByteArray.mk #[])]] []))
          (branch (AV.bool (cdec (s.size ≤ 100000)))
            (branch (AV.bool (cdec ((piF (strL s)).snd = 0)))
              (some (Fin.ret (AV.tup [AV.agg [AV.int IntKind.i64 (1 : Int), AV.int IntKind.i64 (opq (piF (strL s)).fst), AV.str (ByteArray.mk #[])], AV.bool true]), St.mk [Ob.cells [AV.int IntKind.i64 (1 : Int), AV.int IntKind.i64 (opq (piF (strL s)).fst), AV.str (ByteArray.mk #[])]] []))
              (some (Fin.ret (AV.tup [AV.agg [AV.int IntKind.i64 (0 : Int), AV.int IntKind.i64 (0 : Int), AV.str (ByteArray.mk #[])], AV.bool false]), St.mk [Ob.cells [AV.int IntKind.i64 (0 : Int), AV.int IntKind.i64 (0 : Int), AV.str (ByteArray.mk #[])]] [])))
            none))) : Ans) = some (.ret (vaA (restP (strL s))), st') := by
  rw [show (s.toList == [UInt8.ofNat 110, UInt8.ofNat 117, UInt8.ofNat 108, UInt8.ofNat 108]) = decide (strL s = lNull) from toL_eq s (l := lNull) (by decide),
    show (s.toList == [UInt8.ofNat 102, UInt8.ofNat 97, UInt8.ofNat 108, UInt8.ofNat 115, UInt8.ofNat 101]) = decide (strL s = lFalse) from toL_eq s (l := lFalse) (by decide),
    show (s.toList == [UInt8.ofNat 116, UInt8.ofNat 114, UInt8.ofNat 117, UInt8.ofNat 101]) = decide (strL s = lTrue) from toL_eq s (l := lTrue) (by decide), opq_eq]
  unfold restP
  by_cases h1 : strL s = lNull
  · rw [branch_of (decide_eq_true h1), if_pos h1]; exact ⟨_, rfl⟩
  · rw [branch_not (decide_eq_false h1), if_neg h1]
    by_cases h2 : strL s = lFalse
    · rw [branch_of (decide_eq_true h2), if_pos h2]; exact ⟨_, rfl⟩
    · rw [branch_not (decide_eq_false h2), if_neg h2]
      by_cases h3 : strL s = lTrue
      · rw [branch_of (decide_eq_true h3), if_pos h3]; exact ⟨_, rfl⟩
      · rw [branch_not (decide_eq_false h3), if_neg h3, branch_of (cdec_iff.mpr hs)]
        by_cases h4 : (piF (strL s)).2 = 0
        · rw [branch_of (cdec_iff.mpr h4), if_pos h4]; exact ⟨_, rfl⟩
        · rw [branch_not (by rw [Bool.eq_false_iff, ne_eq, cdec_iff]; exact h4), if_neg h4]; exact ⟨_, rfl⟩
theorem par_eq (s : ByteArray) (hs : s.size ≤ 100000) : ∃ st', g29.run 0 [.str s] ⟨[], []⟩ = some (.ret (vaA (parL (strL s))), st') := by
  have hsz := strL_size s
  rw [pr_run]
  cases hl : strL s with
  | nil =>
    rw [hl] at hsz
    rw [branch_not (decide_eq_false (by simp at hsz; rw [hsz]; decide))]
    have := rest_eq s hs
    rw [hl] at this
    exact this
  | cons c r =>
    obtain ⟨h1, h2, h3, h4⟩ := tail_text hl
    rw [hl, List.length_cons] at hsz
    have e01 : strL (subT s (0 : Int) (1 : Int)) = [c] := by
      rw [subT_list, hl]; rfl
    rw [branch_of (decide_eq_true (by omega)), branch_of (inSl_iff.mpr ⟨by omega, by omega, by rw [hl, List.length_cons]; omega⟩),
      show ((subT s (0 : Int) (1 : Int)).toList == [UInt8.ofNat 34]) = decide (strL (subT s (0 : Int) (1 : Int)) = [34]) from toL_eq _ (l := [34]) (by decide), e01, parL]
    by_cases hc : c = 34
    · rw [branch_not (by rw [decide_eq_true (by rw [hc])]; rfl), branch_of h3, if_pos hc]
      generalize ht : subT s (1 : Int) (s.size : Int) = t at *
      have htz := strL_size t
      rw [h4] at htz
      cases r with
      | nil =>
        rw [branch_not (decide_eq_false (by rw [htz]; decide))]
        exact ⟨_, rfl⟩
      | cons d r' =>
        generalize hr : d :: r' = r at *
        have hr1 : 1 ≤ r.length := by rw [← hr]; simp
        have e1 : IntKind.i64.wrap ((t.size : Int) - 1) = ((r.length - 1 : Nat) : Int) := by rw [wrapS (by omega) (by omega)]; omega
        have e2 : strL (subT t ((r.length - 1 : Nat) : Int) (t.size : Int)) = r.drop (r.length - 1) := by rw [sub_end, h4]
        have e3 : strL (subT t (0 : Int) ((r.length - 1 : Nat) : Int)) = r.take (r.length - 1) := by rw [subT_list, h4]; simp
        rw [branch_of (decide_eq_true (by omega)), e1, branch_of (in_end (by rw [h4]; omega)),
          show ((subT t ((r.length - 1 : Nat) : Int) (t.size : Int)).toList == [UInt8.ofNat 34]) = decide (strL (subT t ((r.length - 1 : Nat) : Int) (t.size : Int)) = [34]) from toL_eq _ (l := [34]) (by decide), e2]
        by_cases hq : r.drop (r.length - 1) = [34]
        · rw [branch_not (by rw [decide_eq_true hq]; rfl), if_pos hq, branch_of (inSl_iff.mpr ⟨by omega, by omega, by rw [h4]; omega⟩), branch_of (cdec_iff.mpr (by rw [e3, List.length_take]; omega)), e3,
            show unqS (subT t (0 : Int) ((r.length - 1 : Nat) : Int)) = unqB (r.take (r.length - 1)) by unfold unqS unqB; rw [e3]; rfl]
          exact ⟨_, rfl⟩
        · rw [branch_of (by rw [decide_eq_false hq]; rfl), if_neg hq]
          exact ⟨_, rfl⟩
    · rw [branch_of (by rw [decide_eq_false (by intro e; exact hc (List.cons.inj e).1)]; rfl), if_neg hc]
      have := rest_eq s hs
      rw [hl] at this
      exact this
theorem va_scoped (x : Va × Bool) : Scoped 0 0 (vaA x) := ⟨⟨trivial, trivial, trivial, trivial⟩, trivial, trivial⟩
theorem va_frz (x : Va × Bool) : frz (vaA x) = vaA x := rfl
noncomputable def p29 : POrc Tryd.prog := g29.seenAs dec1s (fun s => [.str s]) dec1s_enc (fun s => cdec (s.size ≤ 100000)) (fun s => vaA (parL (strL s))) fun s h => by
  obtain ⟨st', h⟩ := par_eq s (cdec_iff.mp h)
  exact ⟨⟨trivial, trivial⟩, _, 0, _, st', va_frz _, va_scoped _, h, fun g w v hv => hv⟩
end Go.Proofs.YtcfedmheblbdnaaDoor.V

/- The functions' pieces, as told by gen.py. -/
set_option linter.unusedVariables false
set_option maxRecDepth 20000
namespace Go.Proofs.YtcfedmheblbdnaaDoor.V
open Go Go.V Go.RowKit


/-! ### 10: interlock/value.Read (9); results 2, 3; slots: 0 s, 1 s, 4 v, 5 ok -/
noncomputable def g10_b : Sim Tryd.prog :=
 (.seq (.live [0, 2] (.region 0 [
 ⟨(opAlloc (some 2) 24 (.agg #[(.int .i64 0), (.int .i64 0), (.string ⟨#[]⟩)]) ze24 0 "value.go:199" #[]).op, none⟩,
 ⟨(opAssign (some 3) (.const (Value.bool false)) 4 "value.go:199" #[]).op, none⟩
 ] (by kernel_rfl)))
 (.seq (.live [0, 2, 4, 5] (.region 1 [
 ⟨(opMove (some 7) (.tmp 0) 9 "value.go:200" #[]).op, none⟩,
 ⟨(opCallP p29 (some 8) [(.tmp 7)] #[9] 25 "value.go:200" #[eD 0]).op, none⟩,
 ⟨(opMove (some 6) (.tmp 8) 25 "value.go:200" #[eD 1]).op, none⟩,
 ⟨(opExtract (some 9) (.tmp 6) 0 24 "value.go:200" #[eD 2]).op, none⟩,
 ⟨(opExtract (some 10) (.tmp 6) 1 4 "value.go:200" #[eD 2, { on := 6, ground := (Ground.gcOnly Departure.lateStores) }]).op, none⟩,
 ⟨(opAlloc (some 4) 24 (.agg #[(.int .i64 0), (.int .i64 0), (.string ⟨#[]⟩)]) ze24 0 "value.go:200" #[]).op, none⟩,
 ⟨(opStore none 24 (.tmp 4) (.tmp 9) 3 sz24 0 "value.go:200" #[eD 5, eD 3, eC 1, eP 0, eP 1, eP 2, eP 3, { on := 4, ground := (Ground.textOnly Departure.lateStores) }, eP 5]).op, none⟩,
 ⟨(opAssign (some 5) (.tmp 10) 4 "value.go:200" #[eD 4, eC 6, eP 0, eP 1, eP 2, eP 3, eP 4, eP 5, eP 6]).op, none⟩
 ] (by kernel_rfl)))
 (.seq (.seq (.live [2, 4, 23] (.region 2 [
 ⟨(opMove (some 11) (.tmp 5) 4 "value.go:201" #[]).op, none⟩,
 ⟨(opNot (some 12) 4 (.tmp 11) 4 "value.go:201" #[eD 0]).op, none⟩,
 ⟨(opMove (some 13) (.tmp 12) 4 "value.go:201" #[eD 1]).op, none⟩,
 ⟨(opLoadT (.agg [(.int .i64), (.int .i64), .str]) (some 14) 24 (.tmp 4) d24 ud24 3 sz24 (by kernel_rfl) 24 "value.go:201" #[eG 2]).op, (some (2, 13, false))⟩,
 ⟨(opCallP p13 (some 15) [(.tmp 14)] #[24] 4 "value.go:201" #[eD 3, eC 2, eG 2]).op, (some (2, 13, false))⟩,
 ⟨(opNot (some 16) 4 (.tmp 15) 4 "value.go:201" #[eD 4, eG 2]).op, (some (2, 13, false))⟩,
 ⟨(opPick (some 17) (.tmp 13) (.const (Value.bool true)) (.tmp 16) 4 "value.go:201" #[eD 2, eD 5]).op, none⟩,
 ⟨(opMove (some 18) (.tmp 17) 4 "value.go:201" #[eD 6, eC 4]).op, none⟩,
 ⟨(opLoadT (.agg [(.int .i64), (.int .i64), .str]) (some 19) 24 (.tmp 4) d24 ud24 3 sz24 (by kernel_rfl) 24 "value.go:201" #[eG 7]).op, (some (7, 18, false))⟩,
 ⟨(opCallP p12 (some 20) [(.tmp 19)] #[24] 9 "value.go:201" #[eD 8, eC 7, eG 7]).op, (some (7, 18, false))⟩,
 ⟨(opMove (some 21) (.tmp 0) 9 "value.go:201" #[eG 7]).op, (some (7, 18, false))⟩,
 ⟨(opBinS (some 22) .neq 9 (.tmp 20) (.tmp 21) 9 4 "value.go:201" #[eD 9, eD 10, eG 7]).op, (some (7, 18, false))⟩,
 ⟨(opPick (some 23) (.tmp 18) (.const (Value.bool true)) (.tmp 22) 4 "value.go:201" #[eD 7, eD 11]).op, none⟩
 ] (by kernel_rfl)))
 (.cond (.tmp 23)
 (.seq (.live [2, 3] (.region 3 [
 ⟨(opBuild (some 24) 24 #[(.int .i64 0), (.int .i64 0), (.string ⟨#[]⟩)] [] ze24 (by kernel_rfl) 24 "value.go:202" #[]).op, none⟩,
 ⟨(opStore none 24 (.tmp 2) (.tmp 24) 3 sz24 0 "value.go:202" #[eD 0, eP 0]).op, none⟩,
 ⟨(opAssign (some 3) (.const (Value.bool false)) 4 "value.go:202" #[eC 1, eP 0, eP 1]).op, none⟩
 ] (by kernel_rfl)))
 (.live [2, 3] .ret))
 .skip))
 (.seq (.live [2, 3] (.region 4 [
 ⟨(opLoadT (.agg [(.int .i64), (.int .i64), .str]) (some 25) 24 (.tmp 4) d24 ud24 3 sz24 (by kernel_rfl) 24 "value.go:204" #[]).op, none⟩,
 ⟨(opStore none 24 (.tmp 2) (.tmp 25) 3 sz24 0 "value.go:204" #[eD 0, eP 0]).op, none⟩,
 ⟨(opAssign (some 3) (.const (Value.bool true)) 4 "value.go:204" #[eC 1, eP 0, eP 1]).op, none⟩
 ] (by kernel_rfl)))
 (.live [2, 3] .ret)))))

noncomputable def g10 : Fun Tryd.prog where
 id := 10
 fn := Tryd.f10
 hf := Tryd.func10
 hname := by kernel_rfl
 body := g10_b
 hbody := by kernel_rfl
 res := [rCell 2 24 d24 ud24 3 sz24, rTmp 3]
 hres := by kernel_rfl
 n := 26
 hn := by kernel_rfl

end Go.Proofs.YtcfedmheblbdnaaDoor.V

/- What the functions' runs come to; the right sides were printed by a tool, Lean checks them. -/
set_option linter.unusedVariables false
set_option maxRecDepth 100000
namespace Go.Proofs.YtcfedmheblbdnaaDoor.V
open Go Go.V Go.RowKit

theorem rd_run (F : Nat) (s : ByteArray) :
 (g10.run F [.str s] ⟨[], []⟩ : Ans) =
 branch (AV.bool (cdec (s.size ≤ 100000)))
 (branch (AV.bool !(parL (strL s)).snd)
 (some
 (Fin.ret
 (AV.tup
 [AV.agg [AV.int IntKind.i64 (0 : Int), AV.int IntKind.i64 (0 : Int), AV.str (ByteArray.mk #[])],
 AV.bool false]),
 St.mk
 [Ob.cells [AV.int IntKind.i64 (0 : Int), AV.int IntKind.i64 (0 : Int), AV.str (ByteArray.mk #[])],
 Ob.cells
 [AV.int IntKind.i64 (parL (strL s)).fst.k, AV.int IntKind.i64 (parL (strL s)).fst.n,
 AV.str (parL (strL s)).fst.s]]
 []))
 (branch
 (AV.bool
 !rightV
 (Va.mk
 (hdI
 (List.drop 0
 (setAt
 (List.map ofLitS
 #[Value.int IntKind.i64 (0 : Int), Value.int IntKind.i64 (0 : Int),
 Value.string (ByteArray.mk #[])].toList)
 0 (parL (strL s)).fst.cells)))
 (hdI
 (List.drop 0
 (setAt
 (List.map ofLitS
 #[Value.int IntKind.i64 (0 : Int), Value.int IntKind.i64 (0 : Int),
 Value.string (ByteArray.mk #[])].toList)
 0 (parL (strL s)).fst.cells)).tail)
 (hdS
 (List.drop 0
 (setAt
 (List.map ofLitS
 #[Value.int IntKind.i64 (0 : Int), Value.int IntKind.i64 (0 : Int),
 Value.string (ByteArray.mk #[])].toList)
 0 (parL (strL s)).fst.cells)).tail.tail)))
 (some
 (Fin.ret
 (AV.tup
 [AV.agg [AV.int IntKind.i64 (0 : Int), AV.int IntKind.i64 (0 : Int), AV.str (ByteArray.mk #[])],
 AV.bool false]),
 St.mk
 [Ob.cells [AV.int IntKind.i64 (0 : Int), AV.int IntKind.i64 (0 : Int), AV.str (ByteArray.mk #[])],
 Ob.cells
 [AV.int IntKind.i64 (parL (strL s)).fst.k, AV.int IntKind.i64 (parL (strL s)).fst.n,
 AV.str (parL (strL s)).fst.s]]
 []))
 (branch
 (AV.bool
 (okSh
 (Va.mk
 (hdI
 (List.drop 0
 (setAt
 (List.map ofLitS
 #[Value.int IntKind.i64 (0 : Int), Value.int IntKind.i64 (0 : Int),
 Value.string (ByteArray.mk #[])].toList)
 0 (parL (strL s)).fst.cells)))
 (hdI
 (List.drop 0
 (setAt
 (List.map ofLitS
 #[Value.int IntKind.i64 (0 : Int), Value.int IntKind.i64 (0 : Int),
 Value.string (ByteArray.mk #[])].toList)
 0 (parL (strL s)).fst.cells)).tail)
 (hdS
 (List.drop 0
 (setAt
 (List.map ofLitS
 #[Value.int IntKind.i64 (0 : Int), Value.int IntKind.i64 (0 : Int),
 Value.string (ByteArray.mk #[])].toList)
 0 (parL (strL s)).fst.cells)).tail.tail))))
 (branch
 (AV.bool
 !(showV
 (Va.mk
 (hdI
 (List.drop 0
 (setAt
 (List.map ofLitS
 #[Value.int IntKind.i64 (0 : Int), Value.int IntKind.i64 (0 : Int),
 Value.string (ByteArray.mk #[])].toList)
 0 (parL (strL s)).fst.cells)))
 (hdI
 (List.drop 0
 (setAt
 (List.map ofLitS
 #[Value.int IntKind.i64 (0 : Int), Value.int IntKind.i64 (0 : Int),
 Value.string (ByteArray.mk #[])].toList)
 0 (parL (strL s)).fst.cells)).tail)
 (hdS
 (List.drop 0
 (setAt
 (List.map ofLitS
 #[Value.int IntKind.i64 (0 : Int), Value.int IntKind.i64 (0 : Int),
 Value.string (ByteArray.mk #[])].toList)
 0 (parL (strL s)).fst.cells)).tail.tail))).toList ==
 s.toList)
 (some
 (Fin.ret
 (AV.tup
 [AV.agg [AV.int IntKind.i64 (0 : Int), AV.int IntKind.i64 (0 : Int), AV.str (ByteArray.mk #[])],
 AV.bool false]),
 St.mk
 [Ob.cells [AV.int IntKind.i64 (0 : Int), AV.int IntKind.i64 (0 : Int), AV.str (ByteArray.mk #[])],
 Ob.cells
 [AV.int IntKind.i64 (parL (strL s)).fst.k, AV.int IntKind.i64 (parL (strL s)).fst.n,
 AV.str (parL (strL s)).fst.s]]
 []))
 (some
 (Fin.ret
 (AV.tup
 [AV.agg
 [AV.int IntKind.i64 (parL (strL s)).fst.k, AV.int IntKind.i64 (parL (strL s)).fst.n,
 AV.str (parL (strL s)).fst.s],
 AV.bool true]),
 St.mk
 [Ob.cells
 [AV.int IntKind.i64 (parL (strL s)).fst.k, AV.int IntKind.i64 (parL (strL s)).fst.n,
 AV.str (parL (strL s)).fst.s],
 Ob.cells
 [AV.int IntKind.i64 (parL (strL s)).fst.k, AV.int IntKind.i64 (parL (strL s)).fst.n,
 AV.str (parL (strL s)).fst.s]]
 [])))
 none)))
 none := by kernel_rfl

end Go.Proofs.YtcfedmheblbdnaaDoor.V

/- Values: Read, as a callee. -/
set_option linter.unusedVariables false
namespace Go.Proofs.YtcfedmheblbdnaaDoor.V
open Go Go.V Go.RowKit

noncomputable def readL (s : ByteArray) : Va × Bool := if (parL (strL s)).2 = true ∧ rightV (parL (strL s)).1 = true ∧ showV (parL (strL s)).1 = s then ((parL (strL s)).1, true) else (vaZ, false)
theorem piF_rng (L : List Nat) : -9223372036854775808 ≤ (piF L).1 ∧ (piF L).1 ≤ 9223372036854775807 := by
  have hp : ∀ x, -9223372036854775808 ≤ (posF x).1 ∧ (posF x).1 ≤ 9223372036854775807 := fun x => by
    unfold posF
    split
    · exact ⟨by decide, by decide⟩
    · split
      · exact ⟨by decide, by decide⟩
      · refine ⟨?_, ?_⟩ <;> simp only <;> omega
  have hn : ∀ x, -9223372036854775808 ≤ (negF x).1 ∧ (negF x).1 ≤ 9223372036854775807 := fun x => by
    unfold negF
    split
    · exact ⟨by decide, by decide⟩
    · split
      · exact ⟨by decide, by decide⟩
      · refine ⟨?_, ?_⟩ <;> simp only <;> omega
  cases L with
  | nil => exact ⟨by decide, by decide⟩
  | cons c r =>
    rw [piF]
    split
    · exact hp _
    · split
      · exact hn _
      · exact hp _
theorem restP_rng (L : List Nat) : -9223372036854775808 ≤ (restP L).1.n ∧ (restP L).1.n ≤ 9223372036854775807 := by
  unfold restP
  split
  · exact ⟨by decide, by decide⟩
  · split
    · exact ⟨by decide, by decide⟩
    · split
      · exact ⟨by decide, by decide⟩
      · split
        · exact piF_rng L
        · exact ⟨by decide, by decide⟩
theorem parL_rng (L : List Nat) : -9223372036854775808 ≤ (parL L).1.n ∧ (parL L).1.n ≤ 9223372036854775807 := by
  cases L with
  | nil => exact restP_rng []
  | cons c r =>
    rw [parL]
    split
    · split
      · exact ⟨show (-9223372036854775808 : Int) ≤ 0 by decide, show (0 : Int) ≤ 9223372036854775807 by decide⟩
      · exact ⟨show (-9223372036854775808 : Int) ≤ 0 by decide, show (0 : Int) ≤ 9223372036854775807 by decide⟩
    · exact restP_rng _
theorem size_nil {s : ByteArray} (h : (s.toList == []) = true) : s.size = 0 := by
  rw [empty_iff, decide_eq_true_eq] at h
  rw [strL_size, h]; rfl
theorem right_size {v : Va} (h : rightV v = true) : v.s.size ≤ 16 := by
  unfold rightV at h
  cases h0 : v.k == 0 with
  | true =>
    rw [h0, cond_true, Bool.and_eq_true] at h
    rw [size_nil h.2]; omega
  | false =>
    rw [h0, cond_false] at h
    cases h1 : v.k == 1 with
    | true => rw [h1, cond_true] at h; rw [size_nil h]; omega
    | false =>
      rw [h1, cond_false] at h
      cases h2 : v.k == 2 with
      | true => rw [h2, cond_true, Bool.and_eq_true] at h; rw [size_nil h.1]; omega
      | false =>
        rw [h2, cond_false] at h
        cases h3 : v.k == 3 with
        | true =>
          rw [h3, cond_true, Bool.and_eq_true, decide_eq_true_eq] at h; omega
        | false => rw [h3] at h; simp at h
theorem okSh_right {v : Va} (h : rightV v = true) (h1 : -9223372036854775808 ≤ v.n) (h2 : v.n ≤ 9223372036854775807) : okSh v = true :=
  cdec_iff.mpr ⟨h1, h2, Nat.le_trans (right_size h) (by omega)⟩
theorem gets_of {b : Bool} {y n : Ans} {r : AV} (h : b = true) (k : ∃ st', y = some (.ret r, st')) : ∃ st', branch (.bool b) y n = some (.ret r, st') := by subst h; exact k
theorem gets_not {b : Bool} {y n : Ans} {r : AV} (h : b = false) (k : ∃ st', n = some (.ret r, st')) : ∃ st', branch (.bool b) y n = some (.ret r, st') := by subst h; exact k
theorem str_ne {a b : ByteArray} (h : a ≠ b) : (a.toList == b.toList) = false := by
  rw [beq_eq_false_iff_ne]
  intro e
  refine h (strL_inj ?_)
  rw [strL, strL, ← ByteArray.toList_eq, ← ByteArray.toList_eq, e]
theorem read_eq (s : ByteArray) (hs : s.size ≤ 100000) : ∃ st', g10.run 0 [.str s] ⟨[], []⟩ = some (.ret (vaA (readL s)), st') := by
  have hr := parL_rng (strL s)
  rw [rd_run, branch_of (cdec_iff.mpr hs), readL]
  generalize parL (strL s) = x at *
  obtain ⟨v, ok⟩ := x
  simp only at hr ⊢
  cases ok with
  | false => rw [if_neg (by simp)]; exact ⟨_, rfl⟩
  | true =>
    cases h2 : rightV v with
    | false =>
      rw [if_neg (by simp)]
      exact gets_not rfl (gets_of (show (!rightV v) = true by rw [h2]; rfl) ⟨_, rfl⟩)
    | true =>
      by_cases h3 : showV v = s
      · rw [if_pos ⟨rfl, rfl, h3⟩]
        exact gets_not rfl (gets_not (show (!rightV v) = false by rw [h2]; rfl) (gets_of (show okSh v = true from okSh_right h2 hr.1 hr.2) (gets_not (show (!((showV v).toList == s.toList)) = false by rw [h3]; simp) ⟨_, rfl⟩)))
      · rw [if_neg (by intro h; exact h3 h.2.2)]
        exact gets_not rfl (gets_not (show (!rightV v) = false by rw [h2]; rfl) (gets_of (show okSh v = true from okSh_right h2 hr.1 hr.2) (gets_of (show (!((showV v).toList == s.toList)) = true by rw [str_ne h3]; rfl) ⟨_, rfl⟩)))
noncomputable def p10 : POrc Tryd.prog := g10.seenAs dec1s (fun s => [.str s]) dec1s_enc (fun s => cdec (s.size ≤ 100000)) (fun s => vaA (readL s)) fun s h => by
  obtain ⟨st', h⟩ := read_eq s (cdec_iff.mp h)
  exact ⟨⟨trivial, trivial⟩, _, 0, _, st', va_frz _, va_scoped _, h, fun g w v hv => hv⟩
end Go.Proofs.YtcfedmheblbdnaaDoor.V

/- The functions' pieces, as told by gen.py. -/
set_option linter.unusedVariables false
set_option maxRecDepth 20000
namespace Go.Proofs.YtcfedmheblbdnaaDoor.V
open Go Go.V Go.RowKit


/-! ### 11: interlock/interlockref04.Read (9); results 2, 3; slots:  -/
end Go.Proofs.YtcfedmheblbdnaaDoor.V

/- What the functions' runs come to; the right sides were printed by a tool, Lean checks them. -/
set_option linter.unusedVariables false
set_option maxRecDepth 100000
namespace Go.Proofs.YtcfedmheblbdnaaDoor.V
open Go Go.V Go.RowKit

end Go.Proofs.YtcfedmheblbdnaaDoor.V

/- Values: the reference's Read: its loop. -/
set_option linter.unusedVariables false
namespace Go.Proofs.YtcfedmheblbdnaaDoor.V
open Go Go.V Go.RowKit

section
variable (F m : Nat) (K : Cont) (s : ByteArray) (i : Nat) (pre : List Nat) (hs : s.size ≤ 1000) (hi : i + 1 < s.size) (hp : pre.length ≤ 1000)
include hs hi hp
omit hp in
end
end Go.Proofs.YtcfedmheblbdnaaDoor.V

/- Values: the reference's Read, as a callee. -/
set_option linter.unusedVariables false
namespace Go.Proofs.YtcfedmheblbdnaaDoor.V
open Go Go.V Go.RowKit

end Go.Proofs.YtcfedmheblbdnaaDoor.V

/- Values: the reference's Read, as a callee (end). -/
set_option linter.unusedVariables false
namespace Go.Proofs.YtcfedmheblbdnaaDoor.V
open Go Go.V Go.RowKit

end Go.Proofs.YtcfedmheblbdnaaDoor.V

/- Values: both Reads answer alike (plain law). -/
set_option linter.unusedVariables false
namespace Go.Proofs.YtcfedmheblbdnaaDoor.V
open Go Go.V Go.RowKit

theorem nil_of_toList {s : ByteArray} (h : (s.toList == []) = true) : s = ByteArray.mk #[] := by
  rw [empty_iff, decide_eq_true_eq] at h
  exact strL_inj (h.trans rfl)
/-- The four kinds of right values. -/
theorem right_kinds {v : Va} (h : rightV v = true) : v = vaZ ∨ v = ⟨1, v.n, ByteArray.mk #[]⟩ ∨ v = ⟨2, 0, ByteArray.mk #[]⟩ ∨ v = ⟨2, 1, ByteArray.mk #[]⟩ ∨ v = ⟨3, 0, v.s⟩ := by
  obtain ⟨k, n, s⟩ := v
  unfold rightV at h
  simp only at h ⊢
  cases h0 : k == 0 with
  | true =>
    rw [h0, cond_true, Bool.and_eq_true] at h
    left
    rw [beq_iff_eq] at h0
    rw [vaZ, h0, beq_iff_eq.mp h.1, nil_of_toList h.2]
  | false =>
    rw [h0, cond_false] at h
    cases h1 : k == 1 with
    | true => rw [h1, cond_true] at h; rw [beq_iff_eq] at h1; right; left; rw [h1, nil_of_toList h]
    | false =>
      rw [h1, cond_false] at h
      cases h2 : k == 2 with
      | true =>
        rw [h2, cond_true, Bool.and_eq_true, Bool.or_eq_true] at h
        rw [beq_iff_eq] at h2
        right; right
        rcases h.2 with h3 | h3
        · left; rw [h2, beq_iff_eq.mp h3, nil_of_toList h.1]
        · right; left; rw [h2, beq_iff_eq.mp h3, nil_of_toList h.1]
      | false =>
        rw [h2, cond_false] at h
        cases h3 : k == 3 with
        | true =>
          rw [h3, cond_true, Bool.and_eq_true, beq_iff_eq] at h
          rw [beq_iff_eq] at h3
          right; right; right; right; rw [h3, h.1]
        | false => rw [h3] at h; simp at h
theorem qtL_lt (s : ByteArray) : ∀ b ∈ qtL (strL s), b < 256 := by
  intro b hb
  rcases List.mem_cons.mp hb with rfl | hb
  · omega
  · rcases List.mem_append.mp hb with hb | hb
    · obtain ⟨x, hx, hb⟩ := List.mem_flatMap.mp hb
      exact encQ_lt (strL_lt _ _ hx) b hb
    · simp at hb; omega
theorem numL_head {i : Int} (h1 : -9223372036854775808 ≤ i) (h2 : i ≤ 9223372036854775807) : (∃ c r, numL i = c :: r ∧ (c = 45 ∨ 48 ≤ c ∧ c ≤ 57)) ∧ (numL i).length ≤ 20 ∧ ∀ b ∈ numL i, b < 256 := by
  have dl : ∀ U : Nat, U ≤ 9223372036854775808 → (dec U).length ≤ 19 ∧ ∀ b ∈ dec U, b < 256 := by
    intro U hU
    unfold dec
    by_cases hz : U = 0
    · subst hz; simp
    · obtain ⟨k1, k2, k3, k4⟩ := ndN_spec hz (by omega)
      rw [if_neg hz]
      refine ⟨?_, ?_⟩
      · rw [digs, List.length_map, List.length_range]
        rcases Nat.lt_or_ge (ndN U) 20 with h | h
        · omega
        · exfalso
          have : (10 : Nat) ^ 19 ≤ 10 ^ (ndN U - 1) := Nat.pow_le_pow_right (by omega) (by omega)
          have h19 : (10 : Nat) ^ 19 = 10000000000000000000 := by decide
          omega
      · intro b hb
        obtain ⟨j, _, rfl⟩ := List.mem_map.mp hb
        omega
  unfold numL
  by_cases hn : i < 0
  · rw [if_pos hn]
    obtain ⟨d1, d2⟩ := dl (-i).toNat (by omega)
    refine ⟨⟨45, _, rfl, .inl rfl⟩, by rw [List.length_cons]; omega, fun b hb => ?_⟩
    rcases List.mem_cons.mp hb with rfl | hb
    · omega
    · exact d2 b hb
  · rw [if_neg hn]
    obtain ⟨d1, d2⟩ := dl i.toNat (by omega)
    obtain ⟨_, c, r, e, hc⟩ := dec_puL (U := i.toNat) (by omega)
    exact ⟨⟨c, r, e, .inr hc⟩, by omega, d2⟩
theorem par_num {i : Int} (h1 : -9223372036854775808 ≤ i) (h2 : i ≤ 9223372036854775807) : parL (numL i) = (⟨1, i, ByteArray.mk #[]⟩, true) := by
  obtain ⟨⟨c, r, e, hc⟩, _, _⟩ := numL_head h1 h2
  have hp := piF_num h1 h2
  rw [e] at hp ⊢
  rw [parL, if_neg (by omega), restP, if_neg (by intro h; have := (List.cons.inj h).1; omega), if_neg (by intro h; have := (List.cons.inj h).1; omega), if_neg (by intro h; have := (List.cons.inj h).1; omega), hp, if_pos rfl]
theorem flat_take (l : List Nat) : (l ++ [34]).take ((l ++ [34]).length - 1) = l ∧ (l ++ [34]).drop ((l ++ [34]).length - 1) = [34] := by
  have : (l ++ [34]).length - 1 = l.length := by simp
  rw [this]
  exact ⟨List.take_left, List.drop_left⟩
theorem par_qt (s : ByteArray) : parL (qtL (strL s)) = (⟨3, 0, s⟩, true) := by
  obtain ⟨t1, t2⟩ := flat_take ((strL s).flatMap encQ)
  rw [qtL, parL, if_pos rfl, t1, t2, if_pos rfl, unqB, unqL_enc (strL_lt s)]
  simp only [strB_strL, Option.isSome_some]
theorem strL_num {i : Int} (h1 : -9223372036854775808 ≤ i) (h2 : i ≤ 9223372036854775807) : strL (showI i) = numL i := strL_txt (numL_head h1 h2).2.2
theorem emp : ((ByteArray.mk #[]).toList == []) = true := by rw [empty_iff]; rfl
theorem right_0 : rightV vaZ = true := by simp only [rightV, vaZ, emp]; rfl
theorem right_1 (i : Int) : rightV ⟨1, i, ByteArray.mk #[]⟩ = true := by simp only [rightV, emp]; rfl
theorem right_f : rightV ⟨2, 0, ByteArray.mk #[]⟩ = true := by simp only [rightV, emp]; rfl
theorem right_t : rightV ⟨2, 1, ByteArray.mk #[]⟩ = true := by simp only [rightV, emp]; rfl
theorem show_0 : showV vaZ = wnull := by rw [showV, right_0]; rfl
theorem show_f : showV ⟨2, 0, ByteArray.mk #[]⟩ = wfalse := by rw [showV, right_f]; rfl
theorem show_t : showV ⟨2, 1, ByteArray.mk #[]⟩ = wtrue := by rw [showV, right_t]; rfl
theorem show_1 (i : Int) : showV ⟨1, i, ByteArray.mk #[]⟩ = showI i := by rw [showV, right_1]; rfl
theorem show_3 {s : ByteArray} (h : rightV ⟨3, 0, s⟩ = true) : showV ⟨3, 0, s⟩ = strB (qtL (strL s)) := by
  rw [showV, h]; rfl
theorem strL_qt (s : ByteArray) : strL (strB (qtL (strL s))) = qtL (strL s) := strL_strB (qtL_lt s)
theorem wnull_L : strL wnull = lNull := by decide
theorem wtrue_L : strL wtrue = lTrue := by decide
theorem wfalse_L : strL wfalse = lFalse := by decide
theorem par_show {v : Va} (h : rightV v = true) (h1 : -9223372036854775808 ≤ v.n) (h2 : v.n ≤ 9223372036854775807) : parL (strL (showV v)) = (v, true) := by
  rcases right_kinds h with e | e | e | e | e
  · rw [e, show_0, wnull_L]; rfl
  · rw [e, show_1, strL_num h1 h2, par_num h1 h2]
  · rw [e, show_f, wfalse_L]; rfl
  · rw [e, show_t, wtrue_L]; rfl
  · rw [e] at h ⊢; rw [show_3 h, strL_qt, par_qt]
end Go.Proofs.YtcfedmheblbdnaaDoor.V

/- The functions' pieces, as told by gen.py. -/
set_option linter.unusedVariables false
set_option maxRecDepth 20000
namespace Go.Proofs.YtcfedmheblbdnaaDoor.V
open Go Go.V Go.RowKit


/-! ### 4: interlock/interlocklaw04.ValueShown (24, 24); results 4; slots: 0 a, 1 b, 2 a, 3 b, 5 x, 6 y, 7 i, 8 _, 9 ok -/
end Go.Proofs.YtcfedmheblbdnaaDoor.V

/- What the functions' runs come to; the right sides were printed by a tool, Lean checks them. -/
set_option linter.unusedVariables false
set_option maxRecDepth 100000
namespace Go.Proofs.YtcfedmheblbdnaaDoor.V
open Go Go.V Go.RowKit

end Go.Proofs.YtcfedmheblbdnaaDoor.V

/- Values: ValueShown is true. -/
set_option linter.unusedVariables false
namespace Go.Proofs.YtcfedmheblbdnaaDoor.V
open Go Go.V Go.RowKit

theorem numL_chars {i : Int} : ∀ b ∈ numL i, b = 45 ∨ 48 ≤ b ∧ b ≤ 57 := by
  have dl : ∀ U : Nat, ∀ b ∈ dec U, 48 ≤ b ∧ b ≤ 57 := by
    intro U b hb
    unfold dec at hb
    split at hb
    · simp at hb; omega
    · obtain ⟨j, _, rfl⟩ := List.mem_map.mp hb
      omega
  intro b hb
  unfold numL at hb
  split at hb
  · rcases List.mem_cons.mp hb with h | h
    · exact .inl h
    · exact .inr (dl _ b h)
  · exact .inr (dl _ b hb)
theorem hexD_chars {n : Nat} (h : n < 16) : 32 ≤ hexD n ∧ hexD n ≤ 126 := by
  unfold hexD
  cases h1 : Nat.blt n 10
  · rw [cond_false]; omega
  · rw [cond_true]; rw [Nat.blt_eq] at h1; omega
theorem encQ_chars {x : Nat} (hx : x < 256) : ∀ b ∈ encQ x, 32 ≤ b ∧ b ≤ 126 := by
  intro b hb
  cases he : escB x with
  | true =>
    rw [encQ_esc he] at hb
    rcases List.mem_cons.mp hb with h | hb
    · omega
    · rcases List.mem_cons.mp hb with h | hb
      · rw [h]; exact hexD_chars (by omega)
      · simp at hb; rw [hb]; exact hexD_chars (by omega)
  | false =>
    rw [encQ_plain he] at hb
    simp at hb
    subst hb
    rw [escB_eq] at he
    simp only [Bool.or_eq_false_iff, decide_eq_false_iff_not] at he
    omega
theorem show_len {v : Va} (h : rightV v = true) (h1 : -9223372036854775808 ≤ v.n) (h2 : v.n ≤ 9223372036854775807) : (strL (showV v)).length ≤ 50 := by
  have hsz := right_size h
  rcases right_kinds h with e | e | e | e | e
  · rw [e, show_0, wnull_L]; decide
  · rw [e, show_1, strL_num h1 h2]; have := (numL_head h1 h2).2.1; omega
  · rw [e, show_f, wfalse_L]; decide
  · rw [e, show_t, wtrue_L]; decide
  · rw [e] at h ⊢
    rw [show_3 h, strL_qt, qtL, List.length_cons, List.length_append]
    have := flat_encQ_len (strL v.s)
    have hs := strL_size v.s
    simp only [List.length_cons, List.length_nil]; omega
theorem show_wrong {v : Va} (h : ¬ rightV v = true) : showV v = wq := by
  rw [showV]
  cases hx : rightV v with
  | true => exact absurd hx h
  | false => rfl
theorem wq_L : strL wq = [63] := by decide
theorem show_all {v : Va} (h1 : -9223372036854775808 ≤ v.n) (h2 : v.n ≤ 9223372036854775807) : (strL (showV v)).length ≤ 50 ∧ ∀ b ∈ strL (showV v), 32 ≤ b ∧ b ≤ 126 := by
  by_cases h : rightV v = true
  · refine ⟨show_len h h1 h2, ?_⟩
    rcases right_kinds h with e | e | e | e | e
    · rw [e, show_0, wnull_L]; decide
    · rw [e, show_1, strL_num h1 h2]; intro b hb; have := numL_chars b hb; omega
    · rw [e, show_f, wfalse_L]; decide
    · rw [e, show_t, wtrue_L]; decide
    · rw [e] at h ⊢
      rw [show_3 h, strL_qt]
      intro b hb
      rcases List.mem_cons.mp hb with h | hb
      · omega
      · rcases List.mem_append.mp hb with hb | hb
        · obtain ⟨x, hx, hb⟩ := List.mem_flatMap.mp hb
          exact encQ_chars (strL_lt _ _ hx) b hb
        · simp at hb; omega
  · rw [show_wrong h, wq_L]; exact ⟨by decide, by decide⟩
theorem read_show {v : Va} (h : rightV v = true) (h1 : -9223372036854775808 ≤ v.n) (h2 : v.n ≤ 9223372036854775807) : readL (showV v) = (v, true) := by
  rw [readL, par_show h h1 h2, if_pos ⟨rfl, h, rfl⟩]
end Go.Proofs.YtcfedmheblbdnaaDoor.V

/- Values: a row is decoded as it was encoded; a row's bytes without their end are none (plain). -/
set_option linter.unusedVariables false
namespace Go.Proofs.YtcfedmheblbdnaaDoor.Z
open Go.Proofs.YtcfedmheblbdnaaDoor.V
open Go Go.V Go.RowKit

theorem digN_ext : ∀ (l r : List Nat) (i u : Nat), (K.digN i u l).2 ≠ 0 → K.digN i u (l ++ r) = K.digN i u l
  | [], r, i, u, h => absurd rfl h
  | c :: l, r, i, u, h => by
    rw [List.cons_append, K.digN, K.digN]
    rw [K.digN] at h
    split
    · rfl
    · rename_i h1
      rw [if_neg h1] at h
      split
      · rfl
      · rename_i h2
        rw [if_neg h2] at h
        exact digN_ext l r _ _ h
theorem digN_le : ∀ (l : List Nat) (i u : Nat), (K.digN i u l).2 ≠ 0 → (K.digN i u l).2 ≤ i + l.length
  | [], i, u, h => absurd rfl h
  | c :: l, i, u, h => by
    rw [K.digN] at h ⊢
    split
    · rename_i h1; rw [if_pos h1] at h; exact absurd rfl h
    · rename_i h1
      rw [if_neg h1] at h
      split
      · rename_i h2
        split
        · show 0 ≤ _; omega
        · simp only [List.length_cons]; omega
      · rename_i h2
        rw [if_neg h2] at h
        have := digN_le l _ _ h
        simp only [List.length_cons]; omega
theorem getN_ext {l r : List Nat} {o : Int × Nat} (h : K.getN l = some o) : K.getN (l ++ r) = some o := by
  unfold K.getN at h ⊢
  split at h
  · cases h
  · rename_i h0
    have e : (l ++ r).take 10 = l.take 10 ++ r.take (10 - l.length) := List.take_append
    rw [e, digN_ext _ _ _ _ h0, if_neg h0]; exact h
theorem getN_le {l : List Nat} {o : Int × Nat} (h : K.getN l = some o) : o.2 ≤ l.length := by
  unfold K.getN at h
  split at h
  · cases h
  · rename_i h0
    cases h
    have := digN_le _ _ _ h0
    simp only [List.length_take] at this
    show (K.digN 0 0 (l.take 10)).2 ≤ l.length
    omega
theorem getC_ext {n : Int} {l r : List Nat} {o : Int × Nat} (h : K.getC n l = some o) : K.getC n (l ++ r) = some o := by
  unfold K.getC at h ⊢
  split at h
  · cases h
  · rename_i o' h1
    rw [getN_ext h1]; exact h
theorem getC_le {n : Int} {l : List Nat} {o : Int × Nat} (h : K.getC n l = some o) : o.2 ≤ l.length := by
  unfold K.getC at h
  split at h
  · cases h
  · rename_i o' h1
    split at h
    · cases h
    · cases h; exact getN_le h1
theorem getS_ext {l r : List Nat} {o : ByteArray × Nat} (h : K.getS l = some o) : K.getS (l ++ r) = some o := by
  unfold K.getS at h ⊢
  split at h
  · cases h
  · rename_i o' h1
    rw [getN_ext h1]
    simp only at h ⊢
    have hle := getN_le h1
    split at h
    · cases h
    · rename_i h2
      cases h
      rw [if_neg (by rw [List.length_append]; omega), List.drop_append_of_le_length hle, List.take_append_of_le_length (by rw [List.length_drop]; omega)]
theorem getS_le {l : List Nat} {o : ByteArray × Nat} (h : K.getS l = some o) : o.2 ≤ l.length := by
  unfold K.getS at h
  split at h
  · cases h
  · rename_i o' h1
    have hle := getN_le h1
    split at h
    · cases h
    · cases h; simp only; omega
theorem nR_drop_app (l r : List (List AV)) (n : Nat) (h : n ≤ l.length) : nR ((l ++ r).drop n) = nR (l.drop n) ++ nR r := by
  rw [List.drop_append_of_le_length h, nR_append]
theorem rdV_ext {l r l' : List (List AV)} (h : (rdV l).2 = some l') : rdV (l ++ r) = ((rdV l).1, some (l' ++ r)) := by
  unfold rdV at h ⊢
  split at h
  · cases h
  · rename_i o h1
    have hle : o.2 ≤ l.length := by have := getC_le h1; rwa [nR_length] at this
    rw [nR_append, getC_ext h1]
    simp only [h1] at h ⊢
    cases c1 : o.1 == 1 || o.1 == 2 with
    | true =>
      simp only [c1, cond_true] at h ⊢
      split at h
      · cases h
      · rename_i p h2
        have hle2 : p.2 ≤ (l.drop o.2).length := by have := getN_le h2; rwa [nR_length] at this
        rw [nR_drop_app _ _ _ hle, getN_ext h2]
        simp only [h2] at h ⊢
        cases h
        rw [List.drop_append_of_le_length hle, List.drop_append_of_le_length hle2]
    | false =>
      simp only [c1, cond_false] at h ⊢
      cases c3 : o.1 == 3 with
      | true =>
        simp only [c3, cond_true] at h ⊢
        split at h
        · cases h
        · rename_i p h2
          have hle2 : p.2 ≤ (l.drop o.2).length := by have := getS_le h2; rwa [nR_length] at this
          rw [nR_drop_app _ _ _ hle, getS_ext h2]
          simp only [h2] at h ⊢
          cases h
          rw [List.drop_append_of_le_length hle, List.drop_append_of_le_length hle2]
      | false =>
        simp only [c3, cond_false] at h ⊢
        cases h
        rw [List.drop_append_of_le_length hle]
theorem decN_ext : ∀ {n : Nat} {l r : List (List AV)} {p : List Va × List (List AV)}, decN n l = some p → decN n (l ++ r) = some (p.1, p.2 ++ r)
  | 0, l, r, p, h => by cases h; rfl
  | n + 1, l, r, p, h => by
    rw [decN] at h ⊢
    cases h1 : (rdV l).2 with
    | none => rw [h1] at h; cases h
    | some l' =>
      rw [h1] at h
      rw [rdV_ext h1]
      simp only at h ⊢
      cases h2 : decN n l' with
      | none => rw [h2] at h; cases h
      | some q =>
        rw [h2] at h
        cases h
        rw [decN_ext h2]
/-- Bytes that are a row's, cut short, are none. -/
theorem decF_cut {L : List (List AV)} {vs : List Va} (h : decF L = some vs) {c : Nat} (hc : c < L.length) : decF (L.take c) = none := by
  cases hx : decF (L.take c) with
  | none => rfl
  | some vs' =>
    exfalso
    have full : ∀ {l : List (List AV)} {vs : List Va}, decF l = some vs → ∃ o p, K.getC 8 (nR l) = some o ∧ decN o.1.toNat (l.drop o.2) = some p ∧ p.2 = [] := by
      intro l vs h
      unfold decF at h
      split at h
      · cases h
      · rename_i o h1
        split at h
        · cases h
        · rename_i p h2
          refine ⟨o, p, h1, h2, ?_⟩
          cases hb : ((p.2.length : Int) == 0 && p.1.all rightV) with
          | false => rw [hb, cond_false] at h; cases h
          | true =>
            rw [Bool.and_eq_true, beq_iff_eq] at hb
            exact List.eq_nil_of_length_eq_zero (by omega)
    obtain ⟨o, p, a1, a2, a3⟩ := full h
    obtain ⟨o', p', b1, b2, b3⟩ := full hx
    have hle : o'.2 ≤ (L.take c).length := by have := getC_le b1; rwa [nR_length] at this
    have e : L = L.take c ++ L.drop c := (List.take_append_drop c L).symm
    have b1' : K.getC 8 (nR L) = some o' := by
      rw [e, nR_append]; exact getC_ext b1
    rw [a1] at b1'
    cases b1'
    have b2' := decN_ext (r := L.drop c) b2
    rw [← List.drop_append_of_le_length hle, ← e, a2] at b2'
    cases b2'
    simp only [b3, List.nil_append] at a3
    have := congrArg List.length a3
    simp only [List.length_drop, List.length_nil] at this
    omega
theorem getS_enc {s : ByteArray} (h : s.size < 140737488355328) (r : List Nat) : K.getS (K.textBytes s ++ r) = some (s, (K.textBytes s).length) := by
  unfold K.getS
  rw [K.textBytes, List.append_assoc, K.getN_enc (by omega) (by omega)]
  simp only [List.length_append, K.own_length]
  rw [if_neg (by omega), List.drop_left, Int.toNat_natCast, List.take_append_of_le_length (by rw [K.own_length]; omega), List.take_of_length_le (by rw [K.own_length]; omega), K.txt_own]
theorem getC_enc {n : Int} {m : Int} (h1 : 0 ≤ n) (h2 : n ≤ m) (h3 : m ≤ 1000) (r : List Nat) : K.getC m (K.intBytes n ++ r) = some (n, (K.intBytes n).length) := by
  unfold K.getC
  rw [K.getN_enc (by omega) (by omega)]
  simp only
  rw [if_neg (by omega)]
theorem nR_rb (l : List Nat) : nR (K.rb l) = l := nR_bR l
theorem rb_drop (l : List Nat) (n : Nat) : (K.rb l).drop n = K.rb (l.drop n) := bR_drop n l
theorem rdV_0 {l : List (List AV)} {o : Int × Nat} (h : K.getC 3 (nR l) = some o) (h2 : (o.1 == 1 || o.1 == 2) = false) (h3 : (o.1 == 3) = false) : rdV l = (⟨o.1, 0, noS⟩, some (l.drop o.2)) := by
  unfold rdV
  rw [h]
  simp only
  rw [h2, cond_false, h3, cond_false]
theorem rdV_1 {l : List (List AV)} {o p : Int × Nat} (h : K.getC 3 (nR l) = some o) (h2 : (o.1 == 1 || o.1 == 2) = true) (h3 : K.getN (nR (l.drop o.2)) = some p) : rdV l = (⟨o.1, p.1, noS⟩, some ((l.drop o.2).drop p.2)) := by
  unfold rdV
  rw [h]
  simp only
  rw [h2, cond_true, h3]
theorem rdV_3 {l : List (List AV)} {o : Int × Nat} {p : ByteArray × Nat} (h : K.getC 3 (nR l) = some o) (h2 : (o.1 == 1 || o.1 == 2) = false) (h4 : (o.1 == 3) = true) (h3 : K.getS (nR (l.drop o.2)) = some p) : rdV l = (⟨o.1, 0, p.1⟩, some ((l.drop o.2).drop p.2)) := by
  unfold rdV
  rw [h]
  simp only
  rw [h2, cond_false, h4, cond_true, h3]
theorem rdV_num {k n : Int} (hk : k = 1 ∨ k = 2) (h1 : -9223372036854775808 ≤ n) (h2 : n ≤ 9223372036854775807) (r : List Nat) : rdV (K.rb (K.intBytes k ++ K.intBytes n ++ r)) = (⟨k, n, noS⟩, some (K.rb r)) := by
  have e1 : K.getC 3 (nR (K.rb (K.intBytes k ++ K.intBytes n ++ r))) = some (k, (K.intBytes k).length) := by
    rw [nR_rb, List.append_assoc]; exact getC_enc (by omega) (by omega) (by omega) _
  have e2 : (K.rb (K.intBytes k ++ K.intBytes n ++ r)).drop (K.intBytes k).length = K.rb (K.intBytes n ++ r) := by rw [rb_drop, List.append_assoc, List.drop_left]
  rw [rdV_1 (p := (n, (K.intBytes n).length)) e1 (by rcases hk with rfl | rfl <;> rfl) (by simp only; rw [e2, nR_rb]; exact K.getN_enc h1 h2 r)]
  simp only
  rw [e2, rb_drop, List.drop_left]
/-- A right value is read as it was written. -/
theorem rdV_enc {v : Va} (hv : rightV v = true) (h1 : -9223372036854775808 ≤ v.n) (h2 : v.n ≤ 9223372036854775807) (r : List Nat) : rdV (K.rb (encVa v ++ r)) = (v, some (K.rb r)) := by
  have hsz := right_size hv
  rcases right_kinds hv with e | e | e | e | e
  · rw [e, show encVa vaZ = K.intBytes 0 by simp [encVa, vaZ]]
    have e1 : K.getC 3 (nR (K.rb (K.intBytes 0 ++ r))) = some (0, (K.intBytes 0).length) := by
      rw [nR_rb]; exact getC_enc (by omega) (by omega) (by omega) _
    rw [rdV_0 e1 rfl rfl]
    simp only
    rw [rb_drop, List.drop_left]
    rfl
  · rw [e, show encVa ⟨1, v.n, ByteArray.mk #[]⟩ = K.intBytes 1 ++ K.intBytes v.n by simp [encVa]]
    exact rdV_num (.inl rfl) h1 h2 r
  · rw [e, show encVa ⟨2, 0, ByteArray.mk #[]⟩ = K.intBytes 2 ++ K.intBytes 0 by simp [encVa]]
    exact rdV_num (.inr rfl) (by omega) (by omega) r
  · rw [e, show encVa ⟨2, 1, ByteArray.mk #[]⟩ = K.intBytes 2 ++ K.intBytes 1 by simp [encVa]]
    exact rdV_num (.inr rfl) (by omega) (by omega) r
  · rw [e, show encVa ⟨3, 0, v.s⟩ = K.intBytes 3 ++ K.textBytes v.s by simp [encVa]]
    have e1 : K.getC 3 (nR (K.rb (K.intBytes 3 ++ K.textBytes v.s ++ r))) = some (3, (K.intBytes 3).length) := by
      rw [nR_rb, List.append_assoc]; exact getC_enc (by omega) (by omega) (by omega) _
    have e2 : (K.rb (K.intBytes 3 ++ K.textBytes v.s ++ r)).drop (K.intBytes 3).length = K.rb (K.textBytes v.s ++ r) := by rw [rb_drop, List.append_assoc, List.drop_left]
    rw [rdV_3 (p := (v.s, (K.textBytes v.s).length)) e1 rfl rfl (by simp only; rw [e2, nR_rb]; exact getS_enc (by omega) r)]
    simp only
    rw [e2, rb_drop, List.drop_left]
theorem decN_enc : ∀ (vs : List Va) (r : List Nat), (∀ v ∈ vs, rightV v = true ∧ -9223372036854775808 ≤ v.n ∧ v.n ≤ 9223372036854775807) → decN vs.length (K.rb (encVs vs ++ r)) = some (vs, K.rb r)
  | [], r, _ => rfl
  | v :: vs, r, h => by
    obtain ⟨h1, h2, h3⟩ := h v (by simp)
    rw [List.length_cons, decN, encVs, List.append_assoc, rdV_enc h1 h2 h3]
    simp only
    rw [decN_enc vs r fun w hw => h w (by simp [hw])]
theorem decF_enc {l : List (List AV)} (hl : l.length ≤ 8) (h : ∀ v ∈ rowsV l, rightV v = true ∧ -9223372036854775808 ≤ v.n ∧ v.n ≤ 9223372036854775807) : decF (K.rb (encR l)) = some (rowsV l) := by
  have hlen : (rowsV l).length = l.length := by simp [rowsV]
  unfold decF encR
  rw [nR_rb, getC_enc (by omega) (by omega) (by omega)]
  simp only [rb_drop, List.drop_left, Int.toNat_natCast]
  have := decN_enc (rowsV l) [] h
  rw [List.append_nil, hlen] at this
  rw [this]
  have ha : (rowsV l).all rightV = true := List.all_eq_true.mpr fun v hv => (h v hv).1
  simp only [K.rb, List.map_nil, List.length_nil]
  rw [ha]; rfl
end Go.Proofs.YtcfedmheblbdnaaDoor.Z

/- The functions' pieces, as told by gen.py. -/
set_option linter.unusedVariables false
set_option maxRecDepth 20000
namespace Go.Proofs.YtcfedmheblbdnaaDoor.Z
open Go Go.V Go.RowKit Go.Proofs.YtcfedmheblbdnaaDoor.V

theorem eq24 : eqFlatB Tryd.prog 24 [(0, 0), (1, 0), (2, 2)] = true := by kernel_rfl

/-! ### 8: interlock/interlocklaw04.ValueBack (37, 3); results 4; slots: 0 r, 1 cut, 2 r, 3 cut, 5 b, 6 ok, 7 back, 8 is, 9 i, 10 v, 11 is -/
/-- A loop's round; at its head live: 0 r, 9 i -/
noncomputable def f8_l0 : Sim Tryd.prog :=
 (.seq (.seq (.live [0, 9, 63] (.region 16 [
 ⟨(opMove (some 60) (.tmp 9) 3 "law.go:94" #[]).op, none⟩,
 ⟨(opMove (some 61) (.tmp 0) 37 "law.go:94" #[]).op, none⟩,
 ⟨(opLen (some 62) (.tmp 61) 37 (.slice 24) Tryd.underlying37 3 "law.go:94" #[eD 1]).op, none⟩,
 ⟨(opBin (some 63) .lss 3 (.tmp 60) (.tmp 62) 3 4 "law.go:94" #[eD 0, eD 2]).op, none⟩
 ] (by kernel_rfl)))
 (.cond (.tmp 63)
 .skip
 (.live [] (.exit 0))))
 (.seq (.block 1 (.seq (.live [0, 9, 10, 11] (.items 18 [
 .one ((opMove (some 67) (.tmp 0) 37 "law.go:95" #[]).op),
 .one ((opMove (some 68) (.tmp 9) 3 "law.go:95" #[]).op),
 .one ((opIndexAddrT (some 69) 37 (.tmp 67) (.tmp 68) 24 3 Tryd.underlying37 sz24 0 "law.go:95" #[eD 0, eD 1]).op),
 .one ((opLoadT (.agg [(.int .i64), (.int .i64), .str]) (some 70) 24 (.tmp 69) d24 ud24 3 sz24 (by kernel_rfl) 24 "law.go:95" #[eD 2]).op),
 .one ((opCallP p12 (some 71) [(.tmp 70)] #[24] 9 "law.go:95" #[eD 3]).op),
 .one ((opCallP p10 (some 72) [(.tmp 71)] #[9] 25 "law.go:95" #[eD 4, eC 4]).op),
 .one ((opMove (some 66) (.tmp 72) 25 "law.go:95" #[eD 5]).op),
 .one ((opExtract (some 73) (.tmp 66) 0 24 "law.go:95" #[eD 6]).op),
 .one ((opExtract (some 74) (.tmp 66) 1 4 "law.go:95" #[eD 6, { on := 10, ground := (Ground.gcOnly Departure.lateStores) }]).op),
 .two (op2Box 10 24 (.agg #[(.int .i64 0), (.int .i64 0), (.string ⟨#[]⟩)]) ze24 (.tmp 73) (by rfl) 3 sz24 (by kernel_rfl) 85 (by rfl) 0 0 "law.go:95" "law.go:95" #[] #[eD 9, eD 7, eC 5, eP 0, eP 1, eP 2, eP 3, eP 4, eP 5, eP 6, eP 7, { on := 8, ground := (Ground.textOnly Departure.lateStores) }, eP 9]),
 .one ((opAssign (some 11) (.tmp 74) 4 "law.go:95" #[eD 8, eC 10, eP 0, eP 1, eP 2, eP 3, eP 4, eP 5, eP 6, eP 7, eP 8, eP 9, eP 10]).op)
 ]))
 (.seq (.live [0, 9, 84] (.draw 19 [
 ⟨.p (opMove (some 75) (.tmp 11) 4 "law.go:96" #[]), none⟩,
 ⟨.p (opNot (some 76) 4 (.tmp 75) 4 "law.go:96" #[eD 0]), none⟩,
 ⟨.p (opMove (some 77) (.tmp 76) 4 "law.go:96" #[eD 1]), none⟩,
 ⟨.qn (opLoadT (.agg [(.int .i64), (.int .i64), .str]) (some 78) 24 (.tmp 10) d24 ud24 3 sz24 (by kernel_rfl) 24 "law.go:96" #[eG 2]) opLoadT_nat, (some (2, 77, false))⟩,
 ⟨.p (opMove (some 79) (.tmp 0) 37 "law.go:96" #[eG 2]), (some (2, 77, false))⟩,
 ⟨.p (opMove (some 80) (.tmp 9) 3 "law.go:96" #[eG 2]), (some (2, 77, false))⟩,
 ⟨.pn (opIndexAddrT (some 81) 37 (.tmp 79) (.tmp 80) 24 3 Tryd.underlying37 sz24 0 "law.go:96" #[eD 4, eD 5, eG 2]) opIndexAddrT_nat, (some (2, 77, false))⟩,
 ⟨.qn (opLoadT (.agg [(.int .i64), (.int .i64), .str]) (some 82) 24 (.tmp 81) d24 ud24 3 sz24 (by kernel_rfl) 24 "law.go:96" #[eD 6, eG 2]) opLoadT_nat, (some (2, 77, false))⟩,
 ⟨.pn (opNeS (some 83) 24 [(0, 0), (1, 0), (2, 2)] eq24 (.tmp 78) (.tmp 82) 24 4 "law.go:96" #[eD 3, eD 7, eG 2]) opNeS_nat, (some (2, 77, false))⟩,
 ⟨.p (opPick (some 84) (.tmp 77) (.const (Value.bool true)) (.tmp 83) 4 "law.go:96" #[eD 2, eD 8]), none⟩
 ] mixed (by kernel_rfl)))
 (.cond (.tmp 84)
 (.seq (.live [4] (.region 20 [
 ⟨(opAssign (some 4) (.const (Value.bool false)) 4 "law.go:97" #[]).op, none⟩
 ] (by kernel_rfl)))
 (.live [4] .ret))
 .skip))))
 (.live [0, 9] (.region 17 [
 ⟨(opMove (some 64) (.tmp 9) 3 "law.go:94" #[]).op, none⟩,
 ⟨(opBin (some 65) .add 3 (.tmp 64) (.const (Value.int IntKind.i64 1)) 3 3 "law.go:94" #[eD 0]).op, none⟩,
 ⟨(opAssign (some 9) (.tmp 65) 3 "law.go:94" #[eD 1, eP 0, eP 1]).op, none⟩
 ] (by kernel_rfl)))))

/-- What follows a loop. -/
noncomputable def f8_r0 : Sim Tryd.prog :=
 (.seq (.live [4] (.region 21 [
 ⟨(opAssign (some 4) (.const (Value.bool true)) 4 "law.go:100" #[]).op, none⟩
 ] (by kernel_rfl)))
 (.live [4] .ret))

noncomputable def f8_b : Sim Tryd.prog :=
 (.seq (.live [0, 1] (.region 0 [
 ⟨(opAssign (some 4) (.const (Value.bool false)) 4 "law.go:73" #[]).op, none⟩
 ] (by kernel_rfl)))
 (.seq (.seq (.live [0, 1, 13] (.region 1 [
 ⟨(opCallP p9 (some 12) [] #[] 4 "law.go:74" #[]).op, none⟩,
 ⟨(opNot (some 13) 4 (.tmp 12) 4 "law.go:74" #[eD 0]).op, none⟩
 ] (by kernel_rfl)))
 (.cond (.tmp 13)
 (.seq (.live [4] (.region 2 [
 ⟨(opAssign (some 4) (.const (Value.bool false)) 4 "law.go:75" #[]).op, none⟩
 ] (by kernel_rfl)))
 (.live [4] .ret))
 .skip))
 (.seq (.seq (.live [0, 1, 15] (.region 3 [
 ⟨(opMove (some 14) (.tmp 0) 37 "law.go:77" #[]).op, none⟩,
 ⟨(opCallP p15 (some 15) [(.tmp 14)] #[37] 4 "law.go:77" #[eD 0]).op, none⟩
 ] (by kernel_rfl)))
 (.cond (.tmp 15)
 (.seq (.live [4] (.region 4 [
 ⟨(opAssign (some 4) (.const (Value.bool true)) 4 "law.go:78" #[]).op, none⟩
 ] (by kernel_rfl)))
 (.live [4] .ret))
 .skip))
 (.seq (.live [0, 1, 5, 6] (.region 5 [
 ⟨(opMove (some 17) (.tmp 0) 37 "law.go:80" #[]).op, none⟩,
 ⟨(opCallP p25 (some 18) [(.tmp 17)] #[37] 47 "law.go:80" #[eD 0]).op, none⟩,
 ⟨(opMove (some 16) (.tmp 18) 47 "law.go:80" #[eD 1]).op, none⟩,
 ⟨(opExtract (some 19) (.tmp 16) 0 46 "law.go:80" #[eD 2]).op, none⟩,
 ⟨(opExtract (some 20) (.tmp 16) 1 4 "law.go:80" #[eD 2, { on := 5, ground := (Ground.gcOnly Departure.lateStores) }]).op, none⟩,
 ⟨(opAssign (some 5) (.tmp 19) 46 "law.go:80" #[eD 3, eC 1, eP 0, eP 1, eP 2, eP 3, { on := 4, ground := (Ground.textOnly Departure.lateStores) }]).op, none⟩,
 ⟨(opAssign (some 6) (.tmp 20) 4 "law.go:80" #[eD 4, eC 5, eP 0, eP 1, eP 2, eP 3, eP 4, eP 5]).op, none⟩
 ] (by kernel_rfl)))
 (.seq (.seq (.live [0, 1, 5, 22] (.region 6 [
 ⟨(opMove (some 21) (.tmp 6) 4 "law.go:81" #[]).op, none⟩,
 ⟨(opNot (some 22) 4 (.tmp 21) 4 "law.go:81" #[eD 0]).op, none⟩
 ] (by kernel_rfl)))
 (.cond (.tmp 22)
 (.seq (.live [4] (.region 7 [
 ⟨(opMove (some 23) (.tmp 0) 37 "law.go:82" #[]).op, none⟩,
 ⟨(opCallP p26 (some 24) [(.tmp 23)] #[37] 4 "law.go:82" #[eD 0]).op, none⟩,
 ⟨(opNot (some 25) 4 (.tmp 24) 4 "law.go:82" #[eD 1]).op, none⟩,
 ⟨(opMove (some 26) (.tmp 25) 4 "law.go:82" #[eD 2, eC 1]).op, none⟩,
 ⟨(opMove (some 27) (.tmp 5) 46 "law.go:82" #[eG 3]).op, (some (3, 26, true))⟩,
 ⟨(opLen (some 28) (.tmp 27) 46 (.slice 5) Tryd.underlying46 3 "law.go:82" #[eD 4, eG 3]).op, (some (3, 26, true))⟩,
 ⟨(opBin (some 29) .eql 3 (.tmp 28) (.const (Value.int IntKind.i64 0)) 3 4 "law.go:82" #[eD 5, eG 3]).op, (some (3, 26, true))⟩,
 ⟨(opPick (some 30) (.tmp 26) (.tmp 29) (.const (Value.bool false)) 4 "law.go:82" #[eD 3, eD 6]).op, none⟩,
 ⟨(opAssign (some 4) (.tmp 30) 4 "law.go:82" #[eD 7, eC 3, eP 0, eP 1, eP 2, eP 3, eP 4, eP 5, eP 6, eP 7]).op, none⟩
 ] (by kernel_rfl)))
 (.live [4] .ret))
 .skip))
 (.seq (.live [0, 1, 5, 7, 8] (.region 8 [
 ⟨(opMove (some 32) (.tmp 5) 46 "law.go:84" #[]).op, none⟩,
 ⟨(opCallP p27 (some 33) [(.tmp 32)] #[46] 49 "law.go:84" #[eD 0]).op, none⟩,
 ⟨(opMove (some 31) (.tmp 33) 49 "law.go:84" #[eD 1]).op, none⟩,
 ⟨(opExtract (some 34) (.tmp 31) 0 37 "law.go:84" #[eD 2]).op, none⟩,
 ⟨(opExtract (some 35) (.tmp 31) 1 4 "law.go:84" #[eD 2, { on := 5, ground := (Ground.gcOnly Departure.lateStores) }]).op, none⟩,
 ⟨(opAssign (some 7) (.tmp 34) 37 "law.go:84" #[eD 3, eC 1, eP 0, eP 1, eP 2, eP 3, { on := 4, ground := (Ground.textOnly Departure.lateStores) }]).op, none⟩,
 ⟨(opAssign (some 8) (.tmp 35) 4 "law.go:84" #[eD 4, eC 5, eP 0, eP 1, eP 2, eP 3, eP 4, eP 5]).op, none⟩
 ] (by kernel_rfl)))
 (.seq (.seq (.live [0, 1, 5, 43] (.region 9 [
 ⟨(opMove (some 36) (.tmp 8) 4 "law.go:85" #[]).op, none⟩,
 ⟨(opNot (some 37) 4 (.tmp 36) 4 "law.go:85" #[eD 0]).op, none⟩,
 ⟨(opMove (some 38) (.tmp 37) 4 "law.go:85" #[eD 1]).op, none⟩,
 ⟨(opMove (some 39) (.tmp 7) 37 "law.go:85" #[eG 2]).op, (some (2, 38, false))⟩,
 ⟨(opMove (some 40) (.tmp 0) 37 "law.go:85" #[eG 2]).op, (some (2, 38, false))⟩,
 ⟨(opCallP p17 (some 41) [(.tmp 39), (.tmp 40)] #[37, 37] 4 "law.go:85" #[eD 3, eD 4, eC 2, eG 2]).op, (some (2, 38, false))⟩,
 ⟨(opNot (some 42) 4 (.tmp 41) 4 "law.go:85" #[eD 5, eG 2]).op, (some (2, 38, false))⟩,
 ⟨(opPick (some 43) (.tmp 38) (.const (Value.bool true)) (.tmp 42) 4 "law.go:85" #[eD 2, eD 6]).op, none⟩
 ] (by kernel_rfl)))
 (.cond (.tmp 43)
 (.seq (.live [4] (.region 10 [
 ⟨(opAssign (some 4) (.const (Value.bool false)) 4 "law.go:86" #[]).op, none⟩
 ] (by kernel_rfl)))
 (.live [4] .ret))
 .skip))
 (.seq (.seq (.live [0, 1, 5, 51] (.region 11 [
 ⟨(opMove (some 44) (.tmp 1) 3 "law.go:88" #[]).op, none⟩,
 ⟨(opBin (some 45) .geq 3 (.tmp 44) (.const (Value.int IntKind.i64 0)) 3 4 "law.go:88" #[eD 0]).op, none⟩,
 ⟨(opMove (some 46) (.tmp 45) 4 "law.go:88" #[eD 1]).op, none⟩,
 ⟨(opMove (some 47) (.tmp 1) 3 "law.go:88" #[eG 2]).op, (some (2, 46, true))⟩,
 ⟨(opMove (some 48) (.tmp 5) 46 "law.go:88" #[eG 2]).op, (some (2, 46, true))⟩,
 ⟨(opLen (some 49) (.tmp 48) 46 (.slice 5) Tryd.underlying46 3 "law.go:88" #[eD 4, eG 2]).op, (some (2, 46, true))⟩,
 ⟨(opBin (some 50) .lss 3 (.tmp 47) (.tmp 49) 3 4 "law.go:88" #[eD 3, eD 5, eG 2]).op, (some (2, 46, true))⟩,
 ⟨(opPick (some 51) (.tmp 46) (.tmp 50) (.const (Value.bool false)) 4 "law.go:88" #[eD 2, eD 6]).op, none⟩
 ] (by kernel_rfl)))
 (.cond (.tmp 51)
 (.seq (.live [0, 8] (.region 12 [
 ⟨(opMove (some 53) (.tmp 5) 46 "law.go:89" #[]).op, none⟩,
 ⟨(opMove (some 54) (.tmp 1) 3 "law.go:89" #[]).op, none⟩,
 ⟨(opSlice (some 55) 46 (.tmp 53) none (some (.tmp 54)) none 5 1 Tryd.underlying46 sz5 46 "law.go:89" #[eD 0, eD 1]).op, none⟩,
 ⟨(opCallP p27 (some 56) [(.tmp 55)] #[46] 49 "law.go:89" #[eD 2]).op, none⟩,
 ⟨(opMove (some 52) (.tmp 56) 49 "law.go:89" #[eD 3]).op, none⟩,
 ⟨(opExtract (some 57) (.tmp 52) 0 37 "law.go:89" #[eD 4]).op, none⟩,
 ⟨(opExtract (some 58) (.tmp 52) 1 4 "law.go:89" #[eD 4]).op, none⟩,
 ⟨(opAssign (some 8) (.tmp 58) 4 "law.go:89" #[eD 6, eC 3, eP 0, eP 1, eP 2, eP 3, eP 4, eP 5, eP 6]).op, none⟩
 ] (by kernel_rfl)))
 (.seq (.live [0, 59] (.region 13 [
 ⟨(opMove (some 59) (.tmp 8) 4 "law.go:90" #[]).op, none⟩
 ] (by kernel_rfl)))
 (.cond (.tmp 59)
 (.seq (.live [4] (.region 14 [
 ⟨(opAssign (some 4) (.const (Value.bool false)) 4 "law.go:91" #[]).op, none⟩
 ] (by kernel_rfl)))
 (.live [4] .ret))
 .skip)))
 .skip))
 (.seq (.seq (.live [0, 9] (.region 15 [
 ⟨(opAssign (some 9) (.const (Value.int IntKind.i64 0)) 3 "law.go:94" #[]).op, none⟩
 ] (by kernel_rfl)))
 (.block 0 (.loop [0, 9] f8_l0)))
 f8_r0)))))))))

noncomputable def f8 : Fun Tryd.prog where
 id := 8
 fn := Tryd.f8
 hf := Tryd.func8
 hname := by kernel_rfl
 body := f8_b
 hbody := by kernel_rfl
 res := [rTmp 4]
 hres := by kernel_rfl
 n := 85
 hn := by kernel_rfl

end Go.Proofs.YtcfedmheblbdnaaDoor.Z

/- What the functions' runs come to; the right sides were printed by a tool, Lean checks them. -/
set_option linter.unusedVariables false
set_option maxRecDepth 100000
namespace Go.Proofs.YtcfedmheblbdnaaDoor.Z
open Go Go.V Go.RowKit Go.Proofs.YtcfedmheblbdnaaDoor.V

theorem bk_run (F : Nat) (z : Bool) (l : List (List AV)) (cut : Int) :
 (f8.run F [.ns z 3 l, .int .i64 cut] ⟨[], []⟩ : Ans) =
 branch (AV.bool (okV l))
 (branch (AV.bool (longV l)) (some (Fin.ret (AV.bool true), St.mk [] []))
 (branch (AV.bool (okE2 (z, l)))
 (branch (AV.bool !rrV l)
 (branch (AV.bool (okV l))
 (branch (AV.bool !rrV l) (some (Fin.ret (AV.bool ((↑(encB l).length : Int) == (0 : Int))), St.mk [] []))
 (some (Fin.ret (AV.bool false), St.mk [] [])))
 none)
 (branch (AV.bool (okY (!rrV l, encB l)))
 (branch (AV.bool !(decF (encB l)).isSome) (some (Fin.ret (AV.bool false), St.mk [] []))
 (branch (AV.bool (ok2 ((((decF (encB l)).getD []).isEmpty, cellsV ((decF (encB l)).getD [])), z, l)))
 (branch (AV.bool !sameV (cellsV ((decF (encB l)).getD [])) l)
 (some (Fin.ret (AV.bool false), St.mk [] []))
 (branch (AV.bool (decide (cut ≥ (0 : Int))))
 (branch (AV.bool (decide (cut < (↑(encB l).length : Int))))
 (if (0 : Int) ≤ cut ∧ cut ≤ (↑(encB l).length : Int) then
 branch (AV.bool (okY (!rrV l, List.drop 0 (List.take cut.toNat (encB l)))))
 (branch (AV.bool (decF (List.drop 0 (List.take cut.toNat (encB l)))).isSome)
 (some (Fin.ret (AV.bool false), St.mk [] []))
 (loopRun (f8_l0.run F) [0, 9]
 (Cont.block 0 (Cont.then (f8_r0.run F (f8.leaveK Fun.done)) (f8.leaveK Fun.done))) F
 (Env.mk 85
 [(0, AV.ns z 3 l), (9, AV.int IntKind.i64 (0 : Int))])
 (St.mk [] [])))
 none
 else none)
 (loopRun (f8_l0.run F) [0, 9]
 (Cont.block 0 (Cont.then (f8_r0.run F (f8.leaveK Fun.done)) (f8.leaveK Fun.done))) F
 (Env.mk 85 [(0, AV.ns z 3 l), (9, AV.int IntKind.i64 (0 : Int))])
 (St.mk [] [])))
 (loopRun (f8_l0.run F) [0, 9]
 (Cont.block 0 (Cont.then (f8_r0.run F (f8.leaveK Fun.done)) (f8.leaveK Fun.done))) F
 (Env.mk 85 [(0, AV.ns z 3 l), (9, AV.int IntKind.i64 (0 : Int))])
 (St.mk [] []))))
 none))
 none))
 none))
 none := by kernel_rfl

theorem bk_round (F m : Nat) (K : Cont) (z : Bool) (l : List (List AV)) (i : Int) :
 (loopRun (f8_l0.run F) [0, 9] K m.succ (Env.mk 85 [(0, .ns z 3 l), (9, .int .i64 i)]) ⟨[], []⟩ : Ans) =
 branch (AV.bool (decide (i < (↑l.length : Int))))
 (branch (AV.bool (inR l i))
 (branch (AV.bool ((LD.agg [LT.int IntKind.i64, LT.int IntKind.i64, LT.str]).is (V.rowAt l i)))
 (branch (AV.bool (okSh (Va.mk (hdI (V.rowAt l i)) (hdI (V.rowAt l i).tail) (hdS (V.rowAt l i).tail.tail))))
 (branch
 (AV.bool
 (cdec
 ((showV (Va.mk (hdI (V.rowAt l i)) (hdI (V.rowAt l i).tail) (hdS (V.rowAt l i).tail.tail))).size ≤
 100000)))
 (branch
 (AV.bool
 !(readL (showV (Va.mk (hdI (V.rowAt l i)) (hdI (V.rowAt l i).tail) (hdS (V.rowAt l i).tail.tail)))).snd)
 (K AX.ret (Env.mk 85 [(4, AV.bool false)]) (St.mk [] []))
 (branch (AV.bool (inR l i))
 (branch (AV.bool ((LD.agg [LT.int IntKind.i64, LT.int IntKind.i64, LT.str]).is (V.rowAt l i)))
 (branch
 (AV.bool
 !((readL
 (showV
 (Va.mk (hdI (V.rowAt l i)) (hdI (V.rowAt l i).tail)
 (hdS (V.rowAt l i).tail.tail)))).fst.k ==
 hdI (V.rowAt l i) &&
 ((readL
 (showV
 (Va.mk (hdI (V.rowAt l i)) (hdI (V.rowAt l i).tail)
 (hdS (V.rowAt l i).tail.tail)))).fst.n ==
 hdI (V.rowAt l i).tail &&
 ((readL
 (showV
 (Va.mk (hdI (V.rowAt l i)) (hdI (V.rowAt l i).tail)
 (hdS (V.rowAt l i).tail.tail)))).fst.s.toList ==
 (hdS (V.rowAt l i).tail.tail).toList &&
 true))))
 (K AX.ret (Env.mk 85 [(4, AV.bool false)]) (St.mk [] []))
 (loopRun (f8_l0.run F) [0, 9] K m
 (Env.mk 85
 [(0, AV.ns z 3 l),
 (9, AV.int IntKind.i64 (IntKind.i64.wrap (i + (1 : Int))))])
 (St.mk [] [])))
 none)
 none))
 none)
 none)
 none)
 none)
 (K (AX.exit 0) (Env.mk 85 []) (St.mk [] [])) := by kernel_rfl

theorem bk_out (F : Nat) :
 ((Cont.block 0 (Cont.then (f8_r0.run F (f8.leaveK Fun.done)) (f8.leaveK Fun.done))) (.exit 0) (Env.mk 85 []) ⟨[], []⟩ : Ans) =
 some (Fin.ret (AV.bool true), St.mk [] []) := by kernel_rfl

end Go.Proofs.YtcfedmheblbdnaaDoor.Z

/- Values: ValueBack is true. -/
set_option linter.unusedVariables false
namespace Go.Proofs.YtcfedmheblbdnaaDoor.Z
open Go.Proofs.YtcfedmheblbdnaaDoor.V
open Go Go.V Go.RowKit

theorem long_facts {l : List (List AV)} (h : longV l = false) : l.length ≤ 1000 ∧ ∀ v ∈ rowsV l, v.s.size ≤ 1000 := by
  simp only [longV, Bool.or_eq_false_iff, decide_eq_false_iff_not] at h
  refine ⟨by omega, fun v hv => ?_⟩
  obtain ⟨r, hr, rfl⟩ := List.mem_map.mp hv
  have := List.any_eq_false.mp h.2 r hr
  simp only [decide_eq_true_eq] at this
  omega
theorem encVs_len : ∀ vs : List Va, (∀ v ∈ vs, v.s.size ≤ 1000) → (encVs vs).length ≤ vs.length * 1020
  | [], _ => by simp [encVs]
  | v :: vs, h => by
    have h1 := encVa_len v (h v List.mem_cons_self)
    have h2 := encVs_len vs fun w hw => h w (List.mem_cons_of_mem _ hw)
    rw [encVs, List.length_append, List.length_cons]; omega
theorem encVs_lt : ∀ vs : List Va, (∀ v ∈ vs, fitsW v) → ∀ b ∈ encVs vs, b < 256 := by
  have encN_lt : ∀ (k u : Nat), u < 128 ^ (k + 1) → ∀ b ∈ K.encN k u, b < 256 := by
    intro k
    induction k with
    | zero => intro u h b hb; simp [K.encN] at hb; subst hb; omega
    | succ k ih =>
      intro u h b hb
      rw [K.encN] at hb
      split at hb
      · simp at hb; subst hb; omega
      · rcases List.mem_cons.mp hb with rfl | hb
        · omega
        · exact ih (u / 128) (Nat.div_lt_of_lt_mul (by rw [Nat.pow_succ] at h; omega)) b hb
  have ib : ∀ n, K.i64B n = true → ∀ b ∈ K.intBytes n, b < 256 := by
    intro n h
    obtain ⟨h1, h2⟩ := K.i64B_spec h
    exact encN_lt 9 _ (Nat.lt_trans (K.foldN_lt h1 h2) (by decide))
  have tb : ∀ s : ByteArray, s.size ≤ 1000 → ∀ b ∈ K.textBytes s, b < 256 := by
    intro s h b hb
    rcases List.mem_append.mp hb with hb | hb
    · exact ib _ (by simp [K.i64B]; omega) b hb
    · exact K.own_lt s b hb
  intro vs
  induction vs with
  | nil => intro _ b hb; cases hb
  | cons v vs ih =>
    intro h b hb
    rw [encVs, List.mem_append] at hb
    rcases hb with hb | hb
    · obtain ⟨h1, h2, h3⟩ := h v (by simp)
      unfold encVa at hb
      rw [List.mem_append] at hb
      rcases hb with hb | hb
      · exact ib _ h1 b hb
      · cases c1 : v.k == 1 with
        | true => rw [c1, cond_true] at hb; exact ib _ h2 b hb
        | false =>
          rw [c1, cond_false] at hb
          cases c2 : v.k == 2 with
          | true => rw [c2, cond_true] at hb; exact ib _ h2 b hb
          | false =>
            rw [c2, cond_false] at hb
            cases c3 : v.k == 3 with
            | true => rw [c3, cond_true] at hb; exact tb _ h3 b hb
            | false => rw [c3, cond_false] at hb; cases hb
    · exact ih (fun w hw => h w (by simp [hw])) b hb
theorem encR_fit {l : List (List AV)} (hl : l.length ≤ 8) (hw : ∀ v ∈ rowsV l, fitsW v) : K.fit (.sl false (K.rb (encR l))) = true := by
  have h1 := encVs_len (rowsV l) fun v hv => (hw v hv).2.2
  have h2 := K.intBytes_length (l.length : Int)
  have h3 : (rowsV l).length = l.length := by simp [rowsV]
  have hlt : ∀ b ∈ encR l, b < 256 := by
    intro b hb
    rw [encR, List.mem_append] at hb
    rcases hb with hb | hb
    · have := encVs_lt [⟨l.length, 0, ByteArray.mk #[]⟩] (by intro v hv; simp at hv; subst hv; exact ⟨by simp [K.i64B]; omega, by simp [K.i64B], Nat.zero_le _⟩) b
      refine this ?_
      rw [encVs, encVa, List.append_assoc, List.mem_append]; exact .inl hb
    · exact encVs_lt _ hw b hb
  have hok : okR (K.rb (encR l)) = true := okR_bR hlt
  have hlen : (K.rb (encR l)).length < 140737488355328 := by rw [K.rb_length, encR, List.length_append]; omega
  show (okR (K.rb (encR l)) && decide ((K.rb (encR l)).length < 140737488355328)) = true
  rw [hok, decide_eq_true hlen]; rfl
theorem bk_loop (F : Nat) (z : Bool) (l : List (List AV)) (hl : okV l = true) (hr : ∀ v ∈ rowsV l, rightV v = true ∧ -9223372036854775808 ≤ v.n ∧ v.n ≤ 9223372036854775807) (hn : l.length ≤ 8) : ∀ (k i m : Nat), i + k = l.length → k < m →
    loopRun (f8_l0.run F) [0, 9] (Cont.block 0 (Cont.then (f8_r0.run F (f8.leaveK Fun.done)) (f8.leaveK Fun.done))) m (Env.mk 85 [(0, .ns z 3 l), (9, .int .i64 (i : Nat))]) ⟨[], []⟩ = some (.ret (.bool true), ⟨[], []⟩)
  | k, i, 0, _, h => by omega
  | 0, i, m + 1, h, _ => by rw [show m + 1 = m.succ from rfl, bk_round, branch_not (decide_eq_false (by omega)), bk_out]
  | k + 1, i, m + 1, h, hm => by
    have hi : i < l.length := by omega
    have hv := okV_at hl hi
    obtain ⟨r1, r2, r3⟩ := hr (vaR l[i]) (List.mem_map.mpr ⟨_, List.getElem_mem hi, rfl⟩)
    have hrs := read_show r1 r2 r3
    have hlen := (show_all (v := vaR l[i]) r2 r3).1
    have hsz := strL_size (showV (vaR l[i]))
    rw [show m + 1 = m.succ from rfl, bk_round, branch_of (decide_eq_true (by omega)), branch_of (inR_nat hi), rowAt_nat hi, branch_of (show (LD.agg [LT.int IntKind.i64, LT.int IntKind.i64, LT.str]).is l[i] = true from isVa hv)]
    rw [show (Va.mk (hdI l[i]) (hdI l[i].tail) (hdS l[i].tail.tail)) = vaR l[i] from rfl]
    rw [branch_of (okSh_right r1 r2 r3), branch_of (cdec_iff.mpr (by omega)), hrs, branch_not (show (!(vaR l[i], true).snd) = false from rfl), branch_of (inR_nat hi), branch_of (show (LD.agg [LT.int IntKind.i64, LT.int IntKind.i64, LT.str]).is l[i] = true from isVa hv)]
    rw [show hdI l[i] = (vaR l[i]).k from rfl, show hdI l[i].tail = (vaR l[i]).n from rfl, show hdS l[i].tail.tail = (vaR l[i]).s from rfl]
    rw [branch_not (by simp), wrap_n hi (by omega)]
    exact bk_loop F z l hl hr hn k (i + 1) m (by omega) (by omega)
theorem back_true (z : Bool) (l : List (List AV)) (cut : Int) (hl : okV l = true) (hw : ∀ r ∈ l, K.i64B (vaR r).k = true ∧ K.i64B (vaR r).n = true) : ∃ st, f8.run 60 [.ns z 3 l, .int .i64 cut] ⟨[], []⟩ = some (.ret (.bool true), st) := by
  rw [bk_run, branch_of hl]
  cases hlo : longV l with
  | true => exact ⟨_, rfl⟩
  | false =>
  obtain ⟨n1, sz⟩ := long_facts hlo
  have hf : ∀ v ∈ rowsV l, fitsW v := by
    intro v hv
    have h3 := sz v hv
    obtain ⟨r, hr, rfl⟩ := List.mem_map.mp hv
    exact ⟨(hw r hr).1, (hw r hr).2, h3⟩
  rw [branch_false, branch_of (okE2_iff.mpr ⟨hl, hf⟩)]
  cases hrr : rrV l with
  | false =>
    rw [branch_of (show (!false) = true from rfl), branch_of hl, branch_of (show (!false) = true from rfl)]
    refine ⟨⟨[], []⟩, ?_⟩
    rw [encB, hrr]; rfl
  | true =>
  have h8 : l.length ≤ 8 := by
    simp only [rrV, Bool.and_eq_true, decide_eq_true_eq] at hrr; omega
  have hright : ∀ v ∈ rowsV l, rightV v = true ∧ -9223372036854775808 ≤ v.n ∧ v.n ≤ 9223372036854775807 := by
    intro v hv
    have h1 : (rowsV l).all rightV = true := by simp only [rrV, Bool.and_eq_true] at hrr; exact hrr.2
    exact ⟨List.all_eq_true.mp h1 v hv, K.i64B_spec (hf v hv).2.1⟩
  have hb : encB l = K.rb (encR l) := by rw [encB, hrr, cond_true]
  have hfit := encR_fit h8 hf
  have hdec := decF_enc h8 hright
  rw [branch_not (show (!true) = false from rfl), hb, branch_of (show okY (!true, K.rb (encR l)) = true from cdec_iff.mpr ⟨fun h => (by cases h), hfit⟩), hdec, branch_not (show (!(some (rowsV l)).isSome) = false from rfl)]
  rw [branch_of (ok2_iff.mpr ⟨cellsV_ok _, hl, by show (cellsV (rowsV l)).length ≤ 1000; rw [cellsV_len]; simp [rowsV]; omega⟩)]
  rw [branch_not (show (!sameV (cellsV ((some (rowsV l)).getD [])) l) = false by
    show (!sameV (cellsV (rowsV l)) l) = false
    rw [sameV, rowsV_cells, cdec_iff.mpr rfl]; rfl)]
  have hloop := bk_loop 60 z l hl hright h8 l.length 0 60 (by omega) (by omega)
  rw [show (((0 : Nat) : Int)) = (0 : Int) from rfl] at hloop
  by_cases c0 : cut ≥ 0
  · rw [branch_of (decide_eq_true c0)]
    by_cases c1 : cut < ((K.rb (encR l)).length : Int)
    · rw [branch_of (decide_eq_true c1), if_pos ⟨c0, by omega⟩, List.drop_zero]
      have hcut : cut.toNat < (K.rb (encR l)).length := by omega
      have hfit2 : K.fit (.sl false ((K.rb (encR l)).take cut.toNat)) = true := by
        obtain ⟨h1, h2⟩ := K.fit_spec hfit
        have hlen : ((K.rb (encR l)).take cut.toNat).length < 140737488355328 := by
          have h2' : (K.rb (encR l)).length < 140737488355328 := h2
          rw [List.length_take]; omega
        have hok : okR ((K.rb (encR l)).take cut.toNat) = true := List.all_eq_true.mpr fun r hr => List.all_eq_true.mp h1 r (List.mem_of_mem_take hr)
        show (okR ((K.rb (encR l)).take cut.toNat) && decide (((K.rb (encR l)).take cut.toNat).length < 140737488355328)) = true
        rw [hok, decide_eq_true hlen]; rfl
      rw [branch_of (show okY (!true, (K.rb (encR l)).take cut.toNat) = true from cdec_iff.mpr ⟨fun h => (by cases h), hfit2⟩), decF_cut hdec hcut, branch_not (show (none : Option (List Va)).isSome = false from rfl)]
      exact ⟨_, hloop⟩
    · rw [branch_not (decide_eq_false c1)]
      exact ⟨_, hloop⟩
  · rw [branch_not (decide_eq_false c0)]
    exact ⟨_, hloop⟩
theorem i64B_wf {n : Int} (h : (Lit.int .i64 n).wf = true) : K.i64B n = true := by
  simp only [Lit.wf, IntKind.min, IntKind.max, IntKind.signed, IntKind.bits] at h
  simp at h
  simp only [K.i64B, Bool.and_eq_true, decide_eq_true_eq]
  omega
theorem va_row {r : List AV} (h : Ty.Shape tyVa r) : K.i64B (vaR r).k = true ∧ K.i64B (vaR r).n = true := by
  obtain ⟨a, b, rfl, ⟨k, rfl, hk⟩, h⟩ := h
  obtain ⟨a, b, rfl, ⟨n, rfl, hn⟩, h⟩ := h
  exact ⟨i64B_wf hk, i64B_wf hn⟩
end Go.Proofs.YtcfedmheblbdnaaDoor.Z
namespace Go.Proofs.YtcfedmheblbdnaaDoor.V
open Go Go.V Go.RowKit
theorem back_law (as0 as1 : List AV) (s0 : Ty.Shape (.sl tyVa 32) as0) (s1 : Ty.Shape (.int .i64) as1) : ∃ F st, Z.f8.run F [(Ty.sl tyVa 32).AV' as0, (Ty.int .i64).AV' as1] ⟨[], []⟩ = some (.ret (.bool true), st) := by
  obtain ⟨z, l, rfl, hl, _, hs⟩ := row_shape s0
  obtain ⟨n, rfl, hn⟩ := s1
  exact ⟨60, Z.back_true z l n hl fun r hr => Z.va_row (hs r hr)⟩
noncomputable abbrev f8 := Z.f8
end Go.Proofs.YtcfedmheblbdnaaDoor.V

/- Values: what the rows' condition on package-level variables gives. -/
set_option linter.unusedVariables false
namespace Go.Proofs.YtcfedmheblbdnaaDoor.V
open Go Go.V Go.RowKit

def tens : List Int := [1, 10, 100, 1000, 10000, 100000, 1000000, 10000000, 100000000, 1000000000, 10000000000, 100000000000, 1000000000000, 10000000000000, 100000000000000, 1000000000000000, 10000000000000000, 100000000000000000, 1000000000000000000, 10000000000000000000]
theorem globs_eq : globs = [(0, [.ifc 122 .dead]), (1, [.ifc 122 .dead]), (2, tens.map fun n => AV.int .u64 n)] := rfl
theorem rel_ints (W : World) : ∀ l : List Int, RelAll g0 W (l.map fun n => AV.int .u64 n) (l.map fun n => Value.int .u64 n)
  | [] => rfl
  | x :: l => ⟨_, _, rfl, rfl, rel_ints W l⟩
theorem laid_pow : (Rows.laid_internal_strconv_uint64pow10 : DataW Unit) = .agg (tens.map fun n => .lit (.int .u64 n)) := rfl
theorem globs_laid {W : World} (h : laidMetH Tryd.prog [("math/bits.deBruijn32tab", Rows.laid_math_bits_deBruijn32tab), ("math/bits.deBruijn64tab", Rows.laid_math_bits_deBruijn64tab), ("internal/strconv.uint64pow10", Rows.laid_internal_strconv_uint64pow10), ("strconv.ErrRange", Rows.laid_strconv_ErrRange), ("strconv.ErrSyntax", Rows.laid_strconv_ErrSyntax)] W) : Globs g0 W := by
  rw [MakeChecks.laidMetH_plain _ _ _ (by kernel_rfl)] at h
  obtain ⟨ps, ⟨_, _, _, _, _, _, _, _, _, _, ⟨_, _, _, _, _, _, _, _, _, _, ⟨g2, t2, cs2, f2, p2, q2, hg2, ht2, hv2, hd2, ⟨g1, t1, cs1, f1, p1, q1, hg1, ht1, hv1, hd1, ⟨g3, t3, cs3, f3, p3, q3, hg3, ht3, hv3, hd3, _, _⟩, _⟩, _⟩, _⟩, _⟩, _, _⟩ := h
  have eP : Tryd.prog.globalNamed "internal/strconv.uint64pow10" = some 2 := by kernel_rfl
  have eR : Tryd.prog.globalNamed "strconv.ErrRange" = some 1 := by kernel_rfl
  have eS : Tryd.prog.globalNamed "strconv.ErrSyntax" = some 0 := by kernel_rfl
  have tP : (Tryd.prog.globals[2]?).map (·.type) = some 117 := by kernel_rfl
  have tR : (Tryd.prog.globals[1]?).map (·.type) = some 73 := by kernel_rfl
  have tS : (Tryd.prog.globals[0]?).map (·.type) = some 73 := by kernel_rfl
  obtain rfl := Option.some.inj (eP.symm.trans hg2)
  obtain rfl := Option.some.inj (eR.symm.trans hg1)
  obtain rfl := Option.some.inj (eS.symm.trans hg3)
  obtain rfl := Option.some.inj (tP.symm.trans ht2)
  obtain rfl := Option.some.inj (tR.symm.trans ht1)
  obtain rfl := Option.some.inj (tS.symm.trans ht3)
  have typ : ∀ u, Tryd.prog.typeName? 3 u = some ("*" ++ "errors.errorString") → u = 122 :=
    typeName_ptr_named (by kernel_rfl) (by kernel_rfl) (by decide)
  have one : ∀ {g : Nat} {n : String} {cs : Array Value} {u v}, Tryd.prog.globalNamed n = some g → W.var? Tryd.prog n = some cs → cs.toList = [.iface u v] → Tryd.prog.typeName? 3 u = some "*errors.errorString" → RelCells g0 W [.ifc 122 .dead] g 0 := by
    intro g n cs u v h1 h2 h3 h4
    obtain rfl := typ u h4
    refine ⟨⟨.iface 122 v, ?_, trivial, rfl, ⟨v, rfl, trivial⟩⟩, trivial⟩
    rw [World.var?_cell h1 h2 0, ← Array.getElem?_toList, h3]; rfl
  obtain ⟨_, _, _, c1, n1, _⟩ := iface_of_trod Tryd.underlying73 hd1
  obtain ⟨_, _, _, c3, n3, _⟩ := iface_of_trod Tryd.underlying73 hd3
  obtain ⟨xs, m, _, hx, hlen, hn, hel⟩ := DataW.trod_array Tryd.underlying117 hd2
  have k84 : Tryd.prog.cellsOf 84 = 1 := by kernel_rfl
  have k117 : Tryd.prog.cellsOf 117 = 20 := by kernel_rfl
  rw [laid_pow] at hx
  simp only [Prod.mk.injEq, DataW.agg.injEq] at hx
  have hx := hx.1
  rw [k117] at hlen
  have hcs : cs2.toList = tens.map fun n => Value.int .u64 n := by
    apply List.ext_getElem?
    intro i
    by_cases hi : i < 20
    · have h1 := hel i hi
      rw [k84, Nat.mul_one, List.drop_eq_getElem_cons (by omega), List.take_succ_cons, List.take_zero] at h1
      have hxi : i < xs.length := by omega
      rw [List.getElem?_eq_getElem hxi] at h1
      obtain ⟨n, e1, e2, _⟩ := DataW.trod_int Tryd.underlying84 h1
      have e3 : (tens.map fun n => (DataW.lit (.int .u64 n) : DataW Unit))[i]? = some (.lit (.int .u64 n)) := by
        rw [hx, List.getElem?_map, List.getElem?_eq_getElem hxi, e2]; rfl
      rw [List.getElem?_map] at e3
      obtain ⟨n', e4, e5⟩ := Option.map_eq_some_iff.mp e3
      simp only [DataW.lit.injEq, Lit.int.injEq, true_and] at e5
      subst e5
      rw [List.getElem?_eq_getElem (by omega), List.getElem?_map, e4]
      simp only [List.cons.injEq, and_true] at e1
      rw [e1]; rfl
    · rw [List.getElem?_eq_none (by omega), List.getElem?_eq_none (by simp [tens]; omega)]
  intro x hx'
  rw [globs_eq] at hx'
  simp only [List.mem_cons, List.not_mem_nil, or_false] at hx'
  rcases hx' with rfl | rfl | rfl
  · exact one eS hv3 c3 n3
  · exact one eR hv1 c1 n1
  · refine RelCells.ofCells _ _ 2 0 (rel_ints W tens) (fun u hu => ?_) fun i u hu => ?_
    · obtain ⟨n, _, rfl⟩ := List.mem_map.mp hu; rfl
    · rw [Nat.zero_add, World.var?_cell eP hv2 i, ← Array.getElem?_toList, hcs]; exact hu
end Go.Proofs.YtcfedmheblbdnaaDoor.V
