/- Merged out of 32 texts: what the claim's code comes to, and why. -/
import Derived.Test.YtcfedmheblbdnaaDoorR53
/- Values: what stands between quotes. -/
set_option linter.unusedVariables false
namespace Go.Proofs.YtcfedmheblbdnaaDoor.V
open Go Go.V Go.RowKit

def negI (i : Int) : Bool := decide (i < 0)
def unqF : Nat → List Nat → Option (List Nat)
  | 0, _ => none
  | n + 1, l => match l with
    | [] => some []
    | c :: s => bif Nat.beq c 92 then match s with
        | a :: b :: s' => bif negI (digH a) || negI (digH b) then none else (unqF n s').map fun r => (digH a * 16 + digH b).toNat :: r
        | _ => none
      else (unqF n s).map fun r => c :: r
theorem digH_or {a : Nat} : digH a < 0 ∨ ∃ u : Nat, u < 16 ∧ digH a = (u : Int) := by
  unfold digH
  cases h1 : Nat.ble 48 a && Nat.ble a 57
  · cases h2 : Nat.ble 97 a && Nat.ble a 102
    · exact .inl (by simp)
    · simp only [Bool.and_eq_true, Nat.ble_eq] at h2
      exact .inr ⟨a - 87, by omega, by simp; omega⟩
  · simp only [Bool.and_eq_true, Nat.ble_eq] at h1
    exact .inr ⟨a - 48, by omega, by simp; omega⟩
theorem or_all : (List.range 16).all (fun u => (List.range 16).all fun v => decide (IntKind.u8.wrap (bitsI .or .i64 (IntKind.i64.wrap ((u : Int) * 16)) (v : Int)) = ((u * 16 + v : Nat) : Int))) = true := by kernel_rfl
theorem or_eq {u v : Nat} (hu : u < 16) (hv : v < 16) : IntKind.u8.wrap (bitsI .or .i64 (IntKind.i64.wrap ((u : Int) * 16)) (v : Int)) = ((u * 16 + v : Nat) : Int) := by
  have h1 := List.all_eq_true.mp or_all u (List.mem_range.mpr hu)
  have h2 := List.all_eq_true.mp h1 v (List.mem_range.mpr hv)
  exact of_decide_eq_true h2
theorem at_eq {s : ByteArray} {i : Nat} {l : List Nat} {x : Nat} (h : strL s = l) (hx : l[i]? = some x) : opq (atT s (i : Int)) = (x : Int) ∧ inT s (i : Int) = true ∧ x < 256 := by
  subst h
  have hlt : i < (strL s).length := by
    rcases Nat.lt_or_ge i (strL s).length with h | h
    · exact h
    · rw [List.getElem?_eq_none h] at hx; cases hx
  refine ⟨?_, by rw [inT_iff, Int.toNat_natCast]; exact ⟨by omega, hlt⟩, strL_lt s x (List.mem_of_getElem? hx)⟩
  rw [opq_eq, atT, opq_eq, Int.toNat_natCast, List.getD_eq_getElem?_getD, hx]; rfl
theorem sub_end (s : ByteArray) (i : Nat) : strL (subT s (i : Int) (s.size : Int)) = (strL s).drop i := by
  rw [subT_list, Int.toNat_natCast, Int.toNat_natCast, strL_size, List.take_length]
theorem in_end {s : ByteArray} {i : Nat} (h : i ≤ (strL s).length) : inSl s (i : Int) (s.size : Int) = true := by rw [inSl_iff, strL_size]; omega

theorem u_loop (F : Nat) (K : Cont) : ∀ (n : Nat) (s : ByteArray) (X : Bd), (strL s).length < n → X.Ok → X.live = true → X.bytes.length + (strL s).length ≤ 900000000 →
    (∀ r, unqF n (strL s) = some r → (∀ x ∈ r, x < 256) ∧ r.length ≤ (strL s).length ∧ ∃ Y : Bd, Y.Ok ∧ Y.live = true ∧ Y.bytes = X.bytes ++ r ∧ loopRun (f52_l0.run F) [0, 4] K n (Env.mk 44 [(0, .str s), (4, .tp 0 78 2)]) ⟨[BdA.ob 0 X 0, BdA.ob 0 X 1], []⟩ = K (.exit 0) (Env.mk 44 [(4, .tp 0 78 2)]) ⟨[BdA.ob 0 Y 0, BdA.ob 0 Y 1], []⟩) ∧
    (unqF n (strL s) = none → ∃ Y : Bd, loopRun (f52_l0.run F) [0, 4] K n (Env.mk 44 [(0, .str s), (4, .tp 0 78 2)]) ⟨[BdA.ob 0 X 0, BdA.ob 0 X 1], []⟩ = K .ret (Env.mk 44 [(2, AV.str (ByteArray.mk #[])), (3, AV.bool false)]) ⟨[BdA.ob 0 Y 0, BdA.ob 0 Y 1], []⟩)
  | 0, s, X, hn, _, _, _ => absurd hn (Nat.not_lt_zero _)
  | n + 1, s, X, hn, ho, hl, hb => by
    rw [u_round]
    cases hs : strL s with
    | nil =>
      have h0 : decide ((s.size : Int) > 0) = false := by rw [strL_size, hs]; rfl
      rw [h0, br_f]
      refine ⟨fun r hr => ?_, fun hr => by cases hr⟩
      cases hr
      exact ⟨by simp, by simp, X, ho, hl, by simp, rfl⟩
    | cons c l =>
      have h0 : decide ((s.size : Int) > 0) = true := by rw [strL_size, hs]; simp
      obtain ⟨a1, a2, a3⟩ := at_eq (i := 0) (x := c) hs rfl
      have i1 : inSl s 1 (s.size : Int) = true := in_end (i := 1) (by rw [hs]; simp)
      have a1 : opq (atT s 0) = (c : Int) := a1
      have a2 : inT s 0 = true := a2
      have e1 : strL (subT s 1 (s.size : Int)) = l := by
        have := sub_end s 1
        rw [hs] at this
        exact this
      rw [h0, br_t, a2, br_t, i1, br_t, a1]
      have fit1 : X.fits 1 = true := by rw [Bd.fits_iff]; rw [hs] at hb; simp at hb; exact ⟨hl, by omega⟩
      by_cases hc : c = 92
      · subst hc
        rw [show (((92 : Nat) : Int) == 92) = true from rfl, br_t]
        generalize hs1 : subT s 1 (s.size : Int) = s1 at e1
        rw [hs] at hn hb
        match l, e1, hn, hb with
        | [], e1, hn, hb =>
          rw [show decide ((s1.size : Int) < 2) = true by rw [strL_size, e1]; rfl, br_t]
          exact ⟨fun r hr => (by cases hr), fun _ => ⟨X, rfl⟩⟩
        | [a], e1, hn, hb =>
          rw [show decide ((s1.size : Int) < 2) = true by rw [strL_size, e1]; rfl, br_t]
          exact ⟨fun r hr => (by cases hr), fun _ => ⟨X, rfl⟩⟩
        | a :: b :: l', e1, hn, hb =>
          obtain ⟨b1, b2, b3⟩ := at_eq (i := 0) (x := a) e1 rfl
          obtain ⟨c1, c2, c3⟩ := at_eq (i := 1) (x := b) e1 rfl
          have b1 : opq (atT s1 0) = (a : Int) := b1
          have b2 : inT s1 0 = true := b2
          have c1 : opq (atT s1 1) = (b : Int) := c1
          have c2 : inT s1 1 = true := c2
          have d1 : digO (a : Int) = digH a := by rw [digO, opq_eq, Int.toNat_natCast]
          have d2 : digO (b : Int) = digH b := by rw [digO, opq_eq, Int.toNat_natCast]
          have k1 : cdec ((0 : Int) ≤ (a : Int) ∧ (a : Int) < 256) = true := by rw [cdec_iff]; omega
          have k2 : cdec ((0 : Int) ≤ (b : Int) ∧ (b : Int) < 256) = true := by rw [cdec_iff]; omega
          have i2 : inSl s1 2 (s1.size : Int) = true := in_end (i := 2) (by rw [e1]; simp)
          have e2 : strL (subT s1 2 (s1.size : Int)) = l' := by
            have := sub_end s1 2
            rw [e1] at this
            exact this
          rw [show decide ((s1.size : Int) < 2) = false by rw [strL_size, e1]; simp; omega, br_f, b1, c1, b2, c2, br_t, k1, k2, br_t, d1, d2, i2]
          simp only [br_t]
          rcases digH_or (a := a) with ha | ⟨u, hu, ha⟩
          · have : unqF (n + 1) (92 :: a :: b :: l') = none := by
              show (bif negI (digH a) || negI (digH b) then none else _) = none
              rw [show negI (digH a) = true by simpa [negI] using ha]; rfl
            rw [this, show decide (digH a < 0) = true by simpa using ha, br_t]
            exact ⟨fun r hr => (by cases hr), fun _ => ⟨X, rfl⟩⟩
          · rw [show decide (digH a < 0) = false by rw [ha]; simp, br_f]
            rcases digH_or (a := b) with hb' | ⟨v, hv, hb'⟩
            · have : unqF (n + 1) (92 :: a :: b :: l') = none := by
                show (bif negI (digH a) || negI (digH b) then none else _) = none
                rw [show negI (digH b) = true by simpa [negI] using hb', Bool.or_true]; rfl
              rw [this, show decide (digH b < 0) = true by simpa using hb', br_t]
              exact ⟨fun r hr => (by cases hr), fun _ => ⟨X, rfl⟩⟩
            · have hun : unqF (n + 1) (92 :: a :: b :: l') = (unqF n l').map fun r => (u * 16 + v) :: r := by
                show (bif negI (digH a) || negI (digH b) then none else (unqF n l').map fun r => (digH a * 16 + digH b).toNat :: r) = _
                rw [show negI (digH a) = false by rw [ha]; simp [negI], show negI (digH b) = false by rw [hb']; simp [negI], ha, hb']
                show ((unqF n l').map fun r => ((u : Int) * 16 + (v : Int)).toNat :: r) = _
                rw [show ((u : Int) * 16 + (v : Int)).toNat = u * 16 + v by omega]
              have w1 : opq (IntKind.u8.wrap (opq (bitsI BinOp.or IntKind.i64 (opq (IntKind.i64.wrap (digH a * 16))) (digH b)))) = ((u * 16 + v : Nat) : Int) := by
                rw [opq_eq, opq_eq, opq_eq, ha, hb', or_eq hu hv]
              have w2 : opq (IntKind.u8.wrap (opq (bitsI BinOp.or IntKind.i64 (opq (IntKind.i64.wrap (digH a * (2 : Int) ^ min (Int.toNat (4 : Int)) IntKind.i64.bits))) (digH b)))) = ((u * 16 + v : Nat) : Int) := w1
              have k3 : cdec ((0 : Int) ≤ ((u * 16 + v : Nat) : Int) ∧ ((u * 16 + v : Nat) : Int) < 256) = true := by rw [cdec_iff]; omega
              rw [hun, show decide (digH b < 0) = false by rw [hb']; simp, br_f, bd_G ho, onSome_some, w1, w2, k3, fit1, Int.toNat_natCast, show (true && (true && true)) = true from rfl, br_t]
              obtain ⟨z1, z2⟩ := Bd.put_bytes hl [u * 16 + v]
              have ih := u_loop F K n (subT s1 2 (s1.size : Int)) (X.put [u * 16 + v]) (by rw [e2]; simp at hn; omega) (ho.put (by intro x hx; simp at hx; omega)) z2 (by rw [e2, z1]; simp at hb ⊢; omega)
              rw [e2] at ih
              refine ⟨fun r hr => ?_, fun hr => ?_⟩
              · cases hu' : unqF n l' with
                | none => rw [hu'] at hr; cases hr
                | some r' =>
                  rw [hu'] at hr
                  cases hr
                  obtain ⟨y0, yl, Y, y1, y2, y3, y4⟩ := ih.1 r' hu'
                  refine ⟨fun x hx => ?_, by simp; omega, Y, y1, y2, by rw [y3, z1]; simp, y4⟩
                  rcases List.mem_cons.mp hx with rfl | hx
                  · omega
                  · exact y0 x hx
              · cases hu' : unqF n l' with
                | none => exact ih.2 hu'
                | some r' => rw [hu'] at hr; cases hr
      · rw [show ((c : Int) == 92) = false by simp; omega, br_f, bd_G ho, onSome_some, show cdec ((0 : Int) ≤ (c : Int) ∧ (c : Int) < 256) = true by rw [cdec_iff]; omega, fit1, show (true && (true && true)) = true from rfl, br_t, Int.toNat_natCast]
        have hun : unqF (n + 1) (c :: l) = (unqF n l).map fun r => c :: r := by
          show (bif Nat.beq c 92 then _ else (unqF n l).map fun r => c :: r) = _
          rw [show Nat.beq c 92 = false by rw [Bool.eq_false_iff]; intro h; exact hc (Nat.eq_of_beq_eq_true h)]; rfl
        rw [hun]
        rw [hs] at hn hb
        obtain ⟨z1, z2⟩ := Bd.put_bytes hl [c]
        have ih := u_loop F K n (subT s 1 (s.size : Int)) (X.put [c]) (by rw [e1]; simp at hn; omega) (ho.put (by intro x hx; simp at hx; omega)) z2 (by rw [e1, z1]; simp at hb ⊢; omega)
        rw [e1] at ih
        refine ⟨fun r hr => ?_, fun hr => ?_⟩
        · cases hu' : unqF n l with
          | none => rw [hu'] at hr; cases hr
          | some r' =>
            rw [hu'] at hr
            cases hr
            obtain ⟨y0, yl, Y, y1, y2, y3, y4⟩ := ih.1 r' hu'
            refine ⟨fun x hx => ?_, by simp; omega, Y, y1, y2, by rw [y3, z1]; simp, y4⟩
            rcases List.mem_cons.mp hx with rfl | hx
            · exact a3
            · exact y0 x hx
        · cases hu' : unqF n l with
          | none => exact ih.2 hu'
          | some r' => rw [hu'] at hr; cases hr

def unqL (l : List Nat) : Option (List Nat) := unqF (l.length + 1) l
def unqS (s : ByteArray) : ByteArray := match unqL (strL s) with
  | some r => strB r
  | none => ⟨#[]⟩
theorem u_can {s : ByteArray} (hs : (strL s).length ≤ 100000000) : ∃ F st', f52.run F [.str s] ⟨[], []⟩ = some (.ret (.tup [.str (unqS s), .bool (unqL (strL s)).isSome]), st') := by
  have h0 : (Bd.fresh 0).Ok := trivial
  have hob : [Ob.cells [AV.nilptr, AV.nilsl], Ob.nov 0] = [BdA.ob 0 (.fresh 0) 0, BdA.ob 0 (.fresh 0) 1] := (obl0 h0).symm
  obtain ⟨k1, k2⟩ := u_loop ((strL s).length + 1) (Cont.block 0 (Cont.then (f52_r0.run ((strL s).length + 1) (f52.leaveK Fun.done)) (f52.leaveK Fun.done))) ((strL s).length + 1) s (.fresh 0) (by omega) h0 rfl (by show 0 + _ ≤ _; omega)
  cases hu : unqF ((strL s).length + 1) (strL s) with
  | some r =>
    obtain ⟨_, hrl, Y, y1, y2, y3, y4⟩ := k1 r hu
    have y3 : Y.bytes = r := y3
    refine ⟨(strL s).length + 1, ⟨[BdA.ob 0 Y.out 0, BdA.ob 0 Y.out 1], []⟩, ?_⟩
    rw [u_run, hob]
    refine Eq.trans y4 ?_
    rw [u_out, bd_G y1, onSome_some, show Y.fits 0 = true by rw [Bd.fits_iff, y3]; exact ⟨y2, by omega⟩, br_t, y3, unqS, unqL, hu]
    rfl
  | none =>
    obtain ⟨Y, y4⟩ := k2 hu
    refine ⟨(strL s).length + 1, ⟨[BdA.ob 0 Y 0, BdA.ob 0 Y 1], []⟩, ?_⟩
    rw [u_run, hob]
    refine Eq.trans y4 ?_
    rw [u_ret, unqS, unqL, hu]
    rfl
noncomputable def p34 : POrc Tryd.prog := f34.flatIf dec1s (fun s => [.str s]) dec1s_enc (fun s => cdec ((strL s).length ≤ 100000000)) (fun s => .str (strB (qtL (strL s)))) (fun _ => ⟨trivial, trivial⟩) (fun _ => trivial) fun s hs => ⟨_, q_can (cdec_iff.mp hs)⟩
noncomputable def p52 : POrc Tryd.prog := f52.flatD dec1s (fun s => [.str s]) dec1s_enc (fun s => cdec ((strL s).length ≤ 100000000)) (fun s => .tup [.str (unqS s), .bool (unqL (strL s)).isSome]) (fun _ => ⟨trivial, trivial⟩) (fun _ => ⟨trivial, trivial, trivial⟩) fun s hs => u_can (cdec_iff.mp hs)
end Go.Proofs.YtcfedmheblbdnaaDoor.V

/- The functions' pieces, as told by gen.py. -/
set_option linter.unusedVariables false
set_option maxRecDepth 20000
namespace Go.Proofs.YtcfedmheblbdnaaDoor.V
open Go Go.V Go.RowKit

theorem fl24_0 : fieldB Tryd.prog 24 0 0 1 false = true := by kernel_rfl
theorem sz3 : (Tryd.prog.info? 3).map (·.size) = some 1 := by kernel_rfl
noncomputable abbrev d24 : TypeDesc := (Tryd.prog.underlying 24).getD .bool
theorem ud24 : Tryd.prog.underlying 24 = some d24 := by kernel_rfl
theorem sz24 : (Tryd.prog.info? 24).map (·.size) = some 3 := by kernel_rfl
theorem ze24 : (Tryd.prog.info? 24).bind (·.zero) = some (.agg #[(.int .i64 0), (.int .i64 0), (.string ⟨#[]⟩)]) := by kernel_rfl
theorem eq24 : eqFlatB Tryd.prog 24 [(0, 0), (1, 0), (2, 2)] = true := by kernel_rfl
theorem fl24_2 : fieldB Tryd.prog 24 2 2 1 false = true := by kernel_rfl
theorem sz9 : (Tryd.prog.info? 9).map (·.size) = some 1 := by kernel_rfl
theorem fl24_1 : fieldB Tryd.prog 24 1 1 1 false = true := by kernel_rfl

/-! ### 13: interlock/value.Right (24); results 2; slots: 0 v, 1 v -/
noncomputable def f13_b : Sim Tryd.prog :=
 (.seq (.live [1] (.region 0 [
 ⟨(opBoxF (some 1) 24 (.tmp 0) 0 "value.go:17" #[]).op, none⟩,
 ⟨(opAssign (some 2) (.const (Value.bool false)) 4 "value.go:17" #[]).op, none⟩
 ] (by kernel_rfl)))
 (.seq (.seq (.live [1, 4] (.region 1 [
 ⟨(opFieldAddr (some 3) 24 (.tmp 1) 0 0 1 false fl24_0 (by decide) 0 "value.go:18" #[]).op, none⟩,
 ⟨(opLoadT (.one (.int .i64)) (some 4) 3 (.tmp 3) (.int .i64) Tryd.underlying3 1 sz3 (by kernel_rfl) 3 "value.go:18" #[eD 0]).op, none⟩
 ] (by kernel_rfl)))
 (.block 0 (.seq (.live [1, 4, 5] (.region 2 [
 ⟨(opBin (some 6) .eql 3 (.tmp 4) (.const (Value.int IntKind.i64 0)) 3 4 "value.go:19" #[]).op, none⟩,
 ⟨(opAssign (some 5) (.tmp 6) 4 "value.go:19" #[eD 0]).op, none⟩
 ] (by kernel_rfl)))
 (.cond (.tmp 5)
 (.seq (.live [2] (.region 3 [
 ⟨(opLoadT (.agg [(.int .i64), (.int .i64), .str]) (some 7) 24 (.tmp 1) d24 ud24 3 sz24 (by kernel_rfl) 24 "value.go:20" #[]).op, none⟩,
 ⟨(opBuild (some 8) 24 #[(.int .i64 0), (.int .i64 0), (.string ⟨#[]⟩)] [] ze24 (by kernel_rfl) 24 "value.go:20" #[]).op, none⟩,
 ⟨(opEqS (some 9) 24 [(0, 0), (1, 0), (2, 2)] eq24 (.tmp 7) (.tmp 8) 24 4 "value.go:20" #[eD 0, eD 1]).op, none⟩,
 ⟨(opAssign (some 2) (.tmp 9) 4 "value.go:20" #[eD 2, eP 0, eP 1, eP 2]).op, none⟩
 ] (by kernel_rfl)))
 (.live [2] .ret))
 (.seq (.live [1, 4, 10] (.region 4 [
 ⟨(opBin (some 11) .eql 3 (.tmp 4) (.const (Value.int IntKind.i64 1)) 3 4 "value.go:21" #[]).op, none⟩,
 ⟨(opAssign (some 10) (.tmp 11) 4 "value.go:21" #[eD 0]).op, none⟩
 ] (by kernel_rfl)))
 (.cond (.tmp 10)
 (.seq (.live [2] (.region 5 [
 ⟨(opFieldAddr (some 12) 24 (.tmp 1) 2 2 1 false fl24_2 (by decide) 0 "value.go:22" #[]).op, none⟩,
 ⟨(opLoadT (.one .str) (some 13) 9 (.tmp 12) .string Tryd.underlying9 1 sz9 (by kernel_rfl) 9 "value.go:22" #[eD 0]).op, none⟩,
 ⟨(opBinS (some 14) .eql 9 (.tmp 13) (.const (Value.string { data := #[] })) 9 4 "value.go:22" #[eD 1]).op, none⟩,
 ⟨(opAssign (some 2) (.tmp 14) 4 "value.go:22" #[eD 2, eP 0, eP 1, eP 2]).op, none⟩
 ] (by kernel_rfl)))
 (.live [2] .ret))
 (.seq (.live [1, 4, 15] (.region 6 [
 ⟨(opBin (some 16) .eql 3 (.tmp 4) (.const (Value.int IntKind.i64 2)) 3 4 "value.go:23" #[]).op, none⟩,
 ⟨(opAssign (some 15) (.tmp 16) 4 "value.go:23" #[eD 0]).op, none⟩
 ] (by kernel_rfl)))
 (.cond (.tmp 15)
 (.seq (.live [2] (.region 7 [
 ⟨(opFieldAddr (some 17) 24 (.tmp 1) 2 2 1 false fl24_2 (by decide) 0 "value.go:24" #[]).op, none⟩,
 ⟨(opLoadT (.one .str) (some 18) 9 (.tmp 17) .string Tryd.underlying9 1 sz9 (by kernel_rfl) 9 "value.go:24" #[eD 0]).op, none⟩,
 ⟨(opBinS (some 19) .eql 9 (.tmp 18) (.const (Value.string { data := #[] })) 9 4 "value.go:24" #[eD 1]).op, none⟩,
 ⟨(opMove (some 20) (.tmp 19) 4 "value.go:24" #[eD 2]).op, none⟩,
 ⟨(opFieldAddr (some 21) 24 (.tmp 1) 1 1 1 false fl24_1 (by decide) 0 "value.go:24" #[eG 3]).op, (some (3, 20, true))⟩,
 ⟨(opLoadT (.one (.int .i64)) (some 22) 3 (.tmp 21) (.int .i64) Tryd.underlying3 1 sz3 (by kernel_rfl) 3 "value.go:24" #[eD 4, eG 3]).op, (some (3, 20, true))⟩,
 ⟨(opBin (some 23) .eql 3 (.tmp 22) (.const (Value.int IntKind.i64 0)) 3 4 "value.go:24" #[eD 5, eG 3]).op, (some (3, 20, true))⟩,
 ⟨(opMove (some 24) (.tmp 23) 4 "value.go:24" #[eD 6, eC 3, eG 3]).op, (some (3, 20, true))⟩,
 ⟨(opFieldAddr (some 25) 24 (.tmp 1) 1 1 1 false fl24_1 (by decide) 0 "value.go:24" #[eG 7]).op, (some (7, 24, false))⟩,
 ⟨(opLoadT (.one (.int .i64)) (some 26) 3 (.tmp 25) (.int .i64) Tryd.underlying3 1 sz3 (by kernel_rfl) 3 "value.go:24" #[eD 8, eG 7]).op, (some (7, 24, false))⟩,
 ⟨(opBin (some 27) .eql 3 (.tmp 26) (.const (Value.int IntKind.i64 1)) 3 4 "value.go:24" #[eD 9, eG 7]).op, (some (7, 24, false))⟩,
 ⟨(opPick (some 28) (.tmp 24) (.const (Value.bool true)) (.tmp 27) 4 "value.go:24" #[eD 7, eD 10, eG 3]).op, (some (3, 20, true))⟩,
 ⟨(opPick (some 29) (.tmp 20) (.tmp 28) (.const (Value.bool false)) 4 "value.go:24" #[eD 3, eD 11]).op, none⟩,
 ⟨(opAssign (some 2) (.tmp 29) 4 "value.go:24" #[eD 12, eC 7, eP 0, eP 1, eP 2, eP 3, eP 4, eP 5, eP 6, eP 7, eP 8, eP 9, eP 10, eP 11, eP 12]).op, none⟩
 ] (by kernel_rfl)))
 (.live [2] .ret))
 (.seq (.live [1, 30] (.region 8 [
 ⟨(opBin (some 31) .eql 3 (.tmp 4) (.const (Value.int IntKind.i64 3)) 3 4 "value.go:25" #[]).op, none⟩,
 ⟨(opAssign (some 30) (.tmp 31) 4 "value.go:25" #[eD 0]).op, none⟩
 ] (by kernel_rfl)))
 (.cond (.tmp 30)
 (.seq (.live [2] (.region 9 [
 ⟨(opFieldAddr (some 32) 24 (.tmp 1) 1 1 1 false fl24_1 (by decide) 0 "value.go:26" #[]).op, none⟩,
 ⟨(opLoadT (.one (.int .i64)) (some 33) 3 (.tmp 32) (.int .i64) Tryd.underlying3 1 sz3 (by kernel_rfl) 3 "value.go:26" #[eD 0]).op, none⟩,
 ⟨(opBin (some 34) .eql 3 (.tmp 33) (.const (Value.int IntKind.i64 0)) 3 4 "value.go:26" #[eD 1]).op, none⟩,
 ⟨(opMove (some 35) (.tmp 34) 4 "value.go:26" #[eD 2]).op, none⟩,
 ⟨(opFieldAddr (some 36) 24 (.tmp 1) 2 2 1 false fl24_2 (by decide) 0 "value.go:26" #[eG 3]).op, (some (3, 35, true))⟩,
 ⟨(opLoadT (.one .str) (some 37) 9 (.tmp 36) .string Tryd.underlying9 1 sz9 (by kernel_rfl) 9 "value.go:26" #[eD 4, eG 3]).op, (some (3, 35, true))⟩,
 ⟨(opLen (some 38) (.tmp 37) 9 .string Tryd.underlying9 3 "value.go:26" #[eD 5, eG 3]).op, (some (3, 35, true))⟩,
 ⟨(opBin (some 39) .leq 3 (.tmp 38) (.const (Value.int IntKind.i64 16)) 3 4 "value.go:26" #[eD 6, eG 3]).op, (some (3, 35, true))⟩,
 ⟨(opPick (some 40) (.tmp 35) (.tmp 39) (.const (Value.bool false)) 4 "value.go:26" #[eD 3, eD 7]).op, none⟩,
 ⟨(opAssign (some 2) (.tmp 40) 4 "value.go:26" #[eD 8, eC 3, eP 0, eP 1, eP 2, eP 3, eP 4, eP 5, eP 6, eP 7, eP 8]).op, none⟩
 ] (by kernel_rfl)))
 (.live [2] .ret))
 .skip))))))))))
 (.seq (.live [2] (.region 10 [
 ⟨(opAssign (some 2) (.const (Value.bool false)) 4 "value.go:28" #[]).op, none⟩
 ] (by kernel_rfl)))
 (.live [2] .ret))))

noncomputable def f13 : Fun Tryd.prog where
 id := 13
 fn := Tryd.f13
 hf := Tryd.func13
 hname := by kernel_rfl
 body := f13_b
 hbody := by kernel_rfl
 res := [rTmp 2]
 hres := by kernel_rfl
 n := 41
 hn := by kernel_rfl

/-! ### 59: cmp.isNaN[int] (3); results 2; slots: 0 x, 1 x -/
noncomputable def f59_b : Sim Tryd.prog :=
 (.seq (.live [0] (.region 0 [
 ⟨(opAssign (some 2) (.const (Value.bool false)) 4 "cmp.go:63" #[]).op, none⟩
 ] (by kernel_rfl)))
 (.seq (.live [2] (.region 1 [
 ⟨(opMove (some 3) (.tmp 0) 3 "cmp.go:64" #[]).op, none⟩,
 ⟨(opMove (some 4) (.tmp 0) 3 "cmp.go:64" #[]).op, none⟩,
 ⟨(opBin (some 5) .neq 3 (.tmp 3) (.tmp 4) 3 4 "cmp.go:64" #[eD 0, eD 1]).op, none⟩,
 ⟨(opAssign (some 2) (.tmp 5) 4 "cmp.go:64" #[eD 2, eP 0, eP 1, eP 2]).op, none⟩
 ] (by kernel_rfl)))
 (.live [2] .ret)))

noncomputable def f59 : Fun Tryd.prog where
 id := 59
 fn := Tryd.f59
 hf := Tryd.func59
 hname := by kernel_rfl
 body := f59_b
 hbody := by kernel_rfl
 res := [rTmp 2]
 hres := by kernel_rfl
 n := 6
 hn := by kernel_rfl

/-! ### 60: cmp.isNaN[string] (9); results 2; slots: 0 x, 1 x -/
noncomputable def f60_b : Sim Tryd.prog :=
 (.seq (.live [0] (.region 0 [
 ⟨(opAssign (some 2) (.const (Value.bool false)) 4 "cmp.go:63" #[]).op, none⟩
 ] (by kernel_rfl)))
 (.seq (.live [2] (.region 1 [
 ⟨(opMove (some 3) (.tmp 0) 9 "cmp.go:64" #[]).op, none⟩,
 ⟨(opMove (some 4) (.tmp 0) 9 "cmp.go:64" #[]).op, none⟩,
 ⟨(opBinS (some 5) .neq 9 (.tmp 3) (.tmp 4) 9 4 "cmp.go:64" #[eD 0, eD 1]).op, none⟩,
 ⟨(opAssign (some 2) (.tmp 5) 4 "cmp.go:64" #[eD 2, eP 0, eP 1, eP 2]).op, none⟩
 ] (by kernel_rfl)))
 (.live [2] .ret)))

noncomputable def f60 : Fun Tryd.prog where
 id := 60
 fn := Tryd.f60
 hf := Tryd.func60
 hname := by kernel_rfl
 body := f60_b
 hbody := by kernel_rfl
 res := [rTmp 2]
 hres := by kernel_rfl
 n := 6
 hn := by kernel_rfl

/-! ### 37: cmp.Compare[int] (3, 3); results 4; slots: 0 x, 1 y, 2 x, 3 y, 5 xNaN, 6 yNaN -/
noncomputable def f37_b : Sim Tryd.prog :=
 (.seq (.live [0, 1] (.region 0 [
 ⟨(opAssign (some 4) (.const (Value.int IntKind.i64 0)) 3 "cmp.go:40" #[]).op, none⟩
 ] (by kernel_rfl)))
 (.seq (.live [0, 1, 5] (.region 1 [
 ⟨(opMove (some 7) (.tmp 0) 3 "cmp.go:41" #[]).op, none⟩,
 ⟨opCall (f59.orc 0) (some 8) [(.tmp 7)] #[3] 4 "cmp.go:41" #[eD 0], none⟩,
 ⟨(opAssign (some 5) (.tmp 8) 4 "cmp.go:41" #[eD 1, eC 1, eP 0, eP 1]).op, none⟩
 ] (by kernel_rfl)))
 (.seq (.live [0, 1, 5, 6] (.region 2 [
 ⟨(opMove (some 9) (.tmp 1) 3 "cmp.go:42" #[]).op, none⟩,
 ⟨opCall (f59.orc 0) (some 10) [(.tmp 9)] #[3] 4 "cmp.go:42" #[eD 0], none⟩,
 ⟨(opAssign (some 6) (.tmp 10) 4 "cmp.go:42" #[eD 1, eC 1, eP 0, eP 1]).op, none⟩
 ] (by kernel_rfl)))
 (.seq (.seq (.live [0, 1, 6, 11] (.region 3 [
 ⟨(opMove (some 11) (.tmp 5) 4 "cmp.go:43" #[]).op, none⟩
 ] (by kernel_rfl)))
 (.cond (.tmp 11)
 (.seq (.seq (.live [12] (.region 4 [
 ⟨(opMove (some 12) (.tmp 6) 4 "cmp.go:44" #[]).op, none⟩
 ] (by kernel_rfl)))
 (.cond (.tmp 12)
 (.seq (.live [4] (.region 5 [
 ⟨(opAssign (some 4) (.const (Value.int IntKind.i64 0)) 3 "cmp.go:45" #[]).op, none⟩
 ] (by kernel_rfl)))
 (.live [4] .ret))
 .skip))
 (.seq (.live [4] (.region 6 [
 ⟨(opAssign (some 4) (.const (Value.int IntKind.i64 (-1))) 3 "cmp.go:47" #[]).op, none⟩
 ] (by kernel_rfl)))
 (.live [4] .ret)))
 .skip))
 (.seq (.seq (.live [0, 1, 13] (.region 7 [
 ⟨(opMove (some 13) (.tmp 6) 4 "cmp.go:49" #[]).op, none⟩
 ] (by kernel_rfl)))
 (.cond (.tmp 13)
 (.seq (.live [4] (.region 8 [
 ⟨(opAssign (some 4) (.const (Value.int IntKind.i64 1)) 3 "cmp.go:50" #[]).op, none⟩
 ] (by kernel_rfl)))
 (.live [4] .ret))
 .skip))
 (.seq (.seq (.live [0, 1, 16] (.region 9 [
 ⟨(opMove (some 14) (.tmp 0) 3 "cmp.go:52" #[]).op, none⟩,
 ⟨(opMove (some 15) (.tmp 1) 3 "cmp.go:52" #[]).op, none⟩,
 ⟨(opBin (some 16) .lss 3 (.tmp 14) (.tmp 15) 3 4 "cmp.go:52" #[eD 0, eD 1]).op, none⟩
 ] (by kernel_rfl)))
 (.cond (.tmp 16)
 (.seq (.live [4] (.region 10 [
 ⟨(opAssign (some 4) (.const (Value.int IntKind.i64 (-1))) 3 "cmp.go:53" #[]).op, none⟩
 ] (by kernel_rfl)))
 (.live [4] .ret))
 .skip))
 (.seq (.seq (.live [19] (.region 11 [
 ⟨(opMove (some 17) (.tmp 0) 3 "cmp.go:55" #[]).op, none⟩,
 ⟨(opMove (some 18) (.tmp 1) 3 "cmp.go:55" #[]).op, none⟩,
 ⟨(opBin (some 19) .gtr 3 (.tmp 17) (.tmp 18) 3 4 "cmp.go:55" #[eD 0, eD 1]).op, none⟩
 ] (by kernel_rfl)))
 (.cond (.tmp 19)
 (.seq (.live [4] (.region 12 [
 ⟨(opAssign (some 4) (.const (Value.int IntKind.i64 1)) 3 "cmp.go:56" #[]).op, none⟩
 ] (by kernel_rfl)))
 (.live [4] .ret))
 .skip))
 (.seq (.live [4] (.region 13 [
 ⟨(opAssign (some 4) (.const (Value.int IntKind.i64 0)) 3 "cmp.go:58" #[]).op, none⟩
 ] (by kernel_rfl)))
 (.live [4] .ret)))))))))

noncomputable def f37 : Fun Tryd.prog where
 id := 37
 fn := Tryd.f37
 hf := Tryd.func37
 hname := by kernel_rfl
 body := f37_b
 hbody := by kernel_rfl
 res := [rTmp 4]
 hres := by kernel_rfl
 n := 20
 hn := by kernel_rfl

/-! ### 38: cmp.Compare[string] (9, 9); results 4; slots: 0 x, 1 y, 2 x, 3 y, 5 xNaN, 6 yNaN -/
noncomputable def f38_b : Sim Tryd.prog :=
 (.seq (.live [0, 1] (.region 0 [
 ⟨(opAssign (some 4) (.const (Value.int IntKind.i64 0)) 3 "cmp.go:40" #[]).op, none⟩
 ] (by kernel_rfl)))
 (.seq (.live [0, 1, 5] (.region 1 [
 ⟨(opMove (some 7) (.tmp 0) 9 "cmp.go:41" #[]).op, none⟩,
 ⟨opCall (f60.orc 0) (some 8) [(.tmp 7)] #[9] 4 "cmp.go:41" #[eD 0], none⟩,
 ⟨(opAssign (some 5) (.tmp 8) 4 "cmp.go:41" #[eD 1, eC 1, eP 0, eP 1]).op, none⟩
 ] (by kernel_rfl)))
 (.seq (.live [0, 1, 5, 6] (.region 2 [
 ⟨(opMove (some 9) (.tmp 1) 9 "cmp.go:42" #[]).op, none⟩,
 ⟨opCall (f60.orc 0) (some 10) [(.tmp 9)] #[9] 4 "cmp.go:42" #[eD 0], none⟩,
 ⟨(opAssign (some 6) (.tmp 10) 4 "cmp.go:42" #[eD 1, eC 1, eP 0, eP 1]).op, none⟩
 ] (by kernel_rfl)))
 (.seq (.seq (.live [0, 1, 6, 11] (.region 3 [
 ⟨(opMove (some 11) (.tmp 5) 4 "cmp.go:43" #[]).op, none⟩
 ] (by kernel_rfl)))
 (.cond (.tmp 11)
 (.seq (.seq (.live [12] (.region 4 [
 ⟨(opMove (some 12) (.tmp 6) 4 "cmp.go:44" #[]).op, none⟩
 ] (by kernel_rfl)))
 (.cond (.tmp 12)
 (.seq (.live [4] (.region 5 [
 ⟨(opAssign (some 4) (.const (Value.int IntKind.i64 0)) 3 "cmp.go:45" #[]).op, none⟩
 ] (by kernel_rfl)))
 (.live [4] .ret))
 .skip))
 (.seq (.live [4] (.region 6 [
 ⟨(opAssign (some 4) (.const (Value.int IntKind.i64 (-1))) 3 "cmp.go:47" #[]).op, none⟩
 ] (by kernel_rfl)))
 (.live [4] .ret)))
 .skip))
 (.seq (.seq (.live [0, 1, 13] (.region 7 [
 ⟨(opMove (some 13) (.tmp 6) 4 "cmp.go:49" #[]).op, none⟩
 ] (by kernel_rfl)))
 (.cond (.tmp 13)
 (.seq (.live [4] (.region 8 [
 ⟨(opAssign (some 4) (.const (Value.int IntKind.i64 1)) 3 "cmp.go:50" #[]).op, none⟩
 ] (by kernel_rfl)))
 (.live [4] .ret))
 .skip))
 (.seq (.seq (.live [0, 1, 16] (.region 9 [
 ⟨(opMove (some 14) (.tmp 0) 9 "cmp.go:52" #[]).op, none⟩,
 ⟨(opMove (some 15) (.tmp 1) 9 "cmp.go:52" #[]).op, none⟩,
 ⟨(opBinS (some 16) .lss 9 (.tmp 14) (.tmp 15) 9 4 "cmp.go:52" #[eD 0, eD 1]).op, none⟩
 ] (by kernel_rfl)))
 (.cond (.tmp 16)
 (.seq (.live [4] (.region 10 [
 ⟨(opAssign (some 4) (.const (Value.int IntKind.i64 (-1))) 3 "cmp.go:53" #[]).op, none⟩
 ] (by kernel_rfl)))
 (.live [4] .ret))
 .skip))
 (.seq (.seq (.live [19] (.region 11 [
 ⟨(opMove (some 17) (.tmp 0) 9 "cmp.go:55" #[]).op, none⟩,
 ⟨(opMove (some 18) (.tmp 1) 9 "cmp.go:55" #[]).op, none⟩,
 ⟨(opBinS (some 19) .gtr 9 (.tmp 17) (.tmp 18) 9 4 "cmp.go:55" #[eD 0, eD 1]).op, none⟩
 ] (by kernel_rfl)))
 (.cond (.tmp 19)
 (.seq (.live [4] (.region 12 [
 ⟨(opAssign (some 4) (.const (Value.int IntKind.i64 1)) 3 "cmp.go:56" #[]).op, none⟩
 ] (by kernel_rfl)))
 (.live [4] .ret))
 .skip))
 (.seq (.live [4] (.region 13 [
 ⟨(opAssign (some 4) (.const (Value.int IntKind.i64 0)) 3 "cmp.go:58" #[]).op, none⟩
 ] (by kernel_rfl)))
 (.live [4] .ret)))))))))

noncomputable def f38 : Fun Tryd.prog where
 id := 38
 fn := Tryd.f38
 hf := Tryd.func38
 hname := by kernel_rfl
 body := f38_b
 hbody := by kernel_rfl
 res := [rTmp 4]
 hres := by kernel_rfl
 n := 20
 hn := by kernel_rfl

/-! ### 36: cmp.Or[int] (82); results 2; slots: 0 vals, 1 vals, 3 zero, 4 _, 5 val -/
/-- A loop's round; at its head live: 3 zero, 6 , 7 , 8  -/
noncomputable def f36_l0 : Sim Tryd.prog :=
 (.seq (.live [3, 6, 7, 8, 9] (.region 3 [
 ⟨(opBin (some 9) .lss 3 (.tmp 8) (.tmp 7) 3 0 "cmp.go:71" #[]).op, none⟩
 ] (by kernel_rfl)))
 (.seq (.cond (.tmp 9)
 .skip
 (.live [3] (.exit 0)))
 (.seq (.block 1 (.seq (.live [3, 5, 6, 7, 8] (.region 4 [
 ⟨(opIndexAddrT (some 10) 82 (.tmp 6) (.tmp 8) 3 1 Tryd.underlying82 sz3 0 "cmp.go:71" #[]).op, none⟩,
 ⟨(opLoadT (.one (.int .i64)) (some 11) 3 (.tmp 10) (.int .i64) Tryd.underlying3 1 sz3 (by kernel_rfl) 3 "cmp.go:71" #[eD 0]).op, none⟩,
 ⟨(opAssign (some 5) (.tmp 11) 3 "cmp.go:71" #[eD 1, eP 0, eP 1]).op, none⟩
 ] (by kernel_rfl)))
 (.seq (.live [3, 5, 6, 7, 8, 14] (.region 5 [
 ⟨(opMove (some 12) (.tmp 5) 3 "cmp.go:72" #[]).op, none⟩,
 ⟨(opMove (some 13) (.tmp 3) 3 "cmp.go:72" #[]).op, none⟩,
 ⟨(opBin (some 14) .neq 3 (.tmp 12) (.tmp 13) 3 4 "cmp.go:72" #[eD 0, eD 1]).op, none⟩
 ] (by kernel_rfl)))
 (.cond (.tmp 14)
 (.seq (.live [2] (.region 6 [
 ⟨(opMove (some 15) (.tmp 5) 3 "cmp.go:73" #[]).op, none⟩,
 ⟨(opAssign (some 2) (.tmp 15) 3 "cmp.go:73" #[eD 0, eP 0]).op, none⟩
 ] (by kernel_rfl)))
 (.live [2] .ret))
 .skip))))
 (.live [3, 6, 7, 8] (.region 7 [
 ⟨(opBin (some 16) .add 3 (.tmp 8) (.const (Value.int IntKind.i64 1)) 3 3 "cmp.go:71" #[]).op, none⟩,
 ⟨(opMove (some 8) (.tmp 16) 3 "cmp.go:71" #[eD 0]).op, none⟩
 ] (by kernel_rfl))))))

/-- What follows a loop. -/
noncomputable def f36_r0 : Sim Tryd.prog :=
 (.seq (.live [2] (.region 8 [
 ⟨(opMove (some 17) (.tmp 3) 3 "cmp.go:76" #[]).op, none⟩,
 ⟨(opAssign (some 2) (.tmp 17) 3 "cmp.go:76" #[eD 0, eP 0]).op, none⟩
 ] (by kernel_rfl)))
 (.live [2] .ret))

noncomputable def f36_b : Sim Tryd.prog :=
 (.seq (.live [0] (.region 0 [
 ⟨(opAssign (some 2) (.const (Value.int IntKind.i64 0)) 3 "cmp.go:69" #[]).op, none⟩
 ] (by kernel_rfl)))
 (.seq (.live [0, 3] (.region 1 [
 ⟨(opAssign (some 3) (.const (Value.int IntKind.i64 0)) 3 "cmp.go:70" #[]).op, none⟩
 ] (by kernel_rfl)))
 (.seq (.seq (.live [3, 6, 7, 8] (.region 2 [
 ⟨(opMove (some 6) (.tmp 0) 82 "cmp.go:71" #[]).op, none⟩,
 ⟨(opLen (some 7) (.tmp 6) 82 (.slice 3) Tryd.underlying82 3 "cmp.go:71" #[eD 0]).op, none⟩,
 ⟨(opMove (some 8) (.const (Value.int IntKind.i64 0)) 3 "cmp.go:71" #[]).op, none⟩
 ] (by kernel_rfl)))
 (.block 0 (.loop [3, 6, 7, 8] f36_l0)))
 f36_r0)))

noncomputable def f36 : Fun Tryd.prog where
 id := 36
 fn := Tryd.f36
 hf := Tryd.func36
 hname := by kernel_rfl
 body := f36_b
 hbody := by kernel_rfl
 res := [rTmp 2]
 hres := by kernel_rfl
 n := 18
 hn := by kernel_rfl

/-! ### 61: interlock/bits.fold (3); results 2; slots: 0 n, 1 n -/
noncomputable def f61_b : Sim Tryd.prog :=
 (.seq (.live [0] (.region 0 [
 ⟨(opAssign (some 2) (.const (Value.int IntKind.u64 0)) 84 "bits.go:13" #[]).op, none⟩
 ] (by kernel_rfl)))
 (.seq (.live [2] (.region 1 [
 ⟨(opMove (some 3) (.tmp 0) 3 "bits.go:13" #[]).op, none⟩,
 ⟨(opConvInt (some 4) 3 84 (.tmp 3) (.int .i64) Tryd.underlying3 .u64 Tryd.underlying84 84 "bits.go:13" #[eD 0]).op, none⟩,
 ⟨(opBin (some 5) .shl 84 (.tmp 4) (.const (Value.int IntKind.u64 1)) 80 84 "bits.go:13" #[eD 1]).op, none⟩,
 ⟨(opMove (some 6) (.tmp 0) 3 "bits.go:13" #[]).op, none⟩,
 ⟨(opBin (some 7) .shr 3 (.tmp 6) (.const (Value.int IntKind.u64 63)) 80 3 "bits.go:13" #[eD 3]).op, none⟩,
 ⟨(opConvInt (some 8) 3 84 (.tmp 7) (.int .i64) Tryd.underlying3 .u64 Tryd.underlying84 84 "bits.go:13" #[eD 4]).op, none⟩,
 ⟨(opBin (some 9) .xor 84 (.tmp 5) (.tmp 8) 84 84 "bits.go:13" #[eD 2, eD 5]).op, none⟩,
 ⟨(opAssign (some 2) (.tmp 9) 84 "bits.go:13" #[eD 6, eP 0, eP 1, eP 2, eP 3, eP 4, eP 5, eP 6]).op, none⟩
 ] (by kernel_rfl)))
 (.live [2] .ret)))

noncomputable def f61 : Fun Tryd.prog where
 id := 61
 fn := Tryd.f61
 hf := Tryd.func61
 hname := by kernel_rfl
 body := f61_b
 hbody := by kernel_rfl
 res := [rTmp 2]
 hres := by kernel_rfl
 n := 10
 hn := by kernel_rfl

end Go.Proofs.YtcfedmheblbdnaaDoor.V

/- What the functions' runs come to; the right sides were printed by a tool, Lean checks them. -/
set_option linter.unusedVariables false
set_option maxRecDepth 100000
namespace Go.Proofs.YtcfedmheblbdnaaDoor.V
open Go Go.V Go.RowKit

theorem right_run (F : Nat) (k n : Int) (s : ByteArray) (st : St) :
 (f13.run F [.agg [.int .i64 k, .int .i64 n, .str s]] st : Ans) =
 branch (AV.bool (k == (0 : Int)))
 (some (Fin.ret (AV.bool (k == (0 : Int) && (n == (0 : Int) && (s.toList == [] && true)))), st))
 (branch (AV.bool (k == (1 : Int))) (some (Fin.ret (AV.bool (s.toList == [])), st))
 (branch (AV.bool (k == (2 : Int)))
 (branch (AV.bool (s.toList == []))
 (branch (AV.bool (n == (0 : Int))) (some (Fin.ret (AV.bool true), st))
 (some (Fin.ret (AV.bool (n == (1 : Int))), st)))
 (some (Fin.ret (AV.bool false), st)))
 (branch (AV.bool (k == (3 : Int)))
 (branch (AV.bool (n == (0 : Int))) (some (Fin.ret (AV.bool (decide ((↑s.size : Int) ≤ (16 : Int)))), st))
 (some (Fin.ret (AV.bool false), st)))
 (some (Fin.ret (AV.bool false), st))))) := by kernel_rfl

theorem cmpi_run (F : Nat) (a b : Int) (st : St) :
 (f37.run F [.int .i64 a, .int .i64 b] st : Ans) =
 branch (AV.bool (a != a))
 (branch (AV.bool (b != b)) (some (Fin.ret (AV.int IntKind.i64 (0 : Int)), st))
 (some (Fin.ret (AV.int IntKind.i64 (-1 : Int)), st)))
 (branch (AV.bool (b != b)) (some (Fin.ret (AV.int IntKind.i64 (1 : Int)), st))
 (branch (AV.bool (decide (a < b))) (some (Fin.ret (AV.int IntKind.i64 (-1 : Int)), st))
 (branch (AV.bool (decide (a > b))) (some (Fin.ret (AV.int IntKind.i64 (1 : Int)), st))
 (some (Fin.ret (AV.int IntKind.i64 (0 : Int)), st))))) := by kernel_rfl

theorem cmps_run (F : Nat) (a b : ByteArray) (st : St) :
 (f38.run F [.str a, .str b] st : Ans) =
 branch (AV.bool !a.toList == a.toList)
 (branch (AV.bool !b.toList == b.toList) (some (Fin.ret (AV.int IntKind.i64 (0 : Int)), st))
 (some (Fin.ret (AV.int IntKind.i64 (-1 : Int)), st)))
 (branch (AV.bool !b.toList == b.toList) (some (Fin.ret (AV.int IntKind.i64 (1 : Int)), st))
 (branch (AV.bool (Op.bytesLess a.toList b.toList)) (some (Fin.ret (AV.int IntKind.i64 (-1 : Int)), st))
 (branch (AV.bool !(Op.bytesLess a.toList b.toList || a.toList == b.toList))
 (some (Fin.ret (AV.int IntKind.i64 (1 : Int)), st)) (some (Fin.ret (AV.int IntKind.i64 (0 : Int)), st))))) := by kernel_rfl

theorem or_run (F : Nat) (a b c : Int) (st : St) :
 (f36.run (F + 4) [.sl 1 true [[.int .i64 a], [.int .i64 b], [.int .i64 c]]] st : Ans) =
 branch (AV.bool (a != (0 : Int))) (some (Fin.ret (AV.int IntKind.i64 a), st))
 (branch (AV.bool (b != (0 : Int))) (some (Fin.ret (AV.int IntKind.i64 b), st))
 (branch (AV.bool (c != (0 : Int))) (some (Fin.ret (AV.int IntKind.i64 c), st))
 (some (Fin.ret (AV.int IntKind.i64 (0 : Int)), st)))) := by kernel_rfl

end Go.Proofs.YtcfedmheblbdnaaDoor.V

/- Values: Right, cmp's functions. -/
set_option linter.unusedVariables false
namespace Go.Proofs.YtcfedmheblbdnaaDoor.V
open Go Go.V Go.RowKit

/-- A value: its kind, number, text. -/
structure Va where
  k : Int
  n : Int
  s : ByteArray
def Va.cells (v : Va) : List AV := [.int .i64 v.k, .int .i64 v.n, .str v.s]
def Va.av (v : Va) : AV := .agg v.cells
def rightV (v : Va) : Bool := bif v.k == 0 then v.n == 0 && v.s.toList == [] else bif v.k == 1 then v.s.toList == [] else bif v.k == 2 then v.s.toList == [] && (v.n == 0 || v.n == 1) else bif v.k == 3 then v.n == 0 && decide ((v.s.size : Int) ≤ 16) else false
def decVa : AV → Option Va
  | .agg [k, n, s] => match k with
    | .int .i64 k => match n with
      | .int .i64 n => match s with
        | .str s => some ⟨k, n, s⟩
        | _ => none
      | _ => none
    | _ => none
  | _ => none
theorem decVa_some {x : AV} {v : Va} (h : decVa x = some v) : x = v.av := by
  unfold decVa at h
  split at h
  · split at h
    · split at h
      · split at h
        · cases h; rfl
        · cases h
      · cases h
    · cases h
  · cases h
def dec1v : List AV → Option Va
  | [x] => decVa x
  | _ => none
theorem dec1v_enc : ∀ l a, dec1v l = some a → l = [Va.av a] := by
  intro l a h
  unfold dec1v at h
  split at h
  · rw [decVa_some h]
  · cases h
def dec2v : List AV → Option (Va × Va)
  | [x, y] => match decVa x with
    | some a => match decVa y with
      | some b => some (a, b)
      | none => none
    | none => none
  | _ => none
theorem right_eq {F : Nat} (v : Va) (st : St) : f13.run F [v.av] st = some (.ret (.bool (rightV v)), st) := by
  obtain ⟨k, n, s⟩ := v
  show f13.run F [.agg [.int .i64 k, .int .i64 n, .str s]] st = _
  rw [right_run]
  simp only [rightV]
  cases h0 : k == 0
  · rw [show ∀ a b : Ans, branch (.bool false) a b = b from fun _ _ => rfl]
    cases h1 : k == 1
    · cases h2 : k == 2
      · cases h3 : k == 3
        · rfl
        · cases n == 0 <;> rfl
      · cases s.toList == []
        · rfl
        · cases h5 : n == 0
          · cases n == 1 <;> rfl
          · rfl
    · rfl
  · simp [branch]
noncomputable def p13 : POrc Tryd.prog := f13.flatIf dec1v (fun v => [v.av]) dec1v_enc (fun _ => true) (fun v => .bool (rightV v)) (fun _ => ⟨⟨trivial, trivial, trivial, trivial⟩, trivial⟩) (fun _ => trivial) fun v _ => ⟨0, _, right_eq v _⟩
def cmpI (a b : Int) : Int := bif decide (a < b) then -1 else bif decide (b < a) then 1 else 0
def cmpS (a b : ByteArray) : Int := bif Op.bytesLess a.toList b.toList then -1 else bif a.toList == b.toList then 0 else 1
def orI (a b c : Int) : Int := bif a != 0 then a else bif b != 0 then b else c
def dec2i : List AV → Option (Int × Int)
  | [x, y] => match x with
    | .int .i64 a => match y with
      | .int .i64 b => some (a, b)
      | _ => none
    | _ => none
  | _ => none
theorem dec2i_enc : ∀ l a, dec2i l = some a → l = [.int .i64 a.1, .int .i64 a.2] := by
  intro l a h
  unfold dec2i at h
  split at h
  · split at h
    · split at h
      · cases h; rfl
      · cases h
    · cases h
  · cases h
def dec2s : List AV → Option (ByteArray × ByteArray)
  | [x, y] => match x with
    | .str a => match y with
      | .str b => some (a, b)
      | _ => none
    | _ => none
  | _ => none
theorem dec2s_enc : ∀ l a, dec2s l = some a → l = [.str a.1, .str a.2] := by
  intro l a h
  unfold dec2s at h
  split at h
  · split at h
    · split at h
      · cases h; rfl
      · cases h
    · cases h
  · cases h
noncomputable def p37 : POrc Tryd.prog := f37.flatIf dec2i (fun a => [.int .i64 a.1, .int .i64 a.2]) dec2i_enc (fun _ => true) (fun a => .int .i64 (cmpI a.1 a.2)) (fun _ => ⟨trivial, trivial, trivial⟩) (fun _ => trivial) fun a _ => ⟨0, ⟨[], []⟩, by
  obtain ⟨a, b⟩ := a
  rw [cmpi_run, show (a != a) = false by simp, show (b != b) = false by simp]
  simp only [cmpI]
  show branch (.bool (decide (a < b))) _ (branch (.bool (decide (b < a))) _ _) = _
  cases decide (a < b) <;> cases decide (b < a) <;> rfl⟩
theorem p37_nat : p37.Nat := flatIf_nat
noncomputable def p38 : POrc Tryd.prog := f38.flatIf dec2s (fun a => [.str a.1, .str a.2]) dec2s_enc (fun _ => true) (fun a => .int .i64 (cmpS a.1 a.2)) (fun _ => ⟨trivial, trivial, trivial⟩) (fun _ => trivial) fun a _ => ⟨0, ⟨[], []⟩, by
  obtain ⟨a, b⟩ := a
  rw [cmps_run, show (!a.toList == a.toList) = false by simp, show (!b.toList == b.toList) = false by simp]
  simp only [cmpS]
  show branch (.bool (Op.bytesLess a.toList b.toList)) _ (branch (.bool (!(Op.bytesLess a.toList b.toList || a.toList == b.toList))) _ _) = _
  cases Op.bytesLess a.toList b.toList <;> cases a.toList == b.toList <;> rfl⟩
theorem p38_nat : p38.Nat := flatIf_nat
def dec3i : List AV → Option (Int × Int × Int)
  | [x] => match x with
    | .sl 1 true [[x], [y], [z]] => match x with
      | .int .i64 a => match y with
        | .int .i64 b => match z with
          | .int .i64 c => some (a, b, c)
          | _ => none
        | _ => none
      | _ => none
    | _ => none
  | _ => none
theorem dec3i_enc : ∀ l a, dec3i l = some a → l = [.sl 1 true [[.int .i64 a.1], [.int .i64 a.2.1], [.int .i64 a.2.2]]] := by
  intro l a h
  unfold dec3i at h
  split at h
  · split at h
    · split at h
      · split at h
        · split at h
          · cases h; rfl
          · cases h
        · cases h
      · cases h
    · cases h
  · cases h
noncomputable def p36 : POrc Tryd.prog := f36.flatIf dec3i (fun a => [.sl 1 true [[.int .i64 a.1], [.int .i64 a.2.1], [.int .i64 a.2.2]]]) dec3i_enc (fun _ => true) (fun a => .int .i64 (orI a.1 a.2.1 a.2.2))
  (fun _ => ⟨⟨⟨trivial, trivial⟩, ⟨trivial, trivial⟩, ⟨trivial, trivial⟩, trivial⟩, trivial⟩) (fun _ => trivial) fun a _ => ⟨0 + 4, ⟨[], []⟩, by
  obtain ⟨a, b, c⟩ := a
  rw [or_run]
  simp only [orI]
  cases h1 : a != 0
  · cases h2 : b != 0
    · cases h3 : c != 0
      · have : c = 0 := by simpa using h3
        subst this; rfl
      · rfl
    · rfl
  · rfl⟩
theorem p36_nat : p36.Nat := flatIf_nat
end Go.Proofs.YtcfedmheblbdnaaDoor.V

/- The functions' pieces, as told by gen.py. -/
set_option linter.unusedVariables false
set_option maxRecDepth 20000
namespace Go.Proofs.YtcfedmheblbdnaaDoor.V
open Go Go.V Go.RowKit

theorem ze3 : (Tryd.prog.info? 3).bind (·.zero) = some (.int .i64 0) := by kernel_rfl
theorem by3 : (Tryd.prog.info? 3).map (·.bytes) = some 8 := by kernel_rfl
theorem el82 : ElemOf Tryd.prog 82 3 1 8 (.int .i64 0) := ⟨Tryd.underlying82, sz3, by3, ze3, by kernel_rfl, by decide⟩
noncomputable abbrev d73 : TypeDesc := (Tryd.prog.underlying 73).getD .bool
theorem ud73 : Tryd.prog.underlying 73 = some d73 := by kernel_rfl
theorem by24 : (Tryd.prog.info? 24).map (·.bytes) = some 32 := by kernel_rfl
theorem el37 : ElemOf Tryd.prog 37 24 3 32 (.agg #[(.int .i64 0), (.int .i64 0), (.string ⟨#[]⟩)]) := ⟨Tryd.underlying37, sz24, by24, ze24, by kernel_rfl, by decide⟩

/-! ### 45: interlock/value.RightRow$1 (24); results 2; slots: 0 v, 1 v -/
noncomputable def f45_b : Sim Tryd.prog :=
 (.seq (.live [1] (.region 0 [
 ⟨(opBoxF (some 1) 24 (.tmp 0) 0 "value.go:33" #[]).op, none⟩,
 ⟨(opAssign (some 2) (.const (Value.bool false)) 4 "value.go:33" #[]).op, none⟩
 ] (by kernel_rfl)))
 (.seq (.live [2] (.region 1 [
 ⟨(opLoadT (.agg [(.int .i64), (.int .i64), .str]) (some 3) 24 (.tmp 1) d24 ud24 3 sz24 (by kernel_rfl) 24 "value.go:33" #[]).op, none⟩,
 ⟨(opCallP p13 (some 4) [(.tmp 3)] #[24] 4 "value.go:33" #[eD 0]).op, none⟩,
 ⟨(opNot (some 5) 4 (.tmp 4) 4 "value.go:33" #[eD 1]).op, none⟩,
 ⟨(opAssign (some 2) (.tmp 5) 4 "value.go:33" #[eD 2, eC 1, eP 0, eP 1, eP 2]).op, none⟩
 ] (by kernel_rfl)))
 (.live [2] .ret)))

noncomputable def f45 : Fun Tryd.prog where
 id := 45
 fn := Tryd.f45
 hf := Tryd.func45
 hname := by kernel_rfl
 body := f45_b
 hbody := by kernel_rfl
 res := [rTmp 2]
 hres := by kernel_rfl
 n := 6
 hn := by kernel_rfl

/-! ### 62: slices.IndexFunc[interlock/api.Row,interlock/api.Value] (37, 29); results 4; slots: 0 s, 1 f, 2 s, 3 f, 5 i -/
/-- A loop's round; at its head live: 0 s, 1 f, 7 , 8  -/
noncomputable def f62_l0 (Os : List (Orc Tryd.prog)) : Sim Tryd.prog :=
 (.seq (.live [0, 1, 7, 8, 9] (.region 2 [
 ⟨(opBin (some 9) .lss 3 (.tmp 8) (.tmp 7) 3 0 "slices.go:108" #[]).op, none⟩
 ] (by kernel_rfl)))
 (.seq (.cond (.tmp 9)
 .skip
 (.live [] (.exit 0)))
 (.seq (.block 1 (.seq (.live [0, 1, 5, 7, 8] (.region 3 [
 ⟨(opMove (some 10) (.tmp 8) 3 "slices.go:108" #[]).op, none⟩,
 ⟨(opAssign (some 5) (.tmp 10) 3 "slices.go:108" #[eD 0, eP 0]).op, none⟩
 ] (by kernel_rfl)))
 (.seq (.live [0, 1, 5, 7, 8, 16] (.region 4 [
 ⟨(opMove (some 11) (.tmp 1) 29 "slices.go:109" #[]).op, none⟩,
 ⟨(opMove (some 12) (.tmp 0) 37 "slices.go:109" #[]).op, none⟩,
 ⟨(opMove (some 13) (.tmp 5) 3 "slices.go:109" #[]).op, none⟩,
 ⟨(opIndexAddrT (some 14) 37 (.tmp 12) (.tmp 13) 24 3 Tryd.underlying37 sz24 0 "slices.go:109" #[eD 1, eD 2]).op, none⟩,
 ⟨(opLoadT (.agg [(.int .i64), (.int .i64), .str]) (some 15) 24 (.tmp 14) d24 ud24 3 sz24 (by kernel_rfl) 24 "slices.go:109" #[eD 3]).op, none⟩,
 ⟨opCallDyn Os (some 16) 11 [(.tmp 15)] #[24] 4 "slices.go:109" #[eD 0, eD 4], none⟩
 ] (by kernel_rfl)))
 (.cond (.tmp 16)
 (.seq (.live [4] (.region 5 [
 ⟨(opMove (some 17) (.tmp 5) 3 "slices.go:110" #[]).op, none⟩,
 ⟨(opAssign (some 4) (.tmp 17) 3 "slices.go:110" #[eD 0, eP 0]).op, none⟩
 ] (by kernel_rfl)))
 (.live [4] .ret))
 .skip))))
 (.live [0, 1, 7, 8] (.region 6 [
 ⟨(opBin (some 18) .add 3 (.tmp 8) (.const (Value.int IntKind.i64 1)) 3 3 "slices.go:108" #[]).op, none⟩,
 ⟨(opMove (some 8) (.tmp 18) 3 "slices.go:108" #[eD 0]).op, none⟩
 ] (by kernel_rfl))))))

/-- What follows a loop. -/
noncomputable def f62_r0 (Os : List (Orc Tryd.prog)) : Sim Tryd.prog :=
 (.seq (.live [4] (.region 7 [
 ⟨(opAssign (some 4) (.const (Value.int IntKind.i64 (-1))) 3 "slices.go:113" #[]).op, none⟩
 ] (by kernel_rfl)))
 (.live [4] .ret))

noncomputable def f62_b (Os : List (Orc Tryd.prog)) : Sim Tryd.prog :=
 (.seq (.live [0, 1] (.region 0 [
 ⟨(opAssign (some 4) (.const (Value.int IntKind.i64 0)) 3 "slices.go:107" #[]).op, none⟩
 ] (by kernel_rfl)))
 (.seq (.seq (.live [0, 1, 7, 8] (.region 1 [
 ⟨(opMove (some 6) (.tmp 0) 37 "slices.go:108" #[]).op, none⟩,
 ⟨(opLen (some 7) (.tmp 6) 37 (.slice 24) Tryd.underlying37 3 "slices.go:108" #[eD 0]).op, none⟩,
 ⟨(opMove (some 8) (.const (Value.int IntKind.i64 0)) 3 "slices.go:108" #[]).op, none⟩
 ] (by kernel_rfl)))
 (.block 0 (.loop [0, 1, 7, 8] (f62_l0 Os))))
 (f62_r0 Os)))

noncomputable def f62 (Os : List (Orc Tryd.prog)) : Fun Tryd.prog where
 id := 62
 fn := Tryd.f62
 hf := Tryd.func62
 hname := by kernel_rfl
 body := f62_b Os
 hbody := by kernel_rfl
 res := [rTmp 4]
 hres := by kernel_rfl
 n := 19
 hn := by kernel_rfl

/-! ### 44: slices.ContainsFunc[interlock/api.Row,interlock/api.Value] (37, 29); results 4; slots: 0 s, 1 f, 2 s, 3 f -/
noncomputable def f44_b : Sim Tryd.prog :=
 (.seq (.live [0, 1] (.region 0 [
 ⟨(opAssign (some 4) (.const (Value.bool false)) 4 "slices.go:124" #[]).op, none⟩
 ] (by kernel_rfl)))
 (.seq (.live [4] (.region 1 [
 ⟨(opMove (some 5) (.tmp 0) 37 "slices.go:125" #[]).op, none⟩,
 ⟨(opMove (some 6) (.tmp 1) 29 "slices.go:125" #[]).op, none⟩,
 ⟨opCall ((f62 [f45.orc 0]).orc 12) (some 7) [(.tmp 5), (.tmp 6)] #[37, 29] 3 "slices.go:125" #[eD 0, eD 1], none⟩,
 ⟨(opBin (some 8) .geq 3 (.tmp 7) (.const (Value.int IntKind.i64 0)) 3 4 "slices.go:125" #[eD 2]).op, none⟩,
 ⟨(opAssign (some 4) (.tmp 8) 4 "slices.go:125" #[eD 3, eC 2, eP 0, eP 1, eP 2, eP 3]).op, none⟩
 ] (by kernel_rfl)))
 (.live [4] .ret)))

noncomputable def f44 : Fun Tryd.prog where
 id := 44
 fn := Tryd.f44
 hf := Tryd.func44
 hname := by kernel_rfl
 body := f44_b
 hbody := by kernel_rfl
 res := [rTmp 4]
 hres := by kernel_rfl
 n := 9
 hn := by kernel_rfl

/-! ### 26: interlock/value.RightRow (37); results 2; slots: 0 r, 1 r -/
noncomputable def f26_b : Sim Tryd.prog :=
 (.seq (.live [0] (.region 0 [
 ⟨(opAssign (some 2) (.const (Value.bool false)) 4 "value.go:32" #[]).op, none⟩
 ] (by kernel_rfl)))
 (.seq (.live [2] (.region 1 [
 ⟨(opMove (some 3) (.tmp 0) 37 "value.go:33" #[]).op, none⟩,
 ⟨(opLen (some 4) (.tmp 3) 37 (.slice 24) Tryd.underlying37 3 "value.go:33" #[eD 0]).op, none⟩,
 ⟨(opBin (some 5) .leq 3 (.tmp 4) (.const (Value.int IntKind.i64 8)) 3 4 "value.go:33" #[eD 1]).op, none⟩,
 ⟨(opMove (some 6) (.tmp 5) 4 "value.go:33" #[eD 2]).op, none⟩,
 ⟨(opMove (some 7) (.tmp 0) 37 "value.go:33" #[eG 3]).op, (some (3, 6, true))⟩,
 ⟨opCall (f44.orc 0) (some 8) [(.tmp 7), (.func 45)] #[37, 29] 4 "value.go:33" #[eD 4, eC 3, eG 3], (some (3, 6, true))⟩,
 ⟨(opNot (some 9) 4 (.tmp 8) 4 "value.go:33" #[eD 5, eG 3]).op, (some (3, 6, true))⟩,
 ⟨(opPick (some 10) (.tmp 6) (.tmp 9) (.const (Value.bool false)) 4 "value.go:33" #[eD 3, eD 6]).op, none⟩,
 ⟨(opAssign (some 2) (.tmp 10) 4 "value.go:33" #[eD 7, eC 5, eP 0, eP 1, eP 2, eP 3, eP 4, eP 5, eP 6, eP 7]).op, none⟩
 ] (by kernel_rfl)))
 (.live [2] .ret)))

noncomputable def f26 : Fun Tryd.prog where
 id := 26
 fn := Tryd.f26
 hf := Tryd.func26
 hname := by kernel_rfl
 body := f26_b
 hbody := by kernel_rfl
 res := [rTmp 2]
 hres := by kernel_rfl
 n := 11
 hn := by kernel_rfl

/-! ### 42: interlock/bits.Int (3); results 2; slots: 0 n, 1 n, 3 out, 4 u -/
/-- A loop's round; at its head live: 3 out, 4 u -/
noncomputable def f42_l0 : Sim Tryd.prog :=
 (.seq (.seq (.live [3, 4, 8] (.region 3 [
 ⟨(opMove (some 7) (.tmp 4) 84 "bits.go:22" #[]).op, none⟩,
 ⟨(opBin (some 8) .geq 84 (.tmp 7) (.const (Value.int IntKind.u64 128)) 84 4 "bits.go:22" #[eD 0]).op, none⟩
 ] (by kernel_rfl)))
 (.cond (.tmp 8)
 .skip
 (.live [3, 4] (.exit 0))))
 (.seq (.block 1 (.live [3, 4] (.region 5 [
 ⟨(opMove (some 11) (.tmp 3) 46 "bits.go:23" #[]).op, none⟩,
 ⟨(opMove (some 12) (.tmp 4) 84 "bits.go:23" #[]).op, none⟩,
 ⟨(opConvInt (some 13) 84 5 (.tmp 12) (.int .u64) Tryd.underlying84 .u8 Tryd.underlying5 5 "bits.go:23" #[eD 1]).op, none⟩,
 ⟨(opBin (some 14) .or 5 (.tmp 13) (.const (Value.int IntKind.u8 128)) 5 5 "bits.go:23" #[eD 2]).op, none⟩,
 ⟨(opBuildSlice (some 15) 46 1 [(0, (.tmp 14))] 5 1 1 (.int .u8 0) el46 (by kernel_rfl) (by decide) 46 "bits.go:23" #[eD 3]).op, none⟩,
 ⟨(opAppend (some 16) (.tmp 11) (.tmp 15) 46 46 5 1 1 (.int .u8 0) el46 (.slice 5) Tryd.underlying46 rfl 46 "bits.go:23" #[eD 0, eD 4]).op, none⟩,
 ⟨(opAssign (some 3) (.tmp 16) 46 "bits.go:23" #[eD 5, eC 5, eP 0, eP 1, eP 2, eP 3, eP 4, eP 5]).op, none⟩
 ] (by kernel_rfl))))
 (.live [3, 4] (.region 4 [
 ⟨(opMove (some 9) (.tmp 4) 84 "bits.go:22" #[]).op, none⟩,
 ⟨(opBin (some 10) .shr 84 (.tmp 9) (.const (Value.int IntKind.u64 7)) 80 84 "bits.go:22" #[eD 0]).op, none⟩,
 ⟨(opAssign (some 4) (.tmp 10) 84 "bits.go:22" #[eD 1, eP 0, eP 1]).op, none⟩
 ] (by kernel_rfl)))))

/-- What follows a loop. -/
noncomputable def f42_r0 : Sim Tryd.prog :=
 (.seq (.live [2] (.region 6 [
 ⟨(opMove (some 17) (.tmp 3) 46 "bits.go:25" #[]).op, none⟩,
 ⟨(opMove (some 18) (.tmp 4) 84 "bits.go:25" #[]).op, none⟩,
 ⟨(opConvInt (some 19) 84 5 (.tmp 18) (.int .u64) Tryd.underlying84 .u8 Tryd.underlying5 5 "bits.go:25" #[eD 1]).op, none⟩,
 ⟨(opBuildSlice (some 20) 46 1 [(0, (.tmp 19))] 5 1 1 (.int .u8 0) el46 (by kernel_rfl) (by decide) 46 "bits.go:25" #[eD 2]).op, none⟩,
 ⟨(opAppend (some 21) (.tmp 17) (.tmp 20) 46 46 5 1 1 (.int .u8 0) el46 (.slice 5) Tryd.underlying46 rfl 46 "bits.go:25" #[eD 0, eD 3]).op, none⟩,
 ⟨(opAssign (some 2) (.tmp 21) 46 "bits.go:25" #[eD 4, eC 4, eP 0, eP 1, eP 2, eP 3, eP 4]).op, none⟩
 ] (by kernel_rfl)))
 (.live [2] .ret))

noncomputable def f42_b : Sim Tryd.prog :=
 (.seq (.live [0] (.region 0 [
 ⟨(opAssign (some 2) (.const (Value.slice none 0 0)) 46 "bits.go:19" #[]).op, none⟩
 ] (by kernel_rfl)))
 (.seq (.live [0, 3] (.region 1 [
 ⟨(opAssign (some 3) (.const (Value.slice none 0 0)) 46 "bits.go:20" #[]).op, none⟩
 ] (by kernel_rfl)))
 (.seq (.live [3, 4] (.region 2 [
 ⟨(opMove (some 5) (.tmp 0) 3 "bits.go:21" #[]).op, none⟩,
 ⟨opCall (f61.orc 0) (some 6) [(.tmp 5)] #[3] 84 "bits.go:21" #[eD 0], none⟩,
 ⟨(opAssign (some 4) (.tmp 6) 84 "bits.go:21" #[eD 1, eC 1, eP 0, eP 1]).op, none⟩
 ] (by kernel_rfl)))
 (.seq (.block 0 (.loop [3, 4] f42_l0))
 f42_r0))))

noncomputable def f42 : Fun Tryd.prog where
 id := 42
 fn := Tryd.f42
 hf := Tryd.func42
 hname := by kernel_rfl
 body := f42_b
 hbody := by kernel_rfl
 res := [rTmp 2]
 hres := by kernel_rfl
 n := 22
 hn := by kernel_rfl

/-! ### 25: interlock/value.Encode (37); results 2, 3; slots: 0 r, 1 r, 4 out, 5 _, 6 v -/
/-- A loop's round; at its head live: 4 out, 13 , 14 , 15  -/
noncomputable def f25_l0 : Sim Tryd.prog :=
 (.seq (.live [4, 13, 14, 15, 16] (.region 5 [
 ⟨(opBin (some 16) .lss 3 (.tmp 15) (.tmp 14) 3 0 "value.go:84" #[]).op, none⟩
 ] (by kernel_rfl)))
 (.seq (.cond (.tmp 16)
 .skip
 (.live [4] (.exit 0)))
 (.seq (.block 1 (.seq (.live [4, 6, 13, 14, 15] (.region 6 [
 ⟨(opIndexAddrT (some 17) 37 (.tmp 13) (.tmp 15) 24 3 Tryd.underlying37 sz24 0 "value.go:84" #[]).op, none⟩,
 ⟨(opLoadT (.agg [(.int .i64), (.int .i64), .str]) (some 18) 24 (.tmp 17) d24 ud24 3 sz24 (by kernel_rfl) 24 "value.go:84" #[eD 0]).op, none⟩,
 ⟨(opAlloc (some 6) 24 (.agg #[(.int .i64 0), (.int .i64 0), (.string ⟨#[]⟩)]) ze24 0 "value.go:84" #[]).op, none⟩,
 ⟨(opStore none 24 (.tmp 6) (.tmp 18) 3 sz24 0 "value.go:84" #[eD 2, eD 1, eP 0, eP 1, eP 2]).op, none⟩
 ] (by kernel_rfl)))
 (.seq (.live [4, 6, 13, 14, 15] (.region 7 [
 ⟨(opMove (some 19) (.tmp 4) 46 "value.go:85" #[]).op, none⟩,
 ⟨(opFieldAddr (some 20) 24 (.tmp 6) 0 0 1 false fl24_0 (by decide) 0 "value.go:85" #[]).op, none⟩,
 ⟨(opLoadT (.one (.int .i64)) (some 21) 3 (.tmp 20) (.int .i64) Tryd.underlying3 1 sz3 (by kernel_rfl) 3 "value.go:85" #[eD 1]).op, none⟩,
 ⟨opCall (f42.orc 20) (some 22) [(.tmp 21)] #[3] 46 "value.go:85" #[eD 2], none⟩,
 ⟨(opAppend (some 23) (.tmp 19) (.tmp 22) 46 46 5 1 1 (.int .u8 0) el46 (.slice 5) Tryd.underlying46 rfl 46 "value.go:85" #[eD 0, eD 3, eC 3]).op, none⟩,
 ⟨(opAssign (some 4) (.tmp 23) 46 "value.go:85" #[eD 4, eC 4, eP 0, eP 1, eP 2, eP 3, eP 4]).op, none⟩
 ] (by kernel_rfl)))
 (.seq (.live [4, 6, 13, 14, 15, 25] (.region 8 [
 ⟨(opFieldAddr (some 24) 24 (.tmp 6) 0 0 1 false fl24_0 (by decide) 0 "value.go:86" #[]).op, none⟩,
 ⟨(opLoadT (.one (.int .i64)) (some 25) 3 (.tmp 24) (.int .i64) Tryd.underlying3 1 sz3 (by kernel_rfl) 3 "value.go:86" #[eD 0]).op, none⟩
 ] (by kernel_rfl)))
 (.block 2 (.seq (.seq (.live [4, 6, 13, 14, 15, 25, 26] (.region 9 [
 ⟨(opBin (some 27) .eql 3 (.tmp 25) (.const (Value.int IntKind.i64 1)) 3 4 "value.go:87" #[]).op, none⟩,
 ⟨(opAssign (some 26) (.tmp 27) 4 "value.go:87" #[eD 0]).op, none⟩
 ] (by kernel_rfl)))
 (.cond (.tmp 26)
 .skip
 (.live [4, 6, 13, 14, 15, 25, 26] (.region 10 [
 ⟨(opBin (some 28) .eql 3 (.tmp 25) (.const (Value.int IntKind.i64 2)) 3 4 "value.go:87" #[]).op, none⟩,
 ⟨(opAssign (some 26) (.tmp 28) 4 "value.go:87" #[eD 0]).op, none⟩
 ] (by kernel_rfl)))))
 (.cond (.tmp 26)
 (.live [4, 13, 14, 15] (.region 11 [
 ⟨(opMove (some 29) (.tmp 4) 46 "value.go:88" #[]).op, none⟩,
 ⟨(opFieldAddr (some 30) 24 (.tmp 6) 1 1 1 false fl24_1 (by decide) 0 "value.go:88" #[]).op, none⟩,
 ⟨(opLoadT (.one (.int .i64)) (some 31) 3 (.tmp 30) (.int .i64) Tryd.underlying3 1 sz3 (by kernel_rfl) 3 "value.go:88" #[eD 1]).op, none⟩,
 ⟨opCall (f42.orc 20) (some 32) [(.tmp 31)] #[3] 46 "value.go:88" #[eD 2], none⟩,
 ⟨(opAppend (some 33) (.tmp 29) (.tmp 32) 46 46 5 1 1 (.int .u8 0) el46 (.slice 5) Tryd.underlying46 rfl 46 "value.go:88" #[eD 0, eD 3, eC 3]).op, none⟩,
 ⟨(opAssign (some 4) (.tmp 33) 46 "value.go:88" #[eD 4, eC 4, eP 0, eP 1, eP 2, eP 3, eP 4]).op, none⟩
 ] (by kernel_rfl)))
 (.seq (.live [4, 6, 13, 14, 15, 34] (.region 12 [
 ⟨(opBin (some 35) .eql 3 (.tmp 25) (.const (Value.int IntKind.i64 3)) 3 4 "value.go:89" #[]).op, none⟩,
 ⟨(opAssign (some 34) (.tmp 35) 4 "value.go:89" #[eD 0]).op, none⟩
 ] (by kernel_rfl)))
 (.cond (.tmp 34)
 (.live [4, 13, 14, 15] (.region 13 [
 ⟨(opMove (some 36) (.tmp 4) 46 "value.go:90" #[]).op, none⟩,
 ⟨(opFieldAddr (some 37) 24 (.tmp 6) 2 2 1 false fl24_2 (by decide) 0 "value.go:90" #[]).op, none⟩,
 ⟨(opLoadT (.one .str) (some 38) 9 (.tmp 37) .string Tryd.underlying9 1 sz9 (by kernel_rfl) 9 "value.go:90" #[eD 1]).op, none⟩,
 ⟨opCall (Orc.dead 43 Tryd.f43 Tryd.func43 (by kernel_rfl) (by kernel_rfl)) (some 39) [(.tmp 38)] #[9] 46 "value.go:90" #[eD 2], none⟩,
 ⟨(opAppend (some 40) (.tmp 36) (.tmp 39) 46 46 5 1 1 (.int .u8 0) el46 (.slice 5) Tryd.underlying46 rfl 46 "value.go:90" #[eD 0, eD 3, eC 3]).op, none⟩,
 ⟨(opAssign (some 4) (.tmp 40) 46 "value.go:90" #[eD 4, eC 4, eP 0, eP 1, eP 2, eP 3, eP 4]).op, none⟩
 ] (by kernel_rfl)))
 .skip)))))))))
 (.live [4, 13, 14, 15] (.region 14 [
 ⟨(opBin (some 41) .add 3 (.tmp 15) (.const (Value.int IntKind.i64 1)) 3 3 "value.go:84" #[]).op, none⟩,
 ⟨(opMove (some 15) (.tmp 41) 3 "value.go:84" #[eD 0]).op, none⟩
 ] (by kernel_rfl))))))

/-- What follows a loop. -/
noncomputable def f25_r0 : Sim Tryd.prog :=
 (.seq (.live [2, 3] (.region 15 [
 ⟨(opMove (some 42) (.tmp 4) 46 "value.go:93" #[]).op, none⟩,
 ⟨(opAssign (some 2) (.tmp 42) 46 "value.go:93" #[eD 0, eP 0]).op, none⟩,
 ⟨(opAssign (some 3) (.const (Value.bool true)) 4 "value.go:93" #[eC 1, eP 0, eP 1]).op, none⟩
 ] (by kernel_rfl)))
 (.live [2, 3] .ret))

noncomputable def f25_b : Sim Tryd.prog :=
 (.seq (.live [0] (.region 0 [
 ⟨(opAssign (some 2) (.const (Value.slice none 0 0)) 46 "value.go:79" #[]).op, none⟩,
 ⟨(opAssign (some 3) (.const (Value.bool false)) 4 "value.go:79" #[eC 0]).op, none⟩
 ] (by kernel_rfl)))
 (.seq (.seq (.live [0, 9] (.region 1 [
 ⟨(opMove (some 7) (.tmp 0) 37 "value.go:80" #[]).op, none⟩,
 ⟨opCall (f26.orc 0) (some 8) [(.tmp 7)] #[37] 4 "value.go:80" #[eD 0], none⟩,
 ⟨(opNot (some 9) 4 (.tmp 8) 4 "value.go:80" #[eD 1]).op, none⟩
 ] (by kernel_rfl)))
 (.cond (.tmp 9)
 (.seq (.live [2, 3] (.region 2 [
 ⟨(opAssign (some 2) (.const (Value.slice none 0 0)) 46 "value.go:81" #[]).op, none⟩,
 ⟨(opAssign (some 3) (.const (Value.bool false)) 4 "value.go:81" #[eC 0, eP 0]).op, none⟩
 ] (by kernel_rfl)))
 (.live [2, 3] .ret))
 .skip))
 (.seq (.live [0, 4] (.region 3 [
 ⟨(opMove (some 10) (.tmp 0) 37 "value.go:83" #[]).op, none⟩,
 ⟨(opLen (some 11) (.tmp 10) 37 (.slice 24) Tryd.underlying37 3 "value.go:83" #[eD 0]).op, none⟩,
 ⟨opCall (f42.orc 20) (some 12) [(.tmp 11)] #[3] 46 "value.go:83" #[eD 1], none⟩,
 ⟨(opAssign (some 4) (.tmp 12) 46 "value.go:83" #[eD 2, eC 2, eP 0, eP 1, eP 2]).op, none⟩
 ] (by kernel_rfl)))
 (.seq (.seq (.live [4, 13, 14, 15] (.region 4 [
 ⟨(opMove (some 13) (.tmp 0) 37 "value.go:84" #[]).op, none⟩,
 ⟨(opLen (some 14) (.tmp 13) 37 (.slice 24) Tryd.underlying37 3 "value.go:84" #[eD 0]).op, none⟩,
 ⟨(opMove (some 15) (.const (Value.int IntKind.i64 0)) 3 "value.go:84" #[]).op, none⟩
 ] (by kernel_rfl)))
 (.block 0 (.loop [4, 13, 14, 15] f25_l0)))
 f25_r0))))

noncomputable def f25 : Fun Tryd.prog where
 id := 25
 fn := Tryd.f25
 hf := Tryd.func25
 hname := by kernel_rfl
 body := f25_b
 hbody := by kernel_rfl
 res := [rTmp 2, rTmp 3]
 hres := by kernel_rfl
 n := 43
 hn := by kernel_rfl

/-! ### 28: interlock/interlockref00.SameBytes (46, 46); results 4; slots: 0 a, 1 b, 2 a, 3 b, 5 i -/
/-- A loop's round; at its head live: 0 a, 1 b, 5 i -/
noncomputable def f28_l0 : Sim Tryd.prog :=
 (.seq (.seq (.live [0, 1, 5, 14] (.region 4 [
 ⟨(opMove (some 11) (.tmp 5) 3 "ref.go:18" #[]).op, none⟩,
 ⟨(opMove (some 12) (.tmp 0) 46 "ref.go:18" #[]).op, none⟩,
 ⟨(opLen (some 13) (.tmp 12) 46 (.slice 5) Tryd.underlying46 3 "ref.go:18" #[eD 1]).op, none⟩,
 ⟨(opBin (some 14) .lss 3 (.tmp 11) (.tmp 13) 3 4 "ref.go:18" #[eD 0, eD 2]).op, none⟩
 ] (by kernel_rfl)))
 (.cond (.tmp 14)
 .skip
 (.live [] (.exit 0))))
 (.seq (.block 1 (.seq (.live [0, 1, 5, 25] (.draw 6 [
 ⟨.p (opMove (some 17) (.tmp 0) 46 "ref.go:19" #[]), none⟩,
 ⟨.p (opMove (some 18) (.tmp 5) 3 "ref.go:19" #[]), none⟩,
 ⟨.pn (opIndexAddrT (some 19) 46 (.tmp 17) (.tmp 18) 5 1 Tryd.underlying46 sz5 0 "ref.go:19" #[eD 0, eD 1]) opIndexAddrT_nat, none⟩,
 ⟨.qn (opLoadT (.one (.int .u8)) (some 20) 5 (.tmp 19) (.int .u8) Tryd.underlying5 1 sz5 (by kernel_rfl) 5 "ref.go:19" #[eD 2]) opLoadT_nat, none⟩,
 ⟨.p (opMove (some 21) (.tmp 1) 46 "ref.go:19" #[]), none⟩,
 ⟨.p (opMove (some 22) (.tmp 5) 3 "ref.go:19" #[]), none⟩,
 ⟨.pn (opIndexAddrT (some 23) 46 (.tmp 21) (.tmp 22) 5 1 Tryd.underlying46 sz5 0 "ref.go:19" #[eD 4, eD 5]) opIndexAddrT_nat, none⟩,
 ⟨.qn (opLoadT (.one (.int .u8)) (some 24) 5 (.tmp 23) (.int .u8) Tryd.underlying5 1 sz5 (by kernel_rfl) 5 "ref.go:19" #[eD 6]) opLoadT_nat, none⟩,
 ⟨.pn (opBin (some 25) .neq 5 (.tmp 20) (.tmp 24) 5 4 "ref.go:19" #[eD 3, eD 7]) opBin_nat, none⟩
 ] mixed (by kernel_rfl)))
 (.cond (.tmp 25)
 (.seq (.live [4] (.region 7 [
 ⟨(opAssign (some 4) (.const (Value.bool false)) 4 "ref.go:20" #[]).op, none⟩
 ] (by kernel_rfl)))
 (.live [4] .ret))
 .skip)))
 (.live [0, 1, 5] (.region 5 [
 ⟨(opMove (some 15) (.tmp 5) 3 "ref.go:18" #[]).op, none⟩,
 ⟨(opBin (some 16) .add 3 (.tmp 15) (.const (Value.int IntKind.i64 1)) 3 3 "ref.go:18" #[eD 0]).op, none⟩,
 ⟨(opAssign (some 5) (.tmp 16) 3 "ref.go:18" #[eD 1, eP 0, eP 1]).op, none⟩
 ] (by kernel_rfl)))))

/-- What follows a loop. -/
noncomputable def f28_r0 : Sim Tryd.prog :=
 (.seq (.live [4] (.region 8 [
 ⟨(opAssign (some 4) (.const (Value.bool true)) 4 "ref.go:23" #[]).op, none⟩
 ] (by kernel_rfl)))
 (.live [4] .ret))

noncomputable def f28_b : Sim Tryd.prog :=
 (.seq (.live [0, 1] (.region 0 [
 ⟨(opAssign (some 4) (.const (Value.bool false)) 4 "ref.go:14" #[]).op, none⟩
 ] (by kernel_rfl)))
 (.seq (.seq (.live [0, 1, 10] (.region 1 [
 ⟨(opMove (some 6) (.tmp 0) 46 "ref.go:15" #[]).op, none⟩,
 ⟨(opLen (some 7) (.tmp 6) 46 (.slice 5) Tryd.underlying46 3 "ref.go:15" #[eD 0]).op, none⟩,
 ⟨(opMove (some 8) (.tmp 1) 46 "ref.go:15" #[]).op, none⟩,
 ⟨(opLen (some 9) (.tmp 8) 46 (.slice 5) Tryd.underlying46 3 "ref.go:15" #[eD 2]).op, none⟩,
 ⟨(opBin (some 10) .neq 3 (.tmp 7) (.tmp 9) 3 4 "ref.go:15" #[eD 1, eD 3]).op, none⟩
 ] (by kernel_rfl)))
 (.cond (.tmp 10)
 (.seq (.live [4] (.region 2 [
 ⟨(opAssign (some 4) (.const (Value.bool false)) 4 "ref.go:16" #[]).op, none⟩
 ] (by kernel_rfl)))
 (.live [4] .ret))
 .skip))
 (.seq (.seq (.live [0, 1, 5] (.region 3 [
 ⟨(opAssign (some 5) (.const (Value.int IntKind.i64 0)) 3 "ref.go:18" #[]).op, none⟩
 ] (by kernel_rfl)))
 (.block 0 (.loop [0, 1, 5] f28_l0)))
 f28_r0)))

noncomputable def f28 : Fun Tryd.prog where
 id := 28
 fn := Tryd.f28
 hf := Tryd.func28
 hname := by kernel_rfl
 body := f28_b
 hbody := by kernel_rfl
 res := [rTmp 4]
 hres := by kernel_rfl
 n := 26
 hn := by kernel_rfl

/-! ### 21: interlock/value.Order (24, 24); results 4; slots: 0 a, 1 b, 2 a, 3 b -/
noncomputable def f21_b : Sim Tryd.prog :=
 (.seq (.live [2, 3] (.region 0 [
 ⟨(opBoxF (some 2) 24 (.tmp 0) 0 "value.go:37" #[]).op, none⟩,
 ⟨(opBoxF (some 3) 24 (.tmp 1) 0 "value.go:37" #[]).op, none⟩,
 ⟨(opAssign (some 4) (.const (Value.int IntKind.i64 0)) 3 "value.go:37" #[]).op, none⟩
 ] (by kernel_rfl)))
 (.seq (.live [4] (.draw 1 [
 ⟨.pn (opFieldAddr (some 5) 24 (.tmp 2) 0 0 1 false fl24_0 (by decide) 0 "value.go:38" #[]) opFieldAddr_nat, none⟩,
 ⟨.qn (opLoadT (.one (.int .i64)) (some 6) 3 (.tmp 5) (.int .i64) Tryd.underlying3 1 sz3 (by kernel_rfl) 3 "value.go:38" #[eD 0]) opLoadT_nat, none⟩,
 ⟨.pn (opFieldAddr (some 7) 24 (.tmp 3) 0 0 1 false fl24_0 (by decide) 0 "value.go:38" #[]) opFieldAddr_nat, none⟩,
 ⟨.qn (opLoadT (.one (.int .i64)) (some 8) 3 (.tmp 7) (.int .i64) Tryd.underlying3 1 sz3 (by kernel_rfl) 3 "value.go:38" #[eD 2]) opLoadT_nat, none⟩,
 ⟨.pn (opCallP p37 (some 9) [(.tmp 6), (.tmp 8)] #[3, 3] 3 "value.go:38" #[eD 1, eD 3]) (opCallP_nat p37_nat), none⟩,
 ⟨.pn (opFieldAddr (some 10) 24 (.tmp 2) 1 1 1 false fl24_1 (by decide) 0 "value.go:38" #[]) opFieldAddr_nat, none⟩,
 ⟨.qn (opLoadT (.one (.int .i64)) (some 11) 3 (.tmp 10) (.int .i64) Tryd.underlying3 1 sz3 (by kernel_rfl) 3 "value.go:38" #[eD 5]) opLoadT_nat, none⟩,
 ⟨.pn (opFieldAddr (some 12) 24 (.tmp 3) 1 1 1 false fl24_1 (by decide) 0 "value.go:38" #[]) opFieldAddr_nat, none⟩,
 ⟨.qn (opLoadT (.one (.int .i64)) (some 13) 3 (.tmp 12) (.int .i64) Tryd.underlying3 1 sz3 (by kernel_rfl) 3 "value.go:38" #[eD 7]) opLoadT_nat, none⟩,
 ⟨.pn (opCallP p37 (some 14) [(.tmp 11), (.tmp 13)] #[3, 3] 3 "value.go:38" #[eD 6, eD 8, eC 4]) (opCallP_nat p37_nat), none⟩,
 ⟨.pn (opFieldAddr (some 15) 24 (.tmp 2) 2 2 1 false fl24_2 (by decide) 0 "value.go:38" #[]) opFieldAddr_nat, none⟩,
 ⟨.qn (opLoadT (.one .str) (some 16) 9 (.tmp 15) .string Tryd.underlying9 1 sz9 (by kernel_rfl) 9 "value.go:38" #[eD 10]) opLoadT_nat, none⟩,
 ⟨.pn (opFieldAddr (some 17) 24 (.tmp 3) 2 2 1 false fl24_2 (by decide) 0 "value.go:38" #[]) opFieldAddr_nat, none⟩,
 ⟨.qn (opLoadT (.one .str) (some 18) 9 (.tmp 17) .string Tryd.underlying9 1 sz9 (by kernel_rfl) 9 "value.go:38" #[eD 12]) opLoadT_nat, none⟩,
 ⟨.pn (opCallP p38 (some 19) [(.tmp 16), (.tmp 18)] #[9, 9] 3 "value.go:38" #[eD 11, eD 13, eC 9]) (opCallP_nat p38_nat), none⟩,
 ⟨.p (opBuildSlice (some 20) 82 3 [(0, (.tmp 9)), (1, (.tmp 14)), (2, (.tmp 19))] 3 1 8 (.int .i64 0) el82 (by kernel_rfl) (by decide) 82 "value.go:38" #[eD 4, eD 9, eD 14]), none⟩,
 ⟨.pn (opCallP p36 (some 21) [(.tmp 20)] #[82] 3 "value.go:38" #[eD 15, eC 14]) (opCallP_nat p36_nat), none⟩,
 ⟨.p (opAssign (some 4) (.tmp 21) 3 "value.go:38" #[eD 16, eC 16, eP 0, eP 1, eP 2, eP 3, eP 4, eP 5, eP 6, eP 7, eP 8, eP 9, eP 10, eP 11, eP 12, eP 13, eP 14, eP 15, eP 16]), none⟩
 ] mixed (by kernel_rfl)))
 (.live [4] .ret)))

noncomputable def f21 : Fun Tryd.prog where
 id := 21
 fn := Tryd.f21
 hf := Tryd.func21
 hname := by kernel_rfl
 body := f21_b
 hbody := by kernel_rfl
 res := [rTmp 4]
 hres := by kernel_rfl
 n := 22
 hn := by kernel_rfl

/-! ### 76: internal/stringslite.HasPrefix (9, 9); results 4; slots: 0 s, 1 prefix, 2 s, 3 prefix -/
noncomputable def f76_b : Sim Tryd.prog :=
 (.seq (.live [0, 1] (.region 0 [
 ⟨(opAssign (some 4) (.const (Value.bool false)) 4 "strings.go:16" #[]).op, none⟩
 ] (by kernel_rfl)))
 (.seq (.live [4] (.region 1 [
 ⟨(opMove (some 5) (.tmp 0) 9 "strings.go:17" #[]).op, none⟩,
 ⟨(opLen (some 6) (.tmp 5) 9 .string Tryd.underlying9 3 "strings.go:17" #[eD 0]).op, none⟩,
 ⟨(opMove (some 7) (.tmp 1) 9 "strings.go:17" #[]).op, none⟩,
 ⟨(opLen (some 8) (.tmp 7) 9 .string Tryd.underlying9 3 "strings.go:17" #[eD 2]).op, none⟩,
 ⟨(opBin (some 9) .geq 3 (.tmp 6) (.tmp 8) 3 4 "strings.go:17" #[eD 1, eD 3]).op, none⟩,
 ⟨(opMove (some 10) (.tmp 9) 4 "strings.go:17" #[eD 4]).op, none⟩,
 ⟨(opMove (some 11) (.tmp 0) 9 "strings.go:17" #[eG 5]).op, (some (5, 10, true))⟩,
 ⟨(opMove (some 12) (.tmp 1) 9 "strings.go:17" #[eG 5]).op, (some (5, 10, true))⟩,
 ⟨(opLen (some 13) (.tmp 12) 9 .string Tryd.underlying9 3 "strings.go:17" #[eD 7, eG 5]).op, (some (5, 10, true))⟩,
 ⟨(opSliceStr (some 14) 9 (.tmp 11) none (some (.tmp 13)) Tryd.underlying9 9 "strings.go:17" #[eD 6, eD 8, eG 5]).op, (some (5, 10, true))⟩,
 ⟨(opMove (some 15) (.tmp 1) 9 "strings.go:17" #[eG 5]).op, (some (5, 10, true))⟩,
 ⟨(opBinS (some 16) .eql 9 (.tmp 14) (.tmp 15) 9 4 "strings.go:17" #[eD 9, eD 10, eG 5]).op, (some (5, 10, true))⟩,
 ⟨(opPick (some 17) (.tmp 10) (.tmp 16) (.const (Value.bool false)) 4 "strings.go:17" #[eD 5, eD 11]).op, none⟩,
 ⟨(opAssign (some 4) (.tmp 17) 4 "strings.go:17" #[eD 12, eC 5, eP 0, eP 1, eP 2, eP 3, eP 4, eP 5, eP 6, eP 7, eP 8, eP 9, eP 10, eP 11, eP 12]).op, none⟩
 ] (by kernel_rfl)))
 (.live [4] .ret)))

noncomputable def f76 : Fun Tryd.prog where
 id := 76
 fn := Tryd.f76
 hf := Tryd.func76
 hname := by kernel_rfl
 body := f76_b
 hbody := by kernel_rfl
 res := [rTmp 4]
 hres := by kernel_rfl
 n := 18
 hn := by kernel_rfl

/-! ### 67: internal/stringslite.CutPrefix (9, 9); results 4, 5; slots: 0 s, 1 prefix, 2 s, 3 prefix, 4 after, 5 found -/
noncomputable def f67_b : Sim Tryd.prog :=
 (.seq (.live [0, 1] (.region 0 [
 ⟨(opAssign (some 4) (.const (Value.string { data := #[] })) 9 "strings.go:87" #[]).op, none⟩,
 ⟨(opAssign (some 5) (.const (Value.bool false)) 4 "strings.go:87" #[eC 0]).op, none⟩
 ] (by kernel_rfl)))
 (.seq (.seq (.live [0, 1, 9] (.region 1 [
 ⟨(opMove (some 6) (.tmp 0) 9 "strings.go:88" #[]).op, none⟩,
 ⟨(opMove (some 7) (.tmp 1) 9 "strings.go:88" #[]).op, none⟩,
 ⟨opCall (f76.orc 0) (some 8) [(.tmp 6), (.tmp 7)] #[9, 9] 4 "strings.go:88" #[eD 0, eD 1], none⟩,
 ⟨(opNot (some 9) 4 (.tmp 8) 4 "strings.go:88" #[eD 2]).op, none⟩
 ] (by kernel_rfl)))
 (.cond (.tmp 9)
 (.seq (.live [4, 5] (.region 2 [
 ⟨(opMove (some 10) (.tmp 0) 9 "strings.go:89" #[]).op, none⟩,
 ⟨(opAssign (some 4) (.tmp 10) 9 "strings.go:89" #[eD 0, eP 0]).op, none⟩,
 ⟨(opAssign (some 5) (.const (Value.bool false)) 4 "strings.go:89" #[eC 1, eP 0, eP 1]).op, none⟩
 ] (by kernel_rfl)))
 (.live [4, 5] .ret))
 .skip))
 (.seq (.live [4, 5] (.region 3 [
 ⟨(opMove (some 11) (.tmp 0) 9 "strings.go:91" #[]).op, none⟩,
 ⟨(opMove (some 12) (.tmp 1) 9 "strings.go:91" #[]).op, none⟩,
 ⟨(opLen (some 13) (.tmp 12) 9 .string Tryd.underlying9 3 "strings.go:91" #[eD 1]).op, none⟩,
 ⟨(opSliceStr (some 14) 9 (.tmp 11) (some (.tmp 13)) none Tryd.underlying9 9 "strings.go:91" #[eD 0, eD 2]).op, none⟩,
 ⟨(opAssign (some 4) (.tmp 14) 9 "strings.go:91" #[eD 3, eP 0, eP 1, eP 2, eP 3]).op, none⟩,
 ⟨(opAssign (some 5) (.const (Value.bool true)) 4 "strings.go:91" #[eC 4, eP 0, eP 1, eP 2, eP 3, eP 4]).op, none⟩
 ] (by kernel_rfl)))
 (.live [4, 5] .ret))))

noncomputable def f67 : Fun Tryd.prog where
 id := 67
 fn := Tryd.f67
 hf := Tryd.func67
 hname := by kernel_rfl
 body := f67_b
 hbody := by kernel_rfl
 res := [rTmp 4, rTmp 5]
 hres := by kernel_rfl
 n := 15
 hn := by kernel_rfl

/-! ### 50: strings.CutPrefix (9, 9); results 4, 5; slots: 0 s, 1 prefix, 2 s, 3 prefix, 4 after, 5 found -/
noncomputable def f50_b : Sim Tryd.prog :=
 (.seq (.live [0, 1] (.region 0 [
 ⟨(opAssign (some 4) (.const (Value.string { data := #[] })) 9 "strings.go:1279" #[]).op, none⟩,
 ⟨(opAssign (some 5) (.const (Value.bool false)) 4 "strings.go:1279" #[eC 0]).op, none⟩
 ] (by kernel_rfl)))
 (.seq (.live [4, 5] (.region 1 [
 ⟨(opMove (some 6) (.tmp 0) 9 "strings.go:1280" #[]).op, none⟩,
 ⟨(opMove (some 7) (.tmp 1) 9 "strings.go:1280" #[]).op, none⟩,
 ⟨opCall (f67.orc 0) (some 8) [(.tmp 6), (.tmp 7)] #[9, 9] 69 "strings.go:1280" #[eD 0, eD 1], none⟩,
 ⟨(opExtract (some 9) (.tmp 8) 0 9 "strings.go:1280" #[eD 2]).op, none⟩,
 ⟨(opExtract (some 10) (.tmp 8) 1 4 "strings.go:1280" #[eD 2]).op, none⟩,
 ⟨(opAssign (some 4) (.tmp 9) 9 "strings.go:1280" #[eD 3, eC 2, eP 0, eP 1, eP 2, eP 3, eP 4]).op, none⟩,
 ⟨(opAssign (some 5) (.tmp 10) 4 "strings.go:1280" #[eD 4, eC 5, eP 0, eP 1, eP 2, eP 3, eP 4, eP 5]).op, none⟩
 ] (by kernel_rfl)))
 (.live [4, 5] .ret)))

noncomputable def f50 : Fun Tryd.prog where
 id := 50
 fn := Tryd.f50
 hf := Tryd.func50
 hname := by kernel_rfl
 body := f50_b
 hbody := by kernel_rfl
 res := [rTmp 4, rTmp 5]
 hres := by kernel_rfl
 n := 11
 hn := by kernel_rfl

/-! ### 77: internal/stringslite.HasSuffix (9, 9); results 4; slots: 0 s, 1 suffix, 2 s, 3 suffix -/
noncomputable def f77_b : Sim Tryd.prog :=
 (.seq (.live [0, 1] (.region 0 [
 ⟨(opAssign (some 4) (.const (Value.bool false)) 4 "strings.go:20" #[]).op, none⟩
 ] (by kernel_rfl)))
 (.seq (.live [4] (.region 1 [
 ⟨(opMove (some 5) (.tmp 0) 9 "strings.go:21" #[]).op, none⟩,
 ⟨(opLen (some 6) (.tmp 5) 9 .string Tryd.underlying9 3 "strings.go:21" #[eD 0]).op, none⟩,
 ⟨(opMove (some 7) (.tmp 1) 9 "strings.go:21" #[]).op, none⟩,
 ⟨(opLen (some 8) (.tmp 7) 9 .string Tryd.underlying9 3 "strings.go:21" #[eD 2]).op, none⟩,
 ⟨(opBin (some 9) .geq 3 (.tmp 6) (.tmp 8) 3 4 "strings.go:21" #[eD 1, eD 3]).op, none⟩,
 ⟨(opMove (some 10) (.tmp 9) 4 "strings.go:21" #[eD 4]).op, none⟩,
 ⟨(opMove (some 11) (.tmp 0) 9 "strings.go:21" #[eG 5]).op, (some (5, 10, true))⟩,
 ⟨(opMove (some 12) (.tmp 0) 9 "strings.go:21" #[eG 5]).op, (some (5, 10, true))⟩,
 ⟨(opLen (some 13) (.tmp 12) 9 .string Tryd.underlying9 3 "strings.go:21" #[eD 7, eG 5]).op, (some (5, 10, true))⟩,
 ⟨(opMove (some 14) (.tmp 1) 9 "strings.go:21" #[eG 5]).op, (some (5, 10, true))⟩,
 ⟨(opLen (some 15) (.tmp 14) 9 .string Tryd.underlying9 3 "strings.go:21" #[eD 9, eG 5]).op, (some (5, 10, true))⟩,
 ⟨(opBin (some 16) .sub 3 (.tmp 13) (.tmp 15) 3 3 "strings.go:21" #[eD 8, eD 10, eG 5]).op, (some (5, 10, true))⟩,
 ⟨(opSliceStr (some 17) 9 (.tmp 11) (some (.tmp 16)) none Tryd.underlying9 9 "strings.go:21" #[eD 6, eD 11, eG 5]).op, (some (5, 10, true))⟩,
 ⟨(opMove (some 18) (.tmp 1) 9 "strings.go:21" #[eG 5]).op, (some (5, 10, true))⟩,
 ⟨(opBinS (some 19) .eql 9 (.tmp 17) (.tmp 18) 9 4 "strings.go:21" #[eD 12, eD 13, eG 5]).op, (some (5, 10, true))⟩,
 ⟨(opPick (some 20) (.tmp 10) (.tmp 19) (.const (Value.bool false)) 4 "strings.go:21" #[eD 5, eD 14]).op, none⟩,
 ⟨(opAssign (some 4) (.tmp 20) 4 "strings.go:21" #[eD 15, eC 5, eP 0, eP 1, eP 2, eP 3, eP 4, eP 5, eP 6, eP 7, eP 8, eP 9, eP 10, eP 11, eP 12, eP 13, eP 14, eP 15]).op, none⟩
 ] (by kernel_rfl)))
 (.live [4] .ret)))

noncomputable def f77 : Fun Tryd.prog where
 id := 77
 fn := Tryd.f77
 hf := Tryd.func77
 hname := by kernel_rfl
 body := f77_b
 hbody := by kernel_rfl
 res := [rTmp 4]
 hres := by kernel_rfl
 n := 21
 hn := by kernel_rfl

/-! ### 68: internal/stringslite.CutSuffix (9, 9); results 4, 5; slots: 0 s, 1 suffix, 2 s, 3 suffix, 4 before, 5 found -/
noncomputable def f68_b : Sim Tryd.prog :=
 (.seq (.live [0, 1] (.region 0 [
 ⟨(opAssign (some 4) (.const (Value.string { data := #[] })) 9 "strings.go:94" #[]).op, none⟩,
 ⟨(opAssign (some 5) (.const (Value.bool false)) 4 "strings.go:94" #[eC 0]).op, none⟩
 ] (by kernel_rfl)))
 (.seq (.seq (.live [0, 1, 9] (.region 1 [
 ⟨(opMove (some 6) (.tmp 0) 9 "strings.go:95" #[]).op, none⟩,
 ⟨(opMove (some 7) (.tmp 1) 9 "strings.go:95" #[]).op, none⟩,
 ⟨opCall (f77.orc 0) (some 8) [(.tmp 6), (.tmp 7)] #[9, 9] 4 "strings.go:95" #[eD 0, eD 1], none⟩,
 ⟨(opNot (some 9) 4 (.tmp 8) 4 "strings.go:95" #[eD 2]).op, none⟩
 ] (by kernel_rfl)))
 (.cond (.tmp 9)
 (.seq (.live [4, 5] (.region 2 [
 ⟨(opMove (some 10) (.tmp 0) 9 "strings.go:96" #[]).op, none⟩,
 ⟨(opAssign (some 4) (.tmp 10) 9 "strings.go:96" #[eD 0, eP 0]).op, none⟩,
 ⟨(opAssign (some 5) (.const (Value.bool false)) 4 "strings.go:96" #[eC 1, eP 0, eP 1]).op, none⟩
 ] (by kernel_rfl)))
 (.live [4, 5] .ret))
 .skip))
 (.seq (.live [4, 5] (.region 3 [
 ⟨(opMove (some 11) (.tmp 0) 9 "strings.go:98" #[]).op, none⟩,
 ⟨(opMove (some 12) (.tmp 0) 9 "strings.go:98" #[]).op, none⟩,
 ⟨(opLen (some 13) (.tmp 12) 9 .string Tryd.underlying9 3 "strings.go:98" #[eD 1]).op, none⟩,
 ⟨(opMove (some 14) (.tmp 1) 9 "strings.go:98" #[]).op, none⟩,
 ⟨(opLen (some 15) (.tmp 14) 9 .string Tryd.underlying9 3 "strings.go:98" #[eD 3]).op, none⟩,
 ⟨(opBin (some 16) .sub 3 (.tmp 13) (.tmp 15) 3 3 "strings.go:98" #[eD 2, eD 4]).op, none⟩,
 ⟨(opSliceStr (some 17) 9 (.tmp 11) none (some (.tmp 16)) Tryd.underlying9 9 "strings.go:98" #[eD 0, eD 5]).op, none⟩,
 ⟨(opAssign (some 4) (.tmp 17) 9 "strings.go:98" #[eD 6, eP 0, eP 1, eP 2, eP 3, eP 4, eP 5, eP 6]).op, none⟩,
 ⟨(opAssign (some 5) (.const (Value.bool true)) 4 "strings.go:98" #[eC 7, eP 0, eP 1, eP 2, eP 3, eP 4, eP 5, eP 6, eP 7]).op, none⟩
 ] (by kernel_rfl)))
 (.live [4, 5] .ret))))

noncomputable def f68 : Fun Tryd.prog where
 id := 68
 fn := Tryd.f68
 hf := Tryd.func68
 hname := by kernel_rfl
 body := f68_b
 hbody := by kernel_rfl
 res := [rTmp 4, rTmp 5]
 hres := by kernel_rfl
 n := 18
 hn := by kernel_rfl

/-! ### 51: strings.CutSuffix (9, 9); results 4, 5; slots: 0 s, 1 suffix, 2 s, 3 suffix, 4 before, 5 found -/
noncomputable def f51_b : Sim Tryd.prog :=
 (.seq (.live [0, 1] (.region 0 [
 ⟨(opAssign (some 4) (.const (Value.string { data := #[] })) 9 "strings.go:1287" #[]).op, none⟩,
 ⟨(opAssign (some 5) (.const (Value.bool false)) 4 "strings.go:1287" #[eC 0]).op, none⟩
 ] (by kernel_rfl)))
 (.seq (.live [4, 5] (.region 1 [
 ⟨(opMove (some 6) (.tmp 0) 9 "strings.go:1288" #[]).op, none⟩,
 ⟨(opMove (some 7) (.tmp 1) 9 "strings.go:1288" #[]).op, none⟩,
 ⟨opCall (f68.orc 0) (some 8) [(.tmp 6), (.tmp 7)] #[9, 9] 69 "strings.go:1288" #[eD 0, eD 1], none⟩,
 ⟨(opExtract (some 9) (.tmp 8) 0 9 "strings.go:1288" #[eD 2]).op, none⟩,
 ⟨(opExtract (some 10) (.tmp 8) 1 4 "strings.go:1288" #[eD 2]).op, none⟩,
 ⟨(opAssign (some 4) (.tmp 9) 9 "strings.go:1288" #[eD 3, eC 2, eP 0, eP 1, eP 2, eP 3, eP 4]).op, none⟩,
 ⟨(opAssign (some 5) (.tmp 10) 4 "strings.go:1288" #[eD 4, eC 5, eP 0, eP 1, eP 2, eP 3, eP 4, eP 5]).op, none⟩
 ] (by kernel_rfl)))
 (.live [4, 5] .ret)))

noncomputable def f51 : Fun Tryd.prog where
 id := 51
 fn := Tryd.f51
 hf := Tryd.func51
 hname := by kernel_rfl
 body := f51_b
 hbody := by kernel_rfl
 res := [rTmp 4, rTmp 5]
 hres := by kernel_rfl
 n := 11
 hn := by kernel_rfl

/-! ### 29: interlock/value.parse (9); results 2, 3; slots: 0 s, 1 s, 4 inner, 5 ok, 6 inner, 7 ok, 8 text, 9 n, 10 e -/
noncomputable def f29_b : Sim Tryd.prog :=
 (.seq (.live [0, 2] (.region 0 [
 ⟨(opAlloc (some 2) 24 (.agg #[(.int .i64 0), (.int .i64 0), (.string ⟨#[]⟩)]) ze24 0 "value.go:174" #[]).op, none⟩,
 ⟨(opAssign (some 3) (.const (Value.bool false)) 4 "value.go:174" #[]).op, none⟩
 ] (by kernel_rfl)))
 (.seq (.seq (.live [0, 2, 4, 5] (.region 1 [
 ⟨(opMove (some 12) (.tmp 0) 9 "value.go:175" #[]).op, none⟩,
 ⟨opCall (f50.orc 0) (some 13) [(.tmp 12), (.const (Value.string { data := #[34] }))] #[9, 9] 69 "value.go:175" #[eD 0], none⟩,
 ⟨(opMove (some 11) (.tmp 13) 69 "value.go:175" #[eD 1]).op, none⟩,
 ⟨(opExtract (some 14) (.tmp 11) 0 9 "value.go:175" #[eD 2]).op, none⟩,
 ⟨(opExtract (some 15) (.tmp 11) 1 4 "value.go:175" #[eD 2, { on := 5, ground := (Ground.gcOnly Departure.lateStores) }]).op, none⟩,
 ⟨(opAssign (some 4) (.tmp 14) 9 "value.go:175" #[eD 3, eC 1, eP 0, eP 1, eP 2, eP 3, { on := 4, ground := (Ground.textOnly Departure.lateStores) }]).op, none⟩,
 ⟨(opAssign (some 5) (.tmp 15) 4 "value.go:175" #[eD 4, eC 5, eP 0, eP 1, eP 2, eP 3, eP 4, eP 5]).op, none⟩
 ] (by kernel_rfl)))
 (.seq (.live [0, 2, 4, 16] (.region 2 [
 ⟨(opMove (some 16) (.tmp 5) 4 "value.go:175" #[]).op, none⟩
 ] (by kernel_rfl)))
 (.cond (.tmp 16)
 (.seq (.live [2, 6, 7] (.region 3 [
 ⟨(opMove (some 18) (.tmp 4) 9 "value.go:176" #[]).op, none⟩,
 ⟨opCall (f51.orc 0) (some 19) [(.tmp 18), (.const (Value.string { data := #[34] }))] #[9, 9] 69 "value.go:176" #[eD 0], none⟩,
 ⟨(opMove (some 17) (.tmp 19) 69 "value.go:176" #[eD 1]).op, none⟩,
 ⟨(opExtract (some 20) (.tmp 17) 0 9 "value.go:176" #[eD 2]).op, none⟩,
 ⟨(opExtract (some 21) (.tmp 17) 1 4 "value.go:176" #[eD 2, { on := 5, ground := (Ground.gcOnly Departure.lateStores) }]).op, none⟩,
 ⟨(opAssign (some 6) (.tmp 20) 9 "value.go:176" #[eD 3, eC 1, eP 0, eP 1, eP 2, eP 3, { on := 4, ground := (Ground.textOnly Departure.lateStores) }]).op, none⟩,
 ⟨(opAssign (some 7) (.tmp 21) 4 "value.go:176" #[eD 4, eC 5, eP 0, eP 1, eP 2, eP 3, eP 4, eP 5]).op, none⟩
 ] (by kernel_rfl)))
 (.seq (.seq (.live [2, 6, 23] (.region 4 [
 ⟨(opMove (some 22) (.tmp 7) 4 "value.go:177" #[]).op, none⟩,
 ⟨(opNot (some 23) 4 (.tmp 22) 4 "value.go:177" #[eD 0]).op, none⟩
 ] (by kernel_rfl)))
 (.cond (.tmp 23)
 (.seq (.live [2, 3] (.region 5 [
 ⟨(opBuild (some 24) 24 #[(.int .i64 0), (.int .i64 0), (.string ⟨#[]⟩)] [] ze24 (by kernel_rfl) 24 "value.go:178" #[]).op, none⟩,
 ⟨(opStore none 24 (.tmp 2) (.tmp 24) 3 sz24 0 "value.go:178" #[eD 0, eP 0]).op, none⟩,
 ⟨(opAssign (some 3) (.const (Value.bool false)) 4 "value.go:178" #[eC 1, eP 0, eP 1]).op, none⟩
 ] (by kernel_rfl)))
 (.live [2, 3] .ret))
 .skip))
 (.seq (.live [2, 7, 8] (.region 6 [
 ⟨(opMove (some 26) (.tmp 6) 9 "value.go:180" #[]).op, none⟩,
 ⟨(opCallP p52 (some 27) [(.tmp 26)] #[9] 69 "value.go:180" #[eD 0]).op, none⟩,
 ⟨(opMove (some 25) (.tmp 27) 69 "value.go:180" #[eD 1]).op, none⟩,
 ⟨(opExtract (some 28) (.tmp 25) 0 9 "value.go:180" #[eD 2]).op, none⟩,
 ⟨(opExtract (some 29) (.tmp 25) 1 4 "value.go:180" #[eD 2, { on := 5, ground := (Ground.gcOnly Departure.lateStores) }]).op, none⟩,
 ⟨(opAssign (some 8) (.tmp 28) 9 "value.go:180" #[eD 3, eC 1, eP 0, eP 1, eP 2, eP 3, { on := 4, ground := (Ground.textOnly Departure.lateStores) }]).op, none⟩,
 ⟨(opAssign (some 7) (.tmp 29) 4 "value.go:180" #[eD 4, eC 5, eP 0, eP 1, eP 2, eP 3, eP 4, eP 5]).op, none⟩
 ] (by kernel_rfl)))
 (.seq (.live [2, 3] (.region 7 [
 ⟨(opMove (some 30) (.tmp 8) 9 "value.go:181" #[]).op, none⟩,
 ⟨(opBuild (some 31) 24 #[(.int .i64 0), (.int .i64 0), (.string ⟨#[]⟩)] [(0, 0, 1, (.const (Value.int IntKind.i64 3))), (2, 2, 1, (.tmp 30))] ze24 (by kernel_rfl) 24 "value.go:181" #[eD 0]).op, none⟩,
 ⟨(opMove (some 32) (.tmp 7) 4 "value.go:181" #[{ on := 3, ground := (Ground.gcOnly Departure.lateStores) }]).op, none⟩,
 ⟨(opStore none 24 (.tmp 2) (.tmp 31) 3 sz24 0 "value.go:181" #[eD 1, eP 0, eP 1, { on := 2, ground := (Ground.textOnly Departure.lateStores) }]).op, none⟩,
 ⟨(opAssign (some 3) (.tmp 32) 4 "value.go:181" #[eD 2, eC 3, eP 0, eP 1, eP 2, eP 3]).op, none⟩
 ] (by kernel_rfl)))
 (.live [2, 3] .ret)))))
 .skip)))
 (.seq (.seq (.live [0, 2, 33] (.region 8 [
 ⟨(opMove (some 33) (.tmp 0) 9 "value.go:183" #[]).op, none⟩
 ] (by kernel_rfl)))
 (.block 0 (.seq (.live [0, 2, 33, 34] (.region 9 [
 ⟨(opBinS (some 35) .eql 9 (.tmp 33) (.const (Value.string { data := #[110, 117, 108, 108] })) 9 4 "value.go:184" #[]).op, none⟩,
 ⟨(opAssign (some 34) (.tmp 35) 4 "value.go:184" #[eD 0]).op, none⟩
 ] (by kernel_rfl)))
 (.cond (.tmp 34)
 (.seq (.live [2, 3] (.region 10 [
 ⟨(opBuild (some 36) 24 #[(.int .i64 0), (.int .i64 0), (.string ⟨#[]⟩)] [] ze24 (by kernel_rfl) 24 "value.go:185" #[]).op, none⟩,
 ⟨(opStore none 24 (.tmp 2) (.tmp 36) 3 sz24 0 "value.go:185" #[eD 0, eP 0]).op, none⟩,
 ⟨(opAssign (some 3) (.const (Value.bool true)) 4 "value.go:185" #[eC 1, eP 0, eP 1]).op, none⟩
 ] (by kernel_rfl)))
 (.live [2, 3] .ret))
 (.seq (.live [0, 2, 33, 37] (.region 11 [
 ⟨(opBinS (some 38) .eql 9 (.tmp 33) (.const (Value.string { data := #[102, 97, 108, 115, 101] })) 9 4 "value.go:186" #[]).op, none⟩,
 ⟨(opAssign (some 37) (.tmp 38) 4 "value.go:186" #[eD 0]).op, none⟩
 ] (by kernel_rfl)))
 (.cond (.tmp 37)
 (.seq (.live [2, 3] (.region 12 [
 ⟨(opBuild (some 39) 24 #[(.int .i64 0), (.int .i64 0), (.string ⟨#[]⟩)] [(0, 0, 1, (.const (Value.int IntKind.i64 2)))] ze24 (by kernel_rfl) 24 "value.go:187" #[]).op, none⟩,
 ⟨(opStore none 24 (.tmp 2) (.tmp 39) 3 sz24 0 "value.go:187" #[eD 0, eP 0]).op, none⟩,
 ⟨(opAssign (some 3) (.const (Value.bool true)) 4 "value.go:187" #[eC 1, eP 0, eP 1]).op, none⟩
 ] (by kernel_rfl)))
 (.live [2, 3] .ret))
 (.seq (.live [0, 2, 40] (.region 13 [
 ⟨(opBinS (some 41) .eql 9 (.tmp 33) (.const (Value.string { data := #[116, 114, 117, 101] })) 9 4 "value.go:188" #[]).op, none⟩,
 ⟨(opAssign (some 40) (.tmp 41) 4 "value.go:188" #[eD 0]).op, none⟩
 ] (by kernel_rfl)))
 (.cond (.tmp 40)
 (.seq (.live [2, 3] (.region 14 [
 ⟨(opBuild (some 42) 24 #[(.int .i64 0), (.int .i64 0), (.string ⟨#[]⟩)] [(0, 0, 1, (.const (Value.int IntKind.i64 2))), (1, 1, 1, (.const (Value.int IntKind.i64 1)))] ze24 (by kernel_rfl) 24 "value.go:189" #[]).op, none⟩,
 ⟨(opStore none 24 (.tmp 2) (.tmp 42) 3 sz24 0 "value.go:189" #[eD 0, eP 0]).op, none⟩,
 ⟨(opAssign (some 3) (.const (Value.bool true)) 4 "value.go:189" #[eC 1, eP 0, eP 1]).op, none⟩
 ] (by kernel_rfl)))
 (.live [2, 3] .ret))
 .skip))))))))
 (.seq (.live [2, 9, 10] (.region 15 [
 ⟨(opMove (some 44) (.tmp 0) 9 "value.go:191" #[]).op, none⟩,
 ⟨opCall (Orc.dead 53 Tryd.f53 Tryd.func53 (by kernel_rfl) (by kernel_rfl)) (some 45) [(.tmp 44)] #[9] 74 "value.go:191" #[eD 0], none⟩,
 ⟨(opMove (some 43) (.tmp 45) 74 "value.go:191" #[eD 1]).op, none⟩,
 ⟨(opExtract (some 46) (.tmp 43) 0 3 "value.go:191" #[eD 2]).op, none⟩,
 ⟨(opExtract (some 47) (.tmp 43) 1 73 "value.go:191" #[eD 2, { on := 5, ground := (Ground.gcOnly Departure.lateStores) }]).op, none⟩,
 ⟨(opAssign (some 9) (.tmp 46) 3 "value.go:191" #[eD 3, eC 1, eP 0, eP 1, eP 2, eP 3, { on := 4, ground := (Ground.textOnly Departure.lateStores) }]).op, none⟩,
 ⟨(opAssign (some 10) (.tmp 47) 73 "value.go:191" #[eD 4, eC 5, eP 0, eP 1, eP 2, eP 3, eP 4, eP 5]).op, none⟩
 ] (by kernel_rfl)))
 (.seq (.seq (.live [2, 9, 49] (.region 16 [
 ⟨(opMove (some 48) (.tmp 10) 73 "value.go:192" #[]).op, none⟩,
 ⟨(opNe (some 49) 73 d73 ud73 (.tmp 48) (.const Value.nilIface) (.inl rfl) 73 4 "value.go:192" #[eD 0]).op, none⟩
 ] (by kernel_rfl)))
 (.cond (.tmp 49)
 (.seq (.live [2, 3] (.region 17 [
 ⟨(opBuild (some 50) 24 #[(.int .i64 0), (.int .i64 0), (.string ⟨#[]⟩)] [] ze24 (by kernel_rfl) 24 "value.go:193" #[]).op, none⟩,
 ⟨(opStore none 24 (.tmp 2) (.tmp 50) 3 sz24 0 "value.go:193" #[eD 0, eP 0]).op, none⟩,
 ⟨(opAssign (some 3) (.const (Value.bool false)) 4 "value.go:193" #[eC 1, eP 0, eP 1]).op, none⟩
 ] (by kernel_rfl)))
 (.live [2, 3] .ret))
 .skip))
 (.seq (.live [2, 3] (.region 18 [
 ⟨(opMove (some 51) (.tmp 9) 3 "value.go:195" #[]).op, none⟩,
 ⟨(opBuild (some 52) 24 #[(.int .i64 0), (.int .i64 0), (.string ⟨#[]⟩)] [(0, 0, 1, (.const (Value.int IntKind.i64 1))), (1, 1, 1, (.tmp 51))] ze24 (by kernel_rfl) 24 "value.go:195" #[eD 0]).op, none⟩,
 ⟨(opStore none 24 (.tmp 2) (.tmp 52) 3 sz24 0 "value.go:195" #[eD 1, eP 0, eP 1]).op, none⟩,
 ⟨(opAssign (some 3) (.const (Value.bool true)) 4 "value.go:195" #[eC 2, eP 0, eP 1, eP 2]).op, none⟩
 ] (by kernel_rfl)))
 (.live [2, 3] .ret)))))))

noncomputable def f29 : Fun Tryd.prog where
 id := 29
 fn := Tryd.f29
 hf := Tryd.func29
 hname := by kernel_rfl
 body := f29_b
 hbody := by kernel_rfl
 res := [rCell 2 24 d24 ud24 3 sz24, rTmp 3]
 hres := by kernel_rfl
 n := 53
 hn := by kernel_rfl

/-! ### 12: interlock/value.Show (24); results 2; slots: 0 v, 1 v -/
noncomputable def f12_b : Sim Tryd.prog :=
 (.seq (.live [1] (.region 0 [
 ⟨(opBoxF (some 1) 24 (.tmp 0) 0 "value.go:138" #[]).op, none⟩,
 ⟨(opAssign (some 2) (.const (Value.string { data := #[] })) 9 "value.go:138" #[]).op, none⟩
 ] (by kernel_rfl)))
 (.seq (.block 0 (.seq (.live [1, 3] (.region 1 [
 ⟨(opLoadT (.agg [(.int .i64), (.int .i64), .str]) (some 4) 24 (.tmp 1) d24 ud24 3 sz24 (by kernel_rfl) 24 "value.go:140" #[]).op, none⟩,
 ⟨(opCallP p13 (some 5) [(.tmp 4)] #[24] 4 "value.go:140" #[eD 0]).op, none⟩,
 ⟨(opNot (some 6) 4 (.tmp 5) 4 "value.go:140" #[eD 1]).op, none⟩,
 ⟨(opAssign (some 3) (.tmp 6) 4 "value.go:140" #[eD 2, eC 1]).op, none⟩
 ] (by kernel_rfl)))
 (.cond (.tmp 3)
 (.seq (.live [2] (.region 2 [
 ⟨(opAssign (some 2) (.const (Value.string { data := #[63] })) 9 "value.go:141" #[]).op, none⟩
 ] (by kernel_rfl)))
 (.live [2] .ret))
 (.seq (.live [1, 7] (.region 3 [
 ⟨(opFieldAddr (some 8) 24 (.tmp 1) 0 0 1 false fl24_0 (by decide) 0 "value.go:142" #[]).op, none⟩,
 ⟨(opLoadT (.one (.int .i64)) (some 9) 3 (.tmp 8) (.int .i64) Tryd.underlying3 1 sz3 (by kernel_rfl) 3 "value.go:142" #[eD 0]).op, none⟩,
 ⟨(opBin (some 10) .eql 3 (.tmp 9) (.const (Value.int IntKind.i64 1)) 3 4 "value.go:142" #[eD 1]).op, none⟩,
 ⟨(opAssign (some 7) (.tmp 10) 4 "value.go:142" #[eD 2]).op, none⟩
 ] (by kernel_rfl)))
 (.cond (.tmp 7)
 (.seq (.live [2] (.region 4 [
 ⟨(opFieldAddr (some 11) 24 (.tmp 1) 1 1 1 false fl24_1 (by decide) 0 "value.go:143" #[]).op, none⟩,
 ⟨(opLoadT (.one (.int .i64)) (some 12) 3 (.tmp 11) (.int .i64) Tryd.underlying3 1 sz3 (by kernel_rfl) 3 "value.go:143" #[eD 0]).op, none⟩,
 ⟨opCall (Orc.dead 32 Tryd.f32 Tryd.func32 (by kernel_rfl) (by kernel_rfl)) (some 13) [(.tmp 12)] #[3] 9 "value.go:143" #[eD 1], none⟩,
 ⟨(opAssign (some 2) (.tmp 13) 9 "value.go:143" #[eD 2, eC 2, eP 0, eP 1, eP 2]).op, none⟩
 ] (by kernel_rfl)))
 (.live [2] .ret))
 (.seq (.live [1, 14] (.region 5 [
 ⟨(opFieldAddr (some 15) 24 (.tmp 1) 0 0 1 false fl24_0 (by decide) 0 "value.go:144" #[]).op, none⟩,
 ⟨(opLoadT (.one (.int .i64)) (some 16) 3 (.tmp 15) (.int .i64) Tryd.underlying3 1 sz3 (by kernel_rfl) 3 "value.go:144" #[eD 0]).op, none⟩,
 ⟨(opBin (some 17) .eql 3 (.tmp 16) (.const (Value.int IntKind.i64 2)) 3 4 "value.go:144" #[eD 1]).op, none⟩,
 ⟨(opAssign (some 14) (.tmp 17) 4 "value.go:144" #[eD 2]).op, none⟩
 ] (by kernel_rfl)))
 (.cond (.tmp 14)
 (.seq (.live [2] (.region 6 [
 ⟨(opFieldAddr (some 18) 24 (.tmp 1) 1 1 1 false fl24_1 (by decide) 0 "value.go:145" #[]).op, none⟩,
 ⟨(opLoadT (.one (.int .i64)) (some 19) 3 (.tmp 18) (.int .i64) Tryd.underlying3 1 sz3 (by kernel_rfl) 3 "value.go:145" #[eD 0]).op, none⟩,
 ⟨(opBin (some 20) .eql 3 (.tmp 19) (.const (Value.int IntKind.i64 1)) 3 4 "value.go:145" #[eD 1]).op, none⟩,
 ⟨opCall (Orc.dead 33 Tryd.f33 Tryd.func33 (by kernel_rfl) (by kernel_rfl)) (some 21) [(.tmp 20)] #[4] 9 "value.go:145" #[eD 2], none⟩,
 ⟨(opAssign (some 2) (.tmp 21) 9 "value.go:145" #[eD 3, eC 3, eP 0, eP 1, eP 2, eP 3]).op, none⟩
 ] (by kernel_rfl)))
 (.live [2] .ret))
 (.seq (.live [1, 22] (.region 7 [
 ⟨(opFieldAddr (some 23) 24 (.tmp 1) 0 0 1 false fl24_0 (by decide) 0 "value.go:146" #[]).op, none⟩,
 ⟨(opLoadT (.one (.int .i64)) (some 24) 3 (.tmp 23) (.int .i64) Tryd.underlying3 1 sz3 (by kernel_rfl) 3 "value.go:146" #[eD 0]).op, none⟩,
 ⟨(opBin (some 25) .eql 3 (.tmp 24) (.const (Value.int IntKind.i64 3)) 3 4 "value.go:146" #[eD 1]).op, none⟩,
 ⟨(opAssign (some 22) (.tmp 25) 4 "value.go:146" #[eD 2]).op, none⟩
 ] (by kernel_rfl)))
 (.cond (.tmp 22)
 (.seq (.live [2] (.region 8 [
 ⟨(opFieldAddr (some 26) 24 (.tmp 1) 2 2 1 false fl24_2 (by decide) 0 "value.go:147" #[]).op, none⟩,
 ⟨(opLoadT (.one .str) (some 27) 9 (.tmp 26) .string Tryd.underlying9 1 sz9 (by kernel_rfl) 9 "value.go:147" #[eD 0]).op, none⟩,
 ⟨(opCallP p34 (some 28) [(.tmp 27)] #[9] 9 "value.go:147" #[eD 1]).op, none⟩,
 ⟨(opAssign (some 2) (.tmp 28) 9 "value.go:147" #[eD 2, eC 2, eP 0, eP 1, eP 2]).op, none⟩
 ] (by kernel_rfl)))
 (.live [2] .ret))
 .skip)))))))))
 (.seq (.live [2] (.region 9 [
 ⟨(opAssign (some 2) (.const (Value.string { data := #[110, 117, 108, 108] })) 9 "value.go:149" #[]).op, none⟩
 ] (by kernel_rfl)))
 (.live [2] .ret))))

noncomputable def f12 : Fun Tryd.prog where
 id := 12
 fn := Tryd.f12
 hf := Tryd.func12
 hname := by kernel_rfl
 body := f12_b
 hbody := by kernel_rfl
 res := [rTmp 2]
 hres := by kernel_rfl
 n := 29
 hn := by kernel_rfl

/-! ### 10: interlock/value.Read (9); results 2, 3; slots: 0 s, 1 s, 4 v, 5 ok -/
noncomputable def f10_b : Sim Tryd.prog :=
 (.seq (.live [0, 2] (.region 0 [
 ⟨(opAlloc (some 2) 24 (.agg #[(.int .i64 0), (.int .i64 0), (.string ⟨#[]⟩)]) ze24 0 "value.go:199" #[]).op, none⟩,
 ⟨(opAssign (some 3) (.const (Value.bool false)) 4 "value.go:199" #[]).op, none⟩
 ] (by kernel_rfl)))
 (.seq (.live [0, 2, 4, 5] (.region 1 [
 ⟨(opMove (some 7) (.tmp 0) 9 "value.go:200" #[]).op, none⟩,
 ⟨opCall (f29.orc 0) (some 8) [(.tmp 7)] #[9] 25 "value.go:200" #[eD 0], none⟩,
 ⟨(opMove (some 6) (.tmp 8) 25 "value.go:200" #[eD 1]).op, none⟩,
 ⟨(opExtract (some 9) (.tmp 6) 0 24 "value.go:200" #[eD 2]).op, none⟩,
 ⟨(opExtract (some 10) (.tmp 6) 1 4 "value.go:200" #[eD 2, { on := 6, ground := (Ground.gcOnly Departure.lateStores) }]).op, none⟩,
 ⟨(opAlloc (some 4) 24 (.agg #[(.int .i64 0), (.int .i64 0), (.string ⟨#[]⟩)]) ze24 0 "value.go:200" #[]).op, none⟩,
 ⟨(opStore none 24 (.tmp 4) (.tmp 9) 3 sz24 0 "value.go:200" #[eD 5, eD 3, eC 1, eP 0, eP 1, eP 2, eP 3, { on := 4, ground := (Ground.textOnly Departure.lateStores) }, eP 5]).op, none⟩,
 ⟨(opAssign (some 5) (.tmp 10) 4 "value.go:200" #[eD 4, eC 6, eP 0, eP 1, eP 2, eP 3, eP 4, eP 5, eP 6]).op, none⟩
 ] (by kernel_rfl)))
 (.seq (.seq (.live [2, 4, 23] (.region 2 [
 ⟨(opMove (some 11) (.tmp 5) 4 "value.go:201" #[]).op, none⟩,
 ⟨(opNot (some 12) 4 (.tmp 11) 4 "value.go:201" #[eD 0]).op, none⟩,
 ⟨(opMove (some 13) (.tmp 12) 4 "value.go:201" #[eD 1]).op, none⟩,
 ⟨(opLoadT (.agg [(.int .i64), (.int .i64), .str]) (some 14) 24 (.tmp 4) d24 ud24 3 sz24 (by kernel_rfl) 24 "value.go:201" #[eG 2]).op, (some (2, 13, false))⟩,
 ⟨(opCallP p13 (some 15) [(.tmp 14)] #[24] 4 "value.go:201" #[eD 3, eC 2, eG 2]).op, (some (2, 13, false))⟩,
 ⟨(opNot (some 16) 4 (.tmp 15) 4 "value.go:201" #[eD 4, eG 2]).op, (some (2, 13, false))⟩,
 ⟨(opPick (some 17) (.tmp 13) (.const (Value.bool true)) (.tmp 16) 4 "value.go:201" #[eD 2, eD 5]).op, none⟩,
 ⟨(opMove (some 18) (.tmp 17) 4 "value.go:201" #[eD 6, eC 4]).op, none⟩,
 ⟨(opLoadT (.agg [(.int .i64), (.int .i64), .str]) (some 19) 24 (.tmp 4) d24 ud24 3 sz24 (by kernel_rfl) 24 "value.go:201" #[eG 7]).op, (some (7, 18, false))⟩,
 ⟨opCall (f12.orc 0) (some 20) [(.tmp 19)] #[24] 9 "value.go:201" #[eD 8, eC 7, eG 7], (some (7, 18, false))⟩,
 ⟨(opMove (some 21) (.tmp 0) 9 "value.go:201" #[eG 7]).op, (some (7, 18, false))⟩,
 ⟨(opBinS (some 22) .neq 9 (.tmp 20) (.tmp 21) 9 4 "value.go:201" #[eD 9, eD 10, eG 7]).op, (some (7, 18, false))⟩,
 ⟨(opPick (some 23) (.tmp 18) (.const (Value.bool true)) (.tmp 22) 4 "value.go:201" #[eD 7, eD 11]).op, none⟩
 ] (by kernel_rfl)))
 (.cond (.tmp 23)
 (.seq (.live [2, 3] (.region 3 [
 ⟨(opBuild (some 24) 24 #[(.int .i64 0), (.int .i64 0), (.string ⟨#[]⟩)] [] ze24 (by kernel_rfl) 24 "value.go:202" #[]).op, none⟩,
 ⟨(opStore none 24 (.tmp 2) (.tmp 24) 3 sz24 0 "value.go:202" #[eD 0, eP 0]).op, none⟩,
 ⟨(opAssign (some 3) (.const (Value.bool false)) 4 "value.go:202" #[eC 1, eP 0, eP 1]).op, none⟩
 ] (by kernel_rfl)))
 (.live [2, 3] .ret))
 .skip))
 (.seq (.live [2, 3] (.region 4 [
 ⟨(opLoadT (.agg [(.int .i64), (.int .i64), .str]) (some 25) 24 (.tmp 4) d24 ud24 3 sz24 (by kernel_rfl) 24 "value.go:204" #[]).op, none⟩,
 ⟨(opStore none 24 (.tmp 2) (.tmp 25) 3 sz24 0 "value.go:204" #[eD 0, eP 0]).op, none⟩,
 ⟨(opAssign (some 3) (.const (Value.bool true)) 4 "value.go:204" #[eC 1, eP 0, eP 1]).op, none⟩
 ] (by kernel_rfl)))
 (.live [2, 3] .ret)))))

noncomputable def f10 : Fun Tryd.prog where
 id := 10
 fn := Tryd.f10
 hf := Tryd.func10
 hname := by kernel_rfl
 body := f10_b
 hbody := by kernel_rfl
 res := [rCell 2 24 d24 ud24 3 sz24, rTmp 3]
 hres := by kernel_rfl
 n := 26
 hn := by kernel_rfl

/-! ### 9: interlock/interlocklaw04.alive (); results 0; slots: 1 v, 2 ok, 3 b, 4 is -/
noncomputable def f9_b : Sim Tryd.prog :=
 (.seq (.live [] (.region 0 [
 ⟨(opAssign (some 0) (.const (Value.bool false)) 4 "law.go:12" #[]).op, none⟩
 ] (by kernel_rfl)))
 (.seq (.live [1, 2] (.region 1 [
 ⟨opCall (f10.orc 0) (some 6) [(.const (Value.string { data := #[34, 97, 92, 50, 50, 98, 34] }))] #[9] 25 "law.go:13" #[], none⟩,
 ⟨(opMove (some 5) (.tmp 6) 25 "law.go:13" #[eD 0]).op, none⟩,
 ⟨(opExtract (some 7) (.tmp 5) 0 24 "law.go:13" #[eD 1]).op, none⟩,
 ⟨(opExtract (some 8) (.tmp 5) 1 4 "law.go:13" #[eD 1, { on := 5, ground := (Ground.gcOnly Departure.lateStores) }]).op, none⟩,
 ⟨(opAlloc (some 1) 24 (.agg #[(.int .i64 0), (.int .i64 0), (.string ⟨#[]⟩)]) ze24 0 "law.go:13" #[]).op, none⟩,
 ⟨(opStore none 24 (.tmp 1) (.tmp 7) 3 sz24 0 "law.go:13" #[eD 4, eD 2, eC 0, eP 0, eP 1, eP 2, { on := 3, ground := (Ground.textOnly Departure.lateStores) }, eP 4]).op, none⟩,
 ⟨(opAssign (some 2) (.tmp 8) 4 "law.go:13" #[eD 3, eC 5, eP 0, eP 1, eP 2, eP 3, eP 4, eP 5]).op, none⟩
 ] (by kernel_rfl)))
 (.seq (.live [1, 2, 3, 4] (.region 2 [
 ⟨(opBuild (some 10) 24 #[(.int .i64 0), (.int .i64 0), (.string ⟨#[]⟩)] [(0, 0, 1, (.const (Value.int IntKind.i64 1))), (1, 1, 1, (.const (Value.int IntKind.i64 (-1))))] ze24 (by kernel_rfl) 24 "law.go:14" #[]).op, none⟩,
 ⟨(opBuildSlice (some 11) 37 1 [(0, (.tmp 10))] 24 3 32 (.agg #[(.int .i64 0), (.int .i64 0), (.string ⟨#[]⟩)]) el37 (by kernel_rfl) (by decide) 37 "law.go:14" #[eD 0]).op, none⟩,
 ⟨opCall (f25.orc 20) (some 12) [(.tmp 11)] #[37] 47 "law.go:14" #[eD 1], none⟩,
 ⟨(opMove (some 9) (.tmp 12) 47 "law.go:14" #[eD 2]).op, none⟩,
 ⟨(opExtract (some 13) (.tmp 9) 0 46 "law.go:14" #[eD 3]).op, none⟩,
 ⟨(opExtract (some 14) (.tmp 9) 1 4 "law.go:14" #[eD 3, { on := 6, ground := (Ground.gcOnly Departure.lateStores) }]).op, none⟩,
 ⟨(opAssign (some 3) (.tmp 13) 46 "law.go:14" #[eD 4, eC 2, eP 0, eP 1, eP 2, eP 3, eP 4, { on := 5, ground := (Ground.textOnly Departure.lateStores) }]).op, none⟩,
 ⟨(opAssign (some 4) (.tmp 14) 4 "law.go:14" #[eD 5, eC 6, eP 0, eP 1, eP 2, eP 3, eP 4, eP 5, eP 6]).op, none⟩
 ] (by kernel_rfl)))
 (.seq (.live [0] (.region 3 [
 ⟨(opMove (some 15) (.tmp 2) 4 "law.go:15" #[]).op, none⟩,
 ⟨(opMove (some 16) (.tmp 15) 4 "law.go:15" #[eD 0]).op, none⟩,
 ⟨(opLoadT (.agg [(.int .i64), (.int .i64), .str]) (some 17) 24 (.tmp 1) d24 ud24 3 sz24 (by kernel_rfl) 24 "law.go:15" #[eG 1]).op, (some (1, 16, true))⟩,
 ⟨(opBuild (some 18) 24 #[(.int .i64 0), (.int .i64 0), (.string ⟨#[]⟩)] [(0, 0, 1, (.const (Value.int IntKind.i64 3))), (2, 2, 1, (.const (Value.string { data := #[97, 34, 98] })))] ze24 (by kernel_rfl) 24 "law.go:15" #[eG 1]).op, (some (1, 16, true))⟩,
 ⟨(opEqS (some 19) 24 [(0, 0), (1, 0), (2, 2)] eq24 (.tmp 17) (.tmp 18) 24 4 "law.go:15" #[eD 2, eD 3, eG 1]).op, (some (1, 16, true))⟩,
 ⟨(opPick (some 20) (.tmp 16) (.tmp 19) (.const (Value.bool false)) 4 "law.go:15" #[eD 1, eD 4]).op, none⟩,
 ⟨(opMove (some 21) (.tmp 20) 4 "law.go:15" #[eD 5, eC 1]).op, none⟩,
 ⟨(opMove (some 22) (.tmp 4) 4 "law.go:15" #[eG 6]).op, (some (6, 21, true))⟩,
 ⟨(opPick (some 23) (.tmp 21) (.tmp 22) (.const (Value.bool false)) 4 "law.go:15" #[eD 6, eD 7]).op, none⟩,
 ⟨(opMove (some 24) (.tmp 23) 4 "law.go:15" #[eD 8, eC 6]).op, none⟩,
 ⟨(opMove (some 25) (.tmp 3) 46 "law.go:15" #[eG 9]).op, (some (9, 24, true))⟩,
 ⟨(opBuildSlice (some 26) 46 3 [(0, (.const (Value.int IntKind.u8 2))), (1, (.const (Value.int IntKind.u8 2))), (2, (.const (Value.int IntKind.u8 1)))] 5 1 1 (.int .u8 0) el46 (by kernel_rfl) (by decide) 46 "law.go:15" #[eG 9]).op, (some (9, 24, true))⟩,
 ⟨opCall (f28.orc 20) (some 27) [(.tmp 25), (.tmp 26)] #[46, 46] 4 "law.go:15" #[eD 10, eD 11, eC 9, eG 9], (some (9, 24, true))⟩,
 ⟨(opPick (some 28) (.tmp 24) (.tmp 27) (.const (Value.bool false)) 4 "law.go:15" #[eD 9, eD 12]).op, none⟩,
 ⟨(opMove (some 29) (.tmp 28) 4 "law.go:15" #[eD 13, eC 12]).op, none⟩,
 ⟨(opBuild (some 30) 24 #[(.int .i64 0), (.int .i64 0), (.string ⟨#[]⟩)] [] ze24 (by kernel_rfl) 24 "law.go:15" #[eG 14]).op, (some (14, 29, true))⟩,
 ⟨(opBuild (some 31) 24 #[(.int .i64 0), (.int .i64 0), (.string ⟨#[]⟩)] [(0, 0, 1, (.const (Value.int IntKind.i64 1)))] ze24 (by kernel_rfl) 24 "law.go:15" #[eG 14]).op, (some (14, 29, true))⟩,
 ⟨opCall (f21.orc 0) (some 32) [(.tmp 30), (.tmp 31)] #[24, 24] 3 "law.go:15" #[eD 15, eD 16, eC 14, eG 14], (some (14, 29, true))⟩,
 ⟨(opBin (some 33) .eql 3 (.tmp 32) (.const (Value.int IntKind.i64 (-1))) 3 4 "law.go:15" #[eD 17, eG 14]).op, (some (14, 29, true))⟩,
 ⟨(opPick (some 34) (.tmp 29) (.tmp 33) (.const (Value.bool false)) 4 "law.go:15" #[eD 14, eD 18]).op, none⟩,
 ⟨(opMove (some 35) (.tmp 34) 4 "law.go:15" #[eD 19, eC 17]).op, none⟩,
 ⟨(opLoadT (.agg [(.int .i64), (.int .i64), .str]) (some 36) 24 (.tmp 1) d24 ud24 3 sz24 (by kernel_rfl) 24 "law.go:15" #[eG 20]).op, (some (20, 35, true))⟩,
 ⟨opCall (f12.orc 0) (some 37) [(.tmp 36)] #[24] 9 "law.go:15" #[eD 21, eC 20, eG 20], (some (20, 35, true))⟩,
 ⟨(opBinS (some 38) .eql 9 (.tmp 37) (.const (Value.string { data := #[34, 97, 92, 50, 50, 98, 34] })) 9 4 "law.go:15" #[eD 22, eG 20]).op, (some (20, 35, true))⟩,
 ⟨(opPick (some 39) (.tmp 35) (.tmp 38) (.const (Value.bool false)) 4 "law.go:15" #[eD 20, eD 23]).op, none⟩,
 ⟨(opAssign (some 0) (.tmp 39) 4 "law.go:15" #[eD 24, eC 22, eP 0, eP 1, eP 2, eP 3, eP 4, eP 5, eP 6, eP 7, eP 8, eP 9, eP 10, eP 11, eP 12, eP 13, eP 14, eP 15, eP 16, eP 17, eP 18, eP 19, eP 20, eP 21, eP 22, eP 23, eP 24]).op, none⟩
 ] (by kernel_rfl)))
 (.live [0] .ret)))))

noncomputable def f9 : Fun Tryd.prog where
 id := 9
 fn := Tryd.f9
 hf := Tryd.func9
 hname := by kernel_rfl
 body := f9_b
 hbody := by kernel_rfl
 res := [rTmp 0]
 hres := by kernel_rfl
 n := 40
 hn := by kernel_rfl

end Go.Proofs.YtcfedmheblbdnaaDoor.V

/- What the functions' runs come to; the right sides were printed by a tool, Lean checks them. -/
set_option linter.unusedVariables false
set_option maxRecDepth 100000
namespace Go.Proofs.YtcfedmheblbdnaaDoor.V
open Go Go.V Go.RowKit

theorem alive_run  :
 (f9.run 20 [] ⟨[], []⟩ : Ans) =
 branch (AV.bool (cdec (5 ≤ 100000000)))
 (branch (AV.bool (cdec (3 ≤ 100000000)))
 (branch (AV.bool (cdec (3 ≤ 100000000)))
 (some
 (Fin.ret (AV.bool true),
 St.mk
 [Ob.cells
 [AV.int IntKind.i64 (3 : Int), AV.int IntKind.i64 (0 : Int),
 AV.str
 (unqS
 (((ByteArray.mk
 #[(34 : UInt8), (97 : UInt8), (92 : UInt8), (50 : UInt8), (50 : UInt8), (98 : UInt8),
 (34 : UInt8)]).extract
 1 7).extract
 0 5))],
 Ob.cells
 [AV.int IntKind.i64 (3 : Int), AV.int IntKind.i64 (0 : Int),
 AV.str
 (unqS
 (((ByteArray.mk
 #[(34 : UInt8), (97 : UInt8), (92 : UInt8), (50 : UInt8), (50 : UInt8), (98 : UInt8),
 (34 : UInt8)]).extract
 1 7).extract
 0 5))],
 Ob.cells
 [AV.int IntKind.i64 (3 : Int), AV.int IntKind.i64 (0 : Int),
 AV.str
 (unqS
 (((ByteArray.mk
 #[(34 : UInt8), (97 : UInt8), (92 : UInt8), (50 : UInt8), (50 : UInt8), (98 : UInt8),
 (34 : UInt8)]).extract
 1 7).extract
 0 5))],
 Ob.cells
 [AV.int IntKind.i64 (3 : Int), AV.int IntKind.i64 (0 : Int),
 AV.str
 (unqS
 (((ByteArray.mk
 #[(34 : UInt8), (97 : UInt8), (92 : UInt8), (50 : UInt8), (50 : UInt8), (98 : UInt8),
 (34 : UInt8)]).extract
 1 7).extract
 0 5))],
 Ob.cells [AV.int IntKind.i64 (1 : Int), AV.int IntKind.i64 (-1 : Int), AV.str (ByteArray.mk #[])]]
 [(1, 3), (1, 1), (1, 1)]))
 none)
 none)
 none := by kernel_rfl

end Go.Proofs.YtcfedmheblbdnaaDoor.V

/- Values: alive. -/
set_option linter.unusedVariables false
namespace Go.Proofs.YtcfedmheblbdnaaDoor.V
open Go Go.V Go.RowKit

theorem alive_can : ∃ F st', f9.run F [] ⟨[], []⟩ = some (.ret (.bool true), st') := by
  have h5 : cdec (5 ≤ 100000000) = true := by rw [cdec_iff]; omega
  have h3 : cdec (3 ≤ 100000000) = true := by rw [cdec_iff]; omega
  have h := alive_run
  rw [h5, h3, br_t, br_t, br_t] at h
  exact ⟨20, _, h⟩
noncomputable def p9 : POrc Tryd.prog := f9.flatIf dec0 (fun _ => []) dec0_enc (fun _ => true) (fun _ => .bool true) (fun _ => trivial) (fun _ => trivial) fun _ _ => alive_can
end Go.Proofs.YtcfedmheblbdnaaDoor.V

/- The functions' pieces, as told by gen.py. -/
set_option linter.unusedVariables false
set_option maxRecDepth 20000
namespace Go.Proofs.YtcfedmheblbdnaaDoor.V
open Go Go.V Go.RowKit

/-! ### 14: interlock/value.Fits (24, 32); results 4; slots: 0 v, 1 c, 2 v, 3 c -/
/-! ### 5: interlock/interlocklaw04.ValueFits (24, 32); results 4; slots: 0 v, 1 c, 2 v, 3 c, 5 e, 6 wide, 7 f -/
end Go.Proofs.YtcfedmheblbdnaaDoor.V

/- What the functions' runs come to; the right sides were printed by a tool, Lean checks them. -/
set_option linter.unusedVariables false
set_option maxRecDepth 100000
namespace Go.Proofs.YtcfedmheblbdnaaDoor.V
open Go Go.V Go.RowKit

end Go.Proofs.YtcfedmheblbdnaaDoor.V

/- Values: ValueFits is true. -/
set_option linter.unusedVariables false
namespace Go.Proofs.YtcfedmheblbdnaaDoor.V
open Go Go.V Go.RowKit

def tyVa : Ty := .st [.int .i64, .int .i64, .str]
end Go.Proofs.YtcfedmheblbdnaaDoor.V

/- Values: orders. -/
set_option linter.unusedVariables false
namespace Go.Proofs.YtcfedmheblbdnaaDoor.V
open Go Go.V Go.RowKit

/-- A comparison is an order. -/
structure Lin {α : Type} (c : α → α → Int) : Prop where
  neg : ∀ a b, c a b = -c b a
  eq : ∀ a b, c a b = 0 → a = b
  tr : ∀ a b d, c a b < 0 → c b d < 0 → c a d < 0
theorem Lin.law {α : Type} {c : α → α → Int} (h : Lin c) (x y z : α) : ¬ (c x y ≤ 0 ∧ c y z ≤ 0 ∧ 0 < c x z) ∧ ¬ (c x y < 0 ∧ c y z ≤ 0 ∧ 0 ≤ c x z) ∧ ¬ (0 ≤ c x y ∧ 0 ≤ c y z ∧ c x z < 0) := by
  have n1 := h.neg x y
  have n2 := h.neg y z
  have n3 := h.neg x z
  have t1 : c x y < 0 → c y z < 0 → c x z < 0 := h.tr x y z
  have t2 : c z y < 0 → c y x < 0 → c z x < 0 := h.tr z y x
  have e1 : c x y = 0 → c x z = c y z := fun e => by rw [h.eq _ _ e]
  have e2 : c y z = 0 → c x z = c x y := fun e => by rw [h.eq _ _ e]
  refine ⟨?_, ?_, ?_⟩ <;> omega
end Go.Proofs.YtcfedmheblbdnaaDoor.V

/- What the functions' runs come to; the right sides were printed by a tool, Lean checks them. -/
set_option linter.unusedVariables false
set_option maxRecDepth 100000
namespace Go.Proofs.YtcfedmheblbdnaaDoor.V
open Go Go.V Go.RowKit

end Go.Proofs.YtcfedmheblbdnaaDoor.V

/- Values: the order of values as a callee; rows. -/
set_option linter.unusedVariables false
namespace Go.Proofs.YtcfedmheblbdnaaDoor.V
open Go Go.V Go.RowKit

end Go.Proofs.YtcfedmheblbdnaaDoor.V

/- The functions' pieces, as told by gen.py. -/
set_option linter.unusedVariables false
set_option maxRecDepth 20000
namespace Go.Proofs.YtcfedmheblbdnaaDoor.V
open Go Go.V Go.RowKit


/-! ### 35: slices.CompareFunc[interlock/api.Row,interlock/api.Row,interlock/api.Value,interlock/api.Value] (37, 37, 44); results 6; slots: 0 s1, 1 s2, 2 cmp, 3 s1, 4 s2, 5 cmp, 7 i, 8 v1, 9 v2, 10 c -/
/-! ### 15: interlock/interlocklaw04.long (37); results 2; slots: 0 r, 1 r, 3 i -/
/-! ### 17: interlock/interlockref00.SameRow (37, 37); results 4; slots: 0 a, 1 b, 2 a, 3 b, 5 i -/
end Go.Proofs.YtcfedmheblbdnaaDoor.V

/- What the functions' runs come to; the right sides were printed by a tool, Lean checks them. -/
set_option linter.unusedVariables false
set_option maxRecDepth 100000
namespace Go.Proofs.YtcfedmheblbdnaaDoor.V
open Go Go.V Go.RowKit

end Go.Proofs.YtcfedmheblbdnaaDoor.V

/- Values: rows' order, length and likeness, as callees. -/
set_option linter.unusedVariables false
namespace Go.Proofs.YtcfedmheblbdnaaDoor.V
open Go Go.V Go.RowKit

end Go.Proofs.YtcfedmheblbdnaaDoor.V

/- The functions' pieces, as told by gen.py. -/
set_option linter.unusedVariables false
set_option maxRecDepth 20000
namespace Go.Proofs.YtcfedmheblbdnaaDoor.V
open Go Go.V Go.RowKit


/-! ### 16: interlock/value.OrderRows (37, 37); results 4; slots: 0 a, 1 b, 2 a, 3 b -/
end Go.Proofs.YtcfedmheblbdnaaDoor.V

/- What the functions' runs come to; the right sides were printed by a tool, Lean checks them. -/
set_option linter.unusedVariables false
set_option maxRecDepth 100000
namespace Go.Proofs.YtcfedmheblbdnaaDoor.V
open Go Go.V Go.RowKit

end Go.Proofs.YtcfedmheblbdnaaDoor.V

/- Values: OrderRows, as a callee. -/
set_option linter.unusedVariables false
namespace Go.Proofs.YtcfedmheblbdnaaDoor.V
open Go Go.V Go.RowKit

end Go.Proofs.YtcfedmheblbdnaaDoor.V

/- The functions' pieces, as told by gen.py. -/
set_option linter.unusedVariables false
set_option maxRecDepth 20000
namespace Go.Proofs.YtcfedmheblbdnaaDoor.V
open Go Go.V Go.RowKit


/-! ### 6: interlock/interlocklaw04.ValueOrder (37, 37, 37); results 6; slots: 0 a, 1 b, 2 c, 3 a, 4 b, 5 c, 7 x, 8 y, 9 z -/
end Go.Proofs.YtcfedmheblbdnaaDoor.V

/- What the functions' runs come to; the right sides were printed by a tool, Lean checks them. -/
set_option linter.unusedVariables false
set_option maxRecDepth 100000
namespace Go.Proofs.YtcfedmheblbdnaaDoor.V
open Go Go.V Go.RowKit

end Go.Proofs.YtcfedmheblbdnaaDoor.V

/- Values: ValueOrder is true. -/
set_option linter.unusedVariables false
namespace Go.Proofs.YtcfedmheblbdnaaDoor.V
open Go Go.V Go.RowKit

end Go.Proofs.YtcfedmheblbdnaaDoor.V

/- The functions' pieces, as told by gen.py. -/
set_option linter.unusedVariables false
set_option maxRecDepth 20000
namespace Go.Proofs.YtcfedmheblbdnaaDoor.V
open Go Go.V Go.RowKit

noncomputable def tx_aa5602 : ByteArray := opq { data := (.append #[0, 1, 2, 2, 3, 3, 3, 3, 4, 4, 4, 4, 4, 4, 4, 4, 5, 5, 5, 5, 5, 5, 5, 5, 5, 5, 5, 5, 5, 5, 5, 5, 6, 6, 6, 6, 6, 6, 6, 6, 6, 6, 6, 6, 6, 6, 6, 6, 6, 6, 6, 6, 6, 6, 6, 6, 6, 6, 6, 6, 6, 6, 6, 6, 7, 7, 7, 7, 7, 7, 7, 7, 7, 7, 7, 7, 7, 7, 7, 7, 7, 7, 7, 7, 7, 7, 7, 7, 7, 7, 7, 7, 7, 7, 7, 7, 7, 7, 7, 7, 7, 7, 7, 7, 7, 7, 7, 7, 7, 7, 7, 7, 7, 7, 7, 7, 7, 7, 7, 7, 7, 7, 7, 7, 7, 7, 7, 7] #[8, 8, 8, 8, 8, 8, 8, 8, 8, 8, 8, 8, 8, 8, 8, 8, 8, 8, 8, 8, 8, 8, 8, 8, 8, 8, 8, 8, 8, 8, 8, 8, 8, 8, 8, 8, 8, 8, 8, 8, 8, 8, 8, 8, 8, 8, 8, 8, 8, 8, 8, 8, 8, 8, 8, 8, 8, 8, 8, 8, 8, 8, 8, 8, 8, 8, 8, 8, 8, 8, 8, 8, 8, 8, 8, 8, 8, 8, 8, 8, 8, 8, 8, 8, 8, 8, 8, 8, 8, 8, 8, 8, 8, 8, 8, 8, 8, 8, 8, 8, 8, 8, 8, 8, 8, 8, 8, 8, 8, 8, 8, 8, 8, 8, 8, 8, 8, 8, 8, 8, 8, 8, 8, 8, 8, 8, 8, 8]) }
theorem tx_aa5602_eq : tx_aa5602 = { data := (.append #[0, 1, 2, 2, 3, 3, 3, 3, 4, 4, 4, 4, 4, 4, 4, 4, 5, 5, 5, 5, 5, 5, 5, 5, 5, 5, 5, 5, 5, 5, 5, 5, 6, 6, 6, 6, 6, 6, 6, 6, 6, 6, 6, 6, 6, 6, 6, 6, 6, 6, 6, 6, 6, 6, 6, 6, 6, 6, 6, 6, 6, 6, 6, 6, 7, 7, 7, 7, 7, 7, 7, 7, 7, 7, 7, 7, 7, 7, 7, 7, 7, 7, 7, 7, 7, 7, 7, 7, 7, 7, 7, 7, 7, 7, 7, 7, 7, 7, 7, 7, 7, 7, 7, 7, 7, 7, 7, 7, 7, 7, 7, 7, 7, 7, 7, 7, 7, 7, 7, 7, 7, 7, 7, 7, 7, 7, 7, 7] #[8, 8, 8, 8, 8, 8, 8, 8, 8, 8, 8, 8, 8, 8, 8, 8, 8, 8, 8, 8, 8, 8, 8, 8, 8, 8, 8, 8, 8, 8, 8, 8, 8, 8, 8, 8, 8, 8, 8, 8, 8, 8, 8, 8, 8, 8, 8, 8, 8, 8, 8, 8, 8, 8, 8, 8, 8, 8, 8, 8, 8, 8, 8, 8, 8, 8, 8, 8, 8, 8, 8, 8, 8, 8, 8, 8, 8, 8, 8, 8, 8, 8, 8, 8, 8, 8, 8, 8, 8, 8, 8, 8, 8, 8, 8, 8, 8, 8, 8, 8, 8, 8, 8, 8, 8, 8, 8, 8, 8, 8, 8, 8, 8, 8, 8, 8, 8, 8, 8, 8, 8, 8, 8, 8, 8, 8, 8, 8]) } := opq_eq _

/-! ### 93: internal/strconv.log10Pow2 (3); results 2; slots: 0 x, 1 x -/
noncomputable def f93_b : Sim Tryd.prog :=
 (.seq (.live [0] (.region 0 [
 ⟨(opAssign (some 2) (.const (Value.int IntKind.i64 0)) 3 "uscale.go:70" #[]).op, none⟩
 ] (by kernel_rfl)))
 (.seq (.live [2] (.region 1 [
 ⟨(opMove (some 3) (.tmp 0) 3 "uscale.go:72" #[]).op, none⟩,
 ⟨(opBin (some 4) .mul 3 (.tmp 3) (.const (Value.int IntKind.i64 78913)) 3 3 "uscale.go:72" #[eD 0]).op, none⟩,
 ⟨(opBin (some 5) .shr 3 (.tmp 4) (.const (Value.int IntKind.u64 18)) 80 3 "uscale.go:72" #[eD 1]).op, none⟩,
 ⟨(opAssign (some 2) (.tmp 5) 3 "uscale.go:72" #[eD 2, eP 0, eP 1, eP 2]).op, none⟩
 ] (by kernel_rfl)))
 (.live [2] .ret)))

noncomputable def f93 : Fun Tryd.prog where
 id := 93
 fn := Tryd.f93
 hf := Tryd.func93
 hname := by kernel_rfl
 body := f93_b
 hbody := by kernel_rfl
 res := [rTmp 2]
 hres := by kernel_rfl
 n := 6
 hn := by kernel_rfl

/-! ### 94: math/bits.Len64 (84); results 2; slots: 0 x, 1 x, 2 n -/
noncomputable def f94_b : Sim Tryd.prog :=
 (.seq (.live [0, 2] (.region 0 [
 ⟨(opAssign (some 2) (.const (Value.int IntKind.i64 0)) 3 "bits.go:337" #[]).op, none⟩
 ] (by kernel_rfl)))
 (.seq (.seq (.live [0, 2, 4] (.region 1 [
 ⟨(opMove (some 3) (.tmp 0) 84 "bits.go:338" #[]).op, none⟩,
 ⟨(opBin (some 4) .geq 84 (.tmp 3) (.const (Value.int IntKind.u64 4294967296)) 84 4 "bits.go:338" #[eD 0]).op, none⟩
 ] (by kernel_rfl)))
 (.cond (.tmp 4)
 (.seq (.live [0] (.region 2 [
 ⟨(opMove (some 5) (.tmp 0) 84 "bits.go:339" #[]).op, none⟩,
 ⟨(opBin (some 6) .shr 84 (.tmp 5) (.const (Value.int IntKind.u64 32)) 80 84 "bits.go:339" #[eD 0]).op, none⟩,
 ⟨(opAssign (some 0) (.tmp 6) 84 "bits.go:339" #[eD 1, eP 0, eP 1]).op, none⟩
 ] (by kernel_rfl)))
 (.live [0, 2] (.region 3 [
 ⟨(opAssign (some 2) (.const (Value.int IntKind.i64 32)) 3 "bits.go:340" #[]).op, none⟩
 ] (by kernel_rfl))))
 .skip))
 (.seq (.seq (.live [0, 2, 8] (.region 4 [
 ⟨(opMove (some 7) (.tmp 0) 84 "bits.go:342" #[]).op, none⟩,
 ⟨(opBin (some 8) .geq 84 (.tmp 7) (.const (Value.int IntKind.u64 65536)) 84 4 "bits.go:342" #[eD 0]).op, none⟩
 ] (by kernel_rfl)))
 (.cond (.tmp 8)
 (.seq (.live [0, 2] (.region 5 [
 ⟨(opMove (some 9) (.tmp 0) 84 "bits.go:343" #[]).op, none⟩,
 ⟨(opBin (some 10) .shr 84 (.tmp 9) (.const (Value.int IntKind.u64 16)) 80 84 "bits.go:343" #[eD 0]).op, none⟩,
 ⟨(opAssign (some 0) (.tmp 10) 84 "bits.go:343" #[eD 1, eP 0, eP 1]).op, none⟩
 ] (by kernel_rfl)))
 (.live [0, 2] (.region 6 [
 ⟨(opMove (some 11) (.tmp 2) 3 "bits.go:344" #[]).op, none⟩,
 ⟨(opBin (some 12) .add 3 (.tmp 11) (.const (Value.int IntKind.i64 16)) 3 3 "bits.go:344" #[eD 0]).op, none⟩,
 ⟨(opAssign (some 2) (.tmp 12) 3 "bits.go:344" #[eD 1, eP 0, eP 1]).op, none⟩
 ] (by kernel_rfl))))
 .skip))
 (.seq (.seq (.live [0, 2, 14] (.region 7 [
 ⟨(opMove (some 13) (.tmp 0) 84 "bits.go:346" #[]).op, none⟩,
 ⟨(opBin (some 14) .geq 84 (.tmp 13) (.const (Value.int IntKind.u64 256)) 84 4 "bits.go:346" #[eD 0]).op, none⟩
 ] (by kernel_rfl)))
 (.cond (.tmp 14)
 (.seq (.live [0, 2] (.region 8 [
 ⟨(opMove (some 15) (.tmp 0) 84 "bits.go:347" #[]).op, none⟩,
 ⟨(opBin (some 16) .shr 84 (.tmp 15) (.const (Value.int IntKind.u64 8)) 80 84 "bits.go:347" #[eD 0]).op, none⟩,
 ⟨(opAssign (some 0) (.tmp 16) 84 "bits.go:347" #[eD 1, eP 0, eP 1]).op, none⟩
 ] (by kernel_rfl)))
 (.live [0, 2] (.region 9 [
 ⟨(opMove (some 17) (.tmp 2) 3 "bits.go:348" #[]).op, none⟩,
 ⟨(opBin (some 18) .add 3 (.tmp 17) (.const (Value.int IntKind.i64 8)) 3 3 "bits.go:348" #[eD 0]).op, none⟩,
 ⟨(opAssign (some 2) (.tmp 18) 3 "bits.go:348" #[eD 1, eP 0, eP 1]).op, none⟩
 ] (by kernel_rfl))))
 .skip))
 (.seq (.live [2] (.region 10 [
 ⟨(opMove (some 19) (.tmp 2) 3 "bits.go:350" #[]).op, none⟩,
 ⟨(opMove (some 20) (.tmp 0) 84 "bits.go:350" #[]).op, none⟩,
 ⟨(opConvInt (some 21) 84 5 (.tmp 20) (.int .u64) Tryd.underlying84 .u8 Tryd.underlying5 5 "bits.go:350" #[eD 1]).op, none⟩,
 ⟨(PSim.named (opIndexStrW (some 22) 9 (.const (Value.string { data := (.append #[0, 1, 2, 2, 3, 3, 3, 3, 4, 4, 4, 4, 4, 4, 4, 4, 5, 5, 5, 5, 5, 5, 5, 5, 5, 5, 5, 5, 5, 5, 5, 5, 6, 6, 6, 6, 6, 6, 6, 6, 6, 6, 6, 6, 6, 6, 6, 6, 6, 6, 6, 6, 6, 6, 6, 6, 6, 6, 6, 6, 6, 6, 6, 6, 7, 7, 7, 7, 7, 7, 7, 7, 7, 7, 7, 7, 7, 7, 7, 7, 7, 7, 7, 7, 7, 7, 7, 7, 7, 7, 7, 7, 7, 7, 7, 7, 7, 7, 7, 7, 7, 7, 7, 7, 7, 7, 7, 7, 7, 7, 7, 7, 7, 7, 7, 7, 7, 7, 7, 7, 7, 7, 7, 7, 7, 7, 7, 7] #[8, 8, 8, 8, 8, 8, 8, 8, 8, 8, 8, 8, 8, 8, 8, 8, 8, 8, 8, 8, 8, 8, 8, 8, 8, 8, 8, 8, 8, 8, 8, 8, 8, 8, 8, 8, 8, 8, 8, 8, 8, 8, 8, 8, 8, 8, 8, 8, 8, 8, 8, 8, 8, 8, 8, 8, 8, 8, 8, 8, 8, 8, 8, 8, 8, 8, 8, 8, 8, 8, 8, 8, 8, 8, 8, 8, 8, 8, 8, 8, 8, 8, 8, 8, 8, 8, 8, 8, 8, 8, 8, 8, 8, 8, 8, 8, 8, 8, 8, 8, 8, 8, 8, 8, 8, 8, 8, 8, 8, 8, 8, 8, 8, 8, 8, 8, 8, 8, 8, 8, 8, 8, 8, 8, 8, 8, 8, 8]) })) (.tmp 21) Tryd.underlying9 5 "bits.go:350" #[eD 2]) tx_aa5602 { data := (.append #[0, 1, 2, 2, 3, 3, 3, 3, 4, 4, 4, 4, 4, 4, 4, 4, 5, 5, 5, 5, 5, 5, 5, 5, 5, 5, 5, 5, 5, 5, 5, 5, 6, 6, 6, 6, 6, 6, 6, 6, 6, 6, 6, 6, 6, 6, 6, 6, 6, 6, 6, 6, 6, 6, 6, 6, 6, 6, 6, 6, 6, 6, 6, 6, 7, 7, 7, 7, 7, 7, 7, 7, 7, 7, 7, 7, 7, 7, 7, 7, 7, 7, 7, 7, 7, 7, 7, 7, 7, 7, 7, 7, 7, 7, 7, 7, 7, 7, 7, 7, 7, 7, 7, 7, 7, 7, 7, 7, 7, 7, 7, 7, 7, 7, 7, 7, 7, 7, 7, 7, 7, 7, 7, 7, 7, 7, 7, 7] #[8, 8, 8, 8, 8, 8, 8, 8, 8, 8, 8, 8, 8, 8, 8, 8, 8, 8, 8, 8, 8, 8, 8, 8, 8, 8, 8, 8, 8, 8, 8, 8, 8, 8, 8, 8, 8, 8, 8, 8, 8, 8, 8, 8, 8, 8, 8, 8, 8, 8, 8, 8, 8, 8, 8, 8, 8, 8, 8, 8, 8, 8, 8, 8, 8, 8, 8, 8, 8, 8, 8, 8, 8, 8, 8, 8, 8, 8, 8, 8, 8, 8, 8, 8, 8, 8, 8, 8, 8, 8, 8, 8, 8, 8, 8, 8, 8, 8, 8, 8, 8, 8, 8, 8, 8, 8, 8, 8, 8, 8, 8, 8, 8, 8, 8, 8, 8, 8, 8, 8, 8, 8, 8, 8, 8, 8, 8, 8]) } tx_aa5602_eq (by kernel_rfl)).op, none⟩,
 ⟨(opConvInt (some 23) 5 3 (.tmp 22) (.int .u8) Tryd.underlying5 .i64 Tryd.underlying3 3 "bits.go:350" #[eD 3]).op, none⟩,
 ⟨(opBin (some 24) .add 3 (.tmp 19) (.tmp 23) 3 3 "bits.go:350" #[eD 0, eD 4]).op, none⟩,
 ⟨(opAssign (some 2) (.tmp 24) 3 "bits.go:350" #[eD 5, eP 0, eP 1, eP 2, eP 3, eP 4, eP 5]).op, none⟩
 ] (by kernel_rfl)))
 (.live [2] .ret))))))

noncomputable def f94 : Fun Tryd.prog where
 id := 94
 fn := Tryd.f94
 hf := Tryd.func94
 hname := by kernel_rfl
 body := f94_b
 hbody := by kernel_rfl
 res := [rTmp 2]
 hres := by kernel_rfl
 n := 25
 hn := by kernel_rfl

/-! ### 95: internal/strconv.bool2[int] (4); results 2; slots: 0 b, 1 b -/
noncomputable def f95_b : Sim Tryd.prog :=
 (.seq (.live [0] (.region 0 [
 ⟨(opAssign (some 2) (.const (Value.int IntKind.i64 0)) 3 "uscale.go:17" #[]).op, none⟩
 ] (by kernel_rfl)))
 (.seq (.seq (.live [3] (.region 1 [
 ⟨(opMove (some 3) (.tmp 0) 4 "uscale.go:18" #[]).op, none⟩
 ] (by kernel_rfl)))
 (.cond (.tmp 3)
 (.seq (.live [2] (.region 2 [
 ⟨(opAssign (some 2) (.const (Value.int IntKind.i64 1)) 3 "uscale.go:19" #[]).op, none⟩
 ] (by kernel_rfl)))
 (.live [2] .ret))
 .skip))
 (.seq (.live [2] (.region 3 [
 ⟨(opAssign (some 2) (.const (Value.int IntKind.i64 0)) 3 "uscale.go:21" #[]).op, none⟩
 ] (by kernel_rfl)))
 (.live [2] .ret))))

noncomputable def f95 : Fun Tryd.prog where
 id := 95
 fn := Tryd.f95
 hf := Tryd.func95
 hname := by kernel_rfl
 body := f95_b
 hbody := by kernel_rfl
 res := [rTmp 2]
 hres := by kernel_rfl
 n := 4
 hn := by kernel_rfl

end Go.Proofs.YtcfedmheblbdnaaDoor.V

/- What the functions' runs come to; the right sides were printed by a tool, Lean checks them. -/
set_option linter.unusedVariables false
set_option maxRecDepth 100000
namespace Go.Proofs.YtcfedmheblbdnaaDoor.V
open Go Go.V Go.RowKit

theorem ln_run (F : Nat) (x : Int) (st : St) :
 (f94.run F [.int .u64 x] st : Ans) =
 branch (AV.bool (decide (x ≥ (4294967296 : Int))))
 (branch (AV.bool (decide (x.fdiv (4294967296 : Int) ≥ (65536 : Int))))
 (branch (AV.bool (decide ((x.fdiv (4294967296 : Int)).fdiv (65536 : Int) ≥ (256 : Int))))
 (branch
 (AV.bool (inT tx_aa5602 (IntKind.u8.wrap (((x.fdiv (4294967296 : Int)).fdiv (65536 : Int)).fdiv (256 : Int)))))
 (some
 (Fin.ret
 (AV.int IntKind.i64
 (IntKind.i64.wrap
 ((56 : Int) +
 IntKind.i64.wrap
 (atT tx_aa5602
 (IntKind.u8.wrap (((x.fdiv (4294967296 : Int)).fdiv (65536 : Int)).fdiv (256 : Int))))))),
 st))
 none)
 (branch (AV.bool (inT tx_aa5602 (IntKind.u8.wrap ((x.fdiv (4294967296 : Int)).fdiv (65536 : Int)))))
 (some
 (Fin.ret
 (AV.int IntKind.i64
 (IntKind.i64.wrap
 ((48 : Int) +
 IntKind.i64.wrap
 (atT tx_aa5602 (IntKind.u8.wrap ((x.fdiv (4294967296 : Int)).fdiv (65536 : Int))))))),
 st))
 none))
 (branch (AV.bool (decide (x.fdiv (4294967296 : Int) ≥ (256 : Int))))
 (branch (AV.bool (inT tx_aa5602 (IntKind.u8.wrap ((x.fdiv (4294967296 : Int)).fdiv (256 : Int)))))
 (some
 (Fin.ret
 (AV.int IntKind.i64
 (IntKind.i64.wrap
 ((40 : Int) +
 IntKind.i64.wrap
 (atT tx_aa5602 (IntKind.u8.wrap ((x.fdiv (4294967296 : Int)).fdiv (256 : Int))))))),
 st))
 none)
 (branch (AV.bool (inT tx_aa5602 (IntKind.u8.wrap (x.fdiv (4294967296 : Int)))))
 (some
 (Fin.ret
 (AV.int IntKind.i64
 (IntKind.i64.wrap
 ((32 : Int) + IntKind.i64.wrap (atT tx_aa5602 (IntKind.u8.wrap (x.fdiv (4294967296 : Int))))))),
 st))
 none)))
 (branch (AV.bool (decide (x ≥ (65536 : Int))))
 (branch (AV.bool (decide (x.fdiv (65536 : Int) ≥ (256 : Int))))
 (branch (AV.bool (inT tx_aa5602 (IntKind.u8.wrap ((x.fdiv (65536 : Int)).fdiv (256 : Int)))))
 (some
 (Fin.ret
 (AV.int IntKind.i64
 (IntKind.i64.wrap
 ((24 : Int) +
 IntKind.i64.wrap (atT tx_aa5602 (IntKind.u8.wrap ((x.fdiv (65536 : Int)).fdiv (256 : Int))))))),
 st))
 none)
 (branch (AV.bool (inT tx_aa5602 (IntKind.u8.wrap (x.fdiv (65536 : Int)))))
 (some
 (Fin.ret
 (AV.int IntKind.i64
 (IntKind.i64.wrap
 ((16 : Int) + IntKind.i64.wrap (atT tx_aa5602 (IntKind.u8.wrap (x.fdiv (65536 : Int))))))),
 st))
 none))
 (branch (AV.bool (decide (x ≥ (256 : Int))))
 (branch (AV.bool (inT tx_aa5602 (IntKind.u8.wrap (x.fdiv (256 : Int)))))
 (some
 (Fin.ret
 (AV.int IntKind.i64
 (IntKind.i64.wrap
 ((8 : Int) + IntKind.i64.wrap (atT tx_aa5602 (IntKind.u8.wrap (x.fdiv (256 : Int))))))),
 st))
 none)
 (branch (AV.bool (inT tx_aa5602 (IntKind.u8.wrap x)))
 (some
 (Fin.ret
 (AV.int IntKind.i64
 (IntKind.i64.wrap ((0 : Int) + IntKind.i64.wrap (atT tx_aa5602 (IntKind.u8.wrap x))))),
 st))
 none))) := by kernel_rfl

end Go.Proofs.YtcfedmheblbdnaaDoor.V

/- Facts on numbers as bits. -/
set_option linter.unusedVariables false
set_option linter.unusedSimpArgs false
namespace Go.V

theorem wrapNat {k : IntKind} (hs : k.signed = false) {n : Nat} (h : n < 2 ^ k.bits) : k.wrap (n : Int) = n :=
  wrapU hs (by omega) (by exact_mod_cast h)

end Go.V

/- Values: how many bits a number has. -/
set_option linter.unusedVariables false
namespace Go.Proofs.YtcfedmheblbdnaaDoor.V
open Go Go.V Go.RowKit

def bl (n : Nat) : Nat := if n = 0 then 0 else Nat.log2 n + 1
theorem bl_spec {n : Nat} (h : n ≠ 0) : 1 ≤ bl n ∧ 2 ^ (bl n - 1) ≤ n ∧ n < 2 ^ bl n := by
  unfold bl
  rw [if_neg h]
  refine ⟨by omega, ?_, ?_⟩
  · rw [Nat.add_sub_cancel]; exact (Nat.le_log2 h).mp (Nat.le_refl _)
  · exact (Nat.log2_lt h).mp (Nat.lt_succ_self _)
theorem bl_of {n L : Nat} (h1 : 1 ≤ L) (h2 : 2 ^ (L - 1) ≤ n) (h3 : n < 2 ^ L) : bl n = L := by
  have hn : n ≠ 0 := by have := Nat.two_pow_pos (L - 1); omega
  have a := (Nat.le_log2 hn).mpr h2
  have b := (Nat.log2_lt hn).mpr h3
  unfold bl
  rw [if_neg hn]; omega
theorem bl_div {n k : Nat} (h : 1 ≤ n / 2 ^ k) : bl n = k + bl (n / 2 ^ k) := by
  obtain ⟨h1, h2, h3⟩ := bl_spec (n := n / 2 ^ k) (by omega)
  have hp := Nat.two_pow_pos k
  refine bl_of (by omega) ?_ ?_
  · have := Nat.mul_le_mul_right (2 ^ k) h2
    rw [← Nat.pow_add] at this
    rw [show k + bl (n / 2 ^ k) - 1 = bl (n / 2 ^ k) - 1 + k by omega]
    exact Nat.le_trans this (Nat.div_mul_le_self n (2 ^ k))
  · have h4 : n < (n / 2 ^ k + 1) * 2 ^ k := by have := Nat.lt_div_mul_add (a := n) hp; rw [Nat.add_mul, Nat.one_mul]; omega
    have h5 := Nat.mul_le_mul_right (2 ^ k) (show n / 2 ^ k + 1 ≤ 2 ^ bl (n / 2 ^ k) from h3)
    rw [← Nat.pow_add] at h5
    rw [Nat.add_comm]; omega
theorem tab_bl : ∀ j : Fin 256, (strL tx_aa5602).getD j.val 0 = bl j.val := by
  rw [tx_aa5602_eq]; decide +kernel
theorem tab_len : (strL tx_aa5602).length = 256 := by rw [tx_aa5602_eq]; decide +kernel
theorem ln_leaf {n k m : Nat} (hm : m < 256) (hk : k ≤ 56) (h : bl n = k + bl m) (st : St) (K : Int) (hK : K = (k : Nat)) :
    branch (.bool (inT tx_aa5602 (IntKind.u8.wrap (m : Int)))) (some (Fin.ret (AV.int IntKind.i64 (IntKind.i64.wrap (K + IntKind.i64.wrap (atT tx_aa5602 (IntKind.u8.wrap (m : Int)))))), st)) none = (some (Fin.ret (.int .i64 (bl n : Nat)), st) : Ans) := by
  have hw : IntKind.u8.wrap (m : Int) = (m : Nat) := wrapNat rfl (by simpa [IntKind.bits] using hm)
  have hb : bl m ≤ 8 := by
    by_cases h0 : m = 0
    · subst h0; simp [bl]
    · obtain ⟨_, h2, _⟩ := bl_spec h0
      rcases Nat.lt_or_ge 8 (bl m) with h8 | h8
      · have : 2 ^ 8 ≤ 2 ^ (bl m - 1) := Nat.pow_le_pow_right (by omega) (by omega)
        omega
      · exact h8
  rw [hw, branch_of (inT_iff.mpr ⟨by omega, by rw [tab_len]; simpa using hm⟩), atT, opq_eq, Int.toNat_natCast, tab_bl ⟨m, hm⟩, hK]
  simp only
  rw [wrapS (n := ((bl m : Nat) : Int)) (by omega) (by omega), wrapS (by omega) (by omega), h, Int.natCast_add]
theorem fdivN (n d : Nat) : (n : Int).fdiv (d : Int) = ((n / d : Nat) : Int) := by
  rw [Int.fdiv_eq_ediv_of_nonneg _ (by omega)]; rfl
theorem ln_eq {F : Nat} (n : Nat) (h : n < 18446744073709551616) (st : St) : f94.run F [.int .u64 (n : Int)] st = some (.ret (.int .i64 (bl n : Nat)), st) := by
  have e32 : (n : Int).fdiv 4294967296 = ((n / 2 ^ 32 : Nat) : Int) := fdivN n (2 ^ 32)
  have e16 : ∀ m : Nat, (m : Int).fdiv 65536 = ((m / 2 ^ 16 : Nat) : Int) := fun m => fdivN m (2 ^ 16)
  have e8 : ∀ m : Nat, (m : Int).fdiv 256 = ((m / 2 ^ 8 : Nat) : Int) := fun m => fdivN m (2 ^ 8)
  rw [ln_run]
  simp only [e32, e16, e8, Nat.div_div_eq_div_mul, ← Nat.pow_add]
  by_cases h1 : n < 4294967296
  · rw [branch_not (decide_eq_false (by omega))]
    by_cases h2 : n < 65536
    · rw [branch_not (decide_eq_false (by omega))]
      by_cases h3 : n < 256
      · rw [branch_not (decide_eq_false (by omega))]; exact ln_leaf (k := 0) h3 (by omega) (by omega) st _ rfl
      · rw [branch_of (decide_eq_true (by omega))]; exact ln_leaf (k := 8) (by omega) (by omega) (bl_div (by omega)) st _ rfl
    · rw [branch_of (decide_eq_true (by omega))]
      by_cases h3 : n / 2 ^ 16 < 256
      · rw [branch_not (decide_eq_false (by omega))]; exact ln_leaf (k := 16) h3 (by omega) (bl_div (by omega)) st _ rfl
      · rw [branch_of (decide_eq_true (by omega))]; exact ln_leaf (k := 24) (by omega) (by omega) (bl_div (by omega)) st _ rfl
  · rw [branch_of (decide_eq_true (by omega))]
    by_cases h2 : n / 2 ^ 32 < 65536
    · rw [branch_not (decide_eq_false (by omega))]
      by_cases h3 : n / 2 ^ 32 < 256
      · rw [branch_not (decide_eq_false (by omega))]; exact ln_leaf (k := 32) h3 (by omega) (bl_div (by omega)) st _ rfl
      · rw [branch_of (decide_eq_true (by omega))]; exact ln_leaf (k := 40) (by omega) (by omega) (bl_div (by omega)) st _ rfl
    · rw [branch_of (decide_eq_true (by omega))]
      by_cases h3 : n / 2 ^ (32 + 16) < 256
      · rw [branch_not (decide_eq_false (by omega))]; exact ln_leaf (k := 48) h3 (by omega) (bl_div (by omega)) st _ rfl
      · rw [branch_of (decide_eq_true (by omega))]; exact ln_leaf (k := 56) (by omega) (by omega) (bl_div (by omega)) st _ rfl
end Go.Proofs.YtcfedmheblbdnaaDoor.V

/- Values: Len64, as a callee. -/
set_option linter.unusedVariables false
namespace Go.Proofs.YtcfedmheblbdnaaDoor.V
open Go Go.V Go.RowKit

def dec1w : List AV → Option Int
  | [x] => match x with
    | .int k n => match k with
      | .u64 => some n
      | _ => none
    | _ => none
  | _ => none
theorem dec1w_enc : ∀ l a, dec1w l = some a → l = [.int .u64 a] := by
  intro l a h
  unfold dec1w at h
  split at h
  · split at h
    · split at h
      · cases h; rfl
      · cases h
    · cases h
  · cases h
noncomputable def okW (n : Int) : Bool := cdec (0 ≤ n ∧ n < 18446744073709551616)
noncomputable def p94 : POrc Tryd.prog := f94.pureIf dec1w (fun n => [.int .u64 n]) dec1w_enc okW (fun n => .int .i64 (bl n.toNat : Nat)) (fun _ _ => ⟨rfl, fun _ _ => trivial⟩) fun n h => ⟨0, fun st => by
  obtain ⟨h1, h2⟩ := cdec_iff.mp h
  obtain ⟨m, rfl⟩ := Int.eq_ofNat_of_zero_le h1
  exact ln_eq m (by omega) st⟩
end Go.Proofs.YtcfedmheblbdnaaDoor.V

/- The functions' pieces, as told by gen.py. -/
set_option linter.unusedVariables false
set_option maxRecDepth 20000
namespace Go.Proofs.YtcfedmheblbdnaaDoor.V
open Go Go.V Go.RowKit

theorem sz84 : (Tryd.prog.info? 84).map (·.size) = some 1 := by kernel_rfl

/-! ### 85: internal/strconv.numDigits (84); results 2; slots: 0 d, 1 d, 3 nd -/
noncomputable def f85_b : Sim Tryd.prog :=
 (.seq (.live [0] (.region 0 [
 ⟨(opAssign (some 2) (.const (Value.int IntKind.i64 0)) 3 "uscale.go:287" #[]).op, none⟩
 ] (by kernel_rfl)))
 (.seq (.live [0, 3] (.region 1 [
 ⟨(opMove (some 4) (.tmp 0) 84 "uscale.go:288" #[]).op, none⟩,
 ⟨(opCallP p94 (some 5) [(.tmp 4)] #[84] 3 "uscale.go:288" #[eD 0]).op, none⟩,
 ⟨opCall (f93.orc 0) (some 6) [(.tmp 5)] #[3] 3 "uscale.go:288" #[eD 1, eC 1], none⟩,
 ⟨(PSim.hide (opAssign (some 3) (.tmp 6) 3 "uscale.go:288" #[eD 2, eC 2, eP 0, eP 1, eP 2])).op, none⟩
 ] (by kernel_rfl)))
 (.seq (.live [2] (.region 2 [
 ⟨(opMove (some 7) (.tmp 3) 3 "uscale.go:289" #[]).op, none⟩,
 ⟨(opMove (some 8) (.tmp 0) 84 "uscale.go:289" #[]).op, none⟩,
 ⟨(opMove (some 9) (.tmp 3) 3 "uscale.go:289" #[]).op, none⟩,
 ⟨(PSim.glob (opIndexAddrA (some 10) 117 (.global 2) (.tmp 9) 20 84 1 Tryd.underlying117 sz84 0 "uscale.go:289" #[eD 2])).op, none⟩,
 ⟨(opLoadT (.one (.int .u64)) (some 11) 84 (.tmp 10) (.int .u64) Tryd.underlying84 1 sz84 (by kernel_rfl) 84 "uscale.go:289" #[eD 3]).op, none⟩,
 ⟨(opBin (some 12) .geq 84 (.tmp 8) (.tmp 11) 84 4 "uscale.go:289" #[eD 1, eD 4]).op, none⟩,
 ⟨opCall (f95.orc 0) (some 13) [(.tmp 12)] #[4] 3 "uscale.go:289" #[eD 5], none⟩,
 ⟨(opBin (some 14) .add 3 (.tmp 7) (.tmp 13) 3 3 "uscale.go:289" #[eD 0, eD 6]).op, none⟩,
 ⟨(opAssign (some 2) (.tmp 14) 3 "uscale.go:289" #[eD 7, eC 6, eP 0, eP 1, eP 2, eP 3, eP 4, eP 5, eP 6, eP 7]).op, none⟩
 ] (by kernel_rfl)))
 (.live [2] .ret))))

noncomputable def f85 : Fun Tryd.prog where
 id := 85
 fn := Tryd.f85
 hf := Tryd.func85
 hname := by kernel_rfl
 body := f85_b
 hbody := by kernel_rfl
 res := [rTmp 2]
 hres := by kernel_rfl
 n := 15
 hn := by kernel_rfl

end Go.Proofs.YtcfedmheblbdnaaDoor.V

/- What the functions' runs come to; the right sides were printed by a tool, Lean checks them. -/
set_option linter.unusedVariables false
set_option maxRecDepth 100000
namespace Go.Proofs.YtcfedmheblbdnaaDoor.V
open Go Go.V Go.RowKit

theorem nd_run (F : Nat) (x : Int) (st : St) :
 (f85.run F [.int .u64 x] st : Ans) =
 branch (AV.bool (okW x))
 (if
 (0 : Int) ≤ opq ((IntKind.i64.wrap ((↑(bl x.toNat) : Int) * (78913 : Int))).fdiv (262144 : Int)) ∧
 opq ((IntKind.i64.wrap ((↑(bl x.toNat) : Int) * (78913 : Int))).fdiv (262144 : Int)) < (20 : Int) then
 branch
 (AV.bool
 ((LD.one (LT.int IntKind.u64)).is
 (List.drop
 ((opq ((IntKind.i64.wrap ((↑(bl x.toNat) : Int) * (78913 : Int))).fdiv (262144 : Int))).toNat * 1)
 [AV.int IntKind.u64 (1 : Int), AV.int IntKind.u64 (10 : Int), AV.int IntKind.u64 (100 : Int),
 AV.int IntKind.u64 (1000 : Int), AV.int IntKind.u64 (10000 : Int), AV.int IntKind.u64 (100000 : Int),
 AV.int IntKind.u64 (1000000 : Int), AV.int IntKind.u64 (10000000 : Int),
 AV.int IntKind.u64 (100000000 : Int), AV.int IntKind.u64 (1000000000 : Int),
 AV.int IntKind.u64 (10000000000 : Int), AV.int IntKind.u64 (100000000000 : Int),
 AV.int IntKind.u64 (1000000000000 : Int), AV.int IntKind.u64 (10000000000000 : Int),
 AV.int IntKind.u64 (100000000000000 : Int), AV.int IntKind.u64 (1000000000000000 : Int),
 AV.int IntKind.u64 (10000000000000000 : Int), AV.int IntKind.u64 (100000000000000000 : Int),
 AV.int IntKind.u64 (1000000000000000000 : Int), AV.int IntKind.u64 (10000000000000000000 : Int)])))
 (branch
 (AV.bool
 (decide
 (x ≥
 hdI
 (List.drop
 ((opq ((IntKind.i64.wrap ((↑(bl x.toNat) : Int) * (78913 : Int))).fdiv (262144 : Int))).toNat *
 1)
 [AV.int IntKind.u64 (1 : Int), AV.int IntKind.u64 (10 : Int), AV.int IntKind.u64 (100 : Int),
 AV.int IntKind.u64 (1000 : Int), AV.int IntKind.u64 (10000 : Int),
 AV.int IntKind.u64 (100000 : Int), AV.int IntKind.u64 (1000000 : Int),
 AV.int IntKind.u64 (10000000 : Int), AV.int IntKind.u64 (100000000 : Int),
 AV.int IntKind.u64 (1000000000 : Int), AV.int IntKind.u64 (10000000000 : Int),
 AV.int IntKind.u64 (100000000000 : Int), AV.int IntKind.u64 (1000000000000 : Int),
 AV.int IntKind.u64 (10000000000000 : Int), AV.int IntKind.u64 (100000000000000 : Int),
 AV.int IntKind.u64 (1000000000000000 : Int), AV.int IntKind.u64 (10000000000000000 : Int),
 AV.int IntKind.u64 (100000000000000000 : Int), AV.int IntKind.u64 (1000000000000000000 : Int),
 AV.int IntKind.u64 (10000000000000000000 : Int)]))))
 (some
 (Fin.ret
 (AV.int IntKind.i64
 (IntKind.i64.wrap
 (opq ((IntKind.i64.wrap ((↑(bl x.toNat) : Int) * (78913 : Int))).fdiv (262144 : Int)) + (1 : Int)))),
 st))
 (some
 (Fin.ret
 (AV.int IntKind.i64
 (IntKind.i64.wrap
 (opq ((IntKind.i64.wrap ((↑(bl x.toNat) : Int) * (78913 : Int))).fdiv (262144 : Int)) + (0 : Int)))),
 st)))
 none
 else none)
 none := by kernel_rfl

end Go.Proofs.YtcfedmheblbdnaaDoor.V

/- Values: how many digits a number has. -/
set_option linter.unusedVariables false
namespace Go.Proofs.YtcfedmheblbdnaaDoor.V
open Go Go.V Go.RowKit

def tN (L : Nat) : Nat := L * 78913 / 262144
theorem tN_tab : ∀ L : Fin 65, L.val ≠ 0 → tN L.val ≤ 19 ∧ 2 ^ L.val ≤ 10 ^ (tN L.val + 1) ∧ (tN L.val = 0 ∨ 10 ^ (tN L.val - 1) ≤ 2 ^ (L.val - 1)) := by decide +kernel
def ndN (u : Nat) : Nat := if 10 ^ tN (bl u) ≤ u then tN (bl u) + 1 else tN (bl u)
theorem bl_le {u : Nat} (h : u < 18446744073709551616) : bl u ≤ 64 := by
  by_cases h0 : u = 0
  · subst h0; simp [bl]
  · obtain ⟨_, h2, _⟩ := bl_spec h0
    rcases Nat.lt_or_ge 64 (bl u) with h8 | h8
    · have : 2 ^ 64 ≤ 2 ^ (bl u - 1) := Nat.pow_le_pow_right (by omega) (by omega)
      omega
    · exact h8
theorem ndN_spec {u : Nat} (h0 : u ≠ 0) (h : u < 18446744073709551616) : 1 ≤ ndN u ∧ ndN u ≤ 20 ∧ 10 ^ (ndN u - 1) ≤ u ∧ u < 10 ^ ndN u := by
  have hL := bl_le h
  obtain ⟨h1, h2, h3⟩ := bl_spec h0
  obtain ⟨k1, k2, k3⟩ := tN_tab ⟨bl u, by omega⟩ (by show bl u ≠ 0; omega)
  simp only at k1 k2 k3
  unfold ndN
  by_cases hc : 10 ^ tN (bl u) ≤ u
  · rw [if_pos hc, Nat.add_sub_cancel]
    exact ⟨by omega, by omega, hc, Nat.lt_of_lt_of_le h3 k2⟩
  · rw [if_neg hc]
    rcases k3 with k3 | k3
    · rw [k3] at hc; simp at hc; omega
    · refine ⟨?_, by omega, Nat.le_trans k3 h2, by omega⟩
      rcases Nat.eq_zero_or_pos (tN (bl u)) with h5 | h5
      · rw [h5] at hc; simp at hc; omega
      · exact h5
def pow10 : List AV := [AV.int IntKind.u64 (1 : Int), AV.int IntKind.u64 (10 : Int), AV.int IntKind.u64 (100 : Int),
                        AV.int IntKind.u64 (1000 : Int), AV.int IntKind.u64 (10000 : Int),
                        AV.int IntKind.u64 (100000 : Int), AV.int IntKind.u64 (1000000 : Int),
                        AV.int IntKind.u64 (10000000 : Int), AV.int IntKind.u64 (100000000 : Int),
                        AV.int IntKind.u64 (1000000000 : Int), AV.int IntKind.u64 (10000000000 : Int),
                        AV.int IntKind.u64 (100000000000 : Int), AV.int IntKind.u64 (1000000000000 : Int),
                        AV.int IntKind.u64 (10000000000000 : Int), AV.int IntKind.u64 (100000000000000 : Int),
                        AV.int IntKind.u64 (1000000000000000 : Int), AV.int IntKind.u64 (10000000000000000 : Int),
                        AV.int IntKind.u64 (100000000000000000 : Int), AV.int IntKind.u64 (1000000000000000000 : Int),
                        AV.int IntKind.u64 (10000000000000000000 : Int)]
theorem pow10_at : ∀ t : Fin 20, (LD.one (LT.int IntKind.u64)).is (List.drop t.val pow10) = true ∧ hdI (List.drop t.val pow10) = ((10 ^ t.val : Nat) : Int) := by
  intro t
  obtain ⟨t, ht⟩ := t
  match t, ht with
  | 0, _ | 1, _ | 2, _ | 3, _ | 4, _ | 5, _ | 6, _ | 7, _ | 8, _ | 9, _ | 10, _ | 11, _ | 12, _ | 13, _ | 14, _ | 15, _ | 16, _ | 17, _ | 18, _ | 19, _ => exact ⟨rfl, rfl⟩
  | n + 20, h => omega
theorem nd_eq {F : Nat} (u : Nat) (h : u < 18446744073709551616) (st : St) : f85.run F [.int .u64 (u : Int)] st = some (.ret (.int .i64 (ndN u : Nat)), st) := by
  have hL := bl_le h
  have ht : tN (bl u) ≤ 19 := by
    by_cases h0 : bl u = 0
    · rw [h0]; decide
    · exact (tN_tab ⟨bl u, by omega⟩ h0).1
  have e : opq ((IntKind.i64.wrap (((bl u : Nat) : Int) * 78913)).fdiv 262144) = ((tN (bl u) : Nat) : Int) := by
    rw [opq_eq, wrapS (by omega) (by omega), show ((bl u : Nat) : Int) * 78913 = ((bl u * 78913 : Nat) : Int) by omega]
    exact fdivN _ 262144
  obtain ⟨k1, k2⟩ := pow10_at ⟨tN (bl u), by omega⟩
  simp only [pow10] at k1 k2
  rw [nd_run, branch_of (show okW (u : Int) = true from cdec_iff.mpr ⟨by omega, by omega⟩), Int.toNat_natCast, e, if_pos ⟨by omega, by omega⟩, Int.toNat_natCast, Nat.mul_one, branch_of k1, k2, wrapS (by omega) (by omega), wrapS (by omega) (by omega)]
  unfold ndN
  by_cases hc : 10 ^ tN (bl u) ≤ u
  · rw [branch_of (decide_eq_true (by exact_mod_cast hc)), if_pos hc, Int.natCast_add]; rfl
  · rw [branch_not (decide_eq_false (by intro h'; exact hc (by exact_mod_cast h'))), if_neg hc, Int.add_zero]
noncomputable def ndO (n : Int) : Int := opq ((ndN n.toNat : Nat) : Int)
noncomputable def p85 : POrc Tryd.prog := f85.pureIf dec1w (fun n => [.int .u64 n]) dec1w_enc okW (fun n => .int .i64 (ndO n)) (fun _ _ => ⟨rfl, fun _ _ => trivial⟩) fun n h => ⟨0, fun st => by
  rw [ndO, opq_eq]
  obtain ⟨h1, h2⟩ := cdec_iff.mp h
  obtain ⟨m, rfl⟩ := Int.eq_ofNat_of_zero_le h1
  exact nd_eq m (by omega) st⟩
end Go.Proofs.YtcfedmheblbdnaaDoor.V

/- The functions' pieces, as told by gen.py. -/
set_option linter.unusedVariables false
set_option maxRecDepth 20000
namespace Go.Proofs.YtcfedmheblbdnaaDoor.V
open Go Go.V Go.RowKit

noncomputable def tx_b18925 : ByteArray := opq { data := #[48, 49, 50, 51, 52, 53, 54, 55, 56, 57, 97, 98, 99, 100, 101, 102, 103, 104, 105, 106, 107, 108, 109, 110, 111, 112, 113, 114, 115, 116, 117, 118, 119, 120, 121, 122] }
theorem tx_b18925_eq : tx_b18925 = { data := #[48, 49, 50, 51, 52, 53, 54, 55, 56, 57, 97, 98, 99, 100, 101, 102, 103, 104, 105, 106, 107, 108, 109, 110, 111, 112, 113, 114, 115, 116, 117, 118, 119, 120, 121, 122] } := opq_eq _
noncomputable def tx_730b8f : ByteArray := opq { data := (.append #[48, 48, 48, 49, 48, 50, 48, 51, 48, 52, 48, 53, 48, 54, 48, 55, 48, 56, 48, 57, 49, 48, 49, 49, 49, 50, 49, 51, 49, 52, 49, 53, 49, 54, 49, 55, 49, 56, 49, 57, 50, 48, 50, 49, 50, 50, 50, 51, 50, 52, 50, 53, 50, 54, 50, 55, 50, 56, 50, 57, 51, 48, 51, 49, 51, 50, 51, 51, 51, 52, 51, 53, 51, 54, 51, 55, 51, 56, 51, 57, 52, 48, 52, 49, 52, 50, 52, 51, 52, 52, 52, 53, 52, 54, 52, 55, 52, 56, 52, 57] #[53, 48, 53, 49, 53, 50, 53, 51, 53, 52, 53, 53, 53, 54, 53, 55, 53, 56, 53, 57, 54, 48, 54, 49, 54, 50, 54, 51, 54, 52, 54, 53, 54, 54, 54, 55, 54, 56, 54, 57, 55, 48, 55, 49, 55, 50, 55, 51, 55, 52, 55, 53, 55, 54, 55, 55, 55, 56, 55, 57, 56, 48, 56, 49, 56, 50, 56, 51, 56, 52, 56, 53, 56, 54, 56, 55, 56, 56, 56, 57, 57, 48, 57, 49, 57, 50, 57, 51, 57, 52, 57, 53, 57, 54, 57, 55, 57, 56, 57, 57]) }
theorem tx_730b8f_eq : tx_730b8f = { data := (.append #[48, 48, 48, 49, 48, 50, 48, 51, 48, 52, 48, 53, 48, 54, 48, 55, 48, 56, 48, 57, 49, 48, 49, 49, 49, 50, 49, 51, 49, 52, 49, 53, 49, 54, 49, 55, 49, 56, 49, 57, 50, 48, 50, 49, 50, 50, 50, 51, 50, 52, 50, 53, 50, 54, 50, 55, 50, 56, 50, 57, 51, 48, 51, 49, 51, 50, 51, 51, 51, 52, 51, 53, 51, 54, 51, 55, 51, 56, 51, 57, 52, 48, 52, 49, 52, 50, 52, 51, 52, 52, 52, 53, 52, 54, 52, 55, 52, 56, 52, 57] #[53, 48, 53, 49, 53, 50, 53, 51, 53, 52, 53, 53, 53, 54, 53, 55, 53, 56, 53, 57, 54, 48, 54, 49, 54, 50, 54, 51, 54, 52, 54, 53, 54, 54, 54, 55, 54, 56, 54, 57, 55, 48, 55, 49, 55, 50, 55, 51, 55, 52, 55, 53, 55, 54, 55, 55, 55, 56, 55, 57, 56, 48, 56, 49, 56, 50, 56, 51, 56, 52, 56, 53, 56, 54, 56, 55, 56, 56, 56, 57, 57, 48, 57, 49, 57, 50, 57, 51, 57, 52, 57, 53, 57, 54, 57, 55, 57, 56, 57, 57]) } := opq_eq _

/-! ### 84: internal/strconv.small (3); results 2; slots: 0 i, 1 i -/
noncomputable def f84_b : Sim Tryd.prog :=
 (.seq (.live [0] (.region 0 [
 ⟨(opAssign (some 2) (.const (Value.string { data := #[] })) 9 "itoa.go:171" #[]).op, none⟩
 ] (by kernel_rfl)))
 (.seq (.seq (.live [0, 4] (.region 1 [
 ⟨(opMove (some 3) (.tmp 0) 3 "itoa.go:172" #[]).op, none⟩,
 ⟨(opBin (some 4) .lss 3 (.tmp 3) (.const (Value.int IntKind.i64 10)) 3 4 "itoa.go:172" #[eD 0]).op, none⟩
 ] (by kernel_rfl)))
 (.cond (.tmp 4)
 (.seq (.live [2] (.region 2 [
 ⟨(opMove (some 5) (.tmp 0) 3 "itoa.go:173" #[]).op, none⟩,
 ⟨(opMove (some 6) (.tmp 0) 3 "itoa.go:173" #[]).op, none⟩,
 ⟨(opBin (some 7) .add 3 (.tmp 6) (.const (Value.int IntKind.i64 1)) 3 3 "itoa.go:173" #[eD 1]).op, none⟩,
 ⟨(PSim.named (opSliceStrW (some 8) 9 (.const (Value.string { data := #[48, 49, 50, 51, 52, 53, 54, 55, 56, 57, 97, 98, 99, 100, 101, 102, 103, 104, 105, 106, 107, 108, 109, 110, 111, 112, 113, 114, 115, 116, 117, 118, 119, 120, 121, 122] })) (some (.tmp 5)) (some (.tmp 7)) Tryd.underlying9 9 "itoa.go:173" #[eD 0, eD 2]) tx_b18925 { data := #[48, 49, 50, 51, 52, 53, 54, 55, 56, 57, 97, 98, 99, 100, 101, 102, 103, 104, 105, 106, 107, 108, 109, 110, 111, 112, 113, 114, 115, 116, 117, 118, 119, 120, 121, 122] } tx_b18925_eq (by kernel_rfl)).op, none⟩,
 ⟨(opAssign (some 2) (.tmp 8) 9 "itoa.go:173" #[eD 3, eP 0, eP 1, eP 2, eP 3]).op, none⟩
 ] (by kernel_rfl)))
 (.live [2] .ret))
 .skip))
 (.seq (.live [2] (.region 3 [
 ⟨(opMove (some 9) (.tmp 0) 3 "itoa.go:175" #[]).op, none⟩,
 ⟨(opBin (some 10) .mul 3 (.tmp 9) (.const (Value.int IntKind.i64 2)) 3 3 "itoa.go:175" #[eD 0]).op, none⟩,
 ⟨(opMove (some 11) (.tmp 0) 3 "itoa.go:175" #[]).op, none⟩,
 ⟨(opBin (some 12) .mul 3 (.tmp 11) (.const (Value.int IntKind.i64 2)) 3 3 "itoa.go:175" #[eD 2]).op, none⟩,
 ⟨(opBin (some 13) .add 3 (.tmp 12) (.const (Value.int IntKind.i64 2)) 3 3 "itoa.go:175" #[eD 3]).op, none⟩,
 ⟨(PSim.named (opSliceStrW (some 14) 9 (.const (Value.string { data := (.append #[48, 48, 48, 49, 48, 50, 48, 51, 48, 52, 48, 53, 48, 54, 48, 55, 48, 56, 48, 57, 49, 48, 49, 49, 49, 50, 49, 51, 49, 52, 49, 53, 49, 54, 49, 55, 49, 56, 49, 57, 50, 48, 50, 49, 50, 50, 50, 51, 50, 52, 50, 53, 50, 54, 50, 55, 50, 56, 50, 57, 51, 48, 51, 49, 51, 50, 51, 51, 51, 52, 51, 53, 51, 54, 51, 55, 51, 56, 51, 57, 52, 48, 52, 49, 52, 50, 52, 51, 52, 52, 52, 53, 52, 54, 52, 55, 52, 56, 52, 57] #[53, 48, 53, 49, 53, 50, 53, 51, 53, 52, 53, 53, 53, 54, 53, 55, 53, 56, 53, 57, 54, 48, 54, 49, 54, 50, 54, 51, 54, 52, 54, 53, 54, 54, 54, 55, 54, 56, 54, 57, 55, 48, 55, 49, 55, 50, 55, 51, 55, 52, 55, 53, 55, 54, 55, 55, 55, 56, 55, 57, 56, 48, 56, 49, 56, 50, 56, 51, 56, 52, 56, 53, 56, 54, 56, 55, 56, 56, 56, 57, 57, 48, 57, 49, 57, 50, 57, 51, 57, 52, 57, 53, 57, 54, 57, 55, 57, 56, 57, 57]) })) (some (.tmp 10)) (some (.tmp 13)) Tryd.underlying9 9 "itoa.go:175" #[eD 1, eD 4]) tx_730b8f { data := (.append #[48, 48, 48, 49, 48, 50, 48, 51, 48, 52, 48, 53, 48, 54, 48, 55, 48, 56, 48, 57, 49, 48, 49, 49, 49, 50, 49, 51, 49, 52, 49, 53, 49, 54, 49, 55, 49, 56, 49, 57, 50, 48, 50, 49, 50, 50, 50, 51, 50, 52, 50, 53, 50, 54, 50, 55, 50, 56, 50, 57, 51, 48, 51, 49, 51, 50, 51, 51, 51, 52, 51, 53, 51, 54, 51, 55, 51, 56, 51, 57, 52, 48, 52, 49, 52, 50, 52, 51, 52, 52, 52, 53, 52, 54, 52, 55, 52, 56, 52, 57] #[53, 48, 53, 49, 53, 50, 53, 51, 53, 52, 53, 53, 53, 54, 53, 55, 53, 56, 53, 57, 54, 48, 54, 49, 54, 50, 54, 51, 54, 52, 54, 53, 54, 54, 54, 55, 54, 56, 54, 57, 55, 48, 55, 49, 55, 50, 55, 51, 55, 52, 55, 53, 55, 54, 55, 55, 55, 56, 55, 57, 56, 48, 56, 49, 56, 50, 56, 51, 56, 52, 56, 53, 56, 54, 56, 55, 56, 56, 56, 57, 57, 48, 57, 49, 57, 50, 57, 51, 57, 52, 57, 53, 57, 54, 57, 55, 57, 56, 57, 57]) } tx_730b8f_eq (by kernel_rfl)).op, none⟩,
 ⟨(opAssign (some 2) (.tmp 14) 9 "itoa.go:175" #[eD 5, eP 0, eP 1, eP 2, eP 3, eP 4, eP 5]).op, none⟩
 ] (by kernel_rfl)))
 (.live [2] .ret))))

noncomputable def f84 : Fun Tryd.prog where
 id := 84
 fn := Tryd.f84
 hf := Tryd.func84
 hname := by kernel_rfl
 body := f84_b
 hbody := by kernel_rfl
 res := [rTmp 2]
 hres := by kernel_rfl
 n := 15
 hn := by kernel_rfl

/-! ### 86: internal/strconv.formatBase10 (46, 84); results ; slots:  -/
/-- A loop's round; at its head live: 0 , 1 , 4  -/
noncomputable def f86_l0 : Sim Tryd.prog :=
 (.seq (.seq (.live [0, 1, 4, 20] (.region 1 [
 ⟨(opMove (some 19) (.tmp 4) 3 "itoa.go:196" #[]).op, none⟩,
 ⟨(opBin (some 20) .geq 3 (.tmp 19) (.const (Value.int IntKind.i64 8)) 3 4 "itoa.go:196" #[eD 0]).op, none⟩
 ] (by kernel_rfl)))
 (.cond (.tmp 20)
 .skip
 (.live [0, 1, 4] (.exit 0))))
 (.block 1 (.seq (.live [0, 1, 4, 5] (.region 2 [
 ⟨(opMove (some 21) (.tmp 1) 84 "itoa.go:198" #[]).op, none⟩,
 ⟨(opBin (some 22) .rem 84 (.tmp 21) (.const (Value.int IntKind.u64 100000000)) 84 84 "itoa.go:198" #[eD 0]).op, none⟩,
 ⟨(opConvInt (some 23) 84 118 (.tmp 22) (.int .u64) Tryd.underlying84 .u32 Tryd.underlying118 118 "itoa.go:198" #[eD 1]).op, none⟩,
 ⟨(opAssign (some 5) (.tmp 23) 118 "itoa.go:198" #[eD 2, eP 0, eP 1, eP 2]).op, none⟩
 ] (by kernel_rfl)))
 (.seq (.live [0, 1, 4, 5] (.region 3 [
 ⟨(opMove (some 24) (.tmp 1) 84 "itoa.go:199" #[]).op, none⟩,
 ⟨(opBin (some 25) .quo 84 (.tmp 24) (.const (Value.int IntKind.u64 100000000)) 84 84 "itoa.go:199" #[eD 0]).op, none⟩,
 ⟨(opAssign (some 1) (.tmp 25) 84 "itoa.go:199" #[eD 1, eP 0, eP 1]).op, none⟩
 ] (by kernel_rfl)))
 (.seq (.live [0, 1, 4, 6, 7] (.region 4 [
 ⟨(opMove (some 26) (.tmp 5) 118 "itoa.go:200" #[]).op, none⟩,
 ⟨(opBin (some 27) .quo 118 (.tmp 26) (.const (Value.int IntKind.u32 10000)) 118 118 "itoa.go:200" #[eD 0]).op, none⟩,
 ⟨(opMove (some 28) (.tmp 5) 118 "itoa.go:200" #[{ on := 4, ground := (Ground.gcOnly Departure.lateStores) }]).op, none⟩,
 ⟨(opBin (some 29) .rem 118 (.tmp 28) (.const (Value.int IntKind.u32 10000)) 118 118 "itoa.go:200" #[eD 2, { on := 4, ground := (Ground.gcOnly Departure.lateStores) }]).op, none⟩,
 ⟨(opAssign (some 6) (.tmp 27) 118 "itoa.go:200" #[eD 1, eP 0, eP 1, { on := 2, ground := (Ground.textOnly Departure.lateStores) }, { on := 3, ground := (Ground.textOnly Departure.lateStores) }]).op, none⟩,
 ⟨(opAssign (some 7) (.tmp 29) 118 "itoa.go:200" #[eD 3, eC 4, eP 0, eP 1, eP 2, eP 3, eP 4]).op, none⟩
 ] (by kernel_rfl)))
 (.seq (.live [0, 1, 4, 6, 8, 9] (.region 5 [
 ⟨(opMove (some 30) (.tmp 7) 118 "itoa.go:201" #[]).op, none⟩,
 ⟨(opBin (some 31) .quo 118 (.tmp 30) (.const (Value.int IntKind.u32 100)) 118 118 "itoa.go:201" #[eD 0]).op, none⟩,
 ⟨(opBin (some 32) .mul 118 (.tmp 31) (.const (Value.int IntKind.u32 2)) 118 118 "itoa.go:201" #[eD 1]).op, none⟩,
 ⟨(opMove (some 33) (.tmp 7) 118 "itoa.go:201" #[{ on := 6, ground := (Ground.gcOnly Departure.lateStores) }]).op, none⟩,
 ⟨(opBin (some 34) .rem 118 (.tmp 33) (.const (Value.int IntKind.u32 100)) 118 118 "itoa.go:201" #[eD 3, { on := 6, ground := (Ground.gcOnly Departure.lateStores) }]).op, none⟩,
 ⟨(opBin (some 35) .mul 118 (.tmp 34) (.const (Value.int IntKind.u32 2)) 118 118 "itoa.go:201" #[eD 4, { on := 6, ground := (Ground.gcOnly Departure.lateStores) }]).op, none⟩,
 ⟨(opAssign (some 8) (.tmp 32) 118 "itoa.go:201" #[eD 2, eP 0, eP 1, eP 2, { on := 3, ground := (Ground.textOnly Departure.lateStores) }, { on := 4, ground := (Ground.textOnly Departure.lateStores) }, { on := 5, ground := (Ground.textOnly Departure.lateStores) }]).op, none⟩,
 ⟨(opAssign (some 9) (.tmp 35) 118 "itoa.go:201" #[eD 5, eC 6, eP 0, eP 1, eP 2, eP 3, eP 4, eP 5, eP 6]).op, none⟩
 ] (by kernel_rfl)))
 (.seq (.live [0, 1, 4, 8, 9, 10, 11] (.region 6 [
 ⟨(opMove (some 36) (.tmp 6) 118 "itoa.go:202" #[]).op, none⟩,
 ⟨(opBin (some 37) .quo 118 (.tmp 36) (.const (Value.int IntKind.u32 100)) 118 118 "itoa.go:202" #[eD 0]).op, none⟩,
 ⟨(opBin (some 38) .mul 118 (.tmp 37) (.const (Value.int IntKind.u32 2)) 118 118 "itoa.go:202" #[eD 1]).op, none⟩,
 ⟨(opMove (some 39) (.tmp 6) 118 "itoa.go:202" #[{ on := 6, ground := (Ground.gcOnly Departure.lateStores) }]).op, none⟩,
 ⟨(opBin (some 40) .rem 118 (.tmp 39) (.const (Value.int IntKind.u32 100)) 118 118 "itoa.go:202" #[eD 3, { on := 6, ground := (Ground.gcOnly Departure.lateStores) }]).op, none⟩,
 ⟨(opBin (some 41) .mul 118 (.tmp 40) (.const (Value.int IntKind.u32 2)) 118 118 "itoa.go:202" #[eD 4, { on := 6, ground := (Ground.gcOnly Departure.lateStores) }]).op, none⟩,
 ⟨(opAssign (some 10) (.tmp 38) 118 "itoa.go:202" #[eD 2, eP 0, eP 1, eP 2, { on := 3, ground := (Ground.textOnly Departure.lateStores) }, { on := 4, ground := (Ground.textOnly Departure.lateStores) }, { on := 5, ground := (Ground.textOnly Departure.lateStores) }]).op, none⟩,
 ⟨(opAssign (some 11) (.tmp 41) 118 "itoa.go:202" #[eD 5, eC 6, eP 0, eP 1, eP 2, eP 3, eP 4, eP 5, eP 6]).op, none⟩
 ] (by kernel_rfl)))
 (.seq (.live [0, 1, 4, 8, 10, 11] (.draw 7 [
 ⟨.p (opMove (some 42) (.tmp 0) 46 "itoa.go:203" #[]), none⟩,
 ⟨.p (opMove (some 43) (.tmp 4) 3 "itoa.go:203" #[]), none⟩,
 ⟨.pn (opBin (some 44) .sub 3 (.tmp 43) (.const (Value.int IntKind.i64 1)) 3 3 "itoa.go:203" #[eD 1]) opBin_nat, none⟩,
 ⟨.p (opMove (some 45) (.tmp 0) 46 "itoa.go:203" #[{ on := 12, ground := (Ground.gcOnly Departure.lateStores) }]), none⟩,
 ⟨.p (opMove (some 46) (.tmp 4) 3 "itoa.go:203" #[{ on := 12, ground := (Ground.gcOnly Departure.lateStores) }]), none⟩,
 ⟨.pn (opBin (some 47) .sub 3 (.tmp 46) (.const (Value.int IntKind.i64 2)) 3 3 "itoa.go:203" #[eD 4, { on := 12, ground := (Ground.gcOnly Departure.lateStores) }]) opBin_nat, none⟩,
 ⟨.p (opMove (some 48) (.tmp 9) 118 "itoa.go:203" #[]), none⟩,
 ⟨.pn (opBin (some 49) .add 118 (.tmp 48) (.const (Value.int IntKind.u32 1)) 118 118 "itoa.go:203" #[eD 6]) opBin_nat, none⟩,
 ⟨.pn (PSim.named (opIndexStrW (some 50) 9 (.const (Value.string { data := (.append #[48, 48, 48, 49, 48, 50, 48, 51, 48, 52, 48, 53, 48, 54, 48, 55, 48, 56, 48, 57, 49, 48, 49, 49, 49, 50, 49, 51, 49, 52, 49, 53, 49, 54, 49, 55, 49, 56, 49, 57, 50, 48, 50, 49, 50, 50, 50, 51, 50, 52, 50, 53, 50, 54, 50, 55, 50, 56, 50, 57, 51, 48, 51, 49, 51, 50, 51, 51, 51, 52, 51, 53, 51, 54, 51, 55, 51, 56, 51, 57, 52, 48, 52, 49, 52, 50, 52, 51, 52, 52, 52, 53, 52, 54, 52, 55, 52, 56, 52, 57] #[53, 48, 53, 49, 53, 50, 53, 51, 53, 52, 53, 53, 53, 54, 53, 55, 53, 56, 53, 57, 54, 48, 54, 49, 54, 50, 54, 51, 54, 52, 54, 53, 54, 54, 54, 55, 54, 56, 54, 57, 55, 48, 55, 49, 55, 50, 55, 51, 55, 52, 55, 53, 55, 54, 55, 55, 55, 56, 55, 57, 56, 48, 56, 49, 56, 50, 56, 51, 56, 52, 56, 53, 56, 54, 56, 55, 56, 56, 56, 57, 57, 48, 57, 49, 57, 50, 57, 51, 57, 52, 57, 53, 57, 54, 57, 55, 57, 56, 57, 57]) })) (.tmp 49) Tryd.underlying9 5 "itoa.go:203" #[eD 7]) tx_730b8f { data := (.append #[48, 48, 48, 49, 48, 50, 48, 51, 48, 52, 48, 53, 48, 54, 48, 55, 48, 56, 48, 57, 49, 48, 49, 49, 49, 50, 49, 51, 49, 52, 49, 53, 49, 54, 49, 55, 49, 56, 49, 57, 50, 48, 50, 49, 50, 50, 50, 51, 50, 52, 50, 53, 50, 54, 50, 55, 50, 56, 50, 57, 51, 48, 51, 49, 51, 50, 51, 51, 51, 52, 51, 53, 51, 54, 51, 55, 51, 56, 51, 57, 52, 48, 52, 49, 52, 50, 52, 51, 52, 52, 52, 53, 52, 54, 52, 55, 52, 56, 52, 57] #[53, 48, 53, 49, 53, 50, 53, 51, 53, 52, 53, 53, 53, 54, 53, 55, 53, 56, 53, 57, 54, 48, 54, 49, 54, 50, 54, 51, 54, 52, 54, 53, 54, 54, 54, 55, 54, 56, 54, 57, 55, 48, 55, 49, 55, 50, 55, 51, 55, 52, 55, 53, 55, 54, 55, 55, 55, 56, 55, 57, 56, 48, 56, 49, 56, 50, 56, 51, 56, 52, 56, 53, 56, 54, 56, 55, 56, 56, 56, 57, 57, 48, 57, 49, 57, 50, 57, 51, 57, 52, 57, 53, 57, 54, 57, 55, 57, 56, 57, 57]) } tx_730b8f_eq (by kernel_rfl)) (PSim.named_nat opIndexStrW_nat), none⟩,
 ⟨.p (opMove (some 51) (.tmp 9) 118 "itoa.go:203" #[]), none⟩,
 ⟨.pn (PSim.named (opIndexStrW (some 52) 9 (.const (Value.string { data := (.append #[48, 48, 48, 49, 48, 50, 48, 51, 48, 52, 48, 53, 48, 54, 48, 55, 48, 56, 48, 57, 49, 48, 49, 49, 49, 50, 49, 51, 49, 52, 49, 53, 49, 54, 49, 55, 49, 56, 49, 57, 50, 48, 50, 49, 50, 50, 50, 51, 50, 52, 50, 53, 50, 54, 50, 55, 50, 56, 50, 57, 51, 48, 51, 49, 51, 50, 51, 51, 51, 52, 51, 53, 51, 54, 51, 55, 51, 56, 51, 57, 52, 48, 52, 49, 52, 50, 52, 51, 52, 52, 52, 53, 52, 54, 52, 55, 52, 56, 52, 57] #[53, 48, 53, 49, 53, 50, 53, 51, 53, 52, 53, 53, 53, 54, 53, 55, 53, 56, 53, 57, 54, 48, 54, 49, 54, 50, 54, 51, 54, 52, 54, 53, 54, 54, 54, 55, 54, 56, 54, 57, 55, 48, 55, 49, 55, 50, 55, 51, 55, 52, 55, 53, 55, 54, 55, 55, 55, 56, 55, 57, 56, 48, 56, 49, 56, 50, 56, 51, 56, 52, 56, 53, 56, 54, 56, 55, 56, 56, 56, 57, 57, 48, 57, 49, 57, 50, 57, 51, 57, 52, 57, 53, 57, 54, 57, 55, 57, 56, 57, 57]) })) (.tmp 51) Tryd.underlying9 5 "itoa.go:203" #[eD 9]) tx_730b8f { data := (.append #[48, 48, 48, 49, 48, 50, 48, 51, 48, 52, 48, 53, 48, 54, 48, 55, 48, 56, 48, 57, 49, 48, 49, 49, 49, 50, 49, 51, 49, 52, 49, 53, 49, 54, 49, 55, 49, 56, 49, 57, 50, 48, 50, 49, 50, 50, 50, 51, 50, 52, 50, 53, 50, 54, 50, 55, 50, 56, 50, 57, 51, 48, 51, 49, 51, 50, 51, 51, 51, 52, 51, 53, 51, 54, 51, 55, 51, 56, 51, 57, 52, 48, 52, 49, 52, 50, 52, 51, 52, 52, 52, 53, 52, 54, 52, 55, 52, 56, 52, 57] #[53, 48, 53, 49, 53, 50, 53, 51, 53, 52, 53, 53, 53, 54, 53, 55, 53, 56, 53, 57, 54, 48, 54, 49, 54, 50, 54, 51, 54, 52, 54, 53, 54, 54, 54, 55, 54, 56, 54, 57, 55, 48, 55, 49, 55, 50, 55, 51, 55, 52, 55, 53, 55, 54, 55, 55, 55, 56, 55, 57, 56, 48, 56, 49, 56, 50, 56, 51, 56, 52, 56, 53, 56, 54, 56, 55, 56, 56, 56, 57, 57, 48, 57, 49, 57, 50, 57, 51, 57, 52, 57, 53, 57, 54, 57, 55, 57, 56, 57, 57]) } tx_730b8f_eq (by kernel_rfl)) (PSim.named_nat opIndexStrW_nat), none⟩,
 ⟨.pn (opIndexAddrT (some 53) 46 (.tmp 42) (.tmp 44) 5 1 Tryd.underlying46 sz5 0 "itoa.go:203" #[eD 0, eD 2, eP 0, eP 1, eP 2, { on := 3, ground := (Ground.textOnly Departure.lateStores) }, { on := 4, ground := (Ground.textOnly Departure.lateStores) }, { on := 5, ground := (Ground.textOnly Departure.lateStores) }, eP 6, eP 7, eP 8, { on := 9, ground := (Ground.textOnly Departure.lateStores) }, { on := 10, ground := (Ground.textOnly Departure.lateStoresUnsure) }]) opIndexAddrT_nat, none⟩,
 ⟨.mn (opStoreC none 5 (.tmp 53) (.tmp 50) 1 sz5 0 "itoa.go:203" #[eD 11, eD 8, eP 0, eP 1, eP 2, { on := 3, ground := (Ground.textOnly Departure.lateStores) }, { on := 4, ground := (Ground.textOnly Departure.lateStores) }, { on := 5, ground := (Ground.textOnly Departure.lateStores) }, eP 6, eP 7, eP 8, { on := 9, ground := (Ground.textOnly Departure.lateStores) }, { on := 10, ground := (Ground.textOnly Departure.lateStoresUnsure) }]) opStoreC_nat, none⟩,
 ⟨.pn (opIndexAddrT (some 54) 46 (.tmp 45) (.tmp 47) 5 1 Tryd.underlying46 sz5 0 "itoa.go:203" #[eD 3, eD 5, eP 0, eP 1, eP 2, eP 3, eP 4, eP 5, eP 6, eP 7, eP 8, eP 9, eP 10, eP 11, eP 12]) opIndexAddrT_nat, none⟩,
 ⟨.mn (opStoreC none 5 (.tmp 54) (.tmp 52) 1 sz5 0 "itoa.go:203" #[eD 13, eD 10, eC 12, eP 0, eP 1, eP 2, eP 3, eP 4, eP 5, eP 6, eP 7, eP 8, eP 9, eP 10, eP 11, eP 12]) opStoreC_nat, none⟩
 ] mixed (by kernel_rfl)))
 (.seq (.live [0, 1, 4, 10, 11] (.draw 8 [
 ⟨.p (opMove (some 55) (.tmp 0) 46 "itoa.go:204" #[]), none⟩,
 ⟨.p (opMove (some 56) (.tmp 4) 3 "itoa.go:204" #[]), none⟩,
 ⟨.pn (opBin (some 57) .sub 3 (.tmp 56) (.const (Value.int IntKind.i64 3)) 3 3 "itoa.go:204" #[eD 1]) opBin_nat, none⟩,
 ⟨.p (opMove (some 58) (.tmp 0) 46 "itoa.go:204" #[{ on := 12, ground := (Ground.gcOnly Departure.lateStores) }]), none⟩,
 ⟨.p (opMove (some 59) (.tmp 4) 3 "itoa.go:204" #[{ on := 12, ground := (Ground.gcOnly Departure.lateStores) }]), none⟩,
 ⟨.pn (opBin (some 60) .sub 3 (.tmp 59) (.const (Value.int IntKind.i64 4)) 3 3 "itoa.go:204" #[eD 4, { on := 12, ground := (Ground.gcOnly Departure.lateStores) }]) opBin_nat, none⟩,
 ⟨.p (opMove (some 61) (.tmp 8) 118 "itoa.go:204" #[]), none⟩,
 ⟨.pn (opBin (some 62) .add 118 (.tmp 61) (.const (Value.int IntKind.u32 1)) 118 118 "itoa.go:204" #[eD 6]) opBin_nat, none⟩,
 ⟨.pn (PSim.named (opIndexStrW (some 63) 9 (.const (Value.string { data := (.append #[48, 48, 48, 49, 48, 50, 48, 51, 48, 52, 48, 53, 48, 54, 48, 55, 48, 56, 48, 57, 49, 48, 49, 49, 49, 50, 49, 51, 49, 52, 49, 53, 49, 54, 49, 55, 49, 56, 49, 57, 50, 48, 50, 49, 50, 50, 50, 51, 50, 52, 50, 53, 50, 54, 50, 55, 50, 56, 50, 57, 51, 48, 51, 49, 51, 50, 51, 51, 51, 52, 51, 53, 51, 54, 51, 55, 51, 56, 51, 57, 52, 48, 52, 49, 52, 50, 52, 51, 52, 52, 52, 53, 52, 54, 52, 55, 52, 56, 52, 57] #[53, 48, 53, 49, 53, 50, 53, 51, 53, 52, 53, 53, 53, 54, 53, 55, 53, 56, 53, 57, 54, 48, 54, 49, 54, 50, 54, 51, 54, 52, 54, 53, 54, 54, 54, 55, 54, 56, 54, 57, 55, 48, 55, 49, 55, 50, 55, 51, 55, 52, 55, 53, 55, 54, 55, 55, 55, 56, 55, 57, 56, 48, 56, 49, 56, 50, 56, 51, 56, 52, 56, 53, 56, 54, 56, 55, 56, 56, 56, 57, 57, 48, 57, 49, 57, 50, 57, 51, 57, 52, 57, 53, 57, 54, 57, 55, 57, 56, 57, 57]) })) (.tmp 62) Tryd.underlying9 5 "itoa.go:204" #[eD 7]) tx_730b8f { data := (.append #[48, 48, 48, 49, 48, 50, 48, 51, 48, 52, 48, 53, 48, 54, 48, 55, 48, 56, 48, 57, 49, 48, 49, 49, 49, 50, 49, 51, 49, 52, 49, 53, 49, 54, 49, 55, 49, 56, 49, 57, 50, 48, 50, 49, 50, 50, 50, 51, 50, 52, 50, 53, 50, 54, 50, 55, 50, 56, 50, 57, 51, 48, 51, 49, 51, 50, 51, 51, 51, 52, 51, 53, 51, 54, 51, 55, 51, 56, 51, 57, 52, 48, 52, 49, 52, 50, 52, 51, 52, 52, 52, 53, 52, 54, 52, 55, 52, 56, 52, 57] #[53, 48, 53, 49, 53, 50, 53, 51, 53, 52, 53, 53, 53, 54, 53, 55, 53, 56, 53, 57, 54, 48, 54, 49, 54, 50, 54, 51, 54, 52, 54, 53, 54, 54, 54, 55, 54, 56, 54, 57, 55, 48, 55, 49, 55, 50, 55, 51, 55, 52, 55, 53, 55, 54, 55, 55, 55, 56, 55, 57, 56, 48, 56, 49, 56, 50, 56, 51, 56, 52, 56, 53, 56, 54, 56, 55, 56, 56, 56, 57, 57, 48, 57, 49, 57, 50, 57, 51, 57, 52, 57, 53, 57, 54, 57, 55, 57, 56, 57, 57]) } tx_730b8f_eq (by kernel_rfl)) (PSim.named_nat opIndexStrW_nat), none⟩,
 ⟨.p (opMove (some 64) (.tmp 8) 118 "itoa.go:204" #[]), none⟩,
 ⟨.pn (PSim.named (opIndexStrW (some 65) 9 (.const (Value.string { data := (.append #[48, 48, 48, 49, 48, 50, 48, 51, 48, 52, 48, 53, 48, 54, 48, 55, 48, 56, 48, 57, 49, 48, 49, 49, 49, 50, 49, 51, 49, 52, 49, 53, 49, 54, 49, 55, 49, 56, 49, 57, 50, 48, 50, 49, 50, 50, 50, 51, 50, 52, 50, 53, 50, 54, 50, 55, 50, 56, 50, 57, 51, 48, 51, 49, 51, 50, 51, 51, 51, 52, 51, 53, 51, 54, 51, 55, 51, 56, 51, 57, 52, 48, 52, 49, 52, 50, 52, 51, 52, 52, 52, 53, 52, 54, 52, 55, 52, 56, 52, 57] #[53, 48, 53, 49, 53, 50, 53, 51, 53, 52, 53, 53, 53, 54, 53, 55, 53, 56, 53, 57, 54, 48, 54, 49, 54, 50, 54, 51, 54, 52, 54, 53, 54, 54, 54, 55, 54, 56, 54, 57, 55, 48, 55, 49, 55, 50, 55, 51, 55, 52, 55, 53, 55, 54, 55, 55, 55, 56, 55, 57, 56, 48, 56, 49, 56, 50, 56, 51, 56, 52, 56, 53, 56, 54, 56, 55, 56, 56, 56, 57, 57, 48, 57, 49, 57, 50, 57, 51, 57, 52, 57, 53, 57, 54, 57, 55, 57, 56, 57, 57]) })) (.tmp 64) Tryd.underlying9 5 "itoa.go:204" #[eD 9]) tx_730b8f { data := (.append #[48, 48, 48, 49, 48, 50, 48, 51, 48, 52, 48, 53, 48, 54, 48, 55, 48, 56, 48, 57, 49, 48, 49, 49, 49, 50, 49, 51, 49, 52, 49, 53, 49, 54, 49, 55, 49, 56, 49, 57, 50, 48, 50, 49, 50, 50, 50, 51, 50, 52, 50, 53, 50, 54, 50, 55, 50, 56, 50, 57, 51, 48, 51, 49, 51, 50, 51, 51, 51, 52, 51, 53, 51, 54, 51, 55, 51, 56, 51, 57, 52, 48, 52, 49, 52, 50, 52, 51, 52, 52, 52, 53, 52, 54, 52, 55, 52, 56, 52, 57] #[53, 48, 53, 49, 53, 50, 53, 51, 53, 52, 53, 53, 53, 54, 53, 55, 53, 56, 53, 57, 54, 48, 54, 49, 54, 50, 54, 51, 54, 52, 54, 53, 54, 54, 54, 55, 54, 56, 54, 57, 55, 48, 55, 49, 55, 50, 55, 51, 55, 52, 55, 53, 55, 54, 55, 55, 55, 56, 55, 57, 56, 48, 56, 49, 56, 50, 56, 51, 56, 52, 56, 53, 56, 54, 56, 55, 56, 56, 56, 57, 57, 48, 57, 49, 57, 50, 57, 51, 57, 52, 57, 53, 57, 54, 57, 55, 57, 56, 57, 57]) } tx_730b8f_eq (by kernel_rfl)) (PSim.named_nat opIndexStrW_nat), none⟩,
 ⟨.pn (opIndexAddrT (some 66) 46 (.tmp 55) (.tmp 57) 5 1 Tryd.underlying46 sz5 0 "itoa.go:204" #[eD 0, eD 2, eP 0, eP 1, eP 2, { on := 3, ground := (Ground.textOnly Departure.lateStores) }, { on := 4, ground := (Ground.textOnly Departure.lateStores) }, { on := 5, ground := (Ground.textOnly Departure.lateStores) }, eP 6, eP 7, eP 8, { on := 9, ground := (Ground.textOnly Departure.lateStores) }, { on := 10, ground := (Ground.textOnly Departure.lateStoresUnsure) }]) opIndexAddrT_nat, none⟩,
 ⟨.mn (opStoreC none 5 (.tmp 66) (.tmp 63) 1 sz5 0 "itoa.go:204" #[eD 11, eD 8, eP 0, eP 1, eP 2, { on := 3, ground := (Ground.textOnly Departure.lateStores) }, { on := 4, ground := (Ground.textOnly Departure.lateStores) }, { on := 5, ground := (Ground.textOnly Departure.lateStores) }, eP 6, eP 7, eP 8, { on := 9, ground := (Ground.textOnly Departure.lateStores) }, { on := 10, ground := (Ground.textOnly Departure.lateStoresUnsure) }]) opStoreC_nat, none⟩,
 ⟨.pn (opIndexAddrT (some 67) 46 (.tmp 58) (.tmp 60) 5 1 Tryd.underlying46 sz5 0 "itoa.go:204" #[eD 3, eD 5, eP 0, eP 1, eP 2, eP 3, eP 4, eP 5, eP 6, eP 7, eP 8, eP 9, eP 10, eP 11, eP 12]) opIndexAddrT_nat, none⟩,
 ⟨.mn (opStoreC none 5 (.tmp 67) (.tmp 65) 1 sz5 0 "itoa.go:204" #[eD 13, eD 10, eC 12, eP 0, eP 1, eP 2, eP 3, eP 4, eP 5, eP 6, eP 7, eP 8, eP 9, eP 10, eP 11, eP 12]) opStoreC_nat, none⟩
 ] mixed (by kernel_rfl)))
 (.seq (.live [0, 1, 4, 10] (.draw 9 [
 ⟨.p (opMove (some 68) (.tmp 0) 46 "itoa.go:205" #[]), none⟩,
 ⟨.p (opMove (some 69) (.tmp 4) 3 "itoa.go:205" #[]), none⟩,
 ⟨.pn (opBin (some 70) .sub 3 (.tmp 69) (.const (Value.int IntKind.i64 5)) 3 3 "itoa.go:205" #[eD 1]) opBin_nat, none⟩,
 ⟨.p (opMove (some 71) (.tmp 0) 46 "itoa.go:205" #[{ on := 12, ground := (Ground.gcOnly Departure.lateStores) }]), none⟩,
 ⟨.p (opMove (some 72) (.tmp 4) 3 "itoa.go:205" #[{ on := 12, ground := (Ground.gcOnly Departure.lateStores) }]), none⟩,
 ⟨.pn (opBin (some 73) .sub 3 (.tmp 72) (.const (Value.int IntKind.i64 6)) 3 3 "itoa.go:205" #[eD 4, { on := 12, ground := (Ground.gcOnly Departure.lateStores) }]) opBin_nat, none⟩,
 ⟨.p (opMove (some 74) (.tmp 11) 118 "itoa.go:205" #[]), none⟩,
 ⟨.pn (opBin (some 75) .add 118 (.tmp 74) (.const (Value.int IntKind.u32 1)) 118 118 "itoa.go:205" #[eD 6]) opBin_nat, none⟩,
 ⟨.pn (PSim.named (opIndexStrW (some 76) 9 (.const (Value.string { data := (.append #[48, 48, 48, 49, 48, 50, 48, 51, 48, 52, 48, 53, 48, 54, 48, 55, 48, 56, 48, 57, 49, 48, 49, 49, 49, 50, 49, 51, 49, 52, 49, 53, 49, 54, 49, 55, 49, 56, 49, 57, 50, 48, 50, 49, 50, 50, 50, 51, 50, 52, 50, 53, 50, 54, 50, 55, 50, 56, 50, 57, 51, 48, 51, 49, 51, 50, 51, 51, 51, 52, 51, 53, 51, 54, 51, 55, 51, 56, 51, 57, 52, 48, 52, 49, 52, 50, 52, 51, 52, 52, 52, 53, 52, 54, 52, 55, 52, 56, 52, 57] #[53, 48, 53, 49, 53, 50, 53, 51, 53, 52, 53, 53, 53, 54, 53, 55, 53, 56, 53, 57, 54, 48, 54, 49, 54, 50, 54, 51, 54, 52, 54, 53, 54, 54, 54, 55, 54, 56, 54, 57, 55, 48, 55, 49, 55, 50, 55, 51, 55, 52, 55, 53, 55, 54, 55, 55, 55, 56, 55, 57, 56, 48, 56, 49, 56, 50, 56, 51, 56, 52, 56, 53, 56, 54, 56, 55, 56, 56, 56, 57, 57, 48, 57, 49, 57, 50, 57, 51, 57, 52, 57, 53, 57, 54, 57, 55, 57, 56, 57, 57]) })) (.tmp 75) Tryd.underlying9 5 "itoa.go:205" #[eD 7]) tx_730b8f { data := (.append #[48, 48, 48, 49, 48, 50, 48, 51, 48, 52, 48, 53, 48, 54, 48, 55, 48, 56, 48, 57, 49, 48, 49, 49, 49, 50, 49, 51, 49, 52, 49, 53, 49, 54, 49, 55, 49, 56, 49, 57, 50, 48, 50, 49, 50, 50, 50, 51, 50, 52, 50, 53, 50, 54, 50, 55, 50, 56, 50, 57, 51, 48, 51, 49, 51, 50, 51, 51, 51, 52, 51, 53, 51, 54, 51, 55, 51, 56, 51, 57, 52, 48, 52, 49, 52, 50, 52, 51, 52, 52, 52, 53, 52, 54, 52, 55, 52, 56, 52, 57] #[53, 48, 53, 49, 53, 50, 53, 51, 53, 52, 53, 53, 53, 54, 53, 55, 53, 56, 53, 57, 54, 48, 54, 49, 54, 50, 54, 51, 54, 52, 54, 53, 54, 54, 54, 55, 54, 56, 54, 57, 55, 48, 55, 49, 55, 50, 55, 51, 55, 52, 55, 53, 55, 54, 55, 55, 55, 56, 55, 57, 56, 48, 56, 49, 56, 50, 56, 51, 56, 52, 56, 53, 56, 54, 56, 55, 56, 56, 56, 57, 57, 48, 57, 49, 57, 50, 57, 51, 57, 52, 57, 53, 57, 54, 57, 55, 57, 56, 57, 57]) } tx_730b8f_eq (by kernel_rfl)) (PSim.named_nat opIndexStrW_nat), none⟩,
 ⟨.p (opMove (some 77) (.tmp 11) 118 "itoa.go:205" #[]), none⟩,
 ⟨.pn (PSim.named (opIndexStrW (some 78) 9 (.const (Value.string { data := (.append #[48, 48, 48, 49, 48, 50, 48, 51, 48, 52, 48, 53, 48, 54, 48, 55, 48, 56, 48, 57, 49, 48, 49, 49, 49, 50, 49, 51, 49, 52, 49, 53, 49, 54, 49, 55, 49, 56, 49, 57, 50, 48, 50, 49, 50, 50, 50, 51, 50, 52, 50, 53, 50, 54, 50, 55, 50, 56, 50, 57, 51, 48, 51, 49, 51, 50, 51, 51, 51, 52, 51, 53, 51, 54, 51, 55, 51, 56, 51, 57, 52, 48, 52, 49, 52, 50, 52, 51, 52, 52, 52, 53, 52, 54, 52, 55, 52, 56, 52, 57] #[53, 48, 53, 49, 53, 50, 53, 51, 53, 52, 53, 53, 53, 54, 53, 55, 53, 56, 53, 57, 54, 48, 54, 49, 54, 50, 54, 51, 54, 52, 54, 53, 54, 54, 54, 55, 54, 56, 54, 57, 55, 48, 55, 49, 55, 50, 55, 51, 55, 52, 55, 53, 55, 54, 55, 55, 55, 56, 55, 57, 56, 48, 56, 49, 56, 50, 56, 51, 56, 52, 56, 53, 56, 54, 56, 55, 56, 56, 56, 57, 57, 48, 57, 49, 57, 50, 57, 51, 57, 52, 57, 53, 57, 54, 57, 55, 57, 56, 57, 57]) })) (.tmp 77) Tryd.underlying9 5 "itoa.go:205" #[eD 9]) tx_730b8f { data := (.append #[48, 48, 48, 49, 48, 50, 48, 51, 48, 52, 48, 53, 48, 54, 48, 55, 48, 56, 48, 57, 49, 48, 49, 49, 49, 50, 49, 51, 49, 52, 49, 53, 49, 54, 49, 55, 49, 56, 49, 57, 50, 48, 50, 49, 50, 50, 50, 51, 50, 52, 50, 53, 50, 54, 50, 55, 50, 56, 50, 57, 51, 48, 51, 49, 51, 50, 51, 51, 51, 52, 51, 53, 51, 54, 51, 55, 51, 56, 51, 57, 52, 48, 52, 49, 52, 50, 52, 51, 52, 52, 52, 53, 52, 54, 52, 55, 52, 56, 52, 57] #[53, 48, 53, 49, 53, 50, 53, 51, 53, 52, 53, 53, 53, 54, 53, 55, 53, 56, 53, 57, 54, 48, 54, 49, 54, 50, 54, 51, 54, 52, 54, 53, 54, 54, 54, 55, 54, 56, 54, 57, 55, 48, 55, 49, 55, 50, 55, 51, 55, 52, 55, 53, 55, 54, 55, 55, 55, 56, 55, 57, 56, 48, 56, 49, 56, 50, 56, 51, 56, 52, 56, 53, 56, 54, 56, 55, 56, 56, 56, 57, 57, 48, 57, 49, 57, 50, 57, 51, 57, 52, 57, 53, 57, 54, 57, 55, 57, 56, 57, 57]) } tx_730b8f_eq (by kernel_rfl)) (PSim.named_nat opIndexStrW_nat), none⟩,
 ⟨.pn (opIndexAddrT (some 79) 46 (.tmp 68) (.tmp 70) 5 1 Tryd.underlying46 sz5 0 "itoa.go:205" #[eD 0, eD 2, eP 0, eP 1, eP 2, { on := 3, ground := (Ground.textOnly Departure.lateStores) }, { on := 4, ground := (Ground.textOnly Departure.lateStores) }, { on := 5, ground := (Ground.textOnly Departure.lateStores) }, eP 6, eP 7, eP 8, { on := 9, ground := (Ground.textOnly Departure.lateStores) }, { on := 10, ground := (Ground.textOnly Departure.lateStoresUnsure) }]) opIndexAddrT_nat, none⟩,
 ⟨.mn (opStoreC none 5 (.tmp 79) (.tmp 76) 1 sz5 0 "itoa.go:205" #[eD 11, eD 8, eP 0, eP 1, eP 2, { on := 3, ground := (Ground.textOnly Departure.lateStores) }, { on := 4, ground := (Ground.textOnly Departure.lateStores) }, { on := 5, ground := (Ground.textOnly Departure.lateStores) }, eP 6, eP 7, eP 8, { on := 9, ground := (Ground.textOnly Departure.lateStores) }, { on := 10, ground := (Ground.textOnly Departure.lateStoresUnsure) }]) opStoreC_nat, none⟩,
 ⟨.pn (opIndexAddrT (some 80) 46 (.tmp 71) (.tmp 73) 5 1 Tryd.underlying46 sz5 0 "itoa.go:205" #[eD 3, eD 5, eP 0, eP 1, eP 2, eP 3, eP 4, eP 5, eP 6, eP 7, eP 8, eP 9, eP 10, eP 11, eP 12]) opIndexAddrT_nat, none⟩,
 ⟨.mn (opStoreC none 5 (.tmp 80) (.tmp 78) 1 sz5 0 "itoa.go:205" #[eD 13, eD 10, eC 12, eP 0, eP 1, eP 2, eP 3, eP 4, eP 5, eP 6, eP 7, eP 8, eP 9, eP 10, eP 11, eP 12]) opStoreC_nat, none⟩
 ] mixed (by kernel_rfl)))
 (.seq (.live [0, 1, 4] (.draw 10 [
 ⟨.p (opMove (some 81) (.tmp 0) 46 "itoa.go:206" #[]), none⟩,
 ⟨.p (opMove (some 82) (.tmp 4) 3 "itoa.go:206" #[]), none⟩,
 ⟨.pn (opBin (some 83) .sub 3 (.tmp 82) (.const (Value.int IntKind.i64 7)) 3 3 "itoa.go:206" #[eD 1]) opBin_nat, none⟩,
 ⟨.p (opMove (some 84) (.tmp 0) 46 "itoa.go:206" #[{ on := 12, ground := (Ground.gcOnly Departure.lateStores) }]), none⟩,
 ⟨.p (opMove (some 85) (.tmp 4) 3 "itoa.go:206" #[{ on := 12, ground := (Ground.gcOnly Departure.lateStores) }]), none⟩,
 ⟨.pn (opBin (some 86) .sub 3 (.tmp 85) (.const (Value.int IntKind.i64 8)) 3 3 "itoa.go:206" #[eD 4, { on := 12, ground := (Ground.gcOnly Departure.lateStores) }]) opBin_nat, none⟩,
 ⟨.p (opMove (some 87) (.tmp 10) 118 "itoa.go:206" #[]), none⟩,
 ⟨.pn (opBin (some 88) .add 118 (.tmp 87) (.const (Value.int IntKind.u32 1)) 118 118 "itoa.go:206" #[eD 6]) opBin_nat, none⟩,
 ⟨.pn (PSim.named (opIndexStrW (some 89) 9 (.const (Value.string { data := (.append #[48, 48, 48, 49, 48, 50, 48, 51, 48, 52, 48, 53, 48, 54, 48, 55, 48, 56, 48, 57, 49, 48, 49, 49, 49, 50, 49, 51, 49, 52, 49, 53, 49, 54, 49, 55, 49, 56, 49, 57, 50, 48, 50, 49, 50, 50, 50, 51, 50, 52, 50, 53, 50, 54, 50, 55, 50, 56, 50, 57, 51, 48, 51, 49, 51, 50, 51, 51, 51, 52, 51, 53, 51, 54, 51, 55, 51, 56, 51, 57, 52, 48, 52, 49, 52, 50, 52, 51, 52, 52, 52, 53, 52, 54, 52, 55, 52, 56, 52, 57] #[53, 48, 53, 49, 53, 50, 53, 51, 53, 52, 53, 53, 53, 54, 53, 55, 53, 56, 53, 57, 54, 48, 54, 49, 54, 50, 54, 51, 54, 52, 54, 53, 54, 54, 54, 55, 54, 56, 54, 57, 55, 48, 55, 49, 55, 50, 55, 51, 55, 52, 55, 53, 55, 54, 55, 55, 55, 56, 55, 57, 56, 48, 56, 49, 56, 50, 56, 51, 56, 52, 56, 53, 56, 54, 56, 55, 56, 56, 56, 57, 57, 48, 57, 49, 57, 50, 57, 51, 57, 52, 57, 53, 57, 54, 57, 55, 57, 56, 57, 57]) })) (.tmp 88) Tryd.underlying9 5 "itoa.go:206" #[eD 7]) tx_730b8f { data := (.append #[48, 48, 48, 49, 48, 50, 48, 51, 48, 52, 48, 53, 48, 54, 48, 55, 48, 56, 48, 57, 49, 48, 49, 49, 49, 50, 49, 51, 49, 52, 49, 53, 49, 54, 49, 55, 49, 56, 49, 57, 50, 48, 50, 49, 50, 50, 50, 51, 50, 52, 50, 53, 50, 54, 50, 55, 50, 56, 50, 57, 51, 48, 51, 49, 51, 50, 51, 51, 51, 52, 51, 53, 51, 54, 51, 55, 51, 56, 51, 57, 52, 48, 52, 49, 52, 50, 52, 51, 52, 52, 52, 53, 52, 54, 52, 55, 52, 56, 52, 57] #[53, 48, 53, 49, 53, 50, 53, 51, 53, 52, 53, 53, 53, 54, 53, 55, 53, 56, 53, 57, 54, 48, 54, 49, 54, 50, 54, 51, 54, 52, 54, 53, 54, 54, 54, 55, 54, 56, 54, 57, 55, 48, 55, 49, 55, 50, 55, 51, 55, 52, 55, 53, 55, 54, 55, 55, 55, 56, 55, 57, 56, 48, 56, 49, 56, 50, 56, 51, 56, 52, 56, 53, 56, 54, 56, 55, 56, 56, 56, 57, 57, 48, 57, 49, 57, 50, 57, 51, 57, 52, 57, 53, 57, 54, 57, 55, 57, 56, 57, 57]) } tx_730b8f_eq (by kernel_rfl)) (PSim.named_nat opIndexStrW_nat), none⟩,
 ⟨.p (opMove (some 90) (.tmp 10) 118 "itoa.go:206" #[]), none⟩,
 ⟨.pn (PSim.named (opIndexStrW (some 91) 9 (.const (Value.string { data := (.append #[48, 48, 48, 49, 48, 50, 48, 51, 48, 52, 48, 53, 48, 54, 48, 55, 48, 56, 48, 57, 49, 48, 49, 49, 49, 50, 49, 51, 49, 52, 49, 53, 49, 54, 49, 55, 49, 56, 49, 57, 50, 48, 50, 49, 50, 50, 50, 51, 50, 52, 50, 53, 50, 54, 50, 55, 50, 56, 50, 57, 51, 48, 51, 49, 51, 50, 51, 51, 51, 52, 51, 53, 51, 54, 51, 55, 51, 56, 51, 57, 52, 48, 52, 49, 52, 50, 52, 51, 52, 52, 52, 53, 52, 54, 52, 55, 52, 56, 52, 57] #[53, 48, 53, 49, 53, 50, 53, 51, 53, 52, 53, 53, 53, 54, 53, 55, 53, 56, 53, 57, 54, 48, 54, 49, 54, 50, 54, 51, 54, 52, 54, 53, 54, 54, 54, 55, 54, 56, 54, 57, 55, 48, 55, 49, 55, 50, 55, 51, 55, 52, 55, 53, 55, 54, 55, 55, 55, 56, 55, 57, 56, 48, 56, 49, 56, 50, 56, 51, 56, 52, 56, 53, 56, 54, 56, 55, 56, 56, 56, 57, 57, 48, 57, 49, 57, 50, 57, 51, 57, 52, 57, 53, 57, 54, 57, 55, 57, 56, 57, 57]) })) (.tmp 90) Tryd.underlying9 5 "itoa.go:206" #[eD 9]) tx_730b8f { data := (.append #[48, 48, 48, 49, 48, 50, 48, 51, 48, 52, 48, 53, 48, 54, 48, 55, 48, 56, 48, 57, 49, 48, 49, 49, 49, 50, 49, 51, 49, 52, 49, 53, 49, 54, 49, 55, 49, 56, 49, 57, 50, 48, 50, 49, 50, 50, 50, 51, 50, 52, 50, 53, 50, 54, 50, 55, 50, 56, 50, 57, 51, 48, 51, 49, 51, 50, 51, 51, 51, 52, 51, 53, 51, 54, 51, 55, 51, 56, 51, 57, 52, 48, 52, 49, 52, 50, 52, 51, 52, 52, 52, 53, 52, 54, 52, 55, 52, 56, 52, 57] #[53, 48, 53, 49, 53, 50, 53, 51, 53, 52, 53, 53, 53, 54, 53, 55, 53, 56, 53, 57, 54, 48, 54, 49, 54, 50, 54, 51, 54, 52, 54, 53, 54, 54, 54, 55, 54, 56, 54, 57, 55, 48, 55, 49, 55, 50, 55, 51, 55, 52, 55, 53, 55, 54, 55, 55, 55, 56, 55, 57, 56, 48, 56, 49, 56, 50, 56, 51, 56, 52, 56, 53, 56, 54, 56, 55, 56, 56, 56, 57, 57, 48, 57, 49, 57, 50, 57, 51, 57, 52, 57, 53, 57, 54, 57, 55, 57, 56, 57, 57]) } tx_730b8f_eq (by kernel_rfl)) (PSim.named_nat opIndexStrW_nat), none⟩,
 ⟨.pn (opIndexAddrT (some 92) 46 (.tmp 81) (.tmp 83) 5 1 Tryd.underlying46 sz5 0 "itoa.go:206" #[eD 0, eD 2, eP 0, eP 1, eP 2, { on := 3, ground := (Ground.textOnly Departure.lateStores) }, { on := 4, ground := (Ground.textOnly Departure.lateStores) }, { on := 5, ground := (Ground.textOnly Departure.lateStores) }, eP 6, eP 7, eP 8, { on := 9, ground := (Ground.textOnly Departure.lateStores) }, { on := 10, ground := (Ground.textOnly Departure.lateStoresUnsure) }]) opIndexAddrT_nat, none⟩,
 ⟨.mn (opStoreC none 5 (.tmp 92) (.tmp 89) 1 sz5 0 "itoa.go:206" #[eD 11, eD 8, eP 0, eP 1, eP 2, { on := 3, ground := (Ground.textOnly Departure.lateStores) }, { on := 4, ground := (Ground.textOnly Departure.lateStores) }, { on := 5, ground := (Ground.textOnly Departure.lateStores) }, eP 6, eP 7, eP 8, { on := 9, ground := (Ground.textOnly Departure.lateStores) }, { on := 10, ground := (Ground.textOnly Departure.lateStoresUnsure) }]) opStoreC_nat, none⟩,
 ⟨.pn (opIndexAddrT (some 93) 46 (.tmp 84) (.tmp 86) 5 1 Tryd.underlying46 sz5 0 "itoa.go:206" #[eD 3, eD 5, eP 0, eP 1, eP 2, eP 3, eP 4, eP 5, eP 6, eP 7, eP 8, eP 9, eP 10, eP 11, eP 12]) opIndexAddrT_nat, none⟩,
 ⟨.mn (opStoreC none 5 (.tmp 93) (.tmp 91) 1 sz5 0 "itoa.go:206" #[eD 13, eD 10, eC 12, eP 0, eP 1, eP 2, eP 3, eP 4, eP 5, eP 6, eP 7, eP 8, eP 9, eP 10, eP 11, eP 12]) opStoreC_nat, none⟩
 ] mixed (by kernel_rfl)))
 (.live [0, 1, 4] (.region 11 [
 ⟨(opMove (some 94) (.tmp 4) 3 "itoa.go:207" #[]).op, none⟩,
 ⟨(opBin (some 95) .sub 3 (.tmp 94) (.const (Value.int IntKind.i64 8)) 3 3 "itoa.go:207" #[eD 0]).op, none⟩,
 ⟨(opAssign (some 4) (.tmp 95) 3 "itoa.go:207" #[eD 1, eP 0, eP 1]).op, none⟩
 ] (by kernel_rfl))))))))))))))

/-- What follows a loop. -/
noncomputable def f86_r0 : Sim Tryd.prog :=
 (.seq (.live [0, 4, 12] (.region 12 [
 ⟨(opMove (some 96) (.tmp 1) 84 "itoa.go:210" #[]).op, none⟩,
 ⟨(opConvInt (some 97) 84 118 (.tmp 96) (.int .u64) Tryd.underlying84 .u32 Tryd.underlying118 118 "itoa.go:210" #[eD 0]).op, none⟩,
 ⟨(opAssign (some 12) (.tmp 97) 118 "itoa.go:210" #[eD 1, eP 0, eP 1]).op, none⟩
 ] (by kernel_rfl)))
 (.seq (.seq (.live [0, 4, 12, 99] (.region 13 [
 ⟨(opMove (some 98) (.tmp 4) 3 "itoa.go:211" #[]).op, none⟩,
 ⟨(opBin (some 99) .geq 3 (.tmp 98) (.const (Value.int IntKind.i64 4)) 3 4 "itoa.go:211" #[eD 0]).op, none⟩
 ] (by kernel_rfl)))
 (.cond (.tmp 99)
 (.seq (.live [0, 4, 12, 13] (.region 14 [
 ⟨(opMove (some 100) (.tmp 12) 118 "itoa.go:213" #[]).op, none⟩,
 ⟨(opBin (some 101) .rem 118 (.tmp 100) (.const (Value.int IntKind.u32 10000)) 118 118 "itoa.go:213" #[eD 0]).op, none⟩,
 ⟨(opAssign (some 13) (.tmp 101) 118 "itoa.go:213" #[eD 1, eP 0, eP 1]).op, none⟩
 ] (by kernel_rfl)))
 (.seq (.live [0, 4, 12, 13] (.region 15 [
 ⟨(opMove (some 102) (.tmp 12) 118 "itoa.go:214" #[]).op, none⟩,
 ⟨(opBin (some 103) .quo 118 (.tmp 102) (.const (Value.int IntKind.u32 10000)) 118 118 "itoa.go:214" #[eD 0]).op, none⟩,
 ⟨(opAssign (some 12) (.tmp 103) 118 "itoa.go:214" #[eD 1, eP 0, eP 1]).op, none⟩
 ] (by kernel_rfl)))
 (.seq (.live [0, 4, 12, 14, 15] (.region 16 [
 ⟨(opMove (some 104) (.tmp 13) 118 "itoa.go:215" #[]).op, none⟩,
 ⟨(opBin (some 105) .quo 118 (.tmp 104) (.const (Value.int IntKind.u32 100)) 118 118 "itoa.go:215" #[eD 0]).op, none⟩,
 ⟨(opBin (some 106) .mul 118 (.tmp 105) (.const (Value.int IntKind.u32 2)) 118 118 "itoa.go:215" #[eD 1]).op, none⟩,
 ⟨(opMove (some 107) (.tmp 13) 118 "itoa.go:215" #[{ on := 6, ground := (Ground.gcOnly Departure.lateStores) }]).op, none⟩,
 ⟨(opBin (some 108) .rem 118 (.tmp 107) (.const (Value.int IntKind.u32 100)) 118 118 "itoa.go:215" #[eD 3, { on := 6, ground := (Ground.gcOnly Departure.lateStores) }]).op, none⟩,
 ⟨(opBin (some 109) .mul 118 (.tmp 108) (.const (Value.int IntKind.u32 2)) 118 118 "itoa.go:215" #[eD 4, { on := 6, ground := (Ground.gcOnly Departure.lateStores) }]).op, none⟩,
 ⟨(opAssign (some 14) (.tmp 106) 118 "itoa.go:215" #[eD 2, eP 0, eP 1, eP 2, { on := 3, ground := (Ground.textOnly Departure.lateStores) }, { on := 4, ground := (Ground.textOnly Departure.lateStores) }, { on := 5, ground := (Ground.textOnly Departure.lateStores) }]).op, none⟩,
 ⟨(opAssign (some 15) (.tmp 109) 118 "itoa.go:215" #[eD 5, eC 6, eP 0, eP 1, eP 2, eP 3, eP 4, eP 5, eP 6]).op, none⟩
 ] (by kernel_rfl)))
 (.seq (.live [0, 4, 12, 14] (.draw 17 [
 ⟨.p (opMove (some 110) (.tmp 0) 46 "itoa.go:216" #[]), none⟩,
 ⟨.p (opMove (some 111) (.tmp 4) 3 "itoa.go:216" #[]), none⟩,
 ⟨.pn (opBin (some 112) .sub 3 (.tmp 111) (.const (Value.int IntKind.i64 1)) 3 3 "itoa.go:216" #[eD 1]) opBin_nat, none⟩,
 ⟨.p (opMove (some 113) (.tmp 0) 46 "itoa.go:216" #[{ on := 12, ground := (Ground.gcOnly Departure.lateStores) }]), none⟩,
 ⟨.p (opMove (some 114) (.tmp 4) 3 "itoa.go:216" #[{ on := 12, ground := (Ground.gcOnly Departure.lateStores) }]), none⟩,
 ⟨.pn (opBin (some 115) .sub 3 (.tmp 114) (.const (Value.int IntKind.i64 2)) 3 3 "itoa.go:216" #[eD 4, { on := 12, ground := (Ground.gcOnly Departure.lateStores) }]) opBin_nat, none⟩,
 ⟨.p (opMove (some 116) (.tmp 15) 118 "itoa.go:216" #[]), none⟩,
 ⟨.pn (opBin (some 117) .add 118 (.tmp 116) (.const (Value.int IntKind.u32 1)) 118 118 "itoa.go:216" #[eD 6]) opBin_nat, none⟩,
 ⟨.pn (PSim.named (opIndexStrW (some 118) 9 (.const (Value.string { data := (.append #[48, 48, 48, 49, 48, 50, 48, 51, 48, 52, 48, 53, 48, 54, 48, 55, 48, 56, 48, 57, 49, 48, 49, 49, 49, 50, 49, 51, 49, 52, 49, 53, 49, 54, 49, 55, 49, 56, 49, 57, 50, 48, 50, 49, 50, 50, 50, 51, 50, 52, 50, 53, 50, 54, 50, 55, 50, 56, 50, 57, 51, 48, 51, 49, 51, 50, 51, 51, 51, 52, 51, 53, 51, 54, 51, 55, 51, 56, 51, 57, 52, 48, 52, 49, 52, 50, 52, 51, 52, 52, 52, 53, 52, 54, 52, 55, 52, 56, 52, 57] #[53, 48, 53, 49, 53, 50, 53, 51, 53, 52, 53, 53, 53, 54, 53, 55, 53, 56, 53, 57, 54, 48, 54, 49, 54, 50, 54, 51, 54, 52, 54, 53, 54, 54, 54, 55, 54, 56, 54, 57, 55, 48, 55, 49, 55, 50, 55, 51, 55, 52, 55, 53, 55, 54, 55, 55, 55, 56, 55, 57, 56, 48, 56, 49, 56, 50, 56, 51, 56, 52, 56, 53, 56, 54, 56, 55, 56, 56, 56, 57, 57, 48, 57, 49, 57, 50, 57, 51, 57, 52, 57, 53, 57, 54, 57, 55, 57, 56, 57, 57]) })) (.tmp 117) Tryd.underlying9 5 "itoa.go:216" #[eD 7]) tx_730b8f { data := (.append #[48, 48, 48, 49, 48, 50, 48, 51, 48, 52, 48, 53, 48, 54, 48, 55, 48, 56, 48, 57, 49, 48, 49, 49, 49, 50, 49, 51, 49, 52, 49, 53, 49, 54, 49, 55, 49, 56, 49, 57, 50, 48, 50, 49, 50, 50, 50, 51, 50, 52, 50, 53, 50, 54, 50, 55, 50, 56, 50, 57, 51, 48, 51, 49, 51, 50, 51, 51, 51, 52, 51, 53, 51, 54, 51, 55, 51, 56, 51, 57, 52, 48, 52, 49, 52, 50, 52, 51, 52, 52, 52, 53, 52, 54, 52, 55, 52, 56, 52, 57] #[53, 48, 53, 49, 53, 50, 53, 51, 53, 52, 53, 53, 53, 54, 53, 55, 53, 56, 53, 57, 54, 48, 54, 49, 54, 50, 54, 51, 54, 52, 54, 53, 54, 54, 54, 55, 54, 56, 54, 57, 55, 48, 55, 49, 55, 50, 55, 51, 55, 52, 55, 53, 55, 54, 55, 55, 55, 56, 55, 57, 56, 48, 56, 49, 56, 50, 56, 51, 56, 52, 56, 53, 56, 54, 56, 55, 56, 56, 56, 57, 57, 48, 57, 49, 57, 50, 57, 51, 57, 52, 57, 53, 57, 54, 57, 55, 57, 56, 57, 57]) } tx_730b8f_eq (by kernel_rfl)) (PSim.named_nat opIndexStrW_nat), none⟩,
 ⟨.p (opMove (some 119) (.tmp 15) 118 "itoa.go:216" #[]), none⟩,
 ⟨.pn (PSim.named (opIndexStrW (some 120) 9 (.const (Value.string { data := (.append #[48, 48, 48, 49, 48, 50, 48, 51, 48, 52, 48, 53, 48, 54, 48, 55, 48, 56, 48, 57, 49, 48, 49, 49, 49, 50, 49, 51, 49, 52, 49, 53, 49, 54, 49, 55, 49, 56, 49, 57, 50, 48, 50, 49, 50, 50, 50, 51, 50, 52, 50, 53, 50, 54, 50, 55, 50, 56, 50, 57, 51, 48, 51, 49, 51, 50, 51, 51, 51, 52, 51, 53, 51, 54, 51, 55, 51, 56, 51, 57, 52, 48, 52, 49, 52, 50, 52, 51, 52, 52, 52, 53, 52, 54, 52, 55, 52, 56, 52, 57] #[53, 48, 53, 49, 53, 50, 53, 51, 53, 52, 53, 53, 53, 54, 53, 55, 53, 56, 53, 57, 54, 48, 54, 49, 54, 50, 54, 51, 54, 52, 54, 53, 54, 54, 54, 55, 54, 56, 54, 57, 55, 48, 55, 49, 55, 50, 55, 51, 55, 52, 55, 53, 55, 54, 55, 55, 55, 56, 55, 57, 56, 48, 56, 49, 56, 50, 56, 51, 56, 52, 56, 53, 56, 54, 56, 55, 56, 56, 56, 57, 57, 48, 57, 49, 57, 50, 57, 51, 57, 52, 57, 53, 57, 54, 57, 55, 57, 56, 57, 57]) })) (.tmp 119) Tryd.underlying9 5 "itoa.go:216" #[eD 9]) tx_730b8f { data := (.append #[48, 48, 48, 49, 48, 50, 48, 51, 48, 52, 48, 53, 48, 54, 48, 55, 48, 56, 48, 57, 49, 48, 49, 49, 49, 50, 49, 51, 49, 52, 49, 53, 49, 54, 49, 55, 49, 56, 49, 57, 50, 48, 50, 49, 50, 50, 50, 51, 50, 52, 50, 53, 50, 54, 50, 55, 50, 56, 50, 57, 51, 48, 51, 49, 51, 50, 51, 51, 51, 52, 51, 53, 51, 54, 51, 55, 51, 56, 51, 57, 52, 48, 52, 49, 52, 50, 52, 51, 52, 52, 52, 53, 52, 54, 52, 55, 52, 56, 52, 57] #[53, 48, 53, 49, 53, 50, 53, 51, 53, 52, 53, 53, 53, 54, 53, 55, 53, 56, 53, 57, 54, 48, 54, 49, 54, 50, 54, 51, 54, 52, 54, 53, 54, 54, 54, 55, 54, 56, 54, 57, 55, 48, 55, 49, 55, 50, 55, 51, 55, 52, 55, 53, 55, 54, 55, 55, 55, 56, 55, 57, 56, 48, 56, 49, 56, 50, 56, 51, 56, 52, 56, 53, 56, 54, 56, 55, 56, 56, 56, 57, 57, 48, 57, 49, 57, 50, 57, 51, 57, 52, 57, 53, 57, 54, 57, 55, 57, 56, 57, 57]) } tx_730b8f_eq (by kernel_rfl)) (PSim.named_nat opIndexStrW_nat), none⟩,
 ⟨.pn (opIndexAddrT (some 121) 46 (.tmp 110) (.tmp 112) 5 1 Tryd.underlying46 sz5 0 "itoa.go:216" #[eD 0, eD 2, eP 0, eP 1, eP 2, { on := 3, ground := (Ground.textOnly Departure.lateStores) }, { on := 4, ground := (Ground.textOnly Departure.lateStores) }, { on := 5, ground := (Ground.textOnly Departure.lateStores) }, eP 6, eP 7, eP 8, { on := 9, ground := (Ground.textOnly Departure.lateStores) }, { on := 10, ground := (Ground.textOnly Departure.lateStoresUnsure) }]) opIndexAddrT_nat, none⟩,
 ⟨.mn (opStoreC none 5 (.tmp 121) (.tmp 118) 1 sz5 0 "itoa.go:216" #[eD 11, eD 8, eP 0, eP 1, eP 2, { on := 3, ground := (Ground.textOnly Departure.lateStores) }, { on := 4, ground := (Ground.textOnly Departure.lateStores) }, { on := 5, ground := (Ground.textOnly Departure.lateStores) }, eP 6, eP 7, eP 8, { on := 9, ground := (Ground.textOnly Departure.lateStores) }, { on := 10, ground := (Ground.textOnly Departure.lateStoresUnsure) }]) opStoreC_nat, none⟩,
 ⟨.pn (opIndexAddrT (some 122) 46 (.tmp 113) (.tmp 115) 5 1 Tryd.underlying46 sz5 0 "itoa.go:216" #[eD 3, eD 5, eP 0, eP 1, eP 2, eP 3, eP 4, eP 5, eP 6, eP 7, eP 8, eP 9, eP 10, eP 11, eP 12]) opIndexAddrT_nat, none⟩,
 ⟨.mn (opStoreC none 5 (.tmp 122) (.tmp 120) 1 sz5 0 "itoa.go:216" #[eD 13, eD 10, eC 12, eP 0, eP 1, eP 2, eP 3, eP 4, eP 5, eP 6, eP 7, eP 8, eP 9, eP 10, eP 11, eP 12]) opStoreC_nat, none⟩
 ] mixed (by kernel_rfl)))
 (.seq (.live [0, 4, 12] (.draw 18 [
 ⟨.p (opMove (some 123) (.tmp 0) 46 "itoa.go:217" #[]), none⟩,
 ⟨.p (opMove (some 124) (.tmp 4) 3 "itoa.go:217" #[]), none⟩,
 ⟨.pn (opBin (some 125) .sub 3 (.tmp 124) (.const (Value.int IntKind.i64 3)) 3 3 "itoa.go:217" #[eD 1]) opBin_nat, none⟩,
 ⟨.p (opMove (some 126) (.tmp 0) 46 "itoa.go:217" #[{ on := 12, ground := (Ground.gcOnly Departure.lateStores) }]), none⟩,
 ⟨.p (opMove (some 127) (.tmp 4) 3 "itoa.go:217" #[{ on := 12, ground := (Ground.gcOnly Departure.lateStores) }]), none⟩,
 ⟨.pn (opBin (some 128) .sub 3 (.tmp 127) (.const (Value.int IntKind.i64 4)) 3 3 "itoa.go:217" #[eD 4, { on := 12, ground := (Ground.gcOnly Departure.lateStores) }]) opBin_nat, none⟩,
 ⟨.p (opMove (some 129) (.tmp 14) 118 "itoa.go:217" #[]), none⟩,
 ⟨.pn (opBin (some 130) .add 118 (.tmp 129) (.const (Value.int IntKind.u32 1)) 118 118 "itoa.go:217" #[eD 6]) opBin_nat, none⟩,
 ⟨.pn (PSim.named (opIndexStrW (some 131) 9 (.const (Value.string { data := (.append #[48, 48, 48, 49, 48, 50, 48, 51, 48, 52, 48, 53, 48, 54, 48, 55, 48, 56, 48, 57, 49, 48, 49, 49, 49, 50, 49, 51, 49, 52, 49, 53, 49, 54, 49, 55, 49, 56, 49, 57, 50, 48, 50, 49, 50, 50, 50, 51, 50, 52, 50, 53, 50, 54, 50, 55, 50, 56, 50, 57, 51, 48, 51, 49, 51, 50, 51, 51, 51, 52, 51, 53, 51, 54, 51, 55, 51, 56, 51, 57, 52, 48, 52, 49, 52, 50, 52, 51, 52, 52, 52, 53, 52, 54, 52, 55, 52, 56, 52, 57] #[53, 48, 53, 49, 53, 50, 53, 51, 53, 52, 53, 53, 53, 54, 53, 55, 53, 56, 53, 57, 54, 48, 54, 49, 54, 50, 54, 51, 54, 52, 54, 53, 54, 54, 54, 55, 54, 56, 54, 57, 55, 48, 55, 49, 55, 50, 55, 51, 55, 52, 55, 53, 55, 54, 55, 55, 55, 56, 55, 57, 56, 48, 56, 49, 56, 50, 56, 51, 56, 52, 56, 53, 56, 54, 56, 55, 56, 56, 56, 57, 57, 48, 57, 49, 57, 50, 57, 51, 57, 52, 57, 53, 57, 54, 57, 55, 57, 56, 57, 57]) })) (.tmp 130) Tryd.underlying9 5 "itoa.go:217" #[eD 7]) tx_730b8f { data := (.append #[48, 48, 48, 49, 48, 50, 48, 51, 48, 52, 48, 53, 48, 54, 48, 55, 48, 56, 48, 57, 49, 48, 49, 49, 49, 50, 49, 51, 49, 52, 49, 53, 49, 54, 49, 55, 49, 56, 49, 57, 50, 48, 50, 49, 50, 50, 50, 51, 50, 52, 50, 53, 50, 54, 50, 55, 50, 56, 50, 57, 51, 48, 51, 49, 51, 50, 51, 51, 51, 52, 51, 53, 51, 54, 51, 55, 51, 56, 51, 57, 52, 48, 52, 49, 52, 50, 52, 51, 52, 52, 52, 53, 52, 54, 52, 55, 52, 56, 52, 57] #[53, 48, 53, 49, 53, 50, 53, 51, 53, 52, 53, 53, 53, 54, 53, 55, 53, 56, 53, 57, 54, 48, 54, 49, 54, 50, 54, 51, 54, 52, 54, 53, 54, 54, 54, 55, 54, 56, 54, 57, 55, 48, 55, 49, 55, 50, 55, 51, 55, 52, 55, 53, 55, 54, 55, 55, 55, 56, 55, 57, 56, 48, 56, 49, 56, 50, 56, 51, 56, 52, 56, 53, 56, 54, 56, 55, 56, 56, 56, 57, 57, 48, 57, 49, 57, 50, 57, 51, 57, 52, 57, 53, 57, 54, 57, 55, 57, 56, 57, 57]) } tx_730b8f_eq (by kernel_rfl)) (PSim.named_nat opIndexStrW_nat), none⟩,
 ⟨.p (opMove (some 132) (.tmp 14) 118 "itoa.go:217" #[]), none⟩,
 ⟨.pn (PSim.named (opIndexStrW (some 133) 9 (.const (Value.string { data := (.append #[48, 48, 48, 49, 48, 50, 48, 51, 48, 52, 48, 53, 48, 54, 48, 55, 48, 56, 48, 57, 49, 48, 49, 49, 49, 50, 49, 51, 49, 52, 49, 53, 49, 54, 49, 55, 49, 56, 49, 57, 50, 48, 50, 49, 50, 50, 50, 51, 50, 52, 50, 53, 50, 54, 50, 55, 50, 56, 50, 57, 51, 48, 51, 49, 51, 50, 51, 51, 51, 52, 51, 53, 51, 54, 51, 55, 51, 56, 51, 57, 52, 48, 52, 49, 52, 50, 52, 51, 52, 52, 52, 53, 52, 54, 52, 55, 52, 56, 52, 57] #[53, 48, 53, 49, 53, 50, 53, 51, 53, 52, 53, 53, 53, 54, 53, 55, 53, 56, 53, 57, 54, 48, 54, 49, 54, 50, 54, 51, 54, 52, 54, 53, 54, 54, 54, 55, 54, 56, 54, 57, 55, 48, 55, 49, 55, 50, 55, 51, 55, 52, 55, 53, 55, 54, 55, 55, 55, 56, 55, 57, 56, 48, 56, 49, 56, 50, 56, 51, 56, 52, 56, 53, 56, 54, 56, 55, 56, 56, 56, 57, 57, 48, 57, 49, 57, 50, 57, 51, 57, 52, 57, 53, 57, 54, 57, 55, 57, 56, 57, 57]) })) (.tmp 132) Tryd.underlying9 5 "itoa.go:217" #[eD 9]) tx_730b8f { data := (.append #[48, 48, 48, 49, 48, 50, 48, 51, 48, 52, 48, 53, 48, 54, 48, 55, 48, 56, 48, 57, 49, 48, 49, 49, 49, 50, 49, 51, 49, 52, 49, 53, 49, 54, 49, 55, 49, 56, 49, 57, 50, 48, 50, 49, 50, 50, 50, 51, 50, 52, 50, 53, 50, 54, 50, 55, 50, 56, 50, 57, 51, 48, 51, 49, 51, 50, 51, 51, 51, 52, 51, 53, 51, 54, 51, 55, 51, 56, 51, 57, 52, 48, 52, 49, 52, 50, 52, 51, 52, 52, 52, 53, 52, 54, 52, 55, 52, 56, 52, 57] #[53, 48, 53, 49, 53, 50, 53, 51, 53, 52, 53, 53, 53, 54, 53, 55, 53, 56, 53, 57, 54, 48, 54, 49, 54, 50, 54, 51, 54, 52, 54, 53, 54, 54, 54, 55, 54, 56, 54, 57, 55, 48, 55, 49, 55, 50, 55, 51, 55, 52, 55, 53, 55, 54, 55, 55, 55, 56, 55, 57, 56, 48, 56, 49, 56, 50, 56, 51, 56, 52, 56, 53, 56, 54, 56, 55, 56, 56, 56, 57, 57, 48, 57, 49, 57, 50, 57, 51, 57, 52, 57, 53, 57, 54, 57, 55, 57, 56, 57, 57]) } tx_730b8f_eq (by kernel_rfl)) (PSim.named_nat opIndexStrW_nat), none⟩,
 ⟨.pn (opIndexAddrT (some 134) 46 (.tmp 123) (.tmp 125) 5 1 Tryd.underlying46 sz5 0 "itoa.go:217" #[eD 0, eD 2, eP 0, eP 1, eP 2, { on := 3, ground := (Ground.textOnly Departure.lateStores) }, { on := 4, ground := (Ground.textOnly Departure.lateStores) }, { on := 5, ground := (Ground.textOnly Departure.lateStores) }, eP 6, eP 7, eP 8, { on := 9, ground := (Ground.textOnly Departure.lateStores) }, { on := 10, ground := (Ground.textOnly Departure.lateStoresUnsure) }]) opIndexAddrT_nat, none⟩,
 ⟨.mn (opStoreC none 5 (.tmp 134) (.tmp 131) 1 sz5 0 "itoa.go:217" #[eD 11, eD 8, eP 0, eP 1, eP 2, { on := 3, ground := (Ground.textOnly Departure.lateStores) }, { on := 4, ground := (Ground.textOnly Departure.lateStores) }, { on := 5, ground := (Ground.textOnly Departure.lateStores) }, eP 6, eP 7, eP 8, { on := 9, ground := (Ground.textOnly Departure.lateStores) }, { on := 10, ground := (Ground.textOnly Departure.lateStoresUnsure) }]) opStoreC_nat, none⟩,
 ⟨.pn (opIndexAddrT (some 135) 46 (.tmp 126) (.tmp 128) 5 1 Tryd.underlying46 sz5 0 "itoa.go:217" #[eD 3, eD 5, eP 0, eP 1, eP 2, eP 3, eP 4, eP 5, eP 6, eP 7, eP 8, eP 9, eP 10, eP 11, eP 12]) opIndexAddrT_nat, none⟩,
 ⟨.mn (opStoreC none 5 (.tmp 135) (.tmp 133) 1 sz5 0 "itoa.go:217" #[eD 13, eD 10, eC 12, eP 0, eP 1, eP 2, eP 3, eP 4, eP 5, eP 6, eP 7, eP 8, eP 9, eP 10, eP 11, eP 12]) opStoreC_nat, none⟩
 ] mixed (by kernel_rfl)))
 (.live [0, 4, 12] (.region 19 [
 ⟨(opMove (some 136) (.tmp 4) 3 "itoa.go:218" #[]).op, none⟩,
 ⟨(opBin (some 137) .sub 3 (.tmp 136) (.const (Value.int IntKind.i64 4)) 3 3 "itoa.go:218" #[eD 0]).op, none⟩,
 ⟨(opAssign (some 4) (.tmp 137) 3 "itoa.go:218" #[eD 1, eP 0, eP 1]).op, none⟩
 ] (by kernel_rfl))))))))
 .skip))
 (.seq (.seq (.live [0, 4, 12, 139] (.region 20 [
 ⟨(opMove (some 138) (.tmp 4) 3 "itoa.go:220" #[]).op, none⟩,
 ⟨(opBin (some 139) .geq 3 (.tmp 138) (.const (Value.int IntKind.i64 2)) 3 4 "itoa.go:220" #[eD 0]).op, none⟩
 ] (by kernel_rfl)))
 (.cond (.tmp 139)
 (.seq (.live [0, 4, 12, 16] (.region 21 [
 ⟨(opMove (some 140) (.tmp 12) 118 "itoa.go:222" #[]).op, none⟩,
 ⟨(opBin (some 141) .rem 118 (.tmp 140) (.const (Value.int IntKind.u32 100)) 118 118 "itoa.go:222" #[eD 0]).op, none⟩,
 ⟨(opBin (some 142) .mul 118 (.tmp 141) (.const (Value.int IntKind.u32 2)) 118 118 "itoa.go:222" #[eD 1]).op, none⟩,
 ⟨(opAssign (some 16) (.tmp 142) 118 "itoa.go:222" #[eD 2, eP 0, eP 1, eP 2]).op, none⟩
 ] (by kernel_rfl)))
 (.seq (.live [0, 4, 12, 16] (.region 22 [
 ⟨(opMove (some 143) (.tmp 12) 118 "itoa.go:223" #[]).op, none⟩,
 ⟨(opBin (some 144) .quo 118 (.tmp 143) (.const (Value.int IntKind.u32 100)) 118 118 "itoa.go:223" #[eD 0]).op, none⟩,
 ⟨(opAssign (some 12) (.tmp 144) 118 "itoa.go:223" #[eD 1, eP 0, eP 1]).op, none⟩
 ] (by kernel_rfl)))
 (.seq (.live [0, 4, 12] (.draw 23 [
 ⟨.p (opMove (some 145) (.tmp 0) 46 "itoa.go:224" #[]), none⟩,
 ⟨.p (opMove (some 146) (.tmp 4) 3 "itoa.go:224" #[]), none⟩,
 ⟨.pn (opBin (some 147) .sub 3 (.tmp 146) (.const (Value.int IntKind.i64 1)) 3 3 "itoa.go:224" #[eD 1]) opBin_nat, none⟩,
 ⟨.p (opMove (some 148) (.tmp 0) 46 "itoa.go:224" #[{ on := 12, ground := (Ground.gcOnly Departure.lateStores) }]), none⟩,
 ⟨.p (opMove (some 149) (.tmp 4) 3 "itoa.go:224" #[{ on := 12, ground := (Ground.gcOnly Departure.lateStores) }]), none⟩,
 ⟨.pn (opBin (some 150) .sub 3 (.tmp 149) (.const (Value.int IntKind.i64 2)) 3 3 "itoa.go:224" #[eD 4, { on := 12, ground := (Ground.gcOnly Departure.lateStores) }]) opBin_nat, none⟩,
 ⟨.p (opMove (some 151) (.tmp 16) 118 "itoa.go:224" #[]), none⟩,
 ⟨.pn (opBin (some 152) .add 118 (.tmp 151) (.const (Value.int IntKind.u32 1)) 118 118 "itoa.go:224" #[eD 6]) opBin_nat, none⟩,
 ⟨.pn (PSim.named (opIndexStrW (some 153) 9 (.const (Value.string { data := (.append #[48, 48, 48, 49, 48, 50, 48, 51, 48, 52, 48, 53, 48, 54, 48, 55, 48, 56, 48, 57, 49, 48, 49, 49, 49, 50, 49, 51, 49, 52, 49, 53, 49, 54, 49, 55, 49, 56, 49, 57, 50, 48, 50, 49, 50, 50, 50, 51, 50, 52, 50, 53, 50, 54, 50, 55, 50, 56, 50, 57, 51, 48, 51, 49, 51, 50, 51, 51, 51, 52, 51, 53, 51, 54, 51, 55, 51, 56, 51, 57, 52, 48, 52, 49, 52, 50, 52, 51, 52, 52, 52, 53, 52, 54, 52, 55, 52, 56, 52, 57] #[53, 48, 53, 49, 53, 50, 53, 51, 53, 52, 53, 53, 53, 54, 53, 55, 53, 56, 53, 57, 54, 48, 54, 49, 54, 50, 54, 51, 54, 52, 54, 53, 54, 54, 54, 55, 54, 56, 54, 57, 55, 48, 55, 49, 55, 50, 55, 51, 55, 52, 55, 53, 55, 54, 55, 55, 55, 56, 55, 57, 56, 48, 56, 49, 56, 50, 56, 51, 56, 52, 56, 53, 56, 54, 56, 55, 56, 56, 56, 57, 57, 48, 57, 49, 57, 50, 57, 51, 57, 52, 57, 53, 57, 54, 57, 55, 57, 56, 57, 57]) })) (.tmp 152) Tryd.underlying9 5 "itoa.go:224" #[eD 7]) tx_730b8f { data := (.append #[48, 48, 48, 49, 48, 50, 48, 51, 48, 52, 48, 53, 48, 54, 48, 55, 48, 56, 48, 57, 49, 48, 49, 49, 49, 50, 49, 51, 49, 52, 49, 53, 49, 54, 49, 55, 49, 56, 49, 57, 50, 48, 50, 49, 50, 50, 50, 51, 50, 52, 50, 53, 50, 54, 50, 55, 50, 56, 50, 57, 51, 48, 51, 49, 51, 50, 51, 51, 51, 52, 51, 53, 51, 54, 51, 55, 51, 56, 51, 57, 52, 48, 52, 49, 52, 50, 52, 51, 52, 52, 52, 53, 52, 54, 52, 55, 52, 56, 52, 57] #[53, 48, 53, 49, 53, 50, 53, 51, 53, 52, 53, 53, 53, 54, 53, 55, 53, 56, 53, 57, 54, 48, 54, 49, 54, 50, 54, 51, 54, 52, 54, 53, 54, 54, 54, 55, 54, 56, 54, 57, 55, 48, 55, 49, 55, 50, 55, 51, 55, 52, 55, 53, 55, 54, 55, 55, 55, 56, 55, 57, 56, 48, 56, 49, 56, 50, 56, 51, 56, 52, 56, 53, 56, 54, 56, 55, 56, 56, 56, 57, 57, 48, 57, 49, 57, 50, 57, 51, 57, 52, 57, 53, 57, 54, 57, 55, 57, 56, 57, 57]) } tx_730b8f_eq (by kernel_rfl)) (PSim.named_nat opIndexStrW_nat), none⟩,
 ⟨.p (opMove (some 154) (.tmp 16) 118 "itoa.go:224" #[]), none⟩,
 ⟨.pn (PSim.named (opIndexStrW (some 155) 9 (.const (Value.string { data := (.append #[48, 48, 48, 49, 48, 50, 48, 51, 48, 52, 48, 53, 48, 54, 48, 55, 48, 56, 48, 57, 49, 48, 49, 49, 49, 50, 49, 51, 49, 52, 49, 53, 49, 54, 49, 55, 49, 56, 49, 57, 50, 48, 50, 49, 50, 50, 50, 51, 50, 52, 50, 53, 50, 54, 50, 55, 50, 56, 50, 57, 51, 48, 51, 49, 51, 50, 51, 51, 51, 52, 51, 53, 51, 54, 51, 55, 51, 56, 51, 57, 52, 48, 52, 49, 52, 50, 52, 51, 52, 52, 52, 53, 52, 54, 52, 55, 52, 56, 52, 57] #[53, 48, 53, 49, 53, 50, 53, 51, 53, 52, 53, 53, 53, 54, 53, 55, 53, 56, 53, 57, 54, 48, 54, 49, 54, 50, 54, 51, 54, 52, 54, 53, 54, 54, 54, 55, 54, 56, 54, 57, 55, 48, 55, 49, 55, 50, 55, 51, 55, 52, 55, 53, 55, 54, 55, 55, 55, 56, 55, 57, 56, 48, 56, 49, 56, 50, 56, 51, 56, 52, 56, 53, 56, 54, 56, 55, 56, 56, 56, 57, 57, 48, 57, 49, 57, 50, 57, 51, 57, 52, 57, 53, 57, 54, 57, 55, 57, 56, 57, 57]) })) (.tmp 154) Tryd.underlying9 5 "itoa.go:224" #[eD 9]) tx_730b8f { data := (.append #[48, 48, 48, 49, 48, 50, 48, 51, 48, 52, 48, 53, 48, 54, 48, 55, 48, 56, 48, 57, 49, 48, 49, 49, 49, 50, 49, 51, 49, 52, 49, 53, 49, 54, 49, 55, 49, 56, 49, 57, 50, 48, 50, 49, 50, 50, 50, 51, 50, 52, 50, 53, 50, 54, 50, 55, 50, 56, 50, 57, 51, 48, 51, 49, 51, 50, 51, 51, 51, 52, 51, 53, 51, 54, 51, 55, 51, 56, 51, 57, 52, 48, 52, 49, 52, 50, 52, 51, 52, 52, 52, 53, 52, 54, 52, 55, 52, 56, 52, 57] #[53, 48, 53, 49, 53, 50, 53, 51, 53, 52, 53, 53, 53, 54, 53, 55, 53, 56, 53, 57, 54, 48, 54, 49, 54, 50, 54, 51, 54, 52, 54, 53, 54, 54, 54, 55, 54, 56, 54, 57, 55, 48, 55, 49, 55, 50, 55, 51, 55, 52, 55, 53, 55, 54, 55, 55, 55, 56, 55, 57, 56, 48, 56, 49, 56, 50, 56, 51, 56, 52, 56, 53, 56, 54, 56, 55, 56, 56, 56, 57, 57, 48, 57, 49, 57, 50, 57, 51, 57, 52, 57, 53, 57, 54, 57, 55, 57, 56, 57, 57]) } tx_730b8f_eq (by kernel_rfl)) (PSim.named_nat opIndexStrW_nat), none⟩,
 ⟨.pn (opIndexAddrT (some 156) 46 (.tmp 145) (.tmp 147) 5 1 Tryd.underlying46 sz5 0 "itoa.go:224" #[eD 0, eD 2, eP 0, eP 1, eP 2, { on := 3, ground := (Ground.textOnly Departure.lateStores) }, { on := 4, ground := (Ground.textOnly Departure.lateStores) }, { on := 5, ground := (Ground.textOnly Departure.lateStores) }, eP 6, eP 7, eP 8, { on := 9, ground := (Ground.textOnly Departure.lateStores) }, { on := 10, ground := (Ground.textOnly Departure.lateStoresUnsure) }]) opIndexAddrT_nat, none⟩,
 ⟨.mn (opStoreC none 5 (.tmp 156) (.tmp 153) 1 sz5 0 "itoa.go:224" #[eD 11, eD 8, eP 0, eP 1, eP 2, { on := 3, ground := (Ground.textOnly Departure.lateStores) }, { on := 4, ground := (Ground.textOnly Departure.lateStores) }, { on := 5, ground := (Ground.textOnly Departure.lateStores) }, eP 6, eP 7, eP 8, { on := 9, ground := (Ground.textOnly Departure.lateStores) }, { on := 10, ground := (Ground.textOnly Departure.lateStoresUnsure) }]) opStoreC_nat, none⟩,
 ⟨.pn (opIndexAddrT (some 157) 46 (.tmp 148) (.tmp 150) 5 1 Tryd.underlying46 sz5 0 "itoa.go:224" #[eD 3, eD 5, eP 0, eP 1, eP 2, eP 3, eP 4, eP 5, eP 6, eP 7, eP 8, eP 9, eP 10, eP 11, eP 12]) opIndexAddrT_nat, none⟩,
 ⟨.mn (opStoreC none 5 (.tmp 157) (.tmp 155) 1 sz5 0 "itoa.go:224" #[eD 13, eD 10, eC 12, eP 0, eP 1, eP 2, eP 3, eP 4, eP 5, eP 6, eP 7, eP 8, eP 9, eP 10, eP 11, eP 12]) opStoreC_nat, none⟩
 ] mixed (by kernel_rfl)))
 (.live [0, 4, 12] (.region 24 [
 ⟨(opMove (some 158) (.tmp 4) 3 "itoa.go:225" #[]).op, none⟩,
 ⟨(opBin (some 159) .sub 3 (.tmp 158) (.const (Value.int IntKind.i64 2)) 3 3 "itoa.go:225" #[eD 0]).op, none⟩,
 ⟨(opAssign (some 4) (.tmp 159) 3 "itoa.go:225" #[eD 1, eP 0, eP 1]).op, none⟩
 ] (by kernel_rfl))))))
 .skip))
 (.seq (.live [0, 12, 161] (.region 25 [
 ⟨(opMove (some 160) (.tmp 4) 3 "itoa.go:227" #[]).op, none⟩,
 ⟨(opBin (some 161) .gtr 3 (.tmp 160) (.const (Value.int IntKind.i64 0)) 3 4 "itoa.go:227" #[eD 0]).op, none⟩
 ] (by kernel_rfl)))
 (.cond (.tmp 161)
 (.live [] (.region 26 [
 ⟨(opMove (some 162) (.tmp 0) 46 "itoa.go:229" #[]).op, none⟩,
 ⟨(opMove (some 163) (.tmp 12) 118 "itoa.go:229" #[]).op, none⟩,
 ⟨(opBin (some 164) .add 118 (.const (Value.int IntKind.u32 48)) (.tmp 163) 118 118 "itoa.go:229" #[eD 1]).op, none⟩,
 ⟨(opConvInt (some 165) 118 5 (.tmp 164) (.int .u32) Tryd.underlying118 .u8 Tryd.underlying5 5 "itoa.go:229" #[eD 2]).op, none⟩,
 ⟨(opIndexAddrT (some 166) 46 (.tmp 162) (.const (Value.int IntKind.i64 0)) 5 1 Tryd.underlying46 sz5 0 "itoa.go:229" #[eD 0, eP 0, eP 1, eP 2, eP 3]).op, none⟩,
 ⟨(opStoreC none 5 (.tmp 166) (.tmp 165) 1 sz5 0 "itoa.go:229" #[eD 4, eD 3, eP 0, eP 1, eP 2, eP 3]).op, none⟩
 ] (by kernel_rfl)))
 .skip)))))

noncomputable def f86_b : Sim Tryd.prog :=
 (.seq (.live [0, 1, 4] (.region 0 [
 ⟨(opMove (some 17) (.tmp 0) 46 "itoa.go:195" #[]).op, none⟩,
 ⟨(opLen (some 18) (.tmp 17) 46 (.slice 5) Tryd.underlying46 3 "itoa.go:195" #[eD 0]).op, none⟩,
 ⟨(opAssign (some 4) (.tmp 18) 3 "itoa.go:195" #[eD 1, eP 0, eP 1]).op, none⟩
 ] (by kernel_rfl)))
 (.seq (.block 0 (.loop [0, 1, 4] f86_l0))
 f86_r0))

noncomputable def f86 : Fun Tryd.prog where
 id := 86
 fn := Tryd.f86
 hf := Tryd.func86
 hname := by kernel_rfl
 body := f86_b
 hbody := by kernel_rfl
 res := []
 hres := by kernel_rfl
 n := 167
 hn := by kernel_rfl

end Go.Proofs.YtcfedmheblbdnaaDoor.V

/- What the functions' runs come to; the right sides were printed by a tool, Lean checks them. -/
set_option linter.unusedVariables false
set_option maxRecDepth 100000
namespace Go.Proofs.YtcfedmheblbdnaaDoor.V
open Go Go.V Go.RowKit

theorem fb_run (F : Nat) (n c : Nat) (u : Int) (C : List AV) (os : List Ob) (tk : List (Nat × Nat)) :
 (f86.run F [.ms 0 1 1 n c, .int .u64 u] ⟨.cells C :: os, tk⟩ : Ans) =
 loopRun (f86_l0.run F) [0, 1, 4]
 (Cont.block 0 (Cont.then (f86_r0.run F (f86.leaveK Fun.done)) (f86.leaveK Fun.done))) F
 (Env.mk 167
 [(0, AV.ms 0 1 1 n c), (1, AV.int IntKind.u64 u),
 (4, AV.int IntKind.i64 (↑n : Int))])
 (St.mk (Ob.cells C :: os) tk) := by kernel_rfl

theorem fb_round (F m : Nat) (K : Cont) (n c : Nat) (u d : Int) (C : List AV) (os : List Ob) (tk : List (Nat × Nat)) :
 (loopRun (f86_l0.run F) [0, 1, 4] K m.succ (Env.mk 167 [(0, .ms 0 1 1 n c), (1, .int .u64 u), (4, .int .i64 d)]) ⟨.cells C :: os, tk⟩ : Ans) =
 branch (AV.bool (decide (d ≥ (8 : Int))))
 (branch
 (AV.bool
 (inT tx_730b8f
 (IntKind.u32.wrap
 (IntKind.u32.wrap
 (((IntKind.u32.wrap (u.tmod (100000000 : Int))).tmod (10000 : Int)).tmod (100 : Int) * (2 : Int)) +
 (1 : Int)))))
 (branch
 (AV.bool
 (inT tx_730b8f
 (IntKind.u32.wrap
 (((IntKind.u32.wrap (u.tmod (100000000 : Int))).tmod (10000 : Int)).tmod (100 : Int) * (2 : Int)))))
 (if (0 : Int) ≤ IntKind.i64.wrap (d - (1 : Int)) ∧ IntKind.i64.wrap (d - (1 : Int)) < (↑n : Int) then
 branch (AV.bool (true && inC C (1 + (IntKind.i64.wrap (d - (1 : Int))).toNat * 1) 1))
 (if (0 : Int) ≤ IntKind.i64.wrap (d - (2 : Int)) ∧ IntKind.i64.wrap (d - (2 : Int)) < (↑n : Int) then
 branch
 (AV.bool
 (true &&
 inC
 (setC C (1 + (IntKind.i64.wrap (d - (1 : Int))).toNat * 1)
 [AV.int IntKind.u8
 (atT tx_730b8f
 (IntKind.u32.wrap
 (IntKind.u32.wrap
 (((IntKind.u32.wrap (u.tmod (100000000 : Int))).tmod (10000 : Int)).tmod (100 : Int) *
 (2 : Int)) +
 (1 : Int))))])
 (1 + (IntKind.i64.wrap (d - (2 : Int))).toNat * 1) 1))
 (branch
 (AV.bool
 (inT tx_730b8f
 (IntKind.u32.wrap
 (IntKind.u32.wrap
 (IntKind.u32.wrap
 (((IntKind.u32.wrap (u.tmod (100000000 : Int))).tmod (10000 : Int)).tdiv (100 : Int)) *
 (2 : Int)) +
 (1 : Int)))))
 (branch
 (AV.bool
 (inT tx_730b8f
 (IntKind.u32.wrap
 (IntKind.u32.wrap
 (((IntKind.u32.wrap (u.tmod (100000000 : Int))).tmod (10000 : Int)).tdiv (100 : Int)) *
 (2 : Int)))))
 (if (0 : Int) ≤ IntKind.i64.wrap (d - (3 : Int)) ∧ IntKind.i64.wrap (d - (3 : Int)) < (↑n : Int) then
 branch
 (AV.bool
 (true &&
 inC
 (setC
 (setC C (1 + (IntKind.i64.wrap (d - (1 : Int))).toNat * 1)
 [AV.int IntKind.u8
 (atT tx_730b8f
 (IntKind.u32.wrap
 (IntKind.u32.wrap
 (((IntKind.u32.wrap (u.tmod (100000000 : Int))).tmod (10000 : Int)).tmod
 (100 : Int) *
 (2 : Int)) +
 (1 : Int))))])
 (1 + (IntKind.i64.wrap (d - (2 : Int))).toNat * 1)
 [AV.int IntKind.u8
 (atT tx_730b8f
 (IntKind.u32.wrap
 (((IntKind.u32.wrap (u.tmod (100000000 : Int))).tmod (10000 : Int)).tmod
 (100 : Int) *
 (2 : Int))))])
 (1 + (IntKind.i64.wrap (d - (3 : Int))).toNat * 1) 1))
 (if
 (0 : Int) ≤ IntKind.i64.wrap (d - (4 : Int)) ∧
 IntKind.i64.wrap (d - (4 : Int)) < (↑n : Int) then
 branch
 (AV.bool
 (true &&
 inC
 (setC
 (setC
 (setC C (1 + (IntKind.i64.wrap (d - (1 : Int))).toNat * 1)
 [AV.int IntKind.u8
 (atT tx_730b8f
 (IntKind.u32.wrap
 (IntKind.u32.wrap
 (((IntKind.u32.wrap (u.tmod (100000000 : Int))).tmod
 (10000 : Int)).tmod
 (100 : Int) *
 (2 : Int)) +
 (1 : Int))))])
 (1 + (IntKind.i64.wrap (d - (2 : Int))).toNat * 1)
 [AV.int IntKind.u8
 (atT tx_730b8f
 (IntKind.u32.wrap
 (((IntKind.u32.wrap (u.tmod (100000000 : Int))).tmod (10000 : Int)).tmod
 (100 : Int) *
 (2 : Int))))])
 (1 + (IntKind.i64.wrap (d - (3 : Int))).toNat * 1)
 [AV.int IntKind.u8
 (atT tx_730b8f
 (IntKind.u32.wrap
 (IntKind.u32.wrap
 (IntKind.u32.wrap
 (((IntKind.u32.wrap (u.tmod (100000000 : Int))).tmod
 (10000 : Int)).tdiv
 (100 : Int)) *
 (2 : Int)) +
 (1 : Int))))])
 (1 + (IntKind.i64.wrap (d - (4 : Int))).toNat * 1) 1))
 (branch
 (AV.bool
 (inT tx_730b8f
 (IntKind.u32.wrap
 (IntKind.u32.wrap
 ((IntKind.u32.wrap
 ((IntKind.u32.wrap (u.tmod (100000000 : Int))).tdiv (10000 : Int))).tmod
 (100 : Int) *
 (2 : Int)) +
 (1 : Int)))))
 (branch
 (AV.bool
 (inT tx_730b8f
 (IntKind.u32.wrap
 ((IntKind.u32.wrap
 ((IntKind.u32.wrap (u.tmod (100000000 : Int))).tdiv (10000 : Int))).tmod
 (100 : Int) *
 (2 : Int)))))
 (if
 (0 : Int) ≤ IntKind.i64.wrap (d - (5 : Int)) ∧
 IntKind.i64.wrap (d - (5 : Int)) < (↑n : Int) then
 branch
 (AV.bool
 (true &&
 inC
 (setC
 (setC
 (setC
 (setC C (1 + (IntKind.i64.wrap (d - (1 : Int))).toNat * 1)
 [AV.int IntKind.u8
 (atT tx_730b8f
 (IntKind.u32.wrap
 (IntKind.u32.wrap
 (((IntKind.u32.wrap (u.tmod (100000000 : Int))).tmod
 (10000 : Int)).tmod
 (100 : Int) *
 (2 : Int)) +
 (1 : Int))))])
 (1 + (IntKind.i64.wrap (d - (2 : Int))).toNat * 1)
 [AV.int IntKind.u8
 (atT tx_730b8f
 (IntKind.u32.wrap
 (((IntKind.u32.wrap (u.tmod (100000000 : Int))).tmod
 (10000 : Int)).tmod
 (100 : Int) *
 (2 : Int))))])
 (1 + (IntKind.i64.wrap (d - (3 : Int))).toNat * 1)
 [AV.int IntKind.u8
 (atT tx_730b8f
 (IntKind.u32.wrap
 (IntKind.u32.wrap
 (IntKind.u32.wrap
 (((IntKind.u32.wrap (u.tmod (100000000 : Int))).tmod
 (10000 : Int)).tdiv
 (100 : Int)) *
 (2 : Int)) +
 (1 : Int))))])
 (1 + (IntKind.i64.wrap (d - (4 : Int))).toNat * 1)
 [AV.int IntKind.u8
 (atT tx_730b8f
 (IntKind.u32.wrap
 (IntKind.u32.wrap
 (((IntKind.u32.wrap (u.tmod (100000000 : Int))).tmod
 (10000 : Int)).tdiv
 (100 : Int)) *
 (2 : Int))))])
 (1 + (IntKind.i64.wrap (d - (5 : Int))).toNat * 1) 1))
 (if
 (0 : Int) ≤ IntKind.i64.wrap (d - (6 : Int)) ∧
 IntKind.i64.wrap (d - (6 : Int)) < (↑n : Int) then
 branch
 (AV.bool
 (true &&
 inC
 (setC
 (setC
 (setC
 (setC
 (setC C
 (1 + (IntKind.i64.wrap (d - (1 : Int))).toNat * 1)
 [AV.int IntKind.u8
 (atT tx_730b8f
 (IntKind.u32.wrap
 (IntKind.u32.wrap
 (((IntKind.u32.wrap (u.tmod (100000000 : Int))).tmod
 (10000 : Int)).tmod
 (100 : Int) *
 (2 : Int)) +
 (1 : Int))))])
 (1 + (IntKind.i64.wrap (d - (2 : Int))).toNat * 1)
 [AV.int IntKind.u8
 (atT tx_730b8f
 (IntKind.u32.wrap
 (((IntKind.u32.wrap (u.tmod (100000000 : Int))).tmod
 (10000 : Int)).tmod
 (100 : Int) *
 (2 : Int))))])
 (1 + (IntKind.i64.wrap (d - (3 : Int))).toNat * 1)
 [AV.int IntKind.u8
 (atT tx_730b8f
 (IntKind.u32.wrap
 (IntKind.u32.wrap
 (IntKind.u32.wrap
 (((IntKind.u32.wrap (u.tmod (100000000 : Int))).tmod
 (10000 : Int)).tdiv
 (100 : Int)) *
 (2 : Int)) +
 (1 : Int))))])
 (1 + (IntKind.i64.wrap (d - (4 : Int))).toNat * 1)
 [AV.int IntKind.u8
 (atT tx_730b8f
 (IntKind.u32.wrap
 (IntKind.u32.wrap
 (((IntKind.u32.wrap (u.tmod (100000000 : Int))).tmod
 (10000 : Int)).tdiv
 (100 : Int)) *
 (2 : Int))))])
 (1 + (IntKind.i64.wrap (d - (5 : Int))).toNat * 1)
 [AV.int IntKind.u8
 (atT tx_730b8f
 (IntKind.u32.wrap
 (IntKind.u32.wrap
 ((IntKind.u32.wrap
 ((IntKind.u32.wrap (u.tmod (100000000 : Int))).tdiv
 (10000 : Int))).tmod
 (100 : Int) *
 (2 : Int)) +
 (1 : Int))))])
 (1 + (IntKind.i64.wrap (d - (6 : Int))).toNat * 1)
 1))
 (branch
 (AV.bool
 (inT tx_730b8f
 (IntKind.u32.wrap
 (IntKind.u32.wrap
 (IntKind.u32.wrap
 ((IntKind.u32.wrap
 ((IntKind.u32.wrap (u.tmod (100000000 : Int))).tdiv
 (10000 : Int))).tdiv
 (100 : Int)) *
 (2 : Int)) +
 (1 : Int)))))
 (branch
 (AV.bool
 (inT tx_730b8f
 (IntKind.u32.wrap
 (IntKind.u32.wrap
 ((IntKind.u32.wrap
 ((IntKind.u32.wrap (u.tmod (100000000 : Int))).tdiv
 (10000 : Int))).tdiv
 (100 : Int)) *
 (2 : Int)))))
 (if
 (0 : Int) ≤ IntKind.i64.wrap (d - (7 : Int)) ∧
 IntKind.i64.wrap (d - (7 : Int)) < (↑n : Int) then
 branch
 (AV.bool
 (true &&
 inC
 (setC
 (setC
 (setC
 (setC
 (setC
 (setC C
 (1 +
 (IntKind.i64.wrap (d - (1 : Int))).toNat * 1)
 [AV.int IntKind.u8
 (atT tx_730b8f
 (IntKind.u32.wrap
 (IntKind.u32.wrap
 (((IntKind.u32.wrap
 (u.tmod (100000000 : Int))).tmod
 (10000 : Int)).tmod
 (100 : Int) *
 (2 : Int)) +
 (1 : Int))))])
 (1 +
 (IntKind.i64.wrap (d - (2 : Int))).toNat * 1)
 [AV.int IntKind.u8
 (atT tx_730b8f
 (IntKind.u32.wrap
 (((IntKind.u32.wrap
 (u.tmod (100000000 : Int))).tmod
 (10000 : Int)).tmod
 (100 : Int) *
 (2 : Int))))])
 (1 +
 (IntKind.i64.wrap (d - (3 : Int))).toNat * 1)
 [AV.int IntKind.u8
 (atT tx_730b8f
 (IntKind.u32.wrap
 (IntKind.u32.wrap
 (IntKind.u32.wrap
 (((IntKind.u32.wrap
 (u.tmod (100000000 : Int))).tmod
 (10000 : Int)).tdiv
 (100 : Int)) *
 (2 : Int)) +
 (1 : Int))))])
 (1 +
 (IntKind.i64.wrap (d - (4 : Int))).toNat * 1)
 [AV.int IntKind.u8
 (atT tx_730b8f
 (IntKind.u32.wrap
 (IntKind.u32.wrap
 (((IntKind.u32.wrap
 (u.tmod (100000000 : Int))).tmod
 (10000 : Int)).tdiv
 (100 : Int)) *
 (2 : Int))))])
 (1 +
 (IntKind.i64.wrap (d - (5 : Int))).toNat * 1)
 [AV.int IntKind.u8
 (atT tx_730b8f
 (IntKind.u32.wrap
 (IntKind.u32.wrap
 ((IntKind.u32.wrap
 ((IntKind.u32.wrap
 (u.tmod (100000000 : Int))).tdiv
 (10000 : Int))).tmod
 (100 : Int) *
 (2 : Int)) +
 (1 : Int))))])
 (1 + (IntKind.i64.wrap (d - (6 : Int))).toNat * 1)
 [AV.int IntKind.u8
 (atT tx_730b8f
 (IntKind.u32.wrap
 ((IntKind.u32.wrap
 ((IntKind.u32.wrap
 (u.tmod (100000000 : Int))).tdiv
 (10000 : Int))).tmod
 (100 : Int) *
 (2 : Int))))])
 (1 + (IntKind.i64.wrap (d - (7 : Int))).toNat * 1)
 1))
 (if
 (0 : Int) ≤ IntKind.i64.wrap (d - (8 : Int)) ∧
 IntKind.i64.wrap (d - (8 : Int)) < (↑n : Int) then
 branch
 (AV.bool
 (true &&
 inC
 (setC
 (setC
 (setC
 (setC
 (setC
 (setC
 (setC C
 (1 +
 (IntKind.i64.wrap (d - (1 : Int))).toNat *
 1)
 [AV.int IntKind.u8
 (atT tx_730b8f
 (IntKind.u32.wrap
 (IntKind.u32.wrap
 (((IntKind.u32.wrap
 (u.tmod
 (100000000 : Int))).tmod
 (10000 : Int)).tmod
 (100 : Int) *
 (2 : Int)) +
 (1 : Int))))])
 (1 +
 (IntKind.i64.wrap (d - (2 : Int))).toNat *
 1)
 [AV.int IntKind.u8
 (atT tx_730b8f
 (IntKind.u32.wrap
 (((IntKind.u32.wrap
 (u.tmod (100000000 : Int))).tmod
 (10000 : Int)).tmod
 (100 : Int) *
 (2 : Int))))])
 (1 +
 (IntKind.i64.wrap (d - (3 : Int))).toNat *
 1)
 [AV.int IntKind.u8
 (atT tx_730b8f
 (IntKind.u32.wrap
 (IntKind.u32.wrap
 (IntKind.u32.wrap
 (((IntKind.u32.wrap
 (u.tmod
 (100000000 : Int))).tmod
 (10000 : Int)).tdiv
 (100 : Int)) *
 (2 : Int)) +
 (1 : Int))))])
 (1 +
 (IntKind.i64.wrap (d - (4 : Int))).toNat * 1)
 [AV.int IntKind.u8
 (atT tx_730b8f
 (IntKind.u32.wrap
 (IntKind.u32.wrap
 (((IntKind.u32.wrap
 (u.tmod (100000000 : Int))).tmod
 (10000 : Int)).tdiv
 (100 : Int)) *
 (2 : Int))))])
 (1 +
 (IntKind.i64.wrap (d - (5 : Int))).toNat * 1)
 [AV.int IntKind.u8
 (atT tx_730b8f
 (IntKind.u32.wrap
 (IntKind.u32.wrap
 ((IntKind.u32.wrap
 ((IntKind.u32.wrap
 (u.tmod (100000000 : Int))).tdiv
 (10000 : Int))).tmod
 (100 : Int) *
 (2 : Int)) +
 (1 : Int))))])
 (1 +
 (IntKind.i64.wrap (d - (6 : Int))).toNat * 1)
 [AV.int IntKind.u8
 (atT tx_730b8f
 (IntKind.u32.wrap
 ((IntKind.u32.wrap
 ((IntKind.u32.wrap
 (u.tmod (100000000 : Int))).tdiv
 (10000 : Int))).tmod
 (100 : Int) *
 (2 : Int))))])
 (1 +
 (IntKind.i64.wrap (d - (7 : Int))).toNat * 1)
 [AV.int IntKind.u8
 (atT tx_730b8f
 (IntKind.u32.wrap
 (IntKind.u32.wrap
 (IntKind.u32.wrap
 ((IntKind.u32.wrap
 ((IntKind.u32.wrap
 (u.tmod (100000000 : Int))).tdiv
 (10000 : Int))).tdiv
 (100 : Int)) *
 (2 : Int)) +
 (1 : Int))))])
 (1 +
 (IntKind.i64.wrap (d - (8 : Int))).toNat * 1)
 1))
 (loopRun (f86_l0.run F) [0, 1, 4] K m
 (Env.mk 167
 [(0, AV.ms 0 1 1 n c),
 (1,
 AV.int IntKind.u64
 (IntKind.u64.wrap (u.tdiv (100000000 : Int)))),
 (4,
 AV.int IntKind.i64 (IntKind.i64.wrap (d - (8 : Int))))])
 (St.mk
 (Ob.cells
 (setC
 (setC
 (setC
 (setC
 (setC
 (setC
 (setC
 (setC C
 (1 +
 (IntKind.i64.wrap (d - (1 : Int))).toNat *
 1)
 [AV.int IntKind.u8
 (atT tx_730b8f
 (IntKind.u32.wrap
 (IntKind.u32.wrap
 (((IntKind.u32.wrap
 (u.tmod
 (100000000 :
 Int))).tmod
 (10000 : Int)).tmod
 (100 : Int) *
 (2 : Int)) +
 (1 : Int))))])
 (1 +
 (IntKind.i64.wrap (d - (2 : Int))).toNat *
 1)
 [AV.int IntKind.u8
 (atT tx_730b8f
 (IntKind.u32.wrap
 (((IntKind.u32.wrap
 (u.tmod
 (100000000 : Int))).tmod
 (10000 : Int)).tmod
 (100 : Int) *
 (2 : Int))))])
 (1 +
 (IntKind.i64.wrap (d - (3 : Int))).toNat *
 1)
 [AV.int IntKind.u8
 (atT tx_730b8f
 (IntKind.u32.wrap
 (IntKind.u32.wrap
 (IntKind.u32.wrap
 (((IntKind.u32.wrap
 (u.tmod
 (100000000 :
 Int))).tmod
 (10000 : Int)).tdiv
 (100 : Int)) *
 (2 : Int)) +
 (1 : Int))))])
 (1 +
 (IntKind.i64.wrap (d - (4 : Int))).toNat *
 1)
 [AV.int IntKind.u8
 (atT tx_730b8f
 (IntKind.u32.wrap
 (IntKind.u32.wrap
 (((IntKind.u32.wrap
 (u.tmod
 (100000000 : Int))).tmod
 (10000 : Int)).tdiv
 (100 : Int)) *
 (2 : Int))))])
 (1 +
 (IntKind.i64.wrap (d - (5 : Int))).toNat *
 1)
 [AV.int IntKind.u8
 (atT tx_730b8f
 (IntKind.u32.wrap
 (IntKind.u32.wrap
 ((IntKind.u32.wrap
 ((IntKind.u32.wrap
 (u.tmod
 (100000000 : Int))).tdiv
 (10000 : Int))).tmod
 (100 : Int) *
 (2 : Int)) +
 (1 : Int))))])
 (1 +
 (IntKind.i64.wrap (d - (6 : Int))).toNat * 1)
 [AV.int IntKind.u8
 (atT tx_730b8f
 (IntKind.u32.wrap
 ((IntKind.u32.wrap
 ((IntKind.u32.wrap
 (u.tmod (100000000 : Int))).tdiv
 (10000 : Int))).tmod
 (100 : Int) *
 (2 : Int))))])
 (1 +
 (IntKind.i64.wrap (d - (7 : Int))).toNat * 1)
 [AV.int IntKind.u8
 (atT tx_730b8f
 (IntKind.u32.wrap
 (IntKind.u32.wrap
 (IntKind.u32.wrap
 ((IntKind.u32.wrap
 ((IntKind.u32.wrap
 (u.tmod
 (100000000 : Int))).tdiv
 (10000 : Int))).tdiv
 (100 : Int)) *
 (2 : Int)) +
 (1 : Int))))])
 (1 +
 (IntKind.i64.wrap (d - (8 : Int))).toNat * 1)
 [AV.int IntKind.u8
 (atT tx_730b8f
 (IntKind.u32.wrap
 (IntKind.u32.wrap
 ((IntKind.u32.wrap
 ((IntKind.u32.wrap
 (u.tmod (100000000 : Int))).tdiv
 (10000 : Int))).tdiv
 (100 : Int)) *
 (2 : Int))))]) ::
 os)
 tk))
 none
 else none)
 none
 else none)
 none)
 none)
 none
 else none)
 none
 else none)
 none)
 none)
 none
 else none)
 none
 else none)
 none)
 none)
 none
 else none)
 none
 else none)
 none)
 none)
 (K (AX.exit 0)
 (Env.mk 167
 [(0, AV.ms 0 1 1 n c), (1, AV.int IntKind.u64 u),
 (4, AV.int IntKind.i64 d)])
 (St.mk (Ob.cells C :: os) tk)) := by kernel_rfl

theorem fb_out (F : Nat) (n c : Nat) (u d : Int) (C : List AV) (os : List Ob) (tk : List (Nat × Nat)) :
 ((Cont.block 0 (Cont.then (f86_r0.run F (f86.leaveK Fun.done)) (f86.leaveK Fun.done))) (.exit 0) (Env.mk 167 [(0, .ms 0 1 1 n c), (1, .int .u64 u), (4, .int .i64 d)]) ⟨.cells C :: os, tk⟩ : Ans) =
 branch (AV.bool (decide (d ≥ (4 : Int))))
 (branch
 (AV.bool
 (inT tx_730b8f
 (IntKind.u32.wrap
 (IntKind.u32.wrap (((IntKind.u32.wrap u).tmod (10000 : Int)).tmod (100 : Int) * (2 : Int)) + (1 : Int)))))
 (branch
 (AV.bool
 (inT tx_730b8f (IntKind.u32.wrap (((IntKind.u32.wrap u).tmod (10000 : Int)).tmod (100 : Int) * (2 : Int)))))
 (if (0 : Int) ≤ IntKind.i64.wrap (d - (1 : Int)) ∧ IntKind.i64.wrap (d - (1 : Int)) < (↑n : Int) then
 branch (AV.bool (true && inC C (1 + (IntKind.i64.wrap (d - (1 : Int))).toNat * 1) 1))
 (if (0 : Int) ≤ IntKind.i64.wrap (d - (2 : Int)) ∧ IntKind.i64.wrap (d - (2 : Int)) < (↑n : Int) then
 branch
 (AV.bool
 (true &&
 inC
 (setC C (1 + (IntKind.i64.wrap (d - (1 : Int))).toNat * 1)
 [AV.int IntKind.u8
 (atT tx_730b8f
 (IntKind.u32.wrap
 (IntKind.u32.wrap
 (((IntKind.u32.wrap u).tmod (10000 : Int)).tmod (100 : Int) * (2 : Int)) +
 (1 : Int))))])
 (1 + (IntKind.i64.wrap (d - (2 : Int))).toNat * 1) 1))
 (branch
 (AV.bool
 (inT tx_730b8f
 (IntKind.u32.wrap
 (IntKind.u32.wrap
 (IntKind.u32.wrap (((IntKind.u32.wrap u).tmod (10000 : Int)).tdiv (100 : Int)) * (2 : Int)) +
 (1 : Int)))))
 (branch
 (AV.bool
 (inT tx_730b8f
 (IntKind.u32.wrap
 (IntKind.u32.wrap (((IntKind.u32.wrap u).tmod (10000 : Int)).tdiv (100 : Int)) * (2 : Int)))))
 (if (0 : Int) ≤ IntKind.i64.wrap (d - (3 : Int)) ∧ IntKind.i64.wrap (d - (3 : Int)) < (↑n : Int) then
 branch
 (AV.bool
 (true &&
 inC
 (setC
 (setC C (1 + (IntKind.i64.wrap (d - (1 : Int))).toNat * 1)
 [AV.int IntKind.u8
 (atT tx_730b8f
 (IntKind.u32.wrap
 (IntKind.u32.wrap
 (((IntKind.u32.wrap u).tmod (10000 : Int)).tmod (100 : Int) * (2 : Int)) +
 (1 : Int))))])
 (1 + (IntKind.i64.wrap (d - (2 : Int))).toNat * 1)
 [AV.int IntKind.u8
 (atT tx_730b8f
 (IntKind.u32.wrap
 (((IntKind.u32.wrap u).tmod (10000 : Int)).tmod (100 : Int) * (2 : Int))))])
 (1 + (IntKind.i64.wrap (d - (3 : Int))).toNat * 1) 1))
 (if
 (0 : Int) ≤ IntKind.i64.wrap (d - (4 : Int)) ∧
 IntKind.i64.wrap (d - (4 : Int)) < (↑n : Int) then
 branch
 (AV.bool
 (true &&
 inC
 (setC
 (setC
 (setC C (1 + (IntKind.i64.wrap (d - (1 : Int))).toNat * 1)
 [AV.int IntKind.u8
 (atT tx_730b8f
 (IntKind.u32.wrap
 (IntKind.u32.wrap
 (((IntKind.u32.wrap u).tmod (10000 : Int)).tmod (100 : Int) *
 (2 : Int)) +
 (1 : Int))))])
 (1 + (IntKind.i64.wrap (d - (2 : Int))).toNat * 1)
 [AV.int IntKind.u8
 (atT tx_730b8f
 (IntKind.u32.wrap
 (((IntKind.u32.wrap u).tmod (10000 : Int)).tmod (100 : Int) * (2 : Int))))])
 (1 + (IntKind.i64.wrap (d - (3 : Int))).toNat * 1)
 [AV.int IntKind.u8
 (atT tx_730b8f
 (IntKind.u32.wrap
 (IntKind.u32.wrap
 (IntKind.u32.wrap
 (((IntKind.u32.wrap u).tmod (10000 : Int)).tdiv (100 : Int)) *
 (2 : Int)) +
 (1 : Int))))])
 (1 + (IntKind.i64.wrap (d - (4 : Int))).toNat * 1) 1))
 (branch (AV.bool (decide (IntKind.i64.wrap (d - (4 : Int)) ≥ (2 : Int))))
 (branch
 (AV.bool
 (inT tx_730b8f
 (IntKind.u32.wrap
 (IntKind.u32.wrap
 ((IntKind.u32.wrap ((IntKind.u32.wrap u).tdiv (10000 : Int))).tmod (100 : Int) *
 (2 : Int)) +
 (1 : Int)))))
 (branch
 (AV.bool
 (inT tx_730b8f
 (IntKind.u32.wrap
 ((IntKind.u32.wrap ((IntKind.u32.wrap u).tdiv (10000 : Int))).tmod (100 : Int) *
 (2 : Int)))))
 (if
 (0 : Int) ≤ IntKind.i64.wrap (IntKind.i64.wrap (d - (4 : Int)) - (1 : Int)) ∧
 IntKind.i64.wrap (IntKind.i64.wrap (d - (4 : Int)) - (1 : Int)) < (↑n : Int) then
 branch
 (AV.bool
 (true &&
 inC
 (setC
 (setC
 (setC
 (setC C
 (1 + (IntKind.i64.wrap (d - (1 : Int))).toNat * 1)
 [AV.int IntKind.u8
 (atT tx_730b8f
 (IntKind.u32.wrap
 (IntKind.u32.wrap
 (((IntKind.u32.wrap u).tmod (10000 : Int)).tmod
 (100 : Int) *
 (2 : Int)) +
 (1 : Int))))])
 (1 + (IntKind.i64.wrap (d - (2 : Int))).toNat * 1)
 [AV.int IntKind.u8
 (atT tx_730b8f
 (IntKind.u32.wrap
 (((IntKind.u32.wrap u).tmod (10000 : Int)).tmod (100 : Int) *
 (2 : Int))))])
 (1 + (IntKind.i64.wrap (d - (3 : Int))).toNat * 1)
 [AV.int IntKind.u8
 (atT tx_730b8f
 (IntKind.u32.wrap
 (IntKind.u32.wrap
 (IntKind.u32.wrap
 (((IntKind.u32.wrap u).tmod (10000 : Int)).tdiv
 (100 : Int)) *
 (2 : Int)) +
 (1 : Int))))])
 (1 + (IntKind.i64.wrap (d - (4 : Int))).toNat * 1)
 [AV.int IntKind.u8
 (atT tx_730b8f
 (IntKind.u32.wrap
 (IntKind.u32.wrap
 (((IntKind.u32.wrap u).tmod (10000 : Int)).tdiv (100 : Int)) *
 (2 : Int))))])
 (1 +
 (IntKind.i64.wrap (IntKind.i64.wrap (d - (4 : Int)) - (1 : Int))).toNat *
 1)
 1))
 (if
 (0 : Int) ≤ IntKind.i64.wrap (IntKind.i64.wrap (d - (4 : Int)) - (2 : Int)) ∧
 IntKind.i64.wrap (IntKind.i64.wrap (d - (4 : Int)) - (2 : Int)) <
 (↑n : Int) then
 branch
 (AV.bool
 (true &&
 inC
 (setC
 (setC
 (setC
 (setC
 (setC C
 (1 +
 (IntKind.i64.wrap (d - (1 : Int))).toNat * 1)
 [AV.int IntKind.u8
 (atT tx_730b8f
 (IntKind.u32.wrap
 (IntKind.u32.wrap
 (((IntKind.u32.wrap u).tmod (10000 : Int)).tmod
 (100 : Int) *
 (2 : Int)) +
 (1 : Int))))])
 (1 + (IntKind.i64.wrap (d - (2 : Int))).toNat * 1)
 [AV.int IntKind.u8
 (atT tx_730b8f
 (IntKind.u32.wrap
 (((IntKind.u32.wrap u).tmod (10000 : Int)).tmod
 (100 : Int) *
 (2 : Int))))])
 (1 + (IntKind.i64.wrap (d - (3 : Int))).toNat * 1)
 [AV.int IntKind.u8
 (atT tx_730b8f
 (IntKind.u32.wrap
 (IntKind.u32.wrap
 (IntKind.u32.wrap
 (((IntKind.u32.wrap u).tmod (10000 : Int)).tdiv
 (100 : Int)) *
 (2 : Int)) +
 (1 : Int))))])
 (1 + (IntKind.i64.wrap (d - (4 : Int))).toNat * 1)
 [AV.int IntKind.u8
 (atT tx_730b8f
 (IntKind.u32.wrap
 (IntKind.u32.wrap
 (((IntKind.u32.wrap u).tmod (10000 : Int)).tdiv
 (100 : Int)) *
 (2 : Int))))])
 (1 +
 (IntKind.i64.wrap
 (IntKind.i64.wrap (d - (4 : Int)) - (1 : Int))).toNat *
 1)
 [AV.int IntKind.u8
 (atT tx_730b8f
 (IntKind.u32.wrap
 (IntKind.u32.wrap
 ((IntKind.u32.wrap
 ((IntKind.u32.wrap u).tdiv (10000 : Int))).tmod
 (100 : Int) *
 (2 : Int)) +
 (1 : Int))))])
 (1 +
 (IntKind.i64.wrap
 (IntKind.i64.wrap (d - (4 : Int)) - (2 : Int))).toNat *
 1)
 1))
 (branch
 (AV.bool
 (decide
 (IntKind.i64.wrap (IntKind.i64.wrap (d - (4 : Int)) - (2 : Int)) >
 (0 : Int))))
 (if (0 : Int) ≤ (0 : Int) ∧ (0 : Int) < (↑n : Int) then
 branch
 (AV.bool
 (true &&
 inC
 (setC
 (setC
 (setC
 (setC
 (setC
 (setC C
 (1 +
 (IntKind.i64.wrap (d - (1 : Int))).toNat * 1)
 [AV.int IntKind.u8
 (atT tx_730b8f
 (IntKind.u32.wrap
 (IntKind.u32.wrap
 (((IntKind.u32.wrap u).tmod
 (10000 : Int)).tmod
 (100 : Int) *
 (2 : Int)) +
 (1 : Int))))])
 (1 +
 (IntKind.i64.wrap (d - (2 : Int))).toNat * 1)
 [AV.int IntKind.u8
 (atT tx_730b8f
 (IntKind.u32.wrap
 (((IntKind.u32.wrap u).tmod (10000 : Int)).tmod
 (100 : Int) *
 (2 : Int))))])
 (1 +
 (IntKind.i64.wrap (d - (3 : Int))).toNat * 1)
 [AV.int IntKind.u8
 (atT tx_730b8f
 (IntKind.u32.wrap
 (IntKind.u32.wrap
 (IntKind.u32.wrap
 (((IntKind.u32.wrap u).tmod
 (10000 : Int)).tdiv
 (100 : Int)) *
 (2 : Int)) +
 (1 : Int))))])
 (1 +
 (IntKind.i64.wrap (d - (4 : Int))).toNat * 1)
 [AV.int IntKind.u8
 (atT tx_730b8f
 (IntKind.u32.wrap
 (IntKind.u32.wrap
 (((IntKind.u32.wrap u).tmod (10000 : Int)).tdiv
 (100 : Int)) *
 (2 : Int))))])
 (1 +
 (IntKind.i64.wrap
 (IntKind.i64.wrap (d - (4 : Int)) - (1 : Int))).toNat *
 1)
 [AV.int IntKind.u8
 (atT tx_730b8f
 (IntKind.u32.wrap
 (IntKind.u32.wrap
 ((IntKind.u32.wrap
 ((IntKind.u32.wrap u).tdiv
 (10000 : Int))).tmod
 (100 : Int) *
 (2 : Int)) +
 (1 : Int))))])
 (1 +
 (IntKind.i64.wrap
 (IntKind.i64.wrap (d - (4 : Int)) - (2 : Int))).toNat *
 1)
 [AV.int IntKind.u8
 (atT tx_730b8f
 (IntKind.u32.wrap
 ((IntKind.u32.wrap
 ((IntKind.u32.wrap u).tdiv (10000 : Int))).tmod
 (100 : Int) *
 (2 : Int))))])
 1 1))
 (some
 (Fin.ret (AV.tup []),
 St.mk
 (Ob.cells
 (setC
 (setC
 (setC
 (setC
 (setC
 (setC
 (setC C
 (1 +
 (IntKind.i64.wrap (d - (1 : Int))).toNat *
 1)
 [AV.int IntKind.u8
 (atT tx_730b8f
 (IntKind.u32.wrap
 (IntKind.u32.wrap
 (((IntKind.u32.wrap u).tmod
 (10000 : Int)).tmod
 (100 : Int) *
 (2 : Int)) +
 (1 : Int))))])
 (1 +
 (IntKind.i64.wrap (d - (2 : Int))).toNat *
 1)
 [AV.int IntKind.u8
 (atT tx_730b8f
 (IntKind.u32.wrap
 (((IntKind.u32.wrap u).tmod
 (10000 : Int)).tmod
 (100 : Int) *
 (2 : Int))))])
 (1 +
 (IntKind.i64.wrap (d - (3 : Int))).toNat *
 1)
 [AV.int IntKind.u8
 (atT tx_730b8f
 (IntKind.u32.wrap
 (IntKind.u32.wrap
 (IntKind.u32.wrap
 (((IntKind.u32.wrap u).tmod
 (10000 : Int)).tdiv
 (100 : Int)) *
 (2 : Int)) +
 (1 : Int))))])
 (1 +
 (IntKind.i64.wrap (d - (4 : Int))).toNat * 1)
 [AV.int IntKind.u8
 (atT tx_730b8f
 (IntKind.u32.wrap
 (IntKind.u32.wrap
 (((IntKind.u32.wrap u).tmod
 (10000 : Int)).tdiv
 (100 : Int)) *
 (2 : Int))))])
 (1 +
 (IntKind.i64.wrap
 (IntKind.i64.wrap (d - (4 : Int)) -
 (1 : Int))).toNat *
 1)
 [AV.int IntKind.u8
 (atT tx_730b8f
 (IntKind.u32.wrap
 (IntKind.u32.wrap
 ((IntKind.u32.wrap
 ((IntKind.u32.wrap u).tdiv
 (10000 : Int))).tmod
 (100 : Int) *
 (2 : Int)) +
 (1 : Int))))])
 (1 +
 (IntKind.i64.wrap
 (IntKind.i64.wrap (d - (4 : Int)) -
 (2 : Int))).toNat *
 1)
 [AV.int IntKind.u8
 (atT tx_730b8f
 (IntKind.u32.wrap
 ((IntKind.u32.wrap
 ((IntKind.u32.wrap u).tdiv
 (10000 : Int))).tmod
 (100 : Int) *
 (2 : Int))))])
 1
 [AV.int IntKind.u8
 (IntKind.u8.wrap
 (IntKind.u32.wrap
 ((48 : Int) +
 IntKind.u32.wrap
 ((IntKind.u32.wrap
 ((IntKind.u32.wrap u).tdiv
 (10000 : Int))).tdiv
 (100 : Int)))))]) ::
 os)
 tk))
 none
 else none)
 (some
 (Fin.ret (AV.tup []),
 St.mk
 (Ob.cells
 (setC
 (setC
 (setC
 (setC
 (setC
 (setC C
 (1 +
 (IntKind.i64.wrap (d - (1 : Int))).toNat * 1)
 [AV.int IntKind.u8
 (atT tx_730b8f
 (IntKind.u32.wrap
 (IntKind.u32.wrap
 (((IntKind.u32.wrap u).tmod
 (10000 : Int)).tmod
 (100 : Int) *
 (2 : Int)) +
 (1 : Int))))])
 (1 +
 (IntKind.i64.wrap (d - (2 : Int))).toNat * 1)
 [AV.int IntKind.u8
 (atT tx_730b8f
 (IntKind.u32.wrap
 (((IntKind.u32.wrap u).tmod (10000 : Int)).tmod
 (100 : Int) *
 (2 : Int))))])
 (1 +
 (IntKind.i64.wrap (d - (3 : Int))).toNat * 1)
 [AV.int IntKind.u8
 (atT tx_730b8f
 (IntKind.u32.wrap
 (IntKind.u32.wrap
 (IntKind.u32.wrap
 (((IntKind.u32.wrap u).tmod
 (10000 : Int)).tdiv
 (100 : Int)) *
 (2 : Int)) +
 (1 : Int))))])
 (1 +
 (IntKind.i64.wrap (d - (4 : Int))).toNat * 1)
 [AV.int IntKind.u8
 (atT tx_730b8f
 (IntKind.u32.wrap
 (IntKind.u32.wrap
 (((IntKind.u32.wrap u).tmod (10000 : Int)).tdiv
 (100 : Int)) *
 (2 : Int))))])
 (1 +
 (IntKind.i64.wrap
 (IntKind.i64.wrap (d - (4 : Int)) - (1 : Int))).toNat *
 1)
 [AV.int IntKind.u8
 (atT tx_730b8f
 (IntKind.u32.wrap
 (IntKind.u32.wrap
 ((IntKind.u32.wrap
 ((IntKind.u32.wrap u).tdiv
 (10000 : Int))).tmod
 (100 : Int) *
 (2 : Int)) +
 (1 : Int))))])
 (1 +
 (IntKind.i64.wrap
 (IntKind.i64.wrap (d - (4 : Int)) - (2 : Int))).toNat *
 1)
 [AV.int IntKind.u8
 (atT tx_730b8f
 (IntKind.u32.wrap
 ((IntKind.u32.wrap
 ((IntKind.u32.wrap u).tdiv (10000 : Int))).tmod
 (100 : Int) *
 (2 : Int))))]) ::
 os)
 tk)))
 none
 else none)
 none
 else none)
 none)
 none)
 (branch (AV.bool (decide (IntKind.i64.wrap (d - (4 : Int)) > (0 : Int))))
 (if (0 : Int) ≤ (0 : Int) ∧ (0 : Int) < (↑n : Int) then
 branch
 (AV.bool
 (true &&
 inC
 (setC
 (setC
 (setC
 (setC C (1 + (IntKind.i64.wrap (d - (1 : Int))).toNat * 1)
 [AV.int IntKind.u8
 (atT tx_730b8f
 (IntKind.u32.wrap
 (IntKind.u32.wrap
 (((IntKind.u32.wrap u).tmod (10000 : Int)).tmod
 (100 : Int) *
 (2 : Int)) +
 (1 : Int))))])
 (1 + (IntKind.i64.wrap (d - (2 : Int))).toNat * 1)
 [AV.int IntKind.u8
 (atT tx_730b8f
 (IntKind.u32.wrap
 (((IntKind.u32.wrap u).tmod (10000 : Int)).tmod (100 : Int) *
 (2 : Int))))])
 (1 + (IntKind.i64.wrap (d - (3 : Int))).toNat * 1)
 [AV.int IntKind.u8
 (atT tx_730b8f
 (IntKind.u32.wrap
 (IntKind.u32.wrap
 (IntKind.u32.wrap
 (((IntKind.u32.wrap u).tmod (10000 : Int)).tdiv
 (100 : Int)) *
 (2 : Int)) +
 (1 : Int))))])
 (1 + (IntKind.i64.wrap (d - (4 : Int))).toNat * 1)
 [AV.int IntKind.u8
 (atT tx_730b8f
 (IntKind.u32.wrap
 (IntKind.u32.wrap
 (((IntKind.u32.wrap u).tmod (10000 : Int)).tdiv (100 : Int)) *
 (2 : Int))))])
 1 1))
 (some
 (Fin.ret (AV.tup []),
 St.mk
 (Ob.cells
 (setC
 (setC
 (setC
 (setC
 (setC C
 (1 + (IntKind.i64.wrap (d - (1 : Int))).toNat * 1)
 [AV.int IntKind.u8
 (atT tx_730b8f
 (IntKind.u32.wrap
 (IntKind.u32.wrap
 (((IntKind.u32.wrap u).tmod (10000 : Int)).tmod
 (100 : Int) *
 (2 : Int)) +
 (1 : Int))))])
 (1 + (IntKind.i64.wrap (d - (2 : Int))).toNat * 1)
 [AV.int IntKind.u8
 (atT tx_730b8f
 (IntKind.u32.wrap
 (((IntKind.u32.wrap u).tmod (10000 : Int)).tmod
 (100 : Int) *
 (2 : Int))))])
 (1 + (IntKind.i64.wrap (d - (3 : Int))).toNat * 1)
 [AV.int IntKind.u8
 (atT tx_730b8f
 (IntKind.u32.wrap
 (IntKind.u32.wrap
 (IntKind.u32.wrap
 (((IntKind.u32.wrap u).tmod (10000 : Int)).tdiv
 (100 : Int)) *
 (2 : Int)) +
 (1 : Int))))])
 (1 + (IntKind.i64.wrap (d - (4 : Int))).toNat * 1)
 [AV.int IntKind.u8
 (atT tx_730b8f
 (IntKind.u32.wrap
 (IntKind.u32.wrap
 (((IntKind.u32.wrap u).tmod (10000 : Int)).tdiv
 (100 : Int)) *
 (2 : Int))))])
 1
 [AV.int IntKind.u8
 (IntKind.u8.wrap
 (IntKind.u32.wrap
 ((48 : Int) +
 IntKind.u32.wrap
 ((IntKind.u32.wrap u).tdiv (10000 : Int)))))]) ::
 os)
 tk))
 none
 else none)
 (some
 (Fin.ret (AV.tup []),
 St.mk
 (Ob.cells
 (setC
 (setC
 (setC
 (setC C (1 + (IntKind.i64.wrap (d - (1 : Int))).toNat * 1)
 [AV.int IntKind.u8
 (atT tx_730b8f
 (IntKind.u32.wrap
 (IntKind.u32.wrap
 (((IntKind.u32.wrap u).tmod (10000 : Int)).tmod
 (100 : Int) *
 (2 : Int)) +
 (1 : Int))))])
 (1 + (IntKind.i64.wrap (d - (2 : Int))).toNat * 1)
 [AV.int IntKind.u8
 (atT tx_730b8f
 (IntKind.u32.wrap
 (((IntKind.u32.wrap u).tmod (10000 : Int)).tmod (100 : Int) *
 (2 : Int))))])
 (1 + (IntKind.i64.wrap (d - (3 : Int))).toNat * 1)
 [AV.int IntKind.u8
 (atT tx_730b8f
 (IntKind.u32.wrap
 (IntKind.u32.wrap
 (IntKind.u32.wrap
 (((IntKind.u32.wrap u).tmod (10000 : Int)).tdiv
 (100 : Int)) *
 (2 : Int)) +
 (1 : Int))))])
 (1 + (IntKind.i64.wrap (d - (4 : Int))).toNat * 1)
 [AV.int IntKind.u8
 (atT tx_730b8f
 (IntKind.u32.wrap
 (IntKind.u32.wrap
 (((IntKind.u32.wrap u).tmod (10000 : Int)).tdiv (100 : Int)) *
 (2 : Int))))]) ::
 os)
 tk))))
 none
 else none)
 none
 else none)
 none)
 none)
 none
 else none)
 none
 else none)
 none)
 none)
 (branch (AV.bool (decide (d ≥ (2 : Int))))
 (branch
 (AV.bool
 (inT tx_730b8f
 (IntKind.u32.wrap (IntKind.u32.wrap ((IntKind.u32.wrap u).tmod (100 : Int) * (2 : Int)) + (1 : Int)))))
 (branch (AV.bool (inT tx_730b8f (IntKind.u32.wrap ((IntKind.u32.wrap u).tmod (100 : Int) * (2 : Int)))))
 (if (0 : Int) ≤ IntKind.i64.wrap (d - (1 : Int)) ∧ IntKind.i64.wrap (d - (1 : Int)) < (↑n : Int) then
 branch (AV.bool (true && inC C (1 + (IntKind.i64.wrap (d - (1 : Int))).toNat * 1) 1))
 (if (0 : Int) ≤ IntKind.i64.wrap (d - (2 : Int)) ∧ IntKind.i64.wrap (d - (2 : Int)) < (↑n : Int) then
 branch
 (AV.bool
 (true &&
 inC
 (setC C (1 + (IntKind.i64.wrap (d - (1 : Int))).toNat * 1)
 [AV.int IntKind.u8
 (atT tx_730b8f
 (IntKind.u32.wrap
 (IntKind.u32.wrap ((IntKind.u32.wrap u).tmod (100 : Int) * (2 : Int)) + (1 : Int))))])
 (1 + (IntKind.i64.wrap (d - (2 : Int))).toNat * 1) 1))
 (branch (AV.bool (decide (IntKind.i64.wrap (d - (2 : Int)) > (0 : Int))))
 (if (0 : Int) ≤ (0 : Int) ∧ (0 : Int) < (↑n : Int) then
 branch
 (AV.bool
 (true &&
 inC
 (setC
 (setC C (1 + (IntKind.i64.wrap (d - (1 : Int))).toNat * 1)
 [AV.int IntKind.u8
 (atT tx_730b8f
 (IntKind.u32.wrap
 (IntKind.u32.wrap ((IntKind.u32.wrap u).tmod (100 : Int) * (2 : Int)) +
 (1 : Int))))])
 (1 + (IntKind.i64.wrap (d - (2 : Int))).toNat * 1)
 [AV.int IntKind.u8
 (atT tx_730b8f
 (IntKind.u32.wrap ((IntKind.u32.wrap u).tmod (100 : Int) * (2 : Int))))])
 1 1))
 (some
 (Fin.ret (AV.tup []),
 St.mk
 (Ob.cells
 (setC
 (setC
 (setC C (1 + (IntKind.i64.wrap (d - (1 : Int))).toNat * 1)
 [AV.int IntKind.u8
 (atT tx_730b8f
 (IntKind.u32.wrap
 (IntKind.u32.wrap ((IntKind.u32.wrap u).tmod (100 : Int) * (2 : Int)) +
 (1 : Int))))])
 (1 + (IntKind.i64.wrap (d - (2 : Int))).toNat * 1)
 [AV.int IntKind.u8
 (atT tx_730b8f
 (IntKind.u32.wrap ((IntKind.u32.wrap u).tmod (100 : Int) * (2 : Int))))])
 1
 [AV.int IntKind.u8
 (IntKind.u8.wrap
 (IntKind.u32.wrap
 ((48 : Int) + IntKind.u32.wrap ((IntKind.u32.wrap u).tdiv (100 : Int)))))]) ::
 os)
 tk))
 none
 else none)
 (some
 (Fin.ret (AV.tup []),
 St.mk
 (Ob.cells
 (setC
 (setC C (1 + (IntKind.i64.wrap (d - (1 : Int))).toNat * 1)
 [AV.int IntKind.u8
 (atT tx_730b8f
 (IntKind.u32.wrap
 (IntKind.u32.wrap ((IntKind.u32.wrap u).tmod (100 : Int) * (2 : Int)) +
 (1 : Int))))])
 (1 + (IntKind.i64.wrap (d - (2 : Int))).toNat * 1)
 [AV.int IntKind.u8
 (atT tx_730b8f
 (IntKind.u32.wrap ((IntKind.u32.wrap u).tmod (100 : Int) * (2 : Int))))]) ::
 os)
 tk)))
 none
 else none)
 none
 else none)
 none)
 none)
 (branch (AV.bool (decide (d > (0 : Int))))
 (if (0 : Int) ≤ (0 : Int) ∧ (0 : Int) < (↑n : Int) then
 branch (AV.bool (true && inC C 1 1))
 (some
 (Fin.ret (AV.tup []),
 St.mk
 (Ob.cells
 (setC C 1
 [AV.int IntKind.u8 (IntKind.u8.wrap (IntKind.u32.wrap ((48 : Int) + IntKind.u32.wrap u)))]) ::
 os)
 tk))
 none
 else none)
 (some (Fin.ret (AV.tup []), St.mk (Ob.cells C :: os) tk)))) := by kernel_rfl

end Go.Proofs.YtcfedmheblbdnaaDoor.V
