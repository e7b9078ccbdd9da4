/- Merged out of 11 texts: what the claim's code comes to, and why. -/
import Derived.Test.YtjdpfblmhahfkaaX4
/- What the functions' runs come to; the right sides were printed by a tool, Lean checks them. -/
set_option linter.unusedVariables false
set_option maxRecDepth 100000
namespace Go.Proofs.Ytjdpfblmhahfkaa.V
open Go Go.V Go.RowKit

theorem rtx_run (f : Bool) (l : List (List AV)) (o : Ob) (os : List Ob) (tk : List (Nat × Nat)) :
    (f27.run 0 [.ptr 1 0] ⟨o :: .cells [.sl 1 f l, .bool false] :: os, tk⟩ : Ans) =
    branch (AV.bool (fit (Br.sl f l)))
      (onSome (getN (nR l))
        (some (Fin.ret (AV.str (ByteArray.mk #[])), St.mk (o :: Ob.cells [AV.sl 1 f l, AV.bool true] :: os) tk))
        fun (o_1 : Int × Nat) =>
        branch (AV.bool (decide (o_1.fst < 0)))
          (some
            (Fin.ret (AV.str (ByteArray.mk #[])),
              St.mk (o :: Ob.cells [AV.sl 1 f (List.drop o_1.snd l), AV.bool true] :: os) tk))
          (branch (AV.bool (decide (o_1.fst > (↑(List.drop o_1.snd l).length : Int))))
            (some
              (Fin.ret (AV.str (ByteArray.mk #[])),
                St.mk (o :: Ob.cells [AV.sl 1 f (List.drop o_1.snd l), AV.bool true] :: os) tk))
            (if 0 ≤ o_1.fst ∧ o_1.fst ≤ (↑(List.drop o_1.snd l).length : Int) then
              onSome (numsOf (List.drop 0 (List.take o_1.fst.toNat (List.drop o_1.snd l)))) none fun (o_2 : List Int) =>
                if 0 ≤ o_1.fst ∧ o_1.fst ≤ (↑(List.drop o_1.snd l).length : Int) then
                  some
                    (Fin.ret (AV.str (textOf o_2)),
                      St.mk
                        (o ::
                          Ob.cells
                              [AV.sl 1 (f && (List.drop o_1.snd l).length.beq (List.drop o_1.snd l).length)
                                  (List.drop o_1.fst.toNat (List.take (List.drop o_1.snd l).length (List.drop o_1.snd l))),
                                AV.bool false] ::
                            os)
                        tk)
                else none
            else none)))
      none := by kernel_rfl

theorem rtx_bad (f : Bool) (l : List (List AV)) (o : Ob) (os : List Ob) (tk : List (Nat × Nat)) :
    (f27.run 0 [.ptr 1 0] ⟨o :: .cells [.sl 1 f l, .bool true] :: os, tk⟩ : Ans) =
    some (Fin.ret (AV.str (ByteArray.mk #[])), St.mk (o :: Ob.cells [AV.sl 1 f l, AV.bool true] :: os) tk) := by kernel_rfl

theorem rct_run (f : Bool) (n : Int) (l : List (List AV)) (o : Ob) (os : List Ob) (tk : List (Nat × Nat)) :
    (f29.run 0 [.ptr 1 0, .int .i64 n] ⟨o :: .cells [.sl 1 f l, .bool false] :: os, tk⟩ : Ans) =
    branch (AV.bool (fit (Br.sl f l)))
      (onSome (getN (nR l))
        (some (Fin.ret (AV.int IntKind.i64 0), St.mk (o :: Ob.cells [AV.sl 1 f l, AV.bool true] :: os) tk))
        fun (o_1 : Int × Nat) =>
        branch (AV.bool (decide (o_1.fst < 0)))
          (some
            (Fin.ret (AV.int IntKind.i64 0),
              St.mk (o :: Ob.cells [AV.sl 1 f (List.drop o_1.snd l), AV.bool true] :: os) tk))
          (branch (AV.bool (decide (o_1.fst > n)))
            (some
              (Fin.ret (AV.int IntKind.i64 0),
                St.mk (o :: Ob.cells [AV.sl 1 f (List.drop o_1.snd l), AV.bool true] :: os) tk))
            (some
              (Fin.ret (AV.int IntKind.i64 o_1.fst),
                St.mk (o :: Ob.cells [AV.sl 1 f (List.drop o_1.snd l), AV.bool false] :: os) tk))))
      none := by kernel_rfl

theorem rct_bad (f : Bool) (n : Int) (l : List (List AV)) (o : Ob) (os : List Ob) (tk : List (Nat × Nat)) :
    (f29.run 0 [.ptr 1 0, .int .i64 n] ⟨o :: .cells [.sl 1 f l, .bool true] :: os, tk⟩ : Ans) =
    some (Fin.ret (AV.int IntKind.i64 0), St.mk (o :: Ob.cells [AV.sl 1 f l, AV.bool true] :: os) tk) := by kernel_rfl

end Go.Proofs.Ytjdpfblmhahfkaa.V

/- Bits: the reference's reader: the next text, the next count. -/
set_option linter.unusedVariables false
namespace Go.Proofs.Ytjdpfblmhahfkaa.V
open Go Go.V Go.RowKit

/-- How far the reference has read where it fails. -/
def resT (l : List Nat) : Nat :=
  match getN l with
  | none => 0
  | some o => o.2
theorem f27_spec {st : St} {f : Bool} {l : List (List AV)} {put : AV → Bool → St} (h : rdAt (.ptr 1 0) st = some (.sl f false l, put)) (hf : fit (.sl f l) = true) :
    f27.run 0 [.ptr 1 0] st = match getS (nR l) with
      | none => some (.ret (.str noText), put (.sl 1 f (l.drop (resT (nR l)))) true)
      | some o => some (.ret (.str o.1), put (.sl 1 f (l.drop o.2)) false) := by
  obtain ⟨h1, h2⟩ := fit_spec hf
  obtain ⟨o, os, hs, rfl⟩ := rdAt1 h
  rw [hs]; simp only [Rd.cells]
  rw [rtx_run, branch_of hf, getS, resT]
  cases hg : getN (nR l) with
  | none => rfl
  | some o =>
    obtain ⟨n, k⟩ := o
    simp only [onSome, List.length_drop, nR_length]
    by_cases hn : n < 0
    · rw [branch_of (decide_eq_true hn), if_pos (.inl hn)]; rfl
    · rw [branch_not (decide_eq_false hn)]
      by_cases hm : ((l.length - k : Nat) : Int) < n
      · rw [branch_of (decide_eq_true hm), if_pos (.inr hm)]; rfl
      · rw [branch_not (decide_eq_false hm), if_pos (by omega), if_neg (by omega), List.drop_zero, numsOf_ok (okR_take (okR_drop (l := l) h1 _) _)]
        simp only
        rw [if_pos (by omega), show (List.take (l.length - k) (List.drop k l)) = List.drop k l from List.take_of_length_le (by simp)]
        simp only [Nat.beq_refl, Bool.and_true, List.drop_drop, iR, nR_take, nR_drop, txt]
theorem f27_bad {st : St} {f : Bool} {l : List (List AV)} {put : AV → Bool → St} (h : rdAt (.ptr 1 0) st = some (.sl f true l, put)) : f27.run 0 [.ptr 1 0] st = some (.ret (.str noText), put (.sl 1 f l) true) := by
  obtain ⟨o, os, hs, rfl⟩ := rdAt1 h
  rw [hs]; simp only [Rd.cells]
  rw [rtx_bad]; rfl
/-- The reference's Reader.Text. -/
noncomputable def q27 : OrcS Try.prog := f27.cps
  (fun args st k => match args with
    | [.ptr 1 0] => match rdAt (.ptr 1 0) st with
      | some (.sl f true l, put) => k (.ret (.str noText)) (put (.sl 1 f l) true)
      | some (.sl f false l, put) => match fit (.sl f l) with
        | true => match getS (nR l) with
          | none => k (.ret (.str noText)) (put (.sl 1 f (l.drop (resT (nR l)))) true)
          | some o => k (.ret (.str o.1)) (put (.sl 1 f (l.drop o.2)) false)
        | false => none
      | _ => none
    | _ => none)
  fun args st k fin h => by
    split at h
    · split at h
      · rename_i h1; exact ⟨_, _, h, 0, f27_bad h1⟩
      · rename_i h1
        split at h
        · rename_i h2
          have := f27_spec h1 h2
          split at h
          · rename_i h3; rw [h3] at this; exact ⟨_, _, h, 0, this⟩
          · rename_i h3; rw [h3] at this; exact ⟨_, _, h, 0, this⟩
        · cases h
      · cases h
    · cases h
theorem q27_nat : q27.NatS := by
  intro args st k
  unfold q27 Fun.cps
  simp only []
  split
  · split
    · rfl
    · split
      · split <;> rfl
      · rfl
    · rfl
  · rfl

theorem f29_spec {st : St} {f : Bool} {l : List (List AV)} {n : Int} {put : AV → Bool → St} (h : rdAt (.ptr 1 0) st = some (.sl f false l, put)) (hf : fit (.sl f l) = true) :
    f29.run 0 [.ptr 1 0, .int .i64 n] st = match getC n (nR l) with
      | none => some (.ret (.int .i64 0), put (.sl 1 f (l.drop (resT (nR l)))) true)
      | some o => some (.ret (.int .i64 o.1), put (.sl 1 f (l.drop o.2)) false) := by
  obtain ⟨o, os, hs, rfl⟩ := rdAt1 h
  rw [hs]; simp only [Rd.cells]
  rw [rct_run, branch_of hf, getC, resT]
  cases hg : getN (nR l) with
  | none => rfl
  | some o =>
    obtain ⟨m, k⟩ := o
    simp only [onSome]
    by_cases hn : m < 0
    · rw [branch_of (decide_eq_true hn), if_pos (.inl hn)]
    · rw [branch_not (decide_eq_false hn)]
      by_cases hm : n < m
      · rw [branch_of (decide_eq_true hm), if_pos (.inr hm)]
      · rw [branch_not (decide_eq_false hm), if_neg (by omega)]
theorem f29_bad {st : St} {f : Bool} {l : List (List AV)} {n : Int} {put : AV → Bool → St} (h : rdAt (.ptr 1 0) st = some (.sl f true l, put)) : f29.run 0 [.ptr 1 0, .int .i64 n] st = some (.ret (.int .i64 0), put (.sl 1 f l) true) := by
  obtain ⟨o, os, hs, rfl⟩ := rdAt1 h
  rw [hs]; simp only [Rd.cells]
  rw [rct_bad]
/-- The reference's Reader.Count. -/
noncomputable def q29 : OrcS Try.prog := f29.cps
  (fun args st k => match args with
    | [.ptr 1 0, .int .i64 n] => match rdAt (.ptr 1 0) st with
      | some (.sl f true l, put) => k (.ret (.int .i64 0)) (put (.sl 1 f l) true)
      | some (.sl f false l, put) => match fit (.sl f l) with
        | true => match getC n (nR l) with
          | none => k (.ret (.int .i64 0)) (put (.sl 1 f (l.drop (resT (nR l)))) true)
          | some o => k (.ret (.int .i64 o.1)) (put (.sl 1 f (l.drop o.2)) false)
        | false => none
      | _ => none
    | _ => none)
  fun args st k fin h => by
    split at h
    · split at h
      · rename_i h1; exact ⟨_, _, h, 0, f29_bad h1⟩
      · rename_i h1
        split at h
        · rename_i h2
          split at h
          · rename_i h3; exact ⟨_, _, h, 0, by rw [f29_spec h1 h2, h3]⟩
          · rename_i h3; exact ⟨_, _, h, 0, by rw [f29_spec h1 h2, h3]⟩
        · cases h
      · cases h
    · cases h
theorem q29_nat : q29.NatS := by
  intro args st k
  unfold q29 Fun.cps
  simp only []
  split
  · split
    · rfl
    · split
      · split <;> rfl
      · rfl
    · rfl
  · rfl
end Go.Proofs.Ytjdpfblmhahfkaa.V

/- The functions' pieces, as told by gen.py. -/
set_option linter.unusedVariables false
set_option maxRecDepth 20000
namespace Go.Proofs.Ytjdpfblmhahfkaa.V
open Go Go.V Go.RowKit


/-! ### 30: (*interlock/interlockref01.Reader).Texts (42); results 2; slots: 0 r, 1 r, 3 n, 4 out, 5 i -/
/-- A loop's round; at its head live: 0 r, 3 n, 4 out, 5 i -/
noncomputable def f30_l0 : Sim Try.prog :=
  (.seq (.seq (.live [0, 3, 4, 5, 31] (.region 7 [
    ⟨(opMove (some 29) (.tmp 5) 3 "ref.go:103" #[]).op, none⟩,
    ⟨(opMove (some 30) (.tmp 3) 3 "ref.go:103" #[]).op, none⟩,
    ⟨(opBin (some 31) .lss 3 (.tmp 29) (.tmp 30) 3 4 "ref.go:103" #[{ on := 0, ground := Ground.data }, { on := 1, ground := Ground.data }]).op, none⟩
  ] (by kernel_rfl)))
  (.cond (.tmp 31)
    .skip
    (.live [0, 4] (.exit 0))))
  (.seq (.block 1 (.live [0, 3, 4, 5] (.region 9 [
      ⟨(opMove (some 34) (.tmp 4) 33 "ref.go:104" #[]).op, none⟩,
      ⟨(opMove (some 35) (.tmp 0) 42 "ref.go:104" #[]).op, none⟩,
      ⟨opCall (q27).orc (some 36) [(.tmp 35)] #[42] 9 "ref.go:104" #[{ on := 1, ground := Ground.data }], none⟩,
      ⟨(opBuildSlice (some 37) 33 1 [(0, (.tmp 36))] 9 1 16 (.string ⟨#[]⟩) el33 (by kernel_rfl) (by decide) 33 "ref.go:104" #[{ on := 2, ground := Ground.data }]).op, none⟩,
      ⟨(opAppend (some 38) (.tmp 34) (.tmp 37) 33 33 9 1 16 (.string ⟨#[]⟩) el33 (.slice 9) Try.underlying33 rfl 33 "ref.go:104" #[{ on := 0, ground := Ground.data }, { on := 3, ground := Ground.data }, { on := 2, ground := Ground.chain }]).op, none⟩,
      ⟨(opAssign (some 4) (.tmp 38) 33 "ref.go:104" #[{ on := 4, ground := Ground.data }, { on := 4, ground := Ground.chain }, { on := 0, ground := Ground.phase }, { on := 1, ground := Ground.phase }, { on := 2, ground := Ground.phase }, { on := 3, ground := Ground.phase }, { on := 4, ground := Ground.phase }]).op, none⟩
    ] (by kernel_rfl))))
  (.live [0, 3, 4, 5] (.region 8 [
    ⟨(opMove (some 32) (.tmp 5) 3 "ref.go:103" #[]).op, none⟩,
    ⟨(opBin (some 33) .add 3 (.tmp 32) (.const (Value.int IntKind.i64 1)) 3 3 "ref.go:103" #[{ on := 0, ground := Ground.data }]).op, none⟩,
    ⟨(opAssign (some 5) (.tmp 33) 3 "ref.go:103" #[{ on := 1, ground := Ground.data }, { on := 0, ground := Ground.phase }, { on := 1, ground := Ground.phase }]).op, none⟩
  ] (by kernel_rfl)))))

/-- What follows a loop. -/
noncomputable def f30_r0 : Sim Try.prog :=
  (.seq (.seq (.live [4, 42] (.region 10 [
    ⟨(opMove (some 39) (.tmp 0) 42 "ref.go:106" #[]).op, none⟩,
    ⟨(opNilCheck (some 40) (.tmp 39) 0 "ref.go:106" #[{ on := 0, ground := Ground.data }]).op, none⟩,
    ⟨(opFieldAddr (some 41) 44 (.tmp 40) 1 1 1 false fl44_1 (by decide) 0 "ref.go:106" #[{ on := 1, ground := Ground.data }]).op, none⟩,
    ⟨(opLoad (some 42) 4 (.tmp 41) .bool Try.underlying4 1 sz4 4 "ref.go:106" #[{ on := 2, ground := Ground.data }]).op, none⟩
  ] (by kernel_rfl)))
  (.cond (.tmp 42)
    (.seq (.live [2] (.region 11 [
      ⟨(opAssign (some 2) (.const (Value.slice none 0 0)) 33 "ref.go:107" #[]).op, none⟩
    ] (by kernel_rfl)))
    (.live [2] .ret))
    .skip))
  (.seq (.live [2] (.region 12 [
    ⟨(opMove (some 43) (.tmp 4) 33 "ref.go:109" #[]).op, none⟩,
    ⟨(opAssign (some 2) (.tmp 43) 33 "ref.go:109" #[{ on := 0, ground := Ground.data }, { on := 0, ground := Ground.phase }]).op, none⟩
  ] (by kernel_rfl)))
  (.live [2] .ret)))

noncomputable def f30_b : Sim Try.prog :=
  (.seq (.live [0] (.region 0 [
    ⟨(opAssign (some 2) (.const (Value.slice none 0 0)) 33 "ref.go:96" #[]).op, none⟩
  ] (by kernel_rfl)))
  (.seq (.live [0, 3] (.region 1 [
    ⟨(opMove (some 6) (.tmp 0) 42 "ref.go:97" #[]).op, none⟩,
    ⟨opCall (q26).orc (some 7) [(.tmp 6)] #[42] 3 "ref.go:97" #[{ on := 0, ground := Ground.data }], none⟩,
    ⟨(opAssign (some 3) (.tmp 7) 3 "ref.go:97" #[{ on := 1, ground := Ground.data }, { on := 1, ground := Ground.chain }, { on := 0, ground := Ground.phase }, { on := 1, ground := Ground.phase }]).op, none⟩
  ] (by kernel_rfl)))
  (.seq (.seq (.live [0, 3, 24] (.region 2 [
    ⟨(opMove (some 8) (.tmp 0) 42 "ref.go:98" #[]).op, none⟩,
    ⟨(opNilCheck (some 9) (.tmp 8) 0 "ref.go:98" #[{ on := 0, ground := Ground.data }]).op, none⟩,
    ⟨(opFieldAddr (some 10) 44 (.tmp 9) 1 1 1 false fl44_1 (by decide) 0 "ref.go:98" #[{ on := 1, ground := Ground.data }]).op, none⟩,
    ⟨(opLoad (some 11) 4 (.tmp 10) .bool Try.underlying4 1 sz4 4 "ref.go:98" #[{ on := 2, ground := Ground.data }]).op, none⟩,
    ⟨(opMove (some 12) (.tmp 11) 4 "ref.go:98" #[{ on := 3, ground := Ground.data }]).op, none⟩,
    ⟨(opMove (some 13) (.tmp 3) 3 "ref.go:98" #[{ on := 4, ground := Ground.guard }]).op, (some (4, 12, false))⟩,
    ⟨(opBin (some 14) .lss 3 (.tmp 13) (.const (Value.int IntKind.i64 0)) 3 4 "ref.go:98" #[{ on := 5, ground := Ground.data }, { on := 4, ground := Ground.guard }]).op, (some (4, 12, false))⟩,
    ⟨(opPick (some 15) (.tmp 12) (.const (Value.bool true)) (.tmp 14) 4 "ref.go:98" #[{ on := 4, ground := Ground.data }, { on := 6, ground := Ground.data }]).op, none⟩,
    ⟨(opMove (some 16) (.tmp 15) 4 "ref.go:98" #[{ on := 7, ground := Ground.data }, { on := 4, ground := Ground.chain }]).op, none⟩,
    ⟨(opMove (some 17) (.tmp 3) 3 "ref.go:98" #[{ on := 8, ground := Ground.guard }]).op, (some (8, 16, false))⟩,
    ⟨(opMove (some 18) (.tmp 0) 42 "ref.go:98" #[{ on := 8, ground := Ground.guard }]).op, (some (8, 16, false))⟩,
    ⟨(opNilCheck (some 19) (.tmp 18) 0 "ref.go:98" #[{ on := 10, ground := Ground.data }, { on := 8, ground := Ground.guard }]).op, (some (8, 16, false))⟩,
    ⟨(opFieldAddr (some 20) 44 (.tmp 19) 0 0 1 false fl44_0 (by decide) 0 "ref.go:98" #[{ on := 11, ground := Ground.data }, { on := 8, ground := Ground.guard }]).op, (some (8, 16, false))⟩,
    ⟨(opLoad (some 21) 22 (.tmp 20) (.slice 5) Try.underlying22 1 sz22 22 "ref.go:98" #[{ on := 12, ground := Ground.data }, { on := 8, ground := Ground.guard }]).op, (some (8, 16, false))⟩,
    ⟨(opLen (some 22) (.tmp 21) 22 (.slice 5) Try.underlying22 3 "ref.go:98" #[{ on := 13, ground := Ground.data }, { on := 8, ground := Ground.guard }]).op, (some (8, 16, false))⟩,
    ⟨(opBin (some 23) .gtr 3 (.tmp 17) (.tmp 22) 3 4 "ref.go:98" #[{ on := 9, ground := Ground.data }, { on := 14, ground := Ground.data }, { on := 8, ground := Ground.guard }]).op, (some (8, 16, false))⟩,
    ⟨(opPick (some 24) (.tmp 16) (.const (Value.bool true)) (.tmp 23) 4 "ref.go:98" #[{ on := 8, ground := Ground.data }, { on := 15, ground := Ground.data }]).op, none⟩
  ] (by kernel_rfl)))
  (.cond (.tmp 24)
    (.seq (.live [] (.region 3 [
      ⟨(opMove (some 25) (.tmp 0) 42 "ref.go:99" #[]).op, none⟩,
      ⟨(opNilCheck (some 26) (.tmp 25) 0 "ref.go:99" #[{ on := 0, ground := Ground.data }, { on := 0, ground := Ground.phase }]).op, none⟩,
      ⟨(opFieldAddr (some 27) 44 (.tmp 26) 1 1 1 false fl44_1 (by decide) 0 "ref.go:99" #[{ on := 1, ground := Ground.data }, { on := 0, ground := Ground.phase }]).op, none⟩,
      ⟨(opStore none 4 (.tmp 27) (.const (Value.bool true)) 1 sz4 0 "ref.go:99" #[{ on := 2, ground := Ground.data }, { on := 0, ground := Ground.phase }]).op, none⟩
    ] (by kernel_rfl)))
    (.seq (.live [2] (.region 4 [
      ⟨(opAssign (some 2) (.const (Value.slice none 0 0)) 33 "ref.go:100" #[]).op, none⟩
    ] (by kernel_rfl)))
    (.live [2] .ret)))
    .skip))
  (.seq (.live [0, 3, 4] (.region 5 [
    ⟨(opBuildSlice (some 28) 33 0 [] 9 1 16 (.string ⟨#[]⟩) el33 (by kernel_rfl) (by decide) 33 "ref.go:102" #[]).op, none⟩,
    ⟨(opAssign (some 4) (.tmp 28) 33 "ref.go:102" #[{ on := 0, ground := Ground.data }, { on := 0, ground := Ground.phase }]).op, none⟩
  ] (by kernel_rfl)))
  (.seq (.seq (.live [0, 3, 4, 5] (.region 6 [
    ⟨(opAssign (some 5) (.const (Value.int IntKind.i64 0)) 3 "ref.go:103" #[]).op, none⟩
  ] (by kernel_rfl)))
  (.block 0 (.loop [0, 3, 4, 5] f30_l0)))
  f30_r0)))))

noncomputable def f30 : Fun Try.prog where
  id := 30
  fn := Try.f30
  hf := Try.func30
  hname := by kernel_rfl
  body := f30_b
  hbody := by kernel_rfl
  res := [rTmp 2]
  hres := by kernel_rfl
  n := 44
  hn := by kernel_rfl

end Go.Proofs.Ytjdpfblmhahfkaa.V

/- What the functions' runs come to; the right sides were printed by a tool, Lean checks them. -/
set_option linter.unusedVariables false
set_option maxRecDepth 100000
namespace Go.Proofs.Ytjdpfblmhahfkaa.V
open Go Go.V Go.RowKit

theorem rt_run (F : Nat) (f : Bool) (l : List (List AV)) (o : Ob) (os : List Ob) (tk : List (Nat × Nat)) :
    (f30.run F [.ptr 1 0] ⟨o :: .cells [.sl 1 f l, .bool false] :: os, tk⟩ : Ans) =
    branch (AV.bool (fit (Br.sl f l)))
      (onSome (getN (nR l)) (some (Fin.ret AV.nilsl, St.mk (o :: Ob.cells [AV.sl 1 f l, AV.bool true] :: os) tk))
        fun (o_1 : Int × Nat) =>
        branch (AV.bool (decide (o_1.fst < 0)))
          (some (Fin.ret AV.nilsl, St.mk (o :: Ob.cells [AV.sl 1 f (List.drop o_1.snd l), AV.bool true] :: os) tk))
          (branch (AV.bool (decide (o_1.fst > (↑(List.drop o_1.snd l).length : Int))))
            (some (Fin.ret AV.nilsl, St.mk (o :: Ob.cells [AV.sl 1 f (List.drop o_1.snd l), AV.bool true] :: os) tk))
            (loopRun (f30_l0.run F) [0, 3, 4, 5]
              (Cont.block 0 (Cont.then (f30_r0.run F (f30.leaveK Fun.done)) (f30.leaveK Fun.done))) F
              (Env.mk 44
                [(0, AV.ptr 1 0), (3, AV.int IntKind.i64 o_1.fst), (4, AV.sl 1 true []), (5, AV.int IntKind.i64 0)])
              (St.mk (o :: Ob.cells [AV.sl 1 f (List.drop o_1.snd l), AV.bool false] :: os) tk))))
      none := by kernel_rfl

theorem rt_bad (f : Bool) (l : List (List AV)) (o : Ob) (os : List Ob) (tk : List (Nat × Nat)) :
    (f30.run 0 [.ptr 1 0] ⟨o :: .cells [.sl 1 f l, .bool true] :: os, tk⟩ : Ans) =
    some (Fin.ret AV.nilsl, St.mk (o :: Ob.cells [AV.sl 1 f l, AV.bool true] :: os) tk) := by kernel_rfl

theorem rt_first (F m : Nat) (K : Cont) (n i : Int) (f : Bool) (l : List (List AV)) (o : Ob) (os : List Ob) (tk : List (Nat × Nat)) :
    (loopRun (f30_l0.run F) [0, 3, 4, 5] K m.succ (Env.mk 44 [(0, .ptr 1 0), (3, .int .i64 n), (4, .sl 1 true []), (5, .int .i64 i)]) ⟨o :: .cells [.sl 1 f l, .bool false] :: os, tk⟩ : Ans) =
    branch (AV.bool (decide (i < n)))
      (branch (AV.bool (fit (Br.sl f l)))
        (onSome (getS (nR l))
          (loopRun (f30_l0.run F) [0, 3, 4, 5] K m
            (Env.mk 44
              [(0, AV.ptr 1 0), (3, AV.int IntKind.i64 n), (4, AV.lg tk.length 1 [[AV.str noText]]),
                (5, AV.int IntKind.i64 (IntKind.i64.wrap (i + 1)))])
            (St.mk (o :: Ob.cells [AV.sl 1 f (List.drop (resT (nR l)) l), AV.bool true] :: os) (tk ++ [(1, 1)])))
          fun (o_1 : ByteArray × Nat) =>
          loopRun (f30_l0.run F) [0, 3, 4, 5] K m
            (Env.mk 44
              [(0, AV.ptr 1 0), (3, AV.int IntKind.i64 n), (4, AV.lg tk.length 1 [[AV.str o_1.fst]]),
                (5, AV.int IntKind.i64 (IntKind.i64.wrap (i + 1)))])
            (St.mk (o :: Ob.cells [AV.sl 1 f (List.drop o_1.snd l), AV.bool false] :: os) (tk ++ [(1, 1)])))
        none)
      (K (AX.exit 0) (Env.mk 44 [(0, AV.ptr 1 0), (4, AV.sl 1 true [])])
        (St.mk (o :: Ob.cells [AV.sl 1 f l, AV.bool false] :: os) tk)) := by kernel_rfl

theorem rt_round (F m t : Nat) (K : Cont) (n i : Int) (f : Bool) (lo l : List (List AV)) (o : Ob) (os : List Ob) (tk : List (Nat × Nat)) :
    (loopRun (f30_l0.run F) [0, 3, 4, 5] K m.succ (Env.mk 44 [(0, .ptr 1 0), (3, .int .i64 n), (4, .lg t 1 lo), (5, .int .i64 i)]) ⟨o :: .cells [.sl 1 f l, .bool false] :: os, tk⟩ : Ans) =
    branch (AV.bool (decide (i < n)))
      (branch (AV.bool (fit (Br.sl f l)))
        (onSome (getS (nR l))
          (if
              ((fun (a : AV) (b : Bool) =>
                          St.mk (o :: Ob.cells [a, AV.bool b] :: os)
                            (St.mk (o :: Ob.cells [AV.sl 1 f l, AV.bool false] :: os) tk).tk)
                        (AV.sl 1 f (List.drop (resT (nR l)) l)) true).tk[t]? =
                  some (1, lo.length) ∧
                (lo.length + 1) * 16 ≤ 140737488355328 then
            loopRun (f30_l0.run F) [0, 3, 4, 5] K m
              (Env.mk 44
                [(0, AV.ptr 1 0), (3, AV.int IntKind.i64 n), (4, AV.lg t 1 (lo ++ [[AV.str noText]])),
                  (5, AV.int IntKind.i64 (IntKind.i64.wrap (i + 1)))])
              (St.mk (o :: Ob.cells [AV.sl 1 f (List.drop (resT (nR l)) l), AV.bool true] :: os)
                (tk.set t (1, lo.length + 1)))
          else none)
          fun (o_1 : ByteArray × Nat) =>
          if
              ((fun (a : AV) (b : Bool) =>
                          St.mk (o :: Ob.cells [a, AV.bool b] :: os)
                            (St.mk (o :: Ob.cells [AV.sl 1 f l, AV.bool false] :: os) tk).tk)
                        (AV.sl 1 f (List.drop o_1.snd l)) false).tk[t]? =
                  some (1, lo.length) ∧
                (lo.length + 1) * 16 ≤ 140737488355328 then
            loopRun (f30_l0.run F) [0, 3, 4, 5] K m
              (Env.mk 44
                [(0, AV.ptr 1 0), (3, AV.int IntKind.i64 n), (4, AV.lg t 1 (lo ++ [[AV.str o_1.fst]])),
                  (5, AV.int IntKind.i64 (IntKind.i64.wrap (i + 1)))])
              (St.mk (o :: Ob.cells [AV.sl 1 f (List.drop o_1.snd l), AV.bool false] :: os) (tk.set t (1, lo.length + 1)))
          else none)
        none)
      (K (AX.exit 0) (Env.mk 44 [(0, AV.ptr 1 0), (4, AV.lg t 1 lo)])
        (St.mk (o :: Ob.cells [AV.sl 1 f l, AV.bool false] :: os) tk)) := by kernel_rfl

theorem rt_bround (F m t : Nat) (K : Cont) (n i : Int) (f : Bool) (lo l : List (List AV)) (o : Ob) (os : List Ob) (tk : List (Nat × Nat)) :
    (loopRun (f30_l0.run F) [0, 3, 4, 5] K m.succ (Env.mk 44 [(0, .ptr 1 0), (3, .int .i64 n), (4, .lg t 1 lo), (5, .int .i64 i)]) ⟨o :: .cells [.sl 1 f l, .bool true] :: os, tk⟩ : Ans) =
    branch (AV.bool (decide (i < n)))
      (if
          ((fun (a : AV) (b : Bool) =>
                      St.mk (o :: Ob.cells [a, AV.bool b] :: os)
                        (St.mk (o :: Ob.cells [AV.sl 1 f l, AV.bool true] :: os) tk).tk)
                    (AV.sl 1 f l) true).tk[t]? =
              some (1, lo.length) ∧
            (lo.length + 1) * 16 ≤ 140737488355328 then
        loopRun (f30_l0.run F) [0, 3, 4, 5] K m
          (Env.mk 44
            [(0, AV.ptr 1 0), (3, AV.int IntKind.i64 n), (4, AV.lg t 1 (lo ++ [[AV.str noText]])),
              (5, AV.int IntKind.i64 (IntKind.i64.wrap (i + 1)))])
          (St.mk (o :: Ob.cells [AV.sl 1 f l, AV.bool true] :: os) (tk.set t (1, lo.length + 1)))
      else none)
      (K (AX.exit 0) (Env.mk 44 [(0, AV.ptr 1 0), (4, AV.lg t 1 lo)])
        (St.mk (o :: Ob.cells [AV.sl 1 f l, AV.bool true] :: os) tk)) := by kernel_rfl

theorem rt_out (F : Nat) (x a : AV) (o : Ob) (os : List Ob) (tk : List (Nat × Nat)) :
    ((Cont.block 0 (Cont.then (f30_r0.run F (f30.leaveK Fun.done)) (f30.leaveK Fun.done))) (.exit 0) (Env.mk 44 [(0, .ptr 1 0), (4, x)]) ⟨o :: .cells [a, .bool false] :: os, tk⟩ : Ans) =
    some (Fin.ret x, St.mk (o :: Ob.cells [a, AV.bool false] :: os) tk) := by kernel_rfl

theorem rt_outbad (F : Nat) (x a : AV) (o : Ob) (os : List Ob) (tk : List (Nat × Nat)) :
    ((Cont.block 0 (Cont.then (f30_r0.run F (f30.leaveK Fun.done)) (f30.leaveK Fun.done))) (.exit 0) (Env.mk 44 [(0, .ptr 1 0), (4, x)]) ⟨o :: .cells [a, .bool true] :: os, tk⟩ : Ans) =
    some (Fin.ret AV.nilsl, St.mk (o :: Ob.cells [a, AV.bool true] :: os) tk) := by kernel_rfl

end Go.Proofs.Ytjdpfblmhahfkaa.V

/- Bits: the reference's reader: the next list of texts. -/
set_option linter.unusedVariables false
namespace Go.Proofs.Ytjdpfblmhahfkaa.V
open Go Go.V Go.RowKit

/-- How far the reference has read where one of so many texts fails. -/
def failT : Nat → List Nat → Nat
  | 0, _ => 0
  | n + 1, l => match getS l with
    | none => resT l
    | some o => o.2 + failT n (l.drop o.2)
def resL (l : List Nat) : Nat :=
  match getN l with
  | none => 0
  | some o => if o.1 < 0 ∨ ((l.length - o.2 : Nat) : Int) < o.1 then o.2 else o.2 + failT o.1.toNat (l.drop o.2)

noncomputable def rtK (F : Nat) : Cont := Cont.block 0 (Cont.then (f30_r0.run F (f30.leaveK Fun.done)) (f30.leaveK Fun.done))
theorem rt_badloop (F : Nat) (f : Bool) (l : List (List AV)) (o : Ob) (os : List Ob) (tk : List (Nat × Nat)) (n : Nat) (hn : n ≤ 100000000) : ∀ (k i m : Nat) (lo : List (List AV)) (xt : List (Nat × Nat)), i + k = n → k < m → lo.length ≤ i →
    ∃ xt', loopRun (f30_l0.run F) [0, 3, 4, 5] (rtK F) m (Env.mk 44 [(0, .ptr 1 0), (3, .int .i64 n), (4, .lg tk.length 1 lo), (5, .int .i64 i)]) ⟨o :: .cells [.sl 1 f l, .bool true] :: os, tk ++ (1, lo.length) :: xt⟩
      = some (.ret .nilsl, ⟨o :: .cells [.sl 1 f l, .bool true] :: os, tk ++ xt'⟩)
  | k, i, 0, lo, xt, hi, hk, hlo => by omega
  | 0, i, m + 1, lo, xt, hi, hk, hlo => by
    refine ⟨(1, lo.length) :: xt, ?_⟩
    rw [show m + 1 = m.succ from rfl, rt_bround, branch_not (decide_eq_false (by omega)), rtK, rt_outbad]
  | k + 1, i, m + 1, lo, xt, hi, hk, hlo => by
    rw [show m + 1 = m.succ from rfl, rt_bround, branch_of (decide_eq_true (by omega))]
    simp only [tk_mid, tk_mid_set]
    rw [if_pos ⟨trivial, by omega⟩, wrapS (by omega) (by omega), show ((i : Int) + 1) = ((i + 1 : Nat) : Int) by omega]
    have := rt_badloop F f l o os tk n hn k (i + 1) m (lo ++ [[.str noText]]) xt (by omega) (by omega) (by simp; omega)
    rw [List.length_append, List.length_singleton] at this
    exact this
theorem rt_loop (F : Nat) (f : Bool) (o : Ob) (os : List Ob) (tk : List (Nat × Nat)) (n : Nat) (hn : n ≤ 100000000) : ∀ (k i m : Nat) (lo l : List (List AV)) (xt : List (Nat × Nat)), i + k = n → k < m → lo.length ≤ i → okR l = true → l.length ≤ 100000000 →
    ∃ xt', loopRun (f30_l0.run F) [0, 3, 4, 5] (rtK F) m (Env.mk 44 [(0, .ptr 1 0), (3, .int .i64 n), (4, .lg tk.length 1 lo), (5, .int .i64 i)]) ⟨o :: .cells [.sl 1 f l, .bool false] :: os, tk ++ (1, lo.length) :: xt⟩
      = match readT k (nR l) with
        | none => some (.ret .nilsl, ⟨o :: .cells [.sl 1 f (l.drop (failT k (nR l))), .bool true] :: os, tk ++ xt'⟩)
        | some p => some (.ret (.lg tk.length 1 (lo ++ tR p.1)), ⟨o :: .cells [.sl 1 f (l.drop p.2), .bool false] :: os, tk ++ xt'⟩)
  | k, i, 0, lo, l, xt, hi, hk, hlo, hl, hb => by omega
  | 0, i, m + 1, lo, l, xt, hi, hk, hlo, hl, hb => by
    refine ⟨(1, lo.length) :: xt, ?_⟩
    rw [show m + 1 = m.succ from rfl, rt_round, branch_not (decide_eq_false (by omega)), rtK, rt_out]
    simp [readT, tR]
  | k + 1, i, m + 1, lo, l, xt, hi, hk, hlo, hl, hb => by
    rw [show m + 1 = m.succ from rfl, rt_round, branch_of (decide_eq_true (by omega)), branch_of (fit_of hl (by omega))]
    simp only [readT, failT, tk_mid, tk_mid_set]
    rw [wrapS (by omega) (by omega), show ((i : Int) + 1) = ((i + 1 : Nat) : Int) by omega]
    cases hg : getS (nR l) with
    | none =>
      simp only [onSome]
      rw [if_pos ⟨trivial, by omega⟩]
      have := rt_badloop F f (l.drop (resT (nR l))) o os tk n hn k (i + 1) m (lo ++ [[.str noText]]) xt (by omega) (by omega) (by simp; omega)
      rw [List.length_append, List.length_singleton] at this
      exact this
    | some p =>
      obtain ⟨s, j⟩ := p
      simp only [onSome]
      rw [if_pos ⟨trivial, by omega⟩]
      obtain ⟨xt', ih⟩ := rt_loop F f o os tk n hn k (i + 1) m (lo ++ [[.str s]]) (l.drop j) xt (by omega) (by omega) (by simp; omega) (okR_drop hl j) (by simp; omega)
      refine ⟨xt', ?_⟩
      rw [List.length_append, List.length_singleton] at ih
      rw [ih, nR_drop]
      cases readT k ((nR l).drop j) with
      | none => simp only [List.drop_drop]
      | some p => simp only [List.append_assoc, List.drop_drop]; rfl
/-- A list of texts as a slice that is never nil. -/
def tAV' (ss : List ByteArray) : AV := .sl 1 ss.isEmpty (tR ss)
theorem rt_all (F : Nat) (f : Bool) (o : Ob) (os : List Ob) (tk : List (Nat × Nat)) (n m : Nat) (l : List (List AV)) (hm : n < m) (hl : okR l = true) (hb : l.length ≤ 100000000) (hn : n ≤ 100000000) :
    ∃ xt' r', loopRun (f30_l0.run F) [0, 3, 4, 5] (rtK F) m (Env.mk 44 [(0, .ptr 1 0), (3, .int .i64 n), (4, .sl 1 true []), (5, .int .i64 0)]) ⟨o :: .cells [.sl 1 f l, .bool false] :: os, tk⟩
      = (match readT n (nR l) with
        | none => some (.ret r', ⟨o :: .cells [.sl 1 f (l.drop (failT n (nR l))), .bool true] :: os, tk ++ xt'⟩)
        | some p => some (.ret r', ⟨o :: .cells [.sl 1 f (l.drop p.2), .bool false] :: os, tk ++ xt'⟩)) ∧ frz r' = (match readT n (nR l) with
        | none => .nilsl
        | some p => tAV' p.1) := by
  cases m with
  | zero => omega
  | succ m =>
    cases n with
    | zero =>
      refine ⟨[], .sl 1 true [], ?_⟩
      rw [show m + 1 = m.succ from rfl, rt_first, branch_not (by simp), rtK, rt_out]
      simp [readT, tAV', tR, frz]
    | succ n =>
      rw [show m + 1 = m.succ from rfl, rt_first, branch_of (by simp), branch_of (fit_of hl (by omega)), wrapS (by omega) (by omega), show ((0 : Int) + 1) = ((1 : Nat) : Int) from rfl]
      simp only [readT, failT]
      cases hg : getS (nR l) with
      | none =>
        simp only [onSome]
        obtain ⟨xt', h⟩ := rt_badloop F f (l.drop (resT (nR l))) o os tk (n + 1) hn n 1 m [[.str noText]] [] (by omega) (by omega) (by simp)
        exact ⟨xt', .nilsl, h, rfl⟩
      | some p =>
        obtain ⟨s, j⟩ := p
        simp only [onSome]
        obtain ⟨xt', ih⟩ := rt_loop F f o os tk (n + 1) hn n 1 m [[.str s]] (l.drop j) [] (by omega) (by omega) (by simp) (okR_drop hl j) (by simp; omega)
        rw [List.length_singleton] at ih
        rw [ih, nR_drop]
        cases readT n ((nR l).drop j) with
        | none => exact ⟨xt', .nilsl, by simp only [List.drop_drop], rfl⟩
        | some p =>
          refine ⟨xt', .lg tk.length 1 ([[.str s]] ++ tR p.1), ?_, rfl⟩
          simp only [List.drop_drop]

theorem f30_spec {st : St} {f : Bool} {l : List (List AV)} {put : AV → Bool → St} (h : rdAt (.ptr 1 0) st = some (.sl f false l, put)) (hf : fitL (.sl f l) = true) :
    ∃ F xt r', f30.run F [.ptr 1 0] st = some (.ret r', ⟨(match getT (nR l) with | none => put (.sl 1 f (l.drop (resL (nR l)))) true | some o => put (.sl 1 f (l.drop o.2)) false).objs, st.tk ++ xt⟩) ∧ frz r' = match getT (nR l) with
      | none => .nilsl
      | some o => tAV' o.1 := by
  obtain ⟨h1, h2⟩ := fitL_spec hf
  obtain ⟨o, os, hs, rfl⟩ := rdAt1 h
  rw [hs]; simp only [Rd.cells]
  obtain ⟨objs, tk⟩ := st
  simp only at hs ⊢
  cases hg : getN (nR l) with
  | none =>
    refine ⟨l.length + 2, [], .nilsl, ?_⟩
    rw [rt_run, branch_of (fit_of h1 (by omega)), hg]
    simp only [getT, resL, hg, onSome, List.append_nil, List.drop_zero]
    exact ⟨trivial, rfl⟩
  | some p =>
    obtain ⟨n, k⟩ := p
    by_cases hn : n < 0
    · refine ⟨l.length + 2, [], .nilsl, ?_⟩
      rw [rt_run, branch_of (fit_of h1 (by omega)), hg]
      simp only [getT, resL, hg, onSome, List.append_nil]
      rw [branch_of (decide_eq_true hn), if_pos (.inl hn), if_pos (.inl hn)]
      exact ⟨rfl, rfl⟩
    · by_cases hm : ((l.length - k : Nat) : Int) < n
      · refine ⟨l.length + 2, [], .nilsl, ?_⟩
        rw [rt_run, branch_of (fit_of h1 (by omega)), hg]
        simp only [getT, resL, hg, onSome, List.append_nil, nR_length, List.length_drop]
        rw [branch_not (decide_eq_false hn), branch_of (decide_eq_true hm), if_pos (.inr hm), if_pos (.inr hm)]
        exact ⟨rfl, rfl⟩
      · obtain ⟨c, rfl⟩ : ∃ c : Nat, n = c := ⟨n.toNat, by omega⟩
        obtain ⟨xt', r', ih, ih2⟩ := rt_all (l.length + 2) f o os tk c (l.length + 2) (l.drop k) (by omega) (okR_drop h1 k) (by simp; omega) (by omega)
        refine ⟨l.length + 2, xt', r', ?_⟩
        rw [rt_run, branch_of (fit_of h1 (by omega)), hg]
        simp only [getT, resL, hg, onSome, nR_length, List.length_drop]
        rw [branch_not (decide_eq_false hn), branch_not (decide_eq_false hm), if_neg (by omega), if_neg (by omega), Int.toNat_natCast]
        rw [nR_drop] at ih ih2
        simp only [rtK] at ih
        rw [ih, ih2]
        cases readT c ((nR l).drop k) with
        | none => simp only [List.drop_drop]; exact ⟨trivial, trivial⟩
        | some p => simp only [List.drop_drop]; exact ⟨trivial, trivial⟩
theorem f30_bad {st : St} {f : Bool} {l : List (List AV)} {put : AV → Bool → St} (h : rdAt (.ptr 1 0) st = some (.sl f true l, put)) : f30.run 0 [.ptr 1 0] st = some (.ret .nilsl, put (.sl 1 f l) true) := by
  obtain ⟨o, os, hs, rfl⟩ := rdAt1 h
  rw [hs]; simp only [Rd.cells]
  rw [rt_bad]
/-- Putting a reader anew at the second object. -/
theorem rd_put1 {st : St} {r : Rd} {put : AV → Bool → St} (h : rdAt (.ptr 1 0) st = some (r, put)) (a : AV) (b : Bool) :
    (put a b).tk = st.tk ∧ (put a b).objs.length = st.objs.length ∧ ∀ (k : Nat) (o' : Ob), (put a b).objs[k]? = some o' → st.objs[k]? = some o' ∨ o' = .cells [a, .bool b] := by
  obtain ⟨o, os, hs, rfl⟩ := rdAt1 h
  rw [hs]
  refine ⟨rfl, rfl, fun k o' ho => ?_⟩
  cases k with
  | zero => left; simpa using ho
  | succ k =>
    cases k with
    | zero => right; simpa using ho.symm
    | succ k => left; simpa using ho
/-- The reference's Reader.Texts. -/
noncomputable def q30 : OrcS Try.prog := f30.cpsX
  (fun args st k => match args with
    | [.ptr 1 0] => match rdAt (.ptr 1 0) st with
      | some (.sl f true l, put) => match okR l with
        | true => k (.ret .nilsl) (put (.sl 1 f l) true)
        | false => none
      | some (.sl f false l, put) => match fitL (.sl f l) with
        | true => match getT (nR l) with
          | none => k (.ret .nilsl) (put (.sl 1 f (l.drop (resL (nR l)))) true)
          | some o => k (.ret (.sl 1 o.1.isEmpty (tR o.1))) (put (.sl 1 f (l.drop o.2)) false)
        | false => none
      | _ => none
    | _ => none)
  fun args st k fin h => by
    split at h
    · split at h
      · rename_i f l put h1
        split at h
        · rename_i hok
          obtain ⟨p1, p2, p3⟩ := rd_put1 h1 (.sl 1 f l) true
          refine ⟨.nilsl, _, by rw [← p1]; exact h, p2, fun k o' ho => (p3 k o' ho).imp (fun h => h) fun h => by subst h; exact ⟨fun _ => ⟨scoped_bytes hok _ _, trivial, trivial⟩, trivial⟩, fun _ => trivial, 0, .nilsl, [], [], rfl, ?_⟩
          rw [f30_bad h1, List.append_nil, List.append_nil, ← p1]
        · cases h
      · rename_i f l put h1
        split at h
        · rename_i h2
          obtain ⟨F, xt, r', e1, e2⟩ := f30_spec h1 h2
          split at h
          · rename_i h3
            rw [h3] at e1 e2
            obtain ⟨p1, p2, p3⟩ := rd_put1 h1 (.sl 1 f (l.drop (resL (nR l)))) true
            exact ⟨.nilsl, _, by rw [← p1]; exact h, p2, fun k o' ho => (p3 k o' ho).imp (fun h => h) fun h => by subst h; exact ⟨fun _ => ⟨scoped_bytes (okR_drop (fitL_spec h2).1 _) _ _, trivial, trivial⟩, trivial⟩, fun _ => trivial, F, r', [], xt, e2, by rw [e1, List.append_nil]⟩
          · rename_i o h3
            rw [h3] at e1 e2
            obtain ⟨p1, p2, p3⟩ := rd_put1 h1 (.sl 1 f (l.drop o.2)) false
            exact ⟨tAV' o.1, _, by rw [← p1]; exact h, p2, fun k o' ho => (p3 k o' ho).imp (fun h => h) fun h => by subst h; exact ⟨fun _ => ⟨scoped_bytes (okR_drop (fitL_spec h2).1 _) _ _, trivial, trivial⟩, trivial⟩, fun _ => scoped_tR _ _ _, F, r', [], xt, e2, by rw [e1, List.append_nil]⟩
        · cases h
      · cases h
    · cases h
theorem q30_nat : q30.NatS := by
  intro args st k
  unfold q30 Fun.cpsX
  simp only []
  split
  · split
    · split <;> rfl
    · split
      · split <;> rfl
      · rfl
    · rfl
  · rfl
end Go.Proofs.Ytjdpfblmhahfkaa.V

/- What the functions' runs come to; the right sides were printed by a tool, Lean checks them. -/
set_option linter.unusedVariables false
set_option maxRecDepth 100000
namespace Go.Proofs.Ytjdpfblmhahfkaa.V
open Go Go.V Go.RowKit

theorem bad_run (a : AV) (b : Bool) (os : List Ob) (tk : List (Nat × Nat)) :
    (f12.run 0 [.ptr 0 0] ⟨.cells [a, .bool b] :: os, tk⟩ : Ans) =
    some (Fin.ret (AV.bool b), St.mk (Ob.cells [a, AV.bool b] :: os) tk) := by kernel_rfl

theorem left_run (f b : Bool) (l : List (List AV)) (os : List Ob) (tk : List (Nat × Nat)) :
    (f13.run 0 [.ptr 0 0] ⟨.cells [.sl 1 f l, .bool b] :: os, tk⟩ : Ans) =
    some (Fin.ret (AV.int IntKind.i64 (↑l.length : Int)), St.mk (Ob.cells [AV.sl 1 f l, AV.bool b] :: os) tk) := by kernel_rfl

theorem left_nil (b : Bool) (os : List Ob) (tk : List (Nat × Nat)) :
    (f13.run 0 [.ptr 0 0] ⟨.cells [.nilsl, .bool b] :: os, tk⟩ : Ans) =
    some (Fin.ret (AV.int IntKind.i64 0), St.mk (Ob.cells [AV.nilsl, AV.bool b] :: os) tk) := by kernel_rfl

theorem done_run (f b : Bool) (l : List (List AV)) (os : List Ob) (tk : List (Nat × Nat)) :
    (f24.run 0 [.ptr 0 0] ⟨.cells [.sl 1 f l, .bool b] :: os, tk⟩ : Ans) =
    branch (AV.bool !b)
      (some (Fin.ret (AV.bool ((↑l.length : Int) == 0)), St.mk (Ob.cells [AV.sl 1 f l, AV.bool b] :: os) tk))
      (some (Fin.ret (AV.bool false), St.mk (Ob.cells [AV.sl 1 f l, AV.bool b] :: os) tk)) := by kernel_rfl

theorem done_nil (b : Bool) (os : List Ob) (tk : List (Nat × Nat)) :
    (f24.run 0 [.ptr 0 0] ⟨.cells [.nilsl, .bool b] :: os, tk⟩ : Ans) =
    branch (AV.bool !b) (some (Fin.ret (AV.bool true), St.mk (Ob.cells [AV.nilsl, AV.bool b] :: os) tk))
      (some (Fin.ret (AV.bool false), St.mk (Ob.cells [AV.nilsl, AV.bool b] :: os) tk)) := by kernel_rfl

end Go.Proofs.Ytjdpfblmhahfkaa.V

/- Bits: what a reader tells of itself, as callees. -/
set_option linter.unusedVariables false
namespace Go.Proofs.Ytjdpfblmhahfkaa.V
open Go Go.V Go.RowKit

theorem rdAt0 {st : St} {r : Rd} {put : AV → Bool → St} (h : rdAt (.ptr 0 0) st = some (r, put)) : ∃ os, st = ⟨.cells r.cells :: os, st.tk⟩ := by
  rcases rdAt_eq h with ⟨_, os, h, _⟩ | ⟨h3, _⟩
  · exact ⟨os, h⟩
  · cases h3
def Rd.bad : Rd → Bool
  | .nil b => b
  | .sl _ b _ => b
def Rd.len : Rd → Int
  | .nil _ => 0
  | .sl _ _ l => l.length
/-- What a method answers that leaves the reader as it is. -/
def askSem (p : AV) (g : Rd → AV) : List AV → St → (AV → Ans) → Ans := fun args st k => match args with
  | [x] => match (match p, x with | .ptr 0 0, .ptr 0 0 => true | .ptr 1 0, .ptr 1 0 => true | _, _ => false) with
    | true => match rdAt p st with
      | some (r, _) => k (g r)
      | none => none
    | false => none
  | _ => none
theorem askSem_spec {p : AV} {g : Rd → AV} {args : List AV} {st : St} {k : AV → Ans} {fin : Fin × St} (h : askSem p g args st k = some fin) : args = [p] ∧ ∃ r put, rdAt p st = some (r, put) ∧ k (g r) = some fin := by
  unfold askSem at h
  split at h
  · split at h
    · rename_i hp
      split at hp
      · split at h
        · rename_i h1; exact ⟨rfl, _, _, h1, h⟩
        · cases h
      · split at h
        · rename_i h1; exact ⟨rfl, _, _, h1, h⟩
        · cases h
      · cases hp
    · cases h
  · cases h
theorem askSem_nat (p : AV) (g : Rd → AV) (args : List AV) (st : St) (k : AV → Ans) : askSem p g args st k = thenA (askSem p g args st retA) k := by
  unfold askSem
  split
  · split
    · split <;> rfl
    · rfl
  · rfl
noncomputable def q12 : OrcQ Try.prog := f12.ask (askSem (.ptr 0 0) fun r => .bool r.bad) fun args st k fin h => by
  obtain ⟨rfl, r, put, h1, h2⟩ := askSem_spec h
  refine ⟨_, h2, 0, ?_⟩
  obtain ⟨os, hs⟩ := rdAt0 h1
  rw [hs]
  cases r <;> (simp only [Rd.cells]; rw [bad_run]; rfl)
noncomputable def q13 : OrcQ Try.prog := f13.ask (askSem (.ptr 0 0) fun r => .int .i64 r.len) fun args st k fin h => by
  obtain ⟨rfl, r, put, h1, h2⟩ := askSem_spec h
  refine ⟨_, h2, 0, ?_⟩
  obtain ⟨os, hs⟩ := rdAt0 h1
  rw [hs]
  cases r
  · simp only [Rd.cells]; rw [left_nil]; rfl
  · simp only [Rd.cells]; rw [left_run]; rfl
noncomputable def q24 : OrcQ Try.prog := f24.ask (askSem (.ptr 0 0) fun r => .bool (!r.bad && (r.len == 0))) fun args st k fin h => by
  obtain ⟨rfl, r, put, h1, h2⟩ := askSem_spec h
  refine ⟨_, h2, 0, ?_⟩
  obtain ⟨os, hs⟩ := rdAt0 h1
  rw [hs]
  cases r with
  | nil b => simp only [Rd.cells]; rw [done_nil]; cases b <;> rfl
  | sl f b l => simp only [Rd.cells]; rw [done_run]; cases b <;> rfl
noncomputable def q31 : OrcQ Try.prog := f31.ask (fun args st k => match args with
    | [.ptr 1 0] => match rdAt (.ptr 1 0) st with
      | some (.sl f b l, _) => match b with
        | true => k (.int .i64 0)
        | false => k (.int .i64 l.length)
      | _ => none
    | _ => none) fun args st k fin h => by
  split at h
  · split at h
    · rename_i f b l put h1
      obtain ⟨o, os, hs, _⟩ := rdAt1 h1
      cases b with
      | true => exact ⟨_, h, 0, by rw [hs]; simp only [Rd.cells]; rw [rleft_run]; rfl⟩
      | false => exact ⟨_, h, 0, by rw [hs]; simp only [Rd.cells]; rw [rleft_run]; rfl⟩
    · cases h
  · cases h
theorem q12_nat : q12.NatQ := askSem_nat _ _
theorem q13_nat : q13.NatQ := askSem_nat _ _
theorem q24_nat : q24.NatQ := askSem_nat _ _
theorem q31_nat : q31.NatQ := by
  intro args st k
  unfold q31 Fun.ask
  simp only []
  split
  · split
    · split <;> rfl
    · rfl
  · rfl
end Go.Proofs.Ytjdpfblmhahfkaa.V

/- Elements and loads, read no deeper than they must. -/
set_option linter.unusedVariables false
set_option linter.unusedSimpArgs false
namespace Go.V
section
variable {P : Program}

def PSim.by' (x : PSim P) (f : (Operand → AV) → (AV → Ans) → Ans) (hc : ∀ ev ev' k, (∀ o ∈ x.xs, ev o = ev' o) → f ev k = f ev' k) (h : ∀ ev k fin, f ev k = some fin → x.f ev k = some fin) : PSim P :=
  ⟨x.oper, x.plain, x.xs, f, hc, fun ev k fin hk => x.sound ev k fin (h ev k fin hk)⟩
def QSim.by' (x : QSim P) (f : (Operand → AV) → St → (AV → Ans) → Ans) (hc : ∀ ev ev' st k, (∀ o ∈ x.xs, ev o = ev' o) → f ev st k = f ev' st k) (h : ∀ ev st k fin, f ev st k = some fin → x.f ev st k = some fin) : QSim P :=
  ⟨x.oper, x.plain, x.xs, f, hc, fun ev st k fin hk => x.sound ev st k fin (h ev st k fin hk)⟩

/-- An element's cells. -/
def rowAt (l : List (List AV)) (i : Int) : List AV := (l[i.toNat]?).getD []
def inR (l : List (List AV)) (i : Int) : Bool := decide (0 ≤ i) && decide (i < l.length)
theorem inR_spec {l : List (List AV)} {i : Int} (h : inR l i = true) : elemAt l i = some (rowAt l i) := by
  simp only [inR, Bool.and_eq_true, decide_eq_true_eq] at h
  unfold elemAt rowAt
  rw [if_pos h.1]
  have : i.toNat < l.length := by omega
  simp [this]
def aidxT (sz : Nat) (x i : AV) (k : AV → Ans) : Ans :=
  match i with
  | .int _ i => match x with
    | .sl s _ l => match Nat.beq s sz with
      | true => match inR l i with
        | true => k (.eptr (rowAt l i))
        | false => none
      | false => none
    | .lg _ s l => match Nat.beq s sz with
      | true => match inR l i with
        | true => k (.eptr (rowAt l i))
        | false => none
      | false => none
    | .ms j s o n _ => match Nat.beq s sz with
      | true => if 0 ≤ i ∧ i < n then k (.ptr j (o + i.toNat * sz)) else none
      | false => none
    | _ => none
  | _ => none
theorem aidxT_aidx {sz : Nat} {x i : AV} {k : AV → Ans} {fin : Fin × St} (h : aidxT sz x i k = some fin) : aidx sz x i k = some fin := by
  unfold aidxT at h
  unfold aidx
  split at h
  · split at h
    · split at h
      · split at h
        · rename_i h1 _ h2; simp only [h1, inR_spec h2]; exact h
        · cases h
      · cases h
    · split at h
      · split at h
        · rename_i h1 _ h2; simp only [h1, inR_spec h2]; exact h
        · cases h
      · cases h
    · exact h
    · cases h
  · cases h
def opIndexAddrT (dst : Option Tmp) (T : TypeId) (x i : Operand) (e sz : Nat) (hT : P.underlying T = some (.slice e)) (hz : (P.info? e).map (·.size) = some sz) (ty : TypeId) (pos : String) (after : Array Edge) : PSim P :=
  (opIndexAddr dst T x i e sz hT hz ty pos after).by' (fun ev k => aidxT sz (ev x) (ev i) k) (fun ev ev' k h => by simp only [h x (by simp [opIndexAddr, PSim.quiet]), h i (by simp [opIndexAddr, PSim.quiet])]) fun ev k fin h => aidxT_aidx h
theorem aidxT_nat (sz : Nat) (x i : AV) (k : AV → Ans) : aidxT sz x i k = thenA (aidxT sz x i retA) k := by
  unfold aidxT
  split
  · split
    · split
      · split <;> rfl
      · rfl
    · split
      · split <;> rfl
      · rfl
    · split
      · split <;> rfl
      · rfl
    · rfl
  · rfl
theorem opIndexAddrT_nat {dst : Option Tmp} {T : TypeId} {x i : Operand} {e sz : Nat} {hT : P.underlying T = some (.slice e)} {hz : (P.info? e).map (·.size) = some sz} {ty : TypeId} {pos : String} {after : Array Edge} : (opIndexAddrT (P := P) dst T x i e sz hT hz ty pos after).Nat :=
  fun ev k => aidxT_nat _ _ _ _

/-- What is loaded. -/
inductive LT where
  | int (k : IntKind)
  | str
  | bool
  | any
def hdI : List AV → Int
  | .int _ n :: _ => n
  | _ => 0
def hdS : List AV → ByteArray
  | .str s :: _ => s
  | _ => ByteArray.empty
def hdB : List AV → Bool
  | .bool b :: _ => b
  | _ => false
def hdA : List AV → AV
  | x :: _ => x
  | _ => .dead
def isLT (t : LT) (cs : List AV) : Bool :=
  match t with
  | .int K => match cs with
    | .int k _ :: _ => decide (k = K)
    | _ => false
  | .str => match cs with
    | .str _ :: _ => true
    | _ => false
  | .bool => match cs with
    | .bool _ :: _ => true
    | _ => false
  | .any => match cs with
    | _ :: _ => true
    | _ => false
def valLT (t : LT) (cs : List AV) : AV :=
  match t with
  | .int K => .int K (hdI cs)
  | .str => .str (hdS cs)
  | .bool => .bool (hdB cs)
  | .any => hdA cs
theorem isLT_spec {t : LT} {cs : List AV} (h : isLT t cs = true) : ∃ r, cs = valLT t cs :: r := by
  cases t with
  | int K =>
    simp only [isLT] at h
    split at h
    · simp at h; subst h; exact ⟨_, rfl⟩
    · cases h
  | str =>
    simp only [isLT] at h
    split at h
    · exact ⟨_, rfl⟩
    · cases h
  | bool =>
    simp only [isLT] at h
    split at h
    · exact ⟨_, rfl⟩
    · cases h
  | any =>
    simp only [isLT] at h
    split at h
    · exact ⟨_, rfl⟩
    · cases h
/-- The cells of a struct. -/
def isLTs : List LT → List AV → Bool
  | [], _ => true
  | t :: r, cs => isLT t cs && isLTs r cs.tail
def valLTs : List LT → List AV → List AV
  | [], _ => []
  | t :: r, cs => valLT t cs :: valLTs r cs.tail
theorem isLTs_spec : ∀ {ts : List LT} {cs : List AV}, isLTs ts cs = true → takeN ts.length cs = some (valLTs ts cs)
  | [], _, _ => rfl
  | t :: r, cs, h => by
    simp only [isLTs, Bool.and_eq_true] at h
    obtain ⟨rest, hr⟩ := isLT_spec h.1
    have ih := isLTs_spec h.2
    rw [hr] at ih ⊢
    simp only [List.tail_cons] at ih
    simp only [List.length_cons, takeN, valLTs, List.tail_cons, ih]
    rw [← hr]

/-- A load: a scalar's kind, or the cells of a struct. -/
inductive LD where
  | one (t : LT)
  | agg (ts : List LT)
def LD.ag : LD → Bool
  | .one _ => false
  | .agg _ => true
def LD.fits (sz : Nat) : LD → Bool
  | .one _ => true
  | .agg ts => Nat.beq ts.length sz
def LD.is (d : LD) (cs : List AV) : Bool :=
  match d with
  | .one t => isLT t cs
  | .agg ts => isLTs ts cs
def LD.val (d : LD) (cs : List AV) : AV :=
  match d with
  | .one t => valLT t cs
  | .agg ts => .agg (valLTs ts cs)
theorem LD.apart {d : LD} {sz : Nat} {cs : List AV} {k : AV → Ans} (hf : d.fits sz = true) (h : d.is cs = true) : V.apart d.ag sz cs k = k (d.val cs) := by
  cases d with
  | one t =>
    obtain ⟨r, hr⟩ := isLT_spec (t := t) h
    show V.apart false sz cs k = k (valLT t cs)
    rw [hr, ← hr]
    conv => lhs; rw [hr]
    rfl
  | agg ts =>
    have : ts.length = sz := Nat.eq_of_beq_eq_true hf
    subst this
    show V.apart true ts.length cs k = k (.agg (valLTs ts cs))
    unfold V.apart
    simp only [isLTs_spec (ts := ts) h]

def aloadTF (d : LD) (p : AV) (k : AV → Ans) : Ans :=
  match p with
  | .eptr cs => match d.is cs with
    | true => k (d.val cs)
    | false => none
  | _ => none
def aloadT (d : LD) (p : AV) (st : St) (k : AV → Ans) : Ans :=
  match p with
  | .eptr cs => match d.is cs with
    | true => k (d.val cs)
    | false => none
  | .ptr j o => match st.objs[j]? with
    | some (.cells cs) => match d.is (cs.drop o) with
      | true => k (d.val (cs.drop o))
      | false => none
    | _ => none
  | _ => none
theorem aloadTF_aloadF {d : LD} {sz : Nat} (hf : d.fits sz = true) {p : AV} {k : AV → Ans} {fin : Fin × St} (h : aloadTF d p k = some fin) : aloadF d.ag sz p k = some fin := by
  unfold aloadTF at h
  unfold aloadF
  split at h
  · split at h
    · rename_i h1; simp only [LD.apart hf h1]; exact h
    · cases h
  · cases h
theorem aloadT_aload {d : LD} {sz : Nat} (hf : d.fits sz = true) {p : AV} {st : St} {k : AV → Ans} {fin : Fin × St} (h : aloadT d p st k = some fin) : aload d.ag sz p st k = some fin := by
  unfold aloadT at h
  unfold aload
  split at h
  · split at h
    · rename_i h1; simp only [LD.apart hf h1]; exact h
    · cases h
  · split at h
    · rename_i h0
      split at h
      · rename_i h1; simp only [h0, LD.apart hf h1]; exact h
      · cases h
    · cases h
  · cases h
def opLoadT (ld : LD) (dst : Option Tmp) (T : TypeId) (x : Operand) (d : TypeDesc) (hd : P.underlying T = some d) (sz : Nat) (hz : (P.info? T).map (·.size) = some sz) (hl : (ld.fits sz && (ld.ag == isAggD d)) = true) (ty : TypeId) (pos : String) (after : Array Edge) : QSim P :=
  (opLoad dst T x d hd sz hz ty pos after).by' (fun ev st k => aloadT ld (ev x) st k) (fun ev ev' st k h => by simp only [h x (by simp [opLoad, QSim.quiet])]) fun ev st k fin h => by
    simp only [Bool.and_eq_true, beq_iff_eq] at hl
    show aload (isAggD d) sz (ev x) st k = some fin
    rw [← hl.2]; exact aloadT_aload hl.1 h
def opLoadTF (ld : LD) (dst : Option Tmp) (T : TypeId) (x : Operand) (d : TypeDesc) (hd : P.underlying T = some d) (sz : Nat) (hz : (P.info? T).map (·.size) = some sz) (hl : (ld.fits sz && (ld.ag == isAggD d)) = true) (ty : TypeId) (pos : String) (after : Array Edge) : PSim P :=
  (opLoadF dst T x d hd sz hz ty pos after).by' (fun ev k => aloadTF ld (ev x) k) (fun ev ev' k h => by simp only [h x (by simp [opLoadF, PSim.quiet])]) fun ev k fin h => by
    simp only [Bool.and_eq_true, beq_iff_eq] at hl
    show aloadF (isAggD d) sz (ev x) k = some fin
    rw [← hl.2]; exact aloadTF_aloadF hl.1 h
theorem opLoadT_nat {ld : LD} {dst : Option Tmp} {T : TypeId} {x : Operand} {d : TypeDesc} {hd : P.underlying T = some d} {sz : Nat} {hz : (P.info? T).map (·.size) = some sz} {hl} {ty : TypeId} {pos : String} {after : Array Edge} : (opLoadT (P := P) ld dst T x d hd sz hz hl ty pos after).Nat := by
  intro ev st k
  show aloadT ld (ev x) st k = thenA (aloadT ld (ev x) st retA) k
  unfold aloadT
  split
  · split <;> rfl
  · split
    · split <;> rfl
    · rfl
  · rfl
theorem opLoadTF_nat {ld : LD} {dst : Option Tmp} {T : TypeId} {x : Operand} {d : TypeDesc} {hd : P.underlying T = some d} {sz : Nat} {hz : (P.info? T).map (·.size) = some sz} {hl} {ty : TypeId} {pos : String} {after : Array Edge} : (opLoadTF (P := P) ld dst T x d hd sz hz hl ty pos after).Nat := by
  intro ev k
  show aloadTF ld (ev x) k = thenA (aloadTF ld (ev x) retA) k
  unfold aloadTF
  split
  · split <;> rfl
  · rfl
end

/-- A law's rows, one by one. -/
theorem rowAt_nat {l : List (List AV)} {i : Nat} (h : i < l.length) : rowAt l (i : Int) = l[i] := by simp [rowAt, h]
theorem inR_nat {l : List (List AV)} {i : Nat} (h : i < l.length) : inR l (i : Int) = true := by
  simp only [inR, Bool.and_eq_true, decide_eq_true_eq]; omega
end Go.V

/- The functions' pieces, as told by gen.py. -/
set_option linter.unusedVariables false
set_option maxRecDepth 20000
namespace Go.Proofs.Ytjdpfblmhahfkaa.V
open Go Go.V Go.RowKit

theorem ze44 : (Try.prog.info? 44).bind (·.zero) = some (.agg #[(.slice none 0 0), (.bool false)]) := by kernel_rfl

/-! ### 8: interlock/interlocklaw01.BitsReads (22, 37); results 4; slots: 0 b, 1 asks, 2 b, 3 asks, 5 own, 6 r, 7 m, 8 i -/
/-- A loop's round; at its head live: 0 b, 1 asks, 5 own, 6 r, 7 m, 8 i -/
noncomputable def f8_l0 : Sim Try.prog :=
  (.seq (.seq (.live [0, 1, 5, 6, 7, 8, 32] (.region 11 [
    ⟨(opMove (some 29) (.tmp 8) 3 "law.go:46" #[]).op, none⟩,
    ⟨(opMove (some 30) (.tmp 1) 37 "law.go:46" #[]).op, none⟩,
    ⟨(opLen (some 31) (.tmp 30) 37 (.slice 3) Try.underlying37 3 "law.go:46" #[{ on := 1, ground := Ground.data }]).op, none⟩,
    ⟨(opBin (some 32) .lss 3 (.tmp 29) (.tmp 31) 3 4 "law.go:46" #[{ on := 0, ground := Ground.data }, { on := 2, ground := Ground.data }]).op, none⟩
  ] (by kernel_rfl)))
  (.cond (.tmp 32)
    .skip
    (.live [0, 5] (.exit 0))))
  (.seq (.block 1 (.seq (.seq (.live [0, 1, 5, 6, 7, 8, 39] (.region 13 [
      ⟨(opMove (some 35) (.tmp 1) 37 "law.go:47" #[]).op, none⟩,
      ⟨(opMove (some 36) (.tmp 8) 3 "law.go:47" #[]).op, none⟩,
      ⟨(opIndexAddrT (some 37) 37 (.tmp 35) (.tmp 36) 3 1 Try.underlying37 sz3 0 "law.go:47" #[{ on := 0, ground := Ground.data }, { on := 1, ground := Ground.data }]).op, none⟩,
      ⟨(opLoadT (.one (.int .i64)) (some 38) 3 (.tmp 37) (.int .i64) Try.underlying3 1 sz3 (by kernel_rfl) 3 "law.go:47" #[{ on := 2, ground := Ground.data }]).op, none⟩,
      ⟨(opBin (some 39) .and 3 (.tmp 38) (.const (Value.int IntKind.i64 3)) 3 3 "law.go:47" #[{ on := 3, ground := Ground.data }]).op, none⟩
    ] (by kernel_rfl)))
    (.block 2 (.seq (.live [0, 1, 5, 6, 7, 8, 39, 40] (.region 14 [
        ⟨(opBin (some 41) .eql 3 (.tmp 39) (.const (Value.int IntKind.i64 0)) 3 4 "law.go:48" #[]).op, none⟩,
        ⟨(opAssign (some 40) (.tmp 41) 4 "law.go:48" #[{ on := 0, ground := Ground.data }]).op, none⟩
      ] (by kernel_rfl)))
      (.cond (.tmp 40)
        (.seq (.live [0, 1, 5, 6, 7, 8, 46] (.region 15 [
          ⟨(opMove (some 42) (.tmp 6) 24 "law.go:49" #[]).op, none⟩,
          ⟨opCall (q11).orc (some 43) [(.tmp 42)] #[24] 3 "law.go:49" #[{ on := 0, ground := Ground.data }], none⟩,
          ⟨(opMove (some 44) (.tmp 7) 42 "law.go:49" #[]).op, none⟩,
          ⟨opCall (q26).orc (some 45) [(.tmp 44)] #[42] 3 "law.go:49" #[{ on := 2, ground := Ground.data }, { on := 1, ground := Ground.chain }], none⟩,
          ⟨(opBin (some 46) .neq 3 (.tmp 43) (.tmp 45) 3 4 "law.go:49" #[{ on := 1, ground := Ground.data }, { on := 3, ground := Ground.data }]).op, none⟩
        ] (by kernel_rfl)))
        (.cond (.tmp 46)
          (.seq (.live [4] (.region 16 [
            ⟨(opAssign (some 4) (.const (Value.bool false)) 4 "law.go:50" #[]).op, none⟩
          ] (by kernel_rfl)))
          (.live [4] .ret))
          .skip))
        (.seq (.live [0, 1, 5, 6, 7, 8, 39, 47] (.region 17 [
          ⟨(opBin (some 48) .eql 3 (.tmp 39) (.const (Value.int IntKind.i64 1)) 3 4 "law.go:52" #[]).op, none⟩,
          ⟨(opAssign (some 47) (.tmp 48) 4 "law.go:52" #[{ on := 0, ground := Ground.data }]).op, none⟩
        ] (by kernel_rfl)))
        (.cond (.tmp 47)
          (.seq (.live [0, 1, 5, 6, 7, 8, 53] (.region 18 [
            ⟨(opMove (some 49) (.tmp 6) 24 "law.go:53" #[]).op, none⟩,
            ⟨opCall (q17).orc (some 50) [(.tmp 49)] #[24] 9 "law.go:53" #[{ on := 0, ground := Ground.data }], none⟩,
            ⟨(opMove (some 51) (.tmp 7) 42 "law.go:53" #[]).op, none⟩,
            ⟨opCall (q27).orc (some 52) [(.tmp 51)] #[42] 9 "law.go:53" #[{ on := 2, ground := Ground.data }, { on := 1, ground := Ground.chain }], none⟩,
            ⟨(opBinS (some 53) .neq 9 (.tmp 50) (.tmp 52) 9 4 "law.go:53" #[{ on := 1, ground := Ground.data }, { on := 3, ground := Ground.data }]).op, none⟩
          ] (by kernel_rfl)))
          (.cond (.tmp 53)
            (.seq (.live [4] (.region 19 [
              ⟨(opAssign (some 4) (.const (Value.bool false)) 4 "law.go:54" #[]).op, none⟩
            ] (by kernel_rfl)))
            (.live [4] .ret))
            .skip))
          (.seq (.live [0, 1, 5, 6, 7, 8, 39, 54] (.region 20 [
            ⟨(opBin (some 55) .eql 3 (.tmp 39) (.const (Value.int IntKind.i64 2)) 3 4 "law.go:56" #[]).op, none⟩,
            ⟨(opAssign (some 54) (.tmp 55) 4 "law.go:56" #[{ on := 0, ground := Ground.data }]).op, none⟩
          ] (by kernel_rfl)))
          (.cond (.tmp 54)
            (.seq (.live [0, 1, 5, 6, 7, 8, 70] (.draw 21 [
              ⟨.p (opMove (some 56) (.tmp 6) 24 "law.go:57" #[]), none⟩,
              ⟨.p (opMove (some 57) (.tmp 1) 37 "law.go:57" #[]), none⟩,
              ⟨.p (opMove (some 58) (.tmp 8) 3 "law.go:57" #[]), none⟩,
              ⟨.pn (opIndexAddrT (some 59) 37 (.tmp 57) (.tmp 58) 3 1 Try.underlying37 sz3 0 "law.go:57" #[{ on := 1, ground := Ground.data }, { on := 2, ground := Ground.data }]) opIndexAddrT_nat, none⟩,
              ⟨.qn (opLoadT (.one (.int .i64)) (some 60) 3 (.tmp 59) (.int .i64) Try.underlying3 1 sz3 (by kernel_rfl) 3 "law.go:57" #[{ on := 3, ground := Ground.data }]) opLoadT_nat, none⟩,
              ⟨.pn (opBin (some 61) .quo 3 (.tmp 60) (.const (Value.int IntKind.i64 4)) 3 3 "law.go:57" #[{ on := 4, ground := Ground.data }]) opBin_nat, none⟩,
              ⟨.mn (opCallM (q28) (some 62) [(.tmp 56), (.tmp 61)] #[24, 3] 3 "law.go:57" #[{ on := 0, ground := Ground.data }, { on := 5, ground := Ground.data }]) (opCallM_nat q28_nat), none⟩,
              ⟨.p (opMove (some 63) (.tmp 7) 42 "law.go:57" #[]), none⟩,
              ⟨.p (opMove (some 64) (.tmp 1) 37 "law.go:57" #[]), none⟩,
              ⟨.p (opMove (some 65) (.tmp 8) 3 "law.go:57" #[]), none⟩,
              ⟨.pn (opIndexAddrT (some 66) 37 (.tmp 64) (.tmp 65) 3 1 Try.underlying37 sz3 0 "law.go:57" #[{ on := 8, ground := Ground.data }, { on := 9, ground := Ground.data }]) opIndexAddrT_nat, none⟩,
              ⟨.pn (opLoadTF (.one (.int .i64)) (some 67) 3 (.tmp 66) (.int .i64) Try.underlying3 1 sz3 (by kernel_rfl) 3 "law.go:57" #[{ on := 10, ground := Ground.data }]) opLoadTF_nat, none⟩,
              ⟨.pn (opBin (some 68) .quo 3 (.tmp 67) (.const (Value.int IntKind.i64 4)) 3 3 "law.go:57" #[{ on := 11, ground := Ground.data }]) opBin_nat, none⟩,
              ⟨.mn (opCallM (q29) (some 69) [(.tmp 63), (.tmp 68)] #[42, 3] 3 "law.go:57" #[{ on := 7, ground := Ground.data }, { on := 12, ground := Ground.data }, { on := 6, ground := Ground.chain }]) (opCallM_nat q29_nat), none⟩,
              ⟨.pn (opBin (some 70) .neq 3 (.tmp 62) (.tmp 69) 3 4 "law.go:57" #[{ on := 6, ground := Ground.data }, { on := 13, ground := Ground.data }]) opBin_nat, none⟩
            ] mixed (by kernel_rfl)))
            (.cond (.tmp 70)
              (.seq (.live [4] (.region 22 [
                ⟨(opAssign (some 4) (.const (Value.bool false)) 4 "law.go:58" #[]).op, none⟩
              ] (by kernel_rfl)))
              (.live [4] .ret))
              .skip))
            (.seq (.live [0, 1, 5, 6, 7, 8, 71] (.region 23 [
              ⟨(opBin (some 72) .eql 3 (.tmp 39) (.const (Value.int IntKind.i64 3)) 3 4 "law.go:60" #[]).op, none⟩,
              ⟨(opAssign (some 71) (.tmp 72) 4 "law.go:60" #[{ on := 0, ground := Ground.data }]).op, none⟩
            ] (by kernel_rfl)))
            (.cond (.tmp 71)
              (.seq (.live [0, 1, 5, 6, 7, 8, 78] (.region 24 [
                ⟨(opMove (some 73) (.tmp 6) 24 "law.go:61" #[]).op, none⟩,
                ⟨opCall (q23).orc (some 74) [(.tmp 73)] #[24] 33 "law.go:61" #[{ on := 0, ground := Ground.data }], none⟩,
                ⟨(opMove (some 75) (.tmp 7) 42 "law.go:61" #[]).op, none⟩,
                ⟨opCall (q30).orc (some 76) [(.tmp 75)] #[42] 33 "law.go:61" #[{ on := 2, ground := Ground.data }, { on := 1, ground := Ground.chain }], none⟩,
                ⟨(opCallP r22 (some 77) [(.tmp 74), (.tmp 76)] #[33, 33] 4 "law.go:61" #[{ on := 1, ground := Ground.data }, { on := 3, ground := Ground.data }, { on := 3, ground := Ground.chain }]).op, none⟩,
                ⟨(opNot (some 78) 4 (.tmp 77) 4 "law.go:61" #[{ on := 4, ground := Ground.data }]).op, none⟩
              ] (by kernel_rfl)))
              (.cond (.tmp 78)
                (.seq (.live [4] (.region 25 [
                  ⟨(opAssign (some 4) (.const (Value.bool false)) 4 "law.go:62" #[]).op, none⟩
                ] (by kernel_rfl)))
                (.live [4] .ret))
                .skip))
              .skip))))))))))
    (.seq (.live [0, 1, 5, 6, 7, 8, 110] (.draw 26 [
      ⟨.p (opMove (some 79) (.tmp 6) 24 "law.go:65" #[]), none⟩,
      ⟨.qn (opCallQ q12 (some 80) [(.tmp 79)] #[24] 4 "law.go:65" #[{ on := 0, ground := Ground.data }]) (opCallQ_nat q12_nat), none⟩,
      ⟨.p (opMove (some 81) (.tmp 7) 42 "law.go:65" #[]), none⟩,
      ⟨.p (opNilCheck (some 82) (.tmp 81) 0 "law.go:65" #[{ on := 2, ground := Ground.data }]), none⟩,
      ⟨.pn (opFieldAddr (some 83) 44 (.tmp 82) 1 1 1 false fl44_1 (by decide) 0 "law.go:65" #[{ on := 3, ground := Ground.data }]) opFieldAddr_nat, none⟩,
      ⟨.qn (opLoadT (.one .bool) (some 84) 4 (.tmp 83) .bool Try.underlying4 1 sz4 (by kernel_rfl) 4 "law.go:65" #[{ on := 4, ground := Ground.data }]) opLoadT_nat, none⟩,
      ⟨.p (opNe (some 85) 4 .bool Try.underlying4 (.tmp 80) (.tmp 84) (.inr rfl) 4 4 "law.go:65" #[{ on := 1, ground := Ground.data }, { on := 5, ground := Ground.data }]), none⟩,
      ⟨.p (opMove (some 86) (.tmp 85) 4 "law.go:65" #[{ on := 6, ground := Ground.data }, { on := 1, ground := Ground.chain }]), none⟩,
      ⟨.p (opMove (some 87) (.tmp 6) 24 "law.go:65" #[{ on := 7, ground := Ground.guard }]), (some (7, 86, false))⟩,
      ⟨.qn (opCallQ q13 (some 88) [(.tmp 87)] #[24] 3 "law.go:65" #[{ on := 8, ground := Ground.data }, { on := 7, ground := Ground.chain }, { on := 7, ground := Ground.guard }]) (opCallQ_nat q13_nat), (some (7, 86, false))⟩,
      ⟨.p (opMove (some 89) (.tmp 7) 42 "law.go:65" #[{ on := 7, ground := Ground.guard }]), (some (7, 86, false))⟩,
      ⟨.qn (opCallQ q31 (some 90) [(.tmp 89)] #[42] 3 "law.go:65" #[{ on := 10, ground := Ground.data }, { on := 9, ground := Ground.chain }, { on := 7, ground := Ground.guard }]) (opCallQ_nat q31_nat), (some (7, 86, false))⟩,
      ⟨.pn (opBin (some 91) .neq 3 (.tmp 88) (.tmp 90) 3 4 "law.go:65" #[{ on := 9, ground := Ground.data }, { on := 11, ground := Ground.data }, { on := 7, ground := Ground.guard }]) opBin_nat, (some (7, 86, false))⟩,
      ⟨.p (opPick (some 92) (.tmp 86) (.const (Value.bool true)) (.tmp 91) 4 "law.go:65" #[{ on := 7, ground := Ground.data }, { on := 12, ground := Ground.data }]), none⟩,
      ⟨.p (opMove (some 93) (.tmp 92) 4 "law.go:65" #[{ on := 13, ground := Ground.data }, { on := 11, ground := Ground.chain }]), none⟩,
      ⟨.p (opMove (some 94) (.tmp 6) 24 "law.go:65" #[{ on := 14, ground := Ground.guard }]), (some (14, 93, false))⟩,
      ⟨.qn (opCallQ q24 (some 95) [(.tmp 94)] #[24] 4 "law.go:65" #[{ on := 15, ground := Ground.data }, { on := 14, ground := Ground.chain }, { on := 14, ground := Ground.guard }]) (opCallQ_nat q24_nat), (some (14, 93, false))⟩,
      ⟨.p (opMove (some 96) (.tmp 7) 42 "law.go:65" #[{ on := 14, ground := Ground.guard }]), (some (14, 93, false))⟩,
      ⟨.p (opNilCheck (some 97) (.tmp 96) 0 "law.go:65" #[{ on := 17, ground := Ground.data }, { on := 14, ground := Ground.guard }]), (some (14, 93, false))⟩,
      ⟨.pn (opFieldAddr (some 98) 44 (.tmp 97) 1 1 1 false fl44_1 (by decide) 0 "law.go:65" #[{ on := 18, ground := Ground.data }, { on := 14, ground := Ground.guard }]) opFieldAddr_nat, (some (14, 93, false))⟩,
      ⟨.qn (opLoadT (.one .bool) (some 99) 4 (.tmp 98) .bool Try.underlying4 1 sz4 (by kernel_rfl) 4 "law.go:65" #[{ on := 19, ground := Ground.data }, { on := 14, ground := Ground.guard }]) opLoadT_nat, (some (14, 93, false))⟩,
      ⟨.p (opNot (some 100) 4 (.tmp 99) 4 "law.go:65" #[{ on := 20, ground := Ground.data }, { on := 14, ground := Ground.guard }]), (some (14, 93, false))⟩,
      ⟨.p (opMove (some 101) (.tmp 100) 4 "law.go:65" #[{ on := 21, ground := Ground.data }, { on := 16, ground := Ground.chain }, { on := 14, ground := Ground.guard }]), (some (14, 93, false))⟩,
      ⟨.p (opMove (some 102) (.tmp 7) 42 "law.go:65" #[{ on := 22, ground := Ground.guard }]), (some (22, 101, true))⟩,
      ⟨.p (opNilCheck (some 103) (.tmp 102) 0 "law.go:65" #[{ on := 23, ground := Ground.data }, { on := 22, ground := Ground.guard }]), (some (22, 101, true))⟩,
      ⟨.pn (opFieldAddr (some 104) 44 (.tmp 103) 0 0 1 false fl44_0 (by decide) 0 "law.go:65" #[{ on := 24, ground := Ground.data }, { on := 22, ground := Ground.guard }]) opFieldAddr_nat, (some (22, 101, true))⟩,
      ⟨.qn (opLoadT (.one .any) (some 105) 22 (.tmp 104) (.slice 5) Try.underlying22 1 sz22 (by kernel_rfl) 22 "law.go:65" #[{ on := 25, ground := Ground.data }, { on := 22, ground := Ground.guard }]) opLoadT_nat, (some (22, 101, true))⟩,
      ⟨.p (opLen (some 106) (.tmp 105) 22 (.slice 5) Try.underlying22 3 "law.go:65" #[{ on := 26, ground := Ground.data }, { on := 22, ground := Ground.guard }]), (some (22, 101, true))⟩,
      ⟨.pn (opBin (some 107) .eql 3 (.tmp 106) (.const (Value.int IntKind.i64 0)) 3 4 "law.go:65" #[{ on := 27, ground := Ground.data }, { on := 22, ground := Ground.guard }]) opBin_nat, (some (22, 101, true))⟩,
      ⟨.p (opPick (some 108) (.tmp 101) (.tmp 107) (.const (Value.bool false)) 4 "law.go:65" #[{ on := 22, ground := Ground.data }, { on := 28, ground := Ground.data }, { on := 14, ground := Ground.guard }]), (some (14, 93, false))⟩,
      ⟨.p (opNe (some 109) 4 .bool Try.underlying4 (.tmp 95) (.tmp 108) (.inr rfl) 4 4 "law.go:65" #[{ on := 16, ground := Ground.data }, { on := 29, ground := Ground.data }, { on := 14, ground := Ground.guard }]), (some (14, 93, false))⟩,
      ⟨.p (opPick (some 110) (.tmp 93) (.const (Value.bool true)) (.tmp 109) 4 "law.go:65" #[{ on := 14, ground := Ground.data }, { on := 30, ground := Ground.data }]), none⟩
    ] mixed (by kernel_rfl)))
    (.cond (.tmp 110)
      (.seq (.live [4] (.region 27 [
        ⟨(opAssign (some 4) (.const (Value.bool false)) 4 "law.go:66" #[]).op, none⟩
      ] (by kernel_rfl)))
      (.live [4] .ret))
      .skip))))
  (.live [0, 1, 5, 6, 7, 8] (.region 12 [
    ⟨(opMove (some 33) (.tmp 8) 3 "law.go:46" #[]).op, none⟩,
    ⟨(opBin (some 34) .add 3 (.tmp 33) (.const (Value.int IntKind.i64 1)) 3 3 "law.go:46" #[{ on := 0, ground := Ground.data }]).op, none⟩,
    ⟨(opAssign (some 8) (.tmp 34) 3 "law.go:46" #[{ on := 1, ground := Ground.data }, { on := 0, ground := Ground.phase }, { on := 1, ground := Ground.phase }]).op, none⟩
  ] (by kernel_rfl)))))

/-- What follows a loop. -/
noncomputable def f8_r0 : Sim Try.prog :=
  (.seq (.live [4] (.region 28 [
    ⟨(opMove (some 111) (.tmp 5) 22 "law.go:69" #[]).op, none⟩,
    ⟨(opMove (some 112) (.tmp 0) 22 "law.go:69" #[]).op, none⟩,
    ⟨(opCallP r14 (some 113) [(.tmp 111), (.tmp 112)] #[22, 22] 4 "law.go:69" #[{ on := 0, ground := Ground.data }, { on := 1, ground := Ground.data }]).op, none⟩,
    ⟨(opAssign (some 4) (.tmp 113) 4 "law.go:69" #[{ on := 2, ground := Ground.data }, { on := 2, ground := Ground.chain }, { on := 0, ground := Ground.phase }, { on := 1, ground := Ground.phase }, { on := 2, ground := Ground.phase }]).op, none⟩
  ] (by kernel_rfl)))
  (.live [4] .ret))

noncomputable def f8_b : Sim Try.prog :=
  (.seq (.live [0, 1] (.region 0 [
    ⟨(opAssign (some 4) (.const (Value.bool false)) 4 "law.go:33" #[]).op, none⟩
  ] (by kernel_rfl)))
  (.seq (.seq (.live [0, 1, 10] (.region 1 [
    ⟨(opCallP p9 (some 9) [] #[] 4 "law.go:34" #[]).op, none⟩,
    ⟨(opNot (some 10) 4 (.tmp 9) 4 "law.go:34" #[{ on := 0, ground := Ground.data }]).op, none⟩
  ] (by kernel_rfl)))
  (.cond (.tmp 10)
    (.seq (.live [4] (.region 2 [
      ⟨(opAssign (some 4) (.const (Value.bool false)) 4 "law.go:35" #[]).op, none⟩
    ] (by kernel_rfl)))
    (.live [4] .ret))
    .skip))
  (.seq (.seq (.live [0, 1, 18] (.region 3 [
    ⟨(opMove (some 11) (.tmp 0) 22 "law.go:37" #[]).op, none⟩,
    ⟨(opLen (some 12) (.tmp 11) 22 (.slice 5) Try.underlying22 3 "law.go:37" #[{ on := 0, ground := Ground.data }]).op, none⟩,
    ⟨(opBin (some 13) .gtr 3 (.tmp 12) (.const (Value.int IntKind.i64 2000)) 3 4 "law.go:37" #[{ on := 1, ground := Ground.data }]).op, none⟩,
    ⟨(opMove (some 14) (.tmp 13) 4 "law.go:37" #[{ on := 2, ground := Ground.data }]).op, none⟩,
    ⟨(opMove (some 15) (.tmp 1) 37 "law.go:37" #[{ on := 3, ground := Ground.guard }]).op, (some (3, 14, false))⟩,
    ⟨(opLen (some 16) (.tmp 15) 37 (.slice 3) Try.underlying37 3 "law.go:37" #[{ on := 4, ground := Ground.data }, { on := 3, ground := Ground.guard }]).op, (some (3, 14, false))⟩,
    ⟨(opBin (some 17) .gtr 3 (.tmp 16) (.const (Value.int IntKind.i64 200)) 3 4 "law.go:37" #[{ on := 5, ground := Ground.data }, { on := 3, ground := Ground.guard }]).op, (some (3, 14, false))⟩,
    ⟨(opPick (some 18) (.tmp 14) (.const (Value.bool true)) (.tmp 17) 4 "law.go:37" #[{ on := 3, ground := Ground.data }, { on := 6, ground := Ground.data }]).op, none⟩
  ] (by kernel_rfl)))
  (.cond (.tmp 18)
    (.seq (.live [4] (.region 4 [
      ⟨(opAssign (some 4) (.const (Value.bool true)) 4 "law.go:38" #[]).op, none⟩
    ] (by kernel_rfl)))
    (.live [4] .ret))
    .skip))
  (.seq (.live [0, 1, 5] (.region 5 [
    ⟨(opMove (some 19) (.tmp 0) 22 "law.go:40" #[]).op, none⟩,
    ⟨(opCallP r25 (some 20) [(.tmp 19)] #[22] 22 "law.go:40" #[{ on := 0, ground := Ground.data }]).op, none⟩,
    ⟨(opAssign (some 5) (.tmp 20) 22 "law.go:40" #[{ on := 1, ground := Ground.data }, { on := 1, ground := Ground.chain }, { on := 0, ground := Ground.phase }, { on := 1, ground := Ground.phase }]).op, none⟩
  ] (by kernel_rfl)))
  (.seq (.live [0, 1, 5, 6] (.region 6 [
    ⟨(opMove (some 21) (.tmp 5) 22 "law.go:41" #[]).op, none⟩,
    ⟨opCall (f10.orc 0) (some 22) [(.tmp 21)] #[22] 24 "law.go:41" #[{ on := 0, ground := Ground.data }], none⟩,
    ⟨(opAssign (some 6) (.tmp 22) 24 "law.go:41" #[{ on := 1, ground := Ground.data }, { on := 1, ground := Ground.chain }, { on := 0, ground := Ground.phase }, { on := 1, ground := Ground.phase }]).op, none⟩
  ] (by kernel_rfl)))
  (.seq (.live [0, 1, 5, 6, 7] (.region 7 [
    ⟨(opMove (some 23) (.tmp 0) 22 "law.go:42" #[]).op, none⟩,
    ⟨(opCallP r25 (some 24) [(.tmp 23)] #[22] 22 "law.go:42" #[{ on := 0, ground := Ground.data }]).op, none⟩,
    ⟨(opBuild (some 25) 44 #[(.slice none 0 0), (.bool false)] [(0, 0, 1, (.tmp 24))] ze44 (by kernel_rfl) 44 "law.go:42" #[{ on := 1, ground := Ground.data }]).op, none⟩,
    ⟨(opBox (some 26) 44 (.tmp 25) 42 "law.go:42" #[{ on := 2, ground := Ground.data }]).op, none⟩,
    ⟨(opAssign (some 7) (.tmp 26) 42 "law.go:42" #[{ on := 3, ground := Ground.data }, { on := 1, ground := Ground.chain }, { on := 0, ground := Ground.phase }, { on := 1, ground := Ground.phase }, { on := 2, ground := Ground.phase }, { on := 3, ground := Ground.phase }]).op, none⟩
  ] (by kernel_rfl)))
  (.seq (.seq (.live [0, 1, 5, 6, 7, 28] (.region 8 [
    ⟨(opMove (some 27) (.tmp 6) 24 "law.go:43" #[]).op, none⟩,
    ⟨(opEq (some 28) 24 (.pointer 48) Try.underlying24 (.tmp 27) (.const (Value.pointer none)) (.inl rfl) 24 4 "law.go:43" #[{ on := 0, ground := Ground.data }]).op, none⟩
  ] (by kernel_rfl)))
  (.cond (.tmp 28)
    (.seq (.live [4] (.region 9 [
      ⟨(opAssign (some 4) (.const (Value.bool false)) 4 "law.go:44" #[]).op, none⟩
    ] (by kernel_rfl)))
    (.live [4] .ret))
    .skip))
  (.seq (.seq (.live [0, 1, 5, 6, 7, 8] (.region 10 [
    ⟨(opAssign (some 8) (.const (Value.int IntKind.i64 0)) 3 "law.go:46" #[]).op, none⟩
  ] (by kernel_rfl)))
  (.block 0 (.loop [0, 1, 5, 6, 7, 8] f8_l0)))
  f8_r0))))))))

noncomputable def f8 : Fun Try.prog where
  id := 8
  fn := Try.f8
  hf := Try.func8
  hname := by kernel_rfl
  body := f8_b
  hbody := by kernel_rfl
  res := [rTmp 4]
  hres := by kernel_rfl
  n := 114
  hn := by kernel_rfl

end Go.Proofs.Ytjdpfblmhahfkaa.V

/- What the functions' runs come to; the right sides were printed by a tool, Lean checks them. -/
set_option linter.unusedVariables false
set_option maxRecDepth 100000
namespace Go.Proofs.Ytjdpfblmhahfkaa.V
open Go Go.V Go.RowKit

theorem reads_run (F : Nat) (b a : List (List AV)) :
    (f8.run F [.sl 1 false b, .sl 1 false a] ⟨[], []⟩ : Ans) =
    branch (AV.bool (decide ((↑b.length : Int) > 2000))) (some (Fin.ret (AV.bool true), St.mk [] []))
      (branch (AV.bool (decide ((↑a.length : Int) > 200))) (some (Fin.ret (AV.bool true), St.mk [] []))
        (branch (AV.bool (fit (Br.sl false b)))
          (branch (AV.bool (fit (Br.sl (Br.sl false b).list.isEmpty (Br.sl false b).list)))
            (branch (AV.bool (fit (Br.sl false b)))
              (loopRun (f8_l0.run F) [0, 1, 5, 6, 7, 8]
                (Cont.block 0 (Cont.then (f8_r0.run F (f8.leaveK Fun.done)) (f8.leaveK Fun.done))) F
                (Env.mk 114
                  [(0, AV.sl 1 false b), (1, AV.sl 1 false a), (5, AV.sl 1 b.isEmpty b), (6, AV.ptr 0 0), (7, AV.ptr 1 0),
                    (8, AV.int IntKind.i64 0)])
                (St.mk [Ob.cells [AV.sl 1 b.isEmpty b, AV.bool false], Ob.cells [AV.sl 1 b.isEmpty b, AV.bool false]] []))
              none)
            none)
          none)) := by kernel_rfl

theorem reads_n1 (F : Nat) (a : List (List AV)) :
    (f8.run F [.nilsl, .sl 1 false a] ⟨[], []⟩ : Ans) =
    branch (AV.bool (decide ((↑a.length : Int) > 200))) (some (Fin.ret (AV.bool true), St.mk [] []))
      (loopRun (f8_l0.run F) [0, 1, 5, 6, 7, 8]
        (Cont.block 0 (Cont.then (f8_r0.run F (f8.leaveK Fun.done)) (f8.leaveK Fun.done))) F
        (Env.mk 114
          [(0, AV.nilsl), (1, AV.sl 1 false a), (5, AV.sl 1 true []), (6, AV.ptr 0 0), (7, AV.ptr 1 0),
            (8, AV.int IntKind.i64 0)])
        (St.mk [Ob.cells [AV.sl 1 true [], AV.bool false], Ob.cells [AV.sl 1 true [], AV.bool false]] [])) := by kernel_rfl

theorem reads_n2 (b : List (List AV)) :
    (f8.run 20 [.sl 1 false b, .nilsl] ⟨[], []⟩ : Ans) =
    branch (AV.bool (decide ((↑b.length : Int) > 2000))) (some (Fin.ret (AV.bool true), St.mk [] []))
      (branch (AV.bool (fit (Br.sl false b)))
        (branch (AV.bool (fit (Br.sl (Br.sl false b).list.isEmpty (Br.sl false b).list)))
          (branch (AV.bool (fit (Br.sl false b)))
            (branch (AV.bool (fit (Br.sl (Br.sl false b).list.isEmpty (Br.sl false b).list, Br.sl false b).fst && okR b))
              (some
                (Fin.ret (AV.bool (sameRows (iR b) (iR b))),
                  St.mk [Ob.cells [AV.sl 1 b.isEmpty b, AV.bool false], Ob.cells [AV.sl 1 b.isEmpty b, AV.bool false]] []))
              none)
            none)
          none)
        none) := by kernel_rfl

theorem reads_nn  :
    (f8.run 20 [.nilsl, .nilsl] ⟨[], []⟩ : Ans) =
    some
      (Fin.ret (AV.bool true),
        St.mk [Ob.cells [AV.sl 1 true [], AV.bool false], Ob.cells [AV.sl 1 true [], AV.bool false]] []) := by kernel_rfl

theorem rd_bad (F m : Nat) (K : Cont) (x y : AV) (i : Int) (f : Bool) (a l : List (List AV)) :
    (loopRun (f8_l0.run F) [0, 1, 5, 6, 7, 8] K m.succ (Env.mk 114 [(0, x), (1, .sl 1 false a), (5, y), (6, .ptr 0 0), (7, .ptr 1 0), (8, .int .i64 i)]) ⟨[.cells [.nilsl, .bool true], .cells [.sl 1 f l, .bool true]], []⟩ : Ans) =
    branch (AV.bool (decide (i < (↑a.length : Int))))
      (branch (AV.bool (inR a i))
        (branch (AV.bool ((LD.one (LT.int IntKind.i64)).is (V.rowAt a i)))
          (branch (AV.bool (bitsI BinOp.and IntKind.i64 (hdI (V.rowAt a i)) 3 == 0))
            (loopRun (f8_l0.run F) [0, 1, 5, 6, 7, 8] K m
              (Env.mk 114
                [(0, x), (1, AV.sl 1 false a), (5, y), (6, AV.ptr 0 0), (7, AV.ptr 1 0),
                  (8, AV.int IntKind.i64 (IntKind.i64.wrap (i + 1)))])
              (St.mk [Ob.cells [AV.nilsl, AV.bool true], Ob.cells [AV.sl 1 f l, AV.bool true]] []))
            (branch (AV.bool (bitsI BinOp.and IntKind.i64 (hdI (V.rowAt a i)) 3 == 1))
              (loopRun (f8_l0.run F) [0, 1, 5, 6, 7, 8] K m
                (Env.mk 114
                  [(0, x), (1, AV.sl 1 false a), (5, y), (6, AV.ptr 0 0), (7, AV.ptr 1 0),
                    (8, AV.int IntKind.i64 (IntKind.i64.wrap (i + 1)))])
                (St.mk [Ob.cells [AV.nilsl, AV.bool true], Ob.cells [AV.sl 1 f l, AV.bool true]] []))
              (branch (AV.bool (bitsI BinOp.and IntKind.i64 (hdI (V.rowAt a i)) 3 == 2))
                (branch (AV.bool (inR a i))
                  (branch (AV.bool ((LD.one (LT.int IntKind.i64)).is (V.rowAt a i)))
                    (branch (AV.bool (inR a i))
                      (branch (AV.bool ((LD.one (LT.int IntKind.i64)).is (V.rowAt a i)))
                        (loopRun (f8_l0.run F) [0, 1, 5, 6, 7, 8] K m
                          (Env.mk 114
                            [(0, x), (1, AV.sl 1 false a), (5, y), (6, AV.ptr 0 0), (7, AV.ptr 1 0),
                              (8, AV.int IntKind.i64 (IntKind.i64.wrap (i + 1)))])
                          (St.mk [Ob.cells [AV.nilsl, AV.bool true], Ob.cells [AV.sl 1 f l, AV.bool true]] []))
                        none)
                      none)
                    none)
                  none)
                (branch (AV.bool (bitsI BinOp.and IntKind.i64 (hdI (V.rowAt a i)) 3 == 3))
                  (branch (AV.bool (okR l))
                    (loopRun (f8_l0.run F) [0, 1, 5, 6, 7, 8] K m
                      (Env.mk 114
                        [(0, x), (1, AV.sl 1 false a), (5, y), (6, AV.ptr 0 0), (7, AV.ptr 1 0),
                          (8, AV.int IntKind.i64 (IntKind.i64.wrap (i + 1)))])
                      (St.mk [Ob.cells [AV.nilsl, AV.bool true], Ob.cells [AV.sl 1 f l, AV.bool true]] []))
                    none)
                  (loopRun (f8_l0.run F) [0, 1, 5, 6, 7, 8] K m
                    (Env.mk 114
                      [(0, x), (1, AV.sl 1 false a), (5, y), (6, AV.ptr 0 0), (7, AV.ptr 1 0),
                        (8, AV.int IntKind.i64 (IntKind.i64.wrap (i + 1)))])
                    (St.mk [Ob.cells [AV.nilsl, AV.bool true], Ob.cells [AV.sl 1 f l, AV.bool true]] []))))))
          none)
        none)
      (K (AX.exit 0) (Env.mk 114 [(0, x), (5, y)])
        (St.mk [Ob.cells [AV.nilsl, AV.bool true], Ob.cells [AV.sl 1 f l, AV.bool true]] [])) := by kernel_rfl

theorem rd_good (F m : Nat) (K : Cont) (x y : AV) (i : Int) (f : Bool) (a l : List (List AV)) :
    (loopRun (f8_l0.run F) [0, 1, 5, 6, 7, 8] K m.succ (Env.mk 114 [(0, x), (1, .sl 1 false a), (5, y), (6, .ptr 0 0), (7, .ptr 1 0), (8, .int .i64 i)]) ⟨[.cells [.sl 1 f l, .bool false], .cells [.sl 1 f l, .bool false]], []⟩ : Ans) =
    branch (AV.bool (decide (i < (↑a.length : Int))))
      (branch (AV.bool (inR a i))
        (branch (AV.bool ((LD.one (LT.int IntKind.i64)).is (V.rowAt a i)))
          (branch (AV.bool (bitsI BinOp.and IntKind.i64 (hdI (V.rowAt a i)) 3 == 0))
            (branch (AV.bool (fit (Br.sl f l)))
              (onSome (getN (nR l))
                (branch (AV.bool (fit (Br.sl f l)))
                  (onSome (getN (nR l))
                    (loopRun (f8_l0.run F) [0, 1, 5, 6, 7, 8] K m
                      (Env.mk 114
                        [(0, x), (1, AV.sl 1 false a), (5, y), (6, AV.ptr 0 0), (7, AV.ptr 1 0),
                          (8, AV.int IntKind.i64 (IntKind.i64.wrap (i + 1)))])
                      (St.mk [Ob.cells [AV.nilsl, AV.bool true], Ob.cells [AV.sl 1 f l, AV.bool true]] []))
                    fun (o : Int × Nat) =>
                    branch (AV.bool (0 != o.fst))
                      (K AX.ret (Env.mk 114 [(4, AV.bool false)])
                        (St.mk [Ob.cells [AV.nilsl, AV.bool true], Ob.cells [AV.sl 1 f (List.drop o.snd l), AV.bool false]]
                          []))
                      (K AX.ret (Env.mk 114 [(4, AV.bool false)])
                        (St.mk [Ob.cells [AV.nilsl, AV.bool true], Ob.cells [AV.sl 1 f (List.drop o.snd l), AV.bool false]]
                          [])))
                  none)
                fun (o : Int × Nat) =>
                branch (AV.bool (fit (Br.sl f l)))
                  (onSome (getN (nR l))
                    (branch (AV.bool (o.fst != 0))
                      (K AX.ret (Env.mk 114 [(4, AV.bool false)])
                        (St.mk
                          [Ob.cells [AV.sl 1 f (List.drop o.snd l), AV.bool false], Ob.cells [AV.sl 1 f l, AV.bool true]]
                          []))
                      (K AX.ret (Env.mk 114 [(4, AV.bool false)])
                        (St.mk
                          [Ob.cells [AV.sl 1 f (List.drop o.snd l), AV.bool false], Ob.cells [AV.sl 1 f l, AV.bool true]]
                          [])))
                    fun (o_1 : Int × Nat) =>
                    branch (AV.bool (o.fst != o_1.fst))
                      (K AX.ret (Env.mk 114 [(4, AV.bool false)])
                        (St.mk
                          [Ob.cells [AV.sl 1 f (List.drop o.snd l), AV.bool false],
                            Ob.cells [AV.sl 1 f (List.drop o_1.snd l), AV.bool false]]
                          []))
                      (branch (AV.bool ((Rd.sl f false (List.drop o.snd l)).len != (↑(List.drop o_1.snd l).length : Int)))
                        (K AX.ret (Env.mk 114 [(4, AV.bool false)])
                          (St.mk
                            [Ob.cells [AV.sl 1 f (List.drop o.snd l), AV.bool false],
                              Ob.cells [AV.sl 1 f (List.drop o_1.snd l), AV.bool false]]
                            []))
                        (branch
                          (AV.bool
                            !(true && (Rd.sl f false (List.drop o.snd l)).len == 0) ==
                                ((↑(List.drop o_1.snd l).length : Int) == 0))
                          (K AX.ret (Env.mk 114 [(4, AV.bool false)])
                            (St.mk
                              [Ob.cells [AV.sl 1 f (List.drop o.snd l), AV.bool false],
                                Ob.cells [AV.sl 1 f (List.drop o_1.snd l), AV.bool false]]
                              []))
                          (loopRun (f8_l0.run F) [0, 1, 5, 6, 7, 8] K m
                            (Env.mk 114
                              [(0, x), (1, AV.sl 1 false a), (5, y), (6, AV.ptr 0 0), (7, AV.ptr 1 0),
                                (8, AV.int IntKind.i64 (IntKind.i64.wrap (i + 1)))])
                            (St.mk
                              [Ob.cells [AV.sl 1 f (List.drop o.snd l), AV.bool false],
                                Ob.cells [AV.sl 1 f (List.drop o_1.snd l), AV.bool false]]
                              [])))))
                  none)
              none)
            (branch (AV.bool (bitsI BinOp.and IntKind.i64 (hdI (V.rowAt a i)) 3 == 1))
              (branch (AV.bool (fit (Br.sl f l)))
                (onSome (getS (nR l))
                  (branch (AV.bool (fit (Br.sl f l)))
                    (onSome (getS (nR l))
                      (loopRun (f8_l0.run F) [0, 1, 5, 6, 7, 8] K m
                        (Env.mk 114
                          [(0, x), (1, AV.sl 1 false a), (5, y), (6, AV.ptr 0 0), (7, AV.ptr 1 0),
                            (8, AV.int IntKind.i64 (IntKind.i64.wrap (i + 1)))])
                        (St.mk
                          [Ob.cells [AV.nilsl, AV.bool true],
                            Ob.cells [AV.sl 1 f (List.drop (resT (nR l)) l), AV.bool true]]
                          []))
                      fun (o : ByteArray × Nat) =>
                      branch (AV.bool ![] == o.fst.toList)
                        (K AX.ret (Env.mk 114 [(4, AV.bool false)])
                          (St.mk
                            [Ob.cells [AV.nilsl, AV.bool true], Ob.cells [AV.sl 1 f (List.drop o.snd l), AV.bool false]]
                            []))
                        (K AX.ret (Env.mk 114 [(4, AV.bool false)])
                          (St.mk
                            [Ob.cells [AV.nilsl, AV.bool true], Ob.cells [AV.sl 1 f (List.drop o.snd l), AV.bool false]]
                            [])))
                    none)
                  fun (o : ByteArray × Nat) =>
                  branch (AV.bool (fit (Br.sl f l)))
                    (onSome (getS (nR l))
                      (branch (AV.bool !o.fst.toList == [])
                        (K AX.ret (Env.mk 114 [(4, AV.bool false)])
                          (St.mk
                            [Ob.cells [AV.sl 1 f (List.drop o.snd l), AV.bool false],
                              Ob.cells [AV.sl 1 f (List.drop (resT (nR l)) l), AV.bool true]]
                            []))
                        (K AX.ret (Env.mk 114 [(4, AV.bool false)])
                          (St.mk
                            [Ob.cells [AV.sl 1 f (List.drop o.snd l), AV.bool false],
                              Ob.cells [AV.sl 1 f (List.drop (resT (nR l)) l), AV.bool true]]
                            [])))
                      fun (o_1 : ByteArray × Nat) =>
                      branch (AV.bool !o.fst.toList == o_1.fst.toList)
                        (K AX.ret (Env.mk 114 [(4, AV.bool false)])
                          (St.mk
                            [Ob.cells [AV.sl 1 f (List.drop o.snd l), AV.bool false],
                              Ob.cells [AV.sl 1 f (List.drop o_1.snd l), AV.bool false]]
                            []))
                        (branch (AV.bool ((Rd.sl f false (List.drop o.snd l)).len != (↑(List.drop o_1.snd l).length : Int)))
                          (K AX.ret (Env.mk 114 [(4, AV.bool false)])
                            (St.mk
                              [Ob.cells [AV.sl 1 f (List.drop o.snd l), AV.bool false],
                                Ob.cells [AV.sl 1 f (List.drop o_1.snd l), AV.bool false]]
                              []))
                          (branch
                            (AV.bool
                              !(true && (Rd.sl f false (List.drop o.snd l)).len == 0) ==
                                  ((↑(List.drop o_1.snd l).length : Int) == 0))
                            (K AX.ret (Env.mk 114 [(4, AV.bool false)])
                              (St.mk
                                [Ob.cells [AV.sl 1 f (List.drop o.snd l), AV.bool false],
                                  Ob.cells [AV.sl 1 f (List.drop o_1.snd l), AV.bool false]]
                                []))
                            (loopRun (f8_l0.run F) [0, 1, 5, 6, 7, 8] K m
                              (Env.mk 114
                                [(0, x), (1, AV.sl 1 false a), (5, y), (6, AV.ptr 0 0), (7, AV.ptr 1 0),
                                  (8, AV.int IntKind.i64 (IntKind.i64.wrap (i + 1)))])
                              (St.mk
                                [Ob.cells [AV.sl 1 f (List.drop o.snd l), AV.bool false],
                                  Ob.cells [AV.sl 1 f (List.drop o_1.snd l), AV.bool false]]
                                [])))))
                    none)
                none)
              (branch (AV.bool (bitsI BinOp.and IntKind.i64 (hdI (V.rowAt a i)) 3 == 2))
                (branch (AV.bool (inR a i))
                  (branch (AV.bool ((LD.one (LT.int IntKind.i64)).is (V.rowAt a i)))
                    (branch (AV.bool (fit (Br.sl f l)))
                      (onSome (getC (IntKind.i64.wrap ((hdI (V.rowAt a i)).tdiv 4)) (nR l))
                        (branch (AV.bool (inR a i))
                          (branch (AV.bool ((LD.one (LT.int IntKind.i64)).is (V.rowAt a i)))
                            (branch (AV.bool (fit (Br.sl f l)))
                              (onSome (getC (IntKind.i64.wrap ((hdI (V.rowAt a i)).tdiv 4)) (nR l))
                                (loopRun (f8_l0.run F) [0, 1, 5, 6, 7, 8] K m
                                  (Env.mk 114
                                    [(0, x), (1, AV.sl 1 false a), (5, y), (6, AV.ptr 0 0), (7, AV.ptr 1 0),
                                      (8, AV.int IntKind.i64 (IntKind.i64.wrap (i + 1)))])
                                  (St.mk
                                    [Ob.cells [AV.nilsl, AV.bool true],
                                      Ob.cells [AV.sl 1 f (List.drop (resT (nR l)) l), AV.bool true]]
                                    []))
                                fun (o : Int × Nat) =>
                                branch (AV.bool (0 != o.fst))
                                  (K AX.ret (Env.mk 114 [(4, AV.bool false)])
                                    (St.mk
                                      [Ob.cells [AV.nilsl, AV.bool true],
                                        Ob.cells [AV.sl 1 f (List.drop o.snd l), AV.bool false]]
                                      []))
                                  (K AX.ret (Env.mk 114 [(4, AV.bool false)])
                                    (St.mk
                                      [Ob.cells [AV.nilsl, AV.bool true],
                                        Ob.cells [AV.sl 1 f (List.drop o.snd l), AV.bool false]]
                                      [])))
                              none)
                            none)
                          none)
                        fun (o : Int × Nat) =>
                        branch (AV.bool (inR a i))
                          (branch (AV.bool ((LD.one (LT.int IntKind.i64)).is (V.rowAt a i)))
                            (branch (AV.bool (fit (Br.sl f l)))
                              (onSome (getC (IntKind.i64.wrap ((hdI (V.rowAt a i)).tdiv 4)) (nR l))
                                (branch (AV.bool (o.fst != 0))
                                  (K AX.ret (Env.mk 114 [(4, AV.bool false)])
                                    (St.mk
                                      [Ob.cells [AV.sl 1 f (List.drop o.snd l), AV.bool false],
                                        Ob.cells [AV.sl 1 f (List.drop (resT (nR l)) l), AV.bool true]]
                                      []))
                                  (K AX.ret (Env.mk 114 [(4, AV.bool false)])
                                    (St.mk
                                      [Ob.cells [AV.sl 1 f (List.drop o.snd l), AV.bool false],
                                        Ob.cells [AV.sl 1 f (List.drop (resT (nR l)) l), AV.bool true]]
                                      [])))
                                fun (o_1 : Int × Nat) =>
                                branch (AV.bool (o.fst != o_1.fst))
                                  (K AX.ret (Env.mk 114 [(4, AV.bool false)])
                                    (St.mk
                                      [Ob.cells [AV.sl 1 f (List.drop o.snd l), AV.bool false],
                                        Ob.cells [AV.sl 1 f (List.drop o_1.snd l), AV.bool false]]
                                      []))
                                  (branch
                                    (AV.bool
                                      ((Rd.sl f false (List.drop o.snd l)).len != (↑(List.drop o_1.snd l).length : Int)))
                                    (K AX.ret (Env.mk 114 [(4, AV.bool false)])
                                      (St.mk
                                        [Ob.cells [AV.sl 1 f (List.drop o.snd l), AV.bool false],
                                          Ob.cells [AV.sl 1 f (List.drop o_1.snd l), AV.bool false]]
                                        []))
                                    (branch
                                      (AV.bool
                                        !(true && (Rd.sl f false (List.drop o.snd l)).len == 0) ==
                                            ((↑(List.drop o_1.snd l).length : Int) == 0))
                                      (K AX.ret (Env.mk 114 [(4, AV.bool false)])
                                        (St.mk
                                          [Ob.cells [AV.sl 1 f (List.drop o.snd l), AV.bool false],
                                            Ob.cells [AV.sl 1 f (List.drop o_1.snd l), AV.bool false]]
                                          []))
                                      (loopRun (f8_l0.run F) [0, 1, 5, 6, 7, 8] K m
                                        (Env.mk 114
                                          [(0, x), (1, AV.sl 1 false a), (5, y), (6, AV.ptr 0 0), (7, AV.ptr 1 0),
                                            (8, AV.int IntKind.i64 (IntKind.i64.wrap (i + 1)))])
                                        (St.mk
                                          [Ob.cells [AV.sl 1 f (List.drop o.snd l), AV.bool false],
                                            Ob.cells [AV.sl 1 f (List.drop o_1.snd l), AV.bool false]]
                                          [])))))
                              none)
                            none)
                          none)
                      none)
                    none)
                  none)
                (branch (AV.bool (bitsI BinOp.and IntKind.i64 (hdI (V.rowAt a i)) 3 == 3))
                  (branch (AV.bool (fitL (Br.sl f l)))
                    (onSome (getT (nR l))
                      (branch (AV.bool (fitL (Br.sl f l)))
                        (onSome (getT (nR l))
                          (loopRun (f8_l0.run F) [0, 1, 5, 6, 7, 8] K m
                            (Env.mk 114
                              [(0, x), (1, AV.sl 1 false a), (5, y), (6, AV.ptr 0 0), (7, AV.ptr 1 0),
                                (8, AV.int IntKind.i64 (IntKind.i64.wrap (i + 1)))])
                            (St.mk
                              [Ob.cells [AV.nilsl, AV.bool true],
                                Ob.cells [AV.sl 1 f (List.drop (resL (nR l)) l), AV.bool true]]
                              []))
                          fun (o : List ByteArray × Nat) =>
                          branch (AV.bool (true && okT (Br.nil, Br.sl o.fst.isEmpty (tR o.fst)).snd.list))
                            (branch (AV.bool !sameT [] (sR (Br.nil, Br.sl o.fst.isEmpty (tR o.fst)).snd.list))
                              (K AX.ret (Env.mk 114 [(4, AV.bool false)])
                                (St.mk
                                  [Ob.cells [AV.nilsl, AV.bool true],
                                    Ob.cells [AV.sl 1 f (List.drop o.snd l), AV.bool false]]
                                  []))
                              (K AX.ret (Env.mk 114 [(4, AV.bool false)])
                                (St.mk
                                  [Ob.cells [AV.nilsl, AV.bool true],
                                    Ob.cells [AV.sl 1 f (List.drop o.snd l), AV.bool false]]
                                  [])))
                            none)
                        none)
                      fun (o : List ByteArray × Nat) =>
                      onCons o.fst
                        (branch (AV.bool (fitL (Br.sl f l)))
                          (onSome (getT (nR l))
                            (K AX.ret (Env.mk 114 [(4, AV.bool false)])
                              (St.mk
                                [Ob.cells [AV.sl 1 f (List.drop o.snd l), AV.bool false],
                                  Ob.cells [AV.sl 1 f (List.drop (resL (nR l)) l), AV.bool true]]
                                []))
                            fun (o_1 : List ByteArray × Nat) =>
                            branch (AV.bool (true && okT (Br.nil, Br.sl o_1.fst.isEmpty (tR o_1.fst)).snd.list))
                              (branch (AV.bool !sameT [] (sR (Br.nil, Br.sl o_1.fst.isEmpty (tR o_1.fst)).snd.list))
                                (K AX.ret (Env.mk 114 [(4, AV.bool false)])
                                  (St.mk
                                    [Ob.cells [AV.sl 1 f (List.drop o.snd l), AV.bool false],
                                      Ob.cells [AV.sl 1 f (List.drop o_1.snd l), AV.bool false]]
                                    []))
                                (branch
                                  (AV.bool
                                    ((Rd.sl f false (List.drop o.snd l)).len != (↑(List.drop o_1.snd l).length : Int)))
                                  (K AX.ret (Env.mk 114 [(4, AV.bool false)])
                                    (St.mk
                                      [Ob.cells [AV.sl 1 f (List.drop o.snd l), AV.bool false],
                                        Ob.cells [AV.sl 1 f (List.drop o_1.snd l), AV.bool false]]
                                      []))
                                  (branch
                                    (AV.bool
                                      !(true && (Rd.sl f false (List.drop o.snd l)).len == 0) ==
                                          ((↑(List.drop o_1.snd l).length : Int) == 0))
                                    (K AX.ret (Env.mk 114 [(4, AV.bool false)])
                                      (St.mk
                                        [Ob.cells [AV.sl 1 f (List.drop o.snd l), AV.bool false],
                                          Ob.cells [AV.sl 1 f (List.drop o_1.snd l), AV.bool false]]
                                        []))
                                    (loopRun (f8_l0.run F) [0, 1, 5, 6, 7, 8] K m
                                      (Env.mk 114
                                        [(0, x), (1, AV.sl 1 false a), (5, y), (6, AV.ptr 0 0), (7, AV.ptr 1 0),
                                          (8, AV.int IntKind.i64 (IntKind.i64.wrap (i + 1)))])
                                      (St.mk
                                        [Ob.cells [AV.sl 1 f (List.drop o.snd l), AV.bool false],
                                          Ob.cells [AV.sl 1 f (List.drop o_1.snd l), AV.bool false]]
                                        [])))))
                              none)
                          none)
                        fun (x_1 : ByteArray) (l_1 : List ByteArray) =>
                        branch (AV.bool (fitL (Br.sl f l)))
                          (onSome (getT (nR l))
                            (branch (AV.bool (fitT (Br.sl false (tR o.fst), Br.nil).fst && true))
                              (branch (AV.bool !sameT (sR (Br.sl false (tR o.fst), Br.nil).fst.list) [])
                                (K AX.ret (Env.mk 114 [(4, AV.bool false)])
                                  (St.mk
                                    [Ob.cells [AV.sl 1 f (List.drop o.snd l), AV.bool false],
                                      Ob.cells [AV.sl 1 f (List.drop (resL (nR l)) l), AV.bool true]]
                                    []))
                                (K AX.ret (Env.mk 114 [(4, AV.bool false)])
                                  (St.mk
                                    [Ob.cells [AV.sl 1 f (List.drop o.snd l), AV.bool false],
                                      Ob.cells [AV.sl 1 f (List.drop (resL (nR l)) l), AV.bool true]]
                                    [])))
                              none)
                            fun (o_1 : List ByteArray × Nat) =>
                            branch
                              (AV.bool
                                (fitT (Br.sl false (tR o.fst), Br.sl o_1.fst.isEmpty (tR o_1.fst)).fst &&
                                  okT (Br.sl false (tR o.fst), Br.sl o_1.fst.isEmpty (tR o_1.fst)).snd.list))
                              (branch
                                (AV.bool
                                  !sameT (sR (Br.sl false (tR o.fst), Br.sl o_1.fst.isEmpty (tR o_1.fst)).fst.list)
                                      (sR (Br.sl false (tR o.fst), Br.sl o_1.fst.isEmpty (tR o_1.fst)).snd.list))
                                (K AX.ret (Env.mk 114 [(4, AV.bool false)])
                                  (St.mk
                                    [Ob.cells [AV.sl 1 f (List.drop o.snd l), AV.bool false],
                                      Ob.cells [AV.sl 1 f (List.drop o_1.snd l), AV.bool false]]
                                    []))
                                (branch
                                  (AV.bool
                                    ((Rd.sl f false (List.drop o.snd l)).len != (↑(List.drop o_1.snd l).length : Int)))
                                  (K AX.ret (Env.mk 114 [(4, AV.bool false)])
                                    (St.mk
                                      [Ob.cells [AV.sl 1 f (List.drop o.snd l), AV.bool false],
                                        Ob.cells [AV.sl 1 f (List.drop o_1.snd l), AV.bool false]]
                                      []))
                                  (branch
                                    (AV.bool
                                      !(true && (Rd.sl f false (List.drop o.snd l)).len == 0) ==
                                          ((↑(List.drop o_1.snd l).length : Int) == 0))
                                    (K AX.ret (Env.mk 114 [(4, AV.bool false)])
                                      (St.mk
                                        [Ob.cells [AV.sl 1 f (List.drop o.snd l), AV.bool false],
                                          Ob.cells [AV.sl 1 f (List.drop o_1.snd l), AV.bool false]]
                                        []))
                                    (loopRun (f8_l0.run F) [0, 1, 5, 6, 7, 8] K m
                                      (Env.mk 114
                                        [(0, x), (1, AV.sl 1 false a), (5, y), (6, AV.ptr 0 0), (7, AV.ptr 1 0),
                                          (8, AV.int IntKind.i64 (IntKind.i64.wrap (i + 1)))])
                                      (St.mk
                                        [Ob.cells [AV.sl 1 f (List.drop o.snd l), AV.bool false],
                                          Ob.cells [AV.sl 1 f (List.drop o_1.snd l), AV.bool false]]
                                        [])))))
                              none)
                          none)
                    none)
                  (branch (AV.bool ((Rd.sl f false l).len != (↑l.length : Int)))
                    (K AX.ret (Env.mk 114 [(4, AV.bool false)])
                      (St.mk [Ob.cells [AV.sl 1 f l, AV.bool false], Ob.cells [AV.sl 1 f l, AV.bool false]] []))
                    (branch (AV.bool !(true && (Rd.sl f false l).len == 0) == ((↑l.length : Int) == 0))
                      (K AX.ret (Env.mk 114 [(4, AV.bool false)])
                        (St.mk [Ob.cells [AV.sl 1 f l, AV.bool false], Ob.cells [AV.sl 1 f l, AV.bool false]] []))
                      (loopRun (f8_l0.run F) [0, 1, 5, 6, 7, 8] K m
                        (Env.mk 114
                          [(0, x), (1, AV.sl 1 false a), (5, y), (6, AV.ptr 0 0), (7, AV.ptr 1 0),
                            (8, AV.int IntKind.i64 (IntKind.i64.wrap (i + 1)))])
                        (St.mk [Ob.cells [AV.sl 1 f l, AV.bool false], Ob.cells [AV.sl 1 f l, AV.bool false]] []))))))))
          none)
        none)
      (K (AX.exit 0) (Env.mk 114 [(0, x), (5, y)])
        (St.mk [Ob.cells [AV.sl 1 f l, AV.bool false], Ob.cells [AV.sl 1 f l, AV.bool false]] [])) := by kernel_rfl

theorem rd_out (F : Nat) (b : List (List AV)) (g : Bool) (st : St) :
    ((Cont.block 0 (Cont.then (f8_r0.run F (f8.leaveK Fun.done)) (f8.leaveK Fun.done))) (.exit 0) (Env.mk 114 [(0, .sl 1 false b), (5, .sl 1 g b)]) st : Ans) =
    branch (AV.bool (fit (Br.sl g b, Br.sl false b).fst && okR b)) (some (Fin.ret (AV.bool (sameRows (iR b) (iR b))), st))
      none := by kernel_rfl

theorem rd_outn (F : Nat) (st : St) :
    ((Cont.block 0 (Cont.then (f8_r0.run F (f8.leaveK Fun.done)) (f8.leaveK Fun.done))) (.exit 0) (Env.mk 114 [(0, .nilsl), (5, .sl 1 true [])]) st : Ans) =
    some (Fin.ret (AV.bool true), st) := by kernel_rfl

end Go.Proofs.Ytjdpfblmhahfkaa.V

/- Bits: BitsReads is true. -/
set_option linter.unusedVariables false
namespace Go.Proofs.Ytjdpfblmhahfkaa.V
open Go Go.V Go.RowKit

theorem getS_size {l : List Nat} {s : ByteArray} {k : Nat} (hb : ∀ b ∈ l, b < 256) (h : getS l = some (s, k)) : s.size ≤ l.length := by
  unfold getS at h
  split at h
  · cases h
  · rename_i o ho
    split at h
    · cases h
    · simp only [Option.some.injEq, Prod.mk.injEq] at h
      rw [← own_length, ← h.1, own_txt (take_lt (drop_lt hb _) _)]
      simp; omega
theorem readT_size : ∀ (n : Nat) (l : List Nat) (ss : List ByteArray) (m : Nat), (∀ b ∈ l, b < 256) → readT n l = some (ss, m) → ∀ s ∈ ss, s.size ≤ l.length
  | 0, l, ss, m, hb, h, s, hs => by
    simp only [readT, Option.some.injEq, Prod.mk.injEq] at h
    rw [← h.1] at hs; simp at hs
  | n + 1, l, ss, m, hb, h, s, hs => by
    rw [readT] at h
    split at h
    · cases h
    · rename_i o ho
      split at h
      · cases h
      · rename_i p hp
        simp only [Option.some.injEq, Prod.mk.injEq] at h
        rw [← h.1] at hs
        rcases List.mem_cons.mp hs with rfl | hs
        · exact getS_size hb ho
        · have := readT_size n _ p.1 p.2 (drop_lt hb _) hp s hs
          simp at this; omega
theorem getT_size {l : List Nat} {ss : List ByteArray} {m : Nat} (hb : ∀ b ∈ l, b < 256) (h : getT l = some (ss, m)) : ss.length ≤ l.length ∧ ∀ s ∈ ss, s.size ≤ l.length := by
  unfold getT at h
  split at h
  · cases h
  · rename_i o ho
    split at h
    · cases h
    · split at h
      · cases h
      · rename_i h1 p hp
        simp only [Option.some.injEq, Prod.mk.injEq] at h
        obtain ⟨rfl, _⟩ := h
        refine ⟨?_, fun s hs => ?_⟩
        · rw [readT_len _ _ p.1 p.2 hp]; omega
        · have := readT_size _ _ p.1 p.2 (drop_lt hb _) hp s hs
          simp at this; omega
theorem okT_tR {ss : List ByteArray} (h : ∀ s ∈ ss, s.size ≤ 2000) : okT (tR ss) = true := by
  simp only [okT, tR, List.all_map, List.all_eq_true]
  intro s hs
  have := h s hs
  exact decide_eq_true (by omega)

/-- Both readers at the same place, or both bad. -/
inductive Both (f : Bool) : St → Prop
  | good (l : List (List AV)) (h : okR l = true) (hl : l.length ≤ 2000) : Both f ⟨[.cells [.sl 1 f l, .bool false], .cells [.sl 1 f l, .bool false]], []⟩
  | bad (l : List (List AV)) (h : okR l = true) : Both f ⟨[.cells [.nilsl, .bool true], .cells [.sl 1 f l, .bool true]], []⟩
def rdEnv (x y : AV) (a : List (List AV)) (i : Nat) : Env := Env.mk 114 [(0, x), (1, .sl 1 false a), (5, y), (6, .ptr 0 0), (7, .ptr 1 0), (8, .int .i64 i)]
theorem Ins.at' {a : List (List AV)} (h : Ins a) {i : Nat} (hi : i < a.length) : (LD.one (LT.int IntKind.i64)).is (V.rowAt a i) = true := by
  obtain ⟨n, hs, hn⟩ := h a[i] (List.getElem_mem hi)
  rw [rowAt_nat hi, hs]; rfl
theorem rd_step (F m : Nat) (K : Cont) (x y : AV) (a : List (List AV)) (ha : Ins a) (hal : a.length ≤ 200) (i : Nat) (hi : i < a.length) (f : Bool) (st : St) (h : Both f st) :
    ∃ st', Both f st' ∧ loopRun (f8_l0.run F) [0, 1, 5, 6, 7, 8] K m.succ (rdEnv x y a i) st = loopRun (f8_l0.run F) [0, 1, 5, 6, 7, 8] K m (rdEnv x y a (i + 1)) st' := by
  have hw : IntKind.i64.wrap ((i : Int) + 1) = ((i + 1 : Nat) : Int) := by rw [wrapS (by omega) (by omega)]; omega
  have hin := inR_nat hi
  have hat := ha.at' hi
  cases h with
  | bad l hl =>
    refine ⟨_, .bad l hl, ?_⟩
    rw [rdEnv, rd_bad, branch_of (decide_eq_true (by omega)), branch_of hin, branch_of hat, branch_of hin, branch_of hat, branch_of hin, branch_of hat, branch_of hl, hw]
    simp only [branch_ite, ite_self]
    rfl
  | good l hl hll =>
    have hfit : ∀ f, fit (.sl f l) = true := fun f => fit_of hl (by omega)
    have hfitL : fitL (.sl f l) = true := fitL_of hl (by omega)
    have e1 : ∀ k : Nat, ((Rd.sl f false (List.drop k l)).len != ((List.drop k l).length : Int)) = false := fun k => by simp [Rd.len]
    have e2 : ∀ k : Nat, (!(true && (Rd.sl f false (List.drop k l)).len == 0) == (((List.drop k l).length : Int) == 0)) = false := fun k => by simp [Rd.len]
    have hdl : ∀ k, (l.drop k).length ≤ 2000 := fun k => by simp; omega
    rw [rdEnv, rd_good, branch_of (decide_eq_true (by omega)), branch_of hin, branch_of hat, hw]
    cases h0 : (bitsI BinOp.and IntKind.i64 (hdI (V.rowAt a i)) 3 == 0) with
    | true =>
      rw [branch_of rfl, branch_of (hfit f)]
      cases hg : getN (nR l) with
      | none => exact ⟨_, .bad l hl, by simp only [onSome]; rw [branch_of (hfit f)]; rfl⟩
      | some o => exact ⟨_, .good (l.drop o.2) (okR_drop hl _) (hdl _), by simp only [onSome]; rw [branch_of (hfit f), branch_not (by simp), branch_not (e1 _), branch_not (e2 _)]; rfl⟩
    | false =>
      rw [branch_not rfl]
      cases h1 : (bitsI BinOp.and IntKind.i64 (hdI (V.rowAt a i)) 3 == 1) with
      | true =>
        rw [branch_of rfl, branch_of (hfit f)]
        cases hg : getS (nR l) with
        | none => exact ⟨_, .bad (l.drop (resT (nR l))) (okR_drop hl _), by simp only [onSome]; rw [branch_of (hfit f)]; rfl⟩
        | some o => exact ⟨_, .good (l.drop o.2) (okR_drop hl _) (hdl _), by simp only [onSome]; rw [branch_of (hfit f), branch_not (by simp), branch_not (e1 _), branch_not (e2 _)]; rfl⟩
      | false =>
        rw [branch_not rfl]
        cases h2 : (bitsI BinOp.and IntKind.i64 (hdI (V.rowAt a i)) 3 == 2) with
        | true =>
          rw [branch_of rfl, branch_of hin, branch_of hat, branch_of (hfit f)]
          cases hg : getC (IntKind.i64.wrap ((hdI (V.rowAt a i)).tdiv 4)) (nR l) with
          | none => exact ⟨_, .bad (l.drop (resT (nR l))) (okR_drop hl _), by simp only [onSome]; rw [branch_of hin, branch_of hat, branch_of (hfit f)]; rfl⟩
          | some o => exact ⟨_, .good (l.drop o.2) (okR_drop hl _) (hdl _), by simp only [onSome]; rw [branch_of hin, branch_of hat, branch_of (hfit f), branch_not (by simp), branch_not (e1 _), branch_not (e2 _)]; rfl⟩
        | false =>
          rw [branch_not rfl]
          cases h3 : (bitsI BinOp.and IntKind.i64 (hdI (V.rowAt a i)) 3 == 3) with
          | true =>
            rw [branch_of rfl, branch_of hfitL]
            cases hg : getT (nR l) with
            | none => exact ⟨_, .bad (l.drop (resL (nR l))) (okR_drop hl _), by simp only [onSome]; rw [branch_of hfitL]; rfl⟩
            | some o =>
              obtain ⟨ss, k⟩ := o
              obtain ⟨q1, q2⟩ := getT_size (fun b hb => okR_lt hl hb) hg
              rw [nR_length] at q1 q2
              have hok : okT (tR ss) = true := okT_tR fun s hs => by have := q2 s hs; omega
              have hz := same_refl ss
              refine ⟨_, .good (l.drop k) (okR_drop hl _) (hdl _), ?_⟩
              simp only [onSome]
              cases ss with
              | nil =>
                simp only [onCons]
                rw [branch_of hfitL, branch_of (by rw [Bool.true_and]; exact hok), branch_not (by simp only [Br.list, sR_tR, hz]; rfl), branch_not (e1 _), branch_not (e2 _)]; rfl
              | cons s ss =>
                have hf1 : fitT (Br.sl false (tR (s :: ss))) = true := by
                  simp only [fitT, Br.list, hok, Bool.true_and]; exact decide_eq_true (by simp [tR] at q1 ⊢; omega)
                simp only [onCons_cons]
                rw [branch_of hfitL, branch_of (by simp only [Br.list]; rw [hf1, hok]; rfl), branch_not (by simp only [Br.list, sR_tR, hz]; rfl), branch_not (e1 _), branch_not (e2 _)]; rfl
          | false =>
            refine ⟨_, .good l hl hll, ?_⟩
            rw [branch_not rfl, branch_not (by simp [Rd.len]), branch_not (by simp [Rd.len])]; rfl

theorem rd_loop (F : Nat) (K : Cont) (x y : AV) (a : List (List AV)) (ha : Ins a) (hal : a.length ≤ 200) (f : Bool) : ∀ (k i m : Nat) (st : St), i + k = a.length → k < m → Both f st →
    ∃ st', loopRun (f8_l0.run F) [0, 1, 5, 6, 7, 8] K m (rdEnv x y a i) st = K (.exit 0) (Env.mk 114 [(0, x), (5, y)]) st'
  | k, i, 0, st, hi, hk, h => by omega
  | 0, i, m + 1, st, hi, hk, h => by
    cases h with
    | bad l hl => exact ⟨_, by rw [show m + 1 = m.succ from rfl, rdEnv, rd_bad, branch_not (decide_eq_false (by omega))]⟩
    | good l hl hll => exact ⟨_, by rw [show m + 1 = m.succ from rfl, rdEnv, rd_good, branch_not (decide_eq_false (by omega))]⟩
  | k + 1, i, m + 1, st, hi, hk, h => by
    obtain ⟨st', h1, h2⟩ := rd_step F m K x y a ha hal i (by omega) f st h
    rw [show m + 1 = m.succ from rfl, h2]
    exact rd_loop F K x y a ha hal f k (i + 1) m st' (by omega) (by omega) h1
theorem reads_law (as0 as1 : List AV) (sh0 : Ty.Shape (.sl (.int .u8) 1) as0) (sh1 : Ty.Shape (.sl (.int .i64) 8) as1) :
    ∃ F st, f8.run F [Ty.AV' (.sl (.int .u8) 1) as0, Ty.AV' (.sl (.int .i64) 8) as1] ⟨[], []⟩ = some (.ret (.bool true), st) := by
  rcases bytes_shape sh0 with rfl | ⟨b, rfl, hb, hbl⟩
  · rcases ints_shape sh1 with rfl | ⟨a, rfl, ha⟩
    · exact ⟨20, _, reads_nn⟩
    · refine ⟨a.length + 1, ?_⟩
      show ∃ st, f8.run (a.length + 1) [.nilsl, .sl 1 false a] ⟨[], []⟩ = _
      rw [reads_n1]
      by_cases h7 : 200 < a.length
      · rw [branch_of (decide_eq_true (by omega))]; exact ⟨_, rfl⟩
      rw [branch_not (decide_eq_false (by omega))]
      obtain ⟨st', h⟩ := rd_loop (a.length + 1) (Cont.block 0 (Cont.then (f8_r0.run (a.length + 1) (f8.leaveK Fun.done)) (f8.leaveK Fun.done))) .nilsl (.sl 1 true []) a ha (by omega) true a.length 0 (a.length + 1) _ (by omega) (by omega) (.good [] rfl (by simp))
      rw [rdEnv] at h
      rw [show (0 : Int) = ((0 : Nat) : Int) from rfl, h, rd_outn]
      exact ⟨_, rfl⟩
  · have hp : ∀ g, b.length ≤ 2000 → (fit (Br.sl g b) && okR b) = true := fun g h => by rw [fit_of hb (by omega), hb]; rfl
    rcases ints_shape sh1 with rfl | ⟨a, rfl, ha⟩
    · refine ⟨20, ?_⟩
      show ∃ st, f8.run 20 [.sl 1 false b, .nilsl] ⟨[], []⟩ = _
      rw [reads_n2]
      by_cases h6 : 2000 < b.length
      · rw [branch_of (decide_eq_true (by omega))]; exact ⟨_, rfl⟩
      have hf : ∀ g, fit (Br.sl g b) = true := fun g => fit_of hb (by omega)
      simp only [Br.list]
      rw [branch_not (decide_eq_false (by omega)), branch_of (hf _), branch_of (hf _), branch_of (hf _), branch_of (hp _ (by omega)), sameRows_iff.mpr rfl]
      exact ⟨_, rfl⟩
    · refine ⟨a.length + 1, ?_⟩
      show ∃ st, f8.run (a.length + 1) [.sl 1 false b, .sl 1 false a] ⟨[], []⟩ = _
      rw [reads_run]
      by_cases h6 : 2000 < b.length
      · rw [branch_of (decide_eq_true (by omega))]; exact ⟨_, rfl⟩
      have hf : ∀ g, fit (Br.sl g b) = true := fun g => fit_of hb (by omega)
      rw [branch_not (decide_eq_false (by omega))]
      by_cases h7 : 200 < a.length
      · rw [branch_of (decide_eq_true (by omega))]; exact ⟨_, rfl⟩
      simp only [Br.list]
      rw [branch_not (decide_eq_false (by omega)), branch_of (hf _), branch_of (hf _), branch_of (hf _)]
      obtain ⟨st', h⟩ := rd_loop (a.length + 1) (Cont.block 0 (Cont.then (f8_r0.run (a.length + 1) (f8.leaveK Fun.done)) (f8.leaveK Fun.done))) (.sl 1 false b) (.sl 1 b.isEmpty b) a ha (by omega) b.isEmpty a.length 0 (a.length + 1) _ (by omega) (by omega) (.good b hb (by omega))
      rw [rdEnv] at h
      rw [show (0 : Int) = ((0 : Nat) : Int) from rfl, h, rd_out, branch_of (hp _ (by omega)), sameRows_iff.mpr rfl]
      exact ⟨_, rfl⟩
end Go.Proofs.Ytjdpfblmhahfkaa.V
