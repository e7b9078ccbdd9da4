/- Merged out of 12 texts: what the claim's code comes to, and why. -/
import Derived.Test.YtjdpfblmhahfkaaX3
/- Bits: lists of texts, read again, in plain words. -/
set_option linter.unusedVariables false
namespace Go.Proofs.Ytjdpfblmhahfkaa.V
open Go Go.V Go.RowKit

/-- Texts, one behind the other, and how many bytes they have. -/
def readT : Nat → List Nat → Option (List ByteArray × Nat)
  | 0, _ => some ([], 0)
  | n + 1, l => match getS l with
    | none => none
    | some o => match readT n (l.drop o.2) with
      | none => none
      | some p => some (o.1 :: p.1, o.2 + p.2)
/-- A list of texts. -/
def getT (l : List Nat) : Option (List ByteArray × Nat) :=
  match getN l with
  | none => none
  | some o => if o.1 < 0 ∨ ((l.length - o.2 : Nat) : Int) < o.1 then none else
    match readT o.1.toNat (l.drop o.2) with
    | none => none
    | some p => some (p.1, o.2 + p.2)
theorem readT_enc : ∀ (ss : List ByteArray) (r : List Nat), (∀ s ∈ ss, s.size < 140737488355328) → readT ss.length (catT ss ++ r) = some (ss, (catT ss).length)
  | [], r, _ => rfl
  | s :: ss, r, h => by
    simp only [List.length_cons, readT, catT, List.append_assoc]
    rw [getS_enc (h s (by simp))]
    simp only [List.drop_left, readT_enc ss r fun s hs => h s (by simp [hs]), List.length_append]
theorem catT_count : ∀ ss : List ByteArray, ss.length ≤ (catT ss).length
  | [] => by simp
  | s :: ss => by
    have h1 := catT_count ss
    have h2 : 0 < (intBytes (s.size : Int)).length := by unfold intBytes encN; split <;> simp
    simp only [catT, textBytes, List.length_append, List.length_cons]
    omega
theorem getT_enc {ss : List ByteArray} (h : ∀ s ∈ ss, s.size < 140737488355328) (hl : ss.length < 140737488355328) (r : List Nat) : getT (textsBytes ss ++ r) = some (ss, (textsBytes ss).length) := by
  have h1 := catT_count ss
  unfold getT
  rw [textsBytes, List.append_assoc, getN_enc (by omega) (by omega)]
  simp only [List.length_append]
  rw [if_neg (by omega), List.drop_left, Int.toNat_natCast, readT_enc ss r h]
theorem readT_len : ∀ (n : Nat) (l : List Nat) (ss : List ByteArray) (m : Nat), readT n l = some (ss, m) → ss.length = n
  | 0, l, ss, m, h => by simp only [readT, Option.some.injEq, Prod.mk.injEq] at h; rw [← h.1]; rfl
  | n + 1, l, ss, m, h => by
    rw [readT] at h
    split at h
    · cases h
    · split at h
      · cases h
      · rename_i p hp
        simp only [Option.some.injEq, Prod.mk.injEq] at h
        rw [← h.1, List.length_cons, readT_len n _ p.1 p.2 hp]
theorem getS_le {l : List Nat} (hb : ∀ b ∈ l, b < 256) {s : ByteArray} {k : Nat} (h : getS l = some (s, k)) : 0 < k ∧ k ≤ l.length := by
  unfold getS at h
  split at h
  · cases h
  · rename_i o ho
    obtain ⟨n, m⟩ := o
    obtain ⟨_, e2, e3, _⟩ := getN_back hb ho
    split at h
    · cases h
    · simp only [Option.some.injEq, Prod.mk.injEq] at h
      obtain ⟨rfl, rfl⟩ := h
      omega
/-- Texts as rows. -/
def tR (ss : List ByteArray) : List (List AV) := ss.map fun s => [.str s]
theorem tR_append (a b : List ByteArray) : tR (a ++ b) = tR a ++ tR b := by simp [tR]
theorem sR_tR (ss : List ByteArray) : sR (tR ss) = ss := by
  simp only [sR, tR, List.map_map]
  conv => rhs; rw [← List.map_id ss]
  rfl
theorem scoped_tR (n m : Nat) : ∀ ss : List ByteArray, ScopedR n m (tR ss)
  | [] => trivial
  | x :: l => ⟨⟨trivial, trivial⟩, scoped_tR n m l⟩
/-- A list of texts as a slice: nil where there are none. -/
def tAV (ss : List ByteArray) : AV :=
  match ss with
  | [] => .nilsl
  | _ => .sl 1 false (tR ss)
end Go.Proofs.Ytjdpfblmhahfkaa.V

/- The functions' pieces, as told by gen.py. -/
set_option linter.unusedVariables false
set_option maxRecDepth 20000
namespace Go.Proofs.Ytjdpfblmhahfkaa.V
open Go Go.V Go.RowKit

theorem ze9 : (Try.prog.info? 9).bind (·.zero) = some (.string ⟨#[]⟩) := by kernel_rfl
theorem by9 : (Try.prog.info? 9).map (·.bytes) = some 16 := by kernel_rfl
theorem el33 : ElemOf Try.prog 33 9 1 16 (.string ⟨#[]⟩) := ⟨Try.underlying33, sz9, by9, ze9, by kernel_rfl, by decide⟩

/-! ### 23: (*interlock/bits.Reader).Texts (24); results 2; slots: 0 r, 1 r, 3 n, 4 out, 5 s -/
/-- A loop's round; at its head live: 0 r, 3 n, 4 out -/
noncomputable def f23_l0 : Sim Try.prog :=
  (.seq (.seq (.live [0, 3, 4, 29] (.region 5 [
    ⟨(opMove (some 21) (.tmp 3) 3 "bits.go:115" #[]).op, none⟩,
    ⟨(opBin (some 22) .gtr 3 (.tmp 21) (.const (Value.int IntKind.i64 0)) 3 4 "bits.go:115" #[{ on := 0, ground := Ground.data }]).op, none⟩,
    ⟨(opMove (some 23) (.tmp 22) 4 "bits.go:115" #[{ on := 1, ground := Ground.data }]).op, none⟩,
    ⟨(opMove (some 24) (.tmp 0) 24 "bits.go:115" #[{ on := 2, ground := Ground.guard }]).op, (some (2, 23, true))⟩,
    ⟨(opNilCheck (some 25) (.tmp 24) 0 "bits.go:115" #[{ on := 3, ground := Ground.data }, { on := 2, ground := Ground.guard }]).op, (some (2, 23, true))⟩,
    ⟨(opFieldAddr (some 26) 48 (.tmp 25) 1 1 1 false fl48_1 (by decide) 0 "bits.go:115" #[{ on := 4, ground := Ground.data }, { on := 2, ground := Ground.guard }]).op, (some (2, 23, true))⟩,
    ⟨(opLoad (some 27) 4 (.tmp 26) .bool Try.underlying4 1 sz4 4 "bits.go:115" #[{ on := 5, ground := Ground.data }, { on := 2, ground := Ground.guard }]).op, (some (2, 23, true))⟩,
    ⟨(opNot (some 28) 4 (.tmp 27) 4 "bits.go:115" #[{ on := 6, ground := Ground.data }, { on := 2, ground := Ground.guard }]).op, (some (2, 23, true))⟩,
    ⟨(opPick (some 29) (.tmp 23) (.tmp 28) (.const (Value.bool false)) 4 "bits.go:115" #[{ on := 2, ground := Ground.data }, { on := 7, ground := Ground.data }]).op, none⟩
  ] (by kernel_rfl)))
  (.cond (.tmp 29)
    .skip
    (.live [0, 4] (.exit 0))))
  (.seq (.block 1 (.seq (.live [0, 3, 4, 5] (.region 7 [
      ⟨(opMove (some 32) (.tmp 0) 24 "bits.go:116" #[]).op, none⟩,
      ⟨opCall (q17).orc (some 33) [(.tmp 32)] #[24] 9 "bits.go:116" #[{ on := 0, ground := Ground.data }], none⟩,
      ⟨(opAssign (some 5) (.tmp 33) 9 "bits.go:116" #[{ on := 1, ground := Ground.data }, { on := 1, ground := Ground.chain }, { on := 0, ground := Ground.phase }, { on := 1, ground := Ground.phase }]).op, none⟩
    ] (by kernel_rfl)))
    (.live [0, 3, 4] (.region 8 [
      ⟨(opMove (some 34) (.tmp 4) 33 "bits.go:117" #[]).op, none⟩,
      ⟨(opMove (some 35) (.tmp 5) 9 "bits.go:117" #[]).op, none⟩,
      ⟨(opBuildSlice (some 36) 33 1 [(0, (.tmp 35))] 9 1 16 (.string ⟨#[]⟩) el33 (by kernel_rfl) (by decide) 33 "bits.go:117" #[{ on := 1, ground := Ground.data }]).op, none⟩,
      ⟨(opAppend (some 37) (.tmp 34) (.tmp 36) 33 33 9 1 16 (.string ⟨#[]⟩) el33 (.slice 9) Try.underlying33 rfl 33 "bits.go:117" #[{ on := 0, ground := Ground.data }, { on := 2, ground := Ground.data }]).op, none⟩,
      ⟨(opAssign (some 4) (.tmp 37) 33 "bits.go:117" #[{ on := 3, ground := Ground.data }, { on := 3, ground := Ground.chain }, { on := 0, ground := Ground.phase }, { on := 1, ground := Ground.phase }, { on := 2, ground := Ground.phase }, { on := 3, ground := Ground.phase }]).op, none⟩
    ] (by kernel_rfl)))))
  (.live [0, 3, 4] (.region 6 [
    ⟨(opMove (some 30) (.tmp 3) 3 "bits.go:115" #[]).op, none⟩,
    ⟨(opBin (some 31) .sub 3 (.tmp 30) (.const (Value.int IntKind.i64 1)) 3 3 "bits.go:115" #[{ on := 0, ground := Ground.data }]).op, none⟩,
    ⟨(opAssign (some 3) (.tmp 31) 3 "bits.go:115" #[{ on := 1, ground := Ground.data }, { on := 0, ground := Ground.phase }, { on := 1, ground := Ground.phase }]).op, none⟩
  ] (by kernel_rfl)))))

/-- What follows a loop. -/
noncomputable def f23_r0 : Sim Try.prog :=
  (.seq (.seq (.live [4, 41] (.region 9 [
    ⟨(opMove (some 38) (.tmp 0) 24 "bits.go:119" #[]).op, none⟩,
    ⟨(opNilCheck (some 39) (.tmp 38) 0 "bits.go:119" #[{ on := 0, ground := Ground.data }]).op, none⟩,
    ⟨(opFieldAddr (some 40) 48 (.tmp 39) 1 1 1 false fl48_1 (by decide) 0 "bits.go:119" #[{ on := 1, ground := Ground.data }]).op, none⟩,
    ⟨(opLoad (some 41) 4 (.tmp 40) .bool Try.underlying4 1 sz4 4 "bits.go:119" #[{ on := 2, ground := Ground.data }]).op, none⟩
  ] (by kernel_rfl)))
  (.cond (.tmp 41)
    (.seq (.live [2] (.region 10 [
      ⟨(opAssign (some 2) (.const (Value.slice none 0 0)) 33 "bits.go:120" #[]).op, none⟩
    ] (by kernel_rfl)))
    (.live [2] .ret))
    .skip))
  (.seq (.live [2] (.region 11 [
    ⟨(opMove (some 42) (.tmp 4) 33 "bits.go:122" #[]).op, none⟩,
    ⟨(opAssign (some 2) (.tmp 42) 33 "bits.go:122" #[{ on := 0, ground := Ground.data }, { on := 0, ground := Ground.phase }]).op, none⟩
  ] (by kernel_rfl)))
  (.live [2] .ret)))

noncomputable def f23_b : Sim Try.prog :=
  (.seq (.live [0] (.region 0 [
    ⟨(opAssign (some 2) (.const (Value.slice none 0 0)) 33 "bits.go:109" #[]).op, none⟩
  ] (by kernel_rfl)))
  (.seq (.live [0, 3] (.region 1 [
    ⟨(opMove (some 6) (.tmp 0) 24 "bits.go:110" #[]).op, none⟩,
    ⟨opCall (q11).orc (some 7) [(.tmp 6)] #[24] 3 "bits.go:110" #[{ on := 0, ground := Ground.data }], none⟩,
    ⟨(opAssign (some 3) (.tmp 7) 3 "bits.go:110" #[{ on := 1, ground := Ground.data }, { on := 1, ground := Ground.chain }, { on := 0, ground := Ground.phase }, { on := 1, ground := Ground.phase }]).op, none⟩
  ] (by kernel_rfl)))
  (.seq (.seq (.live [0, 3, 18] (.region 2 [
    ⟨(opMove (some 8) (.tmp 3) 3 "bits.go:111" #[]).op, none⟩,
    ⟨(opBin (some 9) .lss 3 (.tmp 8) (.const (Value.int IntKind.i64 0)) 3 4 "bits.go:111" #[{ on := 0, ground := Ground.data }]).op, none⟩,
    ⟨(opMove (some 10) (.tmp 9) 4 "bits.go:111" #[{ on := 1, ground := Ground.data }]).op, none⟩,
    ⟨(opMove (some 11) (.tmp 3) 3 "bits.go:111" #[{ on := 2, ground := Ground.guard }]).op, (some (2, 10, false))⟩,
    ⟨(opMove (some 12) (.tmp 0) 24 "bits.go:111" #[{ on := 2, ground := Ground.guard }]).op, (some (2, 10, false))⟩,
    ⟨(opNilCheck (some 13) (.tmp 12) 0 "bits.go:111" #[{ on := 4, ground := Ground.data }, { on := 2, ground := Ground.guard }]).op, (some (2, 10, false))⟩,
    ⟨(opFieldAddr (some 14) 48 (.tmp 13) 0 0 1 false fl48_0 (by decide) 0 "bits.go:111" #[{ on := 5, ground := Ground.data }, { on := 2, ground := Ground.guard }]).op, (some (2, 10, false))⟩,
    ⟨(opLoad (some 15) 22 (.tmp 14) (.slice 5) Try.underlying22 1 sz22 22 "bits.go:111" #[{ on := 6, ground := Ground.data }, { on := 2, ground := Ground.guard }]).op, (some (2, 10, false))⟩,
    ⟨(opLen (some 16) (.tmp 15) 22 (.slice 5) Try.underlying22 3 "bits.go:111" #[{ on := 7, ground := Ground.data }, { on := 2, ground := Ground.guard }]).op, (some (2, 10, false))⟩,
    ⟨(opBin (some 17) .gtr 3 (.tmp 11) (.tmp 16) 3 4 "bits.go:111" #[{ on := 3, ground := Ground.data }, { on := 8, ground := Ground.data }, { on := 2, ground := Ground.guard }]).op, (some (2, 10, false))⟩,
    ⟨(opPick (some 18) (.tmp 10) (.const (Value.bool true)) (.tmp 17) 4 "bits.go:111" #[{ on := 2, ground := Ground.data }, { on := 9, ground := Ground.data }]).op, none⟩
  ] (by kernel_rfl)))
  (.cond (.tmp 18)
    (.live [0, 3] (.region 3 [
      ⟨(opMove (some 19) (.tmp 0) 24 "bits.go:112" #[]).op, none⟩,
      ⟨opCall (f34.orc 0) (some 20) [(.tmp 19)] #[24] 0 "bits.go:112" #[{ on := 0, ground := Ground.data }], none⟩
    ] (by kernel_rfl)))
    .skip))
  (.seq (.live [0, 3, 4] (.region 4 [
    ⟨(opAssign (some 4) (.const (Value.slice none 0 0)) 33 "bits.go:114" #[]).op, none⟩
  ] (by kernel_rfl)))
  (.seq (.block 0 (.loop [0, 3, 4] f23_l0))
  f23_r0)))))

noncomputable def f23 : Fun Try.prog where
  id := 23
  fn := Try.f23
  hf := Try.func23
  hname := by kernel_rfl
  body := f23_b
  hbody := by kernel_rfl
  res := [rTmp 2]
  hres := by kernel_rfl
  n := 43
  hn := by kernel_rfl

end Go.Proofs.Ytjdpfblmhahfkaa.V

/- What the functions' runs come to; the right sides were printed by a tool, Lean checks them. -/
set_option linter.unusedVariables false
set_option maxRecDepth 100000
namespace Go.Proofs.Ytjdpfblmhahfkaa.V
open Go Go.V Go.RowKit

theorem rts_run0 (F : Nat) (f : Bool) (l : List (List AV)) (os : List Ob) (tk : List (Nat × Nat)) :
    (f23.run F [.ptr 0 0] ⟨.cells [.sl 1 f l, .bool false] :: os, tk⟩ : Ans) =
    branch (AV.bool (fit (Br.sl f l)))
      (onSome (getN (nR l))
        (loopRun (f23_l0.run F) [0, 3, 4]
          (Cont.block 0 (Cont.then (f23_r0.run F (f23.leaveK Fun.done)) (f23.leaveK Fun.done))) F
          (Env.mk 43 [(0, AV.ptr 0 0), (3, AV.int IntKind.i64 0), (4, AV.nilsl)])
          (St.mk (Ob.cells [AV.nilsl, AV.bool true] :: os) tk))
        fun (o : Int × Nat) =>
        branch (AV.bool (decide (o.fst < 0)))
          (loopRun (f23_l0.run F) [0, 3, 4]
            (Cont.block 0 (Cont.then (f23_r0.run F (f23.leaveK Fun.done)) (f23.leaveK Fun.done))) F
            (Env.mk 43 [(0, AV.ptr 0 0), (3, AV.int IntKind.i64 o.fst), (4, AV.nilsl)])
            (St.mk (Ob.cells [AV.nilsl, AV.bool true] :: os) tk))
          (branch (AV.bool (decide (o.fst > (↑(List.drop o.snd l).length : Int))))
            (loopRun (f23_l0.run F) [0, 3, 4]
              (Cont.block 0 (Cont.then (f23_r0.run F (f23.leaveK Fun.done)) (f23.leaveK Fun.done))) F
              (Env.mk 43 [(0, AV.ptr 0 0), (3, AV.int IntKind.i64 o.fst), (4, AV.nilsl)])
              (St.mk (Ob.cells [AV.nilsl, AV.bool true] :: os) tk))
            (loopRun (f23_l0.run F) [0, 3, 4]
              (Cont.block 0 (Cont.then (f23_r0.run F (f23.leaveK Fun.done)) (f23.leaveK Fun.done))) F
              (Env.mk 43 [(0, AV.ptr 0 0), (3, AV.int IntKind.i64 o.fst), (4, AV.nilsl)])
              (St.mk (Ob.cells [AV.sl 1 f (List.drop o.snd l), AV.bool false] :: os) tk))))
      none := by kernel_rfl

theorem rts_nil0 (F : Nat) (b : Bool) (os : List Ob) (tk : List (Nat × Nat)) :
    (f23.run F.succ [.ptr 0 0] ⟨.cells [.nilsl, .bool b] :: os, tk⟩ : Ans) =
    some (Fin.ret AV.nilsl, St.mk (Ob.cells [AV.nilsl, AV.bool true] :: os) tk) := by kernel_rfl

theorem rts_first (F m : Nat) (K : Cont) (n : Int) (f : Bool) (l : List (List AV)) (os : List Ob) (tk : List (Nat × Nat)) :
    (loopRun (f23_l0.run F) [0, 3, 4] K m.succ (Env.mk 43 [(0, .ptr 0 0), (3, .int .i64 n), (4, .nilsl)]) ⟨.cells [.sl 1 f l, .bool false] :: os, tk⟩ : Ans) =
    branch (AV.bool (decide (n > 0)))
      (branch (AV.bool (fit (Br.sl f l)))
        (onSome (getS (nR l))
          (loopRun (f23_l0.run F) [0, 3, 4] K m
            (Env.mk 43
              [(0, AV.ptr 0 0), (3, AV.int IntKind.i64 (IntKind.i64.wrap (n - 1))),
                (4, AV.lg tk.length 1 [[AV.str noText]])])
            (St.mk (Ob.cells [AV.nilsl, AV.bool true] :: os) (tk ++ [(1, 1)])))
          fun (o : ByteArray × Nat) =>
          loopRun (f23_l0.run F) [0, 3, 4] K m
            (Env.mk 43
              [(0, AV.ptr 0 0), (3, AV.int IntKind.i64 (IntKind.i64.wrap (n - 1))),
                (4, AV.lg tk.length 1 [[AV.str o.fst]])])
            (St.mk (Ob.cells [AV.sl 1 f (List.drop o.snd l), AV.bool false] :: os) (tk ++ [(1, 1)])))
        none)
      (K (AX.exit 0) (Env.mk 43 [(0, AV.ptr 0 0), (4, AV.nilsl)]) (St.mk (Ob.cells [AV.sl 1 f l, AV.bool false] :: os) tk)) := by kernel_rfl

theorem rts_round (F m t : Nat) (K : Cont) (n : Int) (f : Bool) (lo l : List (List AV)) (os : List Ob) (tk : List (Nat × Nat)) :
    (loopRun (f23_l0.run F) [0, 3, 4] K m.succ (Env.mk 43 [(0, .ptr 0 0), (3, .int .i64 n), (4, .lg t 1 lo)]) ⟨.cells [.sl 1 f l, .bool false] :: os, tk⟩ : Ans) =
    branch (AV.bool (decide (n > 0)))
      (branch (AV.bool (fit (Br.sl f l)))
        (onSome (getS (nR l))
          (if
              ((fun (a : AV) (b : Bool) =>
                          St.mk (Ob.cells [a, AV.bool b] :: os) (St.mk (Ob.cells [AV.sl 1 f l, AV.bool false] :: os) tk).tk)
                        AV.nilsl true).tk[t]? =
                  some (1, lo.length) ∧
                (lo.length + 1) * 16 ≤ 140737488355328 then
            loopRun (f23_l0.run F) [0, 3, 4] K m
              (Env.mk 43
                [(0, AV.ptr 0 0), (3, AV.int IntKind.i64 (IntKind.i64.wrap (n - 1))),
                  (4, AV.lg t 1 (lo ++ [[AV.str noText]]))])
              (St.mk (Ob.cells [AV.nilsl, AV.bool true] :: os) (tk.set t (1, lo.length + 1)))
          else none)
          fun (o : ByteArray × Nat) =>
          if
              ((fun (a : AV) (b : Bool) =>
                          St.mk (Ob.cells [a, AV.bool b] :: os) (St.mk (Ob.cells [AV.sl 1 f l, AV.bool false] :: os) tk).tk)
                        (AV.sl 1 f (List.drop o.snd l)) false).tk[t]? =
                  some (1, lo.length) ∧
                (lo.length + 1) * 16 ≤ 140737488355328 then
            loopRun (f23_l0.run F) [0, 3, 4] K m
              (Env.mk 43
                [(0, AV.ptr 0 0), (3, AV.int IntKind.i64 (IntKind.i64.wrap (n - 1))),
                  (4, AV.lg t 1 (lo ++ [[AV.str o.fst]]))])
              (St.mk (Ob.cells [AV.sl 1 f (List.drop o.snd l), AV.bool false] :: os) (tk.set t (1, lo.length + 1)))
          else none)
        none)
      (K (AX.exit 0) (Env.mk 43 [(0, AV.ptr 0 0), (4, AV.lg t 1 lo)])
        (St.mk (Ob.cells [AV.sl 1 f l, AV.bool false] :: os) tk)) := by kernel_rfl

theorem rts_bad (F m : Nat) (K : Cont) (n : Int) (o : AV) (os : List Ob) (tk : List (Nat × Nat)) :
    (loopRun (f23_l0.run F) [0, 3, 4] K m.succ (Env.mk 43 [(0, .ptr 0 0), (3, .int .i64 n), (4, o)]) ⟨.cells [.nilsl, .bool true] :: os, tk⟩ : Ans) =
    branch (AV.bool (decide (n > 0)))
      (K (AX.exit 0) (Env.mk 43 [(0, AV.ptr 0 0), (4, o)]) (St.mk (Ob.cells [AV.nilsl, AV.bool true] :: os) tk))
      (K (AX.exit 0) (Env.mk 43 [(0, AV.ptr 0 0), (4, o)]) (St.mk (Ob.cells [AV.nilsl, AV.bool true] :: os) tk)) := by kernel_rfl

theorem rts_outbad (F : Nat) (o : AV) (os : List Ob) (tk : List (Nat × Nat)) :
    ((Cont.block 0 (Cont.then (f23_r0.run F (f23.leaveK Fun.done)) (f23.leaveK Fun.done))) (.exit 0) (Env.mk 43 [(0, .ptr 0 0), (4, o)]) ⟨.cells [.nilsl, .bool true] :: os, tk⟩ : Ans) =
    some (Fin.ret AV.nilsl, St.mk (Ob.cells [AV.nilsl, AV.bool true] :: os) tk) := by kernel_rfl

theorem rts_out (F : Nat) (o a : AV) (os : List Ob) (tk : List (Nat × Nat)) :
    ((Cont.block 0 (Cont.then (f23_r0.run F (f23.leaveK Fun.done)) (f23.leaveK Fun.done))) (.exit 0) (Env.mk 43 [(0, .ptr 0 0), (4, o)]) ⟨.cells [a, .bool false] :: os, tk⟩ : Ans) =
    some (Fin.ret o, St.mk (Ob.cells [a, AV.bool false] :: os) tk) := by kernel_rfl

end Go.Proofs.Ytjdpfblmhahfkaa.V

/- Bits: a reader's next list of texts. -/
set_option linter.unusedVariables false
namespace Go.Proofs.Ytjdpfblmhahfkaa.V
open Go Go.V Go.RowKit

/-- Fit, and not too long. -/
def fitL (b : Br) : Bool := fit b && decide (b.list.length ≤ 100000000)
theorem fitL_spec {f : Bool} {l : List (List AV)} (h : fitL (.sl f l) = true) : okR l = true ∧ l.length ≤ 100000000 := by
  simp only [fitL, fit, Bool.and_eq_true, Br.list] at h
  exact ⟨h.1.1, of_decide_eq_true h.2⟩
theorem fit_drop {f : Bool} {l : List (List AV)} (h : okR l = true) (hl : l.length ≤ 100000000) (k : Nat) : fit (.sl f (l.drop k)) = true := fit_of (okR_drop h k) (by simp; omega)

noncomputable def rtsK (F : Nat) : Cont := Cont.block 0 (Cont.then (f23_r0.run F (f23.leaveK Fun.done)) (f23.leaveK Fun.done))
theorem rts_loop (F : Nat) (f : Bool) (os : List Ob) (tk : List (Nat × Nat)) : ∀ (n m : Nat) (lo l : List (List AV)) (xt : List (Nat × Nat)), n < m → okR l = true → l.length ≤ 100000000 → lo.length + n ≤ 100000000 →
    ∃ xt', loopRun (f23_l0.run F) [0, 3, 4] (rtsK F) m (Env.mk 43 [(0, .ptr 0 0), (3, .int .i64 n), (4, .lg tk.length 1 lo)]) ⟨.cells [.sl 1 f l, .bool false] :: os, tk ++ (1, lo.length) :: xt⟩
      = match readT n (nR l) with
        | none => some (.ret .nilsl, ⟨.cells [.nilsl, .bool true] :: os, tk ++ xt'⟩)
        | some o => some (.ret (.lg tk.length 1 (lo ++ tR o.1)), ⟨.cells [.sl 1 f (l.drop o.2), .bool false] :: os, tk ++ xt'⟩)
  | n, 0, lo, l, xt, hn, hl, hb, hlo => by omega
  | 0, m + 1, lo, l, xt, hn, hl, hb, hlo => by
    refine ⟨(1, lo.length) :: xt, ?_⟩
    rw [show m + 1 = m.succ from rfl, rts_round, branch_not (by simp), rtsK, rts_out]
    simp [readT, tR]
  | n + 1, m + 1, lo, l, xt, hn, hl, hb, hlo => by
    have hfit : fit (.sl f l) = true := fit_of hl (by omega)
    rw [show m + 1 = m.succ from rfl, rts_round, branch_of (by simp), branch_of hfit]
    simp only [readT, tk_mid, tk_mid_set]
    rw [wrapS (by omega) (by omega), show ((n + 1 : Nat) : Int) - 1 = (n : Int) by omega]
    cases hg : getS (nR l) with
    | none =>
      refine ⟨(1, lo.length + 1) :: xt, ?_⟩
      simp only [onSome]
      rw [if_pos ⟨trivial, by omega⟩]
      cases m with
      | zero => omega
      | succ m =>
        rw [show m + 1 = m.succ from rfl, rts_bad]
        have := rts_outbad F (.lg tk.length 1 (lo ++ [[.str noText]])) os (tk ++ (1, lo.length + 1) :: xt)
        rw [rtsK, this]
        cases decide ((n : Int) > 0) <;> rfl
    | some o =>
      obtain ⟨s, k⟩ := o
      simp only [onSome]
      rw [if_pos ⟨trivial, by omega⟩]
      obtain ⟨xt', ih⟩ := rts_loop F f os tk n m (lo ++ [[.str s]]) (l.drop k) xt (by omega) (okR_drop hl k) (by simp; omega) (by simp; omega)
      refine ⟨xt', ?_⟩
      rw [List.length_append, List.length_singleton] at ih
      rw [ih, nR_drop]
      cases readT n ((nR l).drop k) with
      | none => rfl
      | some p => simp only [List.append_assoc, List.drop_drop]; rfl
theorem rts_all (F : Nat) (f : Bool) (os : List Ob) (tk : List (Nat × Nat)) (n m : Nat) (l : List (List AV)) (hm : n < m) (hl : okR l = true) (hb : l.length ≤ 100000000) (hn : n ≤ 100000000) :
    ∃ xt' r', loopRun (f23_l0.run F) [0, 3, 4] (rtsK F) m (Env.mk 43 [(0, .ptr 0 0), (3, .int .i64 n), (4, .nilsl)]) ⟨.cells [.sl 1 f l, .bool false] :: os, tk⟩
      = (match readT n (nR l) with
        | none => some (.ret r', ⟨.cells [.nilsl, .bool true] :: os, tk ++ xt'⟩)
        | some o => some (.ret r', ⟨.cells [.sl 1 f (l.drop o.2), .bool false] :: os, tk ++ xt'⟩)) ∧ frz r' = (match readT n (nR l) with
        | none => .nilsl
        | some o => tAV o.1) := by
  cases m with
  | zero => omega
  | succ m =>
    cases n with
    | zero =>
      refine ⟨[], .nilsl, ?_⟩
      rw [show m + 1 = m.succ from rfl, rts_first, branch_not (by simp), rtsK, rts_out]
      simp [readT, tAV, frz]
    | succ n =>
      have hfit : fit (.sl f l) = true := fit_of hl (by omega)
      rw [show m + 1 = m.succ from rfl, rts_first, branch_of (by simp), branch_of hfit, wrapS (by omega) (by omega), show ((n + 1 : Nat) : Int) - 1 = (n : Int) by omega]
      simp only [readT]
      cases hg : getS (nR l) with
      | none =>
        refine ⟨[(1, 1)], .nilsl, ?_⟩
        simp only [onSome]
        cases m with
        | zero => omega
        | succ m =>
          rw [show m + 1 = m.succ from rfl, rts_bad]
          have := rts_outbad F (.lg tk.length 1 [[.str noText]]) os (tk ++ [(1, 1)])
          rw [rtsK, this]
          refine ⟨?_, rfl⟩
          cases decide ((n : Int) > 0) <;> rfl
      | some o =>
        obtain ⟨s, k⟩ := o
        simp only [onSome]
        obtain ⟨xt', ih⟩ := rts_loop F f os tk n m [[.str s]] (l.drop k) [] (by omega) (okR_drop hl k) (by simp; omega) (by simp; omega)
        rw [List.length_singleton] at ih
        rw [ih, nR_drop]
        cases readT n ((nR l).drop k) with
        | none => exact ⟨xt', .nilsl, rfl, rfl⟩
        | some p =>
          refine ⟨xt', .lg tk.length 1 ([[.str s]] ++ tR p.1), ?_, rfl⟩
          simp only [List.drop_drop]

theorem f23_spec {st : St} {f : Bool} {l : List (List AV)} {put : AV → Bool → St} (h : rdAt (.ptr 0 0) st = some (.sl f false l, put)) (hf : fitL (.sl f l) = true) :
    ∃ F xt r', f23.run F [.ptr 0 0] st = some (.ret r', ⟨(match getT (nR l) with | none => put .nilsl true | some o => put (.sl 1 f (l.drop o.2)) false).objs, st.tk ++ xt⟩) ∧ frz r' = match getT (nR l) with
      | none => .nilsl
      | some o => tAV o.1 := by
  obtain ⟨h1, h2⟩ := fitL_spec hf
  rcases rdAt_eq h with ⟨_, os, hs, rfl⟩ | ⟨h3, _⟩
  rotate_left
  · cases h3
  rw [hs]; simp only [Rd.cells]
  obtain ⟨objs, tk⟩ := st
  simp only at hs ⊢
  have hbad : ∀ (n : Int), loopRun (f23_l0.run (l.length + 2)) [0, 3, 4] (rtsK (l.length + 2)) (l.length + 2) (Env.mk 43 [(0, .ptr 0 0), (3, .int .i64 n), (4, .nilsl)]) ⟨.cells [.nilsl, .bool true] :: os, tk⟩ = some (.ret .nilsl, ⟨.cells [.nilsl, .bool true] :: os, tk⟩) := by
    intro n
    rw [show l.length + 2 = (l.length + 1).succ from rfl, rts_bad]
    have := rts_outbad (l.length + 1).succ .nilsl os tk
    rw [rtsK, this]
    cases decide (n > 0) <;> rfl
  cases hg : getN (nR l) with
  | none =>
    refine ⟨l.length + 2, [], .nilsl, ?_⟩
    rw [rts_run0, branch_of (fit_of h1 (by omega)), hg]
    simp only [getT, hg, onSome, List.append_nil]
    exact ⟨hbad 0, rfl⟩
  | some o =>
    obtain ⟨n, k⟩ := o
    by_cases hn : n < 0
    · refine ⟨l.length + 2, [], .nilsl, ?_⟩
      rw [rts_run0, branch_of (fit_of h1 (by omega)), hg]
      simp only [getT, hg, onSome, List.append_nil]
      rw [branch_of (by simpa using hn), if_pos (.inl hn)]
      exact ⟨hbad n, rfl⟩
    · by_cases hm : ((l.length - k : Nat) : Int) < n
      · refine ⟨l.length + 2, [], .nilsl, ?_⟩
        rw [rts_run0, branch_of (fit_of h1 (by omega)), hg]
        simp only [getT, hg, onSome, List.append_nil, nR_length, List.length_drop]
        rw [branch_not (by simpa using hn), branch_of (by simpa using hm), if_pos (.inr hm)]
        exact ⟨hbad n, rfl⟩
      · obtain ⟨c, rfl⟩ : ∃ c : Nat, n = c := ⟨n.toNat, by omega⟩
        obtain ⟨xt', r', ih, ih2⟩ := rts_all (l.length + 2) f os tk c (l.length + 2) (l.drop k) (by omega) (okR_drop h1 k) (by simp; omega) (by omega)
        refine ⟨l.length + 2, xt', r', ?_⟩
        rw [rts_run0, branch_of (fit_of h1 (by omega)), hg]
        simp only [getT, hg, onSome, nR_length, List.length_drop]
        rw [branch_not (by simp), branch_not (by simpa using hm), if_neg (by omega), Int.toNat_natCast]
        rw [nR_drop] at ih ih2
        simp only [rtsK] at ih
        rw [ih, ih2]
        cases readT c ((nR l).drop k) with
        | none => exact ⟨rfl, rfl⟩
        | some p => simp only [List.drop_drop]; exact ⟨trivial, trivial⟩

theorem f23_nil {st : St} {b : Bool} {put : AV → Bool → St} (h : rdAt (.ptr 0 0) st = some (.nil b, put)) : f23.run (Nat.succ 0) [.ptr 0 0] st = some (.ret .nilsl, put .nilsl true) := by
  rcases rdAt_eq h with ⟨_, os, hs, rfl⟩ | ⟨h3, _⟩
  · rw [hs]; simp only [Rd.cells]; rw [rts_nil0]
  · cases h3
/-- Putting a reader anew at the first object. -/
theorem rd_put {st : St} {r : Rd} {put : AV → Bool → St} (h : rdAt (.ptr 0 0) st = some (r, put)) (a : AV) (b : Bool) :
    (put a b).tk = st.tk ∧ (put a b).objs.length = st.objs.length ∧ ∀ (k : Nat) (o' : Ob), (put a b).objs[k]? = some o' → st.objs[k]? = some o' ∨ o' = .cells [a, .bool b] := by
  rcases rdAt_eq h with ⟨_, os, hs, rfl⟩ | ⟨h3, _⟩
  · rw [hs]
    refine ⟨rfl, rfl, fun k o' ho => ?_⟩
    cases k with
    | zero => right; simpa using ho.symm
    | succ k => left; simpa using ho
  · cases h3
theorem scoped_bytes {l : List (List AV)} (h : okR l = true) (n m : Nat) : ScopedR n m l := by
  rw [okR_rows h]; exact scoped_rb n m _
theorem scoped_tAV (n m : Nat) (ss : List ByteArray) : Scoped n m (tAV ss) := by
  cases ss with
  | nil => trivial
  | cons s ss => exact scoped_tR n m (s :: ss)
/-- Reader.Texts. -/
noncomputable def q23 : OrcS Try.prog := f23.cpsX
  (fun args st k => match args with
    | [.ptr 0 0] => match rdAt (.ptr 0 0) st with
      | some (.nil _, put) => k (.ret .nilsl) (put .nilsl true)
      | some (.sl f false l, put) => match fitL (.sl f l) with
        | true => match getT (nR l) with
          | none => k (.ret .nilsl) (put .nilsl true)
          | some o => match o.1 with
            | [] => k (.ret .nilsl) (put (.sl 1 f (l.drop o.2)) false)
            | _ :: _ => k (.ret (.sl 1 false (tR o.1))) (put (.sl 1 f (l.drop o.2)) false)
        | false => none
      | _ => none
    | _ => none)
  fun args st k fin h => by
    split at h
    · split at h
      · rename_i h1
        obtain ⟨p1, p2, p3⟩ := rd_put h1 .nilsl true
        refine ⟨.nilsl, _, by rw [← p1]; exact h, p2, fun k o' ho => (p3 k o' ho).imp (fun h => h) fun h => by subst h; exact ⟨fun _ => ⟨trivial, trivial, trivial⟩, trivial⟩, fun _ => trivial, Nat.succ 0, .nilsl, [], [], rfl, ?_⟩
        rw [f23_nil h1, List.append_nil, List.append_nil, ← p1]
      · rename_i f l put h1
        split at h
        · rename_i h2
          obtain ⟨F, xt, r', e1, e2⟩ := f23_spec h1 h2
          split at h
          · rename_i h3
            rw [h3] at e1 e2
            obtain ⟨p1, p2, p3⟩ := rd_put h1 .nilsl true
            exact ⟨.nilsl, _, by rw [← p1]; exact h, p2, fun k o' ho => (p3 k o' ho).imp (fun h => h) fun h => by subst h; exact ⟨fun _ => ⟨trivial, trivial, trivial⟩, trivial⟩, fun _ => trivial, F, r', [], xt, e2, by rw [e1, List.append_nil]⟩
          · rename_i o h3
            rw [h3] at e1 e2
            obtain ⟨p1, p2, p3⟩ := rd_put h1 (.sl 1 f (l.drop o.2)) false
            have h4 : k (.ret (tAV o.1)) (put (.sl 1 f (l.drop o.2)) false) = some fin := by
              split at h
              · rename_i h5; rw [h5]; exact h
              · rename_i h5; rw [h5] at h ⊢; exact h
            exact ⟨tAV o.1, _, by rw [← p1]; exact h4, p2, fun k o' ho => (p3 k o' ho).imp (fun h => h) fun h => by subst h; exact ⟨fun _ => ⟨scoped_bytes (okR_drop (fitL_spec h2).1 _) _ _, trivial, trivial⟩, trivial⟩, fun _ => scoped_tAV _ _ _, F, r', [], xt, e2, by rw [e1, List.append_nil]⟩
        · cases h
      · cases h
    · cases h
end Go.Proofs.Ytjdpfblmhahfkaa.V

/- Bits: what goes on does not sway the callees' answers. -/
set_option linter.unusedVariables false
namespace Go.Proofs.Ytjdpfblmhahfkaa.V
open Go Go.V Go.RowKit
theorem q15_nat : q15.NatS := effIf_nat
theorem q16_nat : q16.NatS := effIf_nat
theorem q18_nat : q18.NatS := effIf_nat
theorem q19_nat : q19.NatS := effIf_nat
theorem r14_nat : r14.Nat := POrc.re_nat
theorem r25_nat : r25.Nat := POrc.re_nat
theorem r20_nat : r20.Nat := POrc.fz_nat pureIfX_nat
theorem r21_nat : r21.Nat := POrc.fz_nat pureIfX_nat
theorem r22_nat : r22.Nat := POrc.fz_nat pureIf_nat
theorem q11_nat : q11.NatS := by
  intro args st k
  unfold q11 Fun.cps
  simp only []
  split
  · split
    · rfl
    · split
      · split <;> rfl
      · rfl
    · rfl
  · rfl
theorem q17_nat : q17.NatS := by
  intro args st k
  unfold q17 Fun.cps
  simp only []
  split
  · split
    · rfl
    · split
      · split <;> rfl
      · rfl
    · rfl
  · rfl
theorem q28_nat : q28.NatS := by
  intro args st k
  unfold q28 Fun.cps
  simp only []
  split
  · split
    · rfl
    · split
      · split <;> rfl
      · rfl
    · rfl
  · rfl
theorem q23_nat : q23.NatS := by
  intro args st k
  unfold q23 Fun.cpsX
  simp only []
  split
  · split
    · rfl
    · split
      · split
        · rfl
        · split <;> rfl
      · rfl
    · rfl
  · rfl
end Go.Proofs.Ytjdpfblmhahfkaa.V

/- The functions' pieces, as told by gen.py. -/
set_option linter.unusedVariables false
set_option maxRecDepth 20000
namespace Go.Proofs.Ytjdpfblmhahfkaa.V
open Go Go.V Go.RowKit

theorem sz3 : (Try.prog.info? 3).map (·.size) = some 1 := by kernel_rfl

/-! ### 7: interlock/interlocklaw01.BitsBack (37, 33); results 4; slots: 0 ints, 1 list, 2 ints, 3 list, 5 b, 6 i, 7 i, 8 r, 9 i, 10 i -/
/-- A loop's round; at its head live: 0 ints, 1 list, 5 b, 6 i -/
noncomputable def f7_l0 : Sim Try.prog :=
  (.seq (.seq (.live [0, 1, 5, 6, 25] (.region 7 [
    ⟨(opMove (some 22) (.tmp 6) 3 "law.go:81" #[]).op, none⟩,
    ⟨(opMove (some 23) (.tmp 0) 37 "law.go:81" #[]).op, none⟩,
    ⟨(opLen (some 24) (.tmp 23) 37 (.slice 3) Try.underlying37 3 "law.go:81" #[{ on := 1, ground := Ground.data }]).op, none⟩,
    ⟨(opBin (some 25) .lss 3 (.tmp 22) (.tmp 24) 3 4 "law.go:81" #[{ on := 0, ground := Ground.data }, { on := 2, ground := Ground.data }]).op, none⟩
  ] (by kernel_rfl)))
  (.cond (.tmp 25)
    .skip
    (.live [0, 1, 5] (.exit 0))))
  (.seq (.block 1 (.live [0, 1, 5, 6] (.region 9 [
      ⟨(opMove (some 28) (.tmp 5) 22 "law.go:82" #[]).op, none⟩,
      ⟨(opMove (some 29) (.tmp 0) 37 "law.go:82" #[]).op, none⟩,
      ⟨(opMove (some 30) (.tmp 6) 3 "law.go:82" #[]).op, none⟩,
      ⟨(opIndexAddr (some 31) 37 (.tmp 29) (.tmp 30) 3 1 Try.underlying37 sz3 0 "law.go:82" #[{ on := 1, ground := Ground.data }, { on := 2, ground := Ground.data }]).op, none⟩,
      ⟨(opLoad (some 32) 3 (.tmp 31) (.int .i64) Try.underlying3 1 sz3 3 "law.go:82" #[{ on := 3, ground := Ground.data }]).op, none⟩,
      ⟨opCall (q15).orc (some 33) [(.tmp 32)] #[3] 22 "law.go:82" #[{ on := 4, ground := Ground.data }], none⟩,
      ⟨(opAppend (some 34) (.tmp 28) (.tmp 33) 22 22 5 1 1 (.int .u8 0) el22 (.slice 5) Try.underlying22 rfl 22 "law.go:82" #[{ on := 0, ground := Ground.data }, { on := 5, ground := Ground.data }, { on := 5, ground := Ground.chain }]).op, none⟩,
      ⟨(opAssign (some 5) (.tmp 34) 22 "law.go:82" #[{ on := 6, ground := Ground.data }, { on := 6, ground := Ground.chain }, { on := 0, ground := Ground.phase }, { on := 1, ground := Ground.phase }, { on := 2, ground := Ground.phase }, { on := 3, ground := Ground.phase }, { on := 4, ground := Ground.phase }, { on := 5, ground := Ground.phase }, { on := 6, ground := Ground.phase }]).op, none⟩
    ] (by kernel_rfl))))
  (.live [0, 1, 5, 6] (.region 8 [
    ⟨(opMove (some 26) (.tmp 6) 3 "law.go:81" #[]).op, none⟩,
    ⟨(opBin (some 27) .add 3 (.tmp 26) (.const (Value.int IntKind.i64 1)) 3 3 "law.go:81" #[{ on := 0, ground := Ground.data }]).op, none⟩,
    ⟨(opAssign (some 6) (.tmp 27) 3 "law.go:81" #[{ on := 1, ground := Ground.data }, { on := 0, ground := Ground.phase }, { on := 1, ground := Ground.phase }]).op, none⟩
  ] (by kernel_rfl)))))

/-- A loop's round; at its head live: 0 ints, 1 list, 5 b, 7 i -/
noncomputable def f7_l1 : Sim Try.prog :=
  (.seq (.seq (.live [0, 1, 5, 7, 38] (.region 11 [
    ⟨(opMove (some 35) (.tmp 7) 3 "law.go:84" #[]).op, none⟩,
    ⟨(opMove (some 36) (.tmp 1) 33 "law.go:84" #[]).op, none⟩,
    ⟨(opLen (some 37) (.tmp 36) 33 (.slice 9) Try.underlying33 3 "law.go:84" #[{ on := 1, ground := Ground.data }]).op, none⟩,
    ⟨(opBin (some 38) .lss 3 (.tmp 35) (.tmp 37) 3 4 "law.go:84" #[{ on := 0, ground := Ground.data }, { on := 2, ground := Ground.data }]).op, none⟩
  ] (by kernel_rfl)))
  (.cond (.tmp 38)
    .skip
    (.live [0, 1, 5] (.exit 2))))
  (.seq (.block 3 (.seq (.seq (.live [0, 1, 5, 7, 46] (.region 13 [
      ⟨(opMove (some 41) (.tmp 1) 33 "law.go:85" #[]).op, none⟩,
      ⟨(opMove (some 42) (.tmp 7) 3 "law.go:85" #[]).op, none⟩,
      ⟨(opIndexAddr (some 43) 33 (.tmp 41) (.tmp 42) 9 1 Try.underlying33 sz9 0 "law.go:85" #[{ on := 0, ground := Ground.data }, { on := 1, ground := Ground.data }]).op, none⟩,
      ⟨(opLoad (some 44) 9 (.tmp 43) .string Try.underlying9 1 sz9 9 "law.go:85" #[{ on := 2, ground := Ground.data }]).op, none⟩,
      ⟨(opLen (some 45) (.tmp 44) 9 .string Try.underlying9 3 "law.go:85" #[{ on := 3, ground := Ground.data }]).op, none⟩,
      ⟨(opBin (some 46) .gtr 3 (.tmp 45) (.const (Value.int IntKind.i64 5000)) 3 4 "law.go:85" #[{ on := 4, ground := Ground.data }]).op, none⟩
    ] (by kernel_rfl)))
    (.cond (.tmp 46)
      (.seq (.live [4] (.region 14 [
        ⟨(opAssign (some 4) (.const (Value.bool true)) 4 "law.go:86" #[]).op, none⟩
      ] (by kernel_rfl)))
      (.live [4] .ret))
      .skip))
    (.live [0, 1, 5, 7] (.region 15 [
      ⟨(opMove (some 47) (.tmp 5) 22 "law.go:88" #[]).op, none⟩,
      ⟨(opMove (some 48) (.tmp 1) 33 "law.go:88" #[]).op, none⟩,
      ⟨(opMove (some 49) (.tmp 7) 3 "law.go:88" #[]).op, none⟩,
      ⟨(opIndexAddr (some 50) 33 (.tmp 48) (.tmp 49) 9 1 Try.underlying33 sz9 0 "law.go:88" #[{ on := 1, ground := Ground.data }, { on := 2, ground := Ground.data }]).op, none⟩,
      ⟨(opLoad (some 51) 9 (.tmp 50) .string Try.underlying9 1 sz9 9 "law.go:88" #[{ on := 3, ground := Ground.data }]).op, none⟩,
      ⟨opCall (q16).orc (some 52) [(.tmp 51)] #[9] 22 "law.go:88" #[{ on := 4, ground := Ground.data }], none⟩,
      ⟨(opAppend (some 53) (.tmp 47) (.tmp 52) 22 22 5 1 1 (.int .u8 0) el22 (.slice 5) Try.underlying22 rfl 22 "law.go:88" #[{ on := 0, ground := Ground.data }, { on := 5, ground := Ground.data }, { on := 5, ground := Ground.chain }]).op, none⟩,
      ⟨(opAssign (some 5) (.tmp 53) 22 "law.go:88" #[{ on := 6, ground := Ground.data }, { on := 6, ground := Ground.chain }, { on := 0, ground := Ground.phase }, { on := 1, ground := Ground.phase }, { on := 2, ground := Ground.phase }, { on := 3, ground := Ground.phase }, { on := 4, ground := Ground.phase }, { on := 5, ground := Ground.phase }, { on := 6, ground := Ground.phase }]).op, none⟩
    ] (by kernel_rfl)))))
  (.live [0, 1, 5, 7] (.region 12 [
    ⟨(opMove (some 39) (.tmp 7) 3 "law.go:84" #[]).op, none⟩,
    ⟨(opBin (some 40) .add 3 (.tmp 39) (.const (Value.int IntKind.i64 1)) 3 3 "law.go:84" #[{ on := 0, ground := Ground.data }]).op, none⟩,
    ⟨(opAssign (some 7) (.tmp 40) 3 "law.go:84" #[{ on := 1, ground := Ground.data }, { on := 0, ground := Ground.phase }, { on := 1, ground := Ground.phase }]).op, none⟩
  ] (by kernel_rfl)))))

/-- A loop's round; at its head live: 0 ints, 1 list, 8 r, 9 i -/
noncomputable def f7_l2 : Sim Try.prog :=
  (.seq (.seq (.live [0, 1, 8, 9, 65] (.region 21 [
    ⟨(opMove (some 62) (.tmp 9) 3 "law.go:95" #[]).op, none⟩,
    ⟨(opMove (some 63) (.tmp 0) 37 "law.go:95" #[]).op, none⟩,
    ⟨(opLen (some 64) (.tmp 63) 37 (.slice 3) Try.underlying37 3 "law.go:95" #[{ on := 1, ground := Ground.data }]).op, none⟩,
    ⟨(opBin (some 65) .lss 3 (.tmp 62) (.tmp 64) 3 4 "law.go:95" #[{ on := 0, ground := Ground.data }, { on := 2, ground := Ground.data }]).op, none⟩
  ] (by kernel_rfl)))
  (.cond (.tmp 65)
    .skip
    (.live [1, 8] (.exit 4))))
  (.seq (.block 5 (.seq (.live [0, 1, 8, 9, 74] (.draw 23 [
      ⟨.p (opMove (some 68) (.tmp 8) 24 "law.go:96" #[]), none⟩,
      ⟨.mn (opCallM (q11) (some 69) [(.tmp 68)] #[24] 3 "law.go:96" #[{ on := 0, ground := Ground.data }]) (opCallM_nat q11_nat), none⟩,
      ⟨.p (opMove (some 70) (.tmp 0) 37 "law.go:96" #[]), none⟩,
      ⟨.p (opMove (some 71) (.tmp 9) 3 "law.go:96" #[]), none⟩,
      ⟨.pn (opIndexAddr (some 72) 37 (.tmp 70) (.tmp 71) 3 1 Try.underlying37 sz3 0 "law.go:96" #[{ on := 2, ground := Ground.data }, { on := 3, ground := Ground.data }]) opIndexAddr_nat, none⟩,
      ⟨.pn (opLoadF (some 73) 3 (.tmp 72) (.int .i64) Try.underlying3 1 sz3 3 "law.go:96" #[{ on := 4, ground := Ground.data }]) opLoadF_nat, none⟩,
      ⟨.pn (opBin (some 74) .neq 3 (.tmp 69) (.tmp 73) 3 4 "law.go:96" #[{ on := 1, ground := Ground.data }, { on := 5, ground := Ground.data }]) opBin_nat, none⟩
    ] mixed (by kernel_rfl)))
    (.cond (.tmp 74)
      (.seq (.live [4] (.region 24 [
        ⟨(opAssign (some 4) (.const (Value.bool false)) 4 "law.go:97" #[]).op, none⟩
      ] (by kernel_rfl)))
      (.live [4] .ret))
      .skip)))
  (.live [0, 1, 8, 9] (.region 22 [
    ⟨(opMove (some 66) (.tmp 9) 3 "law.go:95" #[]).op, none⟩,
    ⟨(opBin (some 67) .add 3 (.tmp 66) (.const (Value.int IntKind.i64 1)) 3 3 "law.go:95" #[{ on := 0, ground := Ground.data }]).op, none⟩,
    ⟨(opAssign (some 9) (.tmp 67) 3 "law.go:95" #[{ on := 1, ground := Ground.data }, { on := 0, ground := Ground.phase }, { on := 1, ground := Ground.phase }]).op, none⟩
  ] (by kernel_rfl)))))

/-- A loop's round; at its head live: 1 list, 8 r, 10 i -/
noncomputable def f7_l3 : Sim Try.prog :=
  (.seq (.seq (.live [1, 8, 10, 78] (.region 26 [
    ⟨(opMove (some 75) (.tmp 10) 3 "law.go:100" #[]).op, none⟩,
    ⟨(opMove (some 76) (.tmp 1) 33 "law.go:100" #[]).op, none⟩,
    ⟨(opLen (some 77) (.tmp 76) 33 (.slice 9) Try.underlying33 3 "law.go:100" #[{ on := 1, ground := Ground.data }]).op, none⟩,
    ⟨(opBin (some 78) .lss 3 (.tmp 75) (.tmp 77) 3 4 "law.go:100" #[{ on := 0, ground := Ground.data }, { on := 2, ground := Ground.data }]).op, none⟩
  ] (by kernel_rfl)))
  (.cond (.tmp 78)
    .skip
    (.live [1, 8] (.exit 6))))
  (.seq (.block 7 (.seq (.live [1, 8, 10, 87] (.draw 28 [
      ⟨.p (opMove (some 81) (.tmp 8) 24 "law.go:101" #[]), none⟩,
      ⟨.mn (opCallM (q17) (some 82) [(.tmp 81)] #[24] 9 "law.go:101" #[{ on := 0, ground := Ground.data }]) (opCallM_nat q17_nat), none⟩,
      ⟨.p (opMove (some 83) (.tmp 1) 33 "law.go:101" #[]), none⟩,
      ⟨.p (opMove (some 84) (.tmp 10) 3 "law.go:101" #[]), none⟩,
      ⟨.pn (opIndexAddr (some 85) 33 (.tmp 83) (.tmp 84) 9 1 Try.underlying33 sz9 0 "law.go:101" #[{ on := 2, ground := Ground.data }, { on := 3, ground := Ground.data }]) opIndexAddr_nat, none⟩,
      ⟨.pn (opLoadF (some 86) 9 (.tmp 85) .string Try.underlying9 1 sz9 9 "law.go:101" #[{ on := 4, ground := Ground.data }]) opLoadF_nat, none⟩,
      ⟨.pn (opBinS (some 87) .neq 9 (.tmp 82) (.tmp 86) 9 4 "law.go:101" #[{ on := 1, ground := Ground.data }, { on := 5, ground := Ground.data }]) opBinS_nat, none⟩
    ] mixed (by kernel_rfl)))
    (.cond (.tmp 87)
      (.seq (.live [4] (.region 29 [
        ⟨(opAssign (some 4) (.const (Value.bool false)) 4 "law.go:102" #[]).op, none⟩
      ] (by kernel_rfl)))
      (.live [4] .ret))
      .skip)))
  (.live [1, 8, 10] (.region 27 [
    ⟨(opMove (some 79) (.tmp 10) 3 "law.go:100" #[]).op, none⟩,
    ⟨(opBin (some 80) .add 3 (.tmp 79) (.const (Value.int IntKind.i64 1)) 3 3 "law.go:100" #[{ on := 0, ground := Ground.data }]).op, none⟩,
    ⟨(opAssign (some 10) (.tmp 80) 3 "law.go:100" #[{ on := 1, ground := Ground.data }, { on := 0, ground := Ground.phase }, { on := 1, ground := Ground.phase }]).op, none⟩
  ] (by kernel_rfl)))))

/-- What follows a loop. -/
noncomputable def f7_r0 : Sim Try.prog :=
  (.seq (.live [4] (.region 30 [
    ⟨(opMove (some 88) (.tmp 8) 24 "law.go:105" #[]).op, none⟩,
    ⟨opCall (q23).orc (some 89) [(.tmp 88)] #[24] 33 "law.go:105" #[{ on := 0, ground := Ground.data }], none⟩,
    ⟨(opMove (some 90) (.tmp 1) 33 "law.go:105" #[]).op, none⟩,
    ⟨(opCallP r22 (some 91) [(.tmp 89), (.tmp 90)] #[33, 33] 4 "law.go:105" #[{ on := 1, ground := Ground.data }, { on := 2, ground := Ground.data }, { on := 1, ground := Ground.chain }]).op, none⟩,
    ⟨(opMove (some 92) (.tmp 91) 4 "law.go:105" #[{ on := 3, ground := Ground.data }, { on := 3, ground := Ground.chain }]).op, none⟩,
    ⟨(opMove (some 93) (.tmp 8) 24 "law.go:105" #[{ on := 4, ground := Ground.guard }]).op, (some (4, 92, true))⟩,
    ⟨opCall (f24.orc 0) (some 94) [(.tmp 93)] #[24] 4 "law.go:105" #[{ on := 5, ground := Ground.data }, { on := 4, ground := Ground.chain }, { on := 4, ground := Ground.guard }], (some (4, 92, true))⟩,
    ⟨(opPick (some 95) (.tmp 92) (.tmp 94) (.const (Value.bool false)) 4 "law.go:105" #[{ on := 4, ground := Ground.data }, { on := 6, ground := Ground.data }]).op, none⟩,
    ⟨(opMove (some 96) (.tmp 95) 4 "law.go:105" #[{ on := 7, ground := Ground.data }, { on := 6, ground := Ground.chain }]).op, none⟩,
    ⟨(opMove (some 97) (.tmp 8) 24 "law.go:105" #[{ on := 8, ground := Ground.guard }]).op, (some (8, 96, true))⟩,
    ⟨opCall (f12.orc 0) (some 98) [(.tmp 97)] #[24] 4 "law.go:105" #[{ on := 9, ground := Ground.data }, { on := 8, ground := Ground.chain }, { on := 8, ground := Ground.guard }], (some (8, 96, true))⟩,
    ⟨(opNot (some 99) 4 (.tmp 98) 4 "law.go:105" #[{ on := 10, ground := Ground.data }, { on := 8, ground := Ground.guard }]).op, (some (8, 96, true))⟩,
    ⟨(opPick (some 100) (.tmp 96) (.tmp 99) (.const (Value.bool false)) 4 "law.go:105" #[{ on := 8, ground := Ground.data }, { on := 11, ground := Ground.data }]).op, none⟩,
    ⟨(opAssign (some 4) (.tmp 100) 4 "law.go:105" #[{ on := 12, ground := Ground.data }, { on := 10, ground := Ground.chain }, { on := 0, ground := Ground.phase }, { on := 1, ground := Ground.phase }, { on := 2, ground := Ground.phase }, { on := 3, ground := Ground.phase }, { on := 4, ground := Ground.phase }, { on := 5, ground := Ground.phase }, { on := 6, ground := Ground.phase }, { on := 7, ground := Ground.phase }, { on := 8, ground := Ground.phase }, { on := 9, ground := Ground.phase }, { on := 10, ground := Ground.phase }, { on := 11, ground := Ground.phase }, { on := 12, ground := Ground.phase }]).op, none⟩
  ] (by kernel_rfl)))
  (.live [4] .ret))

/-- What follows a loop. -/
noncomputable def f7_r1 : Sim Try.prog :=
  (.seq (.seq (.live [1, 8, 10] (.region 25 [
    ⟨(opAssign (some 10) (.const (Value.int IntKind.i64 0)) 3 "law.go:100" #[]).op, none⟩
  ] (by kernel_rfl)))
  (.block 6 (.loop [1, 8, 10] f7_l3)))
  f7_r0)

/-- What follows a loop. -/
noncomputable def f7_r2 : Sim Try.prog :=
  (.seq (.live [0, 1, 5] (.region 16 [
    ⟨(opMove (some 54) (.tmp 5) 22 "law.go:90" #[]).op, none⟩,
    ⟨(opMove (some 55) (.tmp 1) 33 "law.go:90" #[]).op, none⟩,
    ⟨(opCallP r20 (some 56) [(.tmp 55)] #[33] 22 "law.go:90" #[{ on := 1, ground := Ground.data }]).op, none⟩,
    ⟨(opAppend (some 57) (.tmp 54) (.tmp 56) 22 22 5 1 1 (.int .u8 0) el22 (.slice 5) Try.underlying22 rfl 22 "law.go:90" #[{ on := 0, ground := Ground.data }, { on := 2, ground := Ground.data }, { on := 2, ground := Ground.chain }]).op, none⟩,
    ⟨(opAssign (some 5) (.tmp 57) 22 "law.go:90" #[{ on := 3, ground := Ground.data }, { on := 3, ground := Ground.chain }, { on := 0, ground := Ground.phase }, { on := 1, ground := Ground.phase }, { on := 2, ground := Ground.phase }, { on := 3, ground := Ground.phase }]).op, none⟩
  ] (by kernel_rfl)))
  (.seq (.live [0, 1, 8] (.region 17 [
    ⟨(opMove (some 58) (.tmp 5) 22 "law.go:91" #[]).op, none⟩,
    ⟨opCall (f10.orc 0) (some 59) [(.tmp 58)] #[22] 24 "law.go:91" #[{ on := 0, ground := Ground.data }], none⟩,
    ⟨(opAssign (some 8) (.tmp 59) 24 "law.go:91" #[{ on := 1, ground := Ground.data }, { on := 1, ground := Ground.chain }, { on := 0, ground := Ground.phase }, { on := 1, ground := Ground.phase }]).op, none⟩
  ] (by kernel_rfl)))
  (.seq (.seq (.live [0, 1, 8, 61] (.region 18 [
    ⟨(opMove (some 60) (.tmp 8) 24 "law.go:92" #[]).op, none⟩,
    ⟨(opEq (some 61) 24 (.pointer 48) Try.underlying24 (.tmp 60) (.const (Value.pointer none)) (.inl rfl) 24 4 "law.go:92" #[{ on := 0, ground := Ground.data }]).op, none⟩
  ] (by kernel_rfl)))
  (.cond (.tmp 61)
    (.seq (.live [4] (.region 19 [
      ⟨(opAssign (some 4) (.const (Value.bool false)) 4 "law.go:93" #[]).op, none⟩
    ] (by kernel_rfl)))
    (.live [4] .ret))
    .skip))
  (.seq (.seq (.live [0, 1, 8, 9] (.region 20 [
    ⟨(opAssign (some 9) (.const (Value.int IntKind.i64 0)) 3 "law.go:95" #[]).op, none⟩
  ] (by kernel_rfl)))
  (.block 4 (.loop [0, 1, 8, 9] f7_l2)))
  f7_r1))))

/-- What follows a loop. -/
noncomputable def f7_r3 : Sim Try.prog :=
  (.seq (.seq (.live [0, 1, 5, 7] (.region 10 [
    ⟨(opAssign (some 7) (.const (Value.int IntKind.i64 0)) 3 "law.go:84" #[]).op, none⟩
  ] (by kernel_rfl)))
  (.block 2 (.loop [0, 1, 5, 7] f7_l1)))
  f7_r2)

noncomputable def f7_b : Sim Try.prog :=
  (.seq (.live [0, 1] (.region 0 [
    ⟨(opAssign (some 4) (.const (Value.bool false)) 4 "law.go:73" #[]).op, none⟩
  ] (by kernel_rfl)))
  (.seq (.seq (.live [0, 1, 12] (.region 1 [
    ⟨(opCallP p9 (some 11) [] #[] 4 "law.go:74" #[]).op, none⟩,
    ⟨(opNot (some 12) 4 (.tmp 11) 4 "law.go:74" #[{ on := 0, ground := Ground.data }]).op, none⟩
  ] (by kernel_rfl)))
  (.cond (.tmp 12)
    (.seq (.live [4] (.region 2 [
      ⟨(opAssign (some 4) (.const (Value.bool false)) 4 "law.go:75" #[]).op, none⟩
    ] (by kernel_rfl)))
    (.live [4] .ret))
    .skip))
  (.seq (.seq (.live [0, 1, 20] (.region 3 [
    ⟨(opMove (some 13) (.tmp 0) 37 "law.go:77" #[]).op, none⟩,
    ⟨(opLen (some 14) (.tmp 13) 37 (.slice 3) Try.underlying37 3 "law.go:77" #[{ on := 0, ground := Ground.data }]).op, none⟩,
    ⟨(opBin (some 15) .gtr 3 (.tmp 14) (.const (Value.int IntKind.i64 500)) 3 4 "law.go:77" #[{ on := 1, ground := Ground.data }]).op, none⟩,
    ⟨(opMove (some 16) (.tmp 15) 4 "law.go:77" #[{ on := 2, ground := Ground.data }]).op, none⟩,
    ⟨(opMove (some 17) (.tmp 1) 33 "law.go:77" #[{ on := 3, ground := Ground.guard }]).op, (some (3, 16, false))⟩,
    ⟨(opLen (some 18) (.tmp 17) 33 (.slice 9) Try.underlying33 3 "law.go:77" #[{ on := 4, ground := Ground.data }, { on := 3, ground := Ground.guard }]).op, (some (3, 16, false))⟩,
    ⟨(opBin (some 19) .gtr 3 (.tmp 18) (.const (Value.int IntKind.i64 200)) 3 4 "law.go:77" #[{ on := 5, ground := Ground.data }, { on := 3, ground := Ground.guard }]).op, (some (3, 16, false))⟩,
    ⟨(opPick (some 20) (.tmp 16) (.const (Value.bool true)) (.tmp 19) 4 "law.go:77" #[{ on := 3, ground := Ground.data }, { on := 6, ground := Ground.data }]).op, none⟩
  ] (by kernel_rfl)))
  (.cond (.tmp 20)
    (.seq (.live [4] (.region 4 [
      ⟨(opAssign (some 4) (.const (Value.bool true)) 4 "law.go:78" #[]).op, none⟩
    ] (by kernel_rfl)))
    (.live [4] .ret))
    .skip))
  (.seq (.live [0, 1, 5] (.region 5 [
    ⟨(opBuildSlice (some 21) 22 0 [] 5 1 1 (.int .u8 0) el22 (by kernel_rfl) (by decide) 22 "law.go:80" #[]).op, none⟩,
    ⟨(opAssign (some 5) (.tmp 21) 22 "law.go:80" #[{ on := 0, ground := Ground.data }, { on := 0, ground := Ground.phase }]).op, none⟩
  ] (by kernel_rfl)))
  (.seq (.seq (.live [0, 1, 5, 6] (.region 6 [
    ⟨(opAssign (some 6) (.const (Value.int IntKind.i64 0)) 3 "law.go:81" #[]).op, none⟩
  ] (by kernel_rfl)))
  (.block 0 (.loop [0, 1, 5, 6] f7_l0)))
  f7_r3)))))

noncomputable def f7 : Fun Try.prog where
  id := 7
  fn := Try.f7
  hf := Try.func7
  hname := by kernel_rfl
  body := f7_b
  hbody := by kernel_rfl
  res := [rTmp 4]
  hres := by kernel_rfl
  n := 101
  hn := by kernel_rfl

end Go.Proofs.Ytjdpfblmhahfkaa.V

/- What the functions' runs come to; the right sides were printed by a tool, Lean checks them. -/
set_option linter.unusedVariables false
set_option maxRecDepth 100000
namespace Go.Proofs.Ytjdpfblmhahfkaa.V
open Go Go.V Go.RowKit

theorem back_run (F : Nat) (a l : List (List AV)) :
    (f7.run F [.sl 1 false a, .sl 1 false l] ⟨[], []⟩ : Ans) =
    branch (AV.bool (decide ((↑a.length : Int) > 500))) (some (Fin.ret (AV.bool true), St.mk [] []))
      (branch (AV.bool (decide ((↑l.length : Int) > 200))) (some (Fin.ret (AV.bool true), St.mk [] []))
        (loopRun (f7_l0.run F) [0, 1, 5, 6]
          (Cont.block 0 (Cont.then (f7_r3.run F (f7.leaveK Fun.done)) (f7.leaveK Fun.done))) F
          (Env.mk 101 [(0, AV.sl 1 false a), (1, AV.sl 1 false l), (5, AV.sl 1 true []), (6, AV.int IntKind.i64 0)])
          (St.mk [] []))) := by kernel_rfl

theorem back_n1 (F : Nat) (l : List (List AV)) :
    (f7.run F [.nilsl, .sl 1 false l] ⟨[], []⟩ : Ans) =
    branch (AV.bool (decide ((↑l.length : Int) > 200))) (some (Fin.ret (AV.bool true), St.mk [] []))
      (loopRun (f7_l0.run F) [0, 1, 5, 6] (Cont.block 0 (Cont.then (f7_r3.run F (f7.leaveK Fun.done)) (f7.leaveK Fun.done)))
        F (Env.mk 101 [(0, AV.nilsl), (1, AV.sl 1 false l), (5, AV.sl 1 true []), (6, AV.int IntKind.i64 0)]) (St.mk [] [])) := by kernel_rfl

theorem back_n2 (F : Nat) (a : List (List AV)) :
    (f7.run F [.sl 1 false a, .nilsl] ⟨[], []⟩ : Ans) =
    branch (AV.bool (decide ((↑a.length : Int) > 500))) (some (Fin.ret (AV.bool true), St.mk [] []))
      (loopRun (f7_l0.run F) [0, 1, 5, 6] (Cont.block 0 (Cont.then (f7_r3.run F (f7.leaveK Fun.done)) (f7.leaveK Fun.done)))
        F (Env.mk 101 [(0, AV.sl 1 false a), (1, AV.nilsl), (5, AV.sl 1 true []), (6, AV.int IntKind.i64 0)]) (St.mk [] [])) := by kernel_rfl

theorem back_nn  :
    (f7.run 20 [.nilsl, .nilsl] ⟨[], []⟩ : Ans) =
    some (Fin.ret (AV.bool true), St.mk [Ob.cells [AV.sl 1 false [], AV.bool false]] [(1, 1)]) := by kernel_rfl

theorem i0_first_raw (F m : Nat) (K : Cont) (y : AV) (i n : Int) (a : List (List AV)) (tk : List (Nat × Nat)) :
    (loopRun (f7_l0.run F) [0, 1, 5, 6] K m.succ (Env.mk 101 [(0, .sl 1 false a), (1, y), (5, .sl 1 true []), (6, .int .i64 i)]) ⟨[], tk⟩ : Ans) =
    branch (AV.bool (decide (i < (↑a.length : Int))))
      (onSome (elemAt a i) none fun (o : List AV) =>
        onCons o none fun (x : AV) (l : List AV) =>
          onSome (dec1i [x]) none fun (o : Int) =>
            branch (AV.bool (i64B o))
              (onCons (rb (intBytes o))
                (loopRun (f7_l0.run F) [0, 1, 5, 6] K m
                  (Env.mk 101
                    [(0, AV.sl 1 false a), (1, y), (5, AV.sl 1 true []),
                      (6, AV.int IntKind.i64 (IntKind.i64.wrap (i + 1)))])
                  (St.mk [] (tk ++ [(1, (intBytes o).length)])))
                fun (x : List AV) (l : List (List AV)) =>
                if (0 + (x :: l).length) * 1 ≤ 140737488355328 then
                  loopRun (f7_l0.run F) [0, 1, 5, 6] K m
                    (Env.mk 101
                      [(0, AV.sl 1 false a), (1, y),
                        (5, AV.lg (St.mk [] (tk ++ [(1, (intBytes o).length)])).tk.length 1 (x :: l)),
                        (6, AV.int IntKind.i64 (IntKind.i64.wrap (i + 1)))])
                    (St.mk [] ((St.mk [] (tk ++ [(1, (intBytes o).length)])).tk ++ [(1, (x :: l).length)]))
                else none)
              none)
      (K (AX.exit 0) (Env.mk 101 [(0, AV.sl 1 false a), (1, y), (5, AV.sl 1 true [])]) (St.mk [] tk)) := by kernel_rfl

theorem i0_first (F m : Nat) (K : Cont) (y : AV) (i n : Int) (a : List (List AV)) (tk : List (Nat × Nat)) (h0 : elemAt a i = some [.int .i64 n]) :
    (loopRun (f7_l0.run F) [0, 1, 5, 6] K m.succ (Env.mk 101 [(0, .sl 1 false a), (1, y), (5, .sl 1 true []), (6, .int .i64 i)]) ⟨[], tk⟩ : Ans) =
    branch (AV.bool (decide (i < (↑a.length : Int))))
      (branch (AV.bool (i64B n))
        (onCons (rb (intBytes n))
          (loopRun (f7_l0.run F) [0, 1, 5, 6] K m
            (Env.mk 101
              [(0, AV.sl 1 false a), (1, y), (5, AV.sl 1 true []), (6, AV.int IntKind.i64 (IntKind.i64.wrap (i + 1)))])
            (St.mk [] (tk ++ [(1, (intBytes n).length)])))
          fun (x : List AV) (l : List (List AV)) =>
          if (0 + (x :: l).length) * 1 ≤ 140737488355328 then
            loopRun (f7_l0.run F) [0, 1, 5, 6] K m
              (Env.mk 101
                [(0, AV.sl 1 false a), (1, y),
                  (5, AV.lg (St.mk [] (tk ++ [(1, (intBytes n).length)])).tk.length 1 (x :: l)),
                  (6, AV.int IntKind.i64 (IntKind.i64.wrap (i + 1)))])
              (St.mk [] ((St.mk [] (tk ++ [(1, (intBytes n).length)])).tk ++ [(1, (x :: l).length)]))
          else none)
        none)
      (K (AX.exit 0) (Env.mk 101 [(0, AV.sl 1 false a), (1, y), (5, AV.sl 1 true [])]) (St.mk [] tk)) := by
  rw [i0_first_raw F m K y i n a tk, h0]
  kernel_rfl

theorem i0_round_raw (F m t : Nat) (K : Cont) (y : AV) (i n : Int) (a lo : List (List AV)) (tk : List (Nat × Nat)) :
    (loopRun (f7_l0.run F) [0, 1, 5, 6] K m.succ (Env.mk 101 [(0, .sl 1 false a), (1, y), (5, .lg t 1 lo), (6, .int .i64 i)]) ⟨[], tk⟩ : Ans) =
    branch (AV.bool (decide (i < (↑a.length : Int))))
      (onSome (elemAt a i) none fun (o : List AV) =>
        onCons o none fun (x : AV) (l : List AV) =>
          onSome (dec1i [x]) none fun (o : Int) =>
            branch (AV.bool (i64B o))
              (if
                  ((fun (n : Int) (st : St) =>
                                (AV.lg st.tk.length 1 (rb (intBytes n)),
                                  St.mk st.objs (st.tk ++ [(1, (intBytes n).length)])))
                              o (St.mk [] tk)).snd.tk[t]? =
                      some (1, lo.length) ∧
                    (lo.length + (rb (intBytes o)).length) * 1 ≤ 140737488355328 then
                loopRun (f7_l0.run F) [0, 1, 5, 6] K m
                  (Env.mk 101
                    [(0, AV.sl 1 false a), (1, y), (5, AV.lg t 1 (lo ++ rb (intBytes o))),
                      (6, AV.int IntKind.i64 (IntKind.i64.wrap (i + 1)))])
                  (St.mk []
                    ((St.mk [] (tk ++ [(1, (intBytes o).length)])).tk.set t (1, lo.length + (rb (intBytes o)).length)))
              else none)
              none)
      (K (AX.exit 0) (Env.mk 101 [(0, AV.sl 1 false a), (1, y), (5, AV.lg t 1 lo)]) (St.mk [] tk)) := by kernel_rfl

theorem i0_round (F m t : Nat) (K : Cont) (y : AV) (i n : Int) (a lo : List (List AV)) (tk : List (Nat × Nat)) (h0 : elemAt a i = some [.int .i64 n]) :
    (loopRun (f7_l0.run F) [0, 1, 5, 6] K m.succ (Env.mk 101 [(0, .sl 1 false a), (1, y), (5, .lg t 1 lo), (6, .int .i64 i)]) ⟨[], tk⟩ : Ans) =
    branch (AV.bool (decide (i < (↑a.length : Int))))
      (branch (AV.bool (i64B n))
        (if
            ((fun (n : Int) (st : St) =>
                          (AV.lg st.tk.length 1 (rb (intBytes n)), St.mk st.objs (st.tk ++ [(1, (intBytes n).length)])))
                        n (St.mk [] tk)).snd.tk[t]? =
                some (1, lo.length) ∧
              (lo.length + (rb (intBytes n)).length) * 1 ≤ 140737488355328 then
          loopRun (f7_l0.run F) [0, 1, 5, 6] K m
            (Env.mk 101
              [(0, AV.sl 1 false a), (1, y), (5, AV.lg t 1 (lo ++ rb (intBytes n))),
                (6, AV.int IntKind.i64 (IntKind.i64.wrap (i + 1)))])
            (St.mk [] ((St.mk [] (tk ++ [(1, (intBytes n).length)])).tk.set t (1, lo.length + (rb (intBytes n)).length)))
        else none)
        none)
      (K (AX.exit 0) (Env.mk 101 [(0, AV.sl 1 false a), (1, y), (5, AV.lg t 1 lo)]) (St.mk [] tk)) := by
  rw [i0_round_raw F m t K y i n a lo tk, h0]
  kernel_rfl

theorem i0_end1_raw (F m : Nat) (K : Cont) (y : AV) (i : Int) (a : List (List AV)) (tk : List (Nat × Nat)) :
    (loopRun (f7_l0.run F) [0, 1, 5, 6] K m.succ (Env.mk 101 [(0, .sl 1 false a), (1, y), (5, .sl 1 true []), (6, .int .i64 i)]) ⟨[], tk⟩ : Ans) =
    branch (AV.bool (decide (i < (↑a.length : Int))))
      (onSome (elemAt a i) none fun (o : List AV) =>
        onCons o none fun (x : AV) (l : List AV) =>
          onSome (dec1i [x]) none fun (o : Int) =>
            branch (AV.bool (i64B o))
              (onCons (rb (intBytes o))
                (loopRun (f7_l0.run F) [0, 1, 5, 6] K m
                  (Env.mk 101
                    [(0, AV.sl 1 false a), (1, y), (5, AV.sl 1 true []),
                      (6, AV.int IntKind.i64 (IntKind.i64.wrap (i + 1)))])
                  (St.mk [] (tk ++ [(1, (intBytes o).length)])))
                fun (x : List AV) (l : List (List AV)) =>
                if (0 + (x :: l).length) * 1 ≤ 140737488355328 then
                  loopRun (f7_l0.run F) [0, 1, 5, 6] K m
                    (Env.mk 101
                      [(0, AV.sl 1 false a), (1, y),
                        (5, AV.lg (St.mk [] (tk ++ [(1, (intBytes o).length)])).tk.length 1 (x :: l)),
                        (6, AV.int IntKind.i64 (IntKind.i64.wrap (i + 1)))])
                    (St.mk [] ((St.mk [] (tk ++ [(1, (intBytes o).length)])).tk ++ [(1, (x :: l).length)]))
                else none)
              none)
      (K (AX.exit 0) (Env.mk 101 [(0, AV.sl 1 false a), (1, y), (5, AV.sl 1 true [])]) (St.mk [] tk)) := by kernel_rfl

theorem i0_end1 (F m : Nat) (K : Cont) (y : AV) (i : Int) (a : List (List AV)) (tk : List (Nat × Nat)) (h0 : decide (i < (a.length : Int)) = false) :
    (loopRun (f7_l0.run F) [0, 1, 5, 6] K m.succ (Env.mk 101 [(0, .sl 1 false a), (1, y), (5, .sl 1 true []), (6, .int .i64 i)]) ⟨[], tk⟩ : Ans) =
    K (AX.exit 0) (Env.mk 101 [(0, AV.sl 1 false a), (1, y), (5, AV.sl 1 true [])]) (St.mk [] tk) := by
  rw [i0_end1_raw F m K y i a tk, h0]
  kernel_rfl

theorem i0_end2_raw (F m t : Nat) (K : Cont) (y : AV) (i : Int) (a : List (List AV)) (lo : List (List AV)) (tk : List (Nat × Nat)) :
    (loopRun (f7_l0.run F) [0, 1, 5, 6] K m.succ (Env.mk 101 [(0, .sl 1 false a), (1, y), (5, .lg t 1 lo), (6, .int .i64 i)]) ⟨[], tk⟩ : Ans) =
    branch (AV.bool (decide (i < (↑a.length : Int))))
      (onSome (elemAt a i) none fun (o : List AV) =>
        onCons o none fun (x : AV) (l : List AV) =>
          onSome (dec1i [x]) none fun (o : Int) =>
            branch (AV.bool (i64B o))
              (if
                  ((fun (n : Int) (st : St) =>
                                (AV.lg st.tk.length 1 (rb (intBytes n)),
                                  St.mk st.objs (st.tk ++ [(1, (intBytes n).length)])))
                              o (St.mk [] tk)).snd.tk[t]? =
                      some (1, lo.length) ∧
                    (lo.length + (rb (intBytes o)).length) * 1 ≤ 140737488355328 then
                loopRun (f7_l0.run F) [0, 1, 5, 6] K m
                  (Env.mk 101
                    [(0, AV.sl 1 false a), (1, y), (5, AV.lg t 1 (lo ++ rb (intBytes o))),
                      (6, AV.int IntKind.i64 (IntKind.i64.wrap (i + 1)))])
                  (St.mk []
                    ((St.mk [] (tk ++ [(1, (intBytes o).length)])).tk.set t (1, lo.length + (rb (intBytes o)).length)))
              else none)
              none)
      (K (AX.exit 0) (Env.mk 101 [(0, AV.sl 1 false a), (1, y), (5, AV.lg t 1 lo)]) (St.mk [] tk)) := by kernel_rfl

theorem i0_end2 (F m t : Nat) (K : Cont) (y : AV) (i : Int) (a : List (List AV)) (lo : List (List AV)) (tk : List (Nat × Nat)) (h0 : decide (i < (a.length : Int)) = false) :
    (loopRun (f7_l0.run F) [0, 1, 5, 6] K m.succ (Env.mk 101 [(0, .sl 1 false a), (1, y), (5, .lg t 1 lo), (6, .int .i64 i)]) ⟨[], tk⟩ : Ans) =
    K (AX.exit 0) (Env.mk 101 [(0, AV.sl 1 false a), (1, y), (5, AV.lg t 1 lo)]) (St.mk [] tk) := by
  rw [i0_end2_raw F m t K y i a lo tk, h0]
  kernel_rfl

theorem i0_nil (F m : Nat) (K : Cont) (y o : AV) (st : St) :
    (loopRun (f7_l0.run F) [0, 1, 5, 6] K m.succ (Env.mk 101 [(0, .nilsl), (1, y), (5, o), (6, .int .i64 0)]) st : Ans) =
    K (AX.exit 0) (Env.mk 101 [(0, AV.nilsl), (1, y), (5, o)]) st := by kernel_rfl

theorem i0_out (F : Nat) (x y o : AV) (st : St) :
    ((Cont.block 0 (Cont.then (f7_r3.run F (f7.leaveK Fun.done)) (f7.leaveK Fun.done))) (.exit 0) (Env.mk 101 [(0, x), (1, y), (5, o)]) st : Ans) =
    loopRun (f7_l1.run F) [0, 1, 5, 7] (Cont.block 2 (Cont.then (f7_r2.run F (f7.leaveK Fun.done)) (f7.leaveK Fun.done))) F
      (Env.mk 101 [(0, x), (1, y), (5, o), (7, AV.int IntKind.i64 0)]) st := by kernel_rfl

theorem i0_ret (F : Nat) (st : St) :
    ((Cont.block 0 (Cont.then (f7_r3.run F (f7.leaveK Fun.done)) (f7.leaveK Fun.done))) .ret (Env.mk 101 [(4, .bool true)]) st : Ans) =
    some (Fin.ret (AV.bool true), st) := by kernel_rfl

theorem t1_first_raw (F m : Nat) (K : Cont) (x : AV) (i : Int) (s : ByteArray) (l : List (List AV)) (tk : List (Nat × Nat)) :
    (loopRun (f7_l1.run F) [0, 1, 5, 7] K m.succ (Env.mk 101 [(0, x), (1, .sl 1 false l), (5, .sl 1 true []), (7, .int .i64 i)]) ⟨[], tk⟩ : Ans) =
    branch (AV.bool (decide (i < (↑l.length : Int))))
      (onSome (elemAt l i) none fun (o : List AV) =>
        onCons o none fun (x_1 : AV) (l_1 : List AV) =>
          onStr x_1 fun (a : ByteArray) =>
            branch (AV.bool (decide ((↑a.size : Int) > 5000))) (K AX.ret (Env.mk 101 [(4, AV.bool true)]) (St.mk [] tk))
              (onSome (elemAt l i) none fun (o : List AV) =>
                onCons o none fun (x_2 : AV) (l_2 : List AV) =>
                  onSome (dec1s [x_2]) none fun (o : ByteArray) =>
                    branch (AV.bool (shortS o))
                      (onCons (rb (textBytes o))
                        (loopRun (f7_l1.run F) [0, 1, 5, 7] K m
                          (Env.mk 101
                            [(0, x), (1, AV.sl 1 false l), (5, AV.sl 1 true []),
                              (7, AV.int IntKind.i64 (IntKind.i64.wrap (i + 1)))])
                          (St.mk [] (tk ++ [(1, (textBytes o).length)])))
                        fun (x_3 : List AV) (l_3 : List (List AV)) =>
                        if (0 + (x_3 :: l_3).length) * 1 ≤ 140737488355328 then
                          loopRun (f7_l1.run F) [0, 1, 5, 7] K m
                            (Env.mk 101
                              [(0, x), (1, AV.sl 1 false l),
                                (5, AV.lg (St.mk [] (tk ++ [(1, (textBytes o).length)])).tk.length 1 (x_3 :: l_3)),
                                (7, AV.int IntKind.i64 (IntKind.i64.wrap (i + 1)))])
                            (St.mk [] ((St.mk [] (tk ++ [(1, (textBytes o).length)])).tk ++ [(1, (x_3 :: l_3).length)]))
                        else none)
                      none))
      (K (AX.exit 2) (Env.mk 101 [(0, x), (1, AV.sl 1 false l), (5, AV.sl 1 true [])]) (St.mk [] tk)) := by kernel_rfl

theorem t1_first (F m : Nat) (K : Cont) (x : AV) (i : Int) (s : ByteArray) (l : List (List AV)) (tk : List (Nat × Nat)) (h0 : elemAt l i = some [.str s]) :
    (loopRun (f7_l1.run F) [0, 1, 5, 7] K m.succ (Env.mk 101 [(0, x), (1, .sl 1 false l), (5, .sl 1 true []), (7, .int .i64 i)]) ⟨[], tk⟩ : Ans) =
    branch (AV.bool (decide (i < (↑l.length : Int))))
      (branch (AV.bool (decide ((↑s.size : Int) > 5000))) (K AX.ret (Env.mk 101 [(4, AV.bool true)]) (St.mk [] tk))
        (branch (AV.bool (shortS s))
          (onCons (rb (textBytes s))
            (loopRun (f7_l1.run F) [0, 1, 5, 7] K m
              (Env.mk 101
                [(0, x), (1, AV.sl 1 false l), (5, AV.sl 1 true []), (7, AV.int IntKind.i64 (IntKind.i64.wrap (i + 1)))])
              (St.mk [] (tk ++ [(1, (textBytes s).length)])))
            fun (x_1 : List AV) (l_1 : List (List AV)) =>
            if (0 + (x_1 :: l_1).length) * 1 ≤ 140737488355328 then
              loopRun (f7_l1.run F) [0, 1, 5, 7] K m
                (Env.mk 101
                  [(0, x), (1, AV.sl 1 false l),
                    (5, AV.lg (St.mk [] (tk ++ [(1, (textBytes s).length)])).tk.length 1 (x_1 :: l_1)),
                    (7, AV.int IntKind.i64 (IntKind.i64.wrap (i + 1)))])
                (St.mk [] ((St.mk [] (tk ++ [(1, (textBytes s).length)])).tk ++ [(1, (x_1 :: l_1).length)]))
            else none)
          none))
      (K (AX.exit 2) (Env.mk 101 [(0, x), (1, AV.sl 1 false l), (5, AV.sl 1 true [])]) (St.mk [] tk)) := by
  rw [t1_first_raw F m K x i s l tk, h0]
  kernel_rfl

theorem t1_round_raw (F m t : Nat) (K : Cont) (x : AV) (i : Int) (s : ByteArray) (l lo : List (List AV)) (tk : List (Nat × Nat)) :
    (loopRun (f7_l1.run F) [0, 1, 5, 7] K m.succ (Env.mk 101 [(0, x), (1, .sl 1 false l), (5, .lg t 1 lo), (7, .int .i64 i)]) ⟨[], tk⟩ : Ans) =
    branch (AV.bool (decide (i < (↑l.length : Int))))
      (onSome (elemAt l i) none fun (o : List AV) =>
        onCons o none fun (x_1 : AV) (l_1 : List AV) =>
          onStr x_1 fun (a : ByteArray) =>
            branch (AV.bool (decide ((↑a.size : Int) > 5000))) (K AX.ret (Env.mk 101 [(4, AV.bool true)]) (St.mk [] tk))
              (onSome (elemAt l i) none fun (o : List AV) =>
                onCons o none fun (x_2 : AV) (l_2 : List AV) =>
                  onSome (dec1s [x_2]) none fun (o : ByteArray) =>
                    branch (AV.bool (shortS o))
                      (if
                          ((fun (s : ByteArray) (st : St) =>
                                        (AV.lg st.tk.length 1 (rb (textBytes s)),
                                          St.mk st.objs (st.tk ++ [(1, (textBytes s).length)])))
                                      o (St.mk [] tk)).snd.tk[t]? =
                              some (1, lo.length) ∧
                            (lo.length + (rb (textBytes o)).length) * 1 ≤ 140737488355328 then
                        loopRun (f7_l1.run F) [0, 1, 5, 7] K m
                          (Env.mk 101
                            [(0, x), (1, AV.sl 1 false l), (5, AV.lg t 1 (lo ++ rb (textBytes o))),
                              (7, AV.int IntKind.i64 (IntKind.i64.wrap (i + 1)))])
                          (St.mk []
                            ((St.mk [] (tk ++ [(1, (textBytes o).length)])).tk.set t
                              (1, lo.length + (rb (textBytes o)).length)))
                      else none)
                      none))
      (K (AX.exit 2) (Env.mk 101 [(0, x), (1, AV.sl 1 false l), (5, AV.lg t 1 lo)]) (St.mk [] tk)) := by kernel_rfl

theorem t1_round (F m t : Nat) (K : Cont) (x : AV) (i : Int) (s : ByteArray) (l lo : List (List AV)) (tk : List (Nat × Nat)) (h0 : elemAt l i = some [.str s]) :
    (loopRun (f7_l1.run F) [0, 1, 5, 7] K m.succ (Env.mk 101 [(0, x), (1, .sl 1 false l), (5, .lg t 1 lo), (7, .int .i64 i)]) ⟨[], tk⟩ : Ans) =
    branch (AV.bool (decide (i < (↑l.length : Int))))
      (branch (AV.bool (decide ((↑s.size : Int) > 5000))) (K AX.ret (Env.mk 101 [(4, AV.bool true)]) (St.mk [] tk))
        (branch (AV.bool (shortS s))
          (if
              ((fun (s : ByteArray) (st : St) =>
                            (AV.lg st.tk.length 1 (rb (textBytes s)), St.mk st.objs (st.tk ++ [(1, (textBytes s).length)])))
                          s (St.mk [] tk)).snd.tk[t]? =
                  some (1, lo.length) ∧
                (lo.length + (rb (textBytes s)).length) * 1 ≤ 140737488355328 then
            loopRun (f7_l1.run F) [0, 1, 5, 7] K m
              (Env.mk 101
                [(0, x), (1, AV.sl 1 false l), (5, AV.lg t 1 (lo ++ rb (textBytes s))),
                  (7, AV.int IntKind.i64 (IntKind.i64.wrap (i + 1)))])
              (St.mk []
                ((St.mk [] (tk ++ [(1, (textBytes s).length)])).tk.set t (1, lo.length + (rb (textBytes s)).length)))
          else none)
          none))
      (K (AX.exit 2) (Env.mk 101 [(0, x), (1, AV.sl 1 false l), (5, AV.lg t 1 lo)]) (St.mk [] tk)) := by
  rw [t1_round_raw F m t K x i s l lo tk, h0]
  kernel_rfl

theorem t1_end1_raw (F m : Nat) (K : Cont) (x : AV) (i : Int) (l : List (List AV)) (tk : List (Nat × Nat)) :
    (loopRun (f7_l1.run F) [0, 1, 5, 7] K m.succ (Env.mk 101 [(0, x), (1, .sl 1 false l), (5, .sl 1 true []), (7, .int .i64 i)]) ⟨[], tk⟩ : Ans) =
    branch (AV.bool (decide (i < (↑l.length : Int))))
      (onSome (elemAt l i) none fun (o : List AV) =>
        onCons o none fun (x_1 : AV) (l_1 : List AV) =>
          onStr x_1 fun (a : ByteArray) =>
            branch (AV.bool (decide ((↑a.size : Int) > 5000))) (K AX.ret (Env.mk 101 [(4, AV.bool true)]) (St.mk [] tk))
              (onSome (elemAt l i) none fun (o : List AV) =>
                onCons o none fun (x_2 : AV) (l_2 : List AV) =>
                  onSome (dec1s [x_2]) none fun (o : ByteArray) =>
                    branch (AV.bool (shortS o))
                      (onCons (rb (textBytes o))
                        (loopRun (f7_l1.run F) [0, 1, 5, 7] K m
                          (Env.mk 101
                            [(0, x), (1, AV.sl 1 false l), (5, AV.sl 1 true []),
                              (7, AV.int IntKind.i64 (IntKind.i64.wrap (i + 1)))])
                          (St.mk [] (tk ++ [(1, (textBytes o).length)])))
                        fun (x_3 : List AV) (l_3 : List (List AV)) =>
                        if (0 + (x_3 :: l_3).length) * 1 ≤ 140737488355328 then
                          loopRun (f7_l1.run F) [0, 1, 5, 7] K m
                            (Env.mk 101
                              [(0, x), (1, AV.sl 1 false l),
                                (5, AV.lg (St.mk [] (tk ++ [(1, (textBytes o).length)])).tk.length 1 (x_3 :: l_3)),
                                (7, AV.int IntKind.i64 (IntKind.i64.wrap (i + 1)))])
                            (St.mk [] ((St.mk [] (tk ++ [(1, (textBytes o).length)])).tk ++ [(1, (x_3 :: l_3).length)]))
                        else none)
                      none))
      (K (AX.exit 2) (Env.mk 101 [(0, x), (1, AV.sl 1 false l), (5, AV.sl 1 true [])]) (St.mk [] tk)) := by kernel_rfl

theorem t1_end1 (F m : Nat) (K : Cont) (x : AV) (i : Int) (l : List (List AV)) (tk : List (Nat × Nat)) (h0 : decide (i < (l.length : Int)) = false) :
    (loopRun (f7_l1.run F) [0, 1, 5, 7] K m.succ (Env.mk 101 [(0, x), (1, .sl 1 false l), (5, .sl 1 true []), (7, .int .i64 i)]) ⟨[], tk⟩ : Ans) =
    K (AX.exit 2) (Env.mk 101 [(0, x), (1, AV.sl 1 false l), (5, AV.sl 1 true [])]) (St.mk [] tk) := by
  rw [t1_end1_raw F m K x i l tk, h0]
  kernel_rfl

theorem t1_end2_raw (F m t : Nat) (K : Cont) (x : AV) (i : Int) (l : List (List AV)) (lo : List (List AV)) (tk : List (Nat × Nat)) :
    (loopRun (f7_l1.run F) [0, 1, 5, 7] K m.succ (Env.mk 101 [(0, x), (1, .sl 1 false l), (5, .lg t 1 lo), (7, .int .i64 i)]) ⟨[], tk⟩ : Ans) =
    branch (AV.bool (decide (i < (↑l.length : Int))))
      (onSome (elemAt l i) none fun (o : List AV) =>
        onCons o none fun (x_1 : AV) (l_1 : List AV) =>
          onStr x_1 fun (a : ByteArray) =>
            branch (AV.bool (decide ((↑a.size : Int) > 5000))) (K AX.ret (Env.mk 101 [(4, AV.bool true)]) (St.mk [] tk))
              (onSome (elemAt l i) none fun (o : List AV) =>
                onCons o none fun (x_2 : AV) (l_2 : List AV) =>
                  onSome (dec1s [x_2]) none fun (o : ByteArray) =>
                    branch (AV.bool (shortS o))
                      (if
                          ((fun (s : ByteArray) (st : St) =>
                                        (AV.lg st.tk.length 1 (rb (textBytes s)),
                                          St.mk st.objs (st.tk ++ [(1, (textBytes s).length)])))
                                      o (St.mk [] tk)).snd.tk[t]? =
                              some (1, lo.length) ∧
                            (lo.length + (rb (textBytes o)).length) * 1 ≤ 140737488355328 then
                        loopRun (f7_l1.run F) [0, 1, 5, 7] K m
                          (Env.mk 101
                            [(0, x), (1, AV.sl 1 false l), (5, AV.lg t 1 (lo ++ rb (textBytes o))),
                              (7, AV.int IntKind.i64 (IntKind.i64.wrap (i + 1)))])
                          (St.mk []
                            ((St.mk [] (tk ++ [(1, (textBytes o).length)])).tk.set t
                              (1, lo.length + (rb (textBytes o)).length)))
                      else none)
                      none))
      (K (AX.exit 2) (Env.mk 101 [(0, x), (1, AV.sl 1 false l), (5, AV.lg t 1 lo)]) (St.mk [] tk)) := by kernel_rfl

theorem t1_end2 (F m t : Nat) (K : Cont) (x : AV) (i : Int) (l : List (List AV)) (lo : List (List AV)) (tk : List (Nat × Nat)) (h0 : decide (i < (l.length : Int)) = false) :
    (loopRun (f7_l1.run F) [0, 1, 5, 7] K m.succ (Env.mk 101 [(0, x), (1, .sl 1 false l), (5, .lg t 1 lo), (7, .int .i64 i)]) ⟨[], tk⟩ : Ans) =
    K (AX.exit 2) (Env.mk 101 [(0, x), (1, AV.sl 1 false l), (5, AV.lg t 1 lo)]) (St.mk [] tk) := by
  rw [t1_end2_raw F m t K x i l lo tk, h0]
  kernel_rfl

theorem t1_nil (F m : Nat) (K : Cont) (x o : AV) (st : St) :
    (loopRun (f7_l1.run F) [0, 1, 5, 7] K m.succ (Env.mk 101 [(0, x), (1, .nilsl), (5, o), (7, .int .i64 0)]) st : Ans) =
    K (AX.exit 2) (Env.mk 101 [(0, x), (1, AV.nilsl), (5, o)]) st := by kernel_rfl

theorem t1_outA (F t : Nat) (x : AV) (l lo : List (List AV)) (tk : List (Nat × Nat)) :
    ((Cont.block 2 (Cont.then (f7_r2.run F (f7.leaveK Fun.done)) (f7.leaveK Fun.done))) (.exit 2) (Env.mk 101 [(0, x), (1, .sl 1 false l), (5, .lg t 1 lo)]) ⟨[], tk⟩ : Ans) =
    branch (AV.bool (fitT (Br.sl false l)))
      (if
          (St.mk [] tk).tk[t]? = some (1, lo.length) ∧
            (lo.length + (rb (textsBytes (sR l))).length) * 1 ≤ 140737488355328 then
        branch (AV.bool (fit (Br.sl false (lo ++ rb (textsBytes (sR (Br.sl false l).list))))))
          (loopRun (f7_l2.run F) [0, 1, 8, 9]
            (Cont.block 4 (Cont.then (f7_r1.run F (f7.leaveK Fun.done)) (f7.leaveK Fun.done))) F
            (Env.mk 101 [(0, x), (1, AV.sl 1 false l), (8, AV.ptr 0 0), (9, AV.int IntKind.i64 0)])
            (St.mk [Ob.cells [AV.sl 1 (lo ++ rb (textsBytes (sR l))).isEmpty (lo ++ rb (textsBytes (sR l))), AV.bool false]]
              (St.mk [] (tk.set t (1, lo.length + (rb (textsBytes (sR l))).length))).tk))
          none
      else none)
      none := by kernel_rfl

theorem t1_outB (F t : Nat) (x : AV) (lo : List (List AV)) (tk : List (Nat × Nat)) :
    ((Cont.block 2 (Cont.then (f7_r2.run F (f7.leaveK Fun.done)) (f7.leaveK Fun.done))) (.exit 2) (Env.mk 101 [(0, x), (1, .nilsl), (5, .lg t 1 lo)]) ⟨[], tk⟩ : Ans) =
    if (St.mk [] tk).tk[t]? = some (1, lo.length) ∧ (lo.length + 1) * 1 ≤ 140737488355328 then
      branch (AV.bool (fit (Br.sl false (lo ++ rb (textsBytes (sR Br.nil.list))))))
        (loopRun (f7_l2.run F) [0, 1, 8, 9]
          (Cont.block 4 (Cont.then (f7_r1.run F (f7.leaveK Fun.done)) (f7.leaveK Fun.done))) F
          (Env.mk 101 [(0, x), (1, AV.nilsl), (8, AV.ptr 0 0), (9, AV.int IntKind.i64 0)])
          (St.mk [Ob.cells [AV.sl 1 (lo ++ [[AV.int IntKind.u8 0]]).isEmpty (lo ++ [[AV.int IntKind.u8 0]]), AV.bool false]]
            (St.mk [] (tk.set t (1, lo.length + 1))).tk))
        none
    else none := by kernel_rfl

theorem t1_outC (F : Nat) (x : AV) (l : List (List AV)) (tk : List (Nat × Nat)) :
    ((Cont.block 2 (Cont.then (f7_r2.run F (f7.leaveK Fun.done)) (f7.leaveK Fun.done))) (.exit 2) (Env.mk 101 [(0, x), (1, .sl 1 false l), (5, .sl 1 true [])]) ⟨[], tk⟩ : Ans) =
    branch (AV.bool (fitT (Br.sl false l)))
      (onCons (rb (textsBytes (sR l)))
        (loopRun (f7_l2.run F) [0, 1, 8, 9]
          (Cont.block 4 (Cont.then (f7_r1.run F (f7.leaveK Fun.done)) (f7.leaveK Fun.done))) F
          (Env.mk 101 [(0, x), (1, AV.sl 1 false l), (8, AV.ptr 0 0), (9, AV.int IntKind.i64 0)])
          (St.mk [Ob.cells [AV.sl 1 true [], AV.bool false]] tk))
        fun (x_1 : List AV) (l_1 : List (List AV)) =>
        if (0 + (x_1 :: l_1).length) * 1 ≤ 140737488355328 then
          branch (AV.bool (fit (Br.sl false ([] ++ x_1 :: l_1))))
            (loopRun (f7_l2.run F) [0, 1, 8, 9]
              (Cont.block 4 (Cont.then (f7_r1.run F (f7.leaveK Fun.done)) (f7.leaveK Fun.done))) F
              (Env.mk 101 [(0, x), (1, AV.sl 1 false l), (8, AV.ptr 0 0), (9, AV.int IntKind.i64 0)])
              (St.mk [Ob.cells [AV.sl 1 false (x_1 :: l_1), AV.bool false]]
                (St.mk [] (tk ++ [(1, (x_1 :: l_1).length)])).tk))
            none
        else none)
      none := by kernel_rfl

theorem t1_outD (F : Nat) (x : AV) (tk : List (Nat × Nat)) :
    ((Cont.block 2 (Cont.then (f7_r2.run F (f7.leaveK Fun.done)) (f7.leaveK Fun.done))) (.exit 2) (Env.mk 101 [(0, x), (1, .nilsl), (5, .sl 1 true [])]) ⟨[], tk⟩ : Ans) =
    loopRun (f7_l2.run F) [0, 1, 8, 9] (Cont.block 4 (Cont.then (f7_r1.run F (f7.leaveK Fun.done)) (f7.leaveK Fun.done))) F
      (Env.mk 101 [(0, x), (1, AV.nilsl), (8, AV.ptr 0 0), (9, AV.int IntKind.i64 0)])
      (St.mk [Ob.cells [AV.sl 1 false [[AV.int IntKind.u8 0]], AV.bool false]] (St.mk [] (tk ++ [(1, 1)])).tk) := by kernel_rfl

theorem t1_ret (F : Nat) (st : St) :
    ((Cont.block 2 (Cont.then (f7_r2.run F (f7.leaveK Fun.done)) (f7.leaveK Fun.done))) .ret (Env.mk 101 [(4, .bool true)]) st : Ans) =
    some (Fin.ret (AV.bool true), st) := by kernel_rfl

theorem i2_round_raw (F m : Nat) (K : Cont) (y : AV) (i n : Int) (f : Bool) (a r : List (List AV)) (tk : List (Nat × Nat)) :
    (loopRun (f7_l2.run F) [0, 1, 8, 9] K m.succ (Env.mk 101 [(0, .sl 1 false a), (1, y), (8, .ptr 0 0), (9, .int .i64 i)]) ⟨[.cells [.sl 1 f r, .bool false]], tk⟩ : Ans) =
    branch (AV.bool (decide (i < (↑a.length : Int))))
      (branch (AV.bool (fit (Br.sl f r)))
        (onSome (getN (nR r))
          (onSome (elemAt a i) none fun (o : List AV) =>
            onCons o none fun (x : AV) (l : List AV) =>
              onInt x fun (a_1 : IntKind) (a_2 : Int) =>
                if IntKind.i64 = a_1 then
                  branch (AV.bool (0 != a_2))
                    (K AX.ret (Env.mk 101 [(4, AV.bool false)]) (St.mk [Ob.cells [AV.nilsl, AV.bool true]] tk))
                    (loopRun (f7_l2.run F) [0, 1, 8, 9] K m
                      (Env.mk 101
                        [(0, AV.sl 1 false a), (1, y), (8, AV.ptr 0 0), (9, AV.int IntKind.i64 (IntKind.i64.wrap (i + 1)))])
                      (St.mk [Ob.cells [AV.nilsl, AV.bool true]] tk))
                else none)
          fun (o : Int × Nat) =>
          onSome (elemAt a i) none fun (o_1 : List AV) =>
            onCons o_1 none fun (x : AV) (l : List AV) =>
              onInt x fun (a_1 : IntKind) (a_2 : Int) =>
                if IntKind.i64 = a_1 then
                  branch (AV.bool (o.fst != a_2))
                    (K AX.ret (Env.mk 101 [(4, AV.bool false)])
                      (St.mk [Ob.cells [AV.sl 1 f (List.drop o.snd r), AV.bool false]] tk))
                    (loopRun (f7_l2.run F) [0, 1, 8, 9] K m
                      (Env.mk 101
                        [(0, AV.sl 1 false a), (1, y), (8, AV.ptr 0 0), (9, AV.int IntKind.i64 (IntKind.i64.wrap (i + 1)))])
                      (St.mk [Ob.cells [AV.sl 1 f (List.drop o.snd r), AV.bool false]] tk))
                else none)
        none)
      (K (AX.exit 4) (Env.mk 101 [(1, y), (8, AV.ptr 0 0)]) (St.mk [Ob.cells [AV.sl 1 f r, AV.bool false]] tk)) := by kernel_rfl

theorem i2_round (F m : Nat) (K : Cont) (y : AV) (i n : Int) (f : Bool) (a r : List (List AV)) (tk : List (Nat × Nat)) (h0 : elemAt a i = some [.int .i64 n]) :
    (loopRun (f7_l2.run F) [0, 1, 8, 9] K m.succ (Env.mk 101 [(0, .sl 1 false a), (1, y), (8, .ptr 0 0), (9, .int .i64 i)]) ⟨[.cells [.sl 1 f r, .bool false]], tk⟩ : Ans) =
    branch (AV.bool (decide (i < (↑a.length : Int))))
      (branch (AV.bool (fit (Br.sl f r)))
        (onSome (getN (nR r))
          (branch (AV.bool (0 != n))
            (K AX.ret (Env.mk 101 [(4, AV.bool false)]) (St.mk [Ob.cells [AV.nilsl, AV.bool true]] tk))
            (loopRun (f7_l2.run F) [0, 1, 8, 9] K m
              (Env.mk 101
                [(0, AV.sl 1 false a), (1, y), (8, AV.ptr 0 0), (9, AV.int IntKind.i64 (IntKind.i64.wrap (i + 1)))])
              (St.mk [Ob.cells [AV.nilsl, AV.bool true]] tk)))
          fun (o : Int × Nat) =>
          branch (AV.bool (o.fst != n))
            (K AX.ret (Env.mk 101 [(4, AV.bool false)])
              (St.mk [Ob.cells [AV.sl 1 f (List.drop o.snd r), AV.bool false]] tk))
            (loopRun (f7_l2.run F) [0, 1, 8, 9] K m
              (Env.mk 101
                [(0, AV.sl 1 false a), (1, y), (8, AV.ptr 0 0), (9, AV.int IntKind.i64 (IntKind.i64.wrap (i + 1)))])
              (St.mk [Ob.cells [AV.sl 1 f (List.drop o.snd r), AV.bool false]] tk)))
        none)
      (K (AX.exit 4) (Env.mk 101 [(1, y), (8, AV.ptr 0 0)]) (St.mk [Ob.cells [AV.sl 1 f r, AV.bool false]] tk)) := by
  rw [i2_round_raw F m K y i n f a r tk, h0]
  kernel_rfl

theorem i2_end_raw (F m : Nat) (K : Cont) (y : AV) (i : Int) (f : Bool) (a r : List (List AV)) (tk : List (Nat × Nat)) :
    (loopRun (f7_l2.run F) [0, 1, 8, 9] K m.succ (Env.mk 101 [(0, .sl 1 false a), (1, y), (8, .ptr 0 0), (9, .int .i64 i)]) ⟨[.cells [.sl 1 f r, .bool false]], tk⟩ : Ans) =
    branch (AV.bool (decide (i < (↑a.length : Int))))
      (branch (AV.bool (fit (Br.sl f r)))
        (onSome (getN (nR r))
          (onSome (elemAt a i) none fun (o : List AV) =>
            onCons o none fun (x : AV) (l : List AV) =>
              onInt x fun (a_1 : IntKind) (a_2 : Int) =>
                if IntKind.i64 = a_1 then
                  branch (AV.bool (0 != a_2))
                    (K AX.ret (Env.mk 101 [(4, AV.bool false)]) (St.mk [Ob.cells [AV.nilsl, AV.bool true]] tk))
                    (loopRun (f7_l2.run F) [0, 1, 8, 9] K m
                      (Env.mk 101
                        [(0, AV.sl 1 false a), (1, y), (8, AV.ptr 0 0), (9, AV.int IntKind.i64 (IntKind.i64.wrap (i + 1)))])
                      (St.mk [Ob.cells [AV.nilsl, AV.bool true]] tk))
                else none)
          fun (o : Int × Nat) =>
          onSome (elemAt a i) none fun (o_1 : List AV) =>
            onCons o_1 none fun (x : AV) (l : List AV) =>
              onInt x fun (a_1 : IntKind) (a_2 : Int) =>
                if IntKind.i64 = a_1 then
                  branch (AV.bool (o.fst != a_2))
                    (K AX.ret (Env.mk 101 [(4, AV.bool false)])
                      (St.mk [Ob.cells [AV.sl 1 f (List.drop o.snd r), AV.bool false]] tk))
                    (loopRun (f7_l2.run F) [0, 1, 8, 9] K m
                      (Env.mk 101
                        [(0, AV.sl 1 false a), (1, y), (8, AV.ptr 0 0), (9, AV.int IntKind.i64 (IntKind.i64.wrap (i + 1)))])
                      (St.mk [Ob.cells [AV.sl 1 f (List.drop o.snd r), AV.bool false]] tk))
                else none)
        none)
      (K (AX.exit 4) (Env.mk 101 [(1, y), (8, AV.ptr 0 0)]) (St.mk [Ob.cells [AV.sl 1 f r, AV.bool false]] tk)) := by kernel_rfl

theorem i2_end (F m : Nat) (K : Cont) (y : AV) (i : Int) (f : Bool) (a r : List (List AV)) (tk : List (Nat × Nat)) (h0 : decide (i < (a.length : Int)) = false) :
    (loopRun (f7_l2.run F) [0, 1, 8, 9] K m.succ (Env.mk 101 [(0, .sl 1 false a), (1, y), (8, .ptr 0 0), (9, .int .i64 i)]) ⟨[.cells [.sl 1 f r, .bool false]], tk⟩ : Ans) =
    K (AX.exit 4) (Env.mk 101 [(1, y), (8, AV.ptr 0 0)]) (St.mk [Ob.cells [AV.sl 1 f r, AV.bool false]] tk) := by
  rw [i2_end_raw F m K y i f a r tk, h0]
  kernel_rfl

theorem i2_nil (F m : Nat) (K : Cont) (y : AV) (f : Bool) (r : List (List AV)) (tk : List (Nat × Nat)) :
    (loopRun (f7_l2.run F) [0, 1, 8, 9] K m.succ (Env.mk 101 [(0, .nilsl), (1, y), (8, .ptr 0 0), (9, .int .i64 0)]) ⟨[.cells [.sl 1 f r, .bool false]], tk⟩ : Ans) =
    K (AX.exit 4) (Env.mk 101 [(1, y), (8, AV.ptr 0 0)]) (St.mk [Ob.cells [AV.sl 1 f r, AV.bool false]] tk) := by kernel_rfl

theorem i2_out (F : Nat) (y : AV) (st : St) :
    ((Cont.block 4 (Cont.then (f7_r1.run F (f7.leaveK Fun.done)) (f7.leaveK Fun.done))) (.exit 4) (Env.mk 101 [(1, y), (8, .ptr 0 0)]) st : Ans) =
    loopRun (f7_l3.run F) [1, 8, 10] (Cont.block 6 (Cont.then (f7_r0.run F (f7.leaveK Fun.done)) (f7.leaveK Fun.done))) F
      (Env.mk 101 [(1, y), (8, AV.ptr 0 0), (10, AV.int IntKind.i64 0)]) st := by kernel_rfl

theorem t3_round_raw (F m : Nat) (K : Cont) (i : Int) (s : ByteArray) (f : Bool) (l r : List (List AV)) (tk : List (Nat × Nat)) :
    (loopRun (f7_l3.run F) [1, 8, 10] K m.succ (Env.mk 101 [(1, .sl 1 false l), (8, .ptr 0 0), (10, .int .i64 i)]) ⟨[.cells [.sl 1 f r, .bool false]], tk⟩ : Ans) =
    branch (AV.bool (decide (i < (↑l.length : Int))))
      (branch (AV.bool (fit (Br.sl f r)))
        (onSome (getS (nR r))
          (onSome (elemAt l i) none fun (o : List AV) =>
            onCons o none fun (x : AV) (l_1 : List AV) =>
              onStr x fun (a : ByteArray) =>
                branch (AV.bool ![] == a.toList)
                  (K AX.ret (Env.mk 101 [(4, AV.bool false)]) (St.mk [Ob.cells [AV.nilsl, AV.bool true]] tk))
                  (loopRun (f7_l3.run F) [1, 8, 10] K m
                    (Env.mk 101
                      [(1, AV.sl 1 false l), (8, AV.ptr 0 0), (10, AV.int IntKind.i64 (IntKind.i64.wrap (i + 1)))])
                    (St.mk [Ob.cells [AV.nilsl, AV.bool true]] tk)))
          fun (o : ByteArray × Nat) =>
          onSome (elemAt l i) none fun (o_1 : List AV) =>
            onCons o_1 none fun (x : AV) (l_1 : List AV) =>
              onStr x fun (a : ByteArray) =>
                branch (AV.bool !o.fst.toList == a.toList)
                  (K AX.ret (Env.mk 101 [(4, AV.bool false)])
                    (St.mk [Ob.cells [AV.sl 1 f (List.drop o.snd r), AV.bool false]] tk))
                  (loopRun (f7_l3.run F) [1, 8, 10] K m
                    (Env.mk 101
                      [(1, AV.sl 1 false l), (8, AV.ptr 0 0), (10, AV.int IntKind.i64 (IntKind.i64.wrap (i + 1)))])
                    (St.mk [Ob.cells [AV.sl 1 f (List.drop o.snd r), AV.bool false]] tk)))
        none)
      (K (AX.exit 6) (Env.mk 101 [(1, AV.sl 1 false l), (8, AV.ptr 0 0)])
        (St.mk [Ob.cells [AV.sl 1 f r, AV.bool false]] tk)) := by kernel_rfl

theorem t3_round (F m : Nat) (K : Cont) (i : Int) (s : ByteArray) (f : Bool) (l r : List (List AV)) (tk : List (Nat × Nat)) (h0 : elemAt l i = some [.str s]) :
    (loopRun (f7_l3.run F) [1, 8, 10] K m.succ (Env.mk 101 [(1, .sl 1 false l), (8, .ptr 0 0), (10, .int .i64 i)]) ⟨[.cells [.sl 1 f r, .bool false]], tk⟩ : Ans) =
    branch (AV.bool (decide (i < (↑l.length : Int))))
      (branch (AV.bool (fit (Br.sl f r)))
        (onSome (getS (nR r))
          (branch (AV.bool ![] == s.toList)
            (K AX.ret (Env.mk 101 [(4, AV.bool false)]) (St.mk [Ob.cells [AV.nilsl, AV.bool true]] tk))
            (loopRun (f7_l3.run F) [1, 8, 10] K m
              (Env.mk 101 [(1, AV.sl 1 false l), (8, AV.ptr 0 0), (10, AV.int IntKind.i64 (IntKind.i64.wrap (i + 1)))])
              (St.mk [Ob.cells [AV.nilsl, AV.bool true]] tk)))
          fun (o : ByteArray × Nat) =>
          branch (AV.bool !o.fst.toList == s.toList)
            (K AX.ret (Env.mk 101 [(4, AV.bool false)])
              (St.mk [Ob.cells [AV.sl 1 f (List.drop o.snd r), AV.bool false]] tk))
            (loopRun (f7_l3.run F) [1, 8, 10] K m
              (Env.mk 101 [(1, AV.sl 1 false l), (8, AV.ptr 0 0), (10, AV.int IntKind.i64 (IntKind.i64.wrap (i + 1)))])
              (St.mk [Ob.cells [AV.sl 1 f (List.drop o.snd r), AV.bool false]] tk)))
        none)
      (K (AX.exit 6) (Env.mk 101 [(1, AV.sl 1 false l), (8, AV.ptr 0 0)])
        (St.mk [Ob.cells [AV.sl 1 f r, AV.bool false]] tk)) := by
  rw [t3_round_raw F m K i s f l r tk, h0]
  kernel_rfl

theorem t3_end_raw (F m : Nat) (K : Cont) (i : Int) (f : Bool) (l r : List (List AV)) (tk : List (Nat × Nat)) :
    (loopRun (f7_l3.run F) [1, 8, 10] K m.succ (Env.mk 101 [(1, .sl 1 false l), (8, .ptr 0 0), (10, .int .i64 i)]) ⟨[.cells [.sl 1 f r, .bool false]], tk⟩ : Ans) =
    branch (AV.bool (decide (i < (↑l.length : Int))))
      (branch (AV.bool (fit (Br.sl f r)))
        (onSome (getS (nR r))
          (onSome (elemAt l i) none fun (o : List AV) =>
            onCons o none fun (x : AV) (l_1 : List AV) =>
              onStr x fun (a : ByteArray) =>
                branch (AV.bool ![] == a.toList)
                  (K AX.ret (Env.mk 101 [(4, AV.bool false)]) (St.mk [Ob.cells [AV.nilsl, AV.bool true]] tk))
                  (loopRun (f7_l3.run F) [1, 8, 10] K m
                    (Env.mk 101
                      [(1, AV.sl 1 false l), (8, AV.ptr 0 0), (10, AV.int IntKind.i64 (IntKind.i64.wrap (i + 1)))])
                    (St.mk [Ob.cells [AV.nilsl, AV.bool true]] tk)))
          fun (o : ByteArray × Nat) =>
          onSome (elemAt l i) none fun (o_1 : List AV) =>
            onCons o_1 none fun (x : AV) (l_1 : List AV) =>
              onStr x fun (a : ByteArray) =>
                branch (AV.bool !o.fst.toList == a.toList)
                  (K AX.ret (Env.mk 101 [(4, AV.bool false)])
                    (St.mk [Ob.cells [AV.sl 1 f (List.drop o.snd r), AV.bool false]] tk))
                  (loopRun (f7_l3.run F) [1, 8, 10] K m
                    (Env.mk 101
                      [(1, AV.sl 1 false l), (8, AV.ptr 0 0), (10, AV.int IntKind.i64 (IntKind.i64.wrap (i + 1)))])
                    (St.mk [Ob.cells [AV.sl 1 f (List.drop o.snd r), AV.bool false]] tk)))
        none)
      (K (AX.exit 6) (Env.mk 101 [(1, AV.sl 1 false l), (8, AV.ptr 0 0)])
        (St.mk [Ob.cells [AV.sl 1 f r, AV.bool false]] tk)) := by kernel_rfl

theorem t3_end (F m : Nat) (K : Cont) (i : Int) (f : Bool) (l r : List (List AV)) (tk : List (Nat × Nat)) (h0 : decide (i < (l.length : Int)) = false) :
    (loopRun (f7_l3.run F) [1, 8, 10] K m.succ (Env.mk 101 [(1, .sl 1 false l), (8, .ptr 0 0), (10, .int .i64 i)]) ⟨[.cells [.sl 1 f r, .bool false]], tk⟩ : Ans) =
    K (AX.exit 6) (Env.mk 101 [(1, AV.sl 1 false l), (8, AV.ptr 0 0)]) (St.mk [Ob.cells [AV.sl 1 f r, AV.bool false]] tk) := by
  rw [t3_end_raw F m K i f l r tk, h0]
  kernel_rfl

theorem t3_nil (F m : Nat) (K : Cont) (f : Bool) (r : List (List AV)) (tk : List (Nat × Nat)) :
    (loopRun (f7_l3.run F) [1, 8, 10] K m.succ (Env.mk 101 [(1, .nilsl), (8, .ptr 0 0), (10, .int .i64 0)]) ⟨[.cells [.sl 1 f r, .bool false]], tk⟩ : Ans) =
    K (AX.exit 6) (Env.mk 101 [(1, AV.nilsl), (8, AV.ptr 0 0)]) (St.mk [Ob.cells [AV.sl 1 f r, AV.bool false]] tk) := by kernel_rfl

theorem t3_out (F : Nat) (f : Bool) (l r : List (List AV)) (tk : List (Nat × Nat)) :
    ((Cont.block 6 (Cont.then (f7_r0.run F (f7.leaveK Fun.done)) (f7.leaveK Fun.done))) (.exit 6) (Env.mk 101 [(1, .sl 1 false l), (8, .ptr 0 0)]) ⟨[.cells [.sl 1 f r, .bool false]], tk⟩ : Ans) =
    branch (AV.bool (fitL (Br.sl f r)))
      (onSome (getT (nR r))
        (branch (AV.bool (true && okT l))
          (branch (AV.bool (sameT [] (sR l))) (some (Fin.ret (AV.bool false), St.mk [Ob.cells [AV.nilsl, AV.bool true]] tk))
            (some (Fin.ret (AV.bool false), St.mk [Ob.cells [AV.nilsl, AV.bool true]] tk)))
          none)
        fun (o : List ByteArray × Nat) =>
        onCons o.fst
          (branch (AV.bool (true && okT l))
            (branch (AV.bool (sameT [] (sR l)))
              (branch (AV.bool ((↑(List.drop o.snd r).length : Int) == 0))
                (some (Fin.ret (AV.bool true), St.mk [Ob.cells [AV.sl 1 f (List.drop o.snd r), AV.bool false]] tk))
                (some (Fin.ret (AV.bool false), St.mk [Ob.cells [AV.sl 1 f (List.drop o.snd r), AV.bool false]] tk)))
              (some (Fin.ret (AV.bool false), St.mk [Ob.cells [AV.sl 1 f (List.drop o.snd r), AV.bool false]] tk)))
            none)
          fun (x : ByteArray) (l_1 : List ByteArray) =>
          branch (AV.bool (fitT (Br.sl false (tR o.fst), Br.sl false l).fst && okT l))
            (branch (AV.bool (sameT (sR (Br.sl false (tR o.fst), Br.sl false l).fst.list) (sR l)))
              (branch (AV.bool ((↑(List.drop o.snd r).length : Int) == 0))
                (some (Fin.ret (AV.bool true), St.mk [Ob.cells [AV.sl 1 f (List.drop o.snd r), AV.bool false]] tk))
                (some (Fin.ret (AV.bool false), St.mk [Ob.cells [AV.sl 1 f (List.drop o.snd r), AV.bool false]] tk)))
              (some (Fin.ret (AV.bool false), St.mk [Ob.cells [AV.sl 1 f (List.drop o.snd r), AV.bool false]] tk)))
            none)
      none := by kernel_rfl

theorem t3_outN (F : Nat) (f : Bool) (r : List (List AV)) (tk : List (Nat × Nat)) :
    ((Cont.block 6 (Cont.then (f7_r0.run F (f7.leaveK Fun.done)) (f7.leaveK Fun.done))) (.exit 6) (Env.mk 101 [(1, .nilsl), (8, .ptr 0 0)]) ⟨[.cells [.sl 1 f r, .bool false]], tk⟩ : Ans) =
    branch (AV.bool (fitL (Br.sl f r)))
      (onSome (getT (nR r)) (some (Fin.ret (AV.bool false), St.mk [Ob.cells [AV.nilsl, AV.bool true]] tk))
        fun (o : List ByteArray × Nat) =>
        onCons o.fst
          (branch (AV.bool ((↑(List.drop o.snd r).length : Int) == 0))
            (some (Fin.ret (AV.bool true), St.mk [Ob.cells [AV.sl 1 f (List.drop o.snd r), AV.bool false]] tk))
            (some (Fin.ret (AV.bool false), St.mk [Ob.cells [AV.sl 1 f (List.drop o.snd r), AV.bool false]] tk)))
          fun (x : ByteArray) (l : List ByteArray) =>
          branch (AV.bool (fitT (Br.sl false (tR o.fst), Br.nil).fst && true))
            (branch (AV.bool (sameT (sR (Br.sl false (tR o.fst), Br.nil).fst.list) []))
              (branch (AV.bool ((↑(List.drop o.snd r).length : Int) == 0))
                (some (Fin.ret (AV.bool true), St.mk [Ob.cells [AV.sl 1 f (List.drop o.snd r), AV.bool false]] tk))
                (some (Fin.ret (AV.bool false), St.mk [Ob.cells [AV.sl 1 f (List.drop o.snd r), AV.bool false]] tk)))
              (some (Fin.ret (AV.bool false), St.mk [Ob.cells [AV.sl 1 f (List.drop o.snd r), AV.bool false]] tk)))
            none)
      none := by kernel_rfl

end Go.Proofs.Ytjdpfblmhahfkaa.V

/- Bits: BitsBack is true. -/
set_option linter.unusedVariables false
namespace Go.Proofs.Ytjdpfblmhahfkaa.V
open Go Go.V Go.RowKit

def intOf : List AV → Int
  | [.int _ n] => n
  | _ => 0
def iL (a : List (List AV)) : List Int := a.map intOf
/-- A law's numbers. -/
def Ins (a : List (List AV)) : Prop := ∀ r ∈ a, ∃ n, r = [.int .i64 n] ∧ i64B n = true
theorem ints_shape {xs : List AV} (h : Ty.Shape (.sl (.int .i64) 8) xs) : xs = [.nilsl] ∨ ∃ l, xs = [.sl 1 false l] ∧ Ins l := by
  rcases h with h | ⟨l, h1, h2, h3, h4⟩
  · exact .inl h
  · exact .inr ⟨l, h1, fun r hr => by obtain ⟨n, h, hn⟩ := h4 r hr; exact ⟨n, h, i64_wf hn⟩⟩
theorem iL_length (a : List (List AV)) : (iL a).length = a.length := by simp [iL]
theorem Ins.at {a : List (List AV)} (h : Ins a) {i : Nat} (hi : i < a.length) : elemAt a (i : Int) = some [.int .i64 (iL a)[i]!] ∧ i64B (iL a)[i]! = true := by
  obtain ⟨n, hs, hn⟩ := h a[i] (List.getElem_mem hi)
  have h2 : (iL a)[i]! = n := by simp [iL, hi, hs, intOf]
  rw [h2]
  refine ⟨?_, hn⟩
  rw [← hs]
  unfold elemAt
  simp [hi]
theorem ati {a : List (List AV)} {i : Nat} (hi : i < a.length) : (iL a).drop i = (iL a)[i]! :: (iL a).drop (i + 1) := by
  rw [List.drop_eq_getElem_cons (by rw [iL_length]; exact hi)]
  simp [iL, hi]
/-- Numbers one behind the other. -/
def catI : List Int → List Nat
  | [] => []
  | n :: r => intBytes n ++ catI r

/-- What has been written so far, and its token. -/
def Good (o : AV) (lo : List Nat) (tk : List (Nat × Nat)) : Prop := (o = .sl 1 true [] ∧ lo = []) ∨ ∃ t, o = .lg t 1 (rb lo) ∧ tk[t]? = some (1, lo.length)
theorem tk_on {tk : List (Nat × Nat)} {t : Nat} {x : Nat × Nat} (h : tk[t]? = some x) (z y : Nat × Nat) : (tk ++ [z])[t]? = some x ∧ ((tk ++ [z]).set t y)[t]? = some y := by
  have ht := getElem?_lt h
  exact ⟨by rw [List.getElem?_append_left ht]; exact h, by rw [List.getElem?_set_self (by simp; omega)]⟩
theorem intBytes_cons (n : Int) : ∃ b bs, intBytes n = b :: bs := by
  unfold intBytes encN; split <;> exact ⟨_, _, rfl⟩
theorem textBytes_cons (s : ByteArray) : ∃ b bs, textBytes s = b :: bs := by
  obtain ⟨b, bs, h⟩ := intBytes_cons s.size
  exact ⟨b, bs ++ own s, by rw [textBytes, h]; rfl⟩

theorem i0_loop (F : Nat) (K : Cont) (y : AV) (a : List (List AV)) (ha : Ins a) (hn : a.length ≤ 500) : ∀ (k i m : Nat) (o : AV) (lo : List Nat) (tk : List (Nat × Nat)), i + k = a.length → k < m → Good o lo tk → lo.length ≤ 10 * i →
    ∃ o' tk', Good o' (lo ++ catI ((iL a).drop i)) tk' ∧ (lo ++ catI ((iL a).drop i)).length ≤ 5000 ∧
      loopRun (f7_l0.run F) [0, 1, 5, 6] K m (Env.mk 101 [(0, .sl 1 false a), (1, y), (5, o), (6, .int .i64 i)]) ⟨[], tk⟩ = K (.exit 0) (Env.mk 101 [(0, .sl 1 false a), (1, y), (5, o')]) ⟨[], tk'⟩
  | k, i, 0, o, lo, tk, hi, hk, hg, hlo => by omega
  | 0, i, m + 1, o, lo, tk, hi, hk, hg, hlo => by
    have e : (iL a).drop i = [] := List.drop_eq_nil_of_le (by rw [iL_length]; omega)
    rw [e, catI, List.append_nil]
    refine ⟨o, tk, hg, by omega, ?_⟩
    rw [show m + 1 = m.succ from rfl]
    rcases hg with ⟨rfl, rfl⟩ | ⟨t, rfl, ht⟩
    · rw [i0_end1 _ _ _ _ _ _ _ (by simp; omega)]
    · rw [i0_end2 _ _ _ _ _ _ _ _ _ (by simp; omega)]
  | k + 1, i, m + 1, o, lo, tk, hi, hk, hg, hlo => by
    have hi1 : i < a.length := by omega
    obtain ⟨he, hb⟩ := ha.at hi1
    have hil := intBytes_length (iL a)[i]!
    have hc : (decide ((i : Int) < (a.length : Int))) = true := decide_eq_true (by omega)
    have hw : IntKind.i64.wrap ((i : Int) + 1) = ((i + 1 : Nat) : Int) := by rw [wrapS (by omega) (by omega)]; omega
    rw [show m + 1 = m.succ from rfl, ati hi1, catI, ← List.append_assoc]
    rcases hg with ⟨rfl, rfl⟩ | ⟨t, rfl, ht⟩
    · obtain ⟨b, bs, hbs⟩ := intBytes_cons (iL a)[i]!
      rw [i0_first F m K y i _ a tk he, branch_of hc, branch_of hb, hw, hbs]
      have hll : (b :: bs).length ≤ 10 := by rw [← hbs]; exact hil
      rw [show rb (b :: bs) = [.int .u8 (b : Int)] :: rb bs from rfl, onCons_cons, if_pos (by simp only [List.length_cons, rb_length] at hll ⊢; omega)]
      exact i0_loop F K y a ha hn k (i + 1) m _ ([] ++ (b :: bs)) _ (by omega) (by omega) (.inr ⟨_, rfl, by simp [rb]⟩) (by rw [List.nil_append]; omega)
    · obtain ⟨h1, h2⟩ := tk_on ht (1, (intBytes (iL a)[i]!).length) (1, (rb lo).length + (rb (intBytes (iL a)[i]!)).length)
      rw [i0_round F m t K y i _ a _ tk he, branch_of hc, branch_of hb, hw]
      simp only []
      rw [if_pos ⟨by rw [rb_length]; exact h1, by rw [rb_length, rb_length]; omega⟩]
      exact i0_loop F K y a ha hn k (i + 1) m _ (lo ++ intBytes (iL a)[i]!) _ (by omega) (by omega) (.inr ⟨t, by rw [rb_append], by rw [h2, rb_length, rb_length, List.length_append]⟩) (by rw [List.length_append]; omega)

theorem t1_loop (F : Nat) (K : Cont) (x : AV) (l : List (List AV)) (hl : Txs l) (hn : l.length ≤ 200) : ∀ (k i m : Nat) (o : AV) (lo : List Nat) (tk : List (Nat × Nat)), i + k = l.length → k < m → (∀ j, j < i → (sR l)[j]!.size ≤ 5000) → Good o lo tk → lo.length ≤ 5000 + 5010 * i →
    (∃ tk', loopRun (f7_l1.run F) [0, 1, 5, 7] K m (Env.mk 101 [(0, x), (1, .sl 1 false l), (5, o), (7, .int .i64 i)]) ⟨[], tk⟩ = K .ret (Env.mk 101 [(4, .bool true)]) ⟨[], tk'⟩) ∨
    okT l = true ∧ ∃ o' tk', Good o' (lo ++ catT ((sR l).drop i)) tk' ∧ (lo ++ catT ((sR l).drop i)).length ≤ 2000000 ∧
      loopRun (f7_l1.run F) [0, 1, 5, 7] K m (Env.mk 101 [(0, x), (1, .sl 1 false l), (5, o), (7, .int .i64 i)]) ⟨[], tk⟩ = K (.exit 2) (Env.mk 101 [(0, x), (1, .sl 1 false l), (5, o')]) ⟨[], tk'⟩
  | k, i, 0, o, lo, tk, hi, hk, hj, hg, hlo => by omega
  | 0, i, m + 1, o, lo, tk, hi, hk, hj, hg, hlo => by
    have e : (sR l).drop i = [] := List.drop_eq_nil_of_le (by rw [sR_length]; omega)
    rw [e, catT, List.append_nil]
    refine .inr ⟨okT_of hl fun j hj' => hj j (by omega), o, tk, hg, by omega, ?_⟩
    rw [show m + 1 = m.succ from rfl]
    rcases hg with ⟨rfl, rfl⟩ | ⟨t, rfl, ht⟩
    · rw [t1_end1 _ _ _ _ _ _ _ (by simp; omega)]
    · rw [t1_end2 _ _ _ _ _ _ _ _ _ (by simp; omega)]
  | k + 1, i, m + 1, o, lo, tk, hi, hk, hj, hg, hlo => by
    have hi1 : i < l.length := by omega
    have he := hl.at hi1
    have hc : (decide ((i : Int) < (l.length : Int))) = true := decide_eq_true (by omega)
    have hw : IntKind.i64.wrap ((i : Int) + 1) = ((i + 1 : Nat) : Int) := by rw [wrapS (by omega) (by omega)]; omega
    rw [show m + 1 = m.succ from rfl, at_i hi1, catT, ← List.append_assoc]
    by_cases h5 : 5000 < (sR l)[i]!.size
    · left
      rcases hg with ⟨rfl, rfl⟩ | ⟨t, rfl, ht⟩
      · rw [t1_first F m K x i _ l tk he, branch_of hc, branch_of (decide_eq_true (by omega))]; exact ⟨_, rfl⟩
      · rw [t1_round F m t K x i _ l _ tk he, branch_of hc, branch_of (decide_eq_true (by omega))]; exact ⟨_, rfl⟩
    · have hj' : ∀ j, j < i + 1 → (sR l)[j]!.size ≤ 5000 := fun j hj' => by
        by_cases h : j = i
        · subst h; omega
        · exact hj j (by omega)
      have hil := intBytes_length (sR l)[i]!.size
      have htb : (textBytes (sR l)[i]!).length ≤ 5010 := by simp only [textBytes, List.length_append, own_length]; omega
      rcases hg with ⟨rfl, rfl⟩ | ⟨t, rfl, ht⟩
      · obtain ⟨b, bs, hbs⟩ := textBytes_cons (sR l)[i]!
        rw [t1_first F m K x i _ l tk he, branch_of hc, branch_not (decide_eq_false (by omega)), branch_of (shortS_of (by omega)), hw, hbs]
        have hll : (b :: bs).length ≤ 5010 := by rw [← hbs]; exact htb
        rw [show rb (b :: bs) = [.int .u8 (b : Int)] :: rb bs from rfl, onCons_cons, if_pos (by simp only [List.length_cons, rb_length] at hll ⊢; omega)]
        exact t1_loop F K x l hl hn k (i + 1) m _ ([] ++ (b :: bs)) _ (by omega) (by omega) hj' (.inr ⟨_, rfl, by simp [rb]⟩) (Nat.le_trans hll (by omega))
      · obtain ⟨h1, h2⟩ := tk_on ht (1, (textBytes (sR l)[i]!).length) (1, (rb lo).length + (rb (textBytes (sR l)[i]!)).length)
        rw [t1_round F m t K x i _ l _ tk he, branch_of hc, branch_not (decide_eq_false (by omega)), branch_of (shortS_of (by omega)), hw]
        simp only []
        rw [if_pos ⟨by rw [rb_length]; exact h1, by rw [rb_length, rb_length]; omega⟩]
        exact t1_loop F K x l hl hn k (i + 1) m _ (lo ++ textBytes (sR l)[i]!) _ (by omega) (by omega) hj' (.inr ⟨t, by rw [rb_append], by rw [h2, rb_length, rb_length, List.length_append]⟩) (by rw [List.length_append]; omega)

/-- A law's list of texts. -/
def Tx (y : AV) (ss : List ByteArray) : Prop := (y = .nilsl ∧ ss = []) ∨ ∃ l, y = .sl 1 false l ∧ okT l = true ∧ l.length ≤ 200 ∧ ss = sR l
/-- A law's list of numbers. -/
def Nx (x : AV) (ns : List Int) : Prop := (x = .nilsl ∧ ns = []) ∨ ∃ a, x = .sl 1 false a ∧ Ins a ∧ a.length ≤ 500 ∧ ns = iL a
def rdSt (f : Bool) (bs : List Nat) (tk : List (Nat × Nat)) : St := ⟨[.cells [.sl 1 f (rb bs), .bool false]], tk⟩
theorem textsBytes_cons (ss : List ByteArray) : ∃ b bs, textsBytes ss = b :: bs := by
  obtain ⟨b, bs, h⟩ := intBytes_cons ss.length
  exact ⟨b, bs ++ catT ss, by rw [textsBytes, h]; rfl⟩
theorem fitL_of {f : Bool} {l : List (List AV)} (h : okR l = true) (hl : l.length ≤ 100000000) : fitL (.sl f l) = true := by
  simp only [fitL, fit_of h (show l.length < 140737488355328 by omega), Br.list, Bool.true_and]; exact decide_eq_true hl
theorem t1_out (F : Nat) (x y o : AV) (ss : List ByteArray) (lo : List Nat) (tk : List (Nat × Nat)) (hy : Tx y ss) (hg : Good o lo tk) (hlo : lo.length ≤ 2000000) (hb : ∀ b ∈ lo, b < 256) :
    ∃ f tk', (Cont.block 2 (Cont.then (f7_r2.run F (f7.leaveK Fun.done)) (f7.leaveK Fun.done))) (.exit 2) (Env.mk 101 [(0, x), (1, y), (5, o)]) ⟨[], tk⟩ =
      loopRun (f7_l2.run F) [0, 1, 8, 9] (Cont.block 4 (Cont.then (f7_r1.run F (f7.leaveK Fun.done)) (f7.leaveK Fun.done))) F
        (Env.mk 101 [(0, x), (1, y), (8, .ptr 0 0), (9, .int .i64 0)]) (rdSt f (lo ++ textsBytes ss) tk') := by
  rcases hy with ⟨rfl, rfl⟩ | ⟨l, rfl, hl, hn, rfl⟩
  · have e0 : textsBytes [] = [0] := by decide
    rcases hg with ⟨rfl, rfl⟩ | ⟨t, rfl, ht⟩
    · exact ⟨false, tk ++ [(1, 1)], by rw [t1_outD]; rfl⟩
    · refine ⟨(rb lo ++ [[AV.int IntKind.u8 0]]).isEmpty, tk.set t (1, (rb lo).length + 1), ?_⟩
      rw [t1_outB, if_pos ⟨by rw [rb_length]; exact ht, by rw [rb_length]; omega⟩]
      have e1 : rb lo ++ rb (textsBytes (sR Br.nil.list)) = rb (lo ++ textsBytes []) := by rw [rb_append]; rfl
      have e2 : rb lo ++ [[AV.int IntKind.u8 0]] = rb (lo ++ textsBytes []) := by rw [rb_append]; rfl
      rw [e1, e2, branch_of (fit_of (okR_rb (by rw [e0]; intro b hb'; rcases List.mem_append.mp hb' with h | h
                                                · exact hb b h
                                                · simp at h; omega)) (by rw [rb_length, e0, List.length_append, List.length_singleton]; omega))]
      rfl
  · have hl' : l.length ≤ 100000 := by omega
    have hf : fitT (.sl false l) = true := by simp only [fitT, Br.list, hl, Bool.true_and]; exact decide_eq_true hl'
    have h3 := textsBytes_lt hl hl'
    have h4 := catT_length (sR l) (sR_short hl)
    have h5 := intBytes_length ((sR l).length : Int)
    have h6 : (textsBytes (sR l)).length ≤ 100000000 := by rw [textsBytes, List.length_append]; rw [sR_length] at h4; omega
    rcases hg with ⟨rfl, rfl⟩ | ⟨t, rfl, ht⟩
    · obtain ⟨b, bs, hbs⟩ := textsBytes_cons (sR l)
      refine ⟨false, tk ++ [(1, (textsBytes (sR l)).length)], ?_⟩
      rw [t1_outC, branch_of hf, List.nil_append, hbs]
      rw [hbs] at h3 h6
      rw [show rb (b :: bs) = [.int .u8 (b : Int)] :: rb bs from rfl, onCons_cons, if_pos (by simp only [List.length_cons, rb_length] at h6 ⊢; omega), List.nil_append,
        branch_of (show fit (Br.sl false ([AV.int .u8 (b : Int)] :: rb bs)) = true from fit_of (l := rb (b :: bs)) (okR_rb h3) (by rw [rb_length]; omega))]
      simp only [rdSt, List.length_cons, rb_length]
      rfl
    · refine ⟨(rb lo ++ rb (textsBytes (sR l))).isEmpty, tk.set t (1, (rb lo).length + (rb (textsBytes (sR l))).length), ?_⟩
      rw [t1_outA, branch_of hf, if_pos ⟨by rw [rb_length]; exact ht, by rw [rb_length, rb_length]; omega⟩]
      simp only [Br.list]
      rw [← rb_append, branch_of (fit_of (okR_rb (by intro b hb'; rcases List.mem_append.mp hb' with h | h
                                                     · exact hb b h
                                                     · exact h3 b h)) (by rw [rb_length, List.length_append]; omega))]
      rfl

theorem i2_loop (F : Nat) (K : Cont) (y : AV) (f : Bool) (a : List (List AV)) (ha : Ins a) (hn : a.length ≤ 500) (tk : List (Nat × Nat)) (rest : List Nat) (hr : ∀ b ∈ rest, b < 256) (hrl : rest.length ≤ 200000000) : ∀ (k i m : Nat), i + k = a.length → k < m → (∀ b ∈ catI ((iL a).drop i), b < 256) → (catI ((iL a).drop i)).length ≤ 5000 →
    loopRun (f7_l2.run F) [0, 1, 8, 9] K m (Env.mk 101 [(0, .sl 1 false a), (1, y), (8, .ptr 0 0), (9, .int .i64 i)]) (rdSt f (catI ((iL a).drop i) ++ rest) tk) = K (.exit 4) (Env.mk 101 [(1, y), (8, .ptr 0 0)]) (rdSt f rest tk)
  | k, i, 0, hi, hk, hb, hc => by omega
  | 0, i, m + 1, hi, hk, hb, hc => by
    have e : (iL a).drop i = [] := List.drop_eq_nil_of_le (by rw [iL_length]; omega)
    rw [e, catI, List.nil_append, show m + 1 = m.succ from rfl, rdSt, i2_end _ _ _ _ _ _ _ _ _ (by simp; omega)]
  | k + 1, i, m + 1, hi, hk, hb, hc => by
    have hi1 : i < a.length := by omega
    obtain ⟨he, hb1⟩ := ha.at hi1
    obtain ⟨b1, b2⟩ := i64B_spec hb1
    rw [ati hi1, catI] at hb hc
    rw [List.length_append] at hc
    rw [ati hi1, catI, List.append_assoc, show m + 1 = m.succ from rfl, rdSt, i2_round F m K y i _ f a _ tk he, branch_of (decide_eq_true (by omega)),
      branch_of (fit_of (okR_rb (by intro b hb'; rcases List.mem_append.mp hb' with h | h
                                    · exact hb b (List.mem_append.mpr (.inl h))
                                    · rcases List.mem_append.mp h with h | h
                                      · exact hb b (List.mem_append.mpr (.inr h))
                                      · exact hr b h)) (by rw [rb_length, List.length_append, List.length_append]; omega)), nR_rb, getN_enc b1 b2]
    simp only [onSome]
    rw [branch_not (by simp), wrapS (by omega) (by omega), show ((i : Int) + 1) = ((i + 1 : Nat) : Int) by omega, rb_drop, List.drop_left]
    exact i2_loop F K y f a ha hn tk rest hr hrl k (i + 1) m (by omega) (by omega) (fun b h => hb b (List.mem_append.mpr (.inr h))) (by omega)

theorem t3_loop (F : Nat) (K : Cont) (f : Bool) (l : List (List AV)) (hl : okT l = true) (hn : l.length ≤ 200) (tk : List (Nat × Nat)) (rest : List Nat) (hr : ∀ b ∈ rest, b < 256) (hrl : rest.length ≤ 100000000) : ∀ (k i m : Nat), i + k = l.length → k < m →
    loopRun (f7_l3.run F) [1, 8, 10] K m (Env.mk 101 [(1, .sl 1 false l), (8, .ptr 0 0), (10, .int .i64 i)]) (rdSt f (catT ((sR l).drop i) ++ rest) tk) = K (.exit 6) (Env.mk 101 [(1, .sl 1 false l), (8, .ptr 0 0)]) (rdSt f rest tk)
  | k, i, 0, hi, hk => by omega
  | 0, i, m + 1, hi, hk => by
    have e : (sR l).drop i = [] := List.drop_eq_nil_of_le (by rw [sR_length]; omega)
    rw [e, catT, List.nil_append, show m + 1 = m.succ from rfl, rdSt, t3_end _ _ _ _ _ _ _ _ (by simp; omega)]
  | k + 1, i, m + 1, hi, hk => by
    have hi1 : i < l.length := by omega
    obtain ⟨he, hs⟩ := okT_at hl hi1
    have hb := catT_lt (ss := (sR l).drop i) fun s h => sR_short hl s (List.mem_of_mem_drop h)
    have hc := catT_length ((sR l).drop i) fun s h => sR_short hl s (List.mem_of_mem_drop h)
    rw [List.length_drop, sR_length] at hc
    have hc2 : (catT ((sR l).drop i)).length ≤ 200 * 100010 := Nat.le_trans hc (Nat.mul_le_mul_right _ (by omega))
    rw [at_i hi1, catT] at hb hc2
    rw [List.length_append] at hc2
    rw [at_i hi1, catT, List.append_assoc, show m + 1 = m.succ from rfl, rdSt, t3_round F m K i _ f l _ tk he, branch_of (decide_eq_true (by omega)),
      branch_of (fit_of (okR_rb (by intro b hb'; rcases List.mem_append.mp hb' with h | h
                                    · exact hb b (List.mem_append.mpr (.inl h))
                                    · rcases List.mem_append.mp h with h | h
                                      · exact hb b (List.mem_append.mpr (.inr h))
                                      · exact hr b h)) (by rw [rb_length, List.length_append, List.length_append]; omega)), nR_rb, getS_enc (by omega)]
    simp only [onSome]
    rw [branch_not (by simp), wrapS (by omega) (by omega), show ((i : Int) + 1) = ((i + 1 : Nat) : Int) by omega, rb_drop, List.drop_left]
    exact t3_loop F K f l hl hn tk rest hr hrl k (i + 1) m (by omega) (by omega)

theorem i2_all (F m : Nat) (K : Cont) (x y : AV) (f : Bool) (ns : List Int) (hx : Nx x ns) (tk : List (Nat × Nat)) (rest : List Nat) (hr : ∀ b ∈ rest, b < 256) (hrl : rest.length ≤ 200000000) (hb : ∀ b ∈ catI ns, b < 256) (hc : (catI ns).length ≤ 5000) (hm : ns.length < m) :
    loopRun (f7_l2.run F) [0, 1, 8, 9] K m (Env.mk 101 [(0, x), (1, y), (8, .ptr 0 0), (9, .int .i64 0)]) (rdSt f (catI ns ++ rest) tk) = K (.exit 4) (Env.mk 101 [(1, y), (8, .ptr 0 0)]) (rdSt f rest tk) := by
  rcases hx with ⟨rfl, rfl⟩ | ⟨a, rfl, ha, hn, rfl⟩
  · cases m with
    | zero => omega
    | succ m => rw [show m + 1 = m.succ from rfl, catI, List.nil_append, rdSt, i2_nil]
  · exact i2_loop F K y f a ha hn tk rest hr hrl a.length 0 m (by omega) (by rw [iL_length] at hm; exact hm) hb hc
theorem onCons_ne {α : Type} {z : List α} {A B : Ans} (h : z ≠ []) : onCons z A (fun _ _ => B) = B := by
  cases z with
  | nil => exact absurd rfl h
  | cons x l => rfl
theorem t3_all (F m : Nat) (f : Bool) (y : AV) (ss : List ByteArray) (hy : Tx y ss) (tk : List (Nat × Nat)) (hm : ss.length < m) :
    ∃ st, loopRun (f7_l3.run F) [1, 8, 10] (Cont.block 6 (Cont.then (f7_r0.run F (f7.leaveK Fun.done)) (f7.leaveK Fun.done))) m (Env.mk 101 [(1, y), (8, .ptr 0 0), (10, .int .i64 0)]) (rdSt f (catT ss ++ textsBytes ss) tk) = some (.ret (.bool true), st) := by
  rcases hy with ⟨rfl, rfl⟩ | ⟨l, rfl, hl, hn, rfl⟩
  · cases m with
    | zero => omega
    | succ m =>
      rw [show m + 1 = m.succ from rfl, catT, List.nil_append, rdSt, t3_nil, t3_outN, branch_of (fitL_of (okR_rb (by decide)) (by decide)), nR_rb, show getT (textsBytes []) = some ([], 1) by decide]
      exact ⟨_, rfl⟩
  · have hl' : l.length ≤ 100000 := by omega
    have h3 := textsBytes_lt hl hl'
    have h4 := catT_length (sR l) (sR_short hl)
    have h5 := intBytes_length ((sR l).length : Int)
    have h6 : (textsBytes (sR l)).length ≤ 100000000 := by rw [textsBytes, List.length_append]; rw [sR_length] at h4; omega
    have := t3_loop F (Cont.block 6 (Cont.then (f7_r0.run F (f7.leaveK Fun.done)) (f7.leaveK Fun.done))) f l hl hn tk (textsBytes (sR l)) h3 h6 l.length 0 m (by omega) (by rw [sR_length] at hm; exact hm)
    rw [List.drop_zero] at this
    have h7 : (catT (sR l)).length ≤ 200 * 100010 := Nat.le_trans h4 (Nat.mul_le_mul_right _ (by rw [sR_length]; omega))
    have hg := getT_enc (ss := sR l) (fun s hs => by have := sR_short hl s hs; omega) (by rw [sR_length]; omega) []
    rw [List.append_nil] at hg
    rw [show (0 : Int) = ((0 : Nat) : Int) from rfl, this, rdSt, t3_out, branch_of (fitL_of (okR_rb h3) (by rw [rb_length, textsBytes, List.length_append]; omega)), nR_rb, hg]
    have hd : (List.drop (textsBytes (sR l)).length (rb (textsBytes (sR l)))).length = 0 := by simp [rb]
    have hok : okT (tR (sR l)) = true := by
      simp only [okT, tR, List.all_map, List.all_eq_true]
      intro s hs
      exact decide_eq_true (sR_short hl s hs)
    have hfit : (fitT (Br.sl false (tR (sR l))) && okT l) = true := by
      simp only [fitT, Br.list, hok, hl, Bool.true_and, Bool.and_true]
      exact decide_eq_true (by simp [tR, sR_length]; omega)
    simp only [onSome, sR_tR, Br.list, hd]
    have hz := same_refl (sR l)
    have h0 : (((0 : Nat) : Int) == 0) = true := rfl
    by_cases hs : sR l = []
    · rw [hs] at hz
      simp only [hs, onCons]
      rw [branch_of (by rw [hl]; rfl), branch_of hz, branch_of h0]; exact ⟨_, rfl⟩
    · rw [onCons_ne hs, branch_of hfit, branch_of hz, branch_of h0]; exact ⟨_, rfl⟩

theorem catI_lt {ns : List Int} (h : ∀ n ∈ ns, i64B n = true) : ∀ b ∈ catI ns, b < 256 := by
  induction ns with
  | nil => intro b hb; simp [catI] at hb
  | cons n ns ih =>
    intro b hb
    rcases List.mem_append.mp hb with hb | hb
    · exact intBytes_lt (h n (by simp)) b hb
    · exact ih (fun n hn => h n (by simp [hn])) b hb
theorem iL_i64 {a : List (List AV)} (h : Ins a) : ∀ n ∈ iL a, i64B n = true := by
  intro n hn
  obtain ⟨r, hr, rfl⟩ := List.mem_map.mp hn
  obtain ⟨m, rfl, hm⟩ := h r hr
  exact hm

/-- Reading back. -/
theorem back_rest (F : Nat) (x y : AV) (ns : List Int) (ss : List ByteArray) (hx : Nx x ns) (hy : Tx y ss) (f : Bool) (tk : List (Nat × Nat)) (hF : ns.length < F ∧ ss.length < F) :
    ∃ st, loopRun (f7_l2.run F) [0, 1, 8, 9] (Cont.block 4 (Cont.then (f7_r1.run F (f7.leaveK Fun.done)) (f7.leaveK Fun.done))) F
        (Env.mk 101 [(0, x), (1, y), (8, .ptr 0 0), (9, .int .i64 0)]) (rdSt f (catI ns ++ (catT ss ++ textsBytes ss)) tk) = some (.ret (.bool true), st) := by
  have hb : ∀ b ∈ catI ns, b < 256 := by
    rcases hx with ⟨_, rfl⟩ | ⟨a, _, ha, _, rfl⟩
    · intro b hb; simp [catI] at hb
    · exact catI_lt (iL_i64 ha)
  have hc : (catI ns).length ≤ 5000 := by
    rcases hx with ⟨_, rfl⟩ | ⟨a, _, ha, hn, rfl⟩
    · simp [catI]
    · have : ∀ l : List Int, (catI l).length ≤ 10 * l.length := by
        intro l
        induction l with
        | nil => simp [catI]
        | cons n l ih => have := intBytes_length n; simp only [catI, List.length_append, List.length_cons]; omega
      have := this (iL a)
      rw [iL_length] at this
      omega
  have hss : (∀ s ∈ ss, s.size ≤ 100000) ∧ ss.length ≤ 200 := by
    rcases hy with ⟨_, rfl⟩ | ⟨l, _, hl, hn, rfl⟩
    · exact ⟨by simp, by simp⟩
    · exact ⟨sR_short hl, by rw [sR_length]; exact hn⟩
  have h4 := catT_length ss hss.1
  have h7 : (catT ss).length ≤ 200 * 100010 := Nat.le_trans h4 (Nat.mul_le_mul_right _ hss.2)
  have h5 := intBytes_length (ss.length : Int)
  have hr : ∀ b ∈ catT ss ++ textsBytes ss, b < 256 := by
    intro b hb
    rcases List.mem_append.mp hb with hb | hb
    · exact catT_lt hss.1 b hb
    · rcases List.mem_append.mp hb with hb | hb
      · exact intBytes_lt (by simp [i64B]; omega) b hb
      · exact catT_lt hss.1 b hb
  rw [i2_all F F _ x y f ns hx tk _ hr (by simp only [textsBytes, List.length_append]; omega) hb hc hF.1, i2_out]
  exact t3_all F F f y ss hy tk hF.2

theorem back_true {x y : AV} (hx : x = .nilsl ∨ ∃ a, x = .sl 1 false a ∧ Ins a) (hy : y = .nilsl ∨ ∃ l, y = .sl 1 false l ∧ Txs l) : ∃ F st, f7.run F [x, y] ⟨[], []⟩ = some (.ret (.bool true), st) := by
  have key : ∀ (F : Nat) (x y : AV) (ns : List Int) (hx : Nx x ns) (hy : y = .nilsl ∨ ∃ l, y = .sl 1 false l ∧ Txs l ∧ l.length ≤ 200), ns.length < F → (∀ l, y = .sl 1 false l → l.length < F) →
      ∃ st, loopRun (f7_l0.run F) [0, 1, 5, 6] (Cont.block 0 (Cont.then (f7_r3.run F (f7.leaveK Fun.done)) (f7.leaveK Fun.done))) F
        (Env.mk 101 [(0, x), (1, y), (5, .sl 1 true []), (6, .int .i64 0)]) ⟨[], []⟩ = some (.ret (.bool true), st) := by
    intro F x y ns hx hy hF1 hF2
    obtain ⟨o, tk, hg, hlo, hl0⟩ : ∃ o tk, Good o (catI ns) tk ∧ (catI ns).length ≤ 5000 ∧ loopRun (f7_l0.run F) [0, 1, 5, 6] (Cont.block 0 (Cont.then (f7_r3.run F (f7.leaveK Fun.done)) (f7.leaveK Fun.done))) F
        (Env.mk 101 [(0, x), (1, y), (5, .sl 1 true []), (6, .int .i64 0)]) ⟨[], []⟩ = (Cont.block 0 (Cont.then (f7_r3.run F (f7.leaveK Fun.done)) (f7.leaveK Fun.done))) (.exit 0) (Env.mk 101 [(0, x), (1, y), (5, o)]) ⟨[], tk⟩ := by
      rcases hx with ⟨rfl, rfl⟩ | ⟨a, rfl, ha, hn, rfl⟩
      · cases F with
        | zero => omega
        | succ F => exact ⟨.sl 1 true [], [], .inl ⟨rfl, rfl⟩, by simp [catI], by rw [show F + 1 = F.succ from rfl, i0_nil]⟩
      · obtain ⟨o, tk, h1, h2, h3⟩ := i0_loop F (Cont.block 0 (Cont.then (f7_r3.run F (f7.leaveK Fun.done)) (f7.leaveK Fun.done))) y a ha hn a.length 0 F (.sl 1 true []) [] [] (by omega) (by rw [iL_length] at hF1; exact hF1) (.inl ⟨rfl, rfl⟩) (by simp)
        exact ⟨o, tk, h1, h2, h3⟩
    have hb : ∀ b ∈ catI ns, b < 256 := by
      rcases hx with ⟨_, rfl⟩ | ⟨a, _, ha, _, rfl⟩
      · intro b hb; simp [catI] at hb
      · exact catI_lt (iL_i64 ha)
    rw [hl0, i0_out]
    rcases hy with rfl | ⟨l, rfl, hl, hn⟩
    · have h1 : loopRun (f7_l1.run F) [0, 1, 5, 7] (Cont.block 2 (Cont.then (f7_r2.run F (f7.leaveK Fun.done)) (f7.leaveK Fun.done))) F (Env.mk 101 [(0, x), (1, .nilsl), (5, o), (7, .int .i64 0)]) ⟨[], tk⟩ = (Cont.block 2 (Cont.then (f7_r2.run F (f7.leaveK Fun.done)) (f7.leaveK Fun.done))) (.exit 2) (Env.mk 101 [(0, x), (1, .nilsl), (5, o)]) ⟨[], tk⟩ := by
        cases F with
        | zero => omega
        | succ F => rw [show F + 1 = F.succ from rfl, t1_nil]
      have hy : Tx .nilsl [] := .inl ⟨rfl, rfl⟩
      obtain ⟨f, tk', h2⟩ := t1_out F x .nilsl o [] (catI ns) tk hy hg (by omega) hb
      rw [h1, h2]
      exact back_rest F x .nilsl ns [] hx hy f tk' ⟨hF1, by simp; omega⟩
    · rcases t1_loop F (Cont.block 2 (Cont.then (f7_r2.run F (f7.leaveK Fun.done)) (f7.leaveK Fun.done))) x l hl hn l.length 0 F o (catI ns) tk (by omega) (hF2 l rfl) (fun j hj => by omega) hg (by omega) with ⟨tk', h⟩ | ⟨hok, o', tk', hg', hlo', h⟩
      · rw [show (0 : Int) = ((0 : Nat) : Int) from rfl, h, t1_ret]; exact ⟨_, rfl⟩
      · have hy : Tx (.sl 1 false l) (sR l) := .inr ⟨l, rfl, hok, hn, rfl⟩
        obtain ⟨f, tk2, h2⟩ := t1_out F x _ o' (sR l) _ tk' hy hg' hlo' (by
          intro b hb'
          rcases List.mem_append.mp hb' with hb' | hb'
          · exact hb b hb'
          · exact catT_lt (sR_short hok) b hb')
        rw [show (0 : Int) = ((0 : Nat) : Int) from rfl, h, h2, List.drop_zero, List.append_assoc]
        exact back_rest F x _ ns (sR l) hx hy f tk2 ⟨hF1, by rw [sR_length]; exact hF2 l rfl⟩
  rcases hx with rfl | ⟨a, rfl, ha⟩
  · rcases hy with rfl | ⟨l, rfl, hl⟩
    · exact ⟨20, _, back_nn⟩
    · refine ⟨l.length + 1, ?_⟩
      rw [back_n1]
      by_cases h6 : 200 < l.length
      · rw [branch_of (decide_eq_true (by omega))]; exact ⟨_, rfl⟩
      rw [branch_not (decide_eq_false (by omega))]
      exact key _ _ _ [] (.inl ⟨rfl, rfl⟩) (.inr ⟨l, rfl, hl, by omega⟩) (by simp) (fun l' h => by cases h; omega)
  · rcases hy with rfl | ⟨l, rfl, hl⟩
    · refine ⟨a.length + 1, ?_⟩
      rw [back_n2]
      by_cases h6 : 500 < a.length
      · rw [branch_of (decide_eq_true (by omega))]; exact ⟨_, rfl⟩
      rw [branch_not (decide_eq_false (by omega))]
      exact key _ _ _ (iL a) (.inr ⟨a, rfl, ha, by omega, rfl⟩) (.inl rfl) (by rw [iL_length]; omega) (fun l' h => by cases h)
    · refine ⟨a.length + l.length + 1, ?_⟩
      rw [back_run]
      by_cases h6 : 500 < a.length
      · rw [branch_of (decide_eq_true (by omega))]; exact ⟨_, rfl⟩
      rw [branch_not (decide_eq_false (by omega))]
      by_cases h7 : 200 < l.length
      · rw [branch_of (decide_eq_true (by omega))]; exact ⟨_, rfl⟩
      rw [branch_not (decide_eq_false (by omega))]
      exact key _ _ _ (iL a) (.inr ⟨a, rfl, ha, by omega, rfl⟩) (.inr ⟨l, rfl, hl, by omega⟩) (by rw [iL_length]; omega) (fun l' h => by cases h; omega)
theorem back_law (as0 as1 : List AV) (sh0 : Ty.Shape (.sl (.int .i64) 8) as0) (sh1 : Ty.Shape (.sl .str 16) as1) :
    ∃ F st, f7.run F [Ty.AV' (.sl (.int .i64) 8) as0, Ty.AV' (.sl .str 16) as1] ⟨[], []⟩ = some (.ret (.bool true), st) := by
  rcases ints_shape sh0 with rfl | ⟨a, rfl, ha⟩
  · rcases texts_shape sh1 with rfl | ⟨l, rfl, hl⟩
    · exact back_true (.inl rfl) (.inl rfl)
    · exact back_true (.inl rfl) (.inr ⟨l, rfl, hl⟩)
  · rcases texts_shape sh1 with rfl | ⟨l, rfl, hl⟩
    · exact back_true (.inr ⟨a, rfl, ha⟩) (.inl rfl)
    · exact back_true (.inr ⟨a, rfl, ha⟩) (.inr ⟨l, rfl, hl⟩)
end Go.Proofs.Ytjdpfblmhahfkaa.V

/- The functions' pieces, as told by gen.py. -/
set_option linter.unusedVariables false
set_option maxRecDepth 20000
namespace Go.Proofs.Ytjdpfblmhahfkaa.V
open Go Go.V Go.RowKit

theorem fl44_1 : fieldB Try.prog 44 1 1 1 false = true := by kernel_rfl
theorem fl44_0 : fieldB Try.prog 44 0 0 1 false = true := by kernel_rfl

/-! ### 26: (*interlock/interlockref01.Reader).Int (42); results 2; slots: 0 r, 1 r, 3 u, 4 i, 5 d -/
/-- A loop's round; at its head live: 0 r, 3 u, 4 i -/
noncomputable def f26_l0 : Sim Try.prog :=
  (.seq (.seq (.live [0, 3, 4, 20] (.region 5 [
    ⟨(opMove (some 10) (.tmp 4) 3 "ref.go:44" #[]).op, none⟩,
    ⟨(opMove (some 11) (.tmp 0) 42 "ref.go:44" #[]).op, none⟩,
    ⟨(opNilCheck (some 12) (.tmp 11) 0 "ref.go:44" #[{ on := 1, ground := Ground.data }]).op, none⟩,
    ⟨(opFieldAddr (some 13) 44 (.tmp 12) 0 0 1 false fl44_0 (by decide) 0 "ref.go:44" #[{ on := 2, ground := Ground.data }]).op, none⟩,
    ⟨(opLoad (some 14) 22 (.tmp 13) (.slice 5) Try.underlying22 1 sz22 22 "ref.go:44" #[{ on := 3, ground := Ground.data }]).op, none⟩,
    ⟨(opLen (some 15) (.tmp 14) 22 (.slice 5) Try.underlying22 3 "ref.go:44" #[{ on := 4, ground := Ground.data }]).op, none⟩,
    ⟨(opBin (some 16) .lss 3 (.tmp 10) (.tmp 15) 3 4 "ref.go:44" #[{ on := 0, ground := Ground.data }, { on := 5, ground := Ground.data }]).op, none⟩,
    ⟨(opMove (some 17) (.tmp 16) 4 "ref.go:44" #[{ on := 6, ground := Ground.data }]).op, none⟩,
    ⟨(opMove (some 18) (.tmp 4) 3 "ref.go:44" #[{ on := 7, ground := Ground.guard }]).op, (some (7, 17, true))⟩,
    ⟨(opBin (some 19) .lss 3 (.tmp 18) (.const (Value.int IntKind.i64 10)) 3 4 "ref.go:44" #[{ on := 8, ground := Ground.data }, { on := 7, ground := Ground.guard }]).op, (some (7, 17, true))⟩,
    ⟨(opPick (some 20) (.tmp 17) (.tmp 19) (.const (Value.bool false)) 4 "ref.go:44" #[{ on := 7, ground := Ground.data }, { on := 9, ground := Ground.data }]).op, none⟩
  ] (by kernel_rfl)))
  (.cond (.tmp 20)
    .skip
    (.live [0] (.exit 0))))
  (.seq (.block 1 (.seq (.live [0, 3, 4, 5] (.region 7 [
      ⟨(opMove (some 23) (.tmp 0) 42 "ref.go:45" #[]).op, none⟩,
      ⟨(opNilCheck (some 24) (.tmp 23) 0 "ref.go:45" #[{ on := 0, ground := Ground.data }]).op, none⟩,
      ⟨(opFieldAddr (some 25) 44 (.tmp 24) 0 0 1 false fl44_0 (by decide) 0 "ref.go:45" #[{ on := 1, ground := Ground.data }]).op, none⟩,
      ⟨(opLoad (some 26) 22 (.tmp 25) (.slice 5) Try.underlying22 1 sz22 22 "ref.go:45" #[{ on := 2, ground := Ground.data }]).op, none⟩,
      ⟨(opMove (some 27) (.tmp 4) 3 "ref.go:45" #[]).op, none⟩,
      ⟨(opIndexAddr (some 28) 22 (.tmp 26) (.tmp 27) 5 1 Try.underlying22 sz5 0 "ref.go:45" #[{ on := 3, ground := Ground.data }, { on := 4, ground := Ground.data }]).op, none⟩,
      ⟨(opLoad (some 29) 5 (.tmp 28) (.int .u8) Try.underlying5 1 sz5 5 "ref.go:45" #[{ on := 5, ground := Ground.data }]).op, none⟩,
      ⟨(opBin (some 30) .rem 5 (.tmp 29) (.const (Value.int IntKind.u8 128)) 5 5 "ref.go:45" #[{ on := 6, ground := Ground.data }]).op, none⟩,
      ⟨(opConvInt (some 31) 5 49 (.tmp 30) (.int .u8) Try.underlying5 .u64 Try.underlying49 49 "ref.go:45" #[{ on := 7, ground := Ground.data }]).op, none⟩,
      ⟨(opAssign (some 5) (.tmp 31) 49 "ref.go:45" #[{ on := 8, ground := Ground.data }, { on := 0, ground := Ground.phase }, { on := 1, ground := Ground.phase }, { on := 2, ground := Ground.phase }, { on := 3, ground := Ground.phase }, { on := 4, ground := Ground.phase }, { on := 5, ground := Ground.phase }, { on := 6, ground := Ground.phase }, { on := 7, ground := Ground.phase }, { on := 8, ground := Ground.phase }]).op, none⟩
    ] (by kernel_rfl)))
    (.seq (.seq (.live [0, 3, 4, 5, 37] (.region 8 [
      ⟨(opMove (some 32) (.tmp 4) 3 "ref.go:46" #[]).op, none⟩,
      ⟨(opBin (some 33) .eql 3 (.tmp 32) (.const (Value.int IntKind.i64 9)) 3 4 "ref.go:46" #[{ on := 0, ground := Ground.data }]).op, none⟩,
      ⟨(opMove (some 34) (.tmp 33) 4 "ref.go:46" #[{ on := 1, ground := Ground.data }]).op, none⟩,
      ⟨(opMove (some 35) (.tmp 5) 49 "ref.go:46" #[{ on := 2, ground := Ground.guard }]).op, (some (2, 34, true))⟩,
      ⟨(opBin (some 36) .gtr 49 (.tmp 35) (.const (Value.int IntKind.u64 1)) 49 4 "ref.go:46" #[{ on := 3, ground := Ground.data }, { on := 2, ground := Ground.guard }]).op, (some (2, 34, true))⟩,
      ⟨(opPick (some 37) (.tmp 34) (.tmp 36) (.const (Value.bool false)) 4 "ref.go:46" #[{ on := 2, ground := Ground.data }, { on := 4, ground := Ground.data }]).op, none⟩
    ] (by kernel_rfl)))
    (.cond (.tmp 37)
      (.live [0] (.exit 0))
      .skip))
    (.seq (.live [0, 3, 4, 5] (.region 9 [
      ⟨(opMove (some 38) (.tmp 3) 49 "ref.go:49" #[]).op, none⟩,
      ⟨(opMove (some 39) (.tmp 5) 49 "ref.go:49" #[]).op, none⟩,
      ⟨(opMove (some 40) (.tmp 4) 3 "ref.go:49" #[]).op, none⟩,
      ⟨(opBin (some 41) .mul 3 (.const (Value.int IntKind.i64 7)) (.tmp 40) 3 3 "ref.go:49" #[{ on := 2, ground := Ground.data }]).op, none⟩,
      ⟨(opConvInt (some 42) 3 54 (.tmp 41) (.int .i64) Try.underlying3 .u64 Try.underlying54 54 "ref.go:49" #[{ on := 3, ground := Ground.data }]).op, none⟩,
      ⟨(opBin (some 43) .shl 49 (.tmp 39) (.tmp 42) 54 49 "ref.go:49" #[{ on := 1, ground := Ground.data }, { on := 4, ground := Ground.data }]).op, none⟩,
      ⟨(opBin (some 44) .add 49 (.tmp 38) (.tmp 43) 49 49 "ref.go:49" #[{ on := 0, ground := Ground.data }, { on := 5, ground := Ground.data }]).op, none⟩,
      ⟨(opAssign (some 3) (.tmp 44) 49 "ref.go:49" #[{ on := 6, ground := Ground.data }, { on := 0, ground := Ground.phase }, { on := 1, ground := Ground.phase }, { on := 2, ground := Ground.phase }, { on := 3, ground := Ground.phase }, { on := 4, ground := Ground.phase }, { on := 5, ground := Ground.phase }, { on := 6, ground := Ground.phase }]).op, none⟩
    ] (by kernel_rfl)))
    (.seq (.live [0, 3, 4, 5, 52] (.region 10 [
      ⟨(opMove (some 45) (.tmp 0) 42 "ref.go:50" #[]).op, none⟩,
      ⟨(opNilCheck (some 46) (.tmp 45) 0 "ref.go:50" #[{ on := 0, ground := Ground.data }]).op, none⟩,
      ⟨(opFieldAddr (some 47) 44 (.tmp 46) 0 0 1 false fl44_0 (by decide) 0 "ref.go:50" #[{ on := 1, ground := Ground.data }]).op, none⟩,
      ⟨(opLoad (some 48) 22 (.tmp 47) (.slice 5) Try.underlying22 1 sz22 22 "ref.go:50" #[{ on := 2, ground := Ground.data }]).op, none⟩,
      ⟨(opMove (some 49) (.tmp 4) 3 "ref.go:50" #[]).op, none⟩,
      ⟨(opIndexAddr (some 50) 22 (.tmp 48) (.tmp 49) 5 1 Try.underlying22 sz5 0 "ref.go:50" #[{ on := 3, ground := Ground.data }, { on := 4, ground := Ground.data }]).op, none⟩,
      ⟨(opLoad (some 51) 5 (.tmp 50) (.int .u8) Try.underlying5 1 sz5 5 "ref.go:50" #[{ on := 5, ground := Ground.data }]).op, none⟩,
      ⟨(opBin (some 52) .lss 5 (.tmp 51) (.const (Value.int IntKind.u8 128)) 5 4 "ref.go:50" #[{ on := 6, ground := Ground.data }]).op, none⟩
    ] (by kernel_rfl)))
    (.cond (.tmp 52)
      (.seq (.seq (.live [0, 3, 4, 58] (.region 11 [
        ⟨(opMove (some 53) (.tmp 4) 3 "ref.go:51" #[]).op, none⟩,
        ⟨(opBin (some 54) .gtr 3 (.tmp 53) (.const (Value.int IntKind.i64 0)) 3 4 "ref.go:51" #[{ on := 0, ground := Ground.data }]).op, none⟩,
        ⟨(opMove (some 55) (.tmp 54) 4 "ref.go:51" #[{ on := 1, ground := Ground.data }]).op, none⟩,
        ⟨(opMove (some 56) (.tmp 5) 49 "ref.go:51" #[{ on := 2, ground := Ground.guard }]).op, (some (2, 55, true))⟩,
        ⟨(opBin (some 57) .eql 49 (.tmp 56) (.const (Value.int IntKind.u64 0)) 49 4 "ref.go:51" #[{ on := 3, ground := Ground.data }, { on := 2, ground := Ground.guard }]).op, (some (2, 55, true))⟩,
        ⟨(opPick (some 58) (.tmp 55) (.tmp 57) (.const (Value.bool false)) 4 "ref.go:51" #[{ on := 2, ground := Ground.data }, { on := 4, ground := Ground.data }]).op, none⟩
      ] (by kernel_rfl)))
      (.cond (.tmp 58)
        (.live [0] (.exit 0))
        .skip))
      (.seq (.live [3] (.region 12 [
        ⟨(opMove (some 59) (.tmp 0) 42 "ref.go:54" #[]).op, none⟩,
        ⟨(opMove (some 60) (.tmp 0) 42 "ref.go:54" #[]).op, none⟩,
        ⟨(opNilCheck (some 61) (.tmp 60) 0 "ref.go:54" #[{ on := 1, ground := Ground.data }]).op, none⟩,
        ⟨(opFieldAddr (some 62) 44 (.tmp 61) 0 0 1 false fl44_0 (by decide) 0 "ref.go:54" #[{ on := 2, ground := Ground.data }]).op, none⟩,
        ⟨(opLoad (some 63) 22 (.tmp 62) (.slice 5) Try.underlying22 1 sz22 22 "ref.go:54" #[{ on := 3, ground := Ground.data }]).op, none⟩,
        ⟨(opMove (some 64) (.tmp 4) 3 "ref.go:54" #[]).op, none⟩,
        ⟨(opBin (some 65) .add 3 (.tmp 64) (.const (Value.int IntKind.i64 1)) 3 3 "ref.go:54" #[{ on := 5, ground := Ground.data }]).op, none⟩,
        ⟨(opSlice (some 66) 22 (.tmp 63) (some (.tmp 65)) none none 5 1 Try.underlying22 sz5 22 "ref.go:54" #[{ on := 4, ground := Ground.data }, { on := 6, ground := Ground.data }]).op, none⟩,
        ⟨(opNilCheck (some 67) (.tmp 59) 0 "ref.go:54" #[{ on := 0, ground := Ground.data }, { on := 0, ground := Ground.phase }, { on := 1, ground := Ground.phase }, { on := 2, ground := Ground.phase }, { on := 3, ground := Ground.phase }, { on := 4, ground := Ground.phase }, { on := 5, ground := Ground.phase }, { on := 6, ground := Ground.phase }, { on := 7, ground := Ground.phase }]).op, none⟩,
        ⟨(opFieldAddr (some 68) 44 (.tmp 67) 0 0 1 false fl44_0 (by decide) 0 "ref.go:54" #[{ on := 8, ground := Ground.data }, { on := 0, ground := Ground.phase }, { on := 1, ground := Ground.phase }, { on := 2, ground := Ground.phase }, { on := 3, ground := Ground.phase }, { on := 4, ground := Ground.phase }, { on := 5, ground := Ground.phase }, { on := 6, ground := Ground.phase }, { on := 7, ground := Ground.phase }]).op, none⟩,
        ⟨(opStore none 22 (.tmp 68) (.tmp 66) 1 sz22 0 "ref.go:54" #[{ on := 9, ground := Ground.data }, { on := 7, ground := Ground.data }, { on := 0, ground := Ground.phase }, { on := 1, ground := Ground.phase }, { on := 2, ground := Ground.phase }, { on := 3, ground := Ground.phase }, { on := 4, ground := Ground.phase }, { on := 5, ground := Ground.phase }, { on := 6, ground := Ground.phase }, { on := 7, ground := Ground.phase }]).op, none⟩
      ] (by kernel_rfl)))
      (.seq (.seq (.live [3, 71] (.region 13 [
        ⟨(opMove (some 69) (.tmp 3) 49 "ref.go:55" #[]).op, none⟩,
        ⟨(opBin (some 70) .rem 49 (.tmp 69) (.const (Value.int IntKind.u64 2)) 49 49 "ref.go:55" #[{ on := 0, ground := Ground.data }]).op, none⟩,
        ⟨(opBin (some 71) .eql 49 (.tmp 70) (.const (Value.int IntKind.u64 1)) 49 4 "ref.go:55" #[{ on := 1, ground := Ground.data }]).op, none⟩
      ] (by kernel_rfl)))
      (.cond (.tmp 71)
        (.seq (.live [2] (.region 14 [
          ⟨(opMove (some 72) (.tmp 3) 49 "ref.go:56" #[]).op, none⟩,
          ⟨(opBin (some 73) .quo 49 (.tmp 72) (.const (Value.int IntKind.u64 2)) 49 49 "ref.go:56" #[{ on := 0, ground := Ground.data }]).op, none⟩,
          ⟨(opConvInt (some 74) 49 3 (.tmp 73) (.int .u64) Try.underlying49 .i64 Try.underlying3 3 "ref.go:56" #[{ on := 1, ground := Ground.data }]).op, none⟩,
          ⟨(opNeg (some 75) 3 (.tmp 74) 3 "ref.go:56" #[{ on := 2, ground := Ground.data }]).op, none⟩,
          ⟨(opBin (some 76) .sub 3 (.tmp 75) (.const (Value.int IntKind.i64 1)) 3 3 "ref.go:56" #[{ on := 3, ground := Ground.data }]).op, none⟩,
          ⟨(opAssign (some 2) (.tmp 76) 3 "ref.go:56" #[{ on := 4, ground := Ground.data }, { on := 0, ground := Ground.phase }, { on := 1, ground := Ground.phase }, { on := 2, ground := Ground.phase }, { on := 3, ground := Ground.phase }, { on := 4, ground := Ground.phase }]).op, none⟩
        ] (by kernel_rfl)))
        (.live [2] .ret))
        .skip))
      (.seq (.live [2] (.region 15 [
        ⟨(opMove (some 77) (.tmp 3) 49 "ref.go:58" #[]).op, none⟩,
        ⟨(opBin (some 78) .quo 49 (.tmp 77) (.const (Value.int IntKind.u64 2)) 49 49 "ref.go:58" #[{ on := 0, ground := Ground.data }]).op, none⟩,
        ⟨(opConvInt (some 79) 49 3 (.tmp 78) (.int .u64) Try.underlying49 .i64 Try.underlying3 3 "ref.go:58" #[{ on := 1, ground := Ground.data }]).op, none⟩,
        ⟨(opAssign (some 2) (.tmp 79) 3 "ref.go:58" #[{ on := 2, ground := Ground.data }, { on := 0, ground := Ground.phase }, { on := 1, ground := Ground.phase }, { on := 2, ground := Ground.phase }]).op, none⟩
      ] (by kernel_rfl)))
      (.live [2] .ret)))))
      .skip))))))
  (.live [0, 3, 4] (.region 6 [
    ⟨(opMove (some 21) (.tmp 4) 3 "ref.go:44" #[]).op, none⟩,
    ⟨(opBin (some 22) .add 3 (.tmp 21) (.const (Value.int IntKind.i64 1)) 3 3 "ref.go:44" #[{ on := 0, ground := Ground.data }]).op, none⟩,
    ⟨(opAssign (some 4) (.tmp 22) 3 "ref.go:44" #[{ on := 1, ground := Ground.data }, { on := 0, ground := Ground.phase }, { on := 1, ground := Ground.phase }]).op, none⟩
  ] (by kernel_rfl)))))

/-- What follows a loop. -/
noncomputable def f26_r0 : Sim Try.prog :=
  (.seq (.live [] (.region 16 [
    ⟨(opMove (some 80) (.tmp 0) 42 "ref.go:61" #[]).op, none⟩,
    ⟨(opNilCheck (some 81) (.tmp 80) 0 "ref.go:61" #[{ on := 0, ground := Ground.data }, { on := 0, ground := Ground.phase }]).op, none⟩,
    ⟨(opFieldAddr (some 82) 44 (.tmp 81) 1 1 1 false fl44_1 (by decide) 0 "ref.go:61" #[{ on := 1, ground := Ground.data }, { on := 0, ground := Ground.phase }]).op, none⟩,
    ⟨(opStore none 4 (.tmp 82) (.const (Value.bool true)) 1 sz4 0 "ref.go:61" #[{ on := 2, ground := Ground.data }, { on := 0, ground := Ground.phase }]).op, none⟩
  ] (by kernel_rfl)))
  (.seq (.live [2] (.region 17 [
    ⟨(opAssign (some 2) (.const (Value.int IntKind.i64 0)) 3 "ref.go:62" #[]).op, none⟩
  ] (by kernel_rfl)))
  (.live [2] .ret)))

noncomputable def f26_b : Sim Try.prog :=
  (.seq (.live [0] (.region 0 [
    ⟨(opAssign (some 2) (.const (Value.int IntKind.i64 0)) 3 "ref.go:39" #[]).op, none⟩
  ] (by kernel_rfl)))
  (.seq (.seq (.live [0, 9] (.region 1 [
    ⟨(opMove (some 6) (.tmp 0) 42 "ref.go:40" #[]).op, none⟩,
    ⟨(opNilCheck (some 7) (.tmp 6) 0 "ref.go:40" #[{ on := 0, ground := Ground.data }]).op, none⟩,
    ⟨(opFieldAddr (some 8) 44 (.tmp 7) 1 1 1 false fl44_1 (by decide) 0 "ref.go:40" #[{ on := 1, ground := Ground.data }]).op, none⟩,
    ⟨(opLoad (some 9) 4 (.tmp 8) .bool Try.underlying4 1 sz4 4 "ref.go:40" #[{ on := 2, ground := Ground.data }]).op, none⟩
  ] (by kernel_rfl)))
  (.cond (.tmp 9)
    (.seq (.live [2] (.region 2 [
      ⟨(opAssign (some 2) (.const (Value.int IntKind.i64 0)) 3 "ref.go:41" #[]).op, none⟩
    ] (by kernel_rfl)))
    (.live [2] .ret))
    .skip))
  (.seq (.live [0, 3] (.region 3 [
    ⟨(opAssign (some 3) (.const (Value.int IntKind.u64 0)) 49 "ref.go:43" #[]).op, none⟩
  ] (by kernel_rfl)))
  (.seq (.seq (.live [0, 3, 4] (.region 4 [
    ⟨(opAssign (some 4) (.const (Value.int IntKind.i64 0)) 3 "ref.go:44" #[]).op, none⟩
  ] (by kernel_rfl)))
  (.block 0 (.loop [0, 3, 4] f26_l0)))
  f26_r0))))

noncomputable def f26 : Fun Try.prog where
  id := 26
  fn := Try.f26
  hf := Try.func26
  hname := by kernel_rfl
  body := f26_b
  hbody := by kernel_rfl
  res := [rTmp 2]
  hres := by kernel_rfl
  n := 83
  hn := by kernel_rfl

/-! ### 31: (*interlock/interlockref01.Reader).Left (42); results 2; slots: 0 r, 1 r -/
noncomputable def f31_b : Sim Try.prog :=
  (.seq (.live [0] (.region 0 [
    ⟨(opAssign (some 2) (.const (Value.int IntKind.i64 0)) 3 "ref.go:88" #[]).op, none⟩
  ] (by kernel_rfl)))
  (.seq (.seq (.live [0, 6] (.region 1 [
    ⟨(opMove (some 3) (.tmp 0) 42 "ref.go:89" #[]).op, none⟩,
    ⟨(opNilCheck (some 4) (.tmp 3) 0 "ref.go:89" #[{ on := 0, ground := Ground.data }]).op, none⟩,
    ⟨(opFieldAddr (some 5) 44 (.tmp 4) 1 1 1 false fl44_1 (by decide) 0 "ref.go:89" #[{ on := 1, ground := Ground.data }]).op, none⟩,
    ⟨(opLoad (some 6) 4 (.tmp 5) .bool Try.underlying4 1 sz4 4 "ref.go:89" #[{ on := 2, ground := Ground.data }]).op, none⟩
  ] (by kernel_rfl)))
  (.cond (.tmp 6)
    (.seq (.live [2] (.region 2 [
      ⟨(opAssign (some 2) (.const (Value.int IntKind.i64 0)) 3 "ref.go:90" #[]).op, none⟩
    ] (by kernel_rfl)))
    (.live [2] .ret))
    .skip))
  (.seq (.live [2] (.region 3 [
    ⟨(opMove (some 7) (.tmp 0) 42 "ref.go:92" #[]).op, none⟩,
    ⟨(opNilCheck (some 8) (.tmp 7) 0 "ref.go:92" #[{ on := 0, ground := Ground.data }]).op, none⟩,
    ⟨(opFieldAddr (some 9) 44 (.tmp 8) 0 0 1 false fl44_0 (by decide) 0 "ref.go:92" #[{ on := 1, ground := Ground.data }]).op, none⟩,
    ⟨(opLoad (some 10) 22 (.tmp 9) (.slice 5) Try.underlying22 1 sz22 22 "ref.go:92" #[{ on := 2, ground := Ground.data }]).op, none⟩,
    ⟨(opLen (some 11) (.tmp 10) 22 (.slice 5) Try.underlying22 3 "ref.go:92" #[{ on := 3, ground := Ground.data }]).op, none⟩,
    ⟨(opAssign (some 2) (.tmp 11) 3 "ref.go:92" #[{ on := 4, ground := Ground.data }, { on := 0, ground := Ground.phase }, { on := 1, ground := Ground.phase }, { on := 2, ground := Ground.phase }, { on := 3, ground := Ground.phase }, { on := 4, ground := Ground.phase }]).op, none⟩
  ] (by kernel_rfl)))
  (.live [2] .ret))))

noncomputable def f31 : Fun Try.prog where
  id := 31
  fn := Try.f31
  hf := Try.func31
  hname := by kernel_rfl
  body := f31_b
  hbody := by kernel_rfl
  res := [rTmp 2]
  hres := by kernel_rfl
  n := 12
  hn := by kernel_rfl

end Go.Proofs.Ytjdpfblmhahfkaa.V

/- What the functions' runs come to; the right sides were printed by a tool, Lean checks them. -/
set_option linter.unusedVariables false
set_option maxRecDepth 100000
namespace Go.Proofs.Ytjdpfblmhahfkaa.V
open Go Go.V Go.RowKit

theorem rr_run (F : Nat) (f : Bool) (l : List (List AV)) (o : Ob) (os : List Ob) (tk : List (Nat × Nat)) :
    (f26.run F [.ptr 1 0] ⟨o :: .cells [.sl 1 f l, .bool false] :: os, tk⟩ : Ans) =
    loopRun (f26_l0.run F) [0, 3, 4] (Cont.block 0 (Cont.then (f26_r0.run F (f26.leaveK Fun.done)) (f26.leaveK Fun.done))) F
      (Env.mk 83 [(0, AV.ptr 1 0), (3, AV.int IntKind.u64 0), (4, AV.int IntKind.i64 0)])
      (St.mk (o :: Ob.cells [AV.sl 1 f l, AV.bool false] :: os) tk) := by kernel_rfl

theorem rr_bad (a : AV) (o : Ob) (os : List Ob) (tk : List (Nat × Nat)) :
    (f26.run 0 [.ptr 1 0] ⟨o :: .cells [a, .bool true] :: os, tk⟩ : Ans) =
    some (Fin.ret (AV.int IntKind.i64 0), St.mk (o :: Ob.cells [a, AV.bool true] :: os) tk) := by kernel_rfl

theorem rleft_run (f b : Bool) (l : List (List AV)) (o : Ob) (os : List Ob) (tk : List (Nat × Nat)) :
    (f31.run 0 [.ptr 1 0] ⟨o :: .cells [.sl 1 f l, .bool b] :: os, tk⟩ : Ans) =
    branch (AV.bool b) (some (Fin.ret (AV.int IntKind.i64 0), St.mk (o :: Ob.cells [AV.sl 1 f l, AV.bool b] :: os) tk))
      (some (Fin.ret (AV.int IntKind.i64 (↑l.length : Int)), St.mk (o :: Ob.cells [AV.sl 1 f l, AV.bool b] :: os) tk)) := by kernel_rfl

theorem rr_round_raw (F n : Nat) (K : Cont) (u i c : Int) (f : Bool) (l : List (List AV)) (o : Ob) (os : List Ob) (tk : List (Nat × Nat)) :
    (loopRun (f26_l0.run F) [0, 3, 4] K n.succ (Env.mk 83 [(0, .ptr 1 0), (3, .int .u64 u), (4, .int .i64 i)]) ⟨o :: .cells [.sl 1 f l, .bool false] :: os, tk⟩ : Ans) =
    branch (AV.bool (decide (i < (↑l.length : Int))))
      (branch (AV.bool (decide (i < 10)))
        (onSome (elemAt l i) none fun (o_1 : List AV) =>
          onCons o_1 none fun (x : AV) (l_1 : List AV) =>
            onInt x fun (a : IntKind) (a_1 : Int) =>
              if a = IntKind.u8 then
                branch (AV.bool (i == 9))
                  (branch (AV.bool (decide (IntKind.u64.wrap (a_1.tmod 128) > 1)))
                    (K (AX.exit 0) (Env.mk 83 [(0, AV.ptr 1 0)])
                      (St.mk (o :: Ob.cells [AV.sl 1 f l, AV.bool false] :: os) tk))
                    (if 0 ≤ IntKind.u64.wrap (IntKind.i64.wrap (7 * i)) then
                      onSome (elemAt l i) none fun (o_2 : List AV) =>
                        onCons o_2 none fun (x : AV) (l_2 : List AV) =>
                          onInt x fun (a : IntKind) (a_2 : Int) =>
                            if a = IntKind.u8 then
                              branch (AV.bool (decide (a_2 < 128)))
                                (branch (AV.bool (decide (i > 0)))
                                  (branch (AV.bool (IntKind.u64.wrap (a_1.tmod 128) == 0))
                                    (K (AX.exit 0) (Env.mk 83 [(0, AV.ptr 1 0)])
                                      (St.mk (o :: Ob.cells [AV.sl 1 f l, AV.bool false] :: os) tk))
                                    (if 0 ≤ IntKind.i64.wrap (i + 1) ∧ IntKind.i64.wrap (i + 1) ≤ (↑l.length : Int) then
                                      branch
                                        (AV.bool
                                          ((IntKind.u64.wrap
                                                  (u +
                                                    IntKind.u64.wrap
                                                      (IntKind.u64.wrap (a_1.tmod 128) *
                                                        2 ^
                                                          min (IntKind.u64.wrap (IntKind.i64.wrap (7 * i))).toNat 64))).tmod
                                              2 ==
                                            1))
                                        (K AX.ret
                                          (Env.mk 83
                                            [(2,
                                                AV.int IntKind.i64
                                                  (IntKind.i64.wrap
                                                    (IntKind.i64.wrap
                                                        (0 -
                                                          IntKind.i64.wrap
                                                            (IntKind.u64.wrap
                                                              ((IntKind.u64.wrap
                                                                    (u +
                                                                      IntKind.u64.wrap
                                                                        (IntKind.u64.wrap (a_1.tmod 128) *
                                                                          2 ^
                                                                            min
                                                                              (IntKind.u64.wrap
                                                                                  (IntKind.i64.wrap (7 * i))).toNat
                                                                              64))).tdiv
                                                                2))) -
                                                      1)))])
                                          (St.mk
                                            (o ::
                                              Ob.cells
                                                  [AV.sl 1 (f && l.length.beq l.length)
                                                      (List.drop (IntKind.i64.wrap (i + 1)).toNat (List.take l.length l)),
                                                    AV.bool false] ::
                                                os)
                                            tk))
                                        (K AX.ret
                                          (Env.mk 83
                                            [(2,
                                                AV.int IntKind.i64
                                                  (IntKind.i64.wrap
                                                    (IntKind.u64.wrap
                                                      ((IntKind.u64.wrap
                                                            (u +
                                                              IntKind.u64.wrap
                                                                (IntKind.u64.wrap (a_1.tmod 128) *
                                                                  2 ^
                                                                    min (IntKind.u64.wrap (IntKind.i64.wrap (7 * i))).toNat
                                                                      64))).tdiv
                                                        2))))])
                                          (St.mk
                                            (o ::
                                              Ob.cells
                                                  [AV.sl 1 (f && l.length.beq l.length)
                                                      (List.drop (IntKind.i64.wrap (i + 1)).toNat (List.take l.length l)),
                                                    AV.bool false] ::
                                                os)
                                            tk))
                                    else none))
                                  (if 0 ≤ IntKind.i64.wrap (i + 1) ∧ IntKind.i64.wrap (i + 1) ≤ (↑l.length : Int) then
                                    branch
                                      (AV.bool
                                        ((IntKind.u64.wrap
                                                (u +
                                                  IntKind.u64.wrap
                                                    (IntKind.u64.wrap (a_1.tmod 128) *
                                                      2 ^ min (IntKind.u64.wrap (IntKind.i64.wrap (7 * i))).toNat 64))).tmod
                                            2 ==
                                          1))
                                      (K AX.ret
                                        (Env.mk 83
                                          [(2,
                                              AV.int IntKind.i64
                                                (IntKind.i64.wrap
                                                  (IntKind.i64.wrap
                                                      (0 -
                                                        IntKind.i64.wrap
                                                          (IntKind.u64.wrap
                                                            ((IntKind.u64.wrap
                                                                  (u +
                                                                    IntKind.u64.wrap
                                                                      (IntKind.u64.wrap (a_1.tmod 128) *
                                                                        2 ^
                                                                          min
                                                                            (IntKind.u64.wrap
                                                                                (IntKind.i64.wrap (7 * i))).toNat
                                                                            64))).tdiv
                                                              2))) -
                                                    1)))])
                                        (St.mk
                                          (o ::
                                            Ob.cells
                                                [AV.sl 1 (f && l.length.beq l.length)
                                                    (List.drop (IntKind.i64.wrap (i + 1)).toNat (List.take l.length l)),
                                                  AV.bool false] ::
                                              os)
                                          tk))
                                      (K AX.ret
                                        (Env.mk 83
                                          [(2,
                                              AV.int IntKind.i64
                                                (IntKind.i64.wrap
                                                  (IntKind.u64.wrap
                                                    ((IntKind.u64.wrap
                                                          (u +
                                                            IntKind.u64.wrap
                                                              (IntKind.u64.wrap (a_1.tmod 128) *
                                                                2 ^
                                                                  min (IntKind.u64.wrap (IntKind.i64.wrap (7 * i))).toNat
                                                                    64))).tdiv
                                                      2))))])
                                        (St.mk
                                          (o ::
                                            Ob.cells
                                                [AV.sl 1 (f && l.length.beq l.length)
                                                    (List.drop (IntKind.i64.wrap (i + 1)).toNat (List.take l.length l)),
                                                  AV.bool false] ::
                                              os)
                                          tk))
                                  else none))
                                (loopRun (f26_l0.run F) [0, 3, 4] K n
                                  (Env.mk 83
                                    [(0, AV.ptr 1 0),
                                      (3,
                                        AV.int IntKind.u64
                                          (IntKind.u64.wrap
                                            (u +
                                              IntKind.u64.wrap
                                                (IntKind.u64.wrap (a_1.tmod 128) *
                                                  2 ^ min (IntKind.u64.wrap (IntKind.i64.wrap (7 * i))).toNat 64)))),
                                      (4, AV.int IntKind.i64 (IntKind.i64.wrap (i + 1)))])
                                  (St.mk (o :: Ob.cells [AV.sl 1 f l, AV.bool false] :: os) tk))
                            else none
                    else none))
                  (if 0 ≤ IntKind.u64.wrap (IntKind.i64.wrap (7 * i)) then
                    onSome (elemAt l i) none fun (o_2 : List AV) =>
                      onCons o_2 none fun (x : AV) (l_2 : List AV) =>
                        onInt x fun (a : IntKind) (a_2 : Int) =>
                          if a = IntKind.u8 then
                            branch (AV.bool (decide (a_2 < 128)))
                              (branch (AV.bool (decide (i > 0)))
                                (branch (AV.bool (IntKind.u64.wrap (a_1.tmod 128) == 0))
                                  (K (AX.exit 0) (Env.mk 83 [(0, AV.ptr 1 0)])
                                    (St.mk (o :: Ob.cells [AV.sl 1 f l, AV.bool false] :: os) tk))
                                  (if 0 ≤ IntKind.i64.wrap (i + 1) ∧ IntKind.i64.wrap (i + 1) ≤ (↑l.length : Int) then
                                    branch
                                      (AV.bool
                                        ((IntKind.u64.wrap
                                                (u +
                                                  IntKind.u64.wrap
                                                    (IntKind.u64.wrap (a_1.tmod 128) *
                                                      2 ^ min (IntKind.u64.wrap (IntKind.i64.wrap (7 * i))).toNat 64))).tmod
                                            2 ==
                                          1))
                                      (K AX.ret
                                        (Env.mk 83
                                          [(2,
                                              AV.int IntKind.i64
                                                (IntKind.i64.wrap
                                                  (IntKind.i64.wrap
                                                      (0 -
                                                        IntKind.i64.wrap
                                                          (IntKind.u64.wrap
                                                            ((IntKind.u64.wrap
                                                                  (u +
                                                                    IntKind.u64.wrap
                                                                      (IntKind.u64.wrap (a_1.tmod 128) *
                                                                        2 ^
                                                                          min
                                                                            (IntKind.u64.wrap
                                                                                (IntKind.i64.wrap (7 * i))).toNat
                                                                            64))).tdiv
                                                              2))) -
                                                    1)))])
                                        (St.mk
                                          (o ::
                                            Ob.cells
                                                [AV.sl 1 (f && l.length.beq l.length)
                                                    (List.drop (IntKind.i64.wrap (i + 1)).toNat (List.take l.length l)),
                                                  AV.bool false] ::
                                              os)
                                          tk))
                                      (K AX.ret
                                        (Env.mk 83
                                          [(2,
                                              AV.int IntKind.i64
                                                (IntKind.i64.wrap
                                                  (IntKind.u64.wrap
                                                    ((IntKind.u64.wrap
                                                          (u +
                                                            IntKind.u64.wrap
                                                              (IntKind.u64.wrap (a_1.tmod 128) *
                                                                2 ^
                                                                  min (IntKind.u64.wrap (IntKind.i64.wrap (7 * i))).toNat
                                                                    64))).tdiv
                                                      2))))])
                                        (St.mk
                                          (o ::
                                            Ob.cells
                                                [AV.sl 1 (f && l.length.beq l.length)
                                                    (List.drop (IntKind.i64.wrap (i + 1)).toNat (List.take l.length l)),
                                                  AV.bool false] ::
                                              os)
                                          tk))
                                  else none))
                                (if 0 ≤ IntKind.i64.wrap (i + 1) ∧ IntKind.i64.wrap (i + 1) ≤ (↑l.length : Int) then
                                  branch
                                    (AV.bool
                                      ((IntKind.u64.wrap
                                              (u +
                                                IntKind.u64.wrap
                                                  (IntKind.u64.wrap (a_1.tmod 128) *
                                                    2 ^ min (IntKind.u64.wrap (IntKind.i64.wrap (7 * i))).toNat 64))).tmod
                                          2 ==
                                        1))
                                    (K AX.ret
                                      (Env.mk 83
                                        [(2,
                                            AV.int IntKind.i64
                                              (IntKind.i64.wrap
                                                (IntKind.i64.wrap
                                                    (0 -
                                                      IntKind.i64.wrap
                                                        (IntKind.u64.wrap
                                                          ((IntKind.u64.wrap
                                                                (u +
                                                                  IntKind.u64.wrap
                                                                    (IntKind.u64.wrap (a_1.tmod 128) *
                                                                      2 ^
                                                                        min
                                                                          (IntKind.u64.wrap
                                                                              (IntKind.i64.wrap (7 * i))).toNat
                                                                          64))).tdiv
                                                            2))) -
                                                  1)))])
                                      (St.mk
                                        (o ::
                                          Ob.cells
                                              [AV.sl 1 (f && l.length.beq l.length)
                                                  (List.drop (IntKind.i64.wrap (i + 1)).toNat (List.take l.length l)),
                                                AV.bool false] ::
                                            os)
                                        tk))
                                    (K AX.ret
                                      (Env.mk 83
                                        [(2,
                                            AV.int IntKind.i64
                                              (IntKind.i64.wrap
                                                (IntKind.u64.wrap
                                                  ((IntKind.u64.wrap
                                                        (u +
                                                          IntKind.u64.wrap
                                                            (IntKind.u64.wrap (a_1.tmod 128) *
                                                              2 ^
                                                                min (IntKind.u64.wrap (IntKind.i64.wrap (7 * i))).toNat
                                                                  64))).tdiv
                                                    2))))])
                                      (St.mk
                                        (o ::
                                          Ob.cells
                                              [AV.sl 1 (f && l.length.beq l.length)
                                                  (List.drop (IntKind.i64.wrap (i + 1)).toNat (List.take l.length l)),
                                                AV.bool false] ::
                                            os)
                                        tk))
                                else none))
                              (loopRun (f26_l0.run F) [0, 3, 4] K n
                                (Env.mk 83
                                  [(0, AV.ptr 1 0),
                                    (3,
                                      AV.int IntKind.u64
                                        (IntKind.u64.wrap
                                          (u +
                                            IntKind.u64.wrap
                                              (IntKind.u64.wrap (a_1.tmod 128) *
                                                2 ^ min (IntKind.u64.wrap (IntKind.i64.wrap (7 * i))).toNat 64)))),
                                    (4, AV.int IntKind.i64 (IntKind.i64.wrap (i + 1)))])
                                (St.mk (o :: Ob.cells [AV.sl 1 f l, AV.bool false] :: os) tk))
                          else none
                  else none)
              else none)
        (K (AX.exit 0) (Env.mk 83 [(0, AV.ptr 1 0)]) (St.mk (o :: Ob.cells [AV.sl 1 f l, AV.bool false] :: os) tk)))
      (K (AX.exit 0) (Env.mk 83 [(0, AV.ptr 1 0)]) (St.mk (o :: Ob.cells [AV.sl 1 f l, AV.bool false] :: os) tk)) := by kernel_rfl

theorem rr_round (F n : Nat) (K : Cont) (u i c : Int) (f : Bool) (l : List (List AV)) (o : Ob) (os : List Ob) (tk : List (Nat × Nat)) (h0 : elemAt l i = some [.int .u8 c]) :
    (loopRun (f26_l0.run F) [0, 3, 4] K n.succ (Env.mk 83 [(0, .ptr 1 0), (3, .int .u64 u), (4, .int .i64 i)]) ⟨o :: .cells [.sl 1 f l, .bool false] :: os, tk⟩ : Ans) =
    branch (AV.bool (decide (i < (↑l.length : Int))))
      (branch (AV.bool (decide (i < 10)))
        (branch (AV.bool (i == 9))
          (branch (AV.bool (decide (IntKind.u64.wrap (c.tmod 128) > 1)))
            (K (AX.exit 0) (Env.mk 83 [(0, AV.ptr 1 0)]) (St.mk (o :: Ob.cells [AV.sl 1 f l, AV.bool false] :: os) tk))
            (if 0 ≤ IntKind.u64.wrap (IntKind.i64.wrap (7 * i)) then
              branch (AV.bool (decide (c < 128)))
                (branch (AV.bool (decide (i > 0)))
                  (branch (AV.bool (IntKind.u64.wrap (c.tmod 128) == 0))
                    (K (AX.exit 0) (Env.mk 83 [(0, AV.ptr 1 0)])
                      (St.mk (o :: Ob.cells [AV.sl 1 f l, AV.bool false] :: os) tk))
                    (if 0 ≤ IntKind.i64.wrap (i + 1) ∧ IntKind.i64.wrap (i + 1) ≤ (↑l.length : Int) then
                      branch
                        (AV.bool
                          ((IntKind.u64.wrap
                                  (u +
                                    IntKind.u64.wrap
                                      (IntKind.u64.wrap (c.tmod 128) *
                                        2 ^ min (IntKind.u64.wrap (IntKind.i64.wrap (7 * i))).toNat 64))).tmod
                              2 ==
                            1))
                        (K AX.ret
                          (Env.mk 83
                            [(2,
                                AV.int IntKind.i64
                                  (IntKind.i64.wrap
                                    (IntKind.i64.wrap
                                        (0 -
                                          IntKind.i64.wrap
                                            (IntKind.u64.wrap
                                              ((IntKind.u64.wrap
                                                    (u +
                                                      IntKind.u64.wrap
                                                        (IntKind.u64.wrap (c.tmod 128) *
                                                          2 ^
                                                            min (IntKind.u64.wrap (IntKind.i64.wrap (7 * i))).toNat
                                                              64))).tdiv
                                                2))) -
                                      1)))])
                          (St.mk
                            (o ::
                              Ob.cells
                                  [AV.sl 1 (f && l.length.beq l.length)
                                      (List.drop (IntKind.i64.wrap (i + 1)).toNat (List.take l.length l)),
                                    AV.bool false] ::
                                os)
                            tk))
                        (K AX.ret
                          (Env.mk 83
                            [(2,
                                AV.int IntKind.i64
                                  (IntKind.i64.wrap
                                    (IntKind.u64.wrap
                                      ((IntKind.u64.wrap
                                            (u +
                                              IntKind.u64.wrap
                                                (IntKind.u64.wrap (c.tmod 128) *
                                                  2 ^ min (IntKind.u64.wrap (IntKind.i64.wrap (7 * i))).toNat 64))).tdiv
                                        2))))])
                          (St.mk
                            (o ::
                              Ob.cells
                                  [AV.sl 1 (f && l.length.beq l.length)
                                      (List.drop (IntKind.i64.wrap (i + 1)).toNat (List.take l.length l)),
                                    AV.bool false] ::
                                os)
                            tk))
                    else none))
                  (if 0 ≤ IntKind.i64.wrap (i + 1) ∧ IntKind.i64.wrap (i + 1) ≤ (↑l.length : Int) then
                    branch
                      (AV.bool
                        ((IntKind.u64.wrap
                                (u +
                                  IntKind.u64.wrap
                                    (IntKind.u64.wrap (c.tmod 128) *
                                      2 ^ min (IntKind.u64.wrap (IntKind.i64.wrap (7 * i))).toNat 64))).tmod
                            2 ==
                          1))
                      (K AX.ret
                        (Env.mk 83
                          [(2,
                              AV.int IntKind.i64
                                (IntKind.i64.wrap
                                  (IntKind.i64.wrap
                                      (0 -
                                        IntKind.i64.wrap
                                          (IntKind.u64.wrap
                                            ((IntKind.u64.wrap
                                                  (u +
                                                    IntKind.u64.wrap
                                                      (IntKind.u64.wrap (c.tmod 128) *
                                                        2 ^
                                                          min (IntKind.u64.wrap (IntKind.i64.wrap (7 * i))).toNat 64))).tdiv
                                              2))) -
                                    1)))])
                        (St.mk
                          (o ::
                            Ob.cells
                                [AV.sl 1 (f && l.length.beq l.length)
                                    (List.drop (IntKind.i64.wrap (i + 1)).toNat (List.take l.length l)),
                                  AV.bool false] ::
                              os)
                          tk))
                      (K AX.ret
                        (Env.mk 83
                          [(2,
                              AV.int IntKind.i64
                                (IntKind.i64.wrap
                                  (IntKind.u64.wrap
                                    ((IntKind.u64.wrap
                                          (u +
                                            IntKind.u64.wrap
                                              (IntKind.u64.wrap (c.tmod 128) *
                                                2 ^ min (IntKind.u64.wrap (IntKind.i64.wrap (7 * i))).toNat 64))).tdiv
                                      2))))])
                        (St.mk
                          (o ::
                            Ob.cells
                                [AV.sl 1 (f && l.length.beq l.length)
                                    (List.drop (IntKind.i64.wrap (i + 1)).toNat (List.take l.length l)),
                                  AV.bool false] ::
                              os)
                          tk))
                  else none))
                (loopRun (f26_l0.run F) [0, 3, 4] K n
                  (Env.mk 83
                    [(0, AV.ptr 1 0),
                      (3,
                        AV.int IntKind.u64
                          (IntKind.u64.wrap
                            (u +
                              IntKind.u64.wrap
                                (IntKind.u64.wrap (c.tmod 128) *
                                  2 ^ min (IntKind.u64.wrap (IntKind.i64.wrap (7 * i))).toNat 64)))),
                      (4, AV.int IntKind.i64 (IntKind.i64.wrap (i + 1)))])
                  (St.mk (o :: Ob.cells [AV.sl 1 f l, AV.bool false] :: os) tk))
            else none))
          (if 0 ≤ IntKind.u64.wrap (IntKind.i64.wrap (7 * i)) then
            branch (AV.bool (decide (c < 128)))
              (branch (AV.bool (decide (i > 0)))
                (branch (AV.bool (IntKind.u64.wrap (c.tmod 128) == 0))
                  (K (AX.exit 0) (Env.mk 83 [(0, AV.ptr 1 0)])
                    (St.mk (o :: Ob.cells [AV.sl 1 f l, AV.bool false] :: os) tk))
                  (if 0 ≤ IntKind.i64.wrap (i + 1) ∧ IntKind.i64.wrap (i + 1) ≤ (↑l.length : Int) then
                    branch
                      (AV.bool
                        ((IntKind.u64.wrap
                                (u +
                                  IntKind.u64.wrap
                                    (IntKind.u64.wrap (c.tmod 128) *
                                      2 ^ min (IntKind.u64.wrap (IntKind.i64.wrap (7 * i))).toNat 64))).tmod
                            2 ==
                          1))
                      (K AX.ret
                        (Env.mk 83
                          [(2,
                              AV.int IntKind.i64
                                (IntKind.i64.wrap
                                  (IntKind.i64.wrap
                                      (0 -
                                        IntKind.i64.wrap
                                          (IntKind.u64.wrap
                                            ((IntKind.u64.wrap
                                                  (u +
                                                    IntKind.u64.wrap
                                                      (IntKind.u64.wrap (c.tmod 128) *
                                                        2 ^
                                                          min (IntKind.u64.wrap (IntKind.i64.wrap (7 * i))).toNat 64))).tdiv
                                              2))) -
                                    1)))])
                        (St.mk
                          (o ::
                            Ob.cells
                                [AV.sl 1 (f && l.length.beq l.length)
                                    (List.drop (IntKind.i64.wrap (i + 1)).toNat (List.take l.length l)),
                                  AV.bool false] ::
                              os)
                          tk))
                      (K AX.ret
                        (Env.mk 83
                          [(2,
                              AV.int IntKind.i64
                                (IntKind.i64.wrap
                                  (IntKind.u64.wrap
                                    ((IntKind.u64.wrap
                                          (u +
                                            IntKind.u64.wrap
                                              (IntKind.u64.wrap (c.tmod 128) *
                                                2 ^ min (IntKind.u64.wrap (IntKind.i64.wrap (7 * i))).toNat 64))).tdiv
                                      2))))])
                        (St.mk
                          (o ::
                            Ob.cells
                                [AV.sl 1 (f && l.length.beq l.length)
                                    (List.drop (IntKind.i64.wrap (i + 1)).toNat (List.take l.length l)),
                                  AV.bool false] ::
                              os)
                          tk))
                  else none))
                (if 0 ≤ IntKind.i64.wrap (i + 1) ∧ IntKind.i64.wrap (i + 1) ≤ (↑l.length : Int) then
                  branch
                    (AV.bool
                      ((IntKind.u64.wrap
                              (u +
                                IntKind.u64.wrap
                                  (IntKind.u64.wrap (c.tmod 128) *
                                    2 ^ min (IntKind.u64.wrap (IntKind.i64.wrap (7 * i))).toNat 64))).tmod
                          2 ==
                        1))
                    (K AX.ret
                      (Env.mk 83
                        [(2,
                            AV.int IntKind.i64
                              (IntKind.i64.wrap
                                (IntKind.i64.wrap
                                    (0 -
                                      IntKind.i64.wrap
                                        (IntKind.u64.wrap
                                          ((IntKind.u64.wrap
                                                (u +
                                                  IntKind.u64.wrap
                                                    (IntKind.u64.wrap (c.tmod 128) *
                                                      2 ^ min (IntKind.u64.wrap (IntKind.i64.wrap (7 * i))).toNat 64))).tdiv
                                            2))) -
                                  1)))])
                      (St.mk
                        (o ::
                          Ob.cells
                              [AV.sl 1 (f && l.length.beq l.length)
                                  (List.drop (IntKind.i64.wrap (i + 1)).toNat (List.take l.length l)),
                                AV.bool false] ::
                            os)
                        tk))
                    (K AX.ret
                      (Env.mk 83
                        [(2,
                            AV.int IntKind.i64
                              (IntKind.i64.wrap
                                (IntKind.u64.wrap
                                  ((IntKind.u64.wrap
                                        (u +
                                          IntKind.u64.wrap
                                            (IntKind.u64.wrap (c.tmod 128) *
                                              2 ^ min (IntKind.u64.wrap (IntKind.i64.wrap (7 * i))).toNat 64))).tdiv
                                    2))))])
                      (St.mk
                        (o ::
                          Ob.cells
                              [AV.sl 1 (f && l.length.beq l.length)
                                  (List.drop (IntKind.i64.wrap (i + 1)).toNat (List.take l.length l)),
                                AV.bool false] ::
                            os)
                        tk))
                else none))
              (loopRun (f26_l0.run F) [0, 3, 4] K n
                (Env.mk 83
                  [(0, AV.ptr 1 0),
                    (3,
                      AV.int IntKind.u64
                        (IntKind.u64.wrap
                          (u +
                            IntKind.u64.wrap
                              (IntKind.u64.wrap (c.tmod 128) *
                                2 ^ min (IntKind.u64.wrap (IntKind.i64.wrap (7 * i))).toNat 64)))),
                    (4, AV.int IntKind.i64 (IntKind.i64.wrap (i + 1)))])
                (St.mk (o :: Ob.cells [AV.sl 1 f l, AV.bool false] :: os) tk))
          else none))
        (K (AX.exit 0) (Env.mk 83 [(0, AV.ptr 1 0)]) (St.mk (o :: Ob.cells [AV.sl 1 f l, AV.bool false] :: os) tk)))
      (K (AX.exit 0) (Env.mk 83 [(0, AV.ptr 1 0)]) (St.mk (o :: Ob.cells [AV.sl 1 f l, AV.bool false] :: os) tk)) := by
  rw [rr_round_raw F n K u i c f l o os tk, h0]
  kernel_rfl

theorem rr_end_raw (F n : Nat) (K : Cont) (u i : Int) (f : Bool) (l : List (List AV)) (o : Ob) (os : List Ob) (tk : List (Nat × Nat)) :
    (loopRun (f26_l0.run F) [0, 3, 4] K n.succ (Env.mk 83 [(0, .ptr 1 0), (3, .int .u64 u), (4, .int .i64 i)]) ⟨o :: .cells [.sl 1 f l, .bool false] :: os, tk⟩ : Ans) =
    branch (AV.bool (decide (i < (↑l.length : Int))))
      (branch (AV.bool (decide (i < 10)))
        (onSome (elemAt l i) none fun (o_1 : List AV) =>
          onCons o_1 none fun (x : AV) (l_1 : List AV) =>
            onInt x fun (a : IntKind) (a_1 : Int) =>
              if a = IntKind.u8 then
                branch (AV.bool (i == 9))
                  (branch (AV.bool (decide (IntKind.u64.wrap (a_1.tmod 128) > 1)))
                    (K (AX.exit 0) (Env.mk 83 [(0, AV.ptr 1 0)])
                      (St.mk (o :: Ob.cells [AV.sl 1 f l, AV.bool false] :: os) tk))
                    (if 0 ≤ IntKind.u64.wrap (IntKind.i64.wrap (7 * i)) then
                      onSome (elemAt l i) none fun (o_2 : List AV) =>
                        onCons o_2 none fun (x : AV) (l_2 : List AV) =>
                          onInt x fun (a : IntKind) (a_2 : Int) =>
                            if a = IntKind.u8 then
                              branch (AV.bool (decide (a_2 < 128)))
                                (branch (AV.bool (decide (i > 0)))
                                  (branch (AV.bool (IntKind.u64.wrap (a_1.tmod 128) == 0))
                                    (K (AX.exit 0) (Env.mk 83 [(0, AV.ptr 1 0)])
                                      (St.mk (o :: Ob.cells [AV.sl 1 f l, AV.bool false] :: os) tk))
                                    (if 0 ≤ IntKind.i64.wrap (i + 1) ∧ IntKind.i64.wrap (i + 1) ≤ (↑l.length : Int) then
                                      branch
                                        (AV.bool
                                          ((IntKind.u64.wrap
                                                  (u +
                                                    IntKind.u64.wrap
                                                      (IntKind.u64.wrap (a_1.tmod 128) *
                                                        2 ^
                                                          min (IntKind.u64.wrap (IntKind.i64.wrap (7 * i))).toNat 64))).tmod
                                              2 ==
                                            1))
                                        (K AX.ret
                                          (Env.mk 83
                                            [(2,
                                                AV.int IntKind.i64
                                                  (IntKind.i64.wrap
                                                    (IntKind.i64.wrap
                                                        (0 -
                                                          IntKind.i64.wrap
                                                            (IntKind.u64.wrap
                                                              ((IntKind.u64.wrap
                                                                    (u +
                                                                      IntKind.u64.wrap
                                                                        (IntKind.u64.wrap (a_1.tmod 128) *
                                                                          2 ^
                                                                            min
                                                                              (IntKind.u64.wrap
                                                                                  (IntKind.i64.wrap (7 * i))).toNat
                                                                              64))).tdiv
                                                                2))) -
                                                      1)))])
                                          (St.mk
                                            (o ::
                                              Ob.cells
                                                  [AV.sl 1 (f && l.length.beq l.length)
                                                      (List.drop (IntKind.i64.wrap (i + 1)).toNat (List.take l.length l)),
                                                    AV.bool false] ::
                                                os)
                                            tk))
                                        (K AX.ret
                                          (Env.mk 83
                                            [(2,
                                                AV.int IntKind.i64
                                                  (IntKind.i64.wrap
                                                    (IntKind.u64.wrap
                                                      ((IntKind.u64.wrap
                                                            (u +
                                                              IntKind.u64.wrap
                                                                (IntKind.u64.wrap (a_1.tmod 128) *
                                                                  2 ^
                                                                    min (IntKind.u64.wrap (IntKind.i64.wrap (7 * i))).toNat
                                                                      64))).tdiv
                                                        2))))])
                                          (St.mk
                                            (o ::
                                              Ob.cells
                                                  [AV.sl 1 (f && l.length.beq l.length)
                                                      (List.drop (IntKind.i64.wrap (i + 1)).toNat (List.take l.length l)),
                                                    AV.bool false] ::
                                                os)
                                            tk))
                                    else none))
                                  (if 0 ≤ IntKind.i64.wrap (i + 1) ∧ IntKind.i64.wrap (i + 1) ≤ (↑l.length : Int) then
                                    branch
                                      (AV.bool
                                        ((IntKind.u64.wrap
                                                (u +
                                                  IntKind.u64.wrap
                                                    (IntKind.u64.wrap (a_1.tmod 128) *
                                                      2 ^ min (IntKind.u64.wrap (IntKind.i64.wrap (7 * i))).toNat 64))).tmod
                                            2 ==
                                          1))
                                      (K AX.ret
                                        (Env.mk 83
                                          [(2,
                                              AV.int IntKind.i64
                                                (IntKind.i64.wrap
                                                  (IntKind.i64.wrap
                                                      (0 -
                                                        IntKind.i64.wrap
                                                          (IntKind.u64.wrap
                                                            ((IntKind.u64.wrap
                                                                  (u +
                                                                    IntKind.u64.wrap
                                                                      (IntKind.u64.wrap (a_1.tmod 128) *
                                                                        2 ^
                                                                          min
                                                                            (IntKind.u64.wrap
                                                                                (IntKind.i64.wrap (7 * i))).toNat
                                                                            64))).tdiv
                                                              2))) -
                                                    1)))])
                                        (St.mk
                                          (o ::
                                            Ob.cells
                                                [AV.sl 1 (f && l.length.beq l.length)
                                                    (List.drop (IntKind.i64.wrap (i + 1)).toNat (List.take l.length l)),
                                                  AV.bool false] ::
                                              os)
                                          tk))
                                      (K AX.ret
                                        (Env.mk 83
                                          [(2,
                                              AV.int IntKind.i64
                                                (IntKind.i64.wrap
                                                  (IntKind.u64.wrap
                                                    ((IntKind.u64.wrap
                                                          (u +
                                                            IntKind.u64.wrap
                                                              (IntKind.u64.wrap (a_1.tmod 128) *
                                                                2 ^
                                                                  min (IntKind.u64.wrap (IntKind.i64.wrap (7 * i))).toNat
                                                                    64))).tdiv
                                                      2))))])
                                        (St.mk
                                          (o ::
                                            Ob.cells
                                                [AV.sl 1 (f && l.length.beq l.length)
                                                    (List.drop (IntKind.i64.wrap (i + 1)).toNat (List.take l.length l)),
                                                  AV.bool false] ::
                                              os)
                                          tk))
                                  else none))
                                (loopRun (f26_l0.run F) [0, 3, 4] K n
                                  (Env.mk 83
                                    [(0, AV.ptr 1 0),
                                      (3,
                                        AV.int IntKind.u64
                                          (IntKind.u64.wrap
                                            (u +
                                              IntKind.u64.wrap
                                                (IntKind.u64.wrap (a_1.tmod 128) *
                                                  2 ^ min (IntKind.u64.wrap (IntKind.i64.wrap (7 * i))).toNat 64)))),
                                      (4, AV.int IntKind.i64 (IntKind.i64.wrap (i + 1)))])
                                  (St.mk (o :: Ob.cells [AV.sl 1 f l, AV.bool false] :: os) tk))
                            else none
                    else none))
                  (if 0 ≤ IntKind.u64.wrap (IntKind.i64.wrap (7 * i)) then
                    onSome (elemAt l i) none fun (o_2 : List AV) =>
                      onCons o_2 none fun (x : AV) (l_2 : List AV) =>
                        onInt x fun (a : IntKind) (a_2 : Int) =>
                          if a = IntKind.u8 then
                            branch (AV.bool (decide (a_2 < 128)))
                              (branch (AV.bool (decide (i > 0)))
                                (branch (AV.bool (IntKind.u64.wrap (a_1.tmod 128) == 0))
                                  (K (AX.exit 0) (Env.mk 83 [(0, AV.ptr 1 0)])
                                    (St.mk (o :: Ob.cells [AV.sl 1 f l, AV.bool false] :: os) tk))
                                  (if 0 ≤ IntKind.i64.wrap (i + 1) ∧ IntKind.i64.wrap (i + 1) ≤ (↑l.length : Int) then
                                    branch
                                      (AV.bool
                                        ((IntKind.u64.wrap
                                                (u +
                                                  IntKind.u64.wrap
                                                    (IntKind.u64.wrap (a_1.tmod 128) *
                                                      2 ^ min (IntKind.u64.wrap (IntKind.i64.wrap (7 * i))).toNat 64))).tmod
                                            2 ==
                                          1))
                                      (K AX.ret
                                        (Env.mk 83
                                          [(2,
                                              AV.int IntKind.i64
                                                (IntKind.i64.wrap
                                                  (IntKind.i64.wrap
                                                      (0 -
                                                        IntKind.i64.wrap
                                                          (IntKind.u64.wrap
                                                            ((IntKind.u64.wrap
                                                                  (u +
                                                                    IntKind.u64.wrap
                                                                      (IntKind.u64.wrap (a_1.tmod 128) *
                                                                        2 ^
                                                                          min
                                                                            (IntKind.u64.wrap
                                                                                (IntKind.i64.wrap (7 * i))).toNat
                                                                            64))).tdiv
                                                              2))) -
                                                    1)))])
                                        (St.mk
                                          (o ::
                                            Ob.cells
                                                [AV.sl 1 (f && l.length.beq l.length)
                                                    (List.drop (IntKind.i64.wrap (i + 1)).toNat (List.take l.length l)),
                                                  AV.bool false] ::
                                              os)
                                          tk))
                                      (K AX.ret
                                        (Env.mk 83
                                          [(2,
                                              AV.int IntKind.i64
                                                (IntKind.i64.wrap
                                                  (IntKind.u64.wrap
                                                    ((IntKind.u64.wrap
                                                          (u +
                                                            IntKind.u64.wrap
                                                              (IntKind.u64.wrap (a_1.tmod 128) *
                                                                2 ^
                                                                  min (IntKind.u64.wrap (IntKind.i64.wrap (7 * i))).toNat
                                                                    64))).tdiv
                                                      2))))])
                                        (St.mk
                                          (o ::
                                            Ob.cells
                                                [AV.sl 1 (f && l.length.beq l.length)
                                                    (List.drop (IntKind.i64.wrap (i + 1)).toNat (List.take l.length l)),
                                                  AV.bool false] ::
                                              os)
                                          tk))
                                  else none))
                                (if 0 ≤ IntKind.i64.wrap (i + 1) ∧ IntKind.i64.wrap (i + 1) ≤ (↑l.length : Int) then
                                  branch
                                    (AV.bool
                                      ((IntKind.u64.wrap
                                              (u +
                                                IntKind.u64.wrap
                                                  (IntKind.u64.wrap (a_1.tmod 128) *
                                                    2 ^ min (IntKind.u64.wrap (IntKind.i64.wrap (7 * i))).toNat 64))).tmod
                                          2 ==
                                        1))
                                    (K AX.ret
                                      (Env.mk 83
                                        [(2,
                                            AV.int IntKind.i64
                                              (IntKind.i64.wrap
                                                (IntKind.i64.wrap
                                                    (0 -
                                                      IntKind.i64.wrap
                                                        (IntKind.u64.wrap
                                                          ((IntKind.u64.wrap
                                                                (u +
                                                                  IntKind.u64.wrap
                                                                    (IntKind.u64.wrap (a_1.tmod 128) *
                                                                      2 ^
                                                                        min
                                                                          (IntKind.u64.wrap
                                                                              (IntKind.i64.wrap (7 * i))).toNat
                                                                          64))).tdiv
                                                            2))) -
                                                  1)))])
                                      (St.mk
                                        (o ::
                                          Ob.cells
                                              [AV.sl 1 (f && l.length.beq l.length)
                                                  (List.drop (IntKind.i64.wrap (i + 1)).toNat (List.take l.length l)),
                                                AV.bool false] ::
                                            os)
                                        tk))
                                    (K AX.ret
                                      (Env.mk 83
                                        [(2,
                                            AV.int IntKind.i64
                                              (IntKind.i64.wrap
                                                (IntKind.u64.wrap
                                                  ((IntKind.u64.wrap
                                                        (u +
                                                          IntKind.u64.wrap
                                                            (IntKind.u64.wrap (a_1.tmod 128) *
                                                              2 ^
                                                                min (IntKind.u64.wrap (IntKind.i64.wrap (7 * i))).toNat
                                                                  64))).tdiv
                                                    2))))])
                                      (St.mk
                                        (o ::
                                          Ob.cells
                                              [AV.sl 1 (f && l.length.beq l.length)
                                                  (List.drop (IntKind.i64.wrap (i + 1)).toNat (List.take l.length l)),
                                                AV.bool false] ::
                                            os)
                                        tk))
                                else none))
                              (loopRun (f26_l0.run F) [0, 3, 4] K n
                                (Env.mk 83
                                  [(0, AV.ptr 1 0),
                                    (3,
                                      AV.int IntKind.u64
                                        (IntKind.u64.wrap
                                          (u +
                                            IntKind.u64.wrap
                                              (IntKind.u64.wrap (a_1.tmod 128) *
                                                2 ^ min (IntKind.u64.wrap (IntKind.i64.wrap (7 * i))).toNat 64)))),
                                    (4, AV.int IntKind.i64 (IntKind.i64.wrap (i + 1)))])
                                (St.mk (o :: Ob.cells [AV.sl 1 f l, AV.bool false] :: os) tk))
                          else none
                  else none)
              else none)
        (K (AX.exit 0) (Env.mk 83 [(0, AV.ptr 1 0)]) (St.mk (o :: Ob.cells [AV.sl 1 f l, AV.bool false] :: os) tk)))
      (K (AX.exit 0) (Env.mk 83 [(0, AV.ptr 1 0)]) (St.mk (o :: Ob.cells [AV.sl 1 f l, AV.bool false] :: os) tk)) := by kernel_rfl

theorem rr_end (F n : Nat) (K : Cont) (u i : Int) (f : Bool) (l : List (List AV)) (o : Ob) (os : List Ob) (tk : List (Nat × Nat)) (h0 : decide (i < (l.length : Int)) = false) :
    (loopRun (f26_l0.run F) [0, 3, 4] K n.succ (Env.mk 83 [(0, .ptr 1 0), (3, .int .u64 u), (4, .int .i64 i)]) ⟨o :: .cells [.sl 1 f l, .bool false] :: os, tk⟩ : Ans) =
    K (AX.exit 0) (Env.mk 83 [(0, AV.ptr 1 0)]) (St.mk (o :: Ob.cells [AV.sl 1 f l, AV.bool false] :: os) tk) := by
  rw [rr_end_raw F n K u i f l o os tk, h0]
  kernel_rfl

theorem rr_out (F : Nat) (a : AV) (b : Bool) (o : Ob) (os : List Ob) (tk : List (Nat × Nat)) :
    ((Cont.block 0 (Cont.then (f26_r0.run F (f26.leaveK Fun.done)) (f26.leaveK Fun.done))) (.exit 0) (Env.mk 83 [(0, .ptr 1 0)]) ⟨o :: .cells [a, .bool b] :: os, tk⟩ : Ans) =
    some (Fin.ret (AV.int IntKind.i64 0), St.mk (o :: Ob.cells [a, AV.bool true] :: os) tk) := by kernel_rfl

theorem rr_ret (F : Nat) (v : Int) (st : St) :
    ((Cont.block 0 (Cont.then (f26_r0.run F (f26.leaveK Fun.done)) (f26.leaveK Fun.done))) .ret (Env.mk 83 [(2, .int .i64 v)]) st : Ans) =
    some (Fin.ret (AV.int IntKind.i64 v), st) := by kernel_rfl

end Go.Proofs.Ytjdpfblmhahfkaa.V

/- Bits: the reference's reader: the next number. -/
set_option linter.unusedVariables false
namespace Go.Proofs.Ytjdpfblmhahfkaa.V
open Go Go.V Go.RowKit

theorem at_byte {l : List (List AV)} (h : okR l = true) {i : Nat} (hi : i < l.length) : ∃ c : Nat, elemAt l (i : Int) = some [.int .u8 (c : Int)] ∧ c < 256 ∧ (nR l).drop i = c :: (nR l).drop (i + 1) := by
  have hm := List.all_eq_true.mp h l[i] (List.getElem_mem hi)
  obtain ⟨h1, h2⟩ := isByte_row hm
  refine ⟨Go.V.byteOf l[i], ?_, h2, ?_⟩
  · rw [← h1]; unfold elemAt; simp [hi]
  · rw [List.drop_eq_getElem_cons (by rw [nR_length]; exact hi)]
    simp [nR]
theorem tmod128 {c : Nat} (h : c < 256) : IntKind.u64.wrap ((c : Int).tmod 128) = ((c % 128 : Nat) : Int) := by
  rw [show (c : Int).tmod 128 = ((c % 128 : Nat) : Int) by rw [show (128 : Int) = ((128 : Nat) : Int) from rfl]; exact (Int.ofNat_tmod c 128).symm]
  exact wrapU64 (by omega)
theorem piece {i u d : Nat} (hi : i ≤ 9) (hu : u < 2 ^ (7 * i)) (hd : d < 128) (h9 : ¬ (i = 9 ∧ d > 1)) :
    IntKind.u64.wrap ((u : Int) + IntKind.u64.wrap ((d : Int) * 2 ^ min (IntKind.u64.wrap (IntKind.i64.wrap (7 * (i : Int)))).toNat 64)) = ((u + d * 2 ^ (7 * i) : Nat) : Int) ∧ u + d * 2 ^ (7 * i) < 2 ^ 64 ∧ u + d * 2 ^ (7 * i) < 2 ^ (7 * (i + 1)) := by
  obtain ⟨_, h2, h3⟩ := dig_or hi hu hd h9
  refine ⟨?_, h2, h3⟩
  have e0 : IntKind.u64.wrap (IntKind.i64.wrap (7 * (i : Int))) = ((7 * i : Nat) : Int) := by rw [wrapS (by omega) (by omega), show (7 * (i : Int)) = ((7 * i : Nat) : Int) by omega]; exact wrapU64 (by omega)
  rw [e0, Int.toNat_natCast, Nat.min_eq_left (by omega), show (d : Int) * 2 ^ (7 * i) = ((d * 2 ^ (7 * i) : Nat) : Int) by rw [Int.natCast_mul, Int.natCast_pow]; rfl, wrapU64 (by omega),
    show (u : Int) + ((d * 2 ^ (7 * i) : Nat) : Int) = ((u + d * 2 ^ (7 * i) : Nat) : Int) by omega]
  exact wrapU64 (by omega)
theorem odd_unf {D : Nat} (h : D < 2 ^ 64) (ho : D % 2 = 1) : IntKind.i64.wrap (IntKind.i64.wrap (0 - IntKind.i64.wrap (IntKind.u64.wrap ((D : Int).tdiv 2))) - 1) = unfN D := by
  rw [show (D : Int).tdiv 2 = ((D / 2 : Nat) : Int) by rw [show (2 : Int) = ((2 : Nat) : Int) from rfl]; exact (Int.ofNat_tdiv D 2).symm]
  rw [wrapU64 (n := D / 2) (by omega), wrapS (n := ((D / 2 : Nat) : Int)) (by omega) (by omega), wrapS (n := 0 - ((D / 2 : Nat) : Int)) (by omega) (by omega), wrapS (by omega) (by omega)]
  unfold unfN
  rw [if_neg (by omega)]
  omega
theorem even_unf {D : Nat} (h : D < 2 ^ 64) (ho : D % 2 = 0) : IntKind.i64.wrap (IntKind.u64.wrap ((D : Int).tdiv 2)) = unfN D := by
  rw [show (D : Int).tdiv 2 = ((D / 2 : Nat) : Int) by rw [show (2 : Int) = ((2 : Nat) : Int) from rfl]; exact (Int.ofNat_tdiv D 2).symm]
  rw [wrapU64 (n := D / 2) (by omega), wrapS (n := ((D / 2 : Nat) : Int)) (by omega) (by omega)]
  unfold unfN
  rw [if_pos ho]
theorem odd_test (D : Nat) : (((D : Int).tmod 2) == 1) = decide (D % 2 = 1) := by
  rw [show (D : Int).tmod 2 = ((D % 2 : Nat) : Int) by rw [show (2 : Int) = ((2 : Nat) : Int) from rfl]; exact (Int.ofNat_tmod D 2).symm]
  by_cases h : D % 2 = 1
  · rw [h]; rfl
  · rw [show D % 2 = 0 by omega]; rfl

noncomputable def rrK (F : Nat) : Cont := Cont.block 0 (Cont.then (f26_r0.run F (f26.leaveK Fun.done)) (f26.leaveK Fun.done))
/-- What the reference's Int comes to. -/
def rrAns (f : Bool) (l : List (List AV)) (o : Ob) (os : List Ob) (tk : List (Nat × Nat)) (x : Nat × Nat) : Ans :=
  if x.2 = 0 then some (.ret (.int .i64 0), ⟨o :: .cells [.sl 1 f l, .bool true] :: os, tk⟩)
  else some (.ret (.int .i64 (unfN x.1)), ⟨o :: .cells [.sl 1 f (l.drop x.2), .bool false] :: os, tk⟩)
theorem rr_loop (F : Nat) (f : Bool) (l : List (List AV)) (hl : okR l = true) (hs : l.length < 140737488355328) (o : Ob) (os : List Ob) (tk : List (Nat × Nat)) : ∀ (k i u n : Nat), i + k = min 10 l.length → k < n → u < 2 ^ (7 * i) →
    loopRun (f26_l0.run F) [0, 3, 4] (rrK F) n (Env.mk 83 [(0, .ptr 1 0), (3, .int .u64 u), (4, .int .i64 i)]) ⟨o :: .cells [.sl 1 f l, .bool false] :: os, tk⟩ = rrAns f l o os tk (digN i u (((nR l).take 10).drop i))
  | k, i, u, 0, hi, hk, hu => by omega
  | 0, i, u, n + 1, hi, hk, hu => by
    have e : ((nR l).take 10).drop i = [] := List.drop_eq_nil_of_le (by simp [nR_length]; omega)
    rw [e]
    have hout : ∀ x, rrK F (.exit 0) (Env.mk 83 [(0, .ptr 1 0)]) ⟨o :: .cells [.sl 1 f l, x] :: os, tk⟩ = rrK F (.exit 0) (Env.mk 83 [(0, .ptr 1 0)]) ⟨o :: .cells [.sl 1 f l, x] :: os, tk⟩ := fun _ => rfl
    by_cases h : i < l.length
    · obtain ⟨c, he, hc, _⟩ := at_byte hl h
      rw [show n + 1 = n.succ from rfl, rr_round F n _ u i c f l o os tk he, branch_of (decide_eq_true (by omega)), branch_not (decide_eq_false (by omega)), rrK, rr_out]
      rfl
    · rw [show n + 1 = n.succ from rfl, rr_end _ _ _ _ _ _ _ _ _ _ (decide_eq_false (by omega)), rrK, rr_out]
      rfl
  | k + 1, i, u, n + 1, hi, hk, hu => by
    have hi1 : i < l.length := by omega
    obtain ⟨c, he, hc, hdrop⟩ := at_byte hl hi1
    have hdr : ((nR l).take 10).drop i = c :: ((nR l).take 10).drop (i + 1) := by
      rw [List.drop_take, hdrop, show 10 - i = (9 - i) + 1 by omega, List.take_succ_cons, List.drop_take, show 10 - (i + 1) = 9 - i by omega]
    rw [hdr, digN, show n + 1 = n.succ from rfl, rr_round F n _ u i c f l o os tk he, branch_of (decide_eq_true (by omega)), branch_of (decide_eq_true (by omega)), tmod128 hc]
    by_cases hx : i = 9 ∧ c % 128 > 1
    · rw [branch_of (by simp; omega), branch_of (decide_eq_true (by omega)), if_pos hx, rrK, rr_out]
      rfl
    · obtain ⟨p1, p2, p3⟩ := piece (by omega) hu (by omega) hx
      have hw : IntKind.i64.wrap ((i : Int) + 1) = ((i + 1 : Nat) : Int) := by rw [wrapS (by omega) (by omega)]; omega
      have h7 : 0 ≤ IntKind.u64.wrap (IntKind.i64.wrap (7 * (i : Int))) := by rw [wrapS (by omega) (by omega), show (7 * (i : Int)) = ((7 * i : Nat) : Int) by omega, wrapU64 (by omega)]; omega
      rw [p1, hw, if_neg hx, if_pos h7, odd_test]
      have ih := rr_loop F f l hl hs o os tk k (i + 1) (u + c % 128 * 2 ^ (7 * i)) n (by omega) (by omega) p3
      have hret : ∀ v, rrK F .ret (Env.mk 83 [(2, .int .i64 v)]) ⟨o :: .cells [.sl 1 (f && l.length.beq l.length) (List.drop ((i + 1 : Nat) : Int).toNat (List.take l.length l)), .bool false] :: os, tk⟩ = some (.ret (.int .i64 v), ⟨o :: .cells [.sl 1 f (l.drop (i + 1)), .bool false] :: os, tk⟩) := by
        intro v; rw [rrK, rr_ret]; simp
      by_cases h9 : i = 9
      · rw [branch_of (by simp; omega), branch_not (decide_eq_false (by omega))]
        by_cases h128 : c < 128
        · rw [branch_of (decide_eq_true (by omega)), if_pos h128, branch_of (decide_eq_true (by omega))]
          by_cases hz : c % 128 = 0
          · rw [branch_of (by simp; omega), if_pos ⟨hz, by omega⟩, rrK, rr_out]; rfl
          · rw [branch_not (by simp; omega), if_neg (show ¬ (c % 128 = 0 ∧ i > 0) by omega), if_pos (show (0 : Int) ≤ ((i + 1 : Nat) : Int) ∧ ((i + 1 : Nat) : Int) ≤ (l.length : Int) by omega)]
            by_cases ho : (u + c % 128 * 2 ^ (7 * i)) % 2 = 1
            · rw [branch_of (decide_eq_true ho), hret, odd_unf p2 ho]; rfl
            · rw [branch_not (decide_eq_false ho), hret, even_unf p2 (by omega)]; rfl
        · rw [branch_not (decide_eq_false (by omega)), if_neg h128, ih]
      · rw [branch_not (by simp; omega)]
        by_cases h128 : c < 128
        · rw [branch_of (decide_eq_true (by omega)), if_pos h128]
          by_cases hi0 : 0 < i
          · rw [branch_of (decide_eq_true (by omega))]
            by_cases hz : c % 128 = 0
            · rw [branch_of (by simp; omega), if_pos ⟨hz, by omega⟩, rrK, rr_out]; rfl
            · rw [branch_not (by simp; omega), if_neg (show ¬ (c % 128 = 0 ∧ i > 0) by omega), if_pos (show (0 : Int) ≤ ((i + 1 : Nat) : Int) ∧ ((i + 1 : Nat) : Int) ≤ (l.length : Int) by omega)]
              by_cases ho : (u + c % 128 * 2 ^ (7 * i)) % 2 = 1
              · rw [branch_of (decide_eq_true ho), hret, odd_unf p2 ho]; rfl
              · rw [branch_not (decide_eq_false ho), hret, even_unf p2 (by omega)]; rfl
          · rw [branch_not (decide_eq_false (by omega)), if_neg (show ¬ (c % 128 = 0 ∧ i > 0) by omega), if_pos (show (0 : Int) ≤ ((i + 1 : Nat) : Int) ∧ ((i + 1 : Nat) : Int) ≤ (l.length : Int) by omega)]
            by_cases ho : (u + c % 128 * 2 ^ (7 * i)) % 2 = 1
            · rw [branch_of (decide_eq_true ho), hret, odd_unf p2 ho]; rfl
            · rw [branch_not (decide_eq_false ho), hret, even_unf p2 (by omega)]; rfl
        · rw [branch_not (decide_eq_false (by omega)), if_neg h128, ih]

theorem rdAt1 {st : St} {r : Rd} {put : AV → Bool → St} (h : rdAt (.ptr 1 0) st = some (r, put)) : ∃ o os, st = ⟨o :: .cells r.cells :: os, st.tk⟩ ∧ put = fun a b => ⟨o :: .cells [a, .bool b] :: os, st.tk⟩ := by
  rcases rdAt_eq h with ⟨h3, _⟩ | ⟨_, h⟩
  · cases h3
  · exact h
theorem f26_spec {st : St} {f : Bool} {l : List (List AV)} {put : AV → Bool → St} (h : rdAt (.ptr 1 0) st = some (.sl f false l, put)) (hf : fit (.sl f l) = true) :
    f26.run 11 [.ptr 1 0] st = match getN (nR l) with
      | none => some (.ret (.int .i64 0), put (.sl 1 f l) true)
      | some o => some (.ret (.int .i64 o.1), put (.sl 1 f (l.drop o.2)) false) := by
  obtain ⟨h1, h2⟩ := fit_spec hf
  obtain ⟨o, os, hs, rfl⟩ := rdAt1 h
  rw [hs]; simp only [Rd.cells]
  have := rr_loop 11 f l h1 h2 o os st.tk (min 10 l.length) 0 0 11 (by omega) (by omega) (by decide)
  rw [rr_run, show (0 : Int) = ((0 : Nat) : Int) from rfl]
  rw [rrK] at this
  rw [this, List.drop_zero, rrAns, getN]
  by_cases h0 : (digN 0 0 ((nR l).take 10)).2 = 0
  · rw [if_pos h0, if_pos h0]; rfl
  · rw [if_neg h0, if_neg h0]
theorem f26_bad {st : St} {f : Bool} {l : List (List AV)} {put : AV → Bool → St} (h : rdAt (.ptr 1 0) st = some (.sl f true l, put)) : f26.run 0 [.ptr 1 0] st = some (.ret (.int .i64 0), put (.sl 1 f l) true) := by
  obtain ⟨o, os, hs, rfl⟩ := rdAt1 h
  rw [hs]; simp only [Rd.cells]
  rw [rr_bad]
/-- The reference's Reader.Int. -/
noncomputable def q26 : OrcS Try.prog := f26.cps
  (fun args st k => match args with
    | [.ptr 1 0] => match rdAt (.ptr 1 0) st with
      | some (.sl f true l, put) => k (.ret (.int .i64 0)) (put (.sl 1 f l) true)
      | some (.sl f false l, put) => match fit (.sl f l) with
        | true => match getN (nR l) with
          | none => k (.ret (.int .i64 0)) (put (.sl 1 f l) true)
          | some o => k (.ret (.int .i64 o.1)) (put (.sl 1 f (l.drop o.2)) false)
        | false => none
      | _ => none
    | _ => none)
  fun args st k fin h => by
    split at h
    · split at h
      · rename_i h1; exact ⟨_, _, h, 0, f26_bad h1⟩
      · rename_i h1
        split at h
        · rename_i h2
          have := f26_spec h1 h2
          split at h
          · rename_i h3; rw [h3] at this; exact ⟨_, _, h, 11, this⟩
          · rename_i h3; rw [h3] at this; exact ⟨_, _, h, 11, this⟩
        · cases h
      · cases h
    · cases h
theorem q26_nat : q26.NatS := by
  intro args st k
  unfold q26 Fun.cps
  simp only []
  split
  · split
    · rfl
    · split
      · split <;> rfl
      · rfl
    · rfl
  · rfl
end Go.Proofs.Ytjdpfblmhahfkaa.V

/- The functions' pieces, as told by gen.py. -/
set_option linter.unusedVariables false
set_option maxRecDepth 20000
namespace Go.Proofs.Ytjdpfblmhahfkaa.V
open Go Go.V Go.RowKit


/-! ### 27: (*interlock/interlockref01.Reader).Text (42); results 2; slots: 0 r, 1 r, 3 n, 4 s -/
noncomputable def f27_b : Sim Try.prog :=
  (.seq (.live [0] (.region 0 [
    ⟨(opAssign (some 2) (.const (Value.string { data := #[] })) 9 "ref.go:76" #[]).op, none⟩
  ] (by kernel_rfl)))
  (.seq (.live [0, 3] (.region 1 [
    ⟨(opMove (some 5) (.tmp 0) 42 "ref.go:77" #[]).op, none⟩,
    ⟨opCall (q26).orc (some 6) [(.tmp 5)] #[42] 3 "ref.go:77" #[{ on := 0, ground := Ground.data }], none⟩,
    ⟨(opAssign (some 3) (.tmp 6) 3 "ref.go:77" #[{ on := 1, ground := Ground.data }, { on := 1, ground := Ground.chain }, { on := 0, ground := Ground.phase }, { on := 1, ground := Ground.phase }]).op, none⟩
  ] (by kernel_rfl)))
  (.seq (.seq (.live [0, 3, 23] (.region 2 [
    ⟨(opMove (some 7) (.tmp 0) 42 "ref.go:78" #[]).op, none⟩,
    ⟨(opNilCheck (some 8) (.tmp 7) 0 "ref.go:78" #[{ on := 0, ground := Ground.data }]).op, none⟩,
    ⟨(opFieldAddr (some 9) 44 (.tmp 8) 1 1 1 false fl44_1 (by decide) 0 "ref.go:78" #[{ on := 1, ground := Ground.data }]).op, none⟩,
    ⟨(opLoad (some 10) 4 (.tmp 9) .bool Try.underlying4 1 sz4 4 "ref.go:78" #[{ on := 2, ground := Ground.data }]).op, none⟩,
    ⟨(opMove (some 11) (.tmp 10) 4 "ref.go:78" #[{ on := 3, ground := Ground.data }]).op, none⟩,
    ⟨(opMove (some 12) (.tmp 3) 3 "ref.go:78" #[{ on := 4, ground := Ground.guard }]).op, (some (4, 11, false))⟩,
    ⟨(opBin (some 13) .lss 3 (.tmp 12) (.const (Value.int IntKind.i64 0)) 3 4 "ref.go:78" #[{ on := 5, ground := Ground.data }, { on := 4, ground := Ground.guard }]).op, (some (4, 11, false))⟩,
    ⟨(opPick (some 14) (.tmp 11) (.const (Value.bool true)) (.tmp 13) 4 "ref.go:78" #[{ on := 4, ground := Ground.data }, { on := 6, ground := Ground.data }]).op, none⟩,
    ⟨(opMove (some 15) (.tmp 14) 4 "ref.go:78" #[{ on := 7, ground := Ground.data }, { on := 4, ground := Ground.chain }]).op, none⟩,
    ⟨(opMove (some 16) (.tmp 3) 3 "ref.go:78" #[{ on := 8, ground := Ground.guard }]).op, (some (8, 15, false))⟩,
    ⟨(opMove (some 17) (.tmp 0) 42 "ref.go:78" #[{ on := 8, ground := Ground.guard }]).op, (some (8, 15, false))⟩,
    ⟨(opNilCheck (some 18) (.tmp 17) 0 "ref.go:78" #[{ on := 10, ground := Ground.data }, { on := 8, ground := Ground.guard }]).op, (some (8, 15, false))⟩,
    ⟨(opFieldAddr (some 19) 44 (.tmp 18) 0 0 1 false fl44_0 (by decide) 0 "ref.go:78" #[{ on := 11, ground := Ground.data }, { on := 8, ground := Ground.guard }]).op, (some (8, 15, false))⟩,
    ⟨(opLoad (some 20) 22 (.tmp 19) (.slice 5) Try.underlying22 1 sz22 22 "ref.go:78" #[{ on := 12, ground := Ground.data }, { on := 8, ground := Ground.guard }]).op, (some (8, 15, false))⟩,
    ⟨(opLen (some 21) (.tmp 20) 22 (.slice 5) Try.underlying22 3 "ref.go:78" #[{ on := 13, ground := Ground.data }, { on := 8, ground := Ground.guard }]).op, (some (8, 15, false))⟩,
    ⟨(opBin (some 22) .gtr 3 (.tmp 16) (.tmp 21) 3 4 "ref.go:78" #[{ on := 9, ground := Ground.data }, { on := 14, ground := Ground.data }, { on := 8, ground := Ground.guard }]).op, (some (8, 15, false))⟩,
    ⟨(opPick (some 23) (.tmp 15) (.const (Value.bool true)) (.tmp 22) 4 "ref.go:78" #[{ on := 8, ground := Ground.data }, { on := 15, ground := Ground.data }]).op, none⟩
  ] (by kernel_rfl)))
  (.cond (.tmp 23)
    (.seq (.live [] (.region 3 [
      ⟨(opMove (some 24) (.tmp 0) 42 "ref.go:79" #[]).op, none⟩,
      ⟨(opNilCheck (some 25) (.tmp 24) 0 "ref.go:79" #[{ on := 0, ground := Ground.data }, { on := 0, ground := Ground.phase }]).op, none⟩,
      ⟨(opFieldAddr (some 26) 44 (.tmp 25) 1 1 1 false fl44_1 (by decide) 0 "ref.go:79" #[{ on := 1, ground := Ground.data }, { on := 0, ground := Ground.phase }]).op, none⟩,
      ⟨(opStore none 4 (.tmp 26) (.const (Value.bool true)) 1 sz4 0 "ref.go:79" #[{ on := 2, ground := Ground.data }, { on := 0, ground := Ground.phase }]).op, none⟩
    ] (by kernel_rfl)))
    (.seq (.live [2] (.region 4 [
      ⟨(opAssign (some 2) (.const (Value.string { data := #[] })) 9 "ref.go:80" #[]).op, none⟩
    ] (by kernel_rfl)))
    (.live [2] .ret)))
    .skip))
  (.seq (.live [0, 3, 4] (.region 5 [
    ⟨(opMove (some 27) (.tmp 0) 42 "ref.go:82" #[]).op, none⟩,
    ⟨(opNilCheck (some 28) (.tmp 27) 0 "ref.go:82" #[{ on := 0, ground := Ground.data }]).op, none⟩,
    ⟨(opFieldAddr (some 29) 44 (.tmp 28) 0 0 1 false fl44_0 (by decide) 0 "ref.go:82" #[{ on := 1, ground := Ground.data }]).op, none⟩,
    ⟨(opLoad (some 30) 22 (.tmp 29) (.slice 5) Try.underlying22 1 sz22 22 "ref.go:82" #[{ on := 2, ground := Ground.data }]).op, none⟩,
    ⟨(opMove (some 31) (.tmp 3) 3 "ref.go:82" #[]).op, none⟩,
    ⟨(opSlice (some 32) 22 (.tmp 30) none (some (.tmp 31)) none 5 1 Try.underlying22 sz5 22 "ref.go:82" #[{ on := 3, ground := Ground.data }, { on := 4, ground := Ground.data }]).op, none⟩,
    ⟨(opBytesStr (some 33) 22 9 (.tmp 32) 5 Try.underlying22 Try.underlying5 Try.underlying9 9 "ref.go:82" #[{ on := 5, ground := Ground.data }]).op, none⟩,
    ⟨(opAssign (some 4) (.tmp 33) 9 "ref.go:82" #[{ on := 6, ground := Ground.data }, { on := 0, ground := Ground.phase }, { on := 1, ground := Ground.phase }, { on := 2, ground := Ground.phase }, { on := 3, ground := Ground.phase }, { on := 4, ground := Ground.phase }, { on := 5, ground := Ground.phase }, { on := 6, ground := Ground.phase }]).op, none⟩
  ] (by kernel_rfl)))
  (.seq (.live [4] (.region 6 [
    ⟨(opMove (some 34) (.tmp 0) 42 "ref.go:83" #[]).op, none⟩,
    ⟨(opMove (some 35) (.tmp 0) 42 "ref.go:83" #[]).op, none⟩,
    ⟨(opNilCheck (some 36) (.tmp 35) 0 "ref.go:83" #[{ on := 1, ground := Ground.data }]).op, none⟩,
    ⟨(opFieldAddr (some 37) 44 (.tmp 36) 0 0 1 false fl44_0 (by decide) 0 "ref.go:83" #[{ on := 2, ground := Ground.data }]).op, none⟩,
    ⟨(opLoad (some 38) 22 (.tmp 37) (.slice 5) Try.underlying22 1 sz22 22 "ref.go:83" #[{ on := 3, ground := Ground.data }]).op, none⟩,
    ⟨(opMove (some 39) (.tmp 3) 3 "ref.go:83" #[]).op, none⟩,
    ⟨(opSlice (some 40) 22 (.tmp 38) (some (.tmp 39)) none none 5 1 Try.underlying22 sz5 22 "ref.go:83" #[{ on := 4, ground := Ground.data }, { on := 5, ground := Ground.data }]).op, none⟩,
    ⟨(opNilCheck (some 41) (.tmp 34) 0 "ref.go:83" #[{ on := 0, ground := Ground.data }, { on := 0, ground := Ground.phase }, { on := 1, ground := Ground.phase }, { on := 2, ground := Ground.phase }, { on := 3, ground := Ground.phase }, { on := 4, ground := Ground.phase }, { on := 5, ground := Ground.phase }, { on := 6, ground := Ground.phase }]).op, none⟩,
    ⟨(opFieldAddr (some 42) 44 (.tmp 41) 0 0 1 false fl44_0 (by decide) 0 "ref.go:83" #[{ on := 7, ground := Ground.data }, { on := 0, ground := Ground.phase }, { on := 1, ground := Ground.phase }, { on := 2, ground := Ground.phase }, { on := 3, ground := Ground.phase }, { on := 4, ground := Ground.phase }, { on := 5, ground := Ground.phase }, { on := 6, ground := Ground.phase }]).op, none⟩,
    ⟨(opStore none 22 (.tmp 42) (.tmp 40) 1 sz22 0 "ref.go:83" #[{ on := 8, ground := Ground.data }, { on := 6, ground := Ground.data }, { on := 0, ground := Ground.phase }, { on := 1, ground := Ground.phase }, { on := 2, ground := Ground.phase }, { on := 3, ground := Ground.phase }, { on := 4, ground := Ground.phase }, { on := 5, ground := Ground.phase }, { on := 6, ground := Ground.phase }]).op, none⟩
  ] (by kernel_rfl)))
  (.seq (.live [2] (.region 7 [
    ⟨(opMove (some 43) (.tmp 4) 9 "ref.go:84" #[]).op, none⟩,
    ⟨(opAssign (some 2) (.tmp 43) 9 "ref.go:84" #[{ on := 0, ground := Ground.data }, { on := 0, ground := Ground.phase }]).op, none⟩
  ] (by kernel_rfl)))
  (.live [2] .ret)))))))

noncomputable def f27 : Fun Try.prog where
  id := 27
  fn := Try.f27
  hf := Try.func27
  hname := by kernel_rfl
  body := f27_b
  hbody := by kernel_rfl
  res := [rTmp 2]
  hres := by kernel_rfl
  n := 44
  hn := by kernel_rfl

/-! ### 29: (*interlock/interlockref01.Reader).Count (42, 3); results 4; slots: 0 r, 1 most, 2 r, 3 most, 5 n -/
noncomputable def f29_b : Sim Try.prog :=
  (.seq (.live [0, 1] (.region 0 [
    ⟨(opAssign (some 4) (.const (Value.int IntKind.i64 0)) 3 "ref.go:66" #[]).op, none⟩
  ] (by kernel_rfl)))
  (.seq (.live [0, 1, 5] (.region 1 [
    ⟨(opMove (some 6) (.tmp 0) 42 "ref.go:67" #[]).op, none⟩,
    ⟨opCall (q26).orc (some 7) [(.tmp 6)] #[42] 3 "ref.go:67" #[{ on := 0, ground := Ground.data }], none⟩,
    ⟨(opAssign (some 5) (.tmp 7) 3 "ref.go:67" #[{ on := 1, ground := Ground.data }, { on := 1, ground := Ground.chain }, { on := 0, ground := Ground.phase }, { on := 1, ground := Ground.phase }]).op, none⟩
  ] (by kernel_rfl)))
  (.seq (.seq (.live [0, 5, 20] (.region 2 [
    ⟨(opMove (some 8) (.tmp 0) 42 "ref.go:68" #[]).op, none⟩,
    ⟨(opNilCheck (some 9) (.tmp 8) 0 "ref.go:68" #[{ on := 0, ground := Ground.data }]).op, none⟩,
    ⟨(opFieldAddr (some 10) 44 (.tmp 9) 1 1 1 false fl44_1 (by decide) 0 "ref.go:68" #[{ on := 1, ground := Ground.data }]).op, none⟩,
    ⟨(opLoad (some 11) 4 (.tmp 10) .bool Try.underlying4 1 sz4 4 "ref.go:68" #[{ on := 2, ground := Ground.data }]).op, none⟩,
    ⟨(opMove (some 12) (.tmp 11) 4 "ref.go:68" #[{ on := 3, ground := Ground.data }]).op, none⟩,
    ⟨(opMove (some 13) (.tmp 5) 3 "ref.go:68" #[{ on := 4, ground := Ground.guard }]).op, (some (4, 12, false))⟩,
    ⟨(opBin (some 14) .lss 3 (.tmp 13) (.const (Value.int IntKind.i64 0)) 3 4 "ref.go:68" #[{ on := 5, ground := Ground.data }, { on := 4, ground := Ground.guard }]).op, (some (4, 12, false))⟩,
    ⟨(opPick (some 15) (.tmp 12) (.const (Value.bool true)) (.tmp 14) 4 "ref.go:68" #[{ on := 4, ground := Ground.data }, { on := 6, ground := Ground.data }]).op, none⟩,
    ⟨(opMove (some 16) (.tmp 15) 4 "ref.go:68" #[{ on := 7, ground := Ground.data }, { on := 4, ground := Ground.chain }]).op, none⟩,
    ⟨(opMove (some 17) (.tmp 5) 3 "ref.go:68" #[{ on := 8, ground := Ground.guard }]).op, (some (8, 16, false))⟩,
    ⟨(opMove (some 18) (.tmp 1) 3 "ref.go:68" #[{ on := 8, ground := Ground.guard }]).op, (some (8, 16, false))⟩,
    ⟨(opBin (some 19) .gtr 3 (.tmp 17) (.tmp 18) 3 4 "ref.go:68" #[{ on := 9, ground := Ground.data }, { on := 10, ground := Ground.data }, { on := 8, ground := Ground.guard }]).op, (some (8, 16, false))⟩,
    ⟨(opPick (some 20) (.tmp 16) (.const (Value.bool true)) (.tmp 19) 4 "ref.go:68" #[{ on := 8, ground := Ground.data }, { on := 11, ground := Ground.data }]).op, none⟩
  ] (by kernel_rfl)))
  (.cond (.tmp 20)
    (.seq (.live [] (.region 3 [
      ⟨(opMove (some 21) (.tmp 0) 42 "ref.go:69" #[]).op, none⟩,
      ⟨(opNilCheck (some 22) (.tmp 21) 0 "ref.go:69" #[{ on := 0, ground := Ground.data }, { on := 0, ground := Ground.phase }]).op, none⟩,
      ⟨(opFieldAddr (some 23) 44 (.tmp 22) 1 1 1 false fl44_1 (by decide) 0 "ref.go:69" #[{ on := 1, ground := Ground.data }, { on := 0, ground := Ground.phase }]).op, none⟩,
      ⟨(opStore none 4 (.tmp 23) (.const (Value.bool true)) 1 sz4 0 "ref.go:69" #[{ on := 2, ground := Ground.data }, { on := 0, ground := Ground.phase }]).op, none⟩
    ] (by kernel_rfl)))
    (.seq (.live [4] (.region 4 [
      ⟨(opAssign (some 4) (.const (Value.int IntKind.i64 0)) 3 "ref.go:70" #[]).op, none⟩
    ] (by kernel_rfl)))
    (.live [4] .ret)))
    .skip))
  (.seq (.live [4] (.region 5 [
    ⟨(opMove (some 24) (.tmp 5) 3 "ref.go:72" #[]).op, none⟩,
    ⟨(opAssign (some 4) (.tmp 24) 3 "ref.go:72" #[{ on := 0, ground := Ground.data }, { on := 0, ground := Ground.phase }]).op, none⟩
  ] (by kernel_rfl)))
  (.live [4] .ret)))))

noncomputable def f29 : Fun Try.prog where
  id := 29
  fn := Try.f29
  hf := Try.func29
  hname := by kernel_rfl
  body := f29_b
  hbody := by kernel_rfl
  res := [rTmp 4]
  hres := by kernel_rfl
  n := 25
  hn := by kernel_rfl

end Go.Proofs.Ytjdpfblmhahfkaa.V
