/- Merged out of 23 texts: what the claim's code comes to, and why. -/
import Derived.ChangeArms
import Derived.DataReads
import Derived.SizedLaws
import Derived.WideShapes
import Derived.ChangeShapes
import Derived.Test.YtblliolkgkgppaaR33
/- Page: a page's slots, as a callee. -/
set_option linter.unusedVariables false
namespace Go.Proofs.Ytblliolkgkgppaa.V
open Go Go.V Go.RowKit

noncomputable def ofV (p : List Nat) : AV := .tup [.ns (ofS p).isEmpty 1 (ofA p), .bool (ofB p)]
theorem hard_sV (o : Option (List Nat)) (s : Sl) : hard (obV (o :: s)) (sV (o :: s)) = .sl 1 false (sA (o :: s)) := by
  have h := rowsOf_one (s.length + 1) (sC (o :: s)) (by simp [sC])
  rw [List.take_of_length_le (by simp [sC]), cR_sC] at h
  simp only [obV, sV, hard, List.getElem?_cons_zero, Nat.beq_refl, h]
theorem ofAns_wk (p : List Nat) (s' : Sl) (hs : ∀ s, ofP p = some s → s' = s) : Scoped 0 0 (hard (obV s') (ofAns (ofP p))) ∧ Wk (hard (obV s') (ofAns (ofP p))) (ofV p) := by
  cases h : ofP p with
  | none =>
    have h1 : ofS p = [] := by rw [ofS, h]; rfl
    have h2 : ofB p = false := by rw [ofB, h]; rfl
    refine ⟨⟨trivial, trivial, trivial⟩, ?_⟩
    rw [ofV, ofA, opq_eq, h1, h2]
    exact .tup (.cons .nil (.cons (.refl _) .nil))
  | some s =>
    have h1 : ofS p = s := by rw [ofS, h]; rfl
    have h2 : ofB p = true := by rw [ofB, h]; rfl
    rw [ofV, ofA, opq_eq, h1, h2, hs s h]
    cases s with
    | nil =>
      refine ⟨⟨trivial, trivial, trivial⟩, ?_⟩
      exact .tup (.cons .nil (.cons (.refl _) .nil))
    | cons o s =>
      have hh : hard (obV (o :: s)) (ofAns (some (o :: s))) = .tup [.sl 1 false (sA (o :: s)), .bool true] := by
        simp only [ofAns, hard, hardL]
        rw [hard_sV]
      rw [hh]
      exact ⟨⟨scoped_sA _, trivial, trivial⟩, .tup (.cons .sl (.cons (.refl _) .nil))⟩
theorem ofP_ofD {p : List Nat} (hp : p.length = 256) (h0 : 0 < p.length) : ofP p = ofD [] ((p.take (1 + p[0])).drop 1) 256 p := by
  have hd : p.headD 0 = p[0] := by cases p with
    | nil => simp at hp
    | cons a p => rfl
  rw [ofP, show (p.length == 256) = true by simpa using hp, hd]
  unfold ofD
  generalize decL ((p.take (1 + p[0])).drop 1) 256 p = x
  cases x with
  | none => rfl
  | some s => rfl
theorem of_all (z : Bool) (p : List Nat) (hpb : ∀ b ∈ p, b < 256) (hl : p.length < 4611686018427387904) : ∃ F s', f21.run F [.ns z 1 (bR p)] ⟨[], []⟩ = some (.ret (ofAns (ofP p)), ⟨obV s', []⟩) ∧ ∀ s, ofP p = some s → s' = s := by
  by_cases hp : p.length = 256
  · have h0 : 0 < p.length := by omega
    obtain ⟨b1, b2, b3⟩ := bR_at hpb h0
    have hn : p[0] < 256 := hpb _ (List.getElem_mem h0)
    have w1 : IntKind.i64.wrap ((p[0] : Nat) : Int) = (p[0] : Nat) := wrap_nat (by omega)
    have w2 : IntKind.i64.wrap ((1 : Int) + ((p[0] : Nat) : Int)) = ((1 + p[0] : Nat) : Int) := by rw [show (1 : Int) + ((p[0] : Nat) : Int) = ((1 + p[0] : Nat) : Int) by omega]; exact wrap_nat (by omega)
    have hr : List.drop 1 (List.take (1 + p[0]) (bR p)) = bR ((p.take (1 + p[0])).drop 1) := by rw [bR_take, bR_drop]
    have hcl : ((p.take (1 + p[0])).drop 1).length = p[0] := by simp; omega
    obtain ⟨s', h, hs⟩ := of_loop 300 z p ((p.take (1 + p[0])).drop 1) hp hpb (fun b hb => hpb b (List.mem_of_mem_take (List.mem_of_mem_drop hb))) (by omega) p[0] 300 0 256 [] (by omega) (by omega) (by omega) rfl (by simp [sumN]) (fun b hb => by cases hb)
    rw [List.drop_zero, ← ofP_ofD hp h0] at h hs
    refine ⟨300, s', ?_, hs⟩
    rw [of_run, branch_not (by rw [bR_length, hp]; rfl), branch_of (show inR (bR p) 0 = true from b1), branch_of (show (LD.one (.int .u8)).is (V.rowAt (bR p) 0) = true from b2), show hdI (V.rowAt (bR p) 0) = (p[0] : Nat) from b3, w1, w2, Int.toNat_natCast,
      if_pos ⟨by omega, by rw [bR_length]; omega⟩, if_pos ⟨by omega, by omega⟩, hr, bR_length, bR_length, hp]
    exact h
  · refine ⟨0, [], ?_, fun s hs => ?_⟩
    · rw [of_run, branch_of (by rw [bR_length]; simp; omega), ofP, show (p.length == 256) = false by simpa using hp]
      rfl
    · rw [ofP, show (p.length == 256) = false by simpa using hp] at hs
      cases hs
noncomputable def p21 : POrc Try.prog := f21.farW
  (fun args k => match args with
    | [x] => onNs 1 x fun _ l => ifT (byOk l) (k (ofV (nR l)))
    | _ => none)
  fun args k fin h => by
    split at h
    · rename_i x
      obtain ⟨z, l, h, hx⟩ := onNs_spec h
      obtain ⟨h1, h⟩ := ifT_spec h
      obtain ⟨h1, h2⟩ := byOk_iff.mp h1
      obtain ⟨F, s', hF, hs⟩ := of_all z (nR l) (fun b hb => okR_lt h1 hb) (by rw [nR_length]; exact h2)
      rw [← okR_rows h1] at hF
      obtain ⟨w1, w2⟩ := ofAns_wk (nR l) s' hs
      exact ⟨_, _, h, .cons hx .nil, ⟨okR_scoped h1, trivial⟩, F, _, _, hF, w1, w2⟩
    · cases h
theorem p21_nat : p21.Nat := by
  intro args k
  show (match args with | [x] => _ | _ => _) = thenA (match args with | [x] => _ | _ => _) k
  split
  · exact onNs_nat fun _ _ => ifT_nat rfl
  · rfl
/-- A page's slots, as what may be written: are there any; how many but one; their cells. -/
noncomputable def ofE (p : List Nat) : Bool := opq (ofS p).isEmpty
noncomputable def ofN (p : List Nat) : Nat := opq ((ofS p).length - 1)
noncomputable def ofC (p : List Nat) : List AV := opq (sC (ofS p))
noncomputable def ofO (p : List Nat) : Bool := opq (ofB p)
noncomputable def o21 : OrcS Try.prog := f21.by'
  (fun args st k => match args with
    | [x] => onNone st (onNs 1 x fun _ l => ifT (byOk l) (branch (.bool (ofO (nR l)))
        (branch (.bool (ofE (nR l))) (k (.ret (.tup [.nilsl, .bool true])) ⟨[], []⟩) (k (.ret (.tup [.vs 0 (ofN (nR l)) 1 (ofN (nR l) + 1), .bool true])) ⟨[.vec (ofN (nR l)) (ofC (nR l))], []⟩))
        (k (.ret (.tup [.nilsl, .bool false])) ⟨[], []⟩)))
    | _ => none)
  fun args st k fin h => by
    split at h
    · rename_i x
      obtain ⟨e, h5⟩ := onNone_spec h
      clear h
      subst e
      obtain ⟨z, l, h, hx⟩ := onNs_spec h5
      obtain ⟨h1, h⟩ := ifT_spec h
      obtain ⟨h1, h2⟩ := byOk_iff.mp h1
      obtain ⟨F, s', hF, hs⟩ := of_all z (nR l) (fun b hb => okR_lt h1 hb) (by rw [nR_length]; exact h2)
      rw [← okR_rows h1] at hF
      have hw : Wks [x] [.ns z 1 l] := .cons hx .nil
      have hc : CallsTo Try.prog f21.id [x] ⟨[], []⟩ (.ret (ofAns (ofP (nR l))), ⟨obV s', []⟩) := fun g w vals hv hst => f21.sound hF g w vals (hw _ _ _ hv) hst
      simp only [ofO, ofE, ofN, ofC, opq_eq, ofB, ofS] at h
      cases hp : ofP (nR l) with
      | none =>
        rw [hp] at h hc
        refine ⟨_, _, h, ?_⟩
        exact forget (os := []) (xo := obV s') (xt := []) hc rfl (.inl rfl) (fun _ => ⟨trivial, trivial, trivial⟩)
      | some s =>
        rw [hp] at h hc
        obtain rfl := hs s hp
        cases s' with
        | nil => exact ⟨_, _, h, hc⟩
        | cons o s => exact ⟨_, _, h, hc⟩
    · cases h
end Go.Proofs.Ytblliolkgkgppaa.V

/- The functions' pieces, as told by gen.py. -/
set_option linter.unusedVariables false
set_option maxRecDepth 20000
namespace Go.Proofs.Ytblliolkgkgppaa.V
open Go Go.V Go.RowKit


/-! ### 22: (interlock/page.slots).with (44, 3, 25); results 6; slots: 0 s, 1 slot, 2 b, 3 s, 4 slot, 5 b -/
/-- A loop's round; at its head live: 0 s, 1 slot, 2 b -/
noncomputable def f22_l0 : Sim Try.prog :=
  (.seq (.seq (.live [0, 1, 2, 10] (.region 1 [
    ⟨(opMove (some 7) (.tmp 0) 44 "page.go:101" #[]).op, none⟩,
    ⟨(opLen (some 8) (.tmp 7) 44 (.slice 25) Try.underlying44 3 "page.go:101" #[{ on := 0, ground := Ground.data }]).op, none⟩,
    ⟨(opMove (some 9) (.tmp 1) 3 "page.go:101" #[]).op, none⟩,
    ⟨(opBin (some 10) .leq 3 (.tmp 8) (.tmp 9) 3 4 "page.go:101" #[{ on := 1, ground := Ground.data }, { on := 2, ground := Ground.data }]).op, none⟩
  ] (by kernel_rfl)))
  (.cond (.tmp 10)
    .skip
    (.live [0, 1, 2] (.exit 0))))
  (.block 1 (.live [0, 1, 2] (.region 2 [
      ⟨(opMove (some 11) (.tmp 0) 44 "page.go:102" #[]).op, none⟩,
      ⟨(opBuildSlice (some 12) 44 1 [(0, (.const (Value.slice none 0 0)))] 25 1 24 (.slice none 0 0) el44 (by kernel_rfl) (by decide) 44 "page.go:102" #[]).op, none⟩,
      ⟨(opAppendV (some 13) (.tmp 11) (.tmp 12) 44 44 25 1 24 (.slice none 0 0) el44 (.slice 25) Try.underlying44 rfl 44 "page.go:102" #[{ on := 0, ground := Ground.data }, { on := 1, ground := Ground.data }]).op, none⟩,
      ⟨(opAssign (some 0) (.tmp 13) 44 "page.go:102" #[{ on := 2, ground := Ground.data }, { on := 2, ground := Ground.chain }, { on := 0, ground := Ground.phase }, { on := 1, ground := Ground.phase }, { on := 2, ground := Ground.phase }]).op, none⟩
    ] (by kernel_rfl)))))

/-- What follows a loop. -/
noncomputable def f22_r0 : Sim Try.prog :=
  (.seq (.live [0] (.region 3 [
    ⟨(opMove (some 14) (.tmp 0) 44 "page.go:104" #[]).op, none⟩,
    ⟨(opMove (some 15) (.tmp 1) 3 "page.go:104" #[]).op, none⟩,
    ⟨(opMove (some 16) (.tmp 2) 25 "page.go:104" #[]).op, none⟩,
    ⟨(opIndexAddrT (some 17) 44 (.tmp 14) (.tmp 15) 25 1 Try.underlying44 sz25 0 "page.go:104" #[{ on := 0, ground := Ground.data }, { on := 1, ground := Ground.data }, { on := 0, ground := Ground.phase }, { on := 1, ground := Ground.phase }, { on := 2, ground := Ground.phase }]).op, none⟩,
    ⟨(opStoreC none 25 (.tmp 17) (.tmp 16) 1 sz25 0 "page.go:104" #[{ on := 3, ground := Ground.data }, { on := 2, ground := Ground.data }, { on := 0, ground := Ground.phase }, { on := 1, ground := Ground.phase }, { on := 2, ground := Ground.phase }]).op, none⟩
  ] (by kernel_rfl)))
  (.seq (.live [6] (.region 4 [
    ⟨(opMove (some 18) (.tmp 0) 44 "page.go:105" #[]).op, none⟩,
    ⟨(opCallQ q36 (some 19) [(.tmp 18)] #[44] 44 "page.go:105" #[{ on := 0, ground := Ground.data }]).op, none⟩,
    ⟨(opAssign (some 6) (.tmp 19) 44 "page.go:105" #[{ on := 1, ground := Ground.data }, { on := 1, ground := Ground.chain }, { on := 0, ground := Ground.phase }, { on := 1, ground := Ground.phase }]).op, none⟩
  ] (by kernel_rfl)))
  (.live [6] .ret)))

noncomputable def f22_b : Sim Try.prog :=
  (.seq (.live [0, 1, 2] (.region 0 [
    ⟨(opAssign (some 6) (.const (Value.slice none 0 0)) 44 "page.go:100" #[]).op, none⟩
  ] (by kernel_rfl)))
  (.seq (.block 0 (.loop [0, 1, 2] f22_l0))
  f22_r0))

noncomputable def f22 : Fun Try.prog where
  id := 22
  fn := Try.f22
  hf := Try.func22
  hname := by kernel_rfl
  body := f22_b
  hbody := by kernel_rfl
  res := [rTmp 6]
  hres := by kernel_rfl
  n := 20
  hn := by kernel_rfl

end Go.Proofs.Ytblliolkgkgppaa.V

/- What the functions' runs come to; the right sides were printed by a tool, Lean checks them. -/
set_option linter.unusedVariables false
set_option maxRecDepth 100000
namespace Go.Proofs.Ytblliolkgkgppaa.V
open Go Go.V Go.RowKit

theorem wi_run (F : Nat) (k : Int) (x b : AV) (st : St) :
    (f22.run F [x, .int .i64 k, b] st : Ans) =
    loopRun (f22_l0.run F) [0, 1, 2]
      (Cont.block 0 (Cont.then (f22_r0.run F (f22.leaveK Fun.done)) (f22.leaveK Fun.done))) F
      (Env.mk 20 [(0, x), (1, AV.int IntKind.i64 k), (2, b)]) st := by kernel_rfl

theorem wi_round0 (F m : Nat) (K : Cont) (k : Int) (b : AV) :
    (loopRun (f22_l0.run F) [0, 1, 2] K m.succ (Env.mk 20 [(0, .nilsl), (1, .int .i64 k), (2, b)]) ⟨[], []⟩ : Ans) =
    branch (AV.bool (decide ((0 : Int) ≤ k)))
      (branch (AV.bool (apOk 1 24))
        (loopRun (f22_l0.run F) [0, 1, 2] K m
          (Env.mk 20
            [(0, AV.vs 0 0 1 1), (1, AV.int IntKind.i64 k), (2, b)])
          (St.mk [Ob.vec 0 (catC [] 0 [[AV.nilsl]])] []))
        none)
      (K (AX.exit 0) (Env.mk 20 [(0, AV.nilsl), (1, AV.int IntKind.i64 k), (2, b)])
        (St.mk [] [])) := by kernel_rfl

theorem wi_round (F m v n : Nat) (K : Cont) (k : Int) (b : AV) (cs : List AV) :
    (loopRun (f22_l0.run F) [0, 1, 2] K m.succ (Env.mk 20 [(0, .vs 0 v 1 n), (1, .int .i64 k), (2, b)]) ⟨[.vec v cs], []⟩ : Ans) =
    branch (AV.bool (decide ((↑n : Int) ≤ k)))
      (branch (AV.bool (v.beq v && (inC cs 0 (mulN n 1) && apOk (n + 1) 24)))
        (loopRun (f22_l0.run F) [0, 1, 2] K m
          (Env.mk 20
            [(0, AV.vs 0 (v + 1) 1 (n + 1)), (1, AV.int IntKind.i64 k),
              (2, b)])
          (St.mk [Ob.vec (v + 1) (catC cs (mulN n 1) [[AV.nilsl]])] []))
        none)
      (K (AX.exit 0)
        (Env.mk 20 [(0, AV.vs 0 v 1 n), (1, AV.int IntKind.i64 k), (2, b)])
        (St.mk [Ob.vec v cs] [])) := by kernel_rfl

theorem wi_out0 (F v n : Nat) (k : Int) (cs : List AV) :
    ((Cont.block 0 (Cont.then (f22_r0.run F (f22.leaveK Fun.done)) (f22.leaveK Fun.done))) (.exit 0) (Env.mk 20 [(0, .vs 0 v 1 n), (1, .int .i64 k), (2, .nilsl)]) ⟨[.vec v cs], []⟩ : Ans) =
    if (0 : Int) ≤ k ∧ k < (↑n : Int) then
      branch (AV.bool (v.beq v && (true && inC cs (k.toNat * 1) 1)))
        (branch (AV.bool (v.beq v))
          (branch (AV.bool (okV n (setC cs (k.toNat * 1) [AV.nilsl])))
            (some
              (Fin.ret (AV.vs 0 v 1 (trN n (setC cs (k.toNat * 1) [AV.nilsl]))),
                St.mk [Ob.vec v (setC cs (k.toNat * 1) [AV.nilsl])] []))
            none)
          none)
        none
    else none := by kernel_rfl

theorem wi_out (F v n : Nat) (f : Bool) (k : Int) (l : List (List AV)) (cs : List AV) :
    ((Cont.block 0 (Cont.then (f22_r0.run F (f22.leaveK Fun.done)) (f22.leaveK Fun.done))) (.exit 0) (Env.mk 20 [(0, .vs 0 v 1 n), (1, .int .i64 k), (2, .sl 1 f l)]) ⟨[.vec v cs], []⟩ : Ans) =
    if (0 : Int) ≤ k ∧ k < (↑n : Int) then
      branch (AV.bool (v.beq v && (true && inC cs (k.toNat * 1) 1)))
        (branch (AV.bool (v.beq v))
          (branch (AV.bool (okV n (setC cs (k.toNat * 1) [AV.sl 1 f l])))
            (some
              (Fin.ret (AV.vs 0 v 1 (trN n (setC cs (k.toNat * 1) [AV.sl 1 f l]))),
                St.mk [Ob.vec v (setC cs (k.toNat * 1) [AV.sl 1 f l])] []))
            none)
          none)
        none
    else none := by kernel_rfl

end Go.Proofs.Ytblliolkgkgppaa.V

/- Page: slots of which one has bytes. -/
set_option linter.unusedVariables false
namespace Go.Proofs.Ytblliolkgkgppaa.V
open Go Go.V Go.RowKit

/-- Cells, so many at least: free slots behind. -/
def padC (cs : List AV) (m : Nat) : List AV := cs ++ List.replicate (m - cs.length) .nilsl
theorem padC_length (cs : List AV) (m : Nat) : (padC cs m).length = max cs.length m := by simp [padC]; omega
noncomputable abbrev wiK (F : Nat) : Cont := Cont.block 0 (Cont.then (f22_r0.run F (f22.leaveK Fun.done)) (f22.leaveK Fun.done))
theorem wi_loop (F k : Nat) (hk : k ≤ 1000) (b : AV) : ∀ (d m v : Nat) (cs : List AV), cs.length + d = max cs.length (k + 1) → d < m →
    loopRun (f22_l0.run F) [0, 1, 2] (wiK F) m (Env.mk 20 [(0, .vs 0 v 1 cs.length), (1, .int .i64 (k : Int)), (2, b)]) ⟨[.vec v cs], []⟩
      = wiK F (.exit 0) (Env.mk 20 [(0, .vs 0 (v + d) 1 (padC cs (k + 1)).length), (1, .int .i64 (k : Int)), (2, b)]) ⟨[.vec (v + d) (padC cs (k + 1))], []⟩
  | d, 0, v, cs, hd, hm => by omega
  | 0, m + 1, v, cs, hd, hm => by
    have : padC cs (k + 1) = cs := by rw [padC, show k + 1 - cs.length = 0 by omega]; simp
    rw [show m + 1 = m.succ from rfl, wi_round, branch_not (by simp; omega), this]
    rfl
  | d + 1, m + 1, v, cs, hd, hm => by
    have hlt : cs.length ≤ k := by omega
    have hp : padC (cs ++ [.nilsl]) (k + 1) = padC cs (k + 1) := by
      simp only [padC, List.length_append, List.length_singleton, List.append_assoc]
      rw [show k + 1 - cs.length = (k + 1 - (cs.length + 1)) + 1 by omega, List.replicate_succ]
      rfl
    rw [show m + 1 = m.succ from rfl, wi_round, branch_of (by simpa using hlt), branch_of (vs_guard rfl (by omega)), catC_one rfl]
    have ih := wi_loop F k hk b d m (v + 1) (cs ++ [.nilsl]) (by rw [List.length_append, List.length_singleton]; omega) (by omega)
    rw [hp, List.length_append, List.length_singleton, show v + 1 + d = v + (d + 1) by omega] at ih
    exact ih
/-- What a slot may be made of. -/
noncomputable def okB (b : AV) : Bool :=
  match b with
  | .nilsl => true
  | .sl s _ l => Nat.beq s 1 && byOk l
  | _ => false
theorem okB_spec {b : AV} (h : okB b = true) : (b = .nilsl ∨ ∃ f l, b = .sl 1 f l) ∧ okSlot [b] = true ∧ (rwA [b]).length < 4611686018427387904 := by
  unfold okB at h
  split at h
  · exact ⟨.inl rfl, rfl, by simp [rwA]⟩
  · rename_i s f l
    rw [Bool.and_eq_true] at h
    obtain rfl := Nat.eq_of_beq_eq_true h.1
    obtain ⟨h1, h2⟩ := byOk_iff.mp h.2
    exact ⟨.inr ⟨_, _, rfl⟩, h1, h2⟩
  · cases h
/-- Cells that are slots, not too many. -/
noncomputable def okW (cs : List AV) : Bool := okS (cR cs) && cdec (cs.length ≤ 1000)
theorem okW_iff {cs : List AV} : okW cs = true ↔ okS (cR cs) = true ∧ cs.length ≤ 1000 := by rw [okW, Bool.and_eq_true, cdec_iff]
noncomputable def wC (cs : List AV) (k : Nat) (b : AV) : List AV := opq ((padC cs (k + 1)).set k b)
noncomputable def wN (cs : List AV) (k : Nat) (b : AV) : Nat := opq (trR (cR ((padC cs (k + 1)).set k b))).length
noncomputable def wV (v : Nat) (cs : List AV) (k : Nat) : Nat := opq (v + (k + 1 - cs.length))
theorem okS_set {cs : List AV} (h : okW cs = true) {k : Nat} (hk : k ≤ 1000) {b : AV} (hb : okB b = true) : okS (cR ((padC cs (k + 1)).set k b)) = true := by
  obtain ⟨h1, h2⟩ := okW_iff.mp h
  rw [okS_iff] at h1 ⊢
  refine ⟨fun r hr => ?_, by rw [cR_length, List.length_set, padC_length]; omega⟩
  obtain ⟨x, hx, rfl⟩ := List.mem_map.mp hr
  rcases List.mem_or_eq_of_mem_set hx with hx | rfl
  · rcases List.mem_append.mp hx with hx | hx
    · exact h1.1 _ (List.mem_map.mpr ⟨x, hx, rfl⟩)
    · rw [List.eq_of_mem_replicate hx]
      exact ⟨rfl, by simp [rwA]⟩
  · exact (okB_spec hb).2
theorem wi_end (F k v : Nat) (hk : k ≤ 1000) (cs : List AV) (hcs : okW cs = true) (b : AV) (hb : okB b = true) :
    wiK F (.exit 0) (Env.mk 20 [(0, .vs 0 v 1 (padC cs (k + 1)).length), (1, .int .i64 (k : Int)), (2, b)]) ⟨[.vec v (padC cs (k + 1))], []⟩ = some (.ret (.vs 0 v 1 (wN cs k b)), ⟨[.vec v (wC cs k b)], []⟩) := by
  have hl : k < (padC cs (k + 1)).length := by rw [padC_length]; omega
  have hs := okS_set hcs hk hb
  have hset : setC (padC cs (k + 1)) k [b] = (padC cs (k + 1)).set k b := setC_one hl
  have hv : okV (padC cs (k + 1)).length ((padC cs (k + 1)).set k b) = true := by
    rw [okV_iff, List.length_set]
    refine ⟨Nat.le_refl _, ?_⟩
    rw [List.take_of_length_le (by rw [List.length_set]; exact Nat.le_refl _)]
    exact hs
  have hn : trN (padC cs (k + 1)).length ((padC cs (k + 1)).set k b) = wN cs k b := by
    rw [trN, wN, opq_eq, opq_eq, List.take_of_length_le (by rw [List.length_set]; exact Nat.le_refl _)]
  have hg : (v.beq v && (true && inC (padC cs (k + 1)) (k * 1) 1)) = true := by
    rw [Nat.beq_refl, Bool.true_and, Bool.true_and, inC_iff]; omega
  rcases (okB_spec hb).1 with rfl | ⟨f, l, rfl⟩
  · rw [wiK, wi_out0, if_pos ⟨by omega, by omega⟩, Int.toNat_natCast, branch_of hg, branch_of (Nat.beq_refl v), Nat.mul_one, hset, branch_of hv, hn, wC, opq_eq]
  · rw [wiK, wi_out, if_pos ⟨by omega, by omega⟩, Int.toNat_natCast, branch_of hg, branch_of (Nat.beq_refl v), Nat.mul_one, hset, branch_of hv, hn, wC, opq_eq]
theorem wi_all (k v : Nat) (hk : k ≤ 1000) (cs : List AV) (hcs : okW cs = true) (b : AV) (hb : okB b = true) :
    f22.run (k + 3) [.vs 0 v 1 cs.length, .int .i64 (k : Int), b] ⟨[.vec v cs], []⟩ = some (.ret (.vs 0 (wV v cs k) 1 (wN cs k b)), ⟨[.vec (wV v cs k) (wC cs k b)], []⟩) := by
  rw [wi_run, wi_loop _ k hk b (k + 1 - cs.length) (k + 3) v cs (by omega) (by omega), wi_end _ k _ hk cs hcs b hb, wV, opq_eq]
theorem wi_all0 (k : Nat) (hk : k ≤ 1000) (b : AV) (hb : okB b = true) :
    f22.run (k + 3) [.nilsl, .int .i64 (k : Int), b] ⟨[], []⟩ = some (.ret (.vs 0 k 1 (wN [] k b)), ⟨[.vec k (wC [] k b)], []⟩) := by
  have hp : padC [.nilsl] (k + 1) = padC [] (k + 1) := by
    simp only [padC, List.length_nil, List.length_singleton]
    rw [show k + 1 - 0 = (k + 1 - 1) + 1 by omega, List.replicate_succ]
    rfl
  have h0 : okW [] = true := by rw [okW_iff]; exact ⟨by rw [okS_iff]; exact ⟨by simp [cR], by simp [cR]⟩, by simp⟩
  have hl := wi_loop (k + 3) k hk b k (k + 2) 0 [.nilsl] (by simp; omega) (by omega)
  have he := wi_end (k + 3) k (0 + k) hk [] h0 b hb
  rw [hp] at hl
  rw [wi_run, show k + 3 = (k + 2).succ from rfl, wi_round0, branch_of (by simp), branch_of ap_one, catC_nil]
  rw [he, Nat.zero_add] at hl
  exact hl
noncomputable def o22 : OrcS Try.prog := f22.by'
  (fun args st k => match args with
    | [.nilsl, .int .i64 i, b] => onNone st (ifT (cdec (0 ≤ i ∧ i ≤ 1000) && okB b) (k (.ret (.vs 0 i.toNat 1 (wN [] i.toNat b))) ⟨[.vec i.toNat (wC [] i.toNat b)], []⟩))
    | [.vs j v s n, .int .i64 i, b] => match Nat.beq j 0 && Nat.beq s 1 with
      | true => match st with
        | ⟨[.vec v' cs], []⟩ => ifT (Nat.beq v v' && (cdec (n = cs.length) && (cdec (0 ≤ i ∧ i ≤ 1000) && (okW cs && okB b)))) (k (.ret (.vs 0 (wV v cs i.toNat) 1 (wN cs i.toNat b))) ⟨[.vec (wV v cs i.toNat) (wC cs i.toNat b)], []⟩)
        | _ => none
      | false => none
    | _ => none)
  fun args st k fin h => by
    split at h
    · obtain ⟨e, h5⟩ := onNone_spec h
      clear h
      subst e
      obtain ⟨h1, h⟩ := ifT_spec h5
      rw [Bool.and_eq_true, cdec_iff] at h1
      obtain ⟨m, rfl⟩ := Int.eq_ofNat_of_zero_le h1.1.1
      simp only [Int.toNat_natCast] at h
      exact ⟨_, _, h, f22.sound (wi_all0 m (by omega) _ h1.2)⟩
    · split at h
      · rename_i hj
        rw [Bool.and_eq_true] at hj
        obtain rfl := Nat.eq_of_beq_eq_true hj.1
        obtain rfl := Nat.eq_of_beq_eq_true hj.2
        split at h
        · obtain ⟨h1, h6⟩ := ifT_spec h
          clear h
          simp only [Bool.and_eq_true, cdec_iff] at h1
          obtain ⟨e1, e2, e3, e4, e5⟩ := h1
          obtain rfl := Nat.eq_of_beq_eq_true e1
          subst e2
          obtain ⟨m, rfl⟩ := Int.eq_ofNat_of_zero_le e3.1
          simp only [Int.toNat_natCast] at h6
          exact ⟨_, _, h6, f22.sound (wi_all m _ (by omega) _ e4 _ e5)⟩
        · cases h
      · cases h
    · cases h
end Go.Proofs.Ytblliolkgkgppaa.V

/- The functions' pieces, as told by gen.py. -/
set_option linter.unusedVariables false
set_option maxRecDepth 20000
namespace Go.Proofs.Ytblliolkgkgppaa.V
open Go Go.V Go.RowKit

theorem ze3 : (Try.prog.info? 3).bind (·.zero) = some (.int .i64 0) := by kernel_rfl
theorem by3 : (Try.prog.info? 3).map (·.bytes) = some 8 := by kernel_rfl
theorem sz3 : (Try.prog.info? 3).map (·.size) = some 1 := by kernel_rfl
theorem el38 : ElemOf Try.prog 38 3 1 8 (.int .i64 0) := ⟨Try.underlying38, sz3, by3, ze3, by kernel_rfl, by decide⟩

/-! ### 15: interlock/page.Get (25, 3); results 4, 5; slots: 0 p, 1 slot, 2 p, 3 slot, 6 s, 7 _ -/
noncomputable def f15_b : Sim Try.prog :=
  (.seq (.live [0, 1] (.region 0 [
    ⟨(opAssign (some 4) (.const (Value.slice none 0 0)) 25 "page.go:91" #[]).op, none⟩,
    ⟨(opAssign (some 5) (.const (Value.bool false)) 4 "page.go:91" #[{ on := 0, ground := Ground.chain }]).op, none⟩
  ] (by kernel_rfl)))
  (.seq (.live [1, 6] (.region 1 [
    ⟨(opMove (some 9) (.tmp 0) 25 "page.go:92" #[]).op, none⟩,
    ⟨(opCallP p21 (some 10) [(.tmp 9)] #[25] 45 "page.go:92" #[{ on := 0, ground := Ground.data }]).op, none⟩,
    ⟨(opMove (some 8) (.tmp 10) 45 "page.go:92" #[{ on := 1, ground := Ground.data }]).op, none⟩,
    ⟨(opExtract (some 11) (.tmp 8) 0 44 "page.go:92" #[{ on := 2, ground := Ground.data }]).op, none⟩,
    ⟨(opExtract (some 12) (.tmp 8) 1 4 "page.go:92" #[{ on := 2, ground := Ground.data }, { on := 5, ground := (Ground.gcOnly Departure.lateStores) }]).op, none⟩,
    ⟨(opAssign (some 6) (.tmp 11) 44 "page.go:92" #[{ on := 3, ground := Ground.data }, { on := 1, ground := Ground.chain }, { on := 0, ground := Ground.phase }, { on := 1, ground := Ground.phase }, { on := 2, ground := Ground.phase }, { on := 3, ground := Ground.phase }, { on := 4, ground := (Ground.textOnly Departure.lateStores) }]).op, none⟩,
    ⟨(opAssign (some 7) (.tmp 12) 4 "page.go:92" #[{ on := 4, ground := Ground.data }, { on := 5, ground := Ground.chain }, { on := 0, ground := Ground.phase }, { on := 1, ground := Ground.phase }, { on := 2, ground := Ground.phase }, { on := 3, ground := Ground.phase }, { on := 4, ground := Ground.phase }, { on := 5, ground := Ground.phase }]).op, none⟩
  ] (by kernel_rfl)))
  (.seq (.seq (.live [1, 6, 27] (.region 2 [
    ⟨(opMove (some 13) (.tmp 1) 3 "page.go:93" #[]).op, none⟩,
    ⟨(opBin (some 14) .lss 3 (.tmp 13) (.const (Value.int IntKind.i64 0)) 3 4 "page.go:93" #[{ on := 0, ground := Ground.data }]).op, none⟩,
    ⟨(opMove (some 15) (.tmp 14) 4 "page.go:93" #[{ on := 1, ground := Ground.data }]).op, none⟩,
    ⟨(opMove (some 16) (.tmp 1) 3 "page.go:93" #[{ on := 2, ground := Ground.guard }]).op, (some (2, 15, false))⟩,
    ⟨(opMove (some 17) (.tmp 6) 44 "page.go:93" #[{ on := 2, ground := Ground.guard }]).op, (some (2, 15, false))⟩,
    ⟨(opLen (some 18) (.tmp 17) 44 (.slice 25) Try.underlying44 3 "page.go:93" #[{ on := 4, ground := Ground.data }, { on := 2, ground := Ground.guard }]).op, (some (2, 15, false))⟩,
    ⟨(opBin (some 19) .geq 3 (.tmp 16) (.tmp 18) 3 4 "page.go:93" #[{ on := 3, ground := Ground.data }, { on := 5, ground := Ground.data }, { on := 2, ground := Ground.guard }]).op, (some (2, 15, false))⟩,
    ⟨(opPick (some 20) (.tmp 15) (.const (Value.bool true)) (.tmp 19) 4 "page.go:93" #[{ on := 2, ground := Ground.data }, { on := 6, ground := Ground.data }]).op, none⟩,
    ⟨(opMove (some 21) (.tmp 20) 4 "page.go:93" #[{ on := 7, ground := Ground.data }, { on := 2, ground := Ground.chain }]).op, none⟩,
    ⟨(opMove (some 22) (.tmp 6) 44 "page.go:93" #[{ on := 8, ground := Ground.guard }]).op, (some (8, 21, false))⟩,
    ⟨(opMove (some 23) (.tmp 1) 3 "page.go:93" #[{ on := 8, ground := Ground.guard }]).op, (some (8, 21, false))⟩,
    ⟨(opIndexAddrT (some 24) 44 (.tmp 22) (.tmp 23) 25 1 Try.underlying44 sz25 0 "page.go:93" #[{ on := 9, ground := Ground.data }, { on := 10, ground := Ground.data }, { on := 8, ground := Ground.guard }]).op, (some (8, 21, false))⟩,
    ⟨(opLoadT (.one (.ns 1)) (some 25) 25 (.tmp 24) (.slice 5) Try.underlying25 1 sz25 (by kernel_rfl) 25 "page.go:93" #[{ on := 11, ground := Ground.data }, { on := 8, ground := Ground.guard }]).op, (some (8, 21, false))⟩,
    ⟨(opEq (some 26) 25 (.slice 5) Try.underlying25 (.tmp 25) (.const (Value.slice none 0 0)) (.inl rfl) 25 4 "page.go:93" #[{ on := 12, ground := Ground.data }, { on := 8, ground := Ground.guard }]).op, (some (8, 21, false))⟩,
    ⟨(opPick (some 27) (.tmp 21) (.const (Value.bool true)) (.tmp 26) 4 "page.go:93" #[{ on := 8, ground := Ground.data }, { on := 13, ground := Ground.data }]).op, none⟩
  ] (by kernel_rfl)))
  (.cond (.tmp 27)
    (.seq (.live [4, 5] (.region 3 [
      ⟨(opAssign (some 4) (.const (Value.slice none 0 0)) 25 "page.go:94" #[]).op, none⟩,
      ⟨(opAssign (some 5) (.const (Value.bool false)) 4 "page.go:94" #[{ on := 0, ground := Ground.chain }, { on := 0, ground := Ground.phase }]).op, none⟩
    ] (by kernel_rfl)))
    (.live [4, 5] .ret))
    .skip))
  (.seq (.live [4, 5] (.region 4 [
    ⟨(opMove (some 28) (.tmp 6) 44 "page.go:96" #[]).op, none⟩,
    ⟨(opMove (some 29) (.tmp 1) 3 "page.go:96" #[]).op, none⟩,
    ⟨(opIndexAddrT (some 30) 44 (.tmp 28) (.tmp 29) 25 1 Try.underlying44 sz25 0 "page.go:96" #[{ on := 0, ground := Ground.data }, { on := 1, ground := Ground.data }]).op, none⟩,
    ⟨(opLoadT (.one (.ns 1)) (some 31) 25 (.tmp 30) (.slice 5) Try.underlying25 1 sz25 (by kernel_rfl) 25 "page.go:96" #[{ on := 2, ground := Ground.data }]).op, none⟩,
    ⟨(opAssign (some 4) (.tmp 31) 25 "page.go:96" #[{ on := 3, ground := Ground.data }, { on := 0, ground := Ground.phase }, { on := 1, ground := Ground.phase }, { on := 2, ground := Ground.phase }, { on := 3, ground := Ground.phase }]).op, none⟩,
    ⟨(opAssign (some 5) (.const (Value.bool true)) 4 "page.go:96" #[{ on := 4, ground := Ground.chain }, { on := 0, ground := Ground.phase }, { on := 1, ground := Ground.phase }, { on := 2, ground := Ground.phase }, { on := 3, ground := Ground.phase }, { on := 4, ground := Ground.phase }]).op, none⟩
  ] (by kernel_rfl)))
  (.live [4, 5] .ret)))))

noncomputable def f15 : Fun Try.prog where
  id := 15
  fn := Try.f15
  hf := Try.func15
  hname := by kernel_rfl
  body := f15_b
  hbody := by kernel_rfl
  res := [rTmp 4, rTmp 5]
  hres := by kernel_rfl
  n := 32
  hn := by kernel_rfl

/-! ### 16: interlock/page.Right (25); results 2; slots: 0 p, 1 p, 3 _, 4 ok -/
noncomputable def f16_b : Sim Try.prog :=
  (.seq (.live [0] (.region 0 [
    ⟨(opAssign (some 2) (.const (Value.bool false)) 4 "page.go:85" #[]).op, none⟩
  ] (by kernel_rfl)))
  (.seq (.live [4] (.region 1 [
    ⟨(opMove (some 6) (.tmp 0) 25 "page.go:86" #[]).op, none⟩,
    ⟨(opCallP p21 (some 7) [(.tmp 6)] #[25] 45 "page.go:86" #[{ on := 0, ground := Ground.data }]).op, none⟩,
    ⟨(opMove (some 5) (.tmp 7) 45 "page.go:86" #[{ on := 1, ground := Ground.data }]).op, none⟩,
    ⟨(opExtract (some 8) (.tmp 5) 0 44 "page.go:86" #[{ on := 2, ground := Ground.data }]).op, none⟩,
    ⟨(opExtract (some 9) (.tmp 5) 1 4 "page.go:86" #[{ on := 2, ground := Ground.data }, { on := 5, ground := (Ground.gcOnly Departure.lateStores) }]).op, none⟩,
    ⟨(opAssign (some 3) (.tmp 8) 44 "page.go:86" #[{ on := 3, ground := Ground.data }, { on := 1, ground := Ground.chain }, { on := 0, ground := Ground.phase }, { on := 1, ground := Ground.phase }, { on := 2, ground := Ground.phase }, { on := 3, ground := Ground.phase }, { on := 4, ground := (Ground.textOnly Departure.lateStores) }]).op, none⟩,
    ⟨(opAssign (some 4) (.tmp 9) 4 "page.go:86" #[{ on := 4, ground := Ground.data }, { on := 5, ground := Ground.chain }, { on := 0, ground := Ground.phase }, { on := 1, ground := Ground.phase }, { on := 2, ground := Ground.phase }, { on := 3, ground := Ground.phase }, { on := 4, ground := Ground.phase }, { on := 5, ground := Ground.phase }]).op, none⟩
  ] (by kernel_rfl)))
  (.seq (.live [2] (.region 2 [
    ⟨(opMove (some 10) (.tmp 4) 4 "page.go:87" #[]).op, none⟩,
    ⟨(opAssign (some 2) (.tmp 10) 4 "page.go:87" #[{ on := 0, ground := Ground.data }, { on := 0, ground := Ground.phase }]).op, none⟩
  ] (by kernel_rfl)))
  (.live [2] .ret))))

noncomputable def f16 : Fun Try.prog where
  id := 16
  fn := Try.f16
  hf := Try.func16
  hname := by kernel_rfl
  body := f16_b
  hbody := by kernel_rfl
  res := [rTmp 2]
  hres := by kernel_rfl
  n := 11
  hn := by kernel_rfl

/-! ### 14: interlock/page.Room (25); results 2; slots: 0 p, 1 p, 3 s, 4 ok, 5 more, 6 n -/
noncomputable def f14_b : Sim Try.prog :=
  (.seq (.live [0] (.region 0 [
    ⟨(opAssign (some 2) (.const (Value.int IntKind.i64 0)) 3 "page.go:156" #[]).op, none⟩
  ] (by kernel_rfl)))
  (.seq (.live [3, 4] (.region 1 [
    ⟨(opMove (some 8) (.tmp 0) 25 "page.go:157" #[]).op, none⟩,
    ⟨(opCallP p21 (some 9) [(.tmp 8)] #[25] 45 "page.go:157" #[{ on := 0, ground := Ground.data }]).op, none⟩,
    ⟨(opMove (some 7) (.tmp 9) 45 "page.go:157" #[{ on := 1, ground := Ground.data }]).op, none⟩,
    ⟨(opExtract (some 10) (.tmp 7) 0 44 "page.go:157" #[{ on := 2, ground := Ground.data }]).op, none⟩,
    ⟨(opExtract (some 11) (.tmp 7) 1 4 "page.go:157" #[{ on := 2, ground := Ground.data }, { on := 5, ground := (Ground.gcOnly Departure.lateStores) }]).op, none⟩,
    ⟨(opAssign (some 3) (.tmp 10) 44 "page.go:157" #[{ on := 3, ground := Ground.data }, { on := 1, ground := Ground.chain }, { on := 0, ground := Ground.phase }, { on := 1, ground := Ground.phase }, { on := 2, ground := Ground.phase }, { on := 3, ground := Ground.phase }, { on := 4, ground := (Ground.textOnly Departure.lateStores) }]).op, none⟩,
    ⟨(opAssign (some 4) (.tmp 11) 4 "page.go:157" #[{ on := 4, ground := Ground.data }, { on := 5, ground := Ground.chain }, { on := 0, ground := Ground.phase }, { on := 1, ground := Ground.phase }, { on := 2, ground := Ground.phase }, { on := 3, ground := Ground.phase }, { on := 4, ground := Ground.phase }, { on := 5, ground := Ground.phase }]).op, none⟩
  ] (by kernel_rfl)))
  (.seq (.seq (.live [3, 13] (.region 2 [
    ⟨(opMove (some 12) (.tmp 4) 4 "page.go:158" #[]).op, none⟩,
    ⟨(opNot (some 13) 4 (.tmp 12) 4 "page.go:158" #[{ on := 0, ground := Ground.data }]).op, none⟩
  ] (by kernel_rfl)))
  (.cond (.tmp 13)
    (.seq (.live [2] (.region 3 [
      ⟨(opAssign (some 2) (.const (Value.int IntKind.i64 0)) 3 "page.go:159" #[]).op, none⟩
    ] (by kernel_rfl)))
    (.live [2] .ret))
    .skip))
  (.seq (.live [3, 5] (.region 4 [
    ⟨(opAssign (some 5) (.const (Value.int IntKind.i64 1)) 3 "page.go:161" #[]).op, none⟩
  ] (by kernel_rfl)))
  (.seq (.seq (.live [3, 5, 15] (.region 5 [
    ⟨(opMove (some 14) (.tmp 3) 44 "page.go:162" #[]).op, none⟩,
    ⟨(opCallP p26 (some 15) [(.tmp 14), (.func 27)] #[44, 37] 4 "page.go:162" #[{ on := 0, ground := Ground.data }]).op, none⟩
  ] (by kernel_rfl)))
  (.cond (.tmp 15)
    (.live [3, 5] (.region 6 [
      ⟨(opAssign (some 5) (.const (Value.int IntKind.i64 0)) 3 "page.go:163" #[]).op, none⟩
    ] (by kernel_rfl)))
    .skip))
  (.seq (.live [3, 5, 6] (.region 7 [
    ⟨(opMove (some 16) (.tmp 3) 44 "page.go:165" #[]).op, none⟩,
    ⟨(opCallP p28 (some 17) [(.tmp 16)] #[44] 3 "page.go:165" #[{ on := 0, ground := Ground.data }]).op, none⟩,
    ⟨(opBin (some 18) .sub 3 (.const (Value.int IntKind.i64 256)) (.tmp 17) 3 3 "page.go:165" #[{ on := 1, ground := Ground.data }]).op, none⟩,
    ⟨(opMove (some 19) (.tmp 5) 3 "page.go:165" #[]).op, none⟩,
    ⟨(opBin (some 20) .sub 3 (.tmp 18) (.tmp 19) 3 3 "page.go:165" #[{ on := 2, ground := Ground.data }, { on := 3, ground := Ground.data }]).op, none⟩,
    ⟨(opMinMax (some 21) false (.tmp 20) [(.const (Value.int IntKind.i64 200))] #[3, 3] 3 "page.go:165" #[{ on := 4, ground := Ground.data }]).op, none⟩,
    ⟨(opAssign (some 6) (.tmp 21) 3 "page.go:165" #[{ on := 5, ground := Ground.data }, { on := 1, ground := Ground.chain }, { on := 0, ground := Ground.phase }, { on := 1, ground := Ground.phase }, { on := 2, ground := Ground.phase }, { on := 3, ground := Ground.phase }, { on := 4, ground := Ground.phase }, { on := 5, ground := Ground.phase }]).op, none⟩
  ] (by kernel_rfl)))
  (.seq (.seq (.live [6, 32] (.region 8 [
    ⟨(opMove (some 22) (.tmp 6) 3 "page.go:166" #[]).op, none⟩,
    ⟨(opBin (some 23) .lss 3 (.tmp 22) (.const (Value.int IntKind.i64 0)) 3 4 "page.go:166" #[{ on := 0, ground := Ground.data }]).op, none⟩,
    ⟨(opMove (some 24) (.tmp 23) 4 "page.go:166" #[{ on := 1, ground := Ground.data }]).op, none⟩,
    ⟨(opMove (some 25) (.tmp 3) 44 "page.go:166" #[{ on := 2, ground := Ground.guard }]).op, (some (2, 24, false))⟩,
    ⟨(opLen (some 26) (.tmp 25) 44 (.slice 25) Try.underlying44 3 "page.go:166" #[{ on := 3, ground := Ground.data }, { on := 2, ground := Ground.guard }]).op, (some (2, 24, false))⟩,
    ⟨(opBin (some 27) .gtr 3 (.tmp 26) (.const (Value.int IntKind.i64 250)) 3 4 "page.go:166" #[{ on := 4, ground := Ground.data }, { on := 2, ground := Ground.guard }]).op, (some (2, 24, false))⟩,
    ⟨(opMove (some 28) (.tmp 27) 4 "page.go:166" #[{ on := 5, ground := Ground.data }, { on := 2, ground := Ground.chain }, { on := 2, ground := Ground.guard }]).op, (some (2, 24, false))⟩,
    ⟨(opMove (some 29) (.tmp 5) 3 "page.go:166" #[{ on := 6, ground := Ground.guard }]).op, (some (6, 28, true))⟩,
    ⟨(opBin (some 30) .gtr 3 (.tmp 29) (.const (Value.int IntKind.i64 0)) 3 4 "page.go:166" #[{ on := 7, ground := Ground.data }, { on := 6, ground := Ground.guard }]).op, (some (6, 28, true))⟩,
    ⟨(opPick (some 31) (.tmp 28) (.tmp 30) (.const (Value.bool false)) 4 "page.go:166" #[{ on := 6, ground := Ground.data }, { on := 8, ground := Ground.data }, { on := 2, ground := Ground.guard }]).op, (some (2, 24, false))⟩,
    ⟨(opPick (some 32) (.tmp 24) (.const (Value.bool true)) (.tmp 31) 4 "page.go:166" #[{ on := 2, ground := Ground.data }, { on := 9, ground := Ground.data }]).op, none⟩
  ] (by kernel_rfl)))
  (.cond (.tmp 32)
    (.seq (.live [2] (.region 9 [
      ⟨(opAssign (some 2) (.const (Value.int IntKind.i64 (-1))) 3 "page.go:167" #[]).op, none⟩
    ] (by kernel_rfl)))
    (.live [2] .ret))
    .skip))
  (.seq (.live [2] (.region 10 [
    ⟨(opMove (some 33) (.tmp 6) 3 "page.go:169" #[]).op, none⟩,
    ⟨(opAssign (some 2) (.tmp 33) 3 "page.go:169" #[{ on := 0, ground := Ground.data }, { on := 0, ground := Ground.phase }]).op, none⟩
  ] (by kernel_rfl)))
  (.live [2] .ret)))))))))

noncomputable def f14 : Fun Try.prog where
  id := 14
  fn := Try.f14
  hf := Try.func14
  hname := by kernel_rfl
  body := f14_b
  hbody := by kernel_rfl
  res := [rTmp 2]
  hres := by kernel_rfl
  n := 34
  hn := by kernel_rfl

/-! ### 17: interlock/page.Slots (25); results 2; slots: 0 p, 1 p, 3 s, 4 _, 5 out, 6 i, 7 b -/
/-- A loop's round; at its head live: 5 out, 13 , 14 , 15  -/
noncomputable def f17_l0 : Sim Try.prog :=
  (.seq (.live [5, 13, 14, 15, 16] (.region 4 [
    ⟨(opBin (some 16) .lss 3 (.tmp 15) (.tmp 14) 3 0 "page.go:147" #[]).op, none⟩
  ] (by kernel_rfl)))
  (.seq (.cond (.tmp 16)
    .skip
    (.live [5] (.exit 0)))
  (.seq (.block 1 (.seq (.live [5, 6, 7, 13, 14, 15] (.region 5 [
      ⟨(opMove (some 17) (.tmp 15) 3 "page.go:147" #[]).op, none⟩,
      ⟨(opIndexAddrT (some 18) 44 (.tmp 13) (.tmp 15) 25 1 Try.underlying44 sz25 0 "page.go:147" #[]).op, none⟩,
      ⟨(opLoadT (.one (.ns 1)) (some 19) 25 (.tmp 18) (.slice 5) Try.underlying25 1 sz25 (by kernel_rfl) 25 "page.go:147" #[{ on := 1, ground := Ground.data }]).op, none⟩,
      ⟨(opAssign (some 6) (.tmp 17) 3 "page.go:147" #[{ on := 0, ground := Ground.data }, { on := 0, ground := Ground.phase }, { on := 1, ground := Ground.phase }, { on := 2, ground := Ground.phase }]).op, none⟩,
      ⟨(opAssign (some 7) (.tmp 19) 25 "page.go:147" #[{ on := 2, ground := Ground.data }, { on := 3, ground := Ground.chain }, { on := 0, ground := Ground.phase }, { on := 1, ground := Ground.phase }, { on := 2, ground := Ground.phase }, { on := 3, ground := Ground.phase }]).op, none⟩
    ] (by kernel_rfl)))
    (.seq (.live [5, 6, 13, 14, 15, 21] (.region 6 [
      ⟨(opMove (some 20) (.tmp 7) 25 "page.go:148" #[]).op, none⟩,
      ⟨(opNe (some 21) 25 (.slice 5) Try.underlying25 (.tmp 20) (.const (Value.slice none 0 0)) (.inl rfl) 25 4 "page.go:148" #[{ on := 0, ground := Ground.data }]).op, none⟩
    ] (by kernel_rfl)))
    (.cond (.tmp 21)
      (.live [5, 13, 14, 15] (.region 7 [
        ⟨(opMove (some 22) (.tmp 5) 38 "page.go:149" #[]).op, none⟩,
        ⟨(opMove (some 23) (.tmp 6) 3 "page.go:149" #[]).op, none⟩,
        ⟨(opBuildSlice (some 24) 38 1 [(0, (.tmp 23))] 3 1 8 (.int .i64 0) el38 (by kernel_rfl) (by decide) 38 "page.go:149" #[{ on := 1, ground := Ground.data }]).op, none⟩,
        ⟨(opAppend (some 25) (.tmp 22) (.tmp 24) 38 38 3 1 8 (.int .i64 0) el38 (.slice 3) Try.underlying38 rfl 38 "page.go:149" #[{ on := 0, ground := Ground.data }, { on := 2, ground := Ground.data }]).op, none⟩,
        ⟨(opAssign (some 5) (.tmp 25) 38 "page.go:149" #[{ on := 3, ground := Ground.data }, { on := 3, ground := Ground.chain }, { on := 0, ground := Ground.phase }, { on := 1, ground := Ground.phase }, { on := 2, ground := Ground.phase }, { on := 3, ground := Ground.phase }]).op, none⟩
      ] (by kernel_rfl)))
      .skip))))
  (.live [5, 13, 14, 15] (.region 8 [
    ⟨(opBin (some 26) .add 3 (.tmp 15) (.const (Value.int IntKind.i64 1)) 3 3 "page.go:147" #[]).op, none⟩,
    ⟨(opMove (some 15) (.tmp 26) 3 "page.go:147" #[{ on := 0, ground := Ground.data }]).op, none⟩
  ] (by kernel_rfl))))))

/-- What follows a loop. -/
noncomputable def f17_r0 : Sim Try.prog :=
  (.seq (.live [2] (.region 9 [
    ⟨(opMove (some 27) (.tmp 5) 38 "page.go:152" #[]).op, none⟩,
    ⟨(opAssign (some 2) (.tmp 27) 38 "page.go:152" #[{ on := 0, ground := Ground.data }, { on := 0, ground := Ground.phase }]).op, none⟩
  ] (by kernel_rfl)))
  (.live [2] .ret))

noncomputable def f17_b : Sim Try.prog :=
  (.seq (.live [0] (.region 0 [
    ⟨(opAssign (some 2) (.const (Value.slice none 0 0)) 38 "page.go:144" #[]).op, none⟩
  ] (by kernel_rfl)))
  (.seq (.live [3] (.region 1 [
    ⟨(opMove (some 9) (.tmp 0) 25 "page.go:145" #[]).op, none⟩,
    ⟨(opCallP p21 (some 10) [(.tmp 9)] #[25] 45 "page.go:145" #[{ on := 0, ground := Ground.data }]).op, none⟩,
    ⟨(opMove (some 8) (.tmp 10) 45 "page.go:145" #[{ on := 1, ground := Ground.data }]).op, none⟩,
    ⟨(opExtract (some 11) (.tmp 8) 0 44 "page.go:145" #[{ on := 2, ground := Ground.data }]).op, none⟩,
    ⟨(opExtract (some 12) (.tmp 8) 1 4 "page.go:145" #[{ on := 2, ground := Ground.data }, { on := 5, ground := (Ground.gcOnly Departure.lateStores) }]).op, none⟩,
    ⟨(opAssign (some 3) (.tmp 11) 44 "page.go:145" #[{ on := 3, ground := Ground.data }, { on := 1, ground := Ground.chain }, { on := 0, ground := Ground.phase }, { on := 1, ground := Ground.phase }, { on := 2, ground := Ground.phase }, { on := 3, ground := Ground.phase }, { on := 4, ground := (Ground.textOnly Departure.lateStores) }]).op, none⟩,
    ⟨(opAssign (some 4) (.tmp 12) 4 "page.go:145" #[{ on := 4, ground := Ground.data }, { on := 5, ground := Ground.chain }, { on := 0, ground := Ground.phase }, { on := 1, ground := Ground.phase }, { on := 2, ground := Ground.phase }, { on := 3, ground := Ground.phase }, { on := 4, ground := Ground.phase }, { on := 5, ground := Ground.phase }]).op, none⟩
  ] (by kernel_rfl)))
  (.seq (.live [3, 5] (.region 2 [
    ⟨(opAssign (some 5) (.const (Value.slice none 0 0)) 38 "page.go:146" #[]).op, none⟩
  ] (by kernel_rfl)))
  (.seq (.seq (.live [5, 13, 14, 15] (.region 3 [
    ⟨(opMove (some 13) (.tmp 3) 44 "page.go:147" #[]).op, none⟩,
    ⟨(opLen (some 14) (.tmp 13) 44 (.slice 25) Try.underlying44 3 "page.go:147" #[{ on := 0, ground := Ground.data }]).op, none⟩,
    ⟨(opMove (some 15) (.const (Value.int IntKind.i64 0)) 3 "page.go:147" #[]).op, none⟩
  ] (by kernel_rfl)))
  (.block 0 (.loop [5, 13, 14, 15] f17_l0)))
  f17_r0))))

noncomputable def f17 : Fun Try.prog where
  id := 17
  fn := Try.f17
  hf := Try.func17
  hname := by kernel_rfl
  body := f17_b
  hbody := by kernel_rfl
  res := [rTmp 2]
  hres := by kernel_rfl
  n := 28
  hn := by kernel_rfl

end Go.Proofs.Ytblliolkgkgppaa.V

/- What the functions' runs come to; the right sides were printed by a tool, Lean checks them. -/
set_option linter.unusedVariables false
set_option maxRecDepth 100000
namespace Go.Proofs.Ytblliolkgkgppaa.V
open Go Go.V Go.RowKit

theorem get_run (F : Nat) (z : Bool) (l : List (List AV)) (i : Int) :
    (f15.run F [.ns z 1 l, .int .i64 i] ⟨[], []⟩ : Ans) =
    branch (AV.bool (byOk l))
      (branch (AV.bool (decide (i < (0 : Int)))) (some (Fin.ret (AV.tup [AV.nilsl, AV.bool false]), St.mk [] []))
        (branch (AV.bool (decide (i ≥ (↑(ofA (nR l)).length : Int))))
          (some (Fin.ret (AV.tup [AV.nilsl, AV.bool false]), St.mk [] []))
          (branch (AV.bool (inR (ofA (nR l)) i))
            (branch (AV.bool ((LD.one (LT.ns 1)).is (V.rowAt (ofA (nR l)) i)))
              (branch (AV.bool (nilA (V.rowAt (ofA (nR l)) i)))
                (some (Fin.ret (AV.tup [AV.nilsl, AV.bool false]), St.mk [] []))
                (branch (AV.bool (inR (ofA (nR l)) i))
                  (branch (AV.bool ((LD.one (LT.ns 1)).is (V.rowAt (ofA (nR l)) i)))
                    (some
                      (Fin.ret
                          (AV.tup
                            [AV.ns (nilA (V.rowAt (ofA (nR l)) i)) 1 (rwA (V.rowAt (ofA (nR l)) i)), AV.bool true]),
                        St.mk [] []))
                    none)
                  none))
              none)
            none)))
      none := by kernel_rfl

theorem right_run (F : Nat) (z : Bool) (l : List (List AV)) :
    (f16.run F [.ns z 1 l] ⟨[], []⟩ : Ans) =
    branch (AV.bool (byOk l)) (some (Fin.ret (AV.bool (ofB (nR l))), St.mk [] [])) none := by kernel_rfl

theorem room_run (F : Nat) (z : Bool) (l : List (List AV)) :
    (f14.run F [.ns z 1 l] ⟨[], []⟩ : Ans) =
    branch (AV.bool (byOk l))
      (branch (AV.bool !ofB (nR l)) (some (Fin.ret (AV.int IntKind.i64 (0 : Int)), St.mk [] []))
        (branch (AV.bool (true && okS (ofA (nR l))))
          (branch (AV.bool ((ofA (nR l)).any (prd (27 : FuncId))))
            (branch (AV.bool (okS (ofA (nR l)) && fit (szN (sR (ofA (nR l))))))
              (branch
                (AV.bool
                  (decide
                    (leastI false
                        (IntKind.i64.wrap (IntKind.i64.wrap ((256 : Int) - (↑(szN (sR (ofA (nR l)))) : Int)) - (0 : Int)))
                        (200 : Int) <
                      (0 : Int))))
                (some (Fin.ret (AV.int IntKind.i64 (-1 : Int)), St.mk [] []))
                (branch (AV.bool (decide ((↑(ofA (nR l)).length : Int) > (250 : Int))))
                  (some
                    (Fin.ret
                        (AV.int IntKind.i64
                          (leastI false
                            (IntKind.i64.wrap
                              (IntKind.i64.wrap ((256 : Int) - (↑(szN (sR (ofA (nR l)))) : Int)) - (0 : Int)))
                            (200 : Int))),
                      St.mk [] []))
                  (some
                    (Fin.ret
                        (AV.int IntKind.i64
                          (leastI false
                            (IntKind.i64.wrap
                              (IntKind.i64.wrap ((256 : Int) - (↑(szN (sR (ofA (nR l)))) : Int)) - (0 : Int)))
                            (200 : Int))),
                      St.mk [] []))))
              none)
            (branch (AV.bool (okS (ofA (nR l)) && fit (szN (sR (ofA (nR l))))))
              (branch
                (AV.bool
                  (decide
                    (leastI false
                        (IntKind.i64.wrap (IntKind.i64.wrap ((256 : Int) - (↑(szN (sR (ofA (nR l)))) : Int)) - (1 : Int)))
                        (200 : Int) <
                      (0 : Int))))
                (some (Fin.ret (AV.int IntKind.i64 (-1 : Int)), St.mk [] []))
                (branch (AV.bool (decide ((↑(ofA (nR l)).length : Int) > (250 : Int))))
                  (some (Fin.ret (AV.int IntKind.i64 (-1 : Int)), St.mk [] []))
                  (some
                    (Fin.ret
                        (AV.int IntKind.i64
                          (leastI false
                            (IntKind.i64.wrap
                              (IntKind.i64.wrap ((256 : Int) - (↑(szN (sR (ofA (nR l)))) : Int)) - (1 : Int)))
                            (200 : Int))),
                      St.mk [] []))))
              none))
          none))
      none := by kernel_rfl

theorem slots_run (F : Nat) (z : Bool) (l : List (List AV)) :
    (f17.run F [.ns z 1 l] ⟨[], []⟩ : Ans) =
    branch (AV.bool (byOk l))
      (loopRun (f17_l0.run F) [5, 13, 14, 15]
        (Cont.block 0 (Cont.then (f17_r0.run F (f17.leaveK Fun.done)) (f17.leaveK Fun.done))) F
        (Env.mk 28
          [(5, AV.nilsl), (13, AV.ns (List.isEmpty (ofS (nR l))) 1 (ofA (nR l))),
            (14, AV.int IntKind.i64 (↑(ofA (nR l)).length : Int)), (15, AV.int IntKind.i64 (0 : Int))])
        (St.mk [] []))
      none := by kernel_rfl

theorem slots_round0 (F m : Nat) (K : Cont) (z : Bool) (l : List (List AV)) (i e : Int) :
    (loopRun (f17_l0.run F) [5, 13, 14, 15] K m.succ (Env.mk 28 [(5, .nilsl), (13, .ns z 1 l), (14, .int .i64 e), (15, .int .i64 i)]) ⟨[], []⟩ : Ans) =
    branch (AV.bool (decide (i < e)))
      (branch (AV.bool (inR l i))
        (branch (AV.bool ((LD.one (LT.ns 1)).is (V.rowAt l i)))
          (branch (AV.bool !nilA (V.rowAt l i))
            (loopRun (f17_l0.run F) [5, 13, 14, 15] K m
              (Env.mk 28
                [(5, AV.lg 0 1 [[AV.int IntKind.i64 i]]), (13, AV.ns z 1 l),
                  (14, AV.int IntKind.i64 e), (15, AV.int IntKind.i64 (IntKind.i64.wrap (i + (1 : Int))))])
              (St.mk [] [(1, 1)]))
            (loopRun (f17_l0.run F) [5, 13, 14, 15] K m
              (Env.mk 28
                [(5, AV.nilsl), (13, AV.ns z 1 l), (14, AV.int IntKind.i64 e),
                  (15, AV.int IntKind.i64 (IntKind.i64.wrap (i + (1 : Int))))])
              (St.mk [] [])))
          none)
        none)
      (K (AX.exit 0) (Env.mk 28 [(5, AV.nilsl)]) (St.mk [] [])) := by kernel_rfl

theorem slots_round (F m : Nat) (K : Cont) (z : Bool) (l s : List (List AV)) (i e : Int) :
    (loopRun (f17_l0.run F) [5, 13, 14, 15] K m.succ (Env.mk 28 [(5, .lg 0 1 s), (13, .ns z 1 l), (14, .int .i64 e), (15, .int .i64 i)]) ⟨[], [(1, s.length)]⟩ : Ans) =
    branch (AV.bool (decide (i < e)))
      (branch (AV.bool (inR l i))
        (branch (AV.bool ((LD.one (LT.ns 1)).is (V.rowAt l i)))
          (branch (AV.bool !nilA (V.rowAt l i))
            (if
                some (1, s.length) = some (1, s.length) ∧
                  (s.length + 1) * 8 ≤ 140737488355328 then
              loopRun (f17_l0.run F) [5, 13, 14, 15] K m
                (Env.mk 28
                  [(5, AV.lg 0 1 (s ++ [[AV.int IntKind.i64 i]])),
                    (13, AV.ns z 1 l), (14, AV.int IntKind.i64 e),
                    (15, AV.int IntKind.i64 (IntKind.i64.wrap (i + (1 : Int))))])
                (St.mk [] [(1, s.length + 1)])
            else none)
            (loopRun (f17_l0.run F) [5, 13, 14, 15] K m
              (Env.mk 28
                [(5, AV.lg 0 1 s), (13, AV.ns z 1 l),
                  (14, AV.int IntKind.i64 e), (15, AV.int IntKind.i64 (IntKind.i64.wrap (i + (1 : Int))))])
              (St.mk [] [(1, s.length)])))
          none)
        none)
      (K (AX.exit 0) (Env.mk 28 [(5, AV.lg 0 1 s)])
        (St.mk [] [(1, s.length)])) := by kernel_rfl

theorem slots_out (F : Nat) (x : AV) (st : St) :
    ((Cont.block 0 (Cont.then (f17_r0.run F (f17.leaveK Fun.done)) (f17.leaveK Fun.done))) (.exit 0) (Env.mk 28 [(5, x)]) st : Ans) =
    some (Fin.ret x, st) := by kernel_rfl

end Go.Proofs.Ytblliolkgkgppaa.V

/- Page: what is asked of a page, as callees. -/
set_option linter.unusedVariables false
namespace Go.Proofs.Ytblliolkgkgppaa.V
open Go Go.V Go.RowKit

theorem ofP_some {p : List Nat} {s : Sl} (h : ofP p = some s) : p.length = 256 ∧ decL ((p.take (1 + p.headD 0)).drop 1) 256 p = some s ∧ pgOk s = true ∧ pgB s = p ∧ trm s = true := by
  unfold ofP at h
  cases hl : p.length == 256 with
  | false => rw [hl] at h; cases h
  | true =>
    rw [hl] at h
    simp only [cond_true] at h
    split at h
    · rename_i t ht
      cases hf : fine t p with
      | false => rw [hf] at h; cases h
      | true =>
        rw [hf] at h
        simp only [cond_true, Option.some.injEq] at h
        subst h
        simp only [fine, Bool.and_eq_true, beq_iff_eq] at hf
        exact ⟨by simpa using hl, ht, hf.1, hf.2.1, hf.2.2⟩
    · cases h
theorem okSl_of {p : List Nat} (hp : ∀ b ∈ p, b < 256) {s : Sl} (h : ofP p = some s) : okSl s := by
  obtain ⟨h1, h2, h3, _⟩ := ofP_some h
  obtain ⟨m1, m2, m3⟩ := mem_decL h2
  obtain ⟨k1, k2⟩ := pgOk_iff.mp h3
  refine ⟨fun b hb => ⟨fun x hx => hp x (m3 b hb x hx), ?_⟩, by rw [szN] at k1; omega⟩
  have : b.length ≤ 200 := k2 _ hb
  omega
theorem okSl_nil : okSl [] := ⟨fun b hb => (by cases hb), by simp⟩
theorem okSl_ofS {p : List Nat} (hp : ∀ b ∈ p, b < 256) : okSl (ofS p) := by
  unfold ofS
  cases h : ofP p with
  | none => exact okSl_nil
  | some s => exact okSl_of hp h
theorem szN_ofS (p : List Nat) : szN (ofS p) ≤ 256 := by
  unfold ofS
  cases h : ofP p with
  | none => decide
  | some s => exact (pgOk_iff.mp (ofP_some h).2.2.1).1
theorem len_ofS (p : List Nat) : (ofS p).length ≤ 255 := by have := szN_ofS p; rw [szN] at this; omega
theorem ofA_eq (p : List Nat) : ofA p = sA (ofS p) := by rw [ofA, opq_eq]
theorem ofA_len (p : List Nat) : (ofA p).length = (ofS p).length := by rw [ofA_eq, sA_length]

/-- Bytes, or none. -/
noncomputable def oB (o : Option (List Nat)) : Bool := opq o.isSome
noncomputable def oR (o : Option (List Nat)) : List (List AV) := opq (bR (o.getD []))
noncomputable def oV (o : Option (List Nat)) : AV := .tup [.ns (!oB o) 1 (oR o), .bool (oB o)]
theorem oB_none : oB none = false := by rw [oB, opq_eq]; rfl
theorem oB_some (b : List Nat) : oB (some b) = true := by rw [oB, opq_eq]; rfl
theorem oR_none : oR none = [] := by rw [oR, opq_eq]; rfl
theorem oR_some (b : List Nat) : oR (some b) = bR b := by rw [oR, opq_eq]; rfl
theorem oV_none : Wk (.tup [.nilsl, .bool false]) (oV none) := by
  rw [oV, oB_none, oR_none]; exact .tup (.cons .nil (.cons (.refl _) .nil))
theorem oV_some {f : Bool} (b : List Nat) : Wk (.tup [.sl 1 f (bR b), .bool true]) (oV (some b)) := by
  rw [oV, oB_some, oR_some]; exact .tup (.cons .sl (.cons (.refl _) .nil))
def getP (s : Sl) (i : Int) : Option (List Nat) := if 0 ≤ i then (s[i.toNat]?).join else none
theorem rowA_at {s : Sl} {i : Nat} (h : i < s.length) : V.rowAt (sA s) (i : Int) = rowS s[i] := by
  rw [rowAt_nat (by rw [sA_length]; exact h)]; simp [sA]
noncomputable def p15 : POrc Try.prog := f15.farW
  (fun args k => match args with
    | [x, .int .i64 i] => onNs 1 x fun _ l => ifT (byOk l) (k (oV (getP (ofS (nR l)) i)))
    | _ => none)
  fun args k fin h => by
    split at h
    · rename_i x i
      obtain ⟨z, l, h, hx⟩ := onNs_spec h
      obtain ⟨h1, h⟩ := ifT_spec h
      have hb := byOk_iff.mp h1
      refine ⟨_, _, h, .cons hx (.cons (.refl _) .nil), ⟨okR_scoped hb.1, trivial, trivial⟩, 0, ?_⟩
      rw [get_run, branch_of h1]
      by_cases h0 : i < 0
      · refine ⟨_, ⟨[], []⟩, branch_of (by simpa using h0), ⟨trivial, trivial, trivial⟩, ?_⟩
        rw [show getP (ofS (nR l)) i = none by rw [getP, if_neg (by omega)]]
        exact oV_none
      · obtain ⟨n, rfl⟩ := Int.eq_ofNat_of_zero_le (by omega : 0 ≤ i)
        rw [branch_not (by simp)]
        by_cases hn : (ofS (nR l)).length ≤ n
        · refine ⟨_, ⟨[], []⟩, branch_of (by rw [ofA_len]; simpa using hn), ⟨trivial, trivial, trivial⟩, ?_⟩
          rw [show getP (ofS (nR l)) (n : Int) = none by rw [getP, if_pos (by omega), Int.toNat_natCast, List.getElem?_eq_none hn]; rfl]
          exact oV_none
        · have hlt : n < (ofS (nR l)).length := by omega
          have hg : getP (ofS (nR l)) (n : Int) = (ofS (nR l))[n] := by rw [getP, if_pos (by omega), Int.toNat_natCast, List.getElem?_eq_getElem hlt]; rfl
          have hi : inR (ofA (nR l)) (n : Int) = true := inR_nat (by rw [ofA_len]; exact hlt)
          have hr : V.rowAt (ofA (nR l)) (n : Int) = rowS (ofS (nR l))[n] := by rw [ofA_eq, rowA_at hlt]
          rw [branch_not (by rw [ofA_len]; simp; omega), branch_of hi, hr, hg]
          cases (ofS (nR l))[n] with
          | none => exact ⟨_, ⟨[], []⟩, rfl, ⟨trivial, trivial, trivial⟩, oV_none⟩
          | some b =>
            refine ⟨.tup [.ns false 1 (bR b), .bool true], ⟨[], []⟩, ?_, ⟨?_, trivial, trivial⟩, ?_⟩
            · rw [branch_of (show (LD.one (LT.ns 1)).is (rowS (some b)) = true from rfl), branch_not (show nilA (rowS (some b)) = false from rfl), branch_of hi, branch_of (show (LD.one (LT.ns 1)).is (rowS (some b)) = true from rfl)]
              rfl
            · simp only [hard]; rw [hardR_id _ _ (bR_scoped b)]; exact bR_scoped b
            · simp only [hard, hardL]
              rw [hardR_id _ _ (bR_scoped b), oV, oB_some, oR_some]
              exact .refl _
    · cases h
theorem p15_nat : p15.Nat := by
  intro args k
  show (match args with | [x, .int .i64 i] => _ | _ => _) = thenA (match args with | [x, .int .i64 i] => _ | _ => _) k
  split
  · exact onNs_nat fun _ _ => ifT_nat rfl
  · rfl
noncomputable def ofBo (p : List Nat) : Bool := opq (ofB p)
noncomputable def p16 : POrc Try.prog := f16.farN
  (fun args k => match args with
    | [x] => onNs 1 x fun _ l => ifT (byOk l) (k (.bool (ofBo (nR l))))
    | _ => none)
  fun args k fin h => by
    split at h
    · rename_i x
      obtain ⟨z, l, h, hx⟩ := onNs_spec h
      obtain ⟨h1, h⟩ := ifT_spec h
      exact ⟨_, _, h, .cons hx .nil, ⟨okR_scoped (byOk_iff.mp h1).1, trivial⟩, trivial, 0, .bool (ofBo (nR l)), ⟨[], []⟩, rfl, by rw [right_run, branch_of h1, ofBo, opq_eq]⟩
    · cases h
theorem p16_nat : p16.Nat := by
  intro args k
  show (match args with | [x] => _ | _ => _) = thenA (match args with | [x] => _ | _ => _) k
  split
  · exact onNs_nat fun _ _ => ifT_nat rfl
  · rfl

/-! ### Room -/
def roomI (s : Sl) : Int :=
  let m : Int := if s.any (·.isNone) then 0 else 1
  let n : Int := min (256 - (szN s : Int) - m) 200
  if n < 0 ∨ (250 < s.length ∧ 0 < m) then -1 else n
noncomputable def roomP (p : List Nat) : Int := opq (if ofB p then roomI (ofS p) else 0)
theorem any_free (s : Sl) : (sA s).any (prd 27) = s.any (·.isNone) := by
  rw [sA, List.any_map]
  congr 1
  funext o
  cases o <;> rfl
theorem leastI_min (a b : Int) : leastI false a b = min a b := by
  unfold leastI
  simp only
  split
  · rw [Int.min_eq_right (by omega)]
  · rw [Int.min_eq_left (by omega)]
noncomputable def p14 : POrc Try.prog := f14.farN
  (fun args k => match args with
    | [x] => onNs 1 x fun _ l => ifT (byOk l) (k (.int .i64 (roomP (nR l))))
    | _ => none)
  fun args k fin h => by
    split at h
    · rename_i x
      obtain ⟨z, l, h, hx⟩ := onNs_spec h
      obtain ⟨h1, h⟩ := ifT_spec h
      have hb := byOk_iff.mp h1
      refine ⟨_, _, h, .cons hx .nil, ⟨okR_scoped hb.1, trivial⟩, trivial, 0, .int .i64 (roomP (nR l)), ⟨[], []⟩, rfl, ?_⟩
      have hok : okS (ofA (nR l)) = true := by rw [ofA_eq]; exact okS_sA (okSl_ofS fun b hb' => okR_lt hb.1 hb')
      have hs := szN_ofS (nR l)
      have hz : szN (sR (ofA (nR l))) = szN (ofS (nR l)) := by rw [ofA_eq, sR_sA]
      have hf : (okS (ofA (nR l)) && fit (szN (sR (ofA (nR l))))) = true := by rw [hok, hz, Bool.true_and, fit_iff]; omega
      have w (c : Int) (hc : 0 ≤ c) (hc2 : c ≤ 1) : IntKind.i64.wrap (IntKind.i64.wrap ((256 : Int) - (szN (ofS (nR l)) : Int)) - c) = 256 - (szN (ofS (nR l)) : Int) - c := by
        rw [wrapS (n := 256 - (szN (ofS (nR l)) : Int)) (by omega) (by omega), wrapS (by omega) (by omega)]
      rw [room_run, branch_of h1, roomP, opq_eq]
      cases hB : ofB (nR l) with
      | false => rw [branch_of (b := !false) rfl]; rfl
      | true =>
        rw [branch_not (b := !true) rfl, branch_of (by rw [hok]; rfl), if_pos rfl, roomI, hz, ofA_len]
        rw [show (ofA (nR l)).any (prd (27 : FuncId)) = (ofS (nR l)).any (·.isNone) by rw [ofA_eq]; exact any_free _]
        rw [hz] at hf
        cases (ofS (nR l)).any (·.isNone) with
        | true =>
          rw [branch_true, branch_of hf, w 0 (by omega) (by omega), leastI_min]
          simp only [if_true]
          by_cases hn : min (256 - (szN (ofS (nR l)) : Int) - 0) 200 < 0
          · rw [branch_of (by simpa using hn), if_pos (.inl hn)]
          · rw [branch_not (by simpa using hn), if_neg (by omega), branch_ite]
            split <;> rfl
        | false =>
          rw [branch_false, branch_of hf, w 1 (by omega) (by omega), leastI_min]
          simp only [Bool.false_eq_true, if_false]
          by_cases hn : min (256 - (szN (ofS (nR l)) : Int) - 1) 200 < 0
          · rw [branch_of (by simpa using hn), if_pos (.inl hn)]
          · rw [branch_not (by simpa using hn)]
            by_cases h2 : 250 < (ofS (nR l)).length
            · rw [branch_of (by simp; omega), if_pos (.inr ⟨h2, by omega⟩)]
            · rw [branch_not (by simp; omega), if_neg (by omega)]
    · cases h
theorem p14_nat : p14.Nat := by
  intro args k
  show (match args with | [x] => _ | _ => _) = thenA (match args with | [x] => _ | _ => _) k
  split
  · exact onNs_nat fun _ _ => ifT_nat rfl
  · rfl

/-! ### Slots -/
def slotsI : Sl → Nat → List Nat
  | [], _ => []
  | none :: s, i => slotsI s (i + 1)
  | some _ :: s, i => i :: slotsI s (i + 1)
/-- Numbers as rows. -/
def iR (l : List Nat) : List (List AV) := l.map fun (n : Nat) => [.int .i64 (n : Int)]
theorem iR_append (a b : List Nat) : iR (a ++ b) = iR a ++ iR b := by simp [iR]
theorem iR_length (a : List Nat) : (iR a).length = a.length := by simp [iR]
theorem iR_scoped {n m : Nat} (l : List Nat) : ScopedR n m (iR l) := by
  induction l with
  | nil => trivial
  | cons x l ih => exact ⟨⟨trivial, trivial⟩, ih⟩
def iV (l : List Nat) : AV := match l with
  | [] => .nilsl
  | _ => .lg 0 1 (iR l)
def iT (l : List Nat) : List (Nat × Nat) := match l with
  | [] => []
  | _ => [(1, (iR l).length)]
theorem iV_snoc (l : List Nat) (x : Nat) : iV (l ++ [x]) = .lg 0 1 (iR l ++ [[.int .i64 (x : Int)]]) ∧ iT (l ++ [x]) = [(1, (iR l).length + 1)] := by
  cases l <;> simp [iV, iT, iR]
theorem slots_loop (F : Nat) (z : Bool) (s : Sl) (hs : s.length ≤ 255) : ∀ (k m i : Nat) (l : List Nat), i + k = s.length → k < m → l.length ≤ i →
    loopRun (f17_l0.run F) [5, 13, 14, 15] (Cont.block 0 (Cont.then (f17_r0.run F (f17.leaveK Fun.done)) (f17.leaveK Fun.done))) m (Env.mk 28 [(5, iV l), (13, .ns z 1 (sA s)), (14, .int .i64 (s.length : Int)), (15, .int .i64 (i : Int))]) ⟨[], iT l⟩
      = some (.ret (iV (l ++ slotsI (s.drop i) i)), ⟨[], iT (l ++ slotsI (s.drop i) i)⟩)
  | k, 0, i, l, hi, hm, hl => by omega
  | 0, m + 1, i, l, hi, hm, hl => by
    rw [List.drop_eq_nil_of_le (by omega), slotsI, List.append_nil]
    cases l with
    | nil => simp only [iV, iT]; rw [show m + 1 = m.succ from rfl, slots_round0, branch_not (by simp; omega), slots_out]
    | cons x l => simp only [iV, iT]; rw [show m + 1 = m.succ from rfl, slots_round, branch_not (by simp; omega), slots_out]
  | k + 1, m + 1, i, l, hi, hm, hl => by
    have h1 : i < s.length := by omega
    have hin : inR (sA s) (i : Int) = true := inR_nat (by rw [sA_length]; exact h1)
    have w0 : IntKind.i64.wrap ((i : Int) + 1) = ((i + 1 : Nat) : Int) := wrap_succ (by omega)
    rw [drop_at h1]
    have hrow := rowA_at h1
    obtain ⟨n1, n2⟩ := iV_snoc l i
    cases ho : s[i] with
    | none =>
      rw [ho] at hrow
      rw [slotsI, ← slots_loop F z s hs k m (i + 1) l (by omega) (by omega) (by omega)]
      cases l with
      | nil => simp only [iV, iT]; rw [show m + 1 = m.succ from rfl, slots_round0, branch_of (by simpa using h1), branch_of hin, hrow, w0]; rfl
      | cons x l => simp only [iV, iT]; rw [show m + 1 = m.succ from rfl, slots_round, branch_of (by simpa using h1), branch_of hin, hrow, w0]; rfl
    | some b =>
      rw [ho] at hrow
      have ih := slots_loop F z s hs k m (i + 1) (l ++ [i]) (by omega) (by omega) (by rw [List.length_append, List.length_singleton]; omega)
      rw [List.append_assoc, List.singleton_append] at ih
      rw [slotsI, ← ih, n1, n2]
      cases l with
      | nil => simp only [iV, iT]; rw [show m + 1 = m.succ from rfl, slots_round0, branch_of (by simpa using h1), branch_of hin, hrow, w0]; rfl
      | cons x l =>
        simp only [iV, iT]
        rw [show m + 1 = m.succ from rfl, slots_round, branch_of (by simpa using h1), branch_of hin, hrow, w0, if_pos ⟨rfl, by rw [iR_length]; omega⟩]
        rfl
noncomputable def slotsA (p : List Nat) : List (List AV) := opq (iR (slotsI (ofS p) 0))
noncomputable def slotsE (p : List Nat) : Bool := opq (slotsI (ofS p) 0).isEmpty
noncomputable def p17 : POrc Try.prog := f17.farW
  (fun args k => match args with
    | [x] => onNs 1 x fun _ l => ifT (byOk l) (k (.ns (slotsE (nR l)) 1 (slotsA (nR l))))
    | _ => none)
  fun args k fin h => by
    split at h
    · rename_i x
      obtain ⟨z, l, h, hx⟩ := onNs_spec h
      obtain ⟨h1, h⟩ := ifT_spec h
      have hl := slots_loop 300 (ofS (nR l)).isEmpty (ofS (nR l)) (len_ofS _) (ofS (nR l)).length 300 0 [] (by omega) (by have := len_ofS (nR l); omega) (by simp)
      rw [List.drop_zero, List.nil_append] at hl
      refine ⟨_, _, h, .cons hx .nil, ⟨okR_scoped (byOk_iff.mp h1).1, trivial⟩, 300, iV (slotsI (ofS (nR l)) 0), ⟨[], iT (slotsI (ofS (nR l)) 0)⟩, ?_, ?_, ?_⟩
      · rw [slots_run, branch_of h1, ofA_len, ofA_eq]
        exact hl
      · cases slotsI (ofS (nR l)) 0 with
        | nil => exact trivial
        | cons x s => simp only [iV, hard]; rw [hardR_id _ _ (iR_scoped _)]; exact iR_scoped _
      · rw [slotsE, slotsA, opq_eq, opq_eq]
        cases slotsI (ofS (nR l)) 0 with
        | nil => exact .nil
        | cons x s => simp only [iV, hard]; rw [hardR_id _ _ (iR_scoped _)]; exact .sl
    · cases h
theorem p17_nat : p17.Nat := by
  intro args k
  show (match args with | [x] => _ | _ => _) = thenA (match args with | [x] => _ | _ => _) k
  split
  · exact onNs_nat fun _ _ => ifT_nat rfl
  · rfl
end Go.Proofs.Ytblliolkgkgppaa.V

/- The functions' pieces, as told by gen.py. -/
set_option linter.unusedVariables false
set_option maxRecDepth 20000
namespace Go.Proofs.Ytblliolkgkgppaa.V
open Go Go.V Go.RowKit


/-! ### 11: interlock/page.Put (25, 3, 25); results 6, 7; slots: 0 p, 1 slot, 2 b, 3 p, 4 slot, 5 b, 8 s, 9 ok -/
noncomputable def f11_b : Sim Try.prog :=
  (.seq (.live [0, 1, 2] (.region 0 [
    ⟨(opAssign (some 6) (.const (Value.slice none 0 0)) 25 "page.go:109" #[]).op, none⟩,
    ⟨(opAssign (some 7) (.const (Value.bool false)) 4 "page.go:109" #[{ on := 0, ground := Ground.chain }]).op, none⟩
  ] (by kernel_rfl)))
  (.seq (.live [1, 2, 8, 9] (.region 1 [
    ⟨(opMove (some 11) (.tmp 0) 25 "page.go:110" #[]).op, none⟩,
    ⟨opCall (o21).orc (some 12) [(.tmp 11)] #[25] 45 "page.go:110" #[{ on := 0, ground := Ground.data }], none⟩,
    ⟨(opMove (some 10) (.tmp 12) 45 "page.go:110" #[{ on := 1, ground := Ground.data }]).op, none⟩,
    ⟨(opExtract (some 13) (.tmp 10) 0 44 "page.go:110" #[{ on := 2, ground := Ground.data }]).op, none⟩,
    ⟨(opExtract (some 14) (.tmp 10) 1 4 "page.go:110" #[{ on := 2, ground := Ground.data }, { on := 5, ground := (Ground.gcOnly Departure.lateStores) }]).op, none⟩,
    ⟨(opAssign (some 8) (.tmp 13) 44 "page.go:110" #[{ on := 3, ground := Ground.data }, { on := 1, ground := Ground.chain }, { on := 0, ground := Ground.phase }, { on := 1, ground := Ground.phase }, { on := 2, ground := Ground.phase }, { on := 3, ground := Ground.phase }, { on := 4, ground := (Ground.textOnly Departure.lateStores) }]).op, none⟩,
    ⟨(opAssign (some 9) (.tmp 14) 4 "page.go:110" #[{ on := 4, ground := Ground.data }, { on := 5, ground := Ground.chain }, { on := 0, ground := Ground.phase }, { on := 1, ground := Ground.phase }, { on := 2, ground := Ground.phase }, { on := 3, ground := Ground.phase }, { on := 4, ground := Ground.phase }, { on := 5, ground := Ground.phase }]).op, none⟩
  ] (by kernel_rfl)))
  (.seq (.seq (.live [1, 2, 8, 24] (.region 2 [
    ⟨(opMove (some 15) (.tmp 9) 4 "page.go:111" #[]).op, none⟩,
    ⟨(opNot (some 16) 4 (.tmp 15) 4 "page.go:111" #[{ on := 0, ground := Ground.data }]).op, none⟩,
    ⟨(opMove (some 17) (.tmp 16) 4 "page.go:111" #[{ on := 1, ground := Ground.data }]).op, none⟩,
    ⟨(opMove (some 18) (.tmp 1) 3 "page.go:111" #[{ on := 2, ground := Ground.guard }]).op, (some (2, 17, false))⟩,
    ⟨(opBin (some 19) .lss 3 (.tmp 18) (.const (Value.int IntKind.i64 0)) 3 4 "page.go:111" #[{ on := 3, ground := Ground.data }, { on := 2, ground := Ground.guard }]).op, (some (2, 17, false))⟩,
    ⟨(opPick (some 20) (.tmp 17) (.const (Value.bool true)) (.tmp 19) 4 "page.go:111" #[{ on := 2, ground := Ground.data }, { on := 4, ground := Ground.data }]).op, none⟩,
    ⟨(opMove (some 21) (.tmp 20) 4 "page.go:111" #[{ on := 5, ground := Ground.data }, { on := 2, ground := Ground.chain }]).op, none⟩,
    ⟨(opMove (some 22) (.tmp 1) 3 "page.go:111" #[{ on := 6, ground := Ground.guard }]).op, (some (6, 21, false))⟩,
    ⟨(opBin (some 23) .gtr 3 (.tmp 22) (.const (Value.int IntKind.i64 250)) 3 4 "page.go:111" #[{ on := 7, ground := Ground.data }, { on := 6, ground := Ground.guard }]).op, (some (6, 21, false))⟩,
    ⟨(opPick (some 24) (.tmp 21) (.const (Value.bool true)) (.tmp 23) 4 "page.go:111" #[{ on := 6, ground := Ground.data }, { on := 8, ground := Ground.data }]).op, none⟩
  ] (by kernel_rfl)))
  (.cond (.tmp 24)
    (.seq (.live [6, 7] (.region 3 [
      ⟨(opAssign (some 6) (.const (Value.slice none 0 0)) 25 "page.go:112" #[]).op, none⟩,
      ⟨(opAssign (some 7) (.const (Value.bool false)) 4 "page.go:112" #[{ on := 0, ground := Ground.chain }, { on := 0, ground := Ground.phase }]).op, none⟩
    ] (by kernel_rfl)))
    (.live [6, 7] .ret))
    .skip))
  (.seq (.live [6, 7] (.region 4 [
    ⟨(opMove (some 25) (.tmp 8) 44 "page.go:114" #[]).op, none⟩,
    ⟨(opMove (some 26) (.tmp 1) 3 "page.go:114" #[]).op, none⟩,
    ⟨(opBuildSlice (some 27) 25 0 [] 5 1 1 (.int .u8 0) el25 (by kernel_rfl) (by decide) 25 "page.go:114" #[]).op, none⟩,
    ⟨(opMove (some 28) (.tmp 2) 25 "page.go:114" #[]).op, none⟩,
    ⟨(opAppendF (some 29) (.tmp 27) (.tmp 28) 25 25 5 1 1 (.int .u8 0) el25 (.slice 5) Try.underlying25 rfl 25 "page.go:114" #[{ on := 2, ground := Ground.data }, { on := 3, ground := Ground.data }]).op, none⟩,
    ⟨opCall (o22).orc (some 30) [(.tmp 25), (.tmp 26), (.tmp 29)] #[44, 3, 25] 44 "page.go:114" #[{ on := 0, ground := Ground.data }, { on := 1, ground := Ground.data }, { on := 4, ground := Ground.data }, { on := 4, ground := Ground.chain }], none⟩,
    ⟨(opCallQ q23 (some 31) [(.tmp 30)] #[44] 30 "page.go:114" #[{ on := 5, ground := Ground.data }, { on := 5, ground := Ground.chain }]).op, none⟩,
    ⟨(opExtract (some 32) (.tmp 31) 0 25 "page.go:114" #[{ on := 6, ground := Ground.data }]).op, none⟩,
    ⟨(opExtract (some 33) (.tmp 31) 1 4 "page.go:114" #[{ on := 6, ground := Ground.data }]).op, none⟩,
    ⟨(opAssign (some 6) (.tmp 32) 25 "page.go:114" #[{ on := 7, ground := Ground.data }, { on := 6, ground := Ground.chain }, { on := 0, ground := Ground.phase }, { on := 1, ground := Ground.phase }, { on := 2, ground := Ground.phase }, { on := 3, ground := Ground.phase }, { on := 4, ground := Ground.phase }, { on := 5, ground := Ground.phase }, { on := 6, ground := Ground.phase }, { on := 7, ground := Ground.phase }, { on := 8, ground := Ground.phase }]).op, none⟩,
    ⟨(opAssign (some 7) (.tmp 33) 4 "page.go:114" #[{ on := 8, ground := Ground.data }, { on := 9, ground := Ground.chain }, { on := 0, ground := Ground.phase }, { on := 1, ground := Ground.phase }, { on := 2, ground := Ground.phase }, { on := 3, ground := Ground.phase }, { on := 4, ground := Ground.phase }, { on := 5, ground := Ground.phase }, { on := 6, ground := Ground.phase }, { on := 7, ground := Ground.phase }, { on := 8, ground := Ground.phase }, { on := 9, ground := Ground.phase }]).op, none⟩
  ] (by kernel_rfl)))
  (.live [6, 7] .ret)))))

noncomputable def f11 : Fun Try.prog where
  id := 11
  fn := Try.f11
  hf := Try.func11
  hname := by kernel_rfl
  body := f11_b
  hbody := by kernel_rfl
  res := [rTmp 6, rTmp 7]
  hres := by kernel_rfl
  n := 34
  hn := by kernel_rfl

/-! ### 18: interlock/page.Cut (25, 3); results 4, 5; slots: 0 p, 1 slot, 2 p, 3 slot, 6 _, 7 ok, 8 s, 9 _ -/
noncomputable def f18_b : Sim Try.prog :=
  (.seq (.live [0, 1] (.region 0 [
    ⟨(opAssign (some 4) (.const (Value.slice none 0 0)) 25 "page.go:135" #[]).op, none⟩,
    ⟨(opAssign (some 5) (.const (Value.bool false)) 4 "page.go:135" #[{ on := 0, ground := Ground.chain }]).op, none⟩
  ] (by kernel_rfl)))
  (.seq (.seq (.live [0, 1, 7] (.region 1 [
    ⟨(opMove (some 11) (.tmp 0) 25 "page.go:136" #[]).op, none⟩,
    ⟨(opMove (some 12) (.tmp 1) 3 "page.go:136" #[]).op, none⟩,
    ⟨(opCallP p15 (some 13) [(.tmp 11), (.tmp 12)] #[25, 3] 30 "page.go:136" #[{ on := 0, ground := Ground.data }, { on := 1, ground := Ground.data }]).op, none⟩,
    ⟨(opMove (some 10) (.tmp 13) 30 "page.go:136" #[{ on := 2, ground := Ground.data }]).op, none⟩,
    ⟨(opExtract (some 14) (.tmp 10) 0 25 "page.go:136" #[{ on := 3, ground := Ground.data }]).op, none⟩,
    ⟨(opExtract (some 15) (.tmp 10) 1 4 "page.go:136" #[{ on := 3, ground := Ground.data }, { on := 6, ground := (Ground.gcOnly Departure.lateStores) }]).op, none⟩,
    ⟨(opAssign (some 6) (.tmp 14) 25 "page.go:136" #[{ on := 4, ground := Ground.data }, { on := 2, ground := Ground.chain }, { on := 0, ground := Ground.phase }, { on := 1, ground := Ground.phase }, { on := 2, ground := Ground.phase }, { on := 3, ground := Ground.phase }, { on := 4, ground := Ground.phase }, { on := 5, ground := (Ground.textOnly Departure.lateStores) }]).op, none⟩,
    ⟨(opAssign (some 7) (.tmp 15) 4 "page.go:136" #[{ on := 5, ground := Ground.data }, { on := 6, ground := Ground.chain }, { on := 0, ground := Ground.phase }, { on := 1, ground := Ground.phase }, { on := 2, ground := Ground.phase }, { on := 3, ground := Ground.phase }, { on := 4, ground := Ground.phase }, { on := 5, ground := Ground.phase }, { on := 6, ground := Ground.phase }]).op, none⟩
  ] (by kernel_rfl)))
  (.seq (.live [0, 1, 17] (.region 2 [
    ⟨(opMove (some 16) (.tmp 7) 4 "page.go:136" #[]).op, none⟩,
    ⟨(opNot (some 17) 4 (.tmp 16) 4 "page.go:136" #[{ on := 0, ground := Ground.data }]).op, none⟩
  ] (by kernel_rfl)))
  (.cond (.tmp 17)
    (.seq (.live [4, 5] (.region 3 [
      ⟨(opAssign (some 4) (.const (Value.slice none 0 0)) 25 "page.go:137" #[]).op, none⟩,
      ⟨(opAssign (some 5) (.const (Value.bool false)) 4 "page.go:137" #[{ on := 0, ground := Ground.chain }, { on := 0, ground := Ground.phase }]).op, none⟩
    ] (by kernel_rfl)))
    (.live [4, 5] .ret))
    .skip)))
  (.seq (.live [1, 8] (.region 4 [
    ⟨(opMove (some 19) (.tmp 0) 25 "page.go:139" #[]).op, none⟩,
    ⟨opCall (o21).orc (some 20) [(.tmp 19)] #[25] 45 "page.go:139" #[{ on := 0, ground := Ground.data }], none⟩,
    ⟨(opMove (some 18) (.tmp 20) 45 "page.go:139" #[{ on := 1, ground := Ground.data }]).op, none⟩,
    ⟨(opExtract (some 21) (.tmp 18) 0 44 "page.go:139" #[{ on := 2, ground := Ground.data }]).op, none⟩,
    ⟨(opExtract (some 22) (.tmp 18) 1 4 "page.go:139" #[{ on := 2, ground := Ground.data }, { on := 5, ground := (Ground.gcOnly Departure.lateStores) }]).op, none⟩,
    ⟨(opAssign (some 8) (.tmp 21) 44 "page.go:139" #[{ on := 3, ground := Ground.data }, { on := 1, ground := Ground.chain }, { on := 0, ground := Ground.phase }, { on := 1, ground := Ground.phase }, { on := 2, ground := Ground.phase }, { on := 3, ground := Ground.phase }, { on := 4, ground := (Ground.textOnly Departure.lateStores) }]).op, none⟩,
    ⟨(opAssign (some 9) (.tmp 22) 4 "page.go:139" #[{ on := 4, ground := Ground.data }, { on := 5, ground := Ground.chain }, { on := 0, ground := Ground.phase }, { on := 1, ground := Ground.phase }, { on := 2, ground := Ground.phase }, { on := 3, ground := Ground.phase }, { on := 4, ground := Ground.phase }, { on := 5, ground := Ground.phase }]).op, none⟩
  ] (by kernel_rfl)))
  (.seq (.live [4, 5] (.region 5 [
    ⟨(opMove (some 23) (.tmp 8) 44 "page.go:140" #[]).op, none⟩,
    ⟨(opMove (some 24) (.tmp 1) 3 "page.go:140" #[]).op, none⟩,
    ⟨opCall (o22).orc (some 25) [(.tmp 23), (.tmp 24), (.const (Value.slice none 0 0))] #[44, 3, 25] 44 "page.go:140" #[{ on := 0, ground := Ground.data }, { on := 1, ground := Ground.data }], none⟩,
    ⟨(opCallQ q23 (some 26) [(.tmp 25)] #[44] 30 "page.go:140" #[{ on := 2, ground := Ground.data }, { on := 2, ground := Ground.chain }]).op, none⟩,
    ⟨(opExtract (some 27) (.tmp 26) 0 25 "page.go:140" #[{ on := 3, ground := Ground.data }]).op, none⟩,
    ⟨(opExtract (some 28) (.tmp 26) 1 4 "page.go:140" #[{ on := 3, ground := Ground.data }]).op, none⟩,
    ⟨(opAssign (some 4) (.tmp 27) 25 "page.go:140" #[{ on := 4, ground := Ground.data }, { on := 3, ground := Ground.chain }, { on := 0, ground := Ground.phase }, { on := 1, ground := Ground.phase }, { on := 2, ground := Ground.phase }, { on := 3, ground := Ground.phase }, { on := 4, ground := Ground.phase }, { on := 5, ground := Ground.phase }]).op, none⟩,
    ⟨(opAssign (some 5) (.tmp 28) 4 "page.go:140" #[{ on := 5, ground := Ground.data }, { on := 6, ground := Ground.chain }, { on := 0, ground := Ground.phase }, { on := 1, ground := Ground.phase }, { on := 2, ground := Ground.phase }, { on := 3, ground := Ground.phase }, { on := 4, ground := Ground.phase }, { on := 5, ground := Ground.phase }, { on := 6, ground := Ground.phase }]).op, none⟩
  ] (by kernel_rfl)))
  (.live [4, 5] .ret)))))

noncomputable def f18 : Fun Try.prog where
  id := 18
  fn := Try.f18
  hf := Try.func18
  hname := by kernel_rfl
  body := f18_b
  hbody := by kernel_rfl
  res := [rTmp 4, rTmp 5]
  hres := by kernel_rfl
  n := 29
  hn := by kernel_rfl

end Go.Proofs.Ytblliolkgkgppaa.V

/- What the functions' runs come to; the right sides were printed by a tool, Lean checks them. -/
set_option linter.unusedVariables false
set_option maxRecDepth 100000
namespace Go.Proofs.Ytblliolkgkgppaa.V
open Go Go.V Go.RowKit

theorem put_run (F : Nat) (z y : Bool) (l r : List (List AV)) (i : Int) :
    (f11.run F [.ns z 1 l, .int .i64 i, .ns y 1 r] ⟨[], []⟩ : Ans) =
    branch (AV.bool (byOk l))
      (branch (AV.bool (ofO (nR l)))
        (branch (AV.bool (ofE (nR l)))
          (branch (AV.bool (decide (i < (0 : Int)))) (some (Fin.ret (AV.tup [AV.nilsl, AV.bool false]), St.mk [] []))
            (branch (AV.bool (decide (i > (250 : Int)))) (some (Fin.ret (AV.tup [AV.nilsl, AV.bool false]), St.mk [] []))
              (branch (AV.bool (true && apOk r.length 1))
                (branch (AV.bool (cdec ((0 : Int) ≤ i ∧ i ≤ (1000 : Int)) && okB (AV.sl 1 false r)))
                  (branch
                    (AV.bool
                      (i.toNat.beq i.toNat &&
                        inC (wC [] i.toNat (AV.sl 1 false r)) 0
                          (mulN (wN [] i.toNat (AV.sl 1 false r)) 1)))
                    (branch
                      (AV.bool
                        (okS
                            (rowsC 1 (wN [] i.toNat (AV.sl 1 false r))
                              (wC [] i.toNat (AV.sl 1 false r)) 0) &&
                          fit
                            (szN
                              (sR
                                (rowsC 1 (wN [] i.toNat (AV.sl 1 false r))
                                  (wC [] i.toNat (AV.sl 1 false r)) 0)))))
                      (some
                        (Fin.ret
                            (AV.tup
                              [AV.ns
                                  (!pgOk
                                      (sR
                                        (rowsC 1 (wN [] i.toNat (AV.sl 1 false r))
                                          (wC [] i.toNat (AV.sl 1 false r)) 0)))
                                  1
                                  (pgR
                                    (rowsC 1 (wN [] i.toNat (AV.sl 1 false r))
                                      (wC [] i.toNat (AV.sl 1 false r)) 0)),
                                AV.bool
                                  (pgOk
                                    (sR
                                      (rowsC 1 (wN [] i.toNat (AV.sl 1 false r))
                                        (wC [] i.toNat (AV.sl 1 false r)) 0)))]),
                          St.mk [Ob.vec i.toNat (wC [] i.toNat (AV.sl 1 false r))] []))
                      none)
                    none)
                  none)
                none)))
          (branch (AV.bool (decide (i < (0 : Int))))
            (some (Fin.ret (AV.tup [AV.nilsl, AV.bool false]), St.mk [Ob.vec (ofN (nR l)) (ofC (nR l))] []))
            (branch (AV.bool (decide (i > (250 : Int))))
              (some (Fin.ret (AV.tup [AV.nilsl, AV.bool false]), St.mk [Ob.vec (ofN (nR l)) (ofC (nR l))] []))
              (branch (AV.bool (true && apOk r.length 1))
                (branch
                  (AV.bool
                    ((ofN (nR l)).beq (ofN (nR l)) &&
                      (cdec (ofN (nR l) + 1 = (ofC (nR l)).length) &&
                        (cdec ((0 : Int) ≤ i ∧ i ≤ (1000 : Int)) && (okW (ofC (nR l)) && okB (AV.sl 1 false r))))))
                  (branch
                    (AV.bool
                      ((wV (ofN (nR l)) (ofC (nR l)) i.toNat).beq (wV (ofN (nR l)) (ofC (nR l)) i.toNat) &&
                        inC (wC (ofC (nR l)) i.toNat (AV.sl 1 false r)) 0
                          (mulN (wN (ofC (nR l)) i.toNat (AV.sl 1 false r)) 1)))
                    (branch
                      (AV.bool
                        (okS
                            (rowsC 1 (wN (ofC (nR l)) i.toNat (AV.sl 1 false r))
                              (wC (ofC (nR l)) i.toNat (AV.sl 1 false r)) 0) &&
                          fit
                            (szN
                              (sR
                                (rowsC 1 (wN (ofC (nR l)) i.toNat (AV.sl 1 false r))
                                  (wC (ofC (nR l)) i.toNat (AV.sl 1 false r)) 0)))))
                      (some
                        (Fin.ret
                            (AV.tup
                              [AV.ns
                                  (!pgOk
                                      (sR
                                        (rowsC 1 (wN (ofC (nR l)) i.toNat (AV.sl 1 false r))
                                          (wC (ofC (nR l)) i.toNat (AV.sl 1 false r)) 0)))
                                  1
                                  (pgR
                                    (rowsC 1 (wN (ofC (nR l)) i.toNat (AV.sl 1 false r))
                                      (wC (ofC (nR l)) i.toNat (AV.sl 1 false r)) 0)),
                                AV.bool
                                  (pgOk
                                    (sR
                                      (rowsC 1 (wN (ofC (nR l)) i.toNat (AV.sl 1 false r))
                                        (wC (ofC (nR l)) i.toNat (AV.sl 1 false r)) 0)))]),
                          St.mk
                            [Ob.vec (wV (ofN (nR l)) (ofC (nR l)) i.toNat)
                                (wC (ofC (nR l)) i.toNat (AV.sl 1 false r))]
                            []))
                      none)
                    none)
                  none)
                none))))
        (some (Fin.ret (AV.tup [AV.nilsl, AV.bool false]), St.mk [] [])))
      none := by kernel_rfl

theorem cut_run (F : Nat) (z : Bool) (l : List (List AV)) (i : Int) :
    (f18.run F [.ns z 1 l, .int .i64 i] ⟨[], []⟩ : Ans) =
    branch (AV.bool (byOk l))
      (branch (AV.bool !oB (getP (ofS (nR l)) i)) (some (Fin.ret (AV.tup [AV.nilsl, AV.bool false]), St.mk [] []))
        (branch (AV.bool (byOk l))
          (branch (AV.bool (ofO (nR l)))
            (branch (AV.bool (ofE (nR l)))
              (branch (AV.bool (cdec ((0 : Int) ≤ i ∧ i ≤ (1000 : Int)) && true))
                (branch
                  (AV.bool
                    (i.toNat.beq i.toNat &&
                      inC (wC [] i.toNat AV.nilsl) 0 (mulN (wN [] i.toNat AV.nilsl) 1)))
                  (branch
                    (AV.bool
                      (okS (rowsC 1 (wN [] i.toNat AV.nilsl) (wC [] i.toNat AV.nilsl) 0) &&
                        fit (szN (sR (rowsC 1 (wN [] i.toNat AV.nilsl) (wC [] i.toNat AV.nilsl) 0)))))
                    (some
                      (Fin.ret
                          (AV.tup
                            [AV.ns
                                (!pgOk (sR (rowsC 1 (wN [] i.toNat AV.nilsl) (wC [] i.toNat AV.nilsl) 0)))
                                1
                                (pgR (rowsC 1 (wN [] i.toNat AV.nilsl) (wC [] i.toNat AV.nilsl) 0)),
                              AV.bool
                                (pgOk (sR (rowsC 1 (wN [] i.toNat AV.nilsl) (wC [] i.toNat AV.nilsl) 0)))]),
                        St.mk [Ob.vec i.toNat (wC [] i.toNat AV.nilsl)] []))
                    none)
                  none)
                none)
              (branch
                (AV.bool
                  ((ofN (nR l)).beq (ofN (nR l)) &&
                    (cdec (ofN (nR l) + 1 = (ofC (nR l)).length) &&
                      (cdec ((0 : Int) ≤ i ∧ i ≤ (1000 : Int)) && (okW (ofC (nR l)) && true)))))
                (branch
                  (AV.bool
                    ((wV (ofN (nR l)) (ofC (nR l)) i.toNat).beq (wV (ofN (nR l)) (ofC (nR l)) i.toNat) &&
                      inC (wC (ofC (nR l)) i.toNat AV.nilsl) 0 (mulN (wN (ofC (nR l)) i.toNat AV.nilsl) 1)))
                  (branch
                    (AV.bool
                      (okS
                          (rowsC 1 (wN (ofC (nR l)) i.toNat AV.nilsl) (wC (ofC (nR l)) i.toNat AV.nilsl)
                            0) &&
                        fit
                          (szN
                            (sR
                              (rowsC 1 (wN (ofC (nR l)) i.toNat AV.nilsl) (wC (ofC (nR l)) i.toNat AV.nilsl)
                                0)))))
                    (some
                      (Fin.ret
                          (AV.tup
                            [AV.ns
                                (!pgOk
                                    (sR
                                      (rowsC 1 (wN (ofC (nR l)) i.toNat AV.nilsl) (wC (ofC (nR l)) i.toNat AV.nilsl)
                                        0)))
                                1
                                (pgR
                                  (rowsC 1 (wN (ofC (nR l)) i.toNat AV.nilsl) (wC (ofC (nR l)) i.toNat AV.nilsl)
                                    0)),
                              AV.bool
                                (pgOk
                                  (sR
                                    (rowsC 1 (wN (ofC (nR l)) i.toNat AV.nilsl) (wC (ofC (nR l)) i.toNat AV.nilsl)
                                      0)))]),
                        St.mk [Ob.vec (wV (ofN (nR l)) (ofC (nR l)) i.toNat) (wC (ofC (nR l)) i.toNat AV.nilsl)] []))
                    none)
                  none)
                none))
            (branch (AV.bool (cdec ((0 : Int) ≤ i ∧ i ≤ (1000 : Int)) && true))
              (branch
                (AV.bool
                  (i.toNat.beq i.toNat && inC (wC [] i.toNat AV.nilsl) 0 (mulN (wN [] i.toNat AV.nilsl) 1)))
                (branch
                  (AV.bool
                    (okS (rowsC 1 (wN [] i.toNat AV.nilsl) (wC [] i.toNat AV.nilsl) 0) &&
                      fit (szN (sR (rowsC 1 (wN [] i.toNat AV.nilsl) (wC [] i.toNat AV.nilsl) 0)))))
                  (some
                    (Fin.ret
                        (AV.tup
                          [AV.ns (!pgOk (sR (rowsC 1 (wN [] i.toNat AV.nilsl) (wC [] i.toNat AV.nilsl) 0)))
                              1 (pgR (rowsC 1 (wN [] i.toNat AV.nilsl) (wC [] i.toNat AV.nilsl) 0)),
                            AV.bool
                              (pgOk (sR (rowsC 1 (wN [] i.toNat AV.nilsl) (wC [] i.toNat AV.nilsl) 0)))]),
                      St.mk [Ob.vec i.toNat (wC [] i.toNat AV.nilsl)] []))
                  none)
                none)
              none))
          none))
      none := by kernel_rfl

end Go.Proofs.Ytblliolkgkgppaa.V

/- Page: what makes pages of pages, as callees. -/
set_option linter.unusedVariables false
namespace Go.Proofs.Ytblliolkgkgppaa.V
open Go Go.V Go.RowKit

def padS (s : Sl) (m : Nat) : Sl := s ++ List.replicate (m - s.length) none
def trS (s : Sl) : Sl := (s.reverse.dropWhile (·.isNone)).reverse
/-- Slots of which one has bytes, or none. -/
def withS (s : Sl) (k : Nat) (o : Option (List Nat)) : Sl := trS ((padS s (k + 1)).set k o)
def toP (s : Sl) : Option (List Nat) := if pgOk s then some (pgB s) else none
theorem padC_sC (s : Sl) (m : Nat) : padC (sC s) m = sC (padS s m) := by
  rw [padC, padS, sC_append, sC_length]
  congr 1
  simp [sC, cellS]
theorem set_sC (s : Sl) (k : Nat) (o : Option (List Nat)) : (sC s).set k (cellS o) = sC (s.set k o) := by simp [sC, List.map_set]
theorem nilA_row (o : Option (List Nat)) : nilA (rowS o) = o.isNone := by cases o <;> rfl
theorem trR_sA (s : Sl) : trR (sA s) = sA (trS s) := by
  rw [trR, opq_eq, trS, sA, sA, ← List.map_reverse, List.map_reverse]
  have h : ∀ t : Sl, (t.map rowS).dropWhile nilA = (t.dropWhile (·.isNone)).map rowS := by
    intro t
    induction t with
    | nil => rfl
    | cons o t ih =>
      rw [List.map_cons, List.dropWhile_cons, List.dropWhile_cons, nilA_row]
      cases o with
      | none => exact ih
      | some b => rfl
  rw [← List.map_reverse, h, List.map_reverse]
theorem trS_take (s : Sl) : trS s = s.take (trS s).length := by
  have h1 : (s.reverse.dropWhile (·.isNone)) <:+ s.reverse := List.dropWhile_suffix _
  have h2 : trS s <+: s := by
    have := List.reverse_prefix.mpr h1
    simpa [trS] using this
  exact List.prefix_iff_eq_take.mp h2
theorem trS_len (s : Sl) : (trS s).length ≤ s.length := by
  have h1 : (s.reverse.dropWhile (·.isNone)) <:+ s.reverse := List.dropWhile_suffix _
  have := h1.length_le
  simpa [trS] using this
theorem padS_len (s : Sl) (m : Nat) : (padS s m).length = max s.length m := by simp [padS]; omega
theorem w_rows (s : Sl) (k : Nat) (o : Option (List Nat)) : rowsC 1 (wN (sC s) k (cellS o)) (wC (sC s) k (cellS o)) 0 = sA (withS s k o) ∧ inC (wC (sC s) k (cellS o)) 0 (mulN (wN (sC s) k (cellS o)) 1) = true := by
  have hC : wC (sC s) k (cellS o) = sC ((padS s (k + 1)).set k o) := by rw [wC, opq_eq, padC_sC, set_sC]
  have hN : wN (sC s) k (cellS o) = (withS s k o).length := by rw [wN, opq_eq, padC_sC, set_sC, cR_sC, trR_sA, sA_length, withS]
  have hle : (withS s k o).length ≤ (sC ((padS s (k + 1)).set k o)).length := by rw [sC_length]; exact trS_len _
  rw [hC, hN]
  refine ⟨?_, inC_one hle⟩
  rw [rowsC_one hle, cR_sC_take, withS, ← trS_take]
theorem sumN_set (s : Sl) (k : Nat) (o : Option (List Nat)) : sumN (s.set k o) ≤ sumN s + olen o := by
  induction s generalizing k with
  | nil => simp [sumN]
  | cons x s ih =>
    cases k with
    | zero => rw [List.set_cons_zero, sumN_cons, sumN_cons]; omega
    | succ k => rw [List.set_cons_succ, sumN_cons, sumN_cons]; have := ih k; omega
theorem sumN_take (s : Sl) (n : Nat) : sumN (s.take n) ≤ sumN s := by
  conv => rhs; rw [← List.take_append_drop n s, sumN_append]
  omega
theorem sumN_pad (s : Sl) (m : Nat) : sumN (padS s m) = sumN s := by
  rw [padS, sumN_append]
  have : sumN (List.replicate (m - s.length) none) = 0 := by simp [sumN, olen]
  omega
theorem szN_with (s : Sl) (k : Nat) (o : Option (List Nat)) : szN (withS s k o) ≤ szN s + (k + 1) + olen o := by
  have h1 : sumN (withS s k o) ≤ sumN s + olen o := by
    rw [withS, trS_take]
    have := sumN_take ((padS s (k + 1)).set k o) (trS ((padS s (k + 1)).set k o)).length
    have := sumN_set (padS s (k + 1)) k o
    rw [sumN_pad] at this
    omega
  have h2 := trS_len ((padS s (k + 1)).set k o)
  rw [List.length_set, padS_len] at h2
  have h3 : (withS s k o).length ≤ max s.length (k + 1) := h2
  rw [szN, szN]
  omega
theorem mem_with {s : Sl} {k : Nat} {o : Option (List Nat)} {x : Option (List Nat)} (h : x ∈ withS s k o) : x ∈ s ∨ x = none ∨ x = o := by
  rw [withS, trS_take] at h
  rcases List.mem_or_eq_of_mem_set (List.mem_of_mem_take h) with h | h
  · rcases List.mem_append.mp h with h | h
    · exact .inl h
    · exact .inr (.inl (List.eq_of_mem_replicate h))
  · exact .inr (.inr h)
theorem okSl_with {s : Sl} (h : okSl s) {k : Nat} (hk : k ≤ 1000) (hl : s.length ≤ 1000) {o : Option (List Nat)} (ho : ∀ b, o = some b → (∀ x ∈ b, x < 256) ∧ b.length < 4611686018427387904) : okSl (withS s k o) := by
  refine ⟨fun b hb => ?_, ?_⟩
  · rcases mem_with hb with hb | hb | hb
    · exact h.1 b hb
    · cases hb
    · exact ho b hb.symm
  · have h2 := trS_len ((padS s (k + 1)).set k o)
    rw [List.length_set, padS_len] at h2
    have h3 : (withS s k o).length ≤ max s.length (k + 1) := h2
    omega
theorem pg_oV (t : Sl) : AV.tup [.ns (!pgOk (sR (sA t))) 1 (pgR (sA t)), .bool (pgOk (sR (sA t)))] = oV (toP t) := by
  cases h : pgOk t with
  | true =>
    rw [pgR_ok (by rw [sR_sA]; exact h), sR_sA, h, show toP t = some (pgB t) by rw [toP, h]; rfl, oV, oB_some, oR_some]
  | false =>
    rw [pgR_no (by rw [sR_sA]; exact h), sR_sA, h, show toP t = none by rw [toP, h]; rfl, oV, oB_none, oR_none]
theorem oV_scoped (o : Option (List Nat)) : Scoped 0 0 (oV o) := by
  cases o with
  | none => rw [oV, oR_none]; exact ⟨trivial, trivial, trivial⟩
  | some b => rw [oV, oR_some]; exact ⟨bR_scoped b, trivial, trivial⟩
theorem okW_sC {s : Sl} (h : okSl s) (hl : s.length ≤ 1000) : okW (sC s) = true := by
  rw [okW_iff, cR_sC, sC_length]; exact ⟨okS_sA h, hl⟩
/-- Where all that `with` and `page` ask holds. -/
theorem w_page {s : Sl} (hs : okSl s) (hl : szN s ≤ 256) {k : Nat} (hk : k ≤ 1000) {o : Option (List Nat)} (ho : ∀ b, o = some b → (∀ x ∈ b, x < 256) ∧ b.length ≤ 140737488355328) (v : Nat) (x y : Ans) :
    branch (.bool (Nat.beq v v && inC (wC (sC s) k (cellS o)) 0 (mulN (wN (sC s) k (cellS o)) 1)))
      (branch (.bool (okS (rowsC 1 (wN (sC s) k (cellS o)) (wC (sC s) k (cellS o)) 0) && fit (szN (sR (rowsC 1 (wN (sC s) k (cellS o)) (wC (sC s) k (cellS o)) 0))))) x none) none = x := by
  obtain ⟨h1, h2⟩ := w_rows s k o
  have h3 := szN_with s k o
  have hlen : s.length ≤ 1000 := by rw [szN] at hl; omega
  have h4 : okSl (withS s k o) := okSl_with hs hk hlen fun b hb => ⟨(ho b hb).1, by have := (ho b hb).2; omega⟩
  have h5 : olen o ≤ 140737488355328 := by
    cases o with
    | none => exact Nat.zero_le _
    | some b => exact (ho b rfl).2
  rw [branch_of (by rw [Nat.beq_refl, h2]; rfl), h1, branch_of (by rw [okS_sA h4, sR_sA, Bool.true_and, fit_iff]; omega)]
theorem with_nil : sC [] = [] := rfl
def putS (s : Sl) (i : Int) (b : List Nat) : Option (List Nat) := if 0 ≤ i ∧ i ≤ 250 then toP (withS s i.toNat (some b)) else none
def putP (p : List Nat) (i : Int) (b : List Nat) : Option (List Nat) := if ofB p then putS (ofS p) i b else none
theorem put_all {z y : Bool} {p b : List Nat} (hp : ∀ x ∈ p, x < 256) (hpl : p.length < 4611686018427387904) (hb : ∀ x ∈ b, x < 256) (hbl : b.length ≤ 140737488355328) (i : Int) :
    ∃ r st', f11.run 0 [.ns z 1 (bR p), .int .i64 i, .ns y 1 (bR b)] ⟨[], []⟩ = some (.ret r, st') ∧ Scoped 0 0 (hard st'.objs r) ∧ Wk (hard st'.objs r) (oV (putP p i b)) := by
  have no : putP p i b = none → ∀ os, Scoped 0 0 (hard os (.tup [.nilsl, .bool false])) ∧ Wk (hard os (.tup [.nilsl, .bool false])) (oV (putP p i b)) := fun e os => ⟨⟨trivial, trivial, trivial⟩, by rw [e]; exact oV_none⟩
  have hok := okSl_ofS hp
  have hsz := szN_ofS p
  have hll := len_ofS p
  have hap : (true && apOk (bR b).length 1) = true := by rw [Bool.true_and, apOk_iff, bR_length]; omega
  have hsl : AV.sl 1 false (bR b) = cellS (some b) := rfl
  have hoB : okB (cellS (some b)) = true := by show (Nat.beq 1 1 && byOk (bR b)) = true; rw [byOk_bR hb (by omega)]; rfl
  rw [put_run, branch_of (byOk_bR hp hpl), nR_bR, ofO, opq_eq]
  cases hB : ofB p with
  | false => exact ⟨_, _, rfl, no (by rw [putP, hB]; rfl) _⟩
  | true =>
    have hP : putP p i b = putS (ofS p) i b := by rw [putP, hB]; rfl
    have fin : ∀ (t : Sl) (v : Nat) (os : List Ob), withS (ofS p) i.toNat (some b) = t → 0 ≤ i → i ≤ 250 → Scoped 0 0 (hard os (.tup [.ns (!pgOk (sR (sA t))) 1 (pgR (sA t)), .bool (pgOk (sR (sA t)))])) ∧ Wk (hard os (.tup [.ns (!pgOk (sR (sA t))) 1 (pgR (sA t)), .bool (pgOk (sR (sA t)))])) (oV (putP p i b)) := by
      intro t v os ht h0 h1
      rw [pg_oV, hard_id _ _ (oV_scoped _), hP, putS, if_pos ⟨h0, h1⟩, ht]
      exact ⟨oV_scoped _, .refl _⟩
    rw [branch_true, ofE, opq_eq]
    cases hE : (ofS p).isEmpty with
    | true =>
      have hs : ofS p = [] := by simpa using hE
      rw [branch_true]
      by_cases h0 : i < 0
      · exact ⟨_, _, branch_of (by simpa using h0), no (by rw [hP, putS, if_neg (by omega)]) _⟩
      · by_cases h1 : i > 250
        · exact ⟨_, _, (branch_not (by simp; omega)).trans (branch_of (by simpa using h1)), no (by rw [hP, putS, if_neg (by omega)]) _⟩
        · refine ⟨_, _, (branch_not (by simp; omega)).trans ((branch_not (by simp; omega)).trans ((branch_of hap).trans ((branch_of (by rw [hsl, hoB, Bool.and_true, cdec_iff]; omega)).trans (w_page okSl_nil (by decide) (o := some b) (by omega) (fun c hc => by cases hc; exact ⟨hb, hbl⟩) _ _ none)))), ?_⟩
          rw [show ([] : List AV) = sC [] from rfl, hsl, (w_rows [] i.toNat (some b)).1]
          exact fin _ 0 _ (by rw [hs]) (by omega) (by omega)
    | false =>
      rw [branch_false, ofN, ofC, opq_eq, opq_eq]
      have hne : 0 < (ofS p).length := by
        rcases Nat.eq_zero_or_pos (ofS p).length with h | h
        · rw [List.eq_nil_of_length_eq_zero h] at hE; cases hE
        · exact h
      by_cases h0 : i < 0
      · exact ⟨_, _, branch_of (by simpa using h0), no (by rw [hP, putS, if_neg (by omega)]) _⟩
      · by_cases h1 : i > 250
        · exact ⟨_, _, (branch_not (by simp; omega)).trans (branch_of (by simpa using h1)), no (by rw [hP, putS, if_neg (by omega)]) _⟩
        · refine ⟨_, _, (branch_not (by simp; omega)).trans ((branch_not (by simp; omega)).trans ((branch_of hap).trans ((branch_of ?_).trans (w_page hok hsz (o := some b) (by omega) (fun c hc => by cases hc; exact ⟨hb, hbl⟩) _ _ none)))), ?_⟩
          · simp only [Bool.and_eq_true, cdec_iff, Nat.beq_refl, true_and]
            exact ⟨by rw [sC_length]; omega, by omega, okW_sC hok (by omega), hoB⟩
          · rw [hsl, (w_rows (ofS p) i.toNat (some b)).1]
            exact fin _ 0 _ rfl (by omega) (by omega)
noncomputable def p11 : POrc Try.prog := f11.farW
  (fun args k => match args with
    | [x, .int .i64 i, y] => onNs 1 x fun _ l => onNs 1 y fun _ r => ifT (byOk l && (byOk r && apOk r.length 1)) (k (oV (putP (nR l) i (nR r))))
    | _ => none)
  fun args k fin h => by
    split at h
    · rename_i x i y
      obtain ⟨z, l, h, hx⟩ := onNs_spec h
      obtain ⟨z', r, h, hy⟩ := onNs_spec h
      obtain ⟨h1, h⟩ := ifT_spec h
      simp only [Bool.and_eq_true, apOk_iff] at h1
      obtain ⟨h1, h2, h3⟩ := h1
      obtain ⟨l1, l2⟩ := byOk_iff.mp h1
      obtain ⟨r1, r2⟩ := byOk_iff.mp h2
      obtain ⟨a, st', k1, k2, k3⟩ := put_all (z := z) (y := z') (p := nR l) (b := nR r) (fun b hb => okR_lt l1 hb) (by rw [nR_length]; exact l2) (fun b hb => okR_lt r1 hb) (by rw [nR_length]; omega) i
      rw [← okR_rows l1, ← okR_rows r1] at k1
      exact ⟨_, _, h, .cons hx (.cons (.refl _) (.cons hy .nil)), ⟨okR_scoped l1, trivial, okR_scoped r1, trivial⟩, 0, a, st', k1, k2, k3⟩
    · cases h
theorem p11_nat : p11.Nat := by
  intro args k
  show (match args with | [x, .int .i64 i, y] => _ | _ => _) = thenA (match args with | [x, .int .i64 i, y] => _ | _ => _) k
  split
  · exact onNs_nat fun _ _ => onNs_nat fun _ _ => ifT_nat rfl
  · rfl

/-! ### Cut -/
def cutS (s : Sl) (i : Int) : Option (List Nat) := if (getP s i).isSome then toP (withS s i.toNat none) else none
def cutP (p : List Nat) (i : Int) : Option (List Nat) := cutS (ofS p) i
theorem getP_bound {s : Sl} {i : Int} (h : (getP s i).isSome = true) : 0 ≤ i ∧ i.toNat < s.length := by
  unfold getP at h
  split at h
  · rename_i h0
    refine ⟨h0, ?_⟩
    rcases Nat.lt_or_ge i.toNat s.length with h1 | h1
    · exact h1
    · rw [List.getElem?_eq_none h1] at h; cases h
  · cases h
theorem cut_all {z : Bool} {p : List Nat} (hp : ∀ x ∈ p, x < 256) (hpl : p.length < 4611686018427387904) (i : Int) :
    ∃ r st', f18.run 0 [.ns z 1 (bR p), .int .i64 i] ⟨[], []⟩ = some (.ret r, st') ∧ Scoped 0 0 (hard st'.objs r) ∧ Wk (hard st'.objs r) (oV (cutP p i)) := by
  have hok := okSl_ofS hp
  have hsz := szN_ofS p
  have hll := len_ofS p
  have hby := byOk_bR hp hpl
  have hsl : AV.nilsl = cellS none := rfl
  rw [cut_run, branch_of hby, nR_bR, oB, opq_eq]
  cases hG : (getP (ofS p) i).isSome with
  | false => exact ⟨_, _, rfl, ⟨trivial, trivial, trivial⟩, by rw [cutP, cutS, hG]; exact oV_none⟩
  | true =>
    obtain ⟨h0, h1⟩ := getP_bound hG
    rw [branch_not (b := !true) rfl, branch_of hby, ofO, opq_eq]
    have hB : ofB p = true := by
      unfold ofS at h1
      unfold ofB
      cases hh : ofP p with
      | none => rw [hh] at h1; simp at h1
      | some s => rfl
    rw [hB, branch_true, ofE, opq_eq]
    cases hE : (ofS p).isEmpty with
    | true =>
      have hs : ofS p = [] := by simpa using hE
      rw [hs] at h1; simp at h1
    | false =>
      rw [branch_false, ofN, ofC, opq_eq, opq_eq]
      refine ⟨_, _, (branch_of ?_).trans (w_page hok hsz (o := none) (by omega) (fun c hc => by cases hc) _ _ none), ?_⟩
      · simp only [Bool.and_eq_true, cdec_iff, Nat.beq_refl, true_and]
        exact ⟨by rw [sC_length]; omega, by omega, okW_sC hok (by omega), trivial⟩
      · rw [hsl, (w_rows (ofS p) i.toNat none).1, pg_oV, hard_id _ _ (oV_scoped _), cutP, cutS, if_pos hG]
        exact ⟨oV_scoped _, .refl _⟩
noncomputable def p18 : POrc Try.prog := f18.farW
  (fun args k => match args with
    | [x, .int .i64 i] => onNs 1 x fun _ l => ifT (byOk l) (k (oV (cutP (nR l) i)))
    | _ => none)
  fun args k fin h => by
    split at h
    · rename_i x i
      obtain ⟨z, l, h, hx⟩ := onNs_spec h
      obtain ⟨h1, h⟩ := ifT_spec h
      obtain ⟨l1, l2⟩ := byOk_iff.mp h1
      obtain ⟨a, st', k1, k2, k3⟩ := cut_all (z := z) (p := nR l) (fun b hb => okR_lt l1 hb) (by rw [nR_length]; exact l2) i
      rw [← okR_rows l1] at k1
      exact ⟨_, _, h, .cons hx (.cons (.refl _) .nil), ⟨okR_scoped l1, trivial, trivial⟩, 0, a, st', k1, k2, k3⟩
    · cases h
theorem p18_nat : p18.Nat := by
  intro args k
  show (match args with | [x, .int .i64 i] => _ | _ => _) = thenA (match args with | [x, .int .i64 i] => _ | _ => _) k
  split
  · exact onNs_nat fun _ _ => ifT_nat rfl
  · rfl
end Go.Proofs.Ytblliolkgkgppaa.V

/- The functions' pieces, as told by gen.py. -/
set_option linter.unusedVariables false
set_option maxRecDepth 20000
namespace Go.Proofs.Ytblliolkgkgppaa.V
open Go Go.V Go.RowKit


/-! ### 13: interlock/page.Add (25, 25); results 4, 5, 6; slots: 0 p, 1 b, 2 p, 3 b, 7 s, 8 ok, 9 k, 10 out -/
noncomputable def f13_b : Sim Try.prog :=
  (.seq (.live [0, 1] (.region 0 [
    ⟨(opAssign (some 4) (.const (Value.slice none 0 0)) 25 "page.go:118" #[]).op, none⟩,
    ⟨(opAssign (some 5) (.const (Value.int IntKind.i64 0)) 3 "page.go:118" #[{ on := 0, ground := Ground.chain }]).op, none⟩,
    ⟨(opAssign (some 6) (.const (Value.bool false)) 4 "page.go:118" #[{ on := 1, ground := Ground.chain }]).op, none⟩
  ] (by kernel_rfl)))
  (.seq (.live [0, 1, 7, 8] (.region 1 [
    ⟨(opMove (some 12) (.tmp 0) 25 "page.go:119" #[]).op, none⟩,
    ⟨(opCallP p21 (some 13) [(.tmp 12)] #[25] 45 "page.go:119" #[{ on := 0, ground := Ground.data }]).op, none⟩,
    ⟨(opMove (some 11) (.tmp 13) 45 "page.go:119" #[{ on := 1, ground := Ground.data }]).op, none⟩,
    ⟨(opExtract (some 14) (.tmp 11) 0 44 "page.go:119" #[{ on := 2, ground := Ground.data }]).op, none⟩,
    ⟨(opExtract (some 15) (.tmp 11) 1 4 "page.go:119" #[{ on := 2, ground := Ground.data }, { on := 5, ground := (Ground.gcOnly Departure.lateStores) }]).op, none⟩,
    ⟨(opAssign (some 7) (.tmp 14) 44 "page.go:119" #[{ on := 3, ground := Ground.data }, { on := 1, ground := Ground.chain }, { on := 0, ground := Ground.phase }, { on := 1, ground := Ground.phase }, { on := 2, ground := Ground.phase }, { on := 3, ground := Ground.phase }, { on := 4, ground := (Ground.textOnly Departure.lateStores) }]).op, none⟩,
    ⟨(opAssign (some 8) (.tmp 15) 4 "page.go:119" #[{ on := 4, ground := Ground.data }, { on := 5, ground := Ground.chain }, { on := 0, ground := Ground.phase }, { on := 1, ground := Ground.phase }, { on := 2, ground := Ground.phase }, { on := 3, ground := Ground.phase }, { on := 4, ground := Ground.phase }, { on := 5, ground := Ground.phase }]).op, none⟩
  ] (by kernel_rfl)))
  (.seq (.seq (.live [0, 1, 7, 17] (.region 2 [
    ⟨(opMove (some 16) (.tmp 8) 4 "page.go:120" #[]).op, none⟩,
    ⟨(opNot (some 17) 4 (.tmp 16) 4 "page.go:120" #[{ on := 0, ground := Ground.data }]).op, none⟩
  ] (by kernel_rfl)))
  (.cond (.tmp 17)
    (.seq (.live [4, 5, 6] (.region 3 [
      ⟨(opAssign (some 4) (.const (Value.slice none 0 0)) 25 "page.go:121" #[]).op, none⟩,
      ⟨(opAssign (some 5) (.const (Value.int IntKind.i64 0)) 3 "page.go:121" #[{ on := 0, ground := Ground.chain }, { on := 0, ground := Ground.phase }]).op, none⟩,
      ⟨(opAssign (some 6) (.const (Value.bool false)) 4 "page.go:121" #[{ on := 1, ground := Ground.chain }, { on := 0, ground := Ground.phase }, { on := 1, ground := Ground.phase }]).op, none⟩
    ] (by kernel_rfl)))
    (.live [4, 5, 6] .ret))
    .skip))
  (.seq (.live [0, 1, 7, 9] (.region 4 [
    ⟨(opMove (some 18) (.tmp 7) 44 "page.go:123" #[]).op, none⟩,
    ⟨(opCallP p24 (some 19) [(.tmp 18), (.func 25)] #[44, 37] 3 "page.go:123" #[{ on := 0, ground := Ground.data }]).op, none⟩,
    ⟨(opAssign (some 9) (.tmp 19) 3 "page.go:123" #[{ on := 1, ground := Ground.data }, { on := 1, ground := Ground.chain }, { on := 0, ground := Ground.phase }, { on := 1, ground := Ground.phase }]).op, none⟩
  ] (by kernel_rfl)))
  (.seq (.seq (.live [0, 1, 7, 9, 21] (.region 5 [
    ⟨(opMove (some 20) (.tmp 9) 3 "page.go:124" #[]).op, none⟩,
    ⟨(opBin (some 21) .lss 3 (.tmp 20) (.const (Value.int IntKind.i64 0)) 3 4 "page.go:124" #[{ on := 0, ground := Ground.data }]).op, none⟩
  ] (by kernel_rfl)))
  (.cond (.tmp 21)
    (.live [0, 1, 9] (.region 6 [
      ⟨(opMove (some 22) (.tmp 7) 44 "page.go:125" #[]).op, none⟩,
      ⟨(opLen (some 23) (.tmp 22) 44 (.slice 25) Try.underlying44 3 "page.go:125" #[{ on := 0, ground := Ground.data }]).op, none⟩,
      ⟨(opAssign (some 9) (.tmp 23) 3 "page.go:125" #[{ on := 1, ground := Ground.data }, { on := 0, ground := Ground.phase }, { on := 1, ground := Ground.phase }]).op, none⟩
    ] (by kernel_rfl)))
    .skip))
  (.seq (.live [8, 9, 10] (.region 7 [
    ⟨(opMove (some 25) (.tmp 0) 25 "page.go:127" #[]).op, none⟩,
    ⟨(opMove (some 26) (.tmp 9) 3 "page.go:127" #[]).op, none⟩,
    ⟨(opMove (some 27) (.tmp 1) 25 "page.go:127" #[]).op, none⟩,
    ⟨(opCallP p11 (some 28) [(.tmp 25), (.tmp 26), (.tmp 27)] #[25, 3, 25] 30 "page.go:127" #[{ on := 0, ground := Ground.data }, { on := 1, ground := Ground.data }, { on := 2, ground := Ground.data }]).op, none⟩,
    ⟨(opMove (some 24) (.tmp 28) 30 "page.go:127" #[{ on := 3, ground := Ground.data }]).op, none⟩,
    ⟨(opExtract (some 29) (.tmp 24) 0 25 "page.go:127" #[{ on := 4, ground := Ground.data }]).op, none⟩,
    ⟨(opExtract (some 30) (.tmp 24) 1 4 "page.go:127" #[{ on := 4, ground := Ground.data }, { on := 7, ground := (Ground.gcOnly Departure.lateStores) }]).op, none⟩,
    ⟨(opAssign (some 10) (.tmp 29) 25 "page.go:127" #[{ on := 5, ground := Ground.data }, { on := 3, ground := Ground.chain }, { on := 0, ground := Ground.phase }, { on := 1, ground := Ground.phase }, { on := 2, ground := Ground.phase }, { on := 3, ground := Ground.phase }, { on := 4, ground := Ground.phase }, { on := 5, ground := Ground.phase }, { on := 6, ground := (Ground.textOnly Departure.lateStores) }]).op, none⟩,
    ⟨(opAssign (some 8) (.tmp 30) 4 "page.go:127" #[{ on := 6, ground := Ground.data }, { on := 7, ground := Ground.chain }, { on := 0, ground := Ground.phase }, { on := 1, ground := Ground.phase }, { on := 2, ground := Ground.phase }, { on := 3, ground := Ground.phase }, { on := 4, ground := Ground.phase }, { on := 5, ground := Ground.phase }, { on := 6, ground := Ground.phase }, { on := 7, ground := Ground.phase }]).op, none⟩
  ] (by kernel_rfl)))
  (.seq (.seq (.live [9, 10, 32] (.region 8 [
    ⟨(opMove (some 31) (.tmp 8) 4 "page.go:128" #[]).op, none⟩,
    ⟨(opNot (some 32) 4 (.tmp 31) 4 "page.go:128" #[{ on := 0, ground := Ground.data }]).op, none⟩
  ] (by kernel_rfl)))
  (.cond (.tmp 32)
    (.seq (.live [4, 5, 6] (.region 9 [
      ⟨(opAssign (some 4) (.const (Value.slice none 0 0)) 25 "page.go:129" #[]).op, none⟩,
      ⟨(opAssign (some 5) (.const (Value.int IntKind.i64 0)) 3 "page.go:129" #[{ on := 0, ground := Ground.chain }, { on := 0, ground := Ground.phase }]).op, none⟩,
      ⟨(opAssign (some 6) (.const (Value.bool false)) 4 "page.go:129" #[{ on := 1, ground := Ground.chain }, { on := 0, ground := Ground.phase }, { on := 1, ground := Ground.phase }]).op, none⟩
    ] (by kernel_rfl)))
    (.live [4, 5, 6] .ret))
    .skip))
  (.seq (.live [4, 5, 6] (.region 10 [
    ⟨(opMove (some 33) (.tmp 10) 25 "page.go:131" #[]).op, none⟩,
    ⟨(opMove (some 34) (.tmp 9) 3 "page.go:131" #[{ on := 2, ground := (Ground.gcOnly Departure.lateStores) }]).op, none⟩,
    ⟨(opAssign (some 4) (.tmp 33) 25 "page.go:131" #[{ on := 0, ground := Ground.data }, { on := 0, ground := Ground.phase }, { on := 1, ground := (Ground.textOnly Departure.lateStores) }]).op, none⟩,
    ⟨(opAssign (some 5) (.tmp 34) 3 "page.go:131" #[{ on := 1, ground := Ground.data }, { on := 2, ground := Ground.chain }, { on := 0, ground := Ground.phase }, { on := 1, ground := Ground.phase }, { on := 2, ground := Ground.phase }]).op, none⟩,
    ⟨(opAssign (some 6) (.const (Value.bool true)) 4 "page.go:131" #[{ on := 3, ground := Ground.chain }, { on := 0, ground := Ground.phase }, { on := 1, ground := Ground.phase }, { on := 2, ground := Ground.phase }, { on := 3, ground := Ground.phase }]).op, none⟩
  ] (by kernel_rfl)))
  (.live [4, 5, 6] .ret)))))))))

noncomputable def f13 : Fun Try.prog where
  id := 13
  fn := Try.f13
  hf := Try.func13
  hname := by kernel_rfl
  body := f13_b
  hbody := by kernel_rfl
  res := [rTmp 4, rTmp 5, rTmp 6]
  hres := by kernel_rfl
  n := 35
  hn := by kernel_rfl

end Go.Proofs.Ytblliolkgkgppaa.V

/- What the functions' runs come to; the right sides were printed by a tool, Lean checks them. -/
set_option linter.unusedVariables false
set_option maxRecDepth 100000
namespace Go.Proofs.Ytblliolkgkgppaa.V
open Go Go.V Go.RowKit

theorem add_run (F : Nat) (z y : Bool) (l r : List (List AV)) :
    (f13.run F [.ns z 1 l, .ns y 1 r] ⟨[], []⟩ : Ans) =
    branch (AV.bool (byOk l))
      (branch (AV.bool !ofB (nR l))
        (some (Fin.ret (AV.tup [AV.nilsl, AV.int IntKind.i64 (0 : Int), AV.bool false]), St.mk [] []))
        (branch (AV.bool (true && okS (ofA (nR l))))
          (branch (AV.bool (decide (idxI (idxFrom (prd (25 : FuncId)) (ofA (nR l)) 0) < (0 : Int))))
            (branch (AV.bool (byOk l && (byOk r && apOk r.length 1)))
              (branch (AV.bool !oB (putP (nR l) (↑(ofA (nR l)).length : Int) (nR r)))
                (some (Fin.ret (AV.tup [AV.nilsl, AV.int IntKind.i64 (0 : Int), AV.bool false]), St.mk [] []))
                (some
                  (Fin.ret
                      (AV.tup
                        [AV.ns (!oB (putP (nR l) (↑(ofA (nR l)).length : Int) (nR r))) 1
                            (oR (putP (nR l) (↑(ofA (nR l)).length : Int) (nR r))),
                          AV.int IntKind.i64 (↑(ofA (nR l)).length : Int), AV.bool true]),
                    St.mk [] [])))
              none)
            (branch (AV.bool (byOk l && (byOk r && apOk r.length 1)))
              (branch (AV.bool !oB (putP (nR l) (idxI (idxFrom (prd (25 : FuncId)) (ofA (nR l)) 0)) (nR r)))
                (some (Fin.ret (AV.tup [AV.nilsl, AV.int IntKind.i64 (0 : Int), AV.bool false]), St.mk [] []))
                (some
                  (Fin.ret
                      (AV.tup
                        [AV.ns (!oB (putP (nR l) (idxI (idxFrom (prd (25 : FuncId)) (ofA (nR l)) 0)) (nR r)))
                            1 (oR (putP (nR l) (idxI (idxFrom (prd (25 : FuncId)) (ofA (nR l)) 0)) (nR r))),
                          AV.int IntKind.i64 (idxI (idxFrom (prd (25 : FuncId)) (ofA (nR l)) 0)), AV.bool true]),
                    St.mk [] [])))
              none))
          none))
      none := by kernel_rfl

end Go.Proofs.Ytblliolkgkgppaa.V

/- Page: Add, as a callee. -/
set_option linter.unusedVariables false
namespace Go.Proofs.Ytblliolkgkgppaa.V
open Go Go.V Go.RowKit

/-- The first free slot, or the one behind the last. -/
def freeK (s : Sl) : Nat := s.findIdx (·.isNone)
theorem free_idx : ∀ (s : Sl) (i : Nat), idxI (idxFrom (prd 25) (sA s) i) = (if s.any (·.isNone) then ((i + freeK s : Nat) : Int) else -1)
  | [], i => rfl
  | o :: s, i => by
    have ih := free_idx s (i + 1)
    rw [show sA (o :: s) = rowS o :: sA s from rfl, idxFrom, show prd 25 (rowS o) = o.isNone from nilA_row o]
    cases o with
    | none => simp [idxI, freeK, List.findIdx_cons]
    | some b =>
      rw [show (some b : Option (List Nat)).isNone = false from rfl]
      rw [cond_false, ih, List.any_cons]
      simp only [Option.isNone_some, Bool.false_or]
      split
      · simp only [freeK, List.findIdx_cons, Option.isNone_some, cond_false]
        omega
      · rfl
theorem freeK_none {s : Sl} (h : s.any (·.isNone) = false) : freeK s = s.length := by
  rw [freeK, List.findIdx_eq_length]
  exact fun x hx => by
    have := List.any_eq_false.mp h x hx
    cases x with
    | none => exact absurd rfl this
    | some b => rfl
def addP (p b : List Nat) : Option (List Nat) := if ofB p then putP p (freeK (ofS p) : Nat) b else none
noncomputable def addK (p b : List Nat) : Int := opq (if (addP p b).isSome then (freeK (ofS p) : Int) else 0)
noncomputable def addV (p b : List Nat) : AV := .tup [.ns (!oB (addP p b)) 1 (oR (addP p b)), .int .i64 (addK p b), .bool (oB (addP p b))]
theorem addV_scoped (p b : List Nat) : Scoped 0 0 (addV p b) := by
  rw [addV]
  cases addP p b with
  | none => rw [oR_none]; exact ⟨trivial, trivial, trivial, trivial⟩
  | some c => rw [oR_some]; exact ⟨bR_scoped c, trivial, trivial, trivial⟩
noncomputable def p13 : POrc Try.prog := f13.farW
  (fun args k => match args with
    | [x, y] => onNs 1 x fun _ l => onNs 1 y fun _ r => ifT (byOk l && (byOk r && apOk r.length 1)) (k (addV (nR l) (nR r)))
    | _ => none)
  fun args k fin h => by
    split at h
    · rename_i x y
      obtain ⟨z, l, h, hx⟩ := onNs_spec h
      obtain ⟨z', r, h, hy⟩ := onNs_spec h
      obtain ⟨h1, h⟩ := ifT_spec h
      have h2 := h1
      simp only [Bool.and_eq_true] at h1
      have hl := (byOk_iff.mp h1.1).1
      have hr := (byOk_iff.mp h1.2.1).1
      refine ⟨_, _, h, .cons hx (.cons hy .nil), ⟨okR_scoped hl, okR_scoped hr, trivial⟩, 0, ?_⟩
      have hok : okS (ofA (nR l)) = true := by rw [ofA_eq]; exact okS_sA (okSl_ofS fun b hb' => okR_lt hl hb')
      have no : addP (nR l) (nR r) = none → Scoped 0 0 (hard [] (.tup [.nilsl, .int .i64 0, .bool false])) ∧ Wk (hard [] (.tup [.nilsl, .int .i64 0, .bool false])) (addV (nR l) (nR r)) := fun e => ⟨⟨trivial, trivial, trivial, trivial⟩, by
        rw [addV, addK, opq_eq, e, oB_none, oR_none]; exact .tup (.cons .nil (.cons (.refl _) (.cons (.refl _) .nil)))⟩
      have go : ∀ i : Int, i = (freeK (ofS (nR l)) : Nat) → ofB (nR l) = true →
          ∃ r' st', branch (AV.bool (byOk l && (byOk r && apOk r.length 1)))
            (branch (AV.bool !oB (putP (nR l) i (nR r))) (some (Fin.ret (AV.tup [AV.nilsl, AV.int IntKind.i64 (0 : Int), AV.bool false]), St.mk [] []))
              (some (Fin.ret (AV.tup [AV.ns (!oB (putP (nR l) i (nR r))) 1 (oR (putP (nR l) i (nR r))), AV.int IntKind.i64 i, AV.bool true]), St.mk [] []))) none = some (.ret r', st') ∧ Scoped 0 0 (hard st'.objs r') ∧ Wk (hard st'.objs r') (addV (nR l) (nR r)) := by
        intro i hi hB
        have hP : addP (nR l) (nR r) = putP (nR l) i (nR r) := by rw [addP, hB, hi]; rfl
        rw [branch_of h2]
        cases hp : putP (nR l) i (nR r) with
        | none => exact ⟨_, _, by rw [oB_none]; exact branch_of (b := !false) rfl, no (by rw [hP, hp])⟩
        | some c =>
          refine ⟨_, _, by rw [oB_some]; exact branch_not (b := !true) rfl, ?_⟩
          have e : AV.tup [AV.ns (!true) 1 (oR (some c)), AV.int IntKind.i64 i, AV.bool true] = addV (nR l) (nR r) := by
            rw [addV, addK, opq_eq, hP, hp, oB_some, hi]; rfl
          rw [e, hard_id _ _ (addV_scoped _ _)]
          exact ⟨addV_scoped _ _, .refl _⟩
      rw [add_run, branch_of h1.1]
      cases hB : ofB (nR l) with
      | false => exact ⟨_, _, branch_of (b := !false) rfl, no (by rw [addP, hB]; rfl)⟩
      | true =>
        rw [branch_not (b := !true) rfl, branch_of (by rw [hok]; rfl), ofA_len, ofA_eq]
        rw [show idxI (idxFrom (prd (25 : FuncId)) (sA (ofS (nR l))) 0) = _ from free_idx (ofS (nR l)) 0]
        cases ha : (ofS (nR l)).any (·.isNone) with
        | true =>
          simp only [if_true, Nat.zero_add]
          obtain ⟨r', st', g1, g2⟩ := go (freeK (ofS (nR l)) : Nat) rfl hB
          exact ⟨r', st', (branch_not (by simp)).trans g1, g2⟩
        | false =>
          simp only [Bool.false_eq_true, if_false]
          obtain ⟨r', st', g1, g2⟩ := go ((ofS (nR l)).length : Nat) (by rw [freeK_none ha]) hB
          exact ⟨r', st', (branch_of (by decide)).trans g1, g2⟩
    · cases h
theorem p13_nat : p13.Nat := by
  intro args k
  show (match args with | [x, y] => _ | _ => _) = thenA (match args with | [x, y] => _ | _ => _) k
  split
  · exact onNs_nat fun _ _ => onNs_nat fun _ _ => ifT_nat rfl
  · rfl
end Go.Proofs.Ytblliolkgkgppaa.V

/- The functions' pieces, as told by gen.py. -/
set_option linter.unusedVariables false
set_option maxRecDepth 20000
namespace Go.Proofs.Ytblliolkgkgppaa.V
open Go Go.V Go.RowKit

theorem sz29 : (Try.prog.info? 29).map (·.size) = some 3 := by kernel_rfl
theorem fl29_2 : fieldB Try.prog 29 2 2 1 false = true := by kernel_rfl

/-! ### 9: interlock/interlocklaw06.great (22); results 2; slots: 0 calls, 1 calls, 3 i -/
/-- A loop's round; at its head live: 0 calls, 3 i -/
noncomputable def f9_l0 : Sim Try.prog :=
  (.seq (.seq (.live [0, 3, 10] (.region 4 [
    ⟨(opMove (some 7) (.tmp 3) 3 "law.go:27" #[]).op, none⟩,
    ⟨(opMove (some 8) (.tmp 0) 22 "law.go:27" #[]).op, none⟩,
    ⟨(opLen (some 9) (.tmp 8) 22 (.slice 29) Try.underlying22 3 "law.go:27" #[{ on := 1, ground := Ground.data }]).op, none⟩,
    ⟨(opBin (some 10) .lss 3 (.tmp 7) (.tmp 9) 3 4 "law.go:27" #[{ on := 0, ground := Ground.data }, { on := 2, ground := Ground.data }]).op, none⟩
  ] (by kernel_rfl)))
  (.cond (.tmp 10)
    .skip
    (.live [] (.exit 0))))
  (.seq (.block 1 (.seq (.live [0, 3, 19] (.region 6 [
      ⟨(opMove (some 13) (.tmp 0) 22 "law.go:28" #[]).op, none⟩,
      ⟨(opMove (some 14) (.tmp 3) 3 "law.go:28" #[]).op, none⟩,
      ⟨(opIndexAddrT (some 15) 22 (.tmp 13) (.tmp 14) 29 3 Try.underlying22 sz29 0 "law.go:28" #[{ on := 0, ground := Ground.data }, { on := 1, ground := Ground.data }]).op, none⟩,
      ⟨(opFieldAddr (some 16) 29 (.tmp 15) 2 2 1 false fl29_2 (by decide) 0 "law.go:28" #[{ on := 2, ground := Ground.data }]).op, none⟩,
      ⟨(opLoadT (.one (.ns 1)) (some 17) 25 (.tmp 16) (.slice 5) Try.underlying25 1 sz25 (by kernel_rfl) 25 "law.go:28" #[{ on := 3, ground := Ground.data }]).op, none⟩,
      ⟨(opLen (some 18) (.tmp 17) 25 (.slice 5) Try.underlying25 3 "law.go:28" #[{ on := 4, ground := Ground.data }]).op, none⟩,
      ⟨(opBin (some 19) .gtr 3 (.tmp 18) (.const (Value.int IntKind.i64 1000)) 3 4 "law.go:28" #[{ on := 5, ground := Ground.data }]).op, none⟩
    ] (by kernel_rfl)))
    (.cond (.tmp 19)
      (.seq (.live [2] (.region 7 [
        ⟨(opAssign (some 2) (.const (Value.bool true)) 4 "law.go:29" #[]).op, none⟩
      ] (by kernel_rfl)))
      (.live [2] .ret))
      .skip)))
  (.live [0, 3] (.region 5 [
    ⟨(opMove (some 11) (.tmp 3) 3 "law.go:27" #[]).op, none⟩,
    ⟨(opBin (some 12) .add 3 (.tmp 11) (.const (Value.int IntKind.i64 1)) 3 3 "law.go:27" #[{ on := 0, ground := Ground.data }]).op, none⟩,
    ⟨(opAssign (some 3) (.tmp 12) 3 "law.go:27" #[{ on := 1, ground := Ground.data }, { on := 0, ground := Ground.phase }, { on := 1, ground := Ground.phase }]).op, none⟩
  ] (by kernel_rfl)))))

/-- What follows a loop. -/
noncomputable def f9_r0 : Sim Try.prog :=
  (.seq (.live [2] (.region 8 [
    ⟨(opAssign (some 2) (.const (Value.bool false)) 4 "law.go:32" #[]).op, none⟩
  ] (by kernel_rfl)))
  (.live [2] .ret))

noncomputable def f9_b : Sim Try.prog :=
  (.seq (.live [0] (.region 0 [
    ⟨(opAssign (some 2) (.const (Value.bool false)) 4 "law.go:23" #[]).op, none⟩
  ] (by kernel_rfl)))
  (.seq (.seq (.live [0, 6] (.region 1 [
    ⟨(opMove (some 4) (.tmp 0) 22 "law.go:24" #[]).op, none⟩,
    ⟨(opLen (some 5) (.tmp 4) 22 (.slice 29) Try.underlying22 3 "law.go:24" #[{ on := 0, ground := Ground.data }]).op, none⟩,
    ⟨(opBin (some 6) .gtr 3 (.tmp 5) (.const (Value.int IntKind.i64 100)) 3 4 "law.go:24" #[{ on := 1, ground := Ground.data }]).op, none⟩
  ] (by kernel_rfl)))
  (.cond (.tmp 6)
    (.seq (.live [2] (.region 2 [
      ⟨(opAssign (some 2) (.const (Value.bool true)) 4 "law.go:25" #[]).op, none⟩
    ] (by kernel_rfl)))
    (.live [2] .ret))
    .skip))
  (.seq (.seq (.live [0, 3] (.region 3 [
    ⟨(opAssign (some 3) (.const (Value.int IntKind.i64 0)) 3 "law.go:27" #[]).op, none⟩
  ] (by kernel_rfl)))
  (.block 0 (.loop [0, 3] f9_l0)))
  f9_r0)))

noncomputable def f9 : Fun Try.prog where
  id := 9
  fn := Try.f9
  hf := Try.func9
  hname := by kernel_rfl
  body := f9_b
  hbody := by kernel_rfl
  res := [rTmp 2]
  hres := by kernel_rfl
  n := 20
  hn := by kernel_rfl

/-! ### 8: interlock/interlocklaw06.alive (); results 0; slots: 1 p, 2 k, 3 ok, 4 q, 5 m, 6 is -/
noncomputable def f8_b : Sim Try.prog :=
  (.seq (.live [] (.region 0 [
    ⟨(opAssign (some 0) (.const (Value.bool false)) 4 "law.go:17" #[]).op, none⟩
  ] (by kernel_rfl)))
  (.seq (.live [1, 2, 3] (.region 1 [
    ⟨(opCallP p10 (some 8) [] #[] 25 "law.go:18" #[]).op, none⟩,
    ⟨(opBuildSliceO (some 9) 25 2 [(0, (.const (Value.int IntKind.u8 97))), (1, (.const (Value.int IntKind.u8 98)))] 5 1 1 (.int .u8 0) el25 (by kernel_rfl) (by decide) 25 "law.go:18" #[]).op, none⟩,
    ⟨(opConvSl (some 10) 25 (.tmp 9) 5 Try.underlying25 Try.underlying5 25 "law.go:18" #[{ on := 1, ground := Ground.data }]).op, none⟩,
    ⟨(opCallP p13 (some 11) [(.tmp 8), (.tmp 10)] #[25, 25] 33 "law.go:18" #[{ on := 0, ground := Ground.data }, { on := 2, ground := Ground.data }, { on := 0, ground := Ground.chain }]).op, none⟩,
    ⟨(opMove (some 7) (.tmp 11) 33 "law.go:18" #[{ on := 3, ground := Ground.data }]).op, none⟩,
    ⟨(opExtract (some 12) (.tmp 7) 0 25 "law.go:18" #[{ on := 4, ground := Ground.data }]).op, none⟩,
    ⟨(opExtract (some 13) (.tmp 7) 1 3 "law.go:18" #[{ on := 4, ground := Ground.data }, { on := 8, ground := (Ground.gcOnly Departure.lateStores) }]).op, none⟩,
    ⟨(opExtract (some 14) (.tmp 7) 2 4 "law.go:18" #[{ on := 4, ground := Ground.data }, { on := 9, ground := (Ground.gcOnly Departure.lateStores) }]).op, none⟩,
    ⟨(opAssign (some 1) (.tmp 12) 25 "law.go:18" #[{ on := 5, ground := Ground.data }, { on := 3, ground := Ground.chain }, { on := 0, ground := Ground.phase }, { on := 1, ground := Ground.phase }, { on := 2, ground := Ground.phase }, { on := 3, ground := Ground.phase }, { on := 4, ground := Ground.phase }, { on := 5, ground := Ground.phase }, { on := 6, ground := (Ground.textOnly Departure.lateStores) }, { on := 7, ground := (Ground.textOnly Departure.lateStores) }]).op, none⟩,
    ⟨(opAssign (some 2) (.tmp 13) 3 "law.go:18" #[{ on := 6, ground := Ground.data }, { on := 8, ground := Ground.chain }, { on := 0, ground := Ground.phase }, { on := 1, ground := Ground.phase }, { on := 2, ground := Ground.phase }, { on := 3, ground := Ground.phase }, { on := 4, ground := Ground.phase }, { on := 5, ground := Ground.phase }, { on := 6, ground := Ground.phase }, { on := 7, ground := (Ground.textOnly Departure.lateStores) }, { on := 8, ground := Ground.phase }]).op, none⟩,
    ⟨(opAssign (some 3) (.tmp 14) 4 "law.go:18" #[{ on := 7, ground := Ground.data }, { on := 9, ground := Ground.chain }, { on := 0, ground := Ground.phase }, { on := 1, ground := Ground.phase }, { on := 2, ground := Ground.phase }, { on := 3, ground := Ground.phase }, { on := 4, ground := Ground.phase }, { on := 5, ground := Ground.phase }, { on := 6, ground := Ground.phase }, { on := 7, ground := Ground.phase }, { on := 8, ground := Ground.phase }, { on := 9, ground := Ground.phase }]).op, none⟩
  ] (by kernel_rfl)))
  (.seq (.live [2, 3, 4, 5, 6] (.region 2 [
    ⟨(opMove (some 16) (.tmp 1) 25 "law.go:19" #[]).op, none⟩,
    ⟨(opBuildSliceO (some 17) 25 1 [(0, (.const (Value.int IntKind.u8 99)))] 5 1 1 (.int .u8 0) el25 (by kernel_rfl) (by decide) 25 "law.go:19" #[]).op, none⟩,
    ⟨(opConvSl (some 18) 25 (.tmp 17) 5 Try.underlying25 Try.underlying5 25 "law.go:19" #[{ on := 1, ground := Ground.data }]).op, none⟩,
    ⟨(opCallP p13 (some 19) [(.tmp 16), (.tmp 18)] #[25, 25] 33 "law.go:19" #[{ on := 0, ground := Ground.data }, { on := 2, ground := Ground.data }]).op, none⟩,
    ⟨(opMove (some 15) (.tmp 19) 33 "law.go:19" #[{ on := 3, ground := Ground.data }]).op, none⟩,
    ⟨(opExtract (some 20) (.tmp 15) 0 25 "law.go:19" #[{ on := 4, ground := Ground.data }]).op, none⟩,
    ⟨(opExtract (some 21) (.tmp 15) 1 3 "law.go:19" #[{ on := 4, ground := Ground.data }, { on := 8, ground := (Ground.gcOnly Departure.lateStores) }]).op, none⟩,
    ⟨(opExtract (some 22) (.tmp 15) 2 4 "law.go:19" #[{ on := 4, ground := Ground.data }, { on := 9, ground := (Ground.gcOnly Departure.lateStores) }]).op, none⟩,
    ⟨(opAssign (some 4) (.tmp 20) 25 "law.go:19" #[{ on := 5, ground := Ground.data }, { on := 3, ground := Ground.chain }, { on := 0, ground := Ground.phase }, { on := 1, ground := Ground.phase }, { on := 2, ground := Ground.phase }, { on := 3, ground := Ground.phase }, { on := 4, ground := Ground.phase }, { on := 5, ground := Ground.phase }, { on := 6, ground := (Ground.textOnly Departure.lateStores) }, { on := 7, ground := (Ground.textOnly Departure.lateStores) }]).op, none⟩,
    ⟨(opAssign (some 5) (.tmp 21) 3 "law.go:19" #[{ on := 6, ground := Ground.data }, { on := 8, ground := Ground.chain }, { on := 0, ground := Ground.phase }, { on := 1, ground := Ground.phase }, { on := 2, ground := Ground.phase }, { on := 3, ground := Ground.phase }, { on := 4, ground := Ground.phase }, { on := 5, ground := Ground.phase }, { on := 6, ground := Ground.phase }, { on := 7, ground := (Ground.textOnly Departure.lateStores) }, { on := 8, ground := Ground.phase }]).op, none⟩,
    ⟨(opAssign (some 6) (.tmp 22) 4 "law.go:19" #[{ on := 7, ground := Ground.data }, { on := 9, ground := Ground.chain }, { on := 0, ground := Ground.phase }, { on := 1, ground := Ground.phase }, { on := 2, ground := Ground.phase }, { on := 3, ground := Ground.phase }, { on := 4, ground := Ground.phase }, { on := 5, ground := Ground.phase }, { on := 6, ground := Ground.phase }, { on := 7, ground := Ground.phase }, { on := 8, ground := Ground.phase }, { on := 9, ground := Ground.phase }]).op, none⟩
  ] (by kernel_rfl)))
  (.seq (.live [0] (.region 3 [
    ⟨(opMove (some 23) (.tmp 3) 4 "law.go:20" #[]).op, none⟩,
    ⟨(opMove (some 24) (.tmp 23) 4 "law.go:20" #[{ on := 0, ground := Ground.data }]).op, none⟩,
    ⟨(opMove (some 25) (.tmp 6) 4 "law.go:20" #[{ on := 1, ground := Ground.guard }]).op, (some (1, 24, true))⟩,
    ⟨(opPick (some 26) (.tmp 24) (.tmp 25) (.const (Value.bool false)) 4 "law.go:20" #[{ on := 1, ground := Ground.data }, { on := 2, ground := Ground.data }]).op, none⟩,
    ⟨(opMove (some 27) (.tmp 26) 4 "law.go:20" #[{ on := 3, ground := Ground.data }, { on := 1, ground := Ground.chain }]).op, none⟩,
    ⟨(opMove (some 28) (.tmp 2) 3 "law.go:20" #[{ on := 4, ground := Ground.guard }]).op, (some (4, 27, true))⟩,
    ⟨(opBin (some 29) .eql 3 (.tmp 28) (.const (Value.int IntKind.i64 0)) 3 4 "law.go:20" #[{ on := 5, ground := Ground.data }, { on := 4, ground := Ground.guard }]).op, (some (4, 27, true))⟩,
    ⟨(opPick (some 30) (.tmp 27) (.tmp 29) (.const (Value.bool false)) 4 "law.go:20" #[{ on := 4, ground := Ground.data }, { on := 6, ground := Ground.data }]).op, none⟩,
    ⟨(opMove (some 31) (.tmp 30) 4 "law.go:20" #[{ on := 7, ground := Ground.data }, { on := 4, ground := Ground.chain }]).op, none⟩,
    ⟨(opMove (some 32) (.tmp 5) 3 "law.go:20" #[{ on := 8, ground := Ground.guard }]).op, (some (8, 31, true))⟩,
    ⟨(opBin (some 33) .eql 3 (.tmp 32) (.const (Value.int IntKind.i64 1)) 3 4 "law.go:20" #[{ on := 9, ground := Ground.data }, { on := 8, ground := Ground.guard }]).op, (some (8, 31, true))⟩,
    ⟨(opPick (some 34) (.tmp 31) (.tmp 33) (.const (Value.bool false)) 4 "law.go:20" #[{ on := 8, ground := Ground.data }, { on := 10, ground := Ground.data }]).op, none⟩,
    ⟨(opMove (some 35) (.tmp 34) 4 "law.go:20" #[{ on := 11, ground := Ground.data }, { on := 8, ground := Ground.chain }]).op, none⟩,
    ⟨(opMove (some 36) (.tmp 4) 25 "law.go:20" #[{ on := 12, ground := Ground.guard }]).op, (some (12, 35, true))⟩,
    ⟨(opLen (some 37) (.tmp 36) 25 (.slice 5) Try.underlying25 3 "law.go:20" #[{ on := 13, ground := Ground.data }, { on := 12, ground := Ground.guard }]).op, (some (12, 35, true))⟩,
    ⟨(opBin (some 38) .eql 3 (.tmp 37) (.const (Value.int IntKind.i64 256)) 3 4 "law.go:20" #[{ on := 14, ground := Ground.data }, { on := 12, ground := Ground.guard }]).op, (some (12, 35, true))⟩,
    ⟨(opPick (some 39) (.tmp 35) (.tmp 38) (.const (Value.bool false)) 4 "law.go:20" #[{ on := 12, ground := Ground.data }, { on := 15, ground := Ground.data }]).op, none⟩,
    ⟨(opMove (some 40) (.tmp 39) 4 "law.go:20" #[{ on := 16, ground := Ground.data }, { on := 12, ground := Ground.chain }]).op, none⟩,
    ⟨(opMove (some 41) (.tmp 4) 25 "law.go:20" #[{ on := 17, ground := Ground.guard }]).op, (some (17, 40, true))⟩,
    ⟨(opSlice (some 42) 25 (.tmp 41) none (some (.const (Value.int IntKind.i64 4))) none 5 1 Try.underlying25 sz5 25 "law.go:20" #[{ on := 18, ground := Ground.data }, { on := 17, ground := Ground.guard }]).op, (some (17, 40, true))⟩,
    ⟨(opBuildSlice (some 43) 25 4 [(0, (.const (Value.int IntKind.u8 2))), (1, (.const (Value.int IntKind.u8 3))), (2, (.const (Value.int IntKind.u8 2))), (3, (.const (Value.int IntKind.u8 0)))] 5 1 1 (.int .u8 0) el25 (by kernel_rfl) (by decide) 25 "law.go:20" #[{ on := 17, ground := Ground.guard }]).op, (some (17, 40, true))⟩,
    ⟨(opCallP p12 (some 44) [(.tmp 42), (.tmp 43)] #[25, 25] 4 "law.go:20" #[{ on := 19, ground := Ground.data }, { on := 20, ground := Ground.data }, { on := 17, ground := Ground.chain }, { on := 17, ground := Ground.guard }]).op, (some (17, 40, true))⟩,
    ⟨(opPick (some 45) (.tmp 40) (.tmp 44) (.const (Value.bool false)) 4 "law.go:20" #[{ on := 17, ground := Ground.data }, { on := 21, ground := Ground.data }]).op, none⟩,
    ⟨(opMove (some 46) (.tmp 45) 4 "law.go:20" #[{ on := 22, ground := Ground.data }, { on := 21, ground := Ground.chain }]).op, none⟩,
    ⟨(opMove (some 47) (.tmp 4) 25 "law.go:20" #[{ on := 23, ground := Ground.guard }]).op, (some (23, 46, true))⟩,
    ⟨(opSlice (some 48) 25 (.tmp 47) (some (.const (Value.int IntKind.i64 253))) none none 5 1 Try.underlying25 sz5 25 "law.go:20" #[{ on := 24, ground := Ground.data }, { on := 23, ground := Ground.guard }]).op, (some (23, 46, true))⟩,
    ⟨(opBytesStr (some 49) 25 9 (.tmp 48) 5 Try.underlying25 Try.underlying5 Try.underlying9 9 "law.go:20" #[{ on := 25, ground := Ground.data }, { on := 23, ground := Ground.guard }]).op, (some (23, 46, true))⟩,
    ⟨(opBinS (some 50) .eql 9 (.tmp 49) (.const (Value.string { data := #[99, 97, 98] })) 9 4 "law.go:20" #[{ on := 26, ground := Ground.data }, { on := 23, ground := Ground.guard }]).op, (some (23, 46, true))⟩,
    ⟨(opPick (some 51) (.tmp 46) (.tmp 50) (.const (Value.bool false)) 4 "law.go:20" #[{ on := 23, ground := Ground.data }, { on := 27, ground := Ground.data }]).op, none⟩,
    ⟨(opAssign (some 0) (.tmp 51) 4 "law.go:20" #[{ on := 28, ground := Ground.data }, { on := 23, ground := Ground.chain }, { on := 0, ground := Ground.phase }, { on := 1, ground := Ground.phase }, { on := 2, ground := Ground.phase }, { on := 3, ground := Ground.phase }, { on := 4, ground := Ground.phase }, { on := 5, ground := Ground.phase }, { on := 6, ground := Ground.phase }, { on := 7, ground := Ground.phase }, { on := 8, ground := Ground.phase }, { on := 9, ground := Ground.phase }, { on := 10, ground := Ground.phase }, { on := 11, ground := Ground.phase }, { on := 12, ground := Ground.phase }, { on := 13, ground := Ground.phase }, { on := 14, ground := Ground.phase }, { on := 15, ground := Ground.phase }, { on := 16, ground := Ground.phase }, { on := 17, ground := Ground.phase }, { on := 18, ground := Ground.phase }, { on := 19, ground := Ground.phase }, { on := 20, ground := Ground.phase }, { on := 21, ground := Ground.phase }, { on := 22, ground := Ground.phase }, { on := 23, ground := Ground.phase }, { on := 24, ground := Ground.phase }, { on := 25, ground := Ground.phase }, { on := 26, ground := Ground.phase }, { on := 27, ground := Ground.phase }, { on := 28, ground := Ground.phase }]).op, none⟩
  ] (by kernel_rfl)))
  (.live [0] .ret)))))

noncomputable def f8 : Fun Try.prog where
  id := 8
  fn := Try.f8
  hf := Try.func8
  hname := by kernel_rfl
  body := f8_b
  hbody := by kernel_rfl
  res := [rTmp 0]
  hres := by kernel_rfl
  n := 52
  hn := by kernel_rfl

end Go.Proofs.Ytblliolkgkgppaa.V

/- What the functions' runs come to; the right sides were printed by a tool, Lean checks them. -/
set_option linter.unusedVariables false
set_option maxRecDepth 100000
namespace Go.Proofs.Ytblliolkgkgppaa.V
open Go Go.V Go.RowKit

theorem great_run (F : Nat) (z : Bool) (l : List (List AV)) (st : St) :
    (f9.run F [.ns z 3 l] st : Ans) =
    branch (AV.bool (decide ((↑l.length : Int) > (100 : Int)))) (some (Fin.ret (AV.bool true), st))
      (loopRun (f9_l0.run F) [0, 3]
        (Cont.block 0 (Cont.then (f9_r0.run F (f9.leaveK Fun.done)) (f9.leaveK Fun.done))) F
        (Env.mk 20 [(0, AV.ns z 3 l), (3, AV.int IntKind.i64 (0 : Int))]) st) := by kernel_rfl

theorem great_round (F m : Nat) (K : Cont) (z : Bool) (l : List (List AV)) (i : Int) (st : St) :
    (loopRun (f9_l0.run F) [0, 3] K m.succ (Env.mk 20 [(0, .ns z 3 l), (3, .int .i64 i)]) st : Ans) =
    branch (AV.bool (decide (i < (↑l.length : Int))))
      (branch (AV.bool (inR l i))
        (branch (AV.bool ((LD.one (LT.ns 1)).is (List.drop 2 (V.rowAt l i))))
          (branch (AV.bool (decide ((↑(rwA (List.drop 2 (V.rowAt l i))).length : Int) > (1000 : Int))))
            (K AX.ret (Env.mk 20 [(2, AV.bool true)]) st)
            (loopRun (f9_l0.run F) [0, 3] K m
              (Env.mk 20
                [(0, AV.ns z 3 l), (3, AV.int IntKind.i64 (IntKind.i64.wrap (i + (1 : Int))))])
              st))
          none)
        none)
      (K (AX.exit 0) (Env.mk 20 []) st) := by kernel_rfl

theorem great_out (F : Nat) (st : St) :
    ((Cont.block 0 (Cont.then (f9_r0.run F (f9.leaveK Fun.done)) (f9.leaveK Fun.done))) (.exit 0) (Env.mk 20 []) st : Ans) =
    some (Fin.ret (AV.bool false), st) := by kernel_rfl

theorem great_ret (F : Nat) (b : Bool) (st : St) :
    ((Cont.block 0 (Cont.then (f9_r0.run F (f9.leaveK Fun.done)) (f9.leaveK Fun.done))) .ret (Env.mk 20 [(2, .bool b)]) st : Ans) =
    some (Fin.ret (AV.bool b), st) := by kernel_rfl

theorem alive_run (F : Nat) :
    (f8.run F [] ⟨[], []⟩ : Ans) =
    branch
      (AV.bool
        (byOk (bR zeroP) &&
          (byOk [[AV.int IntKind.u8 (97 : Int)], [AV.int IntKind.u8 (98 : Int)]] && apOk 2 1)))
      (branch
        (AV.bool
          (byOk (oR (addP (nR (bR zeroP)) [97, 98])) &&
            (byOk [[AV.int IntKind.u8 (99 : Int)]] && apOk 1 1)))
        (branch (AV.bool (oB (addP (nR (bR zeroP)) [97, 98])))
          (branch (AV.bool (oB (addP (nR (oR (addP (nR (bR zeroP)) [97, 98]))) [99])))
            (branch (AV.bool (addK (nR (bR zeroP)) [97, 98] == (0 : Int)))
              (branch (AV.bool (addK (nR (oR (addP (nR (bR zeroP)) [97, 98]))) [99] == (1 : Int)))
                (branch
                  (AV.bool
                    ((↑(oR (addP (nR (oR (addP (nR (bR zeroP)) [97, 98]))) [99])).length : Int) ==
                      (256 : Int)))
                  (if
                      (0 : Int) ≤ (4 : Int) ∧
                        (4 : Int) ≤
                          (↑(oR (addP (nR (oR (addP (nR (bR zeroP)) [97, 98]))) [99])).length :
                            Int) then
                    branch
                      (AV.bool
                        (byOk
                            (List.drop 0
                              (List.take 4
                                (oR (addP (nR (oR (addP (nR (bR zeroP)) [97, 98]))) [99])))) &&
                          byOk
                            [[AV.int IntKind.u8 (2 : Int)], [AV.int IntKind.u8 (3 : Int)], [AV.int IntKind.u8 (2 : Int)],
                              [AV.int IntKind.u8 (0 : Int)]]))
                      (branch
                        (AV.bool
                          (nR
                              (List.drop 0
                                (List.take 4
                                  (oR (addP (nR (oR (addP (nR (bR zeroP)) [97, 98]))) [99])))) ==
                            [2, 3, 2, 0]))
                        (if
                            (0 : Int) ≤ (253 : Int) ∧
                              (253 : Int) ≤
                                (↑(oR
                                        (addP (nR (oR (addP (nR (bR zeroP)) [97, 98])))
                                          [99])).length :
                                  Int) then
                          onSome
                            (numsOf
                              (List.drop 253
                                (List.take
                                  (oR (addP (nR (oR (addP (nR (bR zeroP)) [97, 98]))) [99])).length
                                  (oR (addP (nR (oR (addP (nR (bR zeroP)) [97, 98]))) [99])))))
                            none fun (o : List Int) =>
                            some
                              (Fin.ret
                                  (AV.bool
                                    ((textOf o).toList ==
                                      [UInt8.ofNat 99, UInt8.ofNat 97, UInt8.ofNat 98])),
                                St.mk [Ob.gone, Ob.gone] [])
                        else none)
                        (some (Fin.ret (AV.bool false), St.mk [Ob.gone, Ob.gone] [])))
                      none
                  else none)
                  (some (Fin.ret (AV.bool false), St.mk [Ob.gone, Ob.gone] [])))
                (some (Fin.ret (AV.bool false), St.mk [Ob.gone, Ob.gone] [])))
              (some (Fin.ret (AV.bool false), St.mk [Ob.gone, Ob.gone] [])))
            (some (Fin.ret (AV.bool false), St.mk [Ob.gone, Ob.gone] [])))
          (some (Fin.ret (AV.bool false), St.mk [Ob.gone, Ob.gone] [])))
        none)
      none := by kernel_rfl

end Go.Proofs.Ytblliolkgkgppaa.V

/- Page: what is too great to be looked at; a page that the document fixes. -/
set_option linter.unusedVariables false
namespace Go.Proofs.Ytblliolkgkgppaa.V
open Go Go.V Go.RowKit

/-- A call. -/
noncomputable def okCall (r : List AV) : Bool :=
  match r with
  | [.int .i64 _, .int .i64 _, .ns _ 1 d] => okR d && fit d.length
  | _ => false
noncomputable def okCl (l : List (List AV)) : Bool := l.all okCall && fit l.length
theorem okCall_spec {r : List AV} (h : okCall r = true) : ∃ w s z d, r = [.int .i64 w, .int .i64 s, .ns z 1 d] ∧ byOk d = true := by
  unfold okCall at h
  split at h
  · exact ⟨_, _, _, _, rfl, h⟩
  · cases h
theorem okCl_iff {l : List (List AV)} : okCl l = true ↔ (∀ r ∈ l, okCall r = true) ∧ l.length < 4611686018427387904 := by
  rw [okCl, Bool.and_eq_true, List.all_eq_true, fit_iff]
theorem okCl_scoped {n m : Nat} : ∀ {l : List (List AV)}, (∀ r ∈ l, okCall r = true) → ScopedR n m l
  | [], _ => trivial
  | r :: l, h => by
    obtain ⟨w, s, z, d, rfl, hd⟩ := okCall_spec (h r (by simp))
    exact ⟨⟨trivial, trivial, okR_scoped (byOk_iff.mp hd).1, trivial⟩, okCl_scoped fun x hx => h x (by simp [hx])⟩
def bigCall (r : List AV) : Bool := decide (((rwA (r.drop 2)).length : Int) > 1000)
noncomputable def greatB (l : List (List AV)) : Bool := opq (decide ((l.length : Int) > 100) || l.any bigCall)
theorem call_is {r : List AV} (h : okCall r = true) : (LD.one (LT.ns 1)).is (r.drop 2) = true := by
  obtain ⟨w, s, z, d, rfl, hd⟩ := okCall_spec h
  rfl
theorem great_all (z : Bool) (l : List (List AV)) (h : okCl l = true) (st : St) : f9.run (l.length + 1) [.ns z 3 l] st = some (.ret (.bool (greatB l)), st) := by
  rw [okCl_iff] at h
  rw [great_run, greatB, opq_eq]
  by_cases h1 : (l.length : Int) > 100
  · rw [branch_of (by simpa using h1)]; simp [h1]
  · rw [branch_not (by simpa using h1)]
    have := find_loop (R := fun m i => loopRun (f9_l0.run (l.length + 1)) [0, 3] (Cont.block 0 (Cont.then (f9_r0.run (l.length + 1) (f9.leaveK Fun.done)) (f9.leaveK Fun.done))) m (Env.mk 20 [(0, .ns z 3 l), (3, .int .i64 (i : Int))]) st)
      (l := l) (p := bigCall) (ok := fun r => (LD.one (LT.ns 1)).is (r.drop 2)) (found := fun _ => some (.ret (.bool true), st)) (out := some (.ret (.bool false), st)) (fun m i hi => by
        show loopRun _ _ _ m.succ _ _ = _
        rw [great_round, wrap_succ (by omega), great_ret, great_out]
        rfl) (fun r hr => call_is (h.1 r hr)) l.length 0 (l.length + 1) (by omega) (by omega)
    rw [List.drop_zero] at this
    refine Eq.trans this ?_
    simp only [h1, decide_false, Bool.false_or, ← idxFrom_isSome (l := l) (i := 0)]
    cases idxFrom bigCall l 0 <;> rfl
noncomputable def p9 : POrc Try.prog := f9.farN
  (fun args k => match args with
    | [x] => onNs 3 x fun _ l => ifT (okCl l) (k (.bool (greatB l)))
    | _ => none)
  fun args k fin h => by
    split at h
    · rename_i x
      obtain ⟨z, l, h, hx⟩ := onNs_spec h
      obtain ⟨h1, h⟩ := ifT_spec h
      exact ⟨_, _, h, .cons hx .nil, ⟨okCl_scoped (okCl_iff.mp h1).1, trivial⟩, trivial, l.length + 1, .bool (greatB l), ⟨[], []⟩, rfl, great_all z l h1 _⟩
    · cases h
theorem p9_nat : p9.Nat := by
  intro args k
  show (match args with | [x] => _ | _ => _) = thenA (match args with | [x] => _ | _ => _) k
  split
  · exact onNs_nat fun _ _ => ifT_nat rfl
  · rfl

/-! ### alive -/
theorem zeroP_eq : zeroP = List.replicate 256 0 := by rw [zeroP, opq_eq]
def pg1 : List Nat := (addP (List.replicate 256 0) [97, 98]).getD []
def pg2 : List Nat := (addP pg1 [99]).getD []
theorem al1 : addP (List.replicate 256 0) [97, 98] = some pg1 := by
  have : (addP (List.replicate 256 0) [97, 98]).isSome = true := by kernel_rfl
  obtain ⟨x, hx⟩ := Option.isSome_iff_exists.mp this
  rw [pg1, hx]; rfl
theorem al2 : addP pg1 [99] = some pg2 := by
  have : (addP pg1 [99]).isSome = true := by kernel_rfl
  obtain ⟨x, hx⟩ := Option.isSome_iff_exists.mp this
  rw [pg2, hx]; rfl
theorem al3 : (freeK (ofS (List.replicate 256 0)) == 0 && freeK (ofS pg1) == 1 && pg2.length == 256 && pg2.take 4 == [2, 3, 2, 0] && pg2.drop 253 == [99, 97, 98] && pg1.all (fun b => decide (b < 256)) && pg2.all (fun b => decide (b < 256)) && pg1.length == 256) = true := by kernel_rfl
theorem alive_true : ∃ st', f8.run 0 [] ⟨[], []⟩ = some (.ret (.bool true), st') := by
  have h := al3
  simp only [Bool.and_eq_true, beq_iff_eq, List.all_eq_true, decide_eq_true_eq] at h
  obtain ⟨⟨⟨⟨⟨⟨⟨e1, e2⟩, e3⟩, e4⟩, e5⟩, e6⟩, e7⟩, e8⟩ := h
  have hz : byOk (bR (List.replicate 256 0)) = true := byOk_bR (fun b hb => by rw [List.eq_of_mem_replicate hb]; omega) (by rw [List.length_replicate]; omega)
  have hb2 : byOk (bR pg2) = true := byOk_bR e7 (by omega)
  have k1 : addK (List.replicate 256 0) [97, 98] = 0 := by rw [addK, opq_eq, al1, e1]; rfl
  have k2 : addK pg1 [99] = 1 := by rw [addK, opq_eq, al2, e2]; rfl
  have c2 : (byOk [[AV.int IntKind.u8 (97 : Int)], [AV.int IntKind.u8 (98 : Int)]] && apOk 2 1) = true := by
    rw [Bool.and_eq_true, apOk_iff]
    exact ⟨byOk_bR (l := [97, 98]) (by simp) (by simp), by decide⟩
  have c1 : (byOk [[AV.int IntKind.u8 (99 : Int)]] && apOk 1 1) = true := by
    rw [Bool.and_eq_true, apOk_iff]
    exact ⟨byOk_bR (l := [99]) (by simp) (by simp), by decide⟩
  have c4 : byOk [[AV.int IntKind.u8 (2 : Int)], [AV.int IntKind.u8 (3 : Int)], [AV.int IntKind.u8 (2 : Int)], [AV.int IntKind.u8 (0 : Int)]] = true := byOk_bR (l := [2, 3, 2, 0]) (by simp) (by simp)
  have hd : List.drop 0 (List.take 4 (bR pg2)) = bR [2, 3, 2, 0] := by rw [List.drop_zero, bR_take, e4]
  have hl : (bR pg2).length = 256 := by rw [bR_length, e3]
  rw [alive_run, zeroP_eq, nR_bR, branch_of (by rw [hz, c2]; rfl), al1, oR_some, branch_of (by rw [byOk_bR e6 (by omega), c1]; rfl), oB_some, branch_true, nR_bR, al2, oB_some, branch_true, k1, branch_of (show ((0 : Int) == 0) = true from rfl), k2, branch_of (show ((1 : Int) == 1) = true from rfl), oR_some, hl,
    branch_of (show (((256 : Nat) : Int) == 256) = true from rfl), if_pos ⟨by omega, by omega⟩, hd, branch_of (by rw [c4, byOk_bR (l := [2, 3, 2, 0]) (by simp) (by simp)]; rfl), nR_bR, branch_of (show (([2, 3, 2, 0] : List Nat) == [2, 3, 2, 0]) = true from rfl), if_pos ⟨by omega, by omega⟩, show List.drop 253 (List.take 256 (bR pg2)) = bR [99, 97, 98] by rw [List.take_of_length_le (by omega), bR_drop, e5]]
  exact ⟨⟨[.gone, .gone], []⟩, by kernel_rfl⟩
noncomputable def p8 : POrc Try.prog := f8.farN
  (fun args k => match args with
    | [] => k (.bool true)
    | _ => none)
  fun args k fin h => by
    split at h
    · obtain ⟨st', h1⟩ := alive_true
      exact ⟨_, _, h, .nil, trivial, trivial, 0, .bool true, st', rfl, h1⟩
    · cases h
theorem p8_nat : p8.Nat := by
  intro args k
  show (match args with | [] => _ | _ => _) = thenA (match args with | [] => _ | _ => _) k
  split <;> rfl
end Go.Proofs.Ytblliolkgkgppaa.V

/- Page: a page's bytes are read as its slots; what Add, Put and Cut do to slots (plain). -/
set_option linter.unusedVariables false
namespace Go.Proofs.Ytblliolkgkgppaa.V
open Go Go.V Go.RowKit

def code (o : Option (List Nat)) : Nat := match o with
  | none => 0
  | some b => b.length + 1
def dat : Sl → List Nat
  | [] => []
  | o :: s => dat s ++ o.getD []
theorem dat_len (s : Sl) : (dat s).length = sumN s := by
  induction s with
  | nil => rfl
  | cons o s ih => rw [dat, List.length_append, ih, sumN_cons, olen]; omega
theorem putN_app (P R D r : List Nat) (h : R.length = r.length) : putN (P ++ (R ++ D)) P.length r = P ++ (r ++ D) := by
  rw [putN, List.take_left, ← List.append_assoc P R D, show P.length + r.length = (P ++ R).length by simp [h], List.drop_left, List.append_assoc]
theorem putN_mid (A : List Nat) (m k : Nat) (b D : List Nat) (h : b.length = k) (hk : k ≤ m) : putN (A ++ List.replicate m 0 ++ D) (A.length + (m - k)) b = A ++ List.replicate (m - k) 0 ++ (b ++ D) := by
  have e : A ++ List.replicate m 0 ++ D = (A ++ List.replicate (m - k) 0) ++ (List.replicate k 0 ++ D) := by
    rw [List.append_assoc, List.append_assoc, ← List.append_assoc (List.replicate (m - k) 0), List.replicate_append_replicate, show m - k + k = m by omega]
  rw [e, show A.length + (m - k) = (A ++ List.replicate (m - k) 0).length by simp]
  exact putN_app _ _ _ _ (by simp [h])
theorem pgFold_lay : ∀ (s : Sl) (i : Nat) (A : List Nat) (m : Nat) (D : List Nat), A.length = 1 + i → s.length + sumN s ≤ m →
    pgFold s i (A ++ List.replicate m 0 ++ D) (A.length + m) = A ++ s.map code ++ List.replicate (m - s.length - sumN s) 0 ++ (dat s ++ D)
  | [], i, A, m, D, hA, hm => by simp [pgFold, dat, sumN]
  | none :: s, i, A, m, D, hA, hm => by
    rw [sumN_cons, List.length_cons] at hm
    have h0 : olen none = 0 := rfl
    obtain ⟨m', rfl⟩ : ∃ m', m = m' + 1 := ⟨m - 1, by omega⟩
    have e : A ++ List.replicate (m' + 1) 0 ++ D = (A ++ [0]) ++ List.replicate m' 0 ++ D := by simp [List.replicate_succ]
    have ih := pgFold_lay s (i + 1) (A ++ [0]) m' D (by simp; omega) (by omega)
    rw [List.length_append, List.length_singleton] at ih
    rw [pgFold, e, show A.length + (m' + 1) = A.length + 1 + m' by omega, ih, sumN_cons, h0, List.length_cons, show m' + 1 - (s.length + 1) - (0 + sumN s) = m' - s.length - sumN s by omega]
    simp [code, dat]
  | some b :: s, i, A, m, D, hA, hm => by
    rw [sumN_cons, List.length_cons] at hm
    have h0 : olen (some b) = b.length := rfl
    obtain ⟨m', rfl⟩ : ∃ m', m = m' + 1 := ⟨m - 1, by omega⟩
    have e : (A ++ List.replicate (m' + 1) 0 ++ D).set (1 + i) (b.length + 1) = (A ++ [b.length + 1]) ++ List.replicate m' 0 ++ D := by
      rw [← hA, List.append_assoc, List.set_append_right _ _ (Nat.le_refl _), Nat.sub_self, List.replicate_succ]
      simp
    have ih := pgFold_lay s (i + 1) (A ++ [b.length + 1]) (m' - b.length) (b ++ D) (by simp; omega) (by omega)
    rw [pgFold, e, show A.length + (m' + 1) - b.length = (A ++ [b.length + 1]).length + (m' - b.length) by simp; omega, putN_mid _ _ _ _ _ rfl (by omega), ih, sumN_cons, h0, List.length_cons,
      show m' + 1 - (s.length + 1) - (b.length + sumN s) = m' - b.length - s.length - sumN s by omega]
    simp [code, dat]
/-- A page's bytes: how many slots; their sizes; noughts; their bytes, the last one's first. -/
theorem pgB_lay {s : Sl} (h : szN s ≤ 256) : pgB s = [s.length] ++ s.map code ++ List.replicate (255 - s.length - sumN s) 0 ++ dat s := by
  have e : (List.replicate 256 0).set 0 s.length = [s.length] ++ List.replicate 255 0 ++ [] := by
    rw [show List.replicate 256 (0 : Nat) = 0 :: List.replicate 255 0 from List.replicate_succ, List.set_cons_zero, List.append_nil]; rfl
  have := pgFold_lay s 0 [s.length] 255 [] (by simp) (by rw [szN] at h; omega)
  rw [pgB, e, show (256 : Nat) = [s.length].length + 255 from rfl, this]
  simp
theorem decL_lay : ∀ (s : Sl) (X D : List Nat), (∀ o ∈ s, olen o ≤ 200) → decL (s.map code) (X ++ dat s).length (X ++ dat s ++ D) = some s
  | [], X, D, h => rfl
  | none :: s, X, D, h => by
    have ih := decL_lay s X D fun o ho => h o (by simp [ho])
    simp only [List.map_cons, code, decL, if_true, dat, Option.getD_none, List.append_nil]
    rw [ih]; rfl
  | some b :: s, X, D, h => by
    have ih := decL_lay s X (b ++ D) fun o ho => h o (by simp [ho])
    have hl : (X ++ dat (some b :: s)).length = (X ++ dat s).length + b.length := by simp [dat]; omega
    have e : X ++ dat (some b :: s) ++ D = X ++ dat s ++ (b ++ D) := by simp [dat]
    simp only [List.map_cons, code, decL]
    rw [if_neg (by omega), hl, if_neg (by omega), show (X ++ dat s).length + b.length - (b.length + 1 - 1) = (X ++ dat s).length by omega, e, ih]
    simp only [Option.map_some]
    congr 2
    rw [show (X ++ dat s).length + b.length = (X ++ dat s ++ b).length by simp; omega, ← List.append_assoc, List.take_left, List.drop_left]
/-- Slots without free ones at the end are read as they were written. -/
theorem ofP_pgB {t : Sl} (hk : pgOk t = true) (hm : trm t = true) : ofP (pgB t) = some t := by
  obtain ⟨h1, h2⟩ := pgOk_iff.mp hk
  have hl := pgB_len hk
  have hd : (pgB t).headD 0 = t.length := by rw [pgB_lay h1]; rfl
  have hc : (t.map code).length = t.length := by simp
  have hsz : sumN t + t.length ≤ 255 := by rw [szN] at h1; omega
  have ht : ((pgB t).take (1 + t.length)).drop 1 = t.map code := by
    rw [pgB_lay h1, List.append_assoc ([t.length] ++ t.map code), show 1 + t.length = ([t.length] ++ t.map code).length by simp; omega, List.take_left]
    rfl
  have hD : decL (t.map code) 256 (pgB t) = some t := by
    have := decL_lay t ([t.length] ++ t.map code ++ List.replicate (255 - t.length - sumN t) 0) [] h2
    rw [List.append_nil, ← pgB_lay h1, hl] at this
    exact this
  rw [ofP, hl, hd, ht, hD]
  simp only [beq_self_eq_true, cond_true]
  rw [fine, hk, hm]
  simp
theorem trm_trS (s : Sl) : trm (trS s) = true := by
  unfold trm trS
  rw [List.getLast?_reverse]
  have : ∀ t : Sl, (t.dropWhile (·.isNone)).head? ≠ some none := by
    intro t
    induction t with
    | nil => simp
    | cons o t ih =>
      rw [List.dropWhile_cons]
      cases o with
      | none => exact ih
      | some b => simp
  have h := this s.reverse
  cases h2 : (s.reverse.dropWhile (·.isNone)).head? with
  | none => rfl
  | some o => cases o with
    | none => exact absurd h2 h
    | some b => rfl
theorem ofP_toP {s : Sl} {q : List Nat} (hm : trm s = true) (h : toP s = some q) : ofP q = some s ∧ pgOk s = true ∧ q = pgB s := by
  unfold toP at h
  split at h
  · rename_i hk
    cases h
    exact ⟨ofP_pgB hk hm, hk, rfl⟩
  · cases h
/-- A page of bytes. -/
def Pg (p : List Nat) : Prop := (∀ b ∈ p, b < 256) ∧ p.length = 256 ∧ ofB p = true
theorem ofS_some {p : List Nat} {s : Sl} (h : ofP p = some s) : ofS p = s ∧ ofB p = true := by
  rw [ofS, ofB, h]; exact ⟨rfl, rfl⟩
theorem Pg.slots {p : List Nat} (h : Pg p) : ofP p = some (ofS p) ∧ okSl (ofS p) ∧ pgOk (ofS p) = true ∧ trm (ofS p) = true ∧ pgB (ofS p) = p := by
  obtain ⟨h1, h2, h3⟩ := h
  cases e : ofP p with
  | none => rw [ofB, e] at h3; cases h3
  | some s =>
    have hs := (ofS_some e).1
    obtain ⟨_, _, k1, k2, k3⟩ := ofP_some e
    rw [hs]
    exact ⟨rfl, okSl_of h1 e, k1, k3, k2⟩
/-- What comes of slots is a page. -/
theorem Pg.of {s : Sl} {q : List Nat} (hs : okSl s) (hm : trm s = true) (h : toP s = some q) : Pg q ∧ ofS q = s := by
  obtain ⟨h1, h2, rfl⟩ := ofP_toP hm h
  exact ⟨⟨pgB_lt hs h2, pgB_len h2, (ofS_some h1).2⟩, (ofS_some h1).1⟩
theorem Pg.put {p b q : List Nat} {i : Int} (hp : Pg p) (hb : ∀ x ∈ b, x < 256) (hbl : b.length < 4611686018427387904) (h : putP p i b = some q) : Pg q ∧ ofS q = withS (ofS p) i.toNat (some b) ∧ 0 ≤ i ∧ i ≤ 250 := by
  unfold putP at h
  rw [if_pos hp.2.2, putS] at h
  split at h
  · rename_i hi
    have hl := len_ofS p
    have hok : okSl (withS (ofS p) i.toNat (some b)) := okSl_with hp.slots.2.1 (by omega) (by omega) fun c hc => by cases hc; exact ⟨hb, hbl⟩
    obtain ⟨k1, k2⟩ := Pg.of hok (trm_trS _) h
    exact ⟨k1, k2, hi⟩
  · cases h
theorem zeros_pg : Pg (List.replicate 256 0) ∧ ofS (List.replicate 256 0) = [] := by
  have h : ofP (List.replicate 256 0) = some [] := by kernel_rfl
  exact ⟨⟨fun b hb => by rw [List.eq_of_mem_replicate hb]; omega, List.length_replicate, (ofS_some h).2⟩, (ofS_some h).1⟩
end Go.Proofs.Ytblliolkgkgppaa.V

/- Page: what Add does (plain). -/
set_option linter.unusedVariables false
namespace Go.Proofs.Ytblliolkgkgppaa.V
open Go Go.V Go.RowKit

theorem trS_id {t : Sl} (h : trm t = true) : trS t = t := by
  rcases List.eq_nil_or_concat t with rfl | ⟨t', o, rfl⟩
  · rfl
  · rw [List.concat_eq_append] at *
    cases o with
    | none => simp [trm] at h
    | some b => rw [trS, List.reverse_append, List.reverse_singleton, List.singleton_append, List.dropWhile_cons]; simp
theorem trm_set {s : Sl} (h : trm s = true) (k : Nat) (b : List Nat) : trm (s.set k (some b)) = true := by
  rcases List.eq_nil_or_concat s with rfl | ⟨s', o, rfl⟩
  · rfl
  · rw [List.concat_eq_append] at *
    by_cases hk : k < s'.length
    · rw [List.set_append_left _ _ hk]
      cases o with
      | none => simp [trm] at h
      | some c => simp [trm]
    · rw [List.set_append_right _ _ (by omega)]
      rcases Nat.eq_zero_or_pos (k - s'.length) with h0 | h0
      · rw [h0]; simp [trm]
      · rw [List.set_eq_of_length_le (by simp; omega)]
        exact h
theorem trm_snoc (s : Sl) (b : List Nat) : trm (s ++ [some b]) = true := by simp [trm]
/-- Is a slot free? then none is needed more. -/
def mS (s : Sl) : Nat := if s.any (·.isNone) then 0 else 1
theorem free_at {s : Sl} (h : s.any (·.isNone) = true) : ∃ hk : freeK s < s.length, s[freeK s] = none := by
  have hk : freeK s < s.length := List.findIdx_lt_length.mpr (by
    obtain ⟨x, hx, h2⟩ := List.any_eq_true.mp h
    exact ⟨x, hx, h2⟩)
  refine ⟨hk, ?_⟩
  have h3 : s[freeK s].isNone = true := List.findIdx_getElem (w := hk)
  exact Option.isNone_iff_eq_none.mp h3
theorem sumN_set_none {s : Sl} {k : Nat} (hk : k < s.length) (h : s[k] = none) (b : List Nat) : sumN (s.set k (some b)) = sumN s + b.length := by
  induction s generalizing k with
  | nil => simp at hk
  | cons x s ih =>
    cases k with
    | zero =>
      simp only [List.getElem_cons_zero] at h
      subst h
      rw [List.set_cons_zero, sumN_cons, sumN_cons]
      show b.length + sumN s = 0 + sumN s + b.length
      omega
    | succ k =>
      rw [List.set_cons_succ, sumN_cons, sumN_cons, ih (by simpa using hk) (by simpa using h)]; omega
/-- Where Add lays bytes: what comes of it. -/
theorem with_free {s : Sl} (hm : trm s = true) (b : List Nat) :
    szN (withS s (freeK s) (some b)) = szN s + mS s + b.length ∧ (∀ o, o ∈ withS s (freeK s) (some b) → o ∈ s ∨ o = some b) ∧ some b ∈ withS s (freeK s) (some b) ∧ (withS s (freeK s) (some b)).length = s.length + mS s := by
  cases ha : s.any (·.isNone) with
  | true =>
    obtain ⟨hk, hn⟩ := free_at ha
    have hp : padS s (freeK s + 1) = s := by rw [padS, show freeK s + 1 - s.length = 0 by omega]; simp
    have e : withS s (freeK s) (some b) = s.set (freeK s) (some b) := by rw [withS, hp, trS_id (trm_set hm _ _)]
    have h0 : mS s = 0 := by rw [mS, if_pos ha]
    rw [e, h0, szN, szN, sumN_set_none hk hn, List.length_set]
    refine ⟨by omega, fun o ho => ?_, ?_, by omega⟩
    · rcases List.mem_or_eq_of_mem_set ho with h | h
      · exact .inl h
      · exact .inr h
    · rw [List.mem_iff_getElem]
      exact ⟨freeK s, by rw [List.length_set]; exact hk, by simp⟩
  | false =>
    have hk := freeK_none ha
    have hp : padS s (freeK s + 1) = s ++ [none] := by rw [padS, hk, show s.length + 1 - s.length = 1 by omega]; rfl
    have e : withS s (freeK s) (some b) = s ++ [some b] := by
      rw [withS, hp, hk, List.set_append_right _ _ (Nat.le_refl _), Nat.sub_self, List.set_cons_zero, trS_id (trm_snoc _ _)]
    have h1 : mS s = 1 := by rw [mS, if_neg (by simp [ha])]
    rw [e, h1, szN, szN, sumN_append, List.length_append]
    have : sumN [some b] = b.length := by simp [sumN, olen]
    refine ⟨by simp; omega, fun o ho => ?_, by simp, by simp⟩
    rcases List.mem_append.mp ho with h | h
    · exact .inl h
    · exact .inr (by simpa using h)
theorem pgOk_free {s : Sl} (hm : trm s = true) (hk : pgOk s = true) (b : List Nat) : pgOk (withS s (freeK s) (some b)) = decide (szN s + mS s + b.length ≤ 256 ∧ b.length ≤ 200) := by
  obtain ⟨h1, h2, h3, _⟩ := with_free hm b
  obtain ⟨k1, k2⟩ := pgOk_iff.mp hk
  rw [Bool.eq_iff_iff, pgOk_iff, decide_eq_true_iff, h1]
  constructor
  · rintro ⟨e1, e2⟩
    exact ⟨e1, e2 _ h3⟩
  · rintro ⟨e1, e2⟩
    refine ⟨e1, fun o ho => ?_⟩
    rcases h2 o ho with h | h
    · exact k2 o h
    · rw [h]; exact e2
theorem freeK_le (s : Sl) : freeK s ≤ s.length := List.findIdx_le_length
/-- What Add answers. -/
theorem addP_eq {p : List Nat} (hp : Pg p) (b : List Nat) : addP p b = if freeK (ofS p) ≤ 250 ∧ szN (ofS p) + mS (ofS p) + b.length ≤ 256 ∧ b.length ≤ 200 then some (pgB (withS (ofS p) (freeK (ofS p)) (some b))) else none := by
  obtain ⟨_, _, k1, k2, _⟩ := hp.slots
  rw [addP, if_pos hp.2.2, putP, if_pos hp.2.2, putS, Int.toNat_natCast, toP, pgOk_free k2 k1]
  by_cases h1 : freeK (ofS p) ≤ 250
  · rw [if_pos ⟨by omega, by omega⟩]
    by_cases h2 : szN (ofS p) + mS (ofS p) + b.length ≤ 256 ∧ b.length ≤ 200
    · rw [if_pos (by simpa using h2), if_pos ⟨h1, h2⟩]
    · rw [if_neg (by simpa using h2), if_neg (fun h => h2 h.2)]
  · rw [if_neg (by omega), if_neg (fun h => h1 h.1)]
theorem Pg.add {p b q : List Nat} (hp : Pg p) (hb : ∀ x ∈ b, x < 256) (h : addP p b = some q) : Pg q ∧ ofS q = withS (ofS p) (freeK (ofS p)) (some b) ∧ freeK (ofS p) ≤ 250 ∧ szN (ofS p) + mS (ofS p) + b.length ≤ 256 ∧ b.length ≤ 200 := by
  have h2 := h
  rw [addP_eq hp] at h2
  split at h2
  · rename_i hc
    rw [addP, if_pos hp.2.2] at h
    obtain ⟨k1, k2, _⟩ := hp.put hb (by omega) h
    rw [Int.toNat_natCast] at k2
    exact ⟨k1, k2, hc⟩
  · cases h2
/-- Pages that Add makes have no more slots than may be. -/
theorem add_len {p b q : List Nat} (hp : Pg p) (hl : (ofS p).length ≤ 251) (hb : ∀ x ∈ b, x < 256) (h : addP p b = some q) : (ofS q).length ≤ 251 := by
  obtain ⟨_, e, h1, _⟩ := hp.add hb h
  obtain ⟨_, _, _, h2⟩ := with_free hp.slots.2.2.2.1 b
  rw [e, h2]
  unfold mS
  split
  · omega
  · rename_i ha
    rw [freeK_none (Bool.eq_false_iff.mpr ha)] at h1
    omega

/-! ### Room -/
theorem room_cases {s : Sl} (hl : s.length ≤ 251) : (roomI s = -1 ∧ (256 < szN s + mS s ∨ 250 < freeK s)) ∨ (0 ≤ roomI s ∧ roomI s ≤ 200 ∧ freeK s ≤ 250 ∧ (szN s : Int) + mS s + roomI s ≤ 256 ∧ (roomI s = 200 ∨ (szN s : Int) + mS s + roomI s = 256)) := by
  have hf : freeK s ≤ 250 ∨ (s.any (·.isNone) = false ∧ 250 < s.length) := by
    cases ha : s.any (·.isNone) with
    | true => left; obtain ⟨hk, _⟩ := free_at ha; omega
    | false =>
      rw [freeK_none ha]
      rcases Nat.lt_or_ge 250 s.length with h | h
      · exact .inr ⟨rfl, h⟩
      · exact .inl h
  unfold roomI mS
  cases ha : s.any (·.isNone) with
  | true =>
    simp only [if_true]
    rcases hf with hf | ⟨h, _⟩
    · split
      · left; refine ⟨rfl, .inl ?_⟩; omega
      · right; refine ⟨?_, ?_, hf, ?_, ?_⟩ <;> omega
    · rw [ha] at h; cases h
  | false =>
    simp only [Bool.false_eq_true, if_false]
    have hk := freeK_none ha
    split
    · left; refine ⟨rfl, ?_⟩; omega
    · right; refine ⟨?_, ?_, ?_, ?_, ?_⟩ <;> omega
theorem room_le (s : Sl) : roomI s ≤ 200 ∧ roomI s ≤ max 0 (256 - (szN s : Int)) := by
  unfold roomI
  cases s.any (·.isNone) with
  | true => simp only [if_true]; split <;> omega
  | false => simp only [Bool.false_eq_true, if_false]; split <;> omega
end Go.Proofs.Ytblliolkgkgppaa.V

/- The functions' pieces, as told by gen.py. -/
set_option linter.unusedVariables false
set_option maxRecDepth 20000
namespace Go.Proofs.Ytblliolkgkgppaa.V
open Go Go.V Go.RowKit


/-! ### 4: interlock/interlocklaw06.PageRoom (22); results 2; slots: 0 calls, 1 calls, 3 p, 4 i, 5 q, 6 _, 7 ok, 8 n, 9 _, 10 _, 11 more, 12 q, 13 _, 14 ok -/
/-- A loop's round; at its head live: 0 calls, 3 p, 4 i -/
noncomputable def f4_l0 : Sim Try.prog :=
  (.seq (.seq (.live [0, 3, 4, 23] (.region 7 [
    ⟨(opMove (some 20) (.tmp 4) 3 "law.go:155" #[]).op, none⟩,
    ⟨(opMove (some 21) (.tmp 0) 22 "law.go:155" #[]).op, none⟩,
    ⟨(opLen (some 22) (.tmp 21) 22 (.slice 29) Try.underlying22 3 "law.go:155" #[{ on := 1, ground := Ground.data }]).op, none⟩,
    ⟨(opBin (some 23) .lss 3 (.tmp 20) (.tmp 22) 3 4 "law.go:155" #[{ on := 0, ground := Ground.data }, { on := 2, ground := Ground.data }]).op, none⟩
  ] (by kernel_rfl)))
  (.cond (.tmp 23)
    .skip
    (.live [3] (.exit 0))))
  (.seq (.block 1 (.seq (.live [0, 3, 4, 5, 7] (.region 9 [
      ⟨(opMove (some 27) (.tmp 3) 25 "law.go:156" #[]).op, none⟩,
      ⟨(opMove (some 28) (.tmp 0) 22 "law.go:156" #[]).op, none⟩,
      ⟨(opMove (some 29) (.tmp 4) 3 "law.go:156" #[]).op, none⟩,
      ⟨(opIndexAddrT (some 30) 22 (.tmp 28) (.tmp 29) 29 3 Try.underlying22 sz29 0 "law.go:156" #[{ on := 1, ground := Ground.data }, { on := 2, ground := Ground.data }]).op, none⟩,
      ⟨(opFieldAddr (some 31) 29 (.tmp 30) 2 2 1 false fl29_2 (by decide) 0 "law.go:156" #[{ on := 3, ground := Ground.data }]).op, none⟩,
      ⟨(opLoadT (.one (.ns 1)) (some 32) 25 (.tmp 31) (.slice 5) Try.underlying25 1 sz25 (by kernel_rfl) 25 "law.go:156" #[{ on := 4, ground := Ground.data }]).op, none⟩,
      ⟨(opCallP p13 (some 33) [(.tmp 27), (.tmp 32)] #[25, 25] 33 "law.go:156" #[{ on := 0, ground := Ground.data }, { on := 5, ground := Ground.data }]).op, none⟩,
      ⟨(opMove (some 26) (.tmp 33) 33 "law.go:156" #[{ on := 6, ground := Ground.data }]).op, none⟩,
      ⟨(opExtract (some 34) (.tmp 26) 0 25 "law.go:156" #[{ on := 7, ground := Ground.data }]).op, none⟩,
      ⟨(opExtract (some 35) (.tmp 26) 1 3 "law.go:156" #[{ on := 7, ground := Ground.data }, { on := 11, ground := (Ground.gcOnly Departure.lateStores) }]).op, none⟩,
      ⟨(opExtract (some 36) (.tmp 26) 2 4 "law.go:156" #[{ on := 7, ground := Ground.data }, { on := 12, ground := (Ground.gcOnly Departure.lateStores) }]).op, none⟩,
      ⟨(opAssign (some 5) (.tmp 34) 25 "law.go:156" #[{ on := 8, ground := Ground.data }, { on := 6, ground := Ground.chain }, { on := 0, ground := Ground.phase }, { on := 1, ground := Ground.phase }, { on := 2, ground := Ground.phase }, { on := 3, ground := Ground.phase }, { on := 4, ground := Ground.phase }, { on := 5, ground := Ground.phase }, { on := 6, ground := Ground.phase }, { on := 7, ground := Ground.phase }, { on := 8, ground := Ground.phase }, { on := 9, ground := (Ground.textOnly Departure.lateStores) }, { on := 10, ground := (Ground.textOnly Departure.lateStores) }]).op, none⟩,
      ⟨(opAssign (some 6) (.tmp 35) 3 "law.go:156" #[{ on := 9, ground := Ground.data }, { on := 11, ground := Ground.chain }, { on := 0, ground := Ground.phase }, { on := 1, ground := Ground.phase }, { on := 2, ground := Ground.phase }, { on := 3, ground := Ground.phase }, { on := 4, ground := Ground.phase }, { on := 5, ground := Ground.phase }, { on := 6, ground := Ground.phase }, { on := 7, ground := Ground.phase }, { on := 8, ground := Ground.phase }, { on := 9, ground := Ground.phase }, { on := 10, ground := (Ground.textOnly Departure.lateStores) }, { on := 11, ground := Ground.phase }]).op, none⟩,
      ⟨(opAssign (some 7) (.tmp 36) 4 "law.go:156" #[{ on := 10, ground := Ground.data }, { on := 12, ground := Ground.chain }, { on := 0, ground := Ground.phase }, { on := 1, ground := Ground.phase }, { on := 2, ground := Ground.phase }, { on := 3, ground := Ground.phase }, { on := 4, ground := Ground.phase }, { on := 5, ground := Ground.phase }, { on := 6, ground := Ground.phase }, { on := 7, ground := Ground.phase }, { on := 8, ground := Ground.phase }, { on := 9, ground := Ground.phase }, { on := 10, ground := Ground.phase }, { on := 11, ground := Ground.phase }, { on := 12, ground := Ground.phase }]).op, none⟩
    ] (by kernel_rfl)))
    (.seq (.live [0, 3, 4, 5, 37] (.region 10 [
      ⟨(opMove (some 37) (.tmp 7) 4 "law.go:157" #[]).op, none⟩
    ] (by kernel_rfl)))
    (.cond (.tmp 37)
      (.live [0, 3, 4] (.region 11 [
        ⟨(opMove (some 38) (.tmp 5) 25 "law.go:158" #[]).op, none⟩,
        ⟨(opAssign (some 3) (.tmp 38) 25 "law.go:158" #[{ on := 0, ground := Ground.data }, { on := 0, ground := Ground.phase }]).op, none⟩
      ] (by kernel_rfl)))
      .skip))))
  (.live [0, 3, 4] (.region 8 [
    ⟨(opMove (some 24) (.tmp 4) 3 "law.go:155" #[]).op, none⟩,
    ⟨(opBin (some 25) .add 3 (.tmp 24) (.const (Value.int IntKind.i64 1)) 3 3 "law.go:155" #[{ on := 0, ground := Ground.data }]).op, none⟩,
    ⟨(opAssign (some 4) (.tmp 25) 3 "law.go:155" #[{ on := 1, ground := Ground.data }, { on := 0, ground := Ground.phase }, { on := 1, ground := Ground.phase }]).op, none⟩
  ] (by kernel_rfl)))))

/-- What follows a loop. -/
noncomputable def f4_r0 : Sim Try.prog :=
  (.seq (.live [3, 8] (.region 12 [
    ⟨(opMove (some 39) (.tmp 3) 25 "law.go:161" #[]).op, none⟩,
    ⟨(opCallP p14 (some 40) [(.tmp 39)] #[25] 3 "law.go:161" #[{ on := 0, ground := Ground.data }]).op, none⟩,
    ⟨(opAssign (some 8) (.tmp 40) 3 "law.go:161" #[{ on := 1, ground := Ground.data }, { on := 1, ground := Ground.chain }, { on := 0, ground := Ground.phase }, { on := 1, ground := Ground.phase }]).op, none⟩
  ] (by kernel_rfl)))
  (.seq (.live [3, 8, 11] (.region 13 [
    ⟨(opMove (some 42) (.tmp 3) 25 "law.go:162" #[]).op, none⟩,
    ⟨(opMove (some 43) (.tmp 8) 3 "law.go:162" #[]).op, none⟩,
    ⟨(opBin (some 44) .add 3 (.tmp 43) (.const (Value.int IntKind.i64 1)) 3 3 "law.go:162" #[{ on := 1, ground := Ground.data }]).op, none⟩,
    ⟨(opMinMax (some 45) true (.tmp 44) [(.const (Value.int IntKind.i64 0))] #[3, 3] 3 "law.go:162" #[{ on := 2, ground := Ground.data }]).op, none⟩,
    ⟨(opMakeF (some 46) 25 (.tmp 45) 5 1 1 (.int .u8 0) el25 [AV.int .u8 0] (by kernel_rfl) (by kernel_rfl) (by kernel_rfl) 25 "law.go:162" #[{ on := 3, ground := Ground.data }, { on := 3, ground := Ground.data }]).op, none⟩,
    ⟨(opCallP p13 (some 47) [(.tmp 42), (.tmp 46)] #[25, 25] 33 "law.go:162" #[{ on := 0, ground := Ground.data }, { on := 4, ground := Ground.data }]).op, none⟩,
    ⟨(opMove (some 41) (.tmp 47) 33 "law.go:162" #[{ on := 5, ground := Ground.data }]).op, none⟩,
    ⟨(opExtract (some 48) (.tmp 41) 0 25 "law.go:162" #[{ on := 6, ground := Ground.data }]).op, none⟩,
    ⟨(opExtract (some 49) (.tmp 41) 1 3 "law.go:162" #[{ on := 6, ground := Ground.data }, { on := 10, ground := (Ground.gcOnly Departure.lateStores) }]).op, none⟩,
    ⟨(opExtract (some 50) (.tmp 41) 2 4 "law.go:162" #[{ on := 6, ground := Ground.data }, { on := 11, ground := (Ground.gcOnly Departure.lateStores) }]).op, none⟩,
    ⟨(opAssign (some 9) (.tmp 48) 25 "law.go:162" #[{ on := 7, ground := Ground.data }, { on := 5, ground := Ground.chain }, { on := 0, ground := Ground.phase }, { on := 1, ground := Ground.phase }, { on := 2, ground := Ground.phase }, { on := 3, ground := Ground.phase }, { on := 4, ground := Ground.phase }, { on := 5, ground := Ground.phase }, { on := 6, ground := Ground.phase }, { on := 7, ground := Ground.phase }, { on := 8, ground := (Ground.textOnly Departure.lateStores) }, { on := 9, ground := (Ground.textOnly Departure.lateStores) }]).op, none⟩,
    ⟨(opAssign (some 10) (.tmp 49) 3 "law.go:162" #[{ on := 8, ground := Ground.data }, { on := 10, ground := Ground.chain }, { on := 0, ground := Ground.phase }, { on := 1, ground := Ground.phase }, { on := 2, ground := Ground.phase }, { on := 3, ground := Ground.phase }, { on := 4, ground := Ground.phase }, { on := 5, ground := Ground.phase }, { on := 6, ground := Ground.phase }, { on := 7, ground := Ground.phase }, { on := 8, ground := Ground.phase }, { on := 9, ground := (Ground.textOnly Departure.lateStores) }, { on := 10, ground := Ground.phase }]).op, none⟩,
    ⟨(opAssign (some 11) (.tmp 50) 4 "law.go:162" #[{ on := 9, ground := Ground.data }, { on := 11, ground := Ground.chain }, { on := 0, ground := Ground.phase }, { on := 1, ground := Ground.phase }, { on := 2, ground := Ground.phase }, { on := 3, ground := Ground.phase }, { on := 4, ground := Ground.phase }, { on := 5, ground := Ground.phase }, { on := 6, ground := Ground.phase }, { on := 7, ground := Ground.phase }, { on := 8, ground := Ground.phase }, { on := 9, ground := Ground.phase }, { on := 10, ground := Ground.phase }, { on := 11, ground := Ground.phase }]).op, none⟩
  ] (by kernel_rfl)))
  (.seq (.seq (.live [3, 8, 11, 56] (.region 14 [
    ⟨(opMove (some 51) (.tmp 8) 3 "law.go:163" #[]).op, none⟩,
    ⟨(opBin (some 52) .lss 3 (.tmp 51) (.const (Value.int IntKind.i64 0)) 3 4 "law.go:163" #[{ on := 0, ground := Ground.data }]).op, none⟩,
    ⟨(opMove (some 53) (.tmp 52) 4 "law.go:163" #[{ on := 1, ground := Ground.data }]).op, none⟩,
    ⟨(opMove (some 54) (.tmp 8) 3 "law.go:163" #[{ on := 2, ground := Ground.guard }]).op, (some (2, 53, false))⟩,
    ⟨(opBin (some 55) .gtr 3 (.tmp 54) (.const (Value.int IntKind.i64 200)) 3 4 "law.go:163" #[{ on := 3, ground := Ground.data }, { on := 2, ground := Ground.guard }]).op, (some (2, 53, false))⟩,
    ⟨(opPick (some 56) (.tmp 53) (.const (Value.bool true)) (.tmp 55) 4 "law.go:163" #[{ on := 2, ground := Ground.data }, { on := 4, ground := Ground.data }]).op, none⟩
  ] (by kernel_rfl)))
  (.cond (.tmp 56)
    (.seq (.live [2] (.region 15 [
      ⟨(opMove (some 57) (.tmp 8) 3 "law.go:164" #[]).op, none⟩,
      ⟨(opBin (some 58) .eql 3 (.tmp 57) (.const (Value.int IntKind.i64 (-1))) 3 4 "law.go:164" #[{ on := 0, ground := Ground.data }]).op, none⟩,
      ⟨(opMove (some 59) (.tmp 58) 4 "law.go:164" #[{ on := 1, ground := Ground.data }]).op, none⟩,
      ⟨(opMove (some 60) (.tmp 11) 4 "law.go:164" #[{ on := 2, ground := Ground.guard }]).op, (some (2, 59, true))⟩,
      ⟨(opNot (some 61) 4 (.tmp 60) 4 "law.go:164" #[{ on := 3, ground := Ground.data }, { on := 2, ground := Ground.guard }]).op, (some (2, 59, true))⟩,
      ⟨(opPick (some 62) (.tmp 59) (.tmp 61) (.const (Value.bool false)) 4 "law.go:164" #[{ on := 2, ground := Ground.data }, { on := 4, ground := Ground.data }]).op, none⟩,
      ⟨(opAssign (some 2) (.tmp 62) 4 "law.go:164" #[{ on := 5, ground := Ground.data }, { on := 2, ground := Ground.chain }, { on := 0, ground := Ground.phase }, { on := 1, ground := Ground.phase }, { on := 2, ground := Ground.phase }, { on := 3, ground := Ground.phase }, { on := 4, ground := Ground.phase }, { on := 5, ground := Ground.phase }]).op, none⟩
    ] (by kernel_rfl)))
    (.live [2] .ret))
    .skip))
  (.seq (.live [8, 11, 12, 14] (.region 16 [
    ⟨(opMove (some 64) (.tmp 3) 25 "law.go:166" #[]).op, none⟩,
    ⟨(opMove (some 65) (.tmp 8) 3 "law.go:166" #[]).op, none⟩,
    ⟨(opMakeF (some 66) 25 (.tmp 65) 5 1 1 (.int .u8 0) el25 [AV.int .u8 0] (by kernel_rfl) (by kernel_rfl) (by kernel_rfl) 25 "law.go:166" #[{ on := 1, ground := Ground.data }, { on := 1, ground := Ground.data }]).op, none⟩,
    ⟨(opCallP p13 (some 67) [(.tmp 64), (.tmp 66)] #[25, 25] 33 "law.go:166" #[{ on := 0, ground := Ground.data }, { on := 2, ground := Ground.data }]).op, none⟩,
    ⟨(opMove (some 63) (.tmp 67) 33 "law.go:166" #[{ on := 3, ground := Ground.data }]).op, none⟩,
    ⟨(opExtract (some 68) (.tmp 63) 0 25 "law.go:166" #[{ on := 4, ground := Ground.data }]).op, none⟩,
    ⟨(opExtract (some 69) (.tmp 63) 1 3 "law.go:166" #[{ on := 4, ground := Ground.data }, { on := 8, ground := (Ground.gcOnly Departure.lateStores) }]).op, none⟩,
    ⟨(opExtract (some 70) (.tmp 63) 2 4 "law.go:166" #[{ on := 4, ground := Ground.data }, { on := 9, ground := (Ground.gcOnly Departure.lateStores) }]).op, none⟩,
    ⟨(opAssign (some 12) (.tmp 68) 25 "law.go:166" #[{ on := 5, ground := Ground.data }, { on := 3, ground := Ground.chain }, { on := 0, ground := Ground.phase }, { on := 1, ground := Ground.phase }, { on := 2, ground := Ground.phase }, { on := 3, ground := Ground.phase }, { on := 4, ground := Ground.phase }, { on := 5, ground := Ground.phase }, { on := 6, ground := (Ground.textOnly Departure.lateStores) }, { on := 7, ground := (Ground.textOnly Departure.lateStores) }]).op, none⟩,
    ⟨(opAssign (some 13) (.tmp 69) 3 "law.go:166" #[{ on := 6, ground := Ground.data }, { on := 8, ground := Ground.chain }, { on := 0, ground := Ground.phase }, { on := 1, ground := Ground.phase }, { on := 2, ground := Ground.phase }, { on := 3, ground := Ground.phase }, { on := 4, ground := Ground.phase }, { on := 5, ground := Ground.phase }, { on := 6, ground := Ground.phase }, { on := 7, ground := (Ground.textOnly Departure.lateStores) }, { on := 8, ground := Ground.phase }]).op, none⟩,
    ⟨(opAssign (some 14) (.tmp 70) 4 "law.go:166" #[{ on := 7, ground := Ground.data }, { on := 9, ground := Ground.chain }, { on := 0, ground := Ground.phase }, { on := 1, ground := Ground.phase }, { on := 2, ground := Ground.phase }, { on := 3, ground := Ground.phase }, { on := 4, ground := Ground.phase }, { on := 5, ground := Ground.phase }, { on := 6, ground := Ground.phase }, { on := 7, ground := Ground.phase }, { on := 8, ground := Ground.phase }, { on := 9, ground := Ground.phase }]).op, none⟩
  ] (by kernel_rfl)))
  (.seq (.live [2] (.region 17 [
    ⟨(opMove (some 71) (.tmp 14) 4 "law.go:167" #[]).op, none⟩,
    ⟨(opMove (some 72) (.tmp 71) 4 "law.go:167" #[{ on := 0, ground := Ground.data }]).op, none⟩,
    ⟨(opMove (some 73) (.tmp 11) 4 "law.go:167" #[{ on := 1, ground := Ground.guard }]).op, (some (1, 72, true))⟩,
    ⟨(opNot (some 74) 4 (.tmp 73) 4 "law.go:167" #[{ on := 2, ground := Ground.data }, { on := 1, ground := Ground.guard }]).op, (some (1, 72, true))⟩,
    ⟨(opPick (some 75) (.tmp 72) (.tmp 74) (.const (Value.bool false)) 4 "law.go:167" #[{ on := 1, ground := Ground.data }, { on := 3, ground := Ground.data }]).op, none⟩,
    ⟨(opMove (some 76) (.tmp 75) 4 "law.go:167" #[{ on := 4, ground := Ground.data }, { on := 1, ground := Ground.chain }]).op, none⟩,
    ⟨(opMove (some 77) (.tmp 12) 25 "law.go:167" #[{ on := 5, ground := Ground.guard }]).op, (some (5, 76, true))⟩,
    ⟨(opCallP p14 (some 78) [(.tmp 77)] #[25] 3 "law.go:167" #[{ on := 6, ground := Ground.data }, { on := 5, ground := Ground.chain }, { on := 5, ground := Ground.guard }]).op, (some (5, 76, true))⟩,
    ⟨(opMove (some 79) (.tmp 8) 3 "law.go:167" #[{ on := 5, ground := Ground.guard }]).op, (some (5, 76, true))⟩,
    ⟨(opBin (some 80) .leq 3 (.tmp 78) (.tmp 79) 3 4 "law.go:167" #[{ on := 7, ground := Ground.data }, { on := 8, ground := Ground.data }, { on := 5, ground := Ground.guard }]).op, (some (5, 76, true))⟩,
    ⟨(opPick (some 81) (.tmp 76) (.tmp 80) (.const (Value.bool false)) 4 "law.go:167" #[{ on := 5, ground := Ground.data }, { on := 9, ground := Ground.data }]).op, none⟩,
    ⟨(opAssign (some 2) (.tmp 81) 4 "law.go:167" #[{ on := 10, ground := Ground.data }, { on := 7, ground := Ground.chain }, { on := 0, ground := Ground.phase }, { on := 1, ground := Ground.phase }, { on := 2, ground := Ground.phase }, { on := 3, ground := Ground.phase }, { on := 4, ground := Ground.phase }, { on := 5, ground := Ground.phase }, { on := 6, ground := Ground.phase }, { on := 7, ground := Ground.phase }, { on := 8, ground := Ground.phase }, { on := 9, ground := Ground.phase }, { on := 10, ground := Ground.phase }]).op, none⟩
  ] (by kernel_rfl)))
  (.live [2] .ret))))))

noncomputable def f4_b : Sim Try.prog :=
  (.seq (.live [0] (.region 0 [
    ⟨(opAssign (some 2) (.const (Value.bool false)) 4 "law.go:147" #[]).op, none⟩
  ] (by kernel_rfl)))
  (.seq (.seq (.live [0, 16] (.region 1 [
    ⟨(opCallP p8 (some 15) [] #[] 4 "law.go:148" #[]).op, none⟩,
    ⟨(opNot (some 16) 4 (.tmp 15) 4 "law.go:148" #[{ on := 0, ground := Ground.data }]).op, none⟩
  ] (by kernel_rfl)))
  (.cond (.tmp 16)
    (.seq (.live [2] (.region 2 [
      ⟨(opAssign (some 2) (.const (Value.bool false)) 4 "law.go:149" #[]).op, none⟩
    ] (by kernel_rfl)))
    (.live [2] .ret))
    .skip))
  (.seq (.seq (.live [0, 18] (.region 3 [
    ⟨(opMove (some 17) (.tmp 0) 22 "law.go:151" #[]).op, none⟩,
    ⟨(opCallP p9 (some 18) [(.tmp 17)] #[22] 4 "law.go:151" #[{ on := 0, ground := Ground.data }]).op, none⟩
  ] (by kernel_rfl)))
  (.cond (.tmp 18)
    (.seq (.live [2] (.region 4 [
      ⟨(opAssign (some 2) (.const (Value.bool true)) 4 "law.go:152" #[]).op, none⟩
    ] (by kernel_rfl)))
    (.live [2] .ret))
    .skip))
  (.seq (.live [0, 3] (.region 5 [
    ⟨(opCallP p10 (some 19) [] #[] 25 "law.go:154" #[]).op, none⟩,
    ⟨(opAssign (some 3) (.tmp 19) 25 "law.go:154" #[{ on := 0, ground := Ground.data }, { on := 0, ground := Ground.chain }, { on := 0, ground := Ground.phase }]).op, none⟩
  ] (by kernel_rfl)))
  (.seq (.seq (.live [0, 3, 4] (.region 6 [
    ⟨(opAssign (some 4) (.const (Value.int IntKind.i64 0)) 3 "law.go:155" #[]).op, none⟩
  ] (by kernel_rfl)))
  (.block 0 (.loop [0, 3, 4] f4_l0)))
  f4_r0)))))

noncomputable def f4 : Fun Try.prog where
  id := 4
  fn := Try.f4
  hf := Try.func4
  hname := by kernel_rfl
  body := f4_b
  hbody := by kernel_rfl
  res := [rTmp 2]
  hres := by kernel_rfl
  n := 82
  hn := by kernel_rfl

end Go.Proofs.Ytblliolkgkgppaa.V

/- What the functions' runs come to; the right sides were printed by a tool, Lean checks them. -/
set_option linter.unusedVariables false
set_option maxRecDepth 100000
namespace Go.Proofs.Ytblliolkgkgppaa.V
open Go Go.V Go.RowKit

theorem room_law (F : Nat) (z : Bool) (l : List (List AV)) :
    (f4.run F [.ns z 3 l] ⟨[], []⟩ : Ans) =
    branch (AV.bool (okCl l))
      (branch (AV.bool (greatB l)) (some (Fin.ret (AV.bool true), St.mk [] []))
        (loopRun (f4_l0.run F) [0, 3, 4]
          (Cont.block 0 (Cont.then (f4_r0.run F (f4.leaveK Fun.done)) (f4.leaveK Fun.done))) F
          (Env.mk 82
            [(0, AV.ns z 3 l), (3, AV.ns false 1 (bR zeroP)),
              (4, AV.int IntKind.i64 (0 : Int))])
          (St.mk [] [])))
      none := by kernel_rfl

theorem room_round (F m : Nat) (K : Cont) (z y : Bool) (l p : List (List AV)) (i : Int) :
    (loopRun (f4_l0.run F) [0, 3, 4] K m.succ (Env.mk 82 [(0, .ns z 3 l), (3, .ns y 1 p), (4, .int .i64 i)]) ⟨[], []⟩ : Ans) =
    branch (AV.bool (decide (i < (↑l.length : Int))))
      (branch (AV.bool (inR l i))
        (branch (AV.bool ((LD.one (LT.ns 1)).is (List.drop 2 (V.rowAt l i))))
          (branch
            (AV.bool
              (byOk p &&
                (byOk (rwA (List.drop 2 (V.rowAt l i))) &&
                  apOk (rwA (List.drop 2 (V.rowAt l i))).length 1)))
            (branch (AV.bool (oB (addP (nR p) (nR (rwA (List.drop 2 (V.rowAt l i)))))))
              (loopRun (f4_l0.run F) [0, 3, 4] K m
                (Env.mk 82
                  [(0, AV.ns z 3 l),
                    (3,
                      AV.ns (!oB (addP (nR p) (nR (rwA (List.drop 2 (V.rowAt l i)))))) 1
                        (oR (addP (nR p) (nR (rwA (List.drop 2 (V.rowAt l i))))))),
                    (4, AV.int IntKind.i64 (IntKind.i64.wrap (i + (1 : Int))))])
                (St.mk [] []))
              (loopRun (f4_l0.run F) [0, 3, 4] K m
                (Env.mk 82
                  [(0, AV.ns z 3 l), (3, AV.ns y 1 p),
                    (4, AV.int IntKind.i64 (IntKind.i64.wrap (i + (1 : Int))))])
                (St.mk [] [])))
            none)
          none)
        none)
      (K (AX.exit 0) (Env.mk 82 [(3, AV.ns y 1 p)]) (St.mk [] [])) := by kernel_rfl

theorem room_out (F : Nat) (y : Bool) (p : List (List AV)) :
    ((Cont.block 0 (Cont.then (f4_r0.run F (f4.leaveK Fun.done)) (f4.leaveK Fun.done))) (.exit 0) (Env.mk 82 [(3, .ns y 1 p)]) ⟨[], []⟩ : Ans) =
    branch (AV.bool (byOk p))
      (branch
        (AV.bool
          (decide ((0 : Int) ≤ leastI true (IntKind.i64.wrap (roomP (nR p) + (1 : Int))) (0 : Int)) &&
            ((1 * (leastI true (IntKind.i64.wrap (roomP (nR p) + (1 : Int))) (0 : Int)).toNat).ble
                281474976710656 &&
              (leastI true (IntKind.i64.wrap (roomP (nR p) + (1 : Int))) (0 : Int)).toNat.ble 9223372036854775807)))
        (branch
          (AV.bool
            (byOk p &&
              (byOk
                  (List.replicate (leastI true (IntKind.i64.wrap (roomP (nR p) + (1 : Int))) (0 : Int)).toNat
                    [AV.int IntKind.u8 (0 : Int)]) &&
                apOk
                  (List.replicate (leastI true (IntKind.i64.wrap (roomP (nR p) + (1 : Int))) (0 : Int)).toNat
                      [AV.int IntKind.u8 (0 : Int)]).length
                  1)))
          (branch (AV.bool (decide (roomP (nR p) < (0 : Int))))
            (branch (AV.bool (roomP (nR p) == (-1 : Int)))
              (some
                (Fin.ret
                    (AV.bool
                      !oB
                          (addP (nR p)
                            (nR
                              (List.replicate (leastI true (IntKind.i64.wrap (roomP (nR p) + (1 : Int))) (0 : Int)).toNat
                                [AV.int IntKind.u8 (0 : Int)])))),
                  St.mk [] []))
              (some (Fin.ret (AV.bool false), St.mk [] [])))
            (branch (AV.bool (decide (roomP (nR p) > (200 : Int))))
              (branch (AV.bool (roomP (nR p) == (-1 : Int)))
                (some
                  (Fin.ret
                      (AV.bool
                        !oB
                            (addP (nR p)
                              (nR
                                (List.replicate (leastI true (IntKind.i64.wrap (roomP (nR p) + (1 : Int))) (0 : Int)).toNat
                                  [AV.int IntKind.u8 (0 : Int)])))),
                    St.mk [] []))
                (some (Fin.ret (AV.bool false), St.mk [] [])))
              (branch
                (AV.bool
                  (decide ((0 : Int) ≤ roomP (nR p)) &&
                    ((1 * (roomP (nR p)).toNat).ble 281474976710656 &&
                      (roomP (nR p)).toNat.ble 9223372036854775807)))
                (branch
                  (AV.bool
                    (byOk p &&
                      (byOk (List.replicate (roomP (nR p)).toNat [AV.int IntKind.u8 (0 : Int)]) &&
                        apOk (List.replicate (roomP (nR p)).toNat [AV.int IntKind.u8 (0 : Int)]).length 1)))
                  (branch
                    (AV.bool (oB (addP (nR p) (nR (List.replicate (roomP (nR p)).toNat [AV.int IntKind.u8 (0 : Int)])))))
                    (branch
                      (AV.bool
                        !oB
                            (addP (nR p)
                              (nR
                                (List.replicate (leastI true (IntKind.i64.wrap (roomP (nR p) + (1 : Int))) (0 : Int)).toNat
                                  [AV.int IntKind.u8 (0 : Int)]))))
                      (branch
                        (AV.bool
                          (byOk
                            (oR (addP (nR p) (nR (List.replicate (roomP (nR p)).toNat [AV.int IntKind.u8 (0 : Int)]))))))
                        (some
                          (Fin.ret
                              (AV.bool
                                (decide
                                  (roomP
                                      (nR
                                        (oR
                                          (addP (nR p)
                                            (nR (List.replicate (roomP (nR p)).toNat [AV.int IntKind.u8 (0 : Int)]))))) ≤
                                    roomP (nR p)))),
                            St.mk [] []))
                        none)
                      (some (Fin.ret (AV.bool false), St.mk [] [])))
                    (some (Fin.ret (AV.bool false), St.mk [] [])))
                  none)
                none)))
          none)
        none)
      none := by kernel_rfl

end Go.Proofs.Ytblliolkgkgppaa.V

/- What a law's arguments are, as abstract values: read off their reading. -/
set_option linter.unusedVariables false
set_option linter.unusedSimpArgs false
namespace Go.V
open Go.WideShapes

/-- A shape of values. -/
inductive Ty where
  | bool
  | int (k : IntKind)
  | str
  | sl (e : Ty) (bytes : Nat)
  | st (fs : List Ty)

mutual
def Ty.size : Ty → Nat
  | .bool => 1
  | .int _ => 1
  | .str => 1
  | .sl _ _ => 1
  | .st fs => Ty.sizes fs
def Ty.sizes : List Ty → Nat
  | [] => 0
  | y :: r => y.size + Ty.sizes r
end

mutual
/-- A type of the program has this shape. -/
def Ty.ok (P : Program) : Ty → TypeId → Bool
  | .bool, t => match P.underlying t with
    | some .bool => true
    | _ => false
  | .int k, t => match P.underlying t with
    | some (.int k') => decide (k' = k)
    | _ => false
  | .str, t => match P.underlying t with
    | some .string => true
    | _ => false
  | .sl e b, t => match P.underlying t with
    | some (.slice u) => Nat.beq (P.cellsOf u) e.size && (Nat.blt 0 e.size && (Nat.beq (P.bytesOf u) b && e.ok P u))
    | _ => false
  | .st fs, t => match P.underlying t with
    | some (.struct F) => Nat.beq (P.cellsOf t) (Ty.sizes fs) && Ty.oks P fs F.toList 0
    | _ => false
def Ty.oks (P : Program) : List Ty → List Field → Nat → Bool
  | [], [], _ => true
  | y :: r, f :: F, o => Nat.beq f.offset o && (Nat.beq (P.cellsOf f.type) y.size && (y.ok P f.type && Ty.oks P r F (o + y.size)))
  | _, _, _ => false
end

mutual
/-- Cells of this shape. -/
def Ty.Shape : Ty → List AV → Prop
  | .bool, ays => ∃ b, ays = [.bool b]
  | .int k, ays => ∃ n, ays = [.int k n] ∧ (Lit.int k n).wf = true
  | .str, ays => ∃ s : ByteArray, ays = [.str s] ∧ s.size ≤ reachBytes
  | .sl e b, ays => ∃ z l, ays = [.ns z e.size l] ∧ (z = true → l = []) ∧ l.length * b ≤ reachBytes ∧ l.length ≤ maxLen ∧ ∀ r ∈ l, e.Shape r
  | .st fs, ays => Ty.Shapes fs ays
def Ty.Shapes : List Ty → List AV → Prop
  | [], ays => ays = []
  | y :: r, ays => ∃ a b, ays = a ++ b ∧ y.Shape a ∧ Ty.Shapes r b
end

section
variable {P : Program} {H : Type} {enc : TypeId × Value → H} {W : World} {base : Nat} {spare : Nat → Bool} {held : Bool}

theorem RelCells.ofCells : ∀ (ays : List AV) (cs : List Value) (b off : Nat), RelAll g0 W ays cs → (∀ u ∈ cs, u.oneCell' = true) → (∀ i u, cs[i]? = some u → W.cell? ⟨b, off + i, none⟩ = some u) → RelCells g0 W ays b off
  | [], _, _, _, _, _, _ => trivial
  | a :: ays, _, b, off, ⟨v, vr, rfl, h1, h2⟩, h3, h4 => by
    refine ⟨⟨v, by simpa using h4 0 v rfl, trivial, h3 v (by simp), h1⟩, RelCells.ofCells ays vr b (off + 1) h2 (fun u hu => h3 u (by simp [hu])) fun i u hu => ?_⟩
    have := h4 (i + 1) u (by simpa using hu)
    rwa [show off + (i + 1) = off + 1 + i by omega] at this

theorem cell_spot {a : Addr} {u : Value} (h : W.cell? a = some u) : a.spot = none := by
  unfold World.cell? at h
  split at h
  · split at h
    · cases h
    · rename_i hs; cases hsp : a.spot with
      | none => rfl
      | some s => rw [hsp] at hs; simp at hs
  · cases h

/-- Rows, one by one. -/
theorem rows_of_reads {sz : Nat} (hsz : 0 < sz) {Q : List AV → Prop} {b off : Nat} : ∀ (n k : Nat), (∀ i, i < n → ∃ ays cs, RelAll g0 W ays cs ∧ ays.length = sz ∧ Q ays ∧ (∀ u ∈ cs, u.oneCell' = true) ∧ ∀ j u, cs[j]? = some u → W.cell? ⟨b, off + (k + i) * sz + j, none⟩ = some u) →
    ∃ l, l.length = n ∧ (∀ r ∈ l, Q r) ∧ RelRows g0 W sz l b (off + k * sz)
  | 0, k, _ => ⟨[], rfl, by simp, trivial⟩
  | n + 1, k, h => by
    obtain ⟨l, h1, h2, h3⟩ := rows_of_reads hsz (b := b) (off := off) (Q := Q) n (k + 1) fun i hi => by
      have := h (i + 1) (by omega)
      rwa [show k + (i + 1) = k + 1 + i by omega] at this
    obtain ⟨ays, cs, k1, k2, k3, k4, k5⟩ := h 0 (by omega)
    refine ⟨ays :: l, by simp [h1], fun r hr => ?_, k2, RelCells.ofCells ays cs b _ k1 k4 (by simpa using k5), ?_⟩
    · rcases List.mem_cons.mp hr with rfl | hr
      · exact k3
      · exact h2 r hr
    · rw [show off + k * sz + sz = off + (k + 1) * sz by rw [Nat.add_mul]; omega]; exact h3

mutual
theorem Ty.read : ∀ (y : Ty) (t : TypeId) (cs : List Value) (x : DataW H × List MemPlace) (fuel : Nat), y.ok P t = true → DataW.trod enc P W base spare held fuel t cs = some x → (∀ n ∈ x.1.weights P t, n ≤ reachBytes) →
    ∃ ays, RelAll g0 W ays cs ∧ y.Shape ays ∧ ays.length = y.size ∧ ∀ u ∈ cs, u.oneCell' = true
  | .bool, t, cs, x, fuel, hk, h, hw => by
    unfold Ty.ok at hk
    split at hk
    · rename_i ht
      obtain ⟨b, rfl, _⟩ := DataW.trod_bool ht h
      exact ⟨[.bool b], ⟨_, _, rfl, rfl, rfl⟩, ⟨b, rfl⟩, rfl, by simp [Value.oneCell']⟩
    · cases hk
  | .int k, t, cs, x, fuel, hk, h, hw => by
    unfold Ty.ok at hk
    split at hk
    · rename_i k' ht
      obtain rfl : k' = k := by simpa using hk
      obtain ⟨n, rfl, _, hwf⟩ := DataW.trod_int ht h
      exact ⟨[.int k' n], ⟨_, _, rfl, rfl, rfl⟩, ⟨n, rfl, hwf⟩, rfl, by simp [Value.oneCell']⟩
    · cases hk
  | .str, t, cs, x, fuel, hk, h, hw => by
    unfold Ty.ok at hk
    split at hk
    · rename_i ht
      obtain ⟨s, rfl, rfl, _⟩ := DataW.trod_string ht h
      refine ⟨[.str s], ⟨_, _, rfl, rfl, rfl⟩, ⟨s, rfl, ?_⟩, rfl, by simp [Value.oneCell']⟩
      have := hw s.data.toList.length (by simp [DataW.weights])
      simpa using this
    · cases hk
  | .sl e b, t, cs, x, fuel, hk, h, hw => by
    unfold Ty.ok at hk
    split at hk
    · rename_i u ht
      simp only [Bool.and_eq_true] at hk
      obtain ⟨hc, h0, hb, he⟩ := hk
      have hc : P.cellsOf u = e.size := by simpa using hc
      have h0 : 0 < e.size := by simpa using h0
      have hb : P.bytesOf u = b := by simpa using hb
      rcases DataW.trod_slice ht h with ⟨rfl, _⟩ | ⟨a, len, cap, elems, rest, n, _, rfl, rfl, _, hl, hm, hlen, hel, hsp, hns⟩
      · exact ⟨[.ns true e.size []], ⟨_, _, rfl, .inl ⟨rfl, rfl, rfl⟩, rfl⟩, ⟨true, [], rfl, fun _ => rfl, by simp, by simp, by simp⟩, rfl, by simp [Value.oneCell']⟩
      · have hws : ∀ (i : Nat) (y : DataW H × List MemPlace), elems[i]? = some y → ∀ m ∈ y.1.weights P u, m ≤ reachBytes := by
          intro i y hy m hm'
          refine hw m ?_
          simp only [DataW.weights, ht]
          refine List.mem_cons_of_mem _ (List.mem_append_left _ ?_)
          have : y.1 ∈ elems.map (·.1) := List.mem_map.mpr ⟨y, List.mem_of_getElem? hy, rfl⟩
          clear hw hel hsp hns
          generalize elems.map (·.1) = ds at this
          induction ds with
          | nil => simp at this
          | cons d ds ih =>
            simp only [DataW.weightsAll]
            rcases List.mem_cons.mp this with rfl | h'
            · exact List.mem_append_left _ hm'
            · exact List.mem_append_right _ (ih h')
        have hsize : len * b ≤ reachBytes := by
          have := hw ((elems.map (·.1)).length * P.bytesOf u + (rest.map (·.1)).length * P.bytesOf u) (by
            simp only [DataW.weights, ht]
            rw [← Nat.add_mul]
            exact List.mem_cons_self)
          rw [hb, List.length_map, hlen] at this
          omega
        obtain ⟨bl, off, sp⟩ := a
        have hspot : sp = none ∨ len = 0 := by
          rcases Nat.eq_zero_or_pos len with h1 | h1
          · exact .inr h1
          · have h2 := hel 0 h1
            rw [List.getElem?_eq_getElem (by omega)] at h2
            obtain ⟨ci, k1, k2⟩ := Option.bind_eq_some_iff.mp h2
            obtain ⟨_, k4, k5⟩ := World.cells?_some k1
            have k6 := k5 0 (by omega)
            rw [List.getElem?_eq_getElem (by omega)] at k6
            have := cell_spot k6
            simp [Addr.add] at this
            exact .inl this
        have hrow : ∀ i, i < len → ∃ ays cs, RelAll g0 W ays cs ∧ ays.length = e.size ∧ e.Shape ays ∧ (∀ u ∈ cs, u.oneCell' = true) ∧ ∀ j u, cs[j]? = some u → W.cell? ⟨bl, off + (0 + i) * e.size + j, none⟩ = some u := by
          intro i hi
          have h2 := hel i hi
          rw [List.getElem?_eq_getElem (by omega)] at h2
          obtain ⟨ci, k1, k2⟩ := Option.bind_eq_some_iff.mp h2
          obtain ⟨ays, r1, r2, r3, r4⟩ := Ty.read e u ci _ n he k2 (hws i _ (List.getElem?_eq_getElem (by omega)))
          obtain ⟨_, k4, k5⟩ := World.cells?_some k1
          obtain rfl : sp = none := hspot.resolve_right (by omega)
          refine ⟨ays, ci, r1, r3, r2, r4, fun j v hj => ?_⟩
          have := k5 j (by rw [← k4]; exact getElem?_lt hj)
          rw [hj, hc, add_none, add_none] at this
          rw [Nat.zero_add]; exact this
        obtain ⟨l, l1, l2, l3⟩ := rows_of_reads h0 len 0 hrow
        refine ⟨[.ns false e.size l], ⟨_, _, rfl, .inr ⟨rfl, bl, off, sp, cap, by rw [l1], by omega, ?_, by simpa using l3⟩, rfl⟩, ⟨false, l, rfl, (fun h => by cases h), by rw [l1]; exact hsize, by omega, l2⟩, rfl, by simp [Value.oneCell']⟩
        rcases hspot with h1 | h1
        · exact .inl h1
        · exact .inr (List.eq_nil_of_length_eq_zero (by omega))
    · cases hk
  | .st fs, t, cs, x, fuel, hk, h, hw => by
    unfold Ty.ok at hk
    split at hk
    · rename_i F ht
      simp only [Bool.and_eq_true] at hk
      obtain ⟨hc, hos⟩ := hk
      have hc : P.cellsOf t = Ty.sizes fs := by simpa using hc
      obtain ⟨xs, n, _, rfl, hl, hxl, hel⟩ := DataW.trod_struct ht h
      obtain ⟨ays, r1, r2, r3, r4⟩ := Ty.reads fs F.toList 0 cs n xs hos (fun i f hf => hel i f (by simpa using hf)) (by simpa using hxl) (by omega) (fun m hm => hw m (by simpa [DataW.weights, ht] using hm))
      exact ⟨ays, by simpa using r1, r2, r3, by simpa using r4⟩
    · cases hk
theorem Ty.reads : ∀ (ys : List Ty) (F : List Field) (o : Nat) (cs : List Value) (n : Nat) (xs : List (DataW H × List MemPlace)), Ty.oks P ys F o = true →
    (∀ (i : Nat) f, F[i]? = some f → DataW.trod enc P W base spare held n f.type ((cs.drop f.offset).take (P.cellsOf f.type)) = xs[i]?) → xs.length = F.length → cs.length = o + Ty.sizes ys →
    (∀ m ∈ DataW.weightsEach P (F.map (·.type)) (xs.map (·.1)), m ≤ reachBytes) →
    ∃ ays, RelAll g0 W ays (cs.drop o) ∧ Ty.Shapes ys ays ∧ ays.length = Ty.sizes ys ∧ ∀ u ∈ cs.drop o, u.oneCell' = true
  | [], [], o, cs, n, xs, hk, hel, hxl, hl, hw => by
    have : cs.drop o = [] := List.drop_eq_nil_of_le (by simp [Ty.sizes] at hl; omega)
    exact ⟨[], this, rfl, rfl, by simp [this]⟩
  | [], _ :: _, o, cs, n, xs, hk, hel, hxl, hl, hw => by simp [Ty.oks] at hk
  | _ :: _, [], o, cs, n, xs, hk, hel, hxl, hl, hw => by simp [Ty.oks] at hk
  | y :: ys, f :: F, o, cs, n, [], hk, hel, hxl, hl, hw => by simp at hxl
  | y :: ys, f :: F, o, cs, n, x :: xs, hk, hel, hxl, hl, hw => by
    simp only [Ty.oks, Bool.and_eq_true] at hk
    obtain ⟨h1, h2, h3, h4⟩ := hk
    have h1 : f.offset = o := by simpa using h1
    have h2 : P.cellsOf f.type = y.size := by simpa using h2
    have hx := hel 0 f rfl
    rw [h1, h2] at hx
    obtain ⟨ays, r1, r2, r3, r4⟩ := Ty.read y f.type _ x n h3 hx (fun m hm => hw m (by simp only [List.map_cons, DataW.weightsEach]; exact List.mem_append_left _ hm))
    obtain ⟨bs, s1, s2, s3, s4⟩ := Ty.reads ys F (o + y.size) cs n xs h4 (fun i g hg => by have := hel (i + 1) g (by simpa using hg); simpa using this) (by simpa using hxl) (by rw [hl, Ty.sizes]; omega) (fun m hm => hw m (by simp only [List.map_cons, DataW.weightsEach]; exact List.mem_append_right _ hm))
    have hsplit : cs.drop o = (cs.drop o).take y.size ++ cs.drop (o + y.size) := by
      rw [← List.drop_drop, List.take_append_drop]
    refine ⟨ays ++ bs, by rw [hsplit]; exact RelAll.append _ _ _ _ r1 s1, ⟨ays, bs, rfl, r2, s2⟩, by rw [List.length_append, r3, s3, Ty.sizes], fun u hu => ?_⟩
    rw [hsplit] at hu
    rcases List.mem_append.mp hu with hu | hu
    · exact r4 u hu
    · exact s4 u hu
end

/-- An argument. -/
def Ty.AV' : Ty → List AV → AV
  | .st _, ays => .agg ays
  | _, ays => ays.headD .dead

theorem Ty.arg {y : Ty} {t : TypeId} {v : Value} {d : DataW H} {ps : List MemPlace} {r : Reach} {b0 : Nat} (hk : y.ok P t = true) (hval : Value.okWide P W r b0 t v) (h : DataW.Trod enc P W base spare held t v d ps) (hw : ∀ n ∈ d.weights P t, n ≤ reachBytes) :
    ∃ ays, y.Shape ays ∧ Rel g0 W (y.AV' ays) v := by
  obtain ⟨fuel, hf⟩ := h
  obtain ⟨ays, r1, r2, r3, r4⟩ := Ty.read y t _ _ fuel hk hf hw
  refine ⟨ays, r2, ?_⟩
  cases y with
  | st fs =>
    unfold Ty.ok at hk
    split at hk
    · rename_i F ht
      obtain ⟨cs, rfl, hcs⟩ := okWide_struct ht hval
      exact ⟨cs, rfl, by simpa [Value.cells] using r1, by simpa [Value.cells] using r4⟩
    · cases hk
  | bool =>
    obtain ⟨b, rfl⟩ := r2
    unfold Ty.ok at hk
    split at hk
    · rename_i ht
      obtain ⟨u, rfl⟩ := okWide_bool ht hval
      obtain ⟨w, wr, e, k1, _⟩ := r1
      simp [Value.cells] at e
      rw [← e.1] at k1; exact k1
    · cases hk
  | int k =>
    obtain ⟨b, rfl, _⟩ := r2
    unfold Ty.ok at hk
    split at hk
    · rename_i ht
      obtain ⟨u, rfl⟩ := okWide_int ht hval
      obtain ⟨w, wr, e, k1, _⟩ := r1
      simp [Value.cells] at e
      rw [← e.1] at k1; exact k1
    · cases hk
  | str =>
    obtain ⟨b, rfl, _⟩ := r2
    unfold Ty.ok at hk
    split at hk
    · rename_i ht
      obtain ⟨u, rfl⟩ := okWide_string ht hval
      obtain ⟨w, wr, e, k1, _⟩ := r1
      simp [Value.cells] at e
      rw [← e.1] at k1; exact k1
    · cases hk
  | sl e b =>
    unfold Ty.ok at hk
    split at hk
    · rename_i u ht
      obtain ⟨a, n, c, rfl⟩ := okWide_slice ht hval
      obtain ⟨z, l, rfl, _⟩ := r2
      obtain ⟨w, wr, e', k1, _⟩ := r1
      simp [Value.cells] at e'
      rw [← e'.1] at k1; exact k1
    · cases hk
end
end Go.V

/- A law's arguments: bounds of numbers, bytes. -/
set_option linter.unusedVariables false
namespace Go.V
open Go.WideShapes

theorem wf_i64 {n : Int} (h : (Lit.int .i64 n).wf = true) : -9223372036854775808 ≤ n ∧ n ≤ 9223372036854775807 := by
  have h2 : (decide (IntKind.i64.min ≤ n) && decide (n ≤ IntKind.i64.max)) = true := h
  rw [Bool.and_eq_true, decide_eq_true_eq, decide_eq_true_eq] at h2
  exact h2
theorem wf_u8 {n : Int} (h : (Lit.int .u8 n).wf = true) : 0 ≤ n ∧ n < 256 := by
  have h2 : (decide (IntKind.u8.min ≤ n) && decide (n ≤ IntKind.u8.max)) = true := h
  rw [Bool.and_eq_true, decide_eq_true_eq, decide_eq_true_eq] at h2
  have h3 : 0 ≤ n ∧ n ≤ 255 := h2
  omega
/-- A law's bytes. -/
theorem bytes_shape {xs : List AV} (h : Ty.Shape (.sl (.int .u8) 1) xs) : ∃ z d, xs = [.ns z 1 d] ∧ okR d = true ∧ (z = true → d = []) ∧ d.length < 4611686018427387904 := by
  obtain ⟨z, l, rfl, hz, h1, h2, h3⟩ := h
  refine ⟨z, l, rfl, List.all_eq_true.mpr fun r hr => ?_, hz, ?_⟩
  · obtain ⟨n, rfl, hn⟩ := h3 r hr
    have := wf_u8 hn
    show (decide (0 ≤ n) && decide (n < 256)) = true
    simp [this]
  · rw [Nat.mul_one] at h1
    have : reachBytes < 4611686018427387904 := by decide
    omega
end Go.V

/- Page: PageRoom is true. -/
set_option linter.unusedVariables false
namespace Go.Proofs.Ytblliolkgkgppaa.V
open Go Go.V Go.RowKit

/-- A law's calls. -/
def Calls' (l : List (List AV)) : Prop := ∀ r ∈ l, ∃ w s z d, r = [.int .i64 w, .int .i64 s, .ns z 1 d] ∧ okR d = true ∧ (z = true → d = []) ∧ d.length < 4611686018427387904 ∧ (-9223372036854775808 ≤ s ∧ s ≤ 9223372036854775807)
theorem Calls'.ok {l : List (List AV)} (h : Calls' l) (hl : l.length < 4611686018427387904) : okCl l = true := by
  rw [okCl_iff]
  refine ⟨fun r hr => ?_, hl⟩
  obtain ⟨w, s, z, d, rfl, h1, _, h3, _⟩ := h r hr
  show (okR d && fit d.length) = true
  rw [h1, Bool.true_and, fit_iff]
  exact h3
/-- A call's bytes. -/
def cD (r : List AV) : List Nat := nR (rwA (r.drop 2))
theorem call_at {l : List (List AV)} (h : Calls' l) (hg : greatB l = false) {i : Nat} (hi : i < l.length) :
    (LD.one (LT.ns 1)).is (List.drop 2 (V.rowAt l (i : Int))) = true ∧ byOk (rwA (List.drop 2 (V.rowAt l (i : Int)))) = true ∧ apOk (rwA (List.drop 2 (V.rowAt l (i : Int)))).length 1 = true ∧ (∀ x ∈ cD (V.rowAt l (i : Int)), x < 256) := by
  rw [rowAt_nat hi]
  rw [greatB, opq_eq, Bool.or_eq_false_iff, List.any_eq_false] at hg
  have hs := hg.2 l[i] (List.getElem_mem hi)
  obtain ⟨w, s, z, d, hr, h1, _, h3, _⟩ := h l[i] (List.getElem_mem hi)
  rw [hr] at hs ⊢
  simp only [bigCall, List.drop_succ_cons, List.drop_zero, rwA, decide_eq_true_eq] at hs
  refine ⟨rfl, ?_, ?_, ?_⟩
  · show byOk d = true
    rw [byOk_iff]; exact ⟨h1, h3⟩
  · show apOk d.length 1 = true
    rw [apOk_iff]; omega
  · exact fun x hx => okR_lt h1 hx
theorem great_len {l : List (List AV)} (hg : greatB l = false) : l.length ≤ 100 := by
  rw [greatB, opq_eq, Bool.or_eq_false_iff] at hg
  have := hg.1
  simp only [decide_eq_false_iff_not] at this
  omega
noncomputable abbrev roomK (F : Nat) : Cont := Cont.block 0 (Cont.then (f4_r0.run F (f4.leaveK Fun.done)) (f4.leaveK Fun.done))
theorem room_loop (F : Nat) (z : Bool) (l : List (List AV)) (hc : Calls' l) (hg : greatB l = false) : ∀ (k m i : Nat) (y : Bool) (p : List Nat), i + k = l.length → k < m → Pg p → (ofS p).length ≤ 251 →
    ∃ y' q, Pg q ∧ (ofS q).length ≤ 251 ∧ loopRun (f4_l0.run F) [0, 3, 4] (roomK F) m (Env.mk 82 [(0, .ns z 3 l), (3, .ns y 1 (bR p)), (4, .int .i64 (i : Int))]) ⟨[], []⟩ = roomK F (.exit 0) (Env.mk 82 [(3, .ns y' 1 (bR q))]) ⟨[], []⟩
  | k, 0, i, y, p, hi, hm, hp, hl => by omega
  | 0, m + 1, i, y, p, hi, hm, hp, hl => ⟨y, p, hp, hl, by rw [show m + 1 = m.succ from rfl, room_round, branch_not (by simp; omega)]⟩
  | k + 1, m + 1, i, y, p, hi, hm, hp, hl => by
    have h1 : i < l.length := by omega
    have h100 := great_len hg
    obtain ⟨c1, c2, c3, c4⟩ := call_at hc hg h1
    have w0 : IntKind.i64.wrap ((i : Int) + 1) = ((i + 1 : Nat) : Int) := wrap_succ (by omega)
    have hby : byOk (bR p) = true := byOk_bR hp.1 (by rw [hp.2.1]; omega)
    rw [show m + 1 = m.succ from rfl, room_round, branch_of (by simpa using h1), branch_of (inR_nat h1), branch_of c1, branch_of (by rw [hby, c2, c3]; rfl), nR_bR, w0]
    cases ha : addP p (nR (rwA (List.drop 2 (V.rowAt l (i : Int))))) with
    | none =>
      rw [oB_none, branch_false]
      exact room_loop F z l hc hg k m (i + 1) y p (by omega) (by omega) hp hl
    | some q =>
      rw [oB_some, branch_true, oR_some]
      exact room_loop F z l hc hg k m (i + 1) _ q (by omega) (by omega) (hp.add c4 ha).1 (add_len hp hl c4 ha)
theorem zeros_row (c : Nat) : List.replicate c [AV.int IntKind.u8 (0 : Int)] = bR (List.replicate c 0) := by simp [bR]
theorem leastI_max (a b : Int) : leastI true a b = max a b := by
  unfold leastI
  simp only
  split
  · rw [Int.max_eq_right (by omega)]
  · rw [Int.max_eq_left (by omega)]
theorem pageRoom_true (z : Bool) (l : List (List AV)) (hc : Calls' l) (hl : l.length < 4611686018427387904) : ∃ F st, f4.run F [.ns z 3 l] ⟨[], []⟩ = some (.ret (.bool true), st) := by
  refine ⟨l.length + 1, ?_⟩
  rw [room_law, branch_of (hc.ok hl)]
  cases hg : greatB l with
  | true => exact ⟨_, rfl⟩
  | false =>
    obtain ⟨z0, z1⟩ := zeros_pg
    rw [branch_false, zeroP_eq]
    obtain ⟨y, p, hp, hpl, h⟩ := room_loop (l.length + 1) z l hc hg l.length (l.length + 1) 0 false (List.replicate 256 0) (by omega) (by omega) z0 (by rw [z1]; simp)
    rw [show (0 : Int) = ((0 : Nat) : Int) from rfl, h, roomK, room_out, nR_bR]
    have hby : byOk (bR p) = true := byOk_bR hp.1 (by rw [hp.2.1]; omega)
    have hr : roomP p = roomI (ofS p) := by rw [roomP, opq_eq, if_pos hp.2.2]
    have hle := (room_le (ofS p)).1
    have hzb : ∀ c, c ≤ 1000 → byOk (bR (List.replicate c 0)) = true ∧ apOk (bR (List.replicate c 0)).length 1 = true := fun c h => ⟨byOk_bR (fun b hb => by rw [List.eq_of_mem_replicate hb]; omega) (by rw [List.length_replicate]; omega), by rw [apOk_iff, bR_length, List.length_replicate]; omega⟩
    rw [branch_of hby, hr]
    rcases room_cases hpl with ⟨e, h2⟩ | ⟨h0, _, h2, h3, h4⟩
    · have hno : addP p [] = none := by
        rw [addP_eq hp, if_neg]
        rintro ⟨k1, k2, _⟩
        simp only [List.length_nil] at k2
        omega
      rw [e, show leastI true (IntKind.i64.wrap (-1 + 1)) 0 = 0 from rfl, branch_of (by decide), zeros_row, show (0 : Int).toNat = 0 from rfl, branch_of (by rw [hby, (hzb 0 (by omega)).1, (hzb 0 (by omega)).2]; rfl), branch_of (by decide), branch_of (by decide), nR_bR, show List.replicate 0 0 = ([] : List Nat) from rfl, hno, oB_none]
      exact ⟨_, rfl⟩
    · obtain ⟨n, hn⟩ := Int.eq_ofNat_of_zero_le h0
      rw [hn] at h3 h4 hle ⊢
      have hw : leastI true (IntKind.i64.wrap ((n : Int) + 1)) 0 = ((n + 1 : Nat) : Int) := by rw [wrap_succ (by omega), leastI_max]; omega
      have hyes : addP p (List.replicate n 0) = some (pgB (withS (ofS p) (freeK (ofS p)) (some (List.replicate n 0)))) := by
        rw [addP_eq hp, if_pos ⟨h2, by rw [List.length_replicate]; omega, by rw [List.length_replicate]; omega⟩]
      have hno : addP p (List.replicate (n + 1) 0) = none := by
        rw [addP_eq hp, if_neg]
        rintro ⟨k1, k2, k3⟩
        rw [List.length_replicate] at k2 k3
        omega
      have hz : ∀ x ∈ List.replicate n 0, x < 256 := fun b hb => by rw [List.eq_of_mem_replicate hb]; omega
      obtain ⟨q1, q2, _⟩ := hp.add hz hyes
      have hs := (with_free hp.slots.2.2.2.1 (List.replicate n 0)).1
      rw [List.length_replicate] at hs
      rw [hw, Int.toNat_natCast, Int.toNat_natCast, branch_of (by simp only [Bool.and_eq_true, decide_eq_true_eq, Nat.ble_eq]; omega), zeros_row, branch_of (by rw [hby, (hzb (n + 1) (by omega)).1, (hzb (n + 1) (by omega)).2]; rfl), branch_not (by simp), branch_not (by simp; omega),
        branch_of (by simp only [Bool.and_eq_true, decide_eq_true_eq, Nat.ble_eq]; omega), zeros_row, branch_of (by rw [hby, (hzb n (by omega)).1, (hzb n (by omega)).2]; rfl), nR_bR, nR_bR, hyes, hno, oB_some, oB_none, branch_true, branch_of (b := !false) rfl, oR_some,
        branch_of (byOk_bR q1.1 (by rw [q1.2.1]; omega)), nR_bR]
      refine ⟨⟨[], []⟩, ?_⟩
      have : decide (roomP (pgB (withS (ofS p) (freeK (ofS p)) (some (List.replicate n 0)))) ≤ (n : Int)) = true := by
        rw [decide_eq_true_eq, roomP, opq_eq, if_pos q1.2.2, q2]
        have := room_le (withS (ofS p) (freeK (ofS p)) (some (List.replicate n 0)))
        rw [hs] at this
        omega
      rw [this]
abbrev tyCalls : Ty := .sl (.st [.int .i64, .int .i64, .sl (.int .u8) 1]) 40
theorem calls_shape {xs : List AV} (h : Ty.Shape tyCalls xs) : ∃ z l, xs = [.ns z 3 l] ∧ Calls' l ∧ l.length < 4611686018427387904 := by
  obtain ⟨z, l, rfl, hz, h1, h2, h3⟩ := h
  refine ⟨z, l, rfl, fun r hr => ?_, ?_⟩
  · obtain ⟨a, b, rfl, ⟨w, rfl, _⟩, a2, b2, rfl, ⟨s, rfl, hs⟩, a3, b3, rfl, hd, rfl⟩ := h3 r hr
    obtain ⟨z', d, rfl, d1, d2, d3⟩ := bytes_shape hd
    refine ⟨w, s, z', d, rfl, d1, d2, d3, ?_⟩
    exact wf_i64 hs
  · have : reachBytes < 4611686018427387904 := by decide
    omega
theorem pageRoom_law (as0 : List AV) (s0 : Ty.Shape tyCalls as0) : ∃ F st, f4.run F [tyCalls.AV' as0] ⟨[], []⟩ = some (.ret (.bool true), st) := by
  obtain ⟨z, l, rfl, h1, h2⟩ := calls_shape s0
  exact pageRoom_true z l h1 h2
end Go.Proofs.Ytblliolkgkgppaa.V
