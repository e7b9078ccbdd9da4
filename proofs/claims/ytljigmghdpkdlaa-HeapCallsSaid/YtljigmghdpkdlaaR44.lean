/- Merged out of 34 texts: what the claim's code comes to, and why. -/
import Derived.Lib.Builder
import Derived.Lib.UnsafeStr
import Derived.Laws.Externs
import Derived.Test.YtljigmghdpkdlaaR43
set_option linter.unusedVariables false
set_option linter.unusedSimpArgs false
set_option maxRecDepth 100000
namespace Go.Proofs.Ytljigmghdpkdlaa.V
open Go Go.V Go.RowKit
noncomputable def ofV (p : List Nat) : AV := .tup [.ns (ofS p).isEmpty 1 (ofA p), .bool (ofB p)]
theorem hard_sV (o : Option (List Nat)) (s : Sl) : hard (obV (o :: s)) (sV (o :: s)) = .sl 1 false (sA (o :: s)) := by
 have h := rowsOf_one (s.length + 1) (sC (o :: s)) (by simp [sC])
 rw [List.take_of_length_le (by simp [sC]), cR_sC] at h
 simp only [obV, sV, hard, List.getElem?_cons_zero, Nat.beq_refl, h]
theorem ofAns_wk (p : List Nat) (s' : Sl) (hs : ∀ s, ofP p = some s → s' = s) : Scoped 0 0 (hard (obV s') (ofAns (ofP p))) ∧ Wk (hard (obV s') (ofAns (ofP p))) (ofV p) := by
 cases h : ofP p with
 | none =>
  have h1 : ofS p = [] := by rw [ofS, h]; rfl
  have h2 : ofB p = false := by rw [ofB, h]; rfl
  refine ⟨⟨trivial, trivial, trivial⟩, ?_⟩
  rw [ofV, ofA, opq_eq, h1, h2]
  exact .tup (.cons .nil (.cons (.refl _) .nil))
 | some s =>
  have h1 : ofS p = s := by rw [ofS, h]; rfl
  have h2 : ofB p = true := by rw [ofB, h]; rfl
  rw [ofV, ofA, opq_eq, h1, h2, hs s h]
  cases s with
  | nil =>
   refine ⟨⟨trivial, trivial, trivial⟩, ?_⟩
   exact .tup (.cons .nil (.cons (.refl _) .nil))
  | cons o s =>
   have hh : hard (obV (o :: s)) (ofAns (some (o :: s))) = .tup [.sl 1 false (sA (o :: s)), .bool true] := by
    simp only [ofAns, hard, hardL]
    rw [hard_sV]
   rw [hh]
   exact ⟨⟨scoped_sA _, trivial, trivial⟩, .tup (.cons .sl (.cons (.refl _) .nil))⟩
theorem ofP_ofD {p : List Nat} (hp : p.length = 256) (h0 : 0 < p.length) : ofP p = ofD [] ((p.take (1 + p[0])).drop 1) 256 p := by
 have hd : p.headD 0 = p[0] := by cases p with
  | nil => simp at hp
  | cons a p => rfl
 rw [ofP, show (p.length == 256) = true by simpa using hp, hd]
 unfold ofD
 generalize decL ((p.take (1 + p[0])).drop 1) 256 p = x
 cases x with
 | none => rfl
 | some s => rfl
theorem of_all (z : Bool) (p : List Nat) (hpb : ∀ b ∈ p, b < 256) (hl : p.length < 4611686018427387904) : ∃ F s', f44.run F [.ns z 1 (bR p)] ⟨[], []⟩ = some (.ret (ofAns (ofP p)), ⟨obV s', []⟩) ∧ ∀ s, ofP p = some s → s' = s := by
 by_cases hp : p.length = 256
 ·have h0 : 0 < p.length := by omega
  obtain ⟨b1, b2, b3⟩ := bR_at hpb h0
  have hn : p[0] < 256 := hpb _ (List.getElem_mem h0)
  have w1 : IntKind.i64.wrap ((p[0] : Nat) : Int) = (p[0] : Nat) := wrap_nat (by omega)
  have w2 : IntKind.i64.wrap ((1 : Int) + ((p[0] : Nat) : Int)) = ((1 + p[0] : Nat) : Int) := by rw [show (1 : Int) + ((p[0] : Nat) : Int) = ((1 + p[0] : Nat) : Int) by omega]; exact wrap_nat (by omega)
  have hr : List.drop 1 (List.take (1 + p[0]) (bR p)) = bR ((p.take (1 + p[0])).drop 1) := by rw [bR_take, bR_drop]
  have hcl : ((p.take (1 + p[0])).drop 1).length = p[0] := by simp; omega
  obtain ⟨s', h, hs⟩ := of_loop 300 z p ((p.take (1 + p[0])).drop 1) hp hpb (fun b hb => hpb b (List.mem_of_mem_take (List.mem_of_mem_drop hb))) (by omega) p[0] 300 0 256 [] (by omega) (by omega) (by omega) rfl (by simp [sumN]) (fun b hb => by cases hb)
  rw [List.drop_zero, ← ofP_ofD hp h0] at h hs
  refine ⟨300, s', ?_, hs⟩
  rw [of_run, branch_not (by rw [bR_length, hp]; rfl), branch_of (show inR (bR p) 0 = true from b1), branch_of (show (LD.one (.int .u8)).is (V.rowAt (bR p) 0) = true from b2), show hdI (V.rowAt (bR p) 0) = (p[0] : Nat) from b3, w1, w2, Int.toNat_natCast,
   if_pos ⟨by omega, by rw [bR_length]; omega⟩, if_pos ⟨by omega, by omega⟩, hr, bR_length, bR_length, hp]
  exact h
 ·refine ⟨0, [], ?_, fun s hs => ?_⟩
  ·rw [of_run, branch_of (by rw [bR_length]; simp; omega), ofP, show (p.length == 256) = false by simpa using hp]
   rfl
  ·rw [ofP, show (p.length == 256) = false by simpa using hp] at hs
   cases hs
noncomputable def p44 : POrc Try.prog := f44.farW
 (fun args k => match args with
  | [x] => onNs 1 x fun _ l => ifT (byOk l) (k (ofV (nR l)))
  | _ => none)
 fun args k fin h => by
  split at h
  ·rename_i x
   obtain ⟨z, l, h, hx⟩ := onNs_spec h
   obtain ⟨h1, h⟩ := ifT_spec h
   obtain ⟨h1, h2⟩ := byOk_iff.mp h1
   obtain ⟨F, s', hF, hs⟩ := of_all z (nR l) (fun b hb => okR_lt h1 hb) (by rw [nR_length]; exact h2)
   rw [← okR_rows h1] at hF
   obtain ⟨w1, w2⟩ := ofAns_wk (nR l) s' hs
   exact ⟨_, _, h, .cons hx .nil, ⟨okR_scoped h1, trivial⟩, F, _, _, hF, w1, w2⟩
  ·cases h
noncomputable def ofE (p : List Nat) : Bool := opq (ofS p).isEmpty
noncomputable def ofN (p : List Nat) : Nat := opq ((ofS p).length - 1)
noncomputable def ofC (p : List Nat) : List AV := opq (sC (ofS p))
noncomputable def ofO (p : List Nat) : Bool := opq (ofB p)
noncomputable def o44 : OrcS Try.prog := f44.by'
 (fun args st k => match args with
  | [x] => onNone st (onNs 1 x fun _ l => ifT (byOk l) (branch (.bool (ofO (nR l)))
    (branch (.bool (ofE (nR l))) (k (.ret (.tup [.nilsl, .bool true])) ⟨[], []⟩) (k (.ret (.tup [.vs 0 (ofN (nR l)) 1 (ofN (nR l) + 1), .bool true])) ⟨[.vec (ofN (nR l)) (ofC (nR l))], []⟩))
    (k (.ret (.tup [.nilsl, .bool false])) ⟨[], []⟩)))
  | _ => none)
 fun args st k fin h => by
  split at h
  ·rename_i x
   obtain ⟨e, h5⟩ := onNone_spec h
   clear h
   subst e
   obtain ⟨z, l, h, hx⟩ := onNs_spec h5
   obtain ⟨h1, h⟩ := ifT_spec h
   obtain ⟨h1, h2⟩ := byOk_iff.mp h1
   obtain ⟨F, s', hF, hs⟩ := of_all z (nR l) (fun b hb => okR_lt h1 hb) (by rw [nR_length]; exact h2)
   rw [← okR_rows h1] at hF
   have hw : Wks [x] [.ns z 1 l] := .cons hx .nil
   have hc : CallsTo Try.prog f44.id [x] ⟨[], []⟩ (.ret (ofAns (ofP (nR l))), ⟨obV s', []⟩) := fun g w vals hv hst => f44.sound hF g w vals (hw _ _ _ hv) hst
   simp only [ofO, ofE, ofN, ofC, opq_eq, ofB, ofS] at h
   cases hp : ofP (nR l) with
   | none =>
    rw [hp] at h hc
    refine ⟨_, _, h, ?_⟩
    exact forget (os := []) (xo := obV s') (xt := []) hc rfl (.inl rfl) (fun _ => ⟨trivial, trivial, trivial⟩)
   | some s =>
    rw [hp] at h hc
    obtain rfl := hs s hp
    cases s' with
    | nil => exact ⟨_, _, h, hc⟩
    | cons o s => exact ⟨_, _, h, hc⟩
  ·cases h
noncomputable def f71_l0 : Sim Try.prog :=
 (.seq (.seq (.live [0, 1, 2, 10] (.region 1 [
 ⟨(opMove (some 7) (.tmp 0) 82 "page.go:101" #[]).op, none⟩,
 ⟨(opLen (some 8) (.tmp 7) 82 (.slice 34) Try.underlying82 3 "page.go:101" #[eD 0]).op, none⟩,
 ⟨(opMove (some 9) (.tmp 1) 3 "page.go:101" #[]).op, none⟩,
 ⟨(opBin (some 10) .leq 3 (.tmp 8) (.tmp 9) 3 4 "page.go:101" #[eD 1, eD 2]).op, none⟩
 ] (by kernel_rfl)))
 (.cond (.tmp 10)
 .skip
 (.live [0, 1, 2] (.exit 0))))
 (.block 1 (.live [0, 1, 2] (.region 2 [
 ⟨(opMove (some 11) (.tmp 0) 82 "page.go:102" #[]).op, none⟩,
 ⟨(opBuildSlice (some 12) 82 1 [(0, (.const (Value.slice none 0 0)))] 34 1 24 (.slice none 0 0) el82 (by kernel_rfl) (by decide) 82 "page.go:102" #[]).op, none⟩,
 ⟨(opAppendV (some 13) (.tmp 11) (.tmp 12) 82 82 34 1 24 (.slice none 0 0) el82 (.slice 34) Try.underlying82 rfl 82 "page.go:102" #[eD 0, eD 1]).op, none⟩,
 ⟨(opAssign (some 0) (.tmp 13) 82 "page.go:102" #[eD 2, eC 2, eP 0, eP 1, eP 2]).op, none⟩
 ] (by kernel_rfl)))))
noncomputable def f71_r0 : Sim Try.prog :=
 (.seq (.live [0] (.region 3 [
 ⟨(opMove (some 14) (.tmp 0) 82 "page.go:104" #[]).op, none⟩,
 ⟨(opMove (some 15) (.tmp 1) 3 "page.go:104" #[]).op, none⟩,
 ⟨(opMove (some 16) (.tmp 2) 34 "page.go:104" #[]).op, none⟩,
 ⟨(opIndexAddrT (some 17) 82 (.tmp 14) (.tmp 15) 34 1 Try.underlying82 sz34 0 "page.go:104" #[eD 0, eD 1, eP 0, eP 1, eP 2]).op, none⟩,
 ⟨(opStoreC none 34 (.tmp 17) (.tmp 16) 1 sz34 0 "page.go:104" #[eD 3, eD 2, eP 0, eP 1, eP 2]).op, none⟩
 ] (by kernel_rfl)))
 (.seq (.live [6] (.region 4 [
 ⟨(opMove (some 18) (.tmp 0) 82 "page.go:105" #[]).op, none⟩,
 ⟨(opCallQ q77 (some 19) [(.tmp 18)] #[82] 82 "page.go:105" #[eD 0]).op, none⟩,
 ⟨(opAssign (some 6) (.tmp 19) 82 "page.go:105" #[eD 1, eC 1, eP 0, eP 1]).op, none⟩
 ] (by kernel_rfl)))
 (.live [6] .ret)))
noncomputable def f71_b : Sim Try.prog :=
 (.seq (.live [0, 1, 2] (.region 0 [
 ⟨(opAssign (some 6) (.const (Value.slice none 0 0)) 82 "page.go:100" #[]).op, none⟩
 ] (by kernel_rfl)))
 (.seq (.block 0 (.loop [0, 1, 2] f71_l0))
 f71_r0))
noncomputable def f71 : Fun Try.prog where
 id := 71
 fn := Try.f71
 hf := Try.func71
 hname := by kernel_rfl
 body := f71_b
 hbody := by kernel_rfl
 res := [rTmp 6]
 hres := by kernel_rfl
 n := 20
 hn := by kernel_rfl
theorem wi_run (F : Nat) (k : Int) (x b : AV) (st : St) :
 (f71.run F [x, .int .i64 k, b] st : Ans) =
 loopRun (f71_l0.run F) [0, 1, 2]
 (Cont.block 0 (Cont.then (f71_r0.run F (f71.leaveK Fun.done)) (f71.leaveK Fun.done))) F
 (Env.mk 20 [(0, x), (1, .int .i64 k), (2, b)]) st := by kernel_rfl
theorem wi_round0 (F m : Nat) (K : Cont) (k : Int) (b : AV) :
 (loopRun (f71_l0.run F) [0, 1, 2] K m.succ (Env.mk 20 [(0, .nilsl), (1, .int .i64 k), (2, b)]) ⟨[], []⟩ : Ans) =
 branch (.bool (decide ((0 : Int) ≤ k)))
 (branch (.bool (apOk 1 24))
 (loopRun (f71_l0.run F) [0, 1, 2] K m
 (Env.mk 20
 [(0, AV.vs 0 0 1 1), (1, .int .i64 k), (2, b)])
 (St.mk [Ob.vec 0 (catC [] 0 [[AV.nilsl]])] []))
 none)
 (K (AX.exit 0) (Env.mk 20 [(0, AV.nilsl), (1, .int .i64 k), (2, b)])
 (St.mk [] [])) := by kernel_rfl
theorem wi_round (F m v n : Nat) (K : Cont) (k : Int) (b : AV) (cs : List AV) :
 (loopRun (f71_l0.run F) [0, 1, 2] K m.succ (Env.mk 20 [(0, .vs 0 v 1 n), (1, .int .i64 k), (2, b)]) ⟨[.vec v cs], []⟩ : Ans) =
 branch (.bool (decide ((↑n : Int) ≤ k)))
 (branch (.bool (v.beq v && (inC cs 0 (mulN n 1) && apOk (n + 1) 24)))
 (loopRun (f71_l0.run F) [0, 1, 2] K m
 (Env.mk 20
 [(0, AV.vs 0 (v + 1) 1 (n + 1)), (1, .int .i64 k),
 (2, b)])
 (St.mk [Ob.vec (v + 1) (catC cs (mulN n 1) [[AV.nilsl]])] []))
 none)
 (K (AX.exit 0)
 (Env.mk 20 [(0, AV.vs 0 v 1 n), (1, .int .i64 k), (2, b)])
 (St.mk [Ob.vec v cs] [])) := by kernel_rfl
theorem wi_out0 (F v n : Nat) (k : Int) (cs : List AV) :
 ((Cont.block 0 (Cont.then (f71_r0.run F (f71.leaveK Fun.done)) (f71.leaveK Fun.done))) (.exit 0) (Env.mk 20 [(0, .vs 0 v 1 n), (1, .int .i64 k), (2, .nilsl)]) ⟨[.vec v cs], []⟩ : Ans) =
 if (0 : Int) ≤ k ∧ k < (↑n : Int) then
 branch (.bool (v.beq v && (true && inC cs (k.toNat * 1) 1)))
 (branch (.bool (v.beq v))
 (branch (.bool (okV n (setC cs (k.toNat * 1) [AV.nilsl])))
 (some
 (Fin.ret (AV.vs 0 v 1 (trN n (setC cs (k.toNat * 1) [AV.nilsl]))),
 St.mk [Ob.vec v (setC cs (k.toNat * 1) [AV.nilsl])] []))
 none)
 none)
 none
 else none := by kernel_rfl
theorem wi_out (F v n : Nat) (f : Bool) (k : Int) (l : List (List AV)) (cs : List AV) :
 ((Cont.block 0 (Cont.then (f71_r0.run F (f71.leaveK Fun.done)) (f71.leaveK Fun.done))) (.exit 0) (Env.mk 20 [(0, .vs 0 v 1 n), (1, .int .i64 k), (2, .sl 1 f l)]) ⟨[.vec v cs], []⟩ : Ans) =
 if (0 : Int) ≤ k ∧ k < (↑n : Int) then
 branch (.bool (v.beq v && (true && inC cs (k.toNat * 1) 1)))
 (branch (.bool (v.beq v))
 (branch (.bool (okV n (setC cs (k.toNat * 1) [AV.sl 1 f l])))
 (some
 (Fin.ret (AV.vs 0 v 1 (trN n (setC cs (k.toNat * 1) [AV.sl 1 f l]))),
 St.mk [Ob.vec v (setC cs (k.toNat * 1) [AV.sl 1 f l])] []))
 none)
 none)
 none
 else none := by kernel_rfl
def padC (cs : List AV) (m : Nat) : List AV := cs ++ List.replicate (m - cs.length) .nilsl
theorem padC_length (cs : List AV) (m : Nat) : (padC cs m).length = max cs.length m := by simp [padC]; omega
noncomputable abbrev wiK (F : Nat) : Cont := Cont.block 0 (Cont.then (f71_r0.run F (f71.leaveK Fun.done)) (f71.leaveK Fun.done))
theorem wi_loop (F k : Nat) (hk : k ≤ 1000) (b : AV) : ∀ (d m v : Nat) (cs : List AV), cs.length + d = max cs.length (k + 1) → d < m →
  loopRun (f71_l0.run F) [0, 1, 2] (wiK F) m (Env.mk 20 [(0, .vs 0 v 1 cs.length), (1, .int .i64 (k : Int)), (2, b)]) ⟨[.vec v cs], []⟩
   = wiK F (.exit 0) (Env.mk 20 [(0, .vs 0 (v + d) 1 (padC cs (k + 1)).length), (1, .int .i64 (k : Int)), (2, b)]) ⟨[.vec (v + d) (padC cs (k + 1))], []⟩
 | d, 0, v, cs, hd, hm => by omega
 | 0, m + 1, v, cs, hd, hm => by
  have : padC cs (k + 1) = cs := by rw [padC, show k + 1 - cs.length = 0 by omega]; simp
  rw [show m + 1 = m.succ from rfl, wi_round, branch_not (by simp; omega), this]
  rfl
 | d + 1, m + 1, v, cs, hd, hm => by
  have hlt : cs.length ≤ k := by omega
  have hp : padC (cs ++ [.nilsl]) (k + 1) = padC cs (k + 1) := by
   simp only [padC, List.length_append, List.length_singleton, List.append_assoc]
   rw [show k + 1 - cs.length = (k + 1 - (cs.length + 1)) + 1 by omega, List.replicate_succ]
   rfl
  rw [show m + 1 = m.succ from rfl, wi_round, branch_of (by simpa using hlt), branch_of (vs_guard rfl (by omega)), catC_one rfl]
  have ih := wi_loop F k hk b d m (v + 1) (cs ++ [.nilsl]) (by rw [List.length_append, List.length_singleton]; omega) (by omega)
  rw [hp, List.length_append, List.length_singleton, show v + 1 + d = v + (d + 1) by omega] at ih
  exact ih
noncomputable def okB (b : AV) : Bool :=
 match b with
 | .nilsl => true
 | .sl s _ l => Nat.beq s 1 && byOk l
 | _ => false
theorem okB_spec {b : AV} (h : okB b = true) : (b = .nilsl ∨ ∃ f l, b = .sl 1 f l) ∧ okSlot [b] = true ∧ (rwA [b]).length < 4611686018427387904 := by
 unfold okB at h
 split at h
 ·exact ⟨.inl rfl, rfl, by simp [rwA]⟩
 ·rename_i s f l
  rw [Bool.and_eq_true] at h
  obtain rfl := Nat.eq_of_beq_eq_true h.1
  obtain ⟨h1, h2⟩ := byOk_iff.mp h.2
  exact ⟨.inr ⟨_, _, rfl⟩, h1, h2⟩
 ·cases h
noncomputable def okW (cs : List AV) : Bool := okS (cR cs) && cdec (cs.length ≤ 1000)
theorem okW_iff {cs : List AV} : okW cs = true ↔ okS (cR cs) = true ∧ cs.length ≤ 1000 := by rw [okW, Bool.and_eq_true, cdec_iff]
noncomputable def wC (cs : List AV) (k : Nat) (b : AV) : List AV := opq ((padC cs (k + 1)).set k b)
noncomputable def wN (cs : List AV) (k : Nat) (b : AV) : Nat := opq (trR (cR ((padC cs (k + 1)).set k b))).length
noncomputable def wV (v : Nat) (cs : List AV) (k : Nat) : Nat := opq (v + (k + 1 - cs.length))
theorem okS_set {cs : List AV} (h : okW cs = true) {k : Nat} (hk : k ≤ 1000) {b : AV} (hb : okB b = true) : okS (cR ((padC cs (k + 1)).set k b)) = true := by
 obtain ⟨h1, h2⟩ := okW_iff.mp h
 rw [okS_iff] at h1 ⊢
 refine ⟨fun r hr => ?_, by rw [cR_length, List.length_set, padC_length]; omega⟩
 obtain ⟨x, hx, rfl⟩ := List.mem_map.mp hr
 rcases List.mem_or_eq_of_mem_set hx with hx | rfl
 ·rcases List.mem_append.mp hx with hx | hx
  ·exact h1.1 _ (List.mem_map.mpr ⟨x, hx, rfl⟩)
  ·rw [List.eq_of_mem_replicate hx]
   exact ⟨rfl, by simp [rwA]⟩
 ·exact (okB_spec hb).2
theorem wi_end (F k v : Nat) (hk : k ≤ 1000) (cs : List AV) (hcs : okW cs = true) (b : AV) (hb : okB b = true) :
  wiK F (.exit 0) (Env.mk 20 [(0, .vs 0 v 1 (padC cs (k + 1)).length), (1, .int .i64 (k : Int)), (2, b)]) ⟨[.vec v (padC cs (k + 1))], []⟩ = some (.ret (.vs 0 v 1 (wN cs k b)), ⟨[.vec v (wC cs k b)], []⟩) := by
 have hl : k < (padC cs (k + 1)).length := by rw [padC_length]; omega
 have hs := okS_set hcs hk hb
 have hset : setC (padC cs (k + 1)) k [b] = (padC cs (k + 1)).set k b := setC_one hl
 have hv : okV (padC cs (k + 1)).length ((padC cs (k + 1)).set k b) = true := by
  rw [okV_iff, List.length_set]
  refine ⟨Nat.le_refl _, ?_⟩
  rw [List.take_of_length_le (by rw [List.length_set]; exact Nat.le_refl _)]
  exact hs
 have hn : trN (padC cs (k + 1)).length ((padC cs (k + 1)).set k b) = wN cs k b := by
  rw [trN, wN, opq_eq, opq_eq, List.take_of_length_le (by rw [List.length_set]; exact Nat.le_refl _)]
 have hg : (v.beq v && (true && inC (padC cs (k + 1)) (k * 1) 1)) = true := by
  rw [Nat.beq_refl, Bool.true_and, Bool.true_and, inC_iff]; omega
 rcases (okB_spec hb).1 with rfl | ⟨f, l, rfl⟩
 ·rw [wiK, wi_out0, if_pos ⟨by omega, by omega⟩, Int.toNat_natCast, branch_of hg, branch_of (Nat.beq_refl v), Nat.mul_one, hset, branch_of hv, hn, wC, opq_eq]
 ·rw [wiK, wi_out, if_pos ⟨by omega, by omega⟩, Int.toNat_natCast, branch_of hg, branch_of (Nat.beq_refl v), Nat.mul_one, hset, branch_of hv, hn, wC, opq_eq]
theorem wi_all (k v : Nat) (hk : k ≤ 1000) (cs : List AV) (hcs : okW cs = true) (b : AV) (hb : okB b = true) :
  f71.run (k + 3) [.vs 0 v 1 cs.length, .int .i64 (k : Int), b] ⟨[.vec v cs], []⟩ = some (.ret (.vs 0 (wV v cs k) 1 (wN cs k b)), ⟨[.vec (wV v cs k) (wC cs k b)], []⟩) := by
 rw [wi_run, wi_loop _ k hk b (k + 1 - cs.length) (k + 3) v cs (by omega) (by omega), wi_end _ k _ hk cs hcs b hb, wV, opq_eq]
theorem wi_all0 (k : Nat) (hk : k ≤ 1000) (b : AV) (hb : okB b = true) :
  f71.run (k + 3) [.nilsl, .int .i64 (k : Int), b] ⟨[], []⟩ = some (.ret (.vs 0 k 1 (wN [] k b)), ⟨[.vec k (wC [] k b)], []⟩) := by
 have hp : padC [.nilsl] (k + 1) = padC [] (k + 1) := by
  simp only [padC, List.length_nil, List.length_singleton]
  rw [show k + 1 - 0 = (k + 1 - 1) + 1 by omega, List.replicate_succ]
  rfl
 have h0 : okW [] = true := by rw [okW_iff]; exact ⟨by rw [okS_iff]; exact ⟨by simp [cR], by simp [cR]⟩, by simp⟩
 have hl := wi_loop (k + 3) k hk b k (k + 2) 0 [.nilsl] (by simp; omega) (by omega)
 have he := wi_end (k + 3) k (0 + k) hk [] h0 b hb
 rw [hp] at hl
 rw [wi_run, show k + 3 = (k + 2).succ from rfl, wi_round0, branch_of (by simp), branch_of ap_one, catC_nil]
 rw [he, Nat.zero_add] at hl
 exact hl
noncomputable def o71 : OrcS Try.prog := f71.by'
 (fun args st k => match args with
  | [.nilsl, .int .i64 i, b] => onNone st (ifT (cdec (0 ≤ i ∧ i ≤ 1000) && okB b) (k (.ret (.vs 0 i.toNat 1 (wN [] i.toNat b))) ⟨[.vec i.toNat (wC [] i.toNat b)], []⟩))
  | [.vs j v s n, .int .i64 i, b] => match Nat.beq j 0 && Nat.beq s 1 with
   | true => match st with
    | ⟨[.vec v' cs], []⟩ => ifT (Nat.beq v v' && (cdec (n = cs.length) && (cdec (0 ≤ i ∧ i ≤ 1000) && (okW cs && okB b)))) (k (.ret (.vs 0 (wV v cs i.toNat) 1 (wN cs i.toNat b))) ⟨[.vec (wV v cs i.toNat) (wC cs i.toNat b)], []⟩)
    | _ => none
   | false => none
  | _ => none)
 fun args st k fin h => by
  split at h
  ·obtain ⟨e, h5⟩ := onNone_spec h
   clear h
   subst e
   obtain ⟨h1, h⟩ := ifT_spec h5
   rw [Bool.and_eq_true, cdec_iff] at h1
   obtain ⟨m, rfl⟩ := Int.eq_ofNat_of_zero_le h1.1.1
   simp only [Int.toNat_natCast] at h
   exact ⟨_, _, h, f71.sound (wi_all0 m (by omega) _ h1.2)⟩
  ·split at h
   ·rename_i hj
    rw [Bool.and_eq_true] at hj
    obtain rfl := Nat.eq_of_beq_eq_true hj.1
    obtain rfl := Nat.eq_of_beq_eq_true hj.2
    split at h
    ·obtain ⟨h1, h6⟩ := ifT_spec h
     clear h
     simp only [Bool.and_eq_true, cdec_iff] at h1
     obtain ⟨e1, e2, e3, e4, e5⟩ := h1
     obtain rfl := Nat.eq_of_beq_eq_true e1
     subst e2
     obtain ⟨m, rfl⟩ := Int.eq_ofNat_of_zero_le e3.1
     simp only [Int.toNat_natCast] at h6
     exact ⟨_, _, h6, f71.sound (wi_all m _ (by omega) _ e4 _ e5)⟩
    ·cases h
   ·cases h
  ·cases h
theorem ze3 : (Try.prog.info? 3).bind (·.zero) = some (.int .i64 0) := by kernel_rfl
theorem by3 : (Try.prog.info? 3).map (·.bytes) = some 8 := by kernel_rfl
theorem sz3 : (Try.prog.info? 3).map (·.size) = some 1 := by kernel_rfl
theorem el23 : ElemOf Try.prog 23 3 1 8 (.int .i64 0) := ⟨Try.underlying23, sz3, by3, ze3, by kernel_rfl, by decide⟩
noncomputable def f40_b : Sim Try.prog :=
 (.seq (.live [0, 1] (.region 0 [
 ⟨(opAssign (some 4) (.const (Value.slice none 0 0)) 34 "page.go:91" #[]).op, none⟩,
 ⟨(opAssign (some 5) (.const (Value.bool false)) 4 "page.go:91" #[eC 0]).op, none⟩
 ] (by kernel_rfl)))
 (.seq (.live [1, 6] (.region 1 [
 ⟨(opMove (some 9) (.tmp 0) 34 "page.go:92" #[]).op, none⟩,
 ⟨(opCallP p44 (some 10) [(.tmp 9)] #[34] 83 "page.go:92" #[eD 0]).op, none⟩,
 ⟨(opMove (some 8) (.tmp 10) 83 "page.go:92" #[eD 1]).op, none⟩,
 ⟨(opExtract (some 11) (.tmp 8) 0 82 "page.go:92" #[eD 2]).op, none⟩,
 ⟨(opExtract (some 12) (.tmp 8) 1 4 "page.go:92" #[eD 2, eX 5]).op, none⟩,
 ⟨(opAssign (some 6) (.tmp 11) 82 "page.go:92" #[eD 3, eC 1, eP 0, eP 1, eP 2, eP 3, eT 4]).op, none⟩,
 ⟨(opAssign (some 7) (.tmp 12) 4 "page.go:92" #[eD 4, eC 5, eP 0, eP 1, eP 2, eP 3, eP 4, eP 5]).op, none⟩
 ] (by kernel_rfl)))
 (.seq (.seq (.live [1, 6, 27] (.region 2 [
 ⟨(opMove (some 13) (.tmp 1) 3 "page.go:93" #[]).op, none⟩,
 ⟨(opBin (some 14) .lss 3 (.tmp 13) (.const (Value.int IntKind.i64 0)) 3 4 "page.go:93" #[eD 0]).op, none⟩,
 ⟨(opMove (some 15) (.tmp 14) 4 "page.go:93" #[eD 1]).op, none⟩,
 ⟨(opMove (some 16) (.tmp 1) 3 "page.go:93" #[eG 2]).op, (some (2, 15, false))⟩,
 ⟨(opMove (some 17) (.tmp 6) 82 "page.go:93" #[eG 2]).op, (some (2, 15, false))⟩,
 ⟨(opLen (some 18) (.tmp 17) 82 (.slice 34) Try.underlying82 3 "page.go:93" #[eD 4, eG 2]).op, (some (2, 15, false))⟩,
 ⟨(opBin (some 19) .geq 3 (.tmp 16) (.tmp 18) 3 4 "page.go:93" #[eD 3, eD 5, eG 2]).op, (some (2, 15, false))⟩,
 ⟨(opPick (some 20) (.tmp 15) (.const (Value.bool true)) (.tmp 19) 4 "page.go:93" #[eD 2, eD 6]).op, none⟩,
 ⟨(opMove (some 21) (.tmp 20) 4 "page.go:93" #[eD 7, eC 2]).op, none⟩,
 ⟨(opMove (some 22) (.tmp 6) 82 "page.go:93" #[eG 8]).op, (some (8, 21, false))⟩,
 ⟨(opMove (some 23) (.tmp 1) 3 "page.go:93" #[eG 8]).op, (some (8, 21, false))⟩,
 ⟨(opIndexAddrT (some 24) 82 (.tmp 22) (.tmp 23) 34 1 Try.underlying82 sz34 0 "page.go:93" #[eD 9, eD 10, eG 8]).op, (some (8, 21, false))⟩,
 ⟨(opLoadT (.one (.ns 1)) (some 25) 34 (.tmp 24) (.slice 5) Try.underlying34 1 sz34 (by kernel_rfl) 34 "page.go:93" #[eD 11, eG 8]).op, (some (8, 21, false))⟩,
 ⟨(opEq (some 26) 34 (.slice 5) Try.underlying34 (.tmp 25) (.const (Value.slice none 0 0)) (.inl rfl) 34 4 "page.go:93" #[eD 12, eG 8]).op, (some (8, 21, false))⟩,
 ⟨(opPick (some 27) (.tmp 21) (.const (Value.bool true)) (.tmp 26) 4 "page.go:93" #[eD 8, eD 13]).op, none⟩
 ] (by kernel_rfl)))
 (.cond (.tmp 27)
 (.seq (.live [4, 5] (.region 3 [
 ⟨(opAssign (some 4) (.const (Value.slice none 0 0)) 34 "page.go:94" #[]).op, none⟩,
 ⟨(opAssign (some 5) (.const (Value.bool false)) 4 "page.go:94" #[eC 0, eP 0]).op, none⟩
 ] (by kernel_rfl)))
 (.live [4, 5] .ret))
 .skip))
 (.seq (.live [4, 5] (.region 4 [
 ⟨(opMove (some 28) (.tmp 6) 82 "page.go:96" #[]).op, none⟩,
 ⟨(opMove (some 29) (.tmp 1) 3 "page.go:96" #[]).op, none⟩,
 ⟨(opIndexAddrT (some 30) 82 (.tmp 28) (.tmp 29) 34 1 Try.underlying82 sz34 0 "page.go:96" #[eD 0, eD 1]).op, none⟩,
 ⟨(opLoadT (.one (.ns 1)) (some 31) 34 (.tmp 30) (.slice 5) Try.underlying34 1 sz34 (by kernel_rfl) 34 "page.go:96" #[eD 2]).op, none⟩,
 ⟨(opAssign (some 4) (.tmp 31) 34 "page.go:96" #[eD 3, eP 0, eP 1, eP 2, eP 3]).op, none⟩,
 ⟨(opAssign (some 5) (.const (Value.bool true)) 4 "page.go:96" #[eC 4, eP 0, eP 1, eP 2, eP 3, eP 4]).op, none⟩
 ] (by kernel_rfl)))
 (.live [4, 5] .ret)))))
noncomputable def f40 : Fun Try.prog where
 id := 40
 fn := Try.f40
 hf := Try.func40
 hname := by kernel_rfl
 body := f40_b
 hbody := by kernel_rfl
 res := [rTmp 4, rTmp 5]
 hres := by kernel_rfl
 n := 32
 hn := by kernel_rfl
noncomputable def f19_b : Sim Try.prog :=
 (.seq (.live [0] (.region 0 [
 ⟨(opAssign (some 2) (.const (Value.int IntKind.i64 0)) 3 "page.go:156" #[]).op, none⟩
 ] (by kernel_rfl)))
 (.seq (.live [3, 4] (.region 1 [
 ⟨(opMove (some 8) (.tmp 0) 34 "page.go:157" #[]).op, none⟩,
 ⟨(opCallP p44 (some 9) [(.tmp 8)] #[34] 83 "page.go:157" #[eD 0]).op, none⟩,
 ⟨(opMove (some 7) (.tmp 9) 83 "page.go:157" #[eD 1]).op, none⟩,
 ⟨(opExtract (some 10) (.tmp 7) 0 82 "page.go:157" #[eD 2]).op, none⟩,
 ⟨(opExtract (some 11) (.tmp 7) 1 4 "page.go:157" #[eD 2, eX 5]).op, none⟩,
 ⟨(opAssign (some 3) (.tmp 10) 82 "page.go:157" #[eD 3, eC 1, eP 0, eP 1, eP 2, eP 3, eT 4]).op, none⟩,
 ⟨(opAssign (some 4) (.tmp 11) 4 "page.go:157" #[eD 4, eC 5, eP 0, eP 1, eP 2, eP 3, eP 4, eP 5]).op, none⟩
 ] (by kernel_rfl)))
 (.seq (.seq (.live [3, 13] (.region 2 [
 ⟨(opMove (some 12) (.tmp 4) 4 "page.go:158" #[]).op, none⟩,
 ⟨(opNot (some 13) 4 (.tmp 12) 4 "page.go:158" #[eD 0]).op, none⟩
 ] (by kernel_rfl)))
 (.cond (.tmp 13)
 (.seq (.live [2] (.region 3 [
 ⟨(opAssign (some 2) (.const (Value.int IntKind.i64 0)) 3 "page.go:159" #[]).op, none⟩
 ] (by kernel_rfl)))
 (.live [2] .ret))
 .skip))
 (.seq (.live [3, 5] (.region 4 [
 ⟨(opAssign (some 5) (.const (Value.int IntKind.i64 1)) 3 "page.go:161" #[]).op, none⟩
 ] (by kernel_rfl)))
 (.seq (.seq (.live [3, 5, 15] (.region 5 [
 ⟨(opMove (some 14) (.tmp 3) 82 "page.go:162" #[]).op, none⟩,
 ⟨(opCallP p45 (some 15) [(.tmp 14), (.func 46)] #[82, 86] 4 "page.go:162" #[eD 0]).op, none⟩
 ] (by kernel_rfl)))
 (.cond (.tmp 15)
 (.live [3, 5] (.region 6 [
 ⟨(opAssign (some 5) (.const (Value.int IntKind.i64 0)) 3 "page.go:163" #[]).op, none⟩
 ] (by kernel_rfl)))
 .skip))
 (.seq (.live [3, 5, 6] (.region 7 [
 ⟨(opMove (some 16) (.tmp 3) 82 "page.go:165" #[]).op, none⟩,
 ⟨(opCallP p47 (some 17) [(.tmp 16)] #[82] 3 "page.go:165" #[eD 0]).op, none⟩,
 ⟨(opBin (some 18) .sub 3 (.const (Value.int IntKind.i64 256)) (.tmp 17) 3 3 "page.go:165" #[eD 1]).op, none⟩,
 ⟨(opMove (some 19) (.tmp 5) 3 "page.go:165" #[]).op, none⟩,
 ⟨(opBin (some 20) .sub 3 (.tmp 18) (.tmp 19) 3 3 "page.go:165" #[eD 2, eD 3]).op, none⟩,
 ⟨(opMinMax (some 21) false (.tmp 20) [(.const (Value.int IntKind.i64 200))] #[3, 3] 3 "page.go:165" #[eD 4]).op, none⟩,
 ⟨(opAssign (some 6) (.tmp 21) 3 "page.go:165" #[eD 5, eC 1, eP 0, eP 1, eP 2, eP 3, eP 4, eP 5]).op, none⟩
 ] (by kernel_rfl)))
 (.seq (.seq (.live [6, 32] (.region 8 [
 ⟨(opMove (some 22) (.tmp 6) 3 "page.go:166" #[]).op, none⟩,
 ⟨(opBin (some 23) .lss 3 (.tmp 22) (.const (Value.int IntKind.i64 0)) 3 4 "page.go:166" #[eD 0]).op, none⟩,
 ⟨(opMove (some 24) (.tmp 23) 4 "page.go:166" #[eD 1]).op, none⟩,
 ⟨(opMove (some 25) (.tmp 3) 82 "page.go:166" #[eG 2]).op, (some (2, 24, false))⟩,
 ⟨(opLen (some 26) (.tmp 25) 82 (.slice 34) Try.underlying82 3 "page.go:166" #[eD 3, eG 2]).op, (some (2, 24, false))⟩,
 ⟨(opBin (some 27) .gtr 3 (.tmp 26) (.const (Value.int IntKind.i64 250)) 3 4 "page.go:166" #[eD 4, eG 2]).op, (some (2, 24, false))⟩,
 ⟨(opMove (some 28) (.tmp 27) 4 "page.go:166" #[eD 5, eC 2, eG 2]).op, (some (2, 24, false))⟩,
 ⟨(opMove (some 29) (.tmp 5) 3 "page.go:166" #[eG 6]).op, (some (6, 28, true))⟩,
 ⟨(opBin (some 30) .gtr 3 (.tmp 29) (.const (Value.int IntKind.i64 0)) 3 4 "page.go:166" #[eD 7, eG 6]).op, (some (6, 28, true))⟩,
 ⟨(opPick (some 31) (.tmp 28) (.tmp 30) (.const (Value.bool false)) 4 "page.go:166" #[eD 6, eD 8, eG 2]).op, (some (2, 24, false))⟩,
 ⟨(opPick (some 32) (.tmp 24) (.const (Value.bool true)) (.tmp 31) 4 "page.go:166" #[eD 2, eD 9]).op, none⟩
 ] (by kernel_rfl)))
 (.cond (.tmp 32)
 (.seq (.live [2] (.region 9 [
 ⟨(opAssign (some 2) (.const (Value.int IntKind.i64 (-1))) 3 "page.go:167" #[]).op, none⟩
 ] (by kernel_rfl)))
 (.live [2] .ret))
 .skip))
 (.seq (.live [2] (.region 10 [
 ⟨(opMove (some 33) (.tmp 6) 3 "page.go:169" #[]).op, none⟩,
 ⟨(opAssign (some 2) (.tmp 33) 3 "page.go:169" #[eD 0, eP 0]).op, none⟩
 ] (by kernel_rfl)))
 (.live [2] .ret)))))))))
noncomputable def f19 : Fun Try.prog where
 id := 19
 fn := Try.f19
 hf := Try.func19
 hname := by kernel_rfl
 body := f19_b
 hbody := by kernel_rfl
 res := [rTmp 2]
 hres := by kernel_rfl
 n := 34
 hn := by kernel_rfl
noncomputable def f75_l0 : Sim Try.prog :=
 (.seq (.live [5, 13, 14, 15, 16] (.region 4 [
 ⟨(opBin (some 16) .lss 3 (.tmp 15) (.tmp 14) 3 0 "page.go:147" #[]).op, none⟩
 ] (by kernel_rfl)))
 (.seq (.cond (.tmp 16)
 .skip
 (.live [5] (.exit 0)))
 (.seq (.block 1 (.seq (.live [5, 6, 7, 13, 14, 15] (.region 5 [
 ⟨(opMove (some 17) (.tmp 15) 3 "page.go:147" #[]).op, none⟩,
 ⟨(opIndexAddrT (some 18) 82 (.tmp 13) (.tmp 15) 34 1 Try.underlying82 sz34 0 "page.go:147" #[]).op, none⟩,
 ⟨(opLoadT (.one (.ns 1)) (some 19) 34 (.tmp 18) (.slice 5) Try.underlying34 1 sz34 (by kernel_rfl) 34 "page.go:147" #[eD 1]).op, none⟩,
 ⟨(opAssign (some 6) (.tmp 17) 3 "page.go:147" #[eD 0, eP 0, eP 1, eP 2]).op, none⟩,
 ⟨(opAssign (some 7) (.tmp 19) 34 "page.go:147" #[eD 2, eC 3, eP 0, eP 1, eP 2, eP 3]).op, none⟩
 ] (by kernel_rfl)))
 (.seq (.live [5, 6, 13, 14, 15, 21] (.region 6 [
 ⟨(opMove (some 20) (.tmp 7) 34 "page.go:148" #[]).op, none⟩,
 ⟨(opNe (some 21) 34 (.slice 5) Try.underlying34 (.tmp 20) (.const (Value.slice none 0 0)) (.inl rfl) 34 4 "page.go:148" #[eD 0]).op, none⟩
 ] (by kernel_rfl)))
 (.cond (.tmp 21)
 (.live [5, 13, 14, 15] (.region 7 [
 ⟨(opMove (some 22) (.tmp 5) 23 "page.go:149" #[]).op, none⟩,
 ⟨(opMove (some 23) (.tmp 6) 3 "page.go:149" #[]).op, none⟩,
 ⟨(opBuildSlice (some 24) 23 1 [(0, (.tmp 23))] 3 1 8 (.int .i64 0) el23 (by kernel_rfl) (by decide) 23 "page.go:149" #[eD 1]).op, none⟩,
 ⟨(opAppend (some 25) (.tmp 22) (.tmp 24) 23 23 3 1 8 (.int .i64 0) el23 (.slice 3) Try.underlying23 rfl 23 "page.go:149" #[eD 0, eD 2]).op, none⟩,
 ⟨(opAssign (some 5) (.tmp 25) 23 "page.go:149" #[eD 3, eC 3, eP 0, eP 1, eP 2, eP 3]).op, none⟩
 ] (by kernel_rfl)))
 .skip))))
 (.live [5, 13, 14, 15] (.region 8 [
 ⟨(opBin (some 26) .add 3 (.tmp 15) (.const (Value.int IntKind.i64 1)) 3 3 "page.go:147" #[]).op, none⟩,
 ⟨(opMove (some 15) (.tmp 26) 3 "page.go:147" #[eD 0]).op, none⟩
 ] (by kernel_rfl))))))
noncomputable def f75_r0 : Sim Try.prog :=
 (.seq (.live [2] (.region 9 [
 ⟨(opMove (some 27) (.tmp 5) 23 "page.go:152" #[]).op, none⟩,
 ⟨(opAssign (some 2) (.tmp 27) 23 "page.go:152" #[eD 0, eP 0]).op, none⟩
 ] (by kernel_rfl)))
 (.live [2] .ret))
noncomputable def f75_b : Sim Try.prog :=
 (.seq (.live [0] (.region 0 [
 ⟨(opAssign (some 2) (.const (Value.slice none 0 0)) 23 "page.go:144" #[]).op, none⟩
 ] (by kernel_rfl)))
 (.seq (.live [3] (.region 1 [
 ⟨(opMove (some 9) (.tmp 0) 34 "page.go:145" #[]).op, none⟩,
 ⟨(opCallP p44 (some 10) [(.tmp 9)] #[34] 83 "page.go:145" #[eD 0]).op, none⟩,
 ⟨(opMove (some 8) (.tmp 10) 83 "page.go:145" #[eD 1]).op, none⟩,
 ⟨(opExtract (some 11) (.tmp 8) 0 82 "page.go:145" #[eD 2]).op, none⟩,
 ⟨(opExtract (some 12) (.tmp 8) 1 4 "page.go:145" #[eD 2, eX 5]).op, none⟩,
 ⟨(opAssign (some 3) (.tmp 11) 82 "page.go:145" #[eD 3, eC 1, eP 0, eP 1, eP 2, eP 3, eT 4]).op, none⟩,
 ⟨(opAssign (some 4) (.tmp 12) 4 "page.go:145" #[eD 4, eC 5, eP 0, eP 1, eP 2, eP 3, eP 4, eP 5]).op, none⟩
 ] (by kernel_rfl)))
 (.seq (.live [3, 5] (.region 2 [
 ⟨(opAssign (some 5) (.const (Value.slice none 0 0)) 23 "page.go:146" #[]).op, none⟩
 ] (by kernel_rfl)))
 (.seq (.seq (.live [5, 13, 14, 15] (.region 3 [
 ⟨(opMove (some 13) (.tmp 3) 82 "page.go:147" #[]).op, none⟩,
 ⟨(opLen (some 14) (.tmp 13) 82 (.slice 34) Try.underlying82 3 "page.go:147" #[eD 0]).op, none⟩,
 ⟨(opMove (some 15) (.const (Value.int IntKind.i64 0)) 3 "page.go:147" #[]).op, none⟩
 ] (by kernel_rfl)))
 (.block 0 (.loop [5, 13, 14, 15] f75_l0)))
 f75_r0))))
noncomputable def f75 : Fun Try.prog where
 id := 75
 fn := Try.f75
 hf := Try.func75
 hname := by kernel_rfl
 body := f75_b
 hbody := by kernel_rfl
 res := [rTmp 2]
 hres := by kernel_rfl
 n := 28
 hn := by kernel_rfl
theorem get_run (F : Nat) (z : Bool) (l : List (List AV)) (i : Int) :
 (f40.run F [.ns z 1 l, .int .i64 i] ⟨[], []⟩ : Ans) =
 branch (.bool (byOk l))
 (branch (.bool (decide (i < 0))) (some (Fin.ret (AV.tup [AV.nilsl, AV.bool false]), St.mk [] []))
 (branch (.bool (decide (i ≥ (↑(ofA (nR l)).length : Int))))
 (some (Fin.ret (AV.tup [AV.nilsl, AV.bool false]), St.mk [] []))
 (branch (.bool (inR (ofA (nR l)) i))
 (branch (.bool ((LD.one (LT.ns 1)).is (V.rowAt (ofA (nR l)) i)))
 (branch (.bool (nilA (V.rowAt (ofA (nR l)) i)))
 (some (Fin.ret (AV.tup [AV.nilsl, AV.bool false]), St.mk [] []))
 (branch (.bool (inR (ofA (nR l)) i))
 (branch (.bool ((LD.one (LT.ns 1)).is (V.rowAt (ofA (nR l)) i)))
 (some
 (Fin.ret
 (AV.tup
 [AV.ns (nilA (V.rowAt (ofA (nR l)) i)) 1 (rwA (V.rowAt (ofA (nR l)) i)), AV.bool true]),
 St.mk [] []))
 none)
 none))
 none)
 none)))
 none := by kernel_rfl
theorem room_run (F : Nat) (z : Bool) (l : List (List AV)) :
 (f19.run F [.ns z 1 l] ⟨[], []⟩ : Ans) =
 branch (.bool (byOk l))
 (branch (.bool !ofB (nR l)) (some (Fin.ret (.int .i64 0), St.mk [] []))
 (branch (.bool (true && okS (ofA (nR l))))
 (branch (.bool ((ofA (nR l)).any (prd (46 : FuncId))))
 (branch (.bool (okS (ofA (nR l)) && fit (szN (sR (ofA (nR l))))))
 (branch
 (AV.bool
 (decide
 (leastI false
 (IntKind.i64.wrap (IntKind.i64.wrap ((256 : Int) - (↑(szN (sR (ofA (nR l)))) : Int)) - 0))
 (200 : Int) <
 (0 : Int))))
 (some (Fin.ret (.int .i64 (-1 : Int)), St.mk [] []))
 (branch (.bool (decide ((↑(ofA (nR l)).length : Int) > 250)))
 (some
 (Fin.ret
 (AV.int IntKind.i64
 (leastI false
 (IntKind.i64.wrap
 (IntKind.i64.wrap ((256 : Int) - (↑(szN (sR (ofA (nR l)))) : Int)) - 0))
 (200 : Int))),
 St.mk [] []))
 (some
 (Fin.ret
 (AV.int IntKind.i64
 (leastI false
 (IntKind.i64.wrap
 (IntKind.i64.wrap ((256 : Int) - (↑(szN (sR (ofA (nR l)))) : Int)) - 0))
 (200 : Int))),
 St.mk [] []))))
 none)
 (branch (.bool (okS (ofA (nR l)) && fit (szN (sR (ofA (nR l))))))
 (branch
 (AV.bool
 (decide
 (leastI false
 (IntKind.i64.wrap (IntKind.i64.wrap ((256 : Int) - (↑(szN (sR (ofA (nR l)))) : Int)) - 1))
 (200 : Int) <
 (0 : Int))))
 (some (Fin.ret (.int .i64 (-1 : Int)), St.mk [] []))
 (branch (.bool (decide ((↑(ofA (nR l)).length : Int) > 250)))
 (some (Fin.ret (.int .i64 (-1 : Int)), St.mk [] []))
 (some
 (Fin.ret
 (AV.int IntKind.i64
 (leastI false
 (IntKind.i64.wrap
 (IntKind.i64.wrap ((256 : Int) - (↑(szN (sR (ofA (nR l)))) : Int)) - 1))
 (200 : Int))),
 St.mk [] []))))
 none))
 none))
 none := by kernel_rfl
theorem slots_run (F : Nat) (z : Bool) (l : List (List AV)) :
 (f75.run F [.ns z 1 l] ⟨[], []⟩ : Ans) =
 branch (.bool (byOk l))
 (loopRun (f75_l0.run F) [5, 13, 14, 15]
 (Cont.block 0 (Cont.then (f75_r0.run F (f75.leaveK Fun.done)) (f75.leaveK Fun.done))) F
 (Env.mk 28
 [(5, AV.nilsl), (13, AV.ns (List.isEmpty (ofS (nR l))) 1 (ofA (nR l))),
 (14, .int .i64 (↑(ofA (nR l)).length : Int)), (15, .int .i64 0)])
 (St.mk [] []))
 none := by kernel_rfl
theorem slots_round0 (F m : Nat) (K : Cont) (z : Bool) (l : List (List AV)) (i e : Int) :
 (loopRun (f75_l0.run F) [5, 13, 14, 15] K m.succ (Env.mk 28 [(5, .nilsl), (13, .ns z 1 l), (14, .int .i64 e), (15, .int .i64 i)]) ⟨[], []⟩ : Ans) =
 branch (.bool (decide (i < e)))
 (branch (.bool (inR l i))
 (branch (.bool ((LD.one (LT.ns 1)).is (V.rowAt l i)))
 (branch (.bool !nilA (V.rowAt l i))
 (loopRun (f75_l0.run F) [5, 13, 14, 15] K m
 (Env.mk 28
 [(5, AV.lg 0 1 [[.int .i64 i]]), (13, AV.ns z 1 l),
 (14, .int .i64 e), (15, .int .i64 (IntKind.i64.wrap (i + 1)))])
 (St.mk [] [(1, 1)]))
 (loopRun (f75_l0.run F) [5, 13, 14, 15] K m
 (Env.mk 28
 [(5, AV.nilsl), (13, AV.ns z 1 l), (14, .int .i64 e),
 (15, .int .i64 (IntKind.i64.wrap (i + 1)))])
 (St.mk [] [])))
 none)
 none)
 (K (AX.exit 0) (Env.mk 28 [(5, AV.nilsl)]) (St.mk [] [])) := by kernel_rfl
theorem slots_round (F m : Nat) (K : Cont) (z : Bool) (l s : List (List AV)) (i e : Int) :
 (loopRun (f75_l0.run F) [5, 13, 14, 15] K m.succ (Env.mk 28 [(5, .lg 0 1 s), (13, .ns z 1 l), (14, .int .i64 e), (15, .int .i64 i)]) ⟨[], [(1, s.length)]⟩ : Ans) =
 branch (.bool (decide (i < e)))
 (branch (.bool (inR l i))
 (branch (.bool ((LD.one (LT.ns 1)).is (V.rowAt l i)))
 (branch (.bool !nilA (V.rowAt l i))
 (if
 some (1, s.length) = some (1, s.length) ∧
 (s.length + 1) * 8 ≤ 140737488355328 then
 loopRun (f75_l0.run F) [5, 13, 14, 15] K m
 (Env.mk 28
 [(5, AV.lg 0 1 (s ++ [[.int .i64 i]])),
 (13, AV.ns z 1 l), (14, .int .i64 e),
 (15, .int .i64 (IntKind.i64.wrap (i + 1)))])
 (St.mk [] [(1, s.length + 1)])
 else none)
 (loopRun (f75_l0.run F) [5, 13, 14, 15] K m
 (Env.mk 28
 [(5, AV.lg 0 1 s), (13, AV.ns z 1 l),
 (14, .int .i64 e), (15, .int .i64 (IntKind.i64.wrap (i + 1)))])
 (St.mk [] [(1, s.length)])))
 none)
 none)
 (K (AX.exit 0) (Env.mk 28 [(5, AV.lg 0 1 s)])
 (St.mk [] [(1, s.length)])) := by kernel_rfl
theorem slots_out (F : Nat) (x : AV) (st : St) :
 ((Cont.block 0 (Cont.then (f75_r0.run F (f75.leaveK Fun.done)) (f75.leaveK Fun.done))) (.exit 0) (Env.mk 28 [(5, x)]) st : Ans) =
 some (Fin.ret x, st) := by kernel_rfl
theorem ofP_some {p : List Nat} {s : Sl} (h : ofP p = some s) : p.length = 256 ∧ decL ((p.take (1 + p.headD 0)).drop 1) 256 p = some s ∧ pgOk s = true ∧ pgB s = p ∧ trm s = true := by
 unfold ofP at h
 cases hl : p.length == 256 with
 | false => rw [hl] at h; cases h
 | true =>
  rw [hl] at h
  simp only [cond_true] at h
  split at h
  ·rename_i t ht
   cases hf : fine t p with
   | false => rw [hf] at h; cases h
   | true =>
    rw [hf] at h
    simp only [cond_true, Option.some.injEq] at h
    subst h
    simp only [fine, Bool.and_eq_true, beq_iff_eq] at hf
    exact ⟨by simpa using hl, ht, hf.1, hf.2.1, hf.2.2⟩
  ·cases h
theorem okSl_of {p : List Nat} (hp : ∀ b ∈ p, b < 256) {s : Sl} (h : ofP p = some s) : okSl s := by
 obtain ⟨h1, h2, h3, _⟩ := ofP_some h
 obtain ⟨m1, m2, m3⟩ := mem_decL h2
 obtain ⟨k1, k2⟩ := pgOk_iff.mp h3
 refine ⟨fun b hb => ⟨fun x hx => hp x (m3 b hb x hx), ?_⟩, by rw [szN] at k1; omega⟩
 have : b.length ≤ 200 := k2 _ hb
 omega
theorem okSl_nil : okSl [] := ⟨fun b hb => (by cases hb), by simp⟩
theorem okSl_ofS {p : List Nat} (hp : ∀ b ∈ p, b < 256) : okSl (ofS p) := by
 unfold ofS
 cases h : ofP p with
 | none => exact okSl_nil
 | some s => exact okSl_of hp h
theorem szN_ofS (p : List Nat) : szN (ofS p) ≤ 256 := by
 unfold ofS
 cases h : ofP p with
 | none => decide
 | some s => exact (pgOk_iff.mp (ofP_some h).2.2.1).1
theorem len_ofS (p : List Nat) : (ofS p).length ≤ 255 := by have := szN_ofS p; rw [szN] at this; omega
theorem ofA_eq (p : List Nat) : ofA p = sA (ofS p) := by rw [ofA, opq_eq]
theorem ofA_len (p : List Nat) : (ofA p).length = (ofS p).length := by rw [ofA_eq, sA_length]
noncomputable def oB (o : Option (List Nat)) : Bool := opq o.isSome
noncomputable def oR (o : Option (List Nat)) : List (List AV) := opq (bR (o.getD []))
noncomputable def oV (o : Option (List Nat)) : AV := .tup [.ns (!oB o) 1 (oR o), .bool (oB o)]
theorem oB_none : oB none = false := by rw [oB, opq_eq]; rfl
theorem oB_some (b : List Nat) : oB (some b) = true := by rw [oB, opq_eq]; rfl
theorem oR_none : oR none = [] := by rw [oR, opq_eq]; rfl
theorem oR_some (b : List Nat) : oR (some b) = bR b := by rw [oR, opq_eq]; rfl
theorem oV_none : Wk (.tup [.nilsl, .bool false]) (oV none) := by
 rw [oV, oB_none, oR_none]; exact .tup (.cons .nil (.cons (.refl _) .nil))
def getP (s : Sl) (i : Int) : Option (List Nat) := if 0 ≤ i then (s[i.toNat]?).join else none
theorem rowA_at {s : Sl} {i : Nat} (h : i < s.length) : V.rowAt (sA s) (i : Int) = rowS s[i] := by
 rw [rowAt_nat (by rw [sA_length]; exact h)]; simp [sA]
noncomputable def p40 : POrc Try.prog := f40.farW
 (fun args k => match args with
  | [x, .int .i64 i] => onNs 1 x fun _ l => ifT (byOk l) (k (oV (getP (ofS (nR l)) i)))
  | _ => none)
 fun args k fin h => by
  split at h
  ·rename_i x i
   obtain ⟨z, l, h, hx⟩ := onNs_spec h
   obtain ⟨h1, h⟩ := ifT_spec h
   have hb := byOk_iff.mp h1
   refine ⟨_, _, h, .cons hx (.cons (.refl _) .nil), ⟨okR_scoped hb.1, trivial, trivial⟩, 0, ?_⟩
   rw [get_run, branch_of h1]
   by_cases h0 : i < 0
   ·refine ⟨_, ⟨[], []⟩, branch_of (by simpa using h0), ⟨trivial, trivial, trivial⟩, ?_⟩
    rw [show getP (ofS (nR l)) i = none by rw [getP, if_neg (by omega)]]
    exact oV_none
   ·obtain ⟨n, rfl⟩ := Int.eq_ofNat_of_zero_le (by omega : 0 ≤ i)
    rw [branch_not (by simp)]
    by_cases hn : (ofS (nR l)).length ≤ n
    ·refine ⟨_, ⟨[], []⟩, branch_of (by rw [ofA_len]; simpa using hn), ⟨trivial, trivial, trivial⟩, ?_⟩
     rw [show getP (ofS (nR l)) (n : Int) = none by rw [getP, if_pos (by omega), Int.toNat_natCast, List.getElem?_eq_none hn]; rfl]
     exact oV_none
    ·have hlt : n < (ofS (nR l)).length := by omega
     have hg : getP (ofS (nR l)) (n : Int) = (ofS (nR l))[n] := by rw [getP, if_pos (by omega), Int.toNat_natCast, List.getElem?_eq_getElem hlt]; rfl
     have hi : inR (ofA (nR l)) (n : Int) = true := inR_nat (by rw [ofA_len]; exact hlt)
     have hr : V.rowAt (ofA (nR l)) (n : Int) = rowS (ofS (nR l))[n] := by rw [ofA_eq, rowA_at hlt]
     rw [branch_not (by rw [ofA_len]; simp; omega), branch_of hi, hr, hg]
     cases (ofS (nR l))[n] with
     | none => exact ⟨_, ⟨[], []⟩, rfl, ⟨trivial, trivial, trivial⟩, oV_none⟩
     | some b =>
      refine ⟨.tup [.ns false 1 (bR b), .bool true], ⟨[], []⟩, ?_, ⟨?_, trivial, trivial⟩, ?_⟩
      ·rw [branch_of (show (LD.one (LT.ns 1)).is (rowS (some b)) = true from rfl), branch_not (show nilA (rowS (some b)) = false from rfl), branch_of hi, branch_of (show (LD.one (LT.ns 1)).is (rowS (some b)) = true from rfl)]
       rfl
      ·simp only [hard]; rw [hardR_id _ _ (bR_scoped b)]; exact bR_scoped b
      ·simp only [hard, hardL]
       rw [hardR_id _ _ (bR_scoped b), oV, oB_some, oR_some]
       exact .refl _
  ·cases h
theorem p40_nat : p40.Nat := by
 intro args k
 show (match args with | [x, .int .i64 i] => _ | _ => _) = thenA (match args with | [x, .int .i64 i] => _ | _ => _) k
 split
 ·exact onNs_nat fun _ _ => ifT_nat rfl
 ·rfl
def roomI (s : Sl) : Int :=
 let m : Int := if s.any (·.isNone) then 0 else 1
 let n : Int := min (256 - (szN s : Int) - m) 200
 if n < 0 ∨ (250 < s.length ∧ 0 < m) then -1 else n
noncomputable def roomP (p : List Nat) : Int := opq (if ofB p then roomI (ofS p) else 0)
theorem any_free (s : Sl) : (sA s).any (prd 46) = s.any (·.isNone) := by
 rw [sA, List.any_map]
 congr 1
 funext o
 cases o <;> rfl
theorem leastI_min (a b : Int) : leastI false a b = min a b := by
 unfold leastI
 simp only
 split
 ·rw [Int.min_eq_right (by omega)]
 ·rw [Int.min_eq_left (by omega)]
noncomputable def p19 : POrc Try.prog := f19.farN
 (fun args k => match args with
  | [x] => onNs 1 x fun _ l => ifT (byOk l) (k (.int .i64 (roomP (nR l))))
  | _ => none)
 fun args k fin h => by
  split at h
  ·rename_i x
   obtain ⟨z, l, h, hx⟩ := onNs_spec h
   obtain ⟨h1, h⟩ := ifT_spec h
   have hb := byOk_iff.mp h1
   refine ⟨_, _, h, .cons hx .nil, ⟨okR_scoped hb.1, trivial⟩, trivial, 0, .int .i64 (roomP (nR l)), ⟨[], []⟩, rfl, ?_⟩
   have hok : okS (ofA (nR l)) = true := by rw [ofA_eq]; exact okS_sA (okSl_ofS fun b hb' => okR_lt hb.1 hb')
   have hs := szN_ofS (nR l)
   have hz : szN (sR (ofA (nR l))) = szN (ofS (nR l)) := by rw [ofA_eq, sR_sA]
   have hf : (okS (ofA (nR l)) && fit (szN (sR (ofA (nR l))))) = true := by rw [hok, hz, Bool.true_and, fit_iff]; omega
   have w (c : Int) (hc : 0 ≤ c) (hc2 : c ≤ 1) : IntKind.i64.wrap (IntKind.i64.wrap ((256 : Int) - (szN (ofS (nR l)) : Int)) - c) = 256 - (szN (ofS (nR l)) : Int) - c := by
    rw [wrapS (n := 256 - (szN (ofS (nR l)) : Int)) (by omega) (by omega), wrapS (by omega) (by omega)]
   rw [room_run, branch_of h1, roomP, opq_eq]
   cases hB : ofB (nR l) with
   | false => rw [branch_of (b := !false) rfl]; rfl
   | true =>
    rw [branch_not (b := !true) rfl, branch_of (by rw [hok]; rfl), if_pos rfl, roomI, hz, ofA_len]
    rw [show (ofA (nR l)).any (prd (46 : FuncId)) = (ofS (nR l)).any (·.isNone) by rw [ofA_eq]; exact any_free _]
    rw [hz] at hf
    cases (ofS (nR l)).any (·.isNone) with
    | true =>
     rw [branch_true, branch_of hf, w 0 (by omega) (by omega), leastI_min]
     simp only [if_true]
     by_cases hn : min (256 - (szN (ofS (nR l)) : Int) - 0) 200 < 0
     ·rw [branch_of (by simpa using hn), if_pos (.inl hn)]
     ·rw [branch_not (by simpa using hn), if_neg (by omega), branch_ite]
      split <;> rfl
    | false =>
     rw [branch_false, branch_of hf, w 1 (by omega) (by omega), leastI_min]
     simp only [Bool.false_eq_true, if_false]
     by_cases hn : min (256 - (szN (ofS (nR l)) : Int) - 1) 200 < 0
     ·rw [branch_of (by simpa using hn), if_pos (.inl hn)]
     ·rw [branch_not (by simpa using hn)]
      by_cases h2 : 250 < (ofS (nR l)).length
      ·rw [branch_of (by simp; omega), if_pos (.inr ⟨h2, by omega⟩)]
      ·rw [branch_not (by simp; omega), if_neg (by omega)]
  ·cases h
theorem p19_nat : p19.Nat := by
 intro args k
 show (match args with | [x] => _ | _ => _) = thenA (match args with | [x] => _ | _ => _) k
 split
 ·exact onNs_nat fun _ _ => ifT_nat rfl
 ·rfl
def slotsI : Sl → Nat → List Nat
 | [], _ => []
 | none :: s, i => slotsI s (i + 1)
 | some _ :: s, i => i :: slotsI s (i + 1)
def iR (l : List Nat) : List (List AV) := l.map fun (n : Nat) => [.int .i64 (n : Int)]
theorem iR_length (a : List Nat) : (iR a).length = a.length := by simp [iR]
theorem iR_scoped {n m : Nat} (l : List Nat) : ScopedR n m (iR l) := by
 induction l with
 | nil => trivial
 | cons x l ih => exact ⟨⟨trivial, trivial⟩, ih⟩
def iV (l : List Nat) : AV := match l with
 | [] => .nilsl
 | _ => .lg 0 1 (iR l)
def iT (l : List Nat) : List (Nat × Nat) := match l with
 | [] => []
 | _ => [(1, (iR l).length)]
theorem iV_snoc (l : List Nat) (x : Nat) : iV (l ++ [x]) = .lg 0 1 (iR l ++ [[.int .i64 (x : Int)]]) ∧ iT (l ++ [x]) = [(1, (iR l).length + 1)] := by
 cases l <;> simp [iV, iT, iR]
theorem slots_loop (F : Nat) (z : Bool) (s : Sl) (hs : s.length ≤ 255) : ∀ (k m i : Nat) (l : List Nat), i + k = s.length → k < m → l.length ≤ i →
  loopRun (f75_l0.run F) [5, 13, 14, 15] (Cont.block 0 (Cont.then (f75_r0.run F (f75.leaveK Fun.done)) (f75.leaveK Fun.done))) m (Env.mk 28 [(5, iV l), (13, .ns z 1 (sA s)), (14, .int .i64 (s.length : Int)), (15, .int .i64 (i : Int))]) ⟨[], iT l⟩
   = some (.ret (iV (l ++ slotsI (s.drop i) i)), ⟨[], iT (l ++ slotsI (s.drop i) i)⟩)
 | k, 0, i, l, hi, hm, hl => by omega
 | 0, m + 1, i, l, hi, hm, hl => by
  rw [List.drop_eq_nil_of_le (by omega), slotsI, List.append_nil]
  cases l with
  | nil => simp only [iV, iT]; rw [show m + 1 = m.succ from rfl, slots_round0, branch_not (by simp; omega), slots_out]
  | cons x l => simp only [iV, iT]; rw [show m + 1 = m.succ from rfl, slots_round, branch_not (by simp; omega), slots_out]
 | k + 1, m + 1, i, l, hi, hm, hl => by
  have h1 : i < s.length := by omega
  have hin : inR (sA s) (i : Int) = true := inR_nat (by rw [sA_length]; exact h1)
  have w0 : IntKind.i64.wrap ((i : Int) + 1) = ((i + 1 : Nat) : Int) := wrap_succ (by omega)
  rw [drop_at h1]
  have hrow := rowA_at h1
  obtain ⟨n1, n2⟩ := iV_snoc l i
  cases ho : s[i] with
  | none =>
   rw [ho] at hrow
   rw [slotsI, ← slots_loop F z s hs k m (i + 1) l (by omega) (by omega) (by omega)]
   cases l with
   | nil => simp only [iV, iT]; rw [show m + 1 = m.succ from rfl, slots_round0, branch_of (by simpa using h1), branch_of hin, hrow, w0]; rfl
   | cons x l => simp only [iV, iT]; rw [show m + 1 = m.succ from rfl, slots_round, branch_of (by simpa using h1), branch_of hin, hrow, w0]; rfl
  | some b =>
   rw [ho] at hrow
   have ih := slots_loop F z s hs k m (i + 1) (l ++ [i]) (by omega) (by omega) (by rw [List.length_append, List.length_singleton]; omega)
   rw [List.append_assoc, List.singleton_append] at ih
   rw [slotsI, ← ih, n1, n2]
   cases l with
   | nil => simp only [iV, iT]; rw [show m + 1 = m.succ from rfl, slots_round0, branch_of (by simpa using h1), branch_of hin, hrow, w0]; rfl
   | cons x l =>
    simp only [iV, iT]
    rw [show m + 1 = m.succ from rfl, slots_round, branch_of (by simpa using h1), branch_of hin, hrow, w0, if_pos ⟨rfl, by rw [iR_length]; omega⟩]
    rfl
noncomputable def slotsA (p : List Nat) : List (List AV) := opq (iR (slotsI (ofS p) 0))
noncomputable def slotsE (p : List Nat) : Bool := opq (slotsI (ofS p) 0).isEmpty
noncomputable def p75 : POrc Try.prog := f75.farW
 (fun args k => match args with
  | [x] => onNs 1 x fun _ l => ifT (byOk l) (k (.ns (slotsE (nR l)) 1 (slotsA (nR l))))
  | _ => none)
 fun args k fin h => by
  split at h
  ·rename_i x
   obtain ⟨z, l, h, hx⟩ := onNs_spec h
   obtain ⟨h1, h⟩ := ifT_spec h
   have hl := slots_loop 300 (ofS (nR l)).isEmpty (ofS (nR l)) (len_ofS _) (ofS (nR l)).length 300 0 [] (by omega) (by have := len_ofS (nR l); omega) (by simp)
   rw [List.drop_zero, List.nil_append] at hl
   refine ⟨_, _, h, .cons hx .nil, ⟨okR_scoped (byOk_iff.mp h1).1, trivial⟩, 300, iV (slotsI (ofS (nR l)) 0), ⟨[], iT (slotsI (ofS (nR l)) 0)⟩, ?_, ?_, ?_⟩
   ·rw [slots_run, branch_of h1, ofA_len, ofA_eq]
    exact hl
   ·cases slotsI (ofS (nR l)) 0 with
    | nil => exact trivial
    | cons x s => simp only [iV, hard]; rw [hardR_id _ _ (iR_scoped _)]; exact iR_scoped _
   ·rw [slotsE, slotsA, opq_eq, opq_eq]
    cases slotsI (ofS (nR l)) 0 with
    | nil => exact .nil
    | cons x s => simp only [iV, hard]; rw [hardR_id _ _ (iR_scoped _)]; exact .sl
  ·cases h
noncomputable def f49_b : Sim Try.prog :=
 (.seq (.live [0, 1, 2] (.region 0 [
 ⟨(opAssign (some 6) (.const (Value.slice none 0 0)) 34 "page.go:109" #[]).op, none⟩,
 ⟨(opAssign (some 7) (.const (Value.bool false)) 4 "page.go:109" #[eC 0]).op, none⟩
 ] (by kernel_rfl)))
 (.seq (.live [1, 2, 8, 9] (.region 1 [
 ⟨(opMove (some 11) (.tmp 0) 34 "page.go:110" #[]).op, none⟩,
 ⟨opCall (o44).orc (some 12) [(.tmp 11)] #[34] 83 "page.go:110" #[eD 0], none⟩,
 ⟨(opMove (some 10) (.tmp 12) 83 "page.go:110" #[eD 1]).op, none⟩,
 ⟨(opExtract (some 13) (.tmp 10) 0 82 "page.go:110" #[eD 2]).op, none⟩,
 ⟨(opExtract (some 14) (.tmp 10) 1 4 "page.go:110" #[eD 2, eX 5]).op, none⟩,
 ⟨(opAssign (some 8) (.tmp 13) 82 "page.go:110" #[eD 3, eC 1, eP 0, eP 1, eP 2, eP 3, eT 4]).op, none⟩,
 ⟨(opAssign (some 9) (.tmp 14) 4 "page.go:110" #[eD 4, eC 5, eP 0, eP 1, eP 2, eP 3, eP 4, eP 5]).op, none⟩
 ] (by kernel_rfl)))
 (.seq (.seq (.live [1, 2, 8, 24] (.region 2 [
 ⟨(opMove (some 15) (.tmp 9) 4 "page.go:111" #[]).op, none⟩,
 ⟨(opNot (some 16) 4 (.tmp 15) 4 "page.go:111" #[eD 0]).op, none⟩,
 ⟨(opMove (some 17) (.tmp 16) 4 "page.go:111" #[eD 1]).op, none⟩,
 ⟨(opMove (some 18) (.tmp 1) 3 "page.go:111" #[eG 2]).op, (some (2, 17, false))⟩,
 ⟨(opBin (some 19) .lss 3 (.tmp 18) (.const (Value.int IntKind.i64 0)) 3 4 "page.go:111" #[eD 3, eG 2]).op, (some (2, 17, false))⟩,
 ⟨(opPick (some 20) (.tmp 17) (.const (Value.bool true)) (.tmp 19) 4 "page.go:111" #[eD 2, eD 4]).op, none⟩,
 ⟨(opMove (some 21) (.tmp 20) 4 "page.go:111" #[eD 5, eC 2]).op, none⟩,
 ⟨(opMove (some 22) (.tmp 1) 3 "page.go:111" #[eG 6]).op, (some (6, 21, false))⟩,
 ⟨(opBin (some 23) .gtr 3 (.tmp 22) (.const (Value.int IntKind.i64 250)) 3 4 "page.go:111" #[eD 7, eG 6]).op, (some (6, 21, false))⟩,
 ⟨(opPick (some 24) (.tmp 21) (.const (Value.bool true)) (.tmp 23) 4 "page.go:111" #[eD 6, eD 8]).op, none⟩
 ] (by kernel_rfl)))
 (.cond (.tmp 24)
 (.seq (.live [6, 7] (.region 3 [
 ⟨(opAssign (some 6) (.const (Value.slice none 0 0)) 34 "page.go:112" #[]).op, none⟩,
 ⟨(opAssign (some 7) (.const (Value.bool false)) 4 "page.go:112" #[eC 0, eP 0]).op, none⟩
 ] (by kernel_rfl)))
 (.live [6, 7] .ret))
 .skip))
 (.seq (.live [6, 7] (.region 4 [
 ⟨(opMove (some 25) (.tmp 8) 82 "page.go:114" #[]).op, none⟩,
 ⟨(opMove (some 26) (.tmp 1) 3 "page.go:114" #[]).op, none⟩,
 ⟨(opBuildSlice (some 27) 34 0 [] 5 1 1 (.int .u8 0) el34 (by kernel_rfl) (by decide) 34 "page.go:114" #[]).op, none⟩,
 ⟨(opMove (some 28) (.tmp 2) 34 "page.go:114" #[]).op, none⟩,
 ⟨(opAppendF (some 29) (.tmp 27) (.tmp 28) 34 34 5 1 1 (.int .u8 0) el34 (.slice 5) Try.underlying34 rfl 34 "page.go:114" #[eD 2, eD 3]).op, none⟩,
 ⟨opCall (o71).orc (some 30) [(.tmp 25), (.tmp 26), (.tmp 29)] #[82, 3, 34] 82 "page.go:114" #[eD 0, eD 1, eD 4, eC 4], none⟩,
 ⟨(opCallQ q72 (some 31) [(.tmp 30)] #[82] 37 "page.go:114" #[eD 5, eC 5]).op, none⟩,
 ⟨(opExtract (some 32) (.tmp 31) 0 34 "page.go:114" #[eD 6]).op, none⟩,
 ⟨(opExtract (some 33) (.tmp 31) 1 4 "page.go:114" #[eD 6]).op, none⟩,
 ⟨(opAssign (some 6) (.tmp 32) 34 "page.go:114" #[eD 7, eC 6, eP 0, eP 1, eP 2, eP 3, eP 4, eP 5, eP 6, eP 7, eP 8]).op, none⟩,
 ⟨(opAssign (some 7) (.tmp 33) 4 "page.go:114" #[eD 8, eC 9, eP 0, eP 1, eP 2, eP 3, eP 4, eP 5, eP 6, eP 7, eP 8, eP 9]).op, none⟩
 ] (by kernel_rfl)))
 (.live [6, 7] .ret)))))
noncomputable def f49 : Fun Try.prog where
 id := 49
 fn := Try.f49
 hf := Try.func49
 hname := by kernel_rfl
 body := f49_b
 hbody := by kernel_rfl
 res := [rTmp 6, rTmp 7]
 hres := by kernel_rfl
 n := 34
 hn := by kernel_rfl
noncomputable def f39_b : Sim Try.prog :=
 (.seq (.live [0, 1] (.region 0 [
 ⟨(opAssign (some 4) (.const (Value.slice none 0 0)) 34 "page.go:135" #[]).op, none⟩,
 ⟨(opAssign (some 5) (.const (Value.bool false)) 4 "page.go:135" #[eC 0]).op, none⟩
 ] (by kernel_rfl)))
 (.seq (.seq (.live [0, 1, 7] (.region 1 [
 ⟨(opMove (some 11) (.tmp 0) 34 "page.go:136" #[]).op, none⟩,
 ⟨(opMove (some 12) (.tmp 1) 3 "page.go:136" #[]).op, none⟩,
 ⟨(opCallP p40 (some 13) [(.tmp 11), (.tmp 12)] #[34, 3] 37 "page.go:136" #[eD 0, eD 1]).op, none⟩,
 ⟨(opMove (some 10) (.tmp 13) 37 "page.go:136" #[eD 2]).op, none⟩,
 ⟨(opExtract (some 14) (.tmp 10) 0 34 "page.go:136" #[eD 3]).op, none⟩,
 ⟨(opExtract (some 15) (.tmp 10) 1 4 "page.go:136" #[eD 3, eX 6]).op, none⟩,
 ⟨(opAssign (some 6) (.tmp 14) 34 "page.go:136" #[eD 4, eC 2, eP 0, eP 1, eP 2, eP 3, eP 4, eT 5]).op, none⟩,
 ⟨(opAssign (some 7) (.tmp 15) 4 "page.go:136" #[eD 5, eC 6, eP 0, eP 1, eP 2, eP 3, eP 4, eP 5, eP 6]).op, none⟩
 ] (by kernel_rfl)))
 (.seq (.live [0, 1, 17] (.region 2 [
 ⟨(opMove (some 16) (.tmp 7) 4 "page.go:136" #[]).op, none⟩,
 ⟨(opNot (some 17) 4 (.tmp 16) 4 "page.go:136" #[eD 0]).op, none⟩
 ] (by kernel_rfl)))
 (.cond (.tmp 17)
 (.seq (.live [4, 5] (.region 3 [
 ⟨(opAssign (some 4) (.const (Value.slice none 0 0)) 34 "page.go:137" #[]).op, none⟩,
 ⟨(opAssign (some 5) (.const (Value.bool false)) 4 "page.go:137" #[eC 0, eP 0]).op, none⟩
 ] (by kernel_rfl)))
 (.live [4, 5] .ret))
 .skip)))
 (.seq (.live [1, 8] (.region 4 [
 ⟨(opMove (some 19) (.tmp 0) 34 "page.go:139" #[]).op, none⟩,
 ⟨opCall (o44).orc (some 20) [(.tmp 19)] #[34] 83 "page.go:139" #[eD 0], none⟩,
 ⟨(opMove (some 18) (.tmp 20) 83 "page.go:139" #[eD 1]).op, none⟩,
 ⟨(opExtract (some 21) (.tmp 18) 0 82 "page.go:139" #[eD 2]).op, none⟩,
 ⟨(opExtract (some 22) (.tmp 18) 1 4 "page.go:139" #[eD 2, eX 5]).op, none⟩,
 ⟨(opAssign (some 8) (.tmp 21) 82 "page.go:139" #[eD 3, eC 1, eP 0, eP 1, eP 2, eP 3, eT 4]).op, none⟩,
 ⟨(opAssign (some 9) (.tmp 22) 4 "page.go:139" #[eD 4, eC 5, eP 0, eP 1, eP 2, eP 3, eP 4, eP 5]).op, none⟩
 ] (by kernel_rfl)))
 (.seq (.live [4, 5] (.region 5 [
 ⟨(opMove (some 23) (.tmp 8) 82 "page.go:140" #[]).op, none⟩,
 ⟨(opMove (some 24) (.tmp 1) 3 "page.go:140" #[]).op, none⟩,
 ⟨opCall (o71).orc (some 25) [(.tmp 23), (.tmp 24), (.const (Value.slice none 0 0))] #[82, 3, 34] 82 "page.go:140" #[eD 0, eD 1], none⟩,
 ⟨(opCallQ q72 (some 26) [(.tmp 25)] #[82] 37 "page.go:140" #[eD 2, eC 2]).op, none⟩,
 ⟨(opExtract (some 27) (.tmp 26) 0 34 "page.go:140" #[eD 3]).op, none⟩,
 ⟨(opExtract (some 28) (.tmp 26) 1 4 "page.go:140" #[eD 3]).op, none⟩,
 ⟨(opAssign (some 4) (.tmp 27) 34 "page.go:140" #[eD 4, eC 3, eP 0, eP 1, eP 2, eP 3, eP 4, eP 5]).op, none⟩,
 ⟨(opAssign (some 5) (.tmp 28) 4 "page.go:140" #[eD 5, eC 6, eP 0, eP 1, eP 2, eP 3, eP 4, eP 5, eP 6]).op, none⟩
 ] (by kernel_rfl)))
 (.live [4, 5] .ret)))))
noncomputable def f39 : Fun Try.prog where
 id := 39
 fn := Try.f39
 hf := Try.func39
 hname := by kernel_rfl
 body := f39_b
 hbody := by kernel_rfl
 res := [rTmp 4, rTmp 5]
 hres := by kernel_rfl
 n := 29
 hn := by kernel_rfl
theorem put_run (F : Nat) (z y : Bool) (l r : List (List AV)) (i : Int) :
 (f49.run F [.ns z 1 l, .int .i64 i, .ns y 1 r] ⟨[], []⟩ : Ans) =
 branch (.bool (byOk l))
 (branch (.bool (ofO (nR l)))
 (branch (.bool (ofE (nR l)))
 (branch (.bool (decide (i < 0))) (some (Fin.ret (AV.tup [AV.nilsl, AV.bool false]), St.mk [] []))
 (branch (.bool (decide (i > 250))) (some (Fin.ret (AV.tup [AV.nilsl, AV.bool false]), St.mk [] []))
 (branch (.bool (true && apOk r.length 1))
 (branch (.bool (cdec ((0 : Int) ≤ i ∧ i ≤ 1000) && okB (AV.sl 1 false r)))
 (branch
 (AV.bool
 (i.toNat.beq i.toNat &&
 inC (wC [] i.toNat (AV.sl 1 false r)) 0
 (mulN (wN [] i.toNat (AV.sl 1 false r)) 1)))
 (branch
 (AV.bool
 (okS
 (rowsC 1 (wN [] i.toNat (AV.sl 1 false r))
 (wC [] i.toNat (AV.sl 1 false r)) 0) &&
 fit
 (szN
 (sR
 (rowsC 1 (wN [] i.toNat (AV.sl 1 false r))
 (wC [] i.toNat (AV.sl 1 false r)) 0)))))
 (some
 (Fin.ret
 (AV.tup
 [AV.ns
 (!pgOk
 (sR
 (rowsC 1 (wN [] i.toNat (AV.sl 1 false r))
 (wC [] i.toNat (AV.sl 1 false r)) 0)))
 1
 (pgR
 (rowsC 1 (wN [] i.toNat (AV.sl 1 false r))
 (wC [] i.toNat (AV.sl 1 false r)) 0)),
 AV.bool
 (pgOk
 (sR
 (rowsC 1 (wN [] i.toNat (AV.sl 1 false r))
 (wC [] i.toNat (AV.sl 1 false r)) 0)))]),
 St.mk [Ob.vec i.toNat (wC [] i.toNat (AV.sl 1 false r))] []))
 none)
 none)
 none)
 none)))
 (branch (.bool (decide (i < 0)))
 (some (Fin.ret (AV.tup [AV.nilsl, AV.bool false]), St.mk [Ob.vec (ofN (nR l)) (ofC (nR l))] []))
 (branch (.bool (decide (i > 250)))
 (some (Fin.ret (AV.tup [AV.nilsl, AV.bool false]), St.mk [Ob.vec (ofN (nR l)) (ofC (nR l))] []))
 (branch (.bool (true && apOk r.length 1))
 (branch
 (AV.bool
 ((ofN (nR l)).beq (ofN (nR l)) &&
 (cdec (ofN (nR l) + 1 = (ofC (nR l)).length) &&
 (cdec ((0 : Int) ≤ i ∧ i ≤ 1000) && (okW (ofC (nR l)) && okB (AV.sl 1 false r))))))
 (branch
 (AV.bool
 ((wV (ofN (nR l)) (ofC (nR l)) i.toNat).beq (wV (ofN (nR l)) (ofC (nR l)) i.toNat) &&
 inC (wC (ofC (nR l)) i.toNat (AV.sl 1 false r)) 0
 (mulN (wN (ofC (nR l)) i.toNat (AV.sl 1 false r)) 1)))
 (branch
 (AV.bool
 (okS
 (rowsC 1 (wN (ofC (nR l)) i.toNat (AV.sl 1 false r))
 (wC (ofC (nR l)) i.toNat (AV.sl 1 false r)) 0) &&
 fit
 (szN
 (sR
 (rowsC 1 (wN (ofC (nR l)) i.toNat (AV.sl 1 false r))
 (wC (ofC (nR l)) i.toNat (AV.sl 1 false r)) 0)))))
 (some
 (Fin.ret
 (AV.tup
 [AV.ns
 (!pgOk
 (sR
 (rowsC 1 (wN (ofC (nR l)) i.toNat (AV.sl 1 false r))
 (wC (ofC (nR l)) i.toNat (AV.sl 1 false r)) 0)))
 1
 (pgR
 (rowsC 1 (wN (ofC (nR l)) i.toNat (AV.sl 1 false r))
 (wC (ofC (nR l)) i.toNat (AV.sl 1 false r)) 0)),
 AV.bool
 (pgOk
 (sR
 (rowsC 1 (wN (ofC (nR l)) i.toNat (AV.sl 1 false r))
 (wC (ofC (nR l)) i.toNat (AV.sl 1 false r)) 0)))]),
 St.mk
 [Ob.vec (wV (ofN (nR l)) (ofC (nR l)) i.toNat)
 (wC (ofC (nR l)) i.toNat (AV.sl 1 false r))]
 []))
 none)
 none)
 none)
 none))))
 (some (Fin.ret (AV.tup [AV.nilsl, AV.bool false]), St.mk [] [])))
 none := by kernel_rfl
theorem cut_run (F : Nat) (z : Bool) (l : List (List AV)) (i : Int) :
 (f39.run F [.ns z 1 l, .int .i64 i] ⟨[], []⟩ : Ans) =
 branch (.bool (byOk l))
 (branch (.bool !oB (getP (ofS (nR l)) i)) (some (Fin.ret (AV.tup [AV.nilsl, AV.bool false]), St.mk [] []))
 (branch (.bool (byOk l))
 (branch (.bool (ofO (nR l)))
 (branch (.bool (ofE (nR l)))
 (branch (.bool (cdec ((0 : Int) ≤ i ∧ i ≤ 1000) && true))
 (branch
 (AV.bool
 (i.toNat.beq i.toNat &&
 inC (wC [] i.toNat AV.nilsl) 0 (mulN (wN [] i.toNat AV.nilsl) 1)))
 (branch
 (AV.bool
 (okS (rowsC 1 (wN [] i.toNat AV.nilsl) (wC [] i.toNat AV.nilsl) 0) &&
 fit (szN (sR (rowsC 1 (wN [] i.toNat AV.nilsl) (wC [] i.toNat AV.nilsl) 0)))))
 (some
 (Fin.ret
 (AV.tup
 [AV.ns
 (!pgOk (sR (rowsC 1 (wN [] i.toNat AV.nilsl) (wC [] i.toNat AV.nilsl) 0)))
 1
 (pgR (rowsC 1 (wN [] i.toNat AV.nilsl) (wC [] i.toNat AV.nilsl) 0)),
 AV.bool
 (pgOk (sR (rowsC 1 (wN [] i.toNat AV.nilsl) (wC [] i.toNat AV.nilsl) 0)))]),
 St.mk [Ob.vec i.toNat (wC [] i.toNat AV.nilsl)] []))
 none)
 none)
 none)
 (branch
 (AV.bool
 ((ofN (nR l)).beq (ofN (nR l)) &&
 (cdec (ofN (nR l) + 1 = (ofC (nR l)).length) &&
 (cdec ((0 : Int) ≤ i ∧ i ≤ 1000) && (okW (ofC (nR l)) && true)))))
 (branch
 (AV.bool
 ((wV (ofN (nR l)) (ofC (nR l)) i.toNat).beq (wV (ofN (nR l)) (ofC (nR l)) i.toNat) &&
 inC (wC (ofC (nR l)) i.toNat AV.nilsl) 0 (mulN (wN (ofC (nR l)) i.toNat AV.nilsl) 1)))
 (branch
 (AV.bool
 (okS
 (rowsC 1 (wN (ofC (nR l)) i.toNat AV.nilsl) (wC (ofC (nR l)) i.toNat AV.nilsl)
 0) &&
 fit
 (szN
 (sR
 (rowsC 1 (wN (ofC (nR l)) i.toNat AV.nilsl) (wC (ofC (nR l)) i.toNat AV.nilsl)
 0)))))
 (some
 (Fin.ret
 (AV.tup
 [AV.ns
 (!pgOk
 (sR
 (rowsC 1 (wN (ofC (nR l)) i.toNat AV.nilsl) (wC (ofC (nR l)) i.toNat AV.nilsl)
 0)))
 1
 (pgR
 (rowsC 1 (wN (ofC (nR l)) i.toNat AV.nilsl) (wC (ofC (nR l)) i.toNat AV.nilsl)
 0)),
 AV.bool
 (pgOk
 (sR
 (rowsC 1 (wN (ofC (nR l)) i.toNat AV.nilsl) (wC (ofC (nR l)) i.toNat AV.nilsl)
 0)))]),
 St.mk [Ob.vec (wV (ofN (nR l)) (ofC (nR l)) i.toNat) (wC (ofC (nR l)) i.toNat AV.nilsl)] []))
 none)
 none)
 none))
 (branch (.bool (cdec ((0 : Int) ≤ i ∧ i ≤ 1000) && true))
 (branch
 (AV.bool
 (i.toNat.beq i.toNat && inC (wC [] i.toNat AV.nilsl) 0 (mulN (wN [] i.toNat AV.nilsl) 1)))
 (branch
 (AV.bool
 (okS (rowsC 1 (wN [] i.toNat AV.nilsl) (wC [] i.toNat AV.nilsl) 0) &&
 fit (szN (sR (rowsC 1 (wN [] i.toNat AV.nilsl) (wC [] i.toNat AV.nilsl) 0)))))
 (some
 (Fin.ret
 (AV.tup
 [AV.ns (!pgOk (sR (rowsC 1 (wN [] i.toNat AV.nilsl) (wC [] i.toNat AV.nilsl) 0)))
 1 (pgR (rowsC 1 (wN [] i.toNat AV.nilsl) (wC [] i.toNat AV.nilsl) 0)),
 AV.bool
 (pgOk (sR (rowsC 1 (wN [] i.toNat AV.nilsl) (wC [] i.toNat AV.nilsl) 0)))]),
 St.mk [Ob.vec i.toNat (wC [] i.toNat AV.nilsl)] []))
 none)
 none)
 none))
 none))
 none := by kernel_rfl
def padS (s : Sl) (m : Nat) : Sl := s ++ List.replicate (m - s.length) none
def trS (s : Sl) : Sl := (s.reverse.dropWhile (·.isNone)).reverse
def withS (s : Sl) (k : Nat) (o : Option (List Nat)) : Sl := trS ((padS s (k + 1)).set k o)
def toP (s : Sl) : Option (List Nat) := if pgOk s then some (pgB s) else none
theorem padC_sC (s : Sl) (m : Nat) : padC (sC s) m = sC (padS s m) := by
 rw [padC, padS, sC_append, sC_length]
 congr 1
 simp [sC, cellS]
theorem set_sC (s : Sl) (k : Nat) (o : Option (List Nat)) : (sC s).set k (cellS o) = sC (s.set k o) := by simp [sC, List.map_set]
theorem nilA_row (o : Option (List Nat)) : nilA (rowS o) = o.isNone := by cases o <;> rfl
theorem trR_sA (s : Sl) : trR (sA s) = sA (trS s) := by
 rw [trR, opq_eq, trS, sA, sA, ← List.map_reverse, List.map_reverse]
 have h : ∀ t : Sl, (t.map rowS).dropWhile nilA = (t.dropWhile (·.isNone)).map rowS := by
  intro t
  induction t with
  | nil => rfl
  | cons o t ih =>
   rw [List.map_cons, List.dropWhile_cons, List.dropWhile_cons, nilA_row]
   cases o with
   | none => exact ih
   | some b => rfl
 rw [← List.map_reverse, h, List.map_reverse]
theorem trS_take (s : Sl) : trS s = s.take (trS s).length := by
 have h1 : (s.reverse.dropWhile (·.isNone)) <:+ s.reverse := List.dropWhile_suffix _
 have h2 : trS s <+: s := by
  have := List.reverse_prefix.mpr h1
  simpa [trS] using this
 exact List.prefix_iff_eq_take.mp h2
theorem trS_len (s : Sl) : (trS s).length ≤ s.length := by
 have h1 : (s.reverse.dropWhile (·.isNone)) <:+ s.reverse := List.dropWhile_suffix _
 have := h1.length_le
 simpa [trS] using this
theorem padS_len (s : Sl) (m : Nat) : (padS s m).length = max s.length m := by simp [padS]; omega
theorem w_rows (s : Sl) (k : Nat) (o : Option (List Nat)) : rowsC 1 (wN (sC s) k (cellS o)) (wC (sC s) k (cellS o)) 0 = sA (withS s k o) ∧ inC (wC (sC s) k (cellS o)) 0 (mulN (wN (sC s) k (cellS o)) 1) = true := by
 have hC : wC (sC s) k (cellS o) = sC ((padS s (k + 1)).set k o) := by rw [wC, opq_eq, padC_sC, set_sC]
 have hN : wN (sC s) k (cellS o) = (withS s k o).length := by rw [wN, opq_eq, padC_sC, set_sC, cR_sC, trR_sA, sA_length, withS]
 have hle : (withS s k o).length ≤ (sC ((padS s (k + 1)).set k o)).length := by rw [sC_length]; exact trS_len _
 rw [hC, hN]
 refine ⟨?_, inC_one hle⟩
 rw [rowsC_one hle, cR_sC_take, withS, ← trS_take]
theorem sumN_set (s : Sl) (k : Nat) (o : Option (List Nat)) : sumN (s.set k o) ≤ sumN s + olen o := by
 induction s generalizing k with
 | nil => simp [sumN]
 | cons x s ih =>
  cases k with
  | zero => rw [List.set_cons_zero, sumN_cons, sumN_cons]; omega
  | succ k => rw [List.set_cons_succ, sumN_cons, sumN_cons]; have := ih k; omega
theorem sumN_take (s : Sl) (n : Nat) : sumN (s.take n) ≤ sumN s := by
 conv => rhs; rw [← List.take_append_drop n s, sumN_append]
 omega
theorem sumN_pad (s : Sl) (m : Nat) : sumN (padS s m) = sumN s := by
 rw [padS, sumN_append]
 have : sumN (List.replicate (m - s.length) none) = 0 := by simp [sumN, olen]
 omega
theorem szN_with (s : Sl) (k : Nat) (o : Option (List Nat)) : szN (withS s k o) ≤ szN s + (k + 1) + olen o := by
 have h1 : sumN (withS s k o) ≤ sumN s + olen o := by
  rw [withS, trS_take]
  have := sumN_take ((padS s (k + 1)).set k o) (trS ((padS s (k + 1)).set k o)).length
  have := sumN_set (padS s (k + 1)) k o
  rw [sumN_pad] at this
  omega
 have h2 := trS_len ((padS s (k + 1)).set k o)
 rw [List.length_set, padS_len] at h2
 have h3 : (withS s k o).length ≤ max s.length (k + 1) := h2
 rw [szN, szN]
 omega
theorem mem_with {s : Sl} {k : Nat} {o : Option (List Nat)} {x : Option (List Nat)} (h : x ∈ withS s k o) : x ∈ s ∨ x = none ∨ x = o := by
 rw [withS, trS_take] at h
 rcases List.mem_or_eq_of_mem_set (List.mem_of_mem_take h) with h | h
 ·rcases List.mem_append.mp h with h | h
  ·exact .inl h
  ·exact .inr (.inl (List.eq_of_mem_replicate h))
 ·exact .inr (.inr h)
theorem okSl_with {s : Sl} (h : okSl s) {k : Nat} (hk : k ≤ 1000) (hl : s.length ≤ 1000) {o : Option (List Nat)} (ho : ∀ b, o = some b → (∀ x ∈ b, x < 256) ∧ b.length < 4611686018427387904) : okSl (withS s k o) := by
 refine ⟨fun b hb => ?_, ?_⟩
 ·rcases mem_with hb with hb | hb | hb
  ·exact h.1 b hb
  ·cases hb
  ·exact ho b hb.symm
 ·have h2 := trS_len ((padS s (k + 1)).set k o)
  rw [List.length_set, padS_len] at h2
  have h3 : (withS s k o).length ≤ max s.length (k + 1) := h2
  omega
theorem pg_oV (t : Sl) : AV.tup [.ns (!pgOk (sR (sA t))) 1 (pgR (sA t)), .bool (pgOk (sR (sA t)))] = oV (toP t) := by
 cases h : pgOk t with
 | true =>
  rw [pgR_ok (by rw [sR_sA]; exact h), sR_sA, h, show toP t = some (pgB t) by rw [toP, h]; rfl, oV, oB_some, oR_some]
 | false =>
  rw [pgR_no (by rw [sR_sA]; exact h), sR_sA, h, show toP t = none by rw [toP, h]; rfl, oV, oB_none, oR_none]
theorem oV_scoped (o : Option (List Nat)) : Scoped 0 0 (oV o) := by
 cases o with
 | none => rw [oV, oR_none]; exact ⟨trivial, trivial, trivial⟩
 | some b => rw [oV, oR_some]; exact ⟨bR_scoped b, trivial, trivial⟩
theorem okW_sC {s : Sl} (h : okSl s) (hl : s.length ≤ 1000) : okW (sC s) = true := by
 rw [okW_iff, cR_sC, sC_length]; exact ⟨okS_sA h, hl⟩
theorem w_page {s : Sl} (hs : okSl s) (hl : szN s ≤ 256) {k : Nat} (hk : k ≤ 1000) {o : Option (List Nat)} (ho : ∀ b, o = some b → (∀ x ∈ b, x < 256) ∧ b.length ≤ 140737488355328) (v : Nat) (x y : Ans) :
  branch (.bool (Nat.beq v v && inC (wC (sC s) k (cellS o)) 0 (mulN (wN (sC s) k (cellS o)) 1)))
   (branch (.bool (okS (rowsC 1 (wN (sC s) k (cellS o)) (wC (sC s) k (cellS o)) 0) && fit (szN (sR (rowsC 1 (wN (sC s) k (cellS o)) (wC (sC s) k (cellS o)) 0))))) x none) none = x := by
 obtain ⟨h1, h2⟩ := w_rows s k o
 have h3 := szN_with s k o
 have hlen : s.length ≤ 1000 := by rw [szN] at hl; omega
 have h4 : okSl (withS s k o) := okSl_with hs hk hlen fun b hb => ⟨(ho b hb).1, by have := (ho b hb).2; omega⟩
 have h5 : olen o ≤ 140737488355328 := by
  cases o with
  | none => exact Nat.zero_le _
  | some b => exact (ho b rfl).2
 rw [branch_of (by rw [Nat.beq_refl, h2]; rfl), h1, branch_of (by rw [okS_sA h4, sR_sA, Bool.true_and, fit_iff]; omega)]
def putS (s : Sl) (i : Int) (b : List Nat) : Option (List Nat) := if 0 ≤ i ∧ i ≤ 250 then toP (withS s i.toNat (some b)) else none
def putP (p : List Nat) (i : Int) (b : List Nat) : Option (List Nat) := if ofB p then putS (ofS p) i b else none
theorem put_all {z y : Bool} {p b : List Nat} (hp : ∀ x ∈ p, x < 256) (hpl : p.length < 4611686018427387904) (hb : ∀ x ∈ b, x < 256) (hbl : b.length ≤ 140737488355328) (i : Int) :
  ∃ r st', f49.run 0 [.ns z 1 (bR p), .int .i64 i, .ns y 1 (bR b)] ⟨[], []⟩ = some (.ret r, st') ∧ Scoped 0 0 (hard st'.objs r) ∧ Wk (hard st'.objs r) (oV (putP p i b)) := by
 have no : putP p i b = none → ∀ os, Scoped 0 0 (hard os (.tup [.nilsl, .bool false])) ∧ Wk (hard os (.tup [.nilsl, .bool false])) (oV (putP p i b)) := fun e os => ⟨⟨trivial, trivial, trivial⟩, by rw [e]; exact oV_none⟩
 have hok := okSl_ofS hp
 have hsz := szN_ofS p
 have hll := len_ofS p
 have hap : (true && apOk (bR b).length 1) = true := by rw [Bool.true_and, apOk_iff, bR_length]; omega
 have hsl : AV.sl 1 false (bR b) = cellS (some b) := rfl
 have hoB : okB (cellS (some b)) = true := by show (Nat.beq 1 1 && byOk (bR b)) = true; rw [byOk_bR hb (by omega)]; rfl
 rw [put_run, branch_of (byOk_bR hp hpl), nR_bR, ofO, opq_eq]
 cases hB : ofB p with
 | false => exact ⟨_, _, rfl, no (by rw [putP, hB]; rfl) _⟩
 | true =>
  have hP : putP p i b = putS (ofS p) i b := by rw [putP, hB]; rfl
  have fin : ∀ (t : Sl) (v : Nat) (os : List Ob), withS (ofS p) i.toNat (some b) = t → 0 ≤ i → i ≤ 250 → Scoped 0 0 (hard os (.tup [.ns (!pgOk (sR (sA t))) 1 (pgR (sA t)), .bool (pgOk (sR (sA t)))])) ∧ Wk (hard os (.tup [.ns (!pgOk (sR (sA t))) 1 (pgR (sA t)), .bool (pgOk (sR (sA t)))])) (oV (putP p i b)) := by
   intro t v os ht h0 h1
   rw [pg_oV, hard_id _ _ (oV_scoped _), hP, putS, if_pos ⟨h0, h1⟩, ht]
   exact ⟨oV_scoped _, .refl _⟩
  rw [branch_true, ofE, opq_eq]
  cases hE : (ofS p).isEmpty with
  | true =>
   have hs : ofS p = [] := by simpa using hE
   rw [branch_true]
   by_cases h0 : i < 0
   ·exact ⟨_, _, branch_of (by simpa using h0), no (by rw [hP, putS, if_neg (by omega)]) _⟩
   ·by_cases h1 : i > 250
    ·exact ⟨_, _, (branch_not (by simp; omega)).trans (branch_of (by simpa using h1)), no (by rw [hP, putS, if_neg (by omega)]) _⟩
    ·refine ⟨_, _, (branch_not (by simp; omega)).trans ((branch_not (by simp; omega)).trans ((branch_of hap).trans ((branch_of (by rw [hsl, hoB, Bool.and_true, cdec_iff]; omega)).trans (w_page okSl_nil (by decide) (o := some b) (by omega) (fun c hc => by cases hc; exact ⟨hb, hbl⟩) _ _ none)))), ?_⟩
     rw [show ([] : List AV) = sC [] from rfl, hsl, (w_rows [] i.toNat (some b)).1]
     exact fin _ 0 _ (by rw [hs]) (by omega) (by omega)
  | false =>
   rw [branch_false, ofN, ofC, opq_eq, opq_eq]
   have hne : 0 < (ofS p).length := by
    rcases Nat.eq_zero_or_pos (ofS p).length with h | h
    ·rw [List.eq_nil_of_length_eq_zero h] at hE; cases hE
    ·exact h
   by_cases h0 : i < 0
   ·exact ⟨_, _, branch_of (by simpa using h0), no (by rw [hP, putS, if_neg (by omega)]) _⟩
   ·by_cases h1 : i > 250
    ·exact ⟨_, _, (branch_not (by simp; omega)).trans (branch_of (by simpa using h1)), no (by rw [hP, putS, if_neg (by omega)]) _⟩
    ·refine ⟨_, _, (branch_not (by simp; omega)).trans ((branch_not (by simp; omega)).trans ((branch_of hap).trans ((branch_of ?_).trans (w_page hok hsz (o := some b) (by omega) (fun c hc => by cases hc; exact ⟨hb, hbl⟩) _ _ none)))), ?_⟩
     ·simp only [Bool.and_eq_true, cdec_iff, Nat.beq_refl, true_and]
      exact ⟨by rw [sC_length]; omega, by omega, okW_sC hok (by omega), hoB⟩
     ·rw [hsl, (w_rows (ofS p) i.toNat (some b)).1]
      exact fin _ 0 _ rfl (by omega) (by omega)
noncomputable def p49 : POrc Try.prog := f49.farW
 (fun args k => match args with
  | [x, .int .i64 i, y] => onNs 1 x fun _ l => onNs 1 y fun _ r => ifT (byOk l && (byOk r && apOk r.length 1)) (k (oV (putP (nR l) i (nR r))))
  | _ => none)
 fun args k fin h => by
  split at h
  ·rename_i x i y
   obtain ⟨z, l, h, hx⟩ := onNs_spec h
   obtain ⟨z', r, h, hy⟩ := onNs_spec h
   obtain ⟨h1, h⟩ := ifT_spec h
   simp only [Bool.and_eq_true, apOk_iff] at h1
   obtain ⟨h1, h2, h3⟩ := h1
   obtain ⟨l1, l2⟩ := byOk_iff.mp h1
   obtain ⟨r1, r2⟩ := byOk_iff.mp h2
   obtain ⟨a, st', k1, k2, k3⟩ := put_all (z := z) (y := z') (p := nR l) (b := nR r) (fun b hb => okR_lt l1 hb) (by rw [nR_length]; exact l2) (fun b hb => okR_lt r1 hb) (by rw [nR_length]; omega) i
   rw [← okR_rows l1, ← okR_rows r1] at k1
   exact ⟨_, _, h, .cons hx (.cons (.refl _) (.cons hy .nil)), ⟨okR_scoped l1, trivial, okR_scoped r1, trivial⟩, 0, a, st', k1, k2, k3⟩
  ·cases h
def cutS (s : Sl) (i : Int) : Option (List Nat) := if (getP s i).isSome then toP (withS s i.toNat none) else none
def cutP (p : List Nat) (i : Int) : Option (List Nat) := cutS (ofS p) i
theorem getP_bound {s : Sl} {i : Int} (h : (getP s i).isSome = true) : 0 ≤ i ∧ i.toNat < s.length := by
 unfold getP at h
 split at h
 ·rename_i h0
  refine ⟨h0, ?_⟩
  rcases Nat.lt_or_ge i.toNat s.length with h1 | h1
  ·exact h1
  ·rw [List.getElem?_eq_none h1] at h; cases h
 ·cases h
theorem cut_all {z : Bool} {p : List Nat} (hp : ∀ x ∈ p, x < 256) (hpl : p.length < 4611686018427387904) (i : Int) :
  ∃ r st', f39.run 0 [.ns z 1 (bR p), .int .i64 i] ⟨[], []⟩ = some (.ret r, st') ∧ Scoped 0 0 (hard st'.objs r) ∧ Wk (hard st'.objs r) (oV (cutP p i)) := by
 have hok := okSl_ofS hp
 have hsz := szN_ofS p
 have hll := len_ofS p
 have hby := byOk_bR hp hpl
 have hsl : AV.nilsl = cellS none := rfl
 rw [cut_run, branch_of hby, nR_bR, oB, opq_eq]
 cases hG : (getP (ofS p) i).isSome with
 | false => exact ⟨_, _, rfl, ⟨trivial, trivial, trivial⟩, by rw [cutP, cutS, hG]; exact oV_none⟩
 | true =>
  obtain ⟨h0, h1⟩ := getP_bound hG
  rw [branch_not (b := !true) rfl, branch_of hby, ofO, opq_eq]
  have hB : ofB p = true := by
   unfold ofS at h1
   unfold ofB
   cases hh : ofP p with
   | none => rw [hh] at h1; simp at h1
   | some s => rfl
  rw [hB, branch_true, ofE, opq_eq]
  cases hE : (ofS p).isEmpty with
  | true =>
   have hs : ofS p = [] := by simpa using hE
   rw [hs] at h1; simp at h1
  | false =>
   rw [branch_false, ofN, ofC, opq_eq, opq_eq]
   refine ⟨_, _, (branch_of ?_).trans (w_page hok hsz (o := none) (by omega) (fun c hc => by cases hc) _ _ none), ?_⟩
   ·simp only [Bool.and_eq_true, cdec_iff, Nat.beq_refl, true_and]
    exact ⟨by rw [sC_length]; omega, by omega, okW_sC hok (by omega), trivial⟩
   ·rw [hsl, (w_rows (ofS p) i.toNat none).1, pg_oV, hard_id _ _ (oV_scoped _), cutP, cutS, if_pos hG]
    exact ⟨oV_scoped _, .refl _⟩
noncomputable def p39 : POrc Try.prog := f39.farW
 (fun args k => match args with
  | [x, .int .i64 i] => onNs 1 x fun _ l => ifT (byOk l) (k (oV (cutP (nR l) i)))
  | _ => none)
 fun args k fin h => by
  split at h
  ·rename_i x i
   obtain ⟨z, l, h, hx⟩ := onNs_spec h
   obtain ⟨h1, h⟩ := ifT_spec h
   obtain ⟨l1, l2⟩ := byOk_iff.mp h1
   obtain ⟨a, st', k1, k2, k3⟩ := cut_all (z := z) (p := nR l) (fun b hb => okR_lt l1 hb) (by rw [nR_length]; exact l2) i
   rw [← okR_rows l1] at k1
   exact ⟨_, _, h, .cons hx (.cons (.refl _) .nil), ⟨okR_scoped l1, trivial, trivial⟩, 0, a, st', k1, k2, k3⟩
  ·cases h
noncomputable def f34_b : Sim Try.prog :=
 (.seq (.live [0, 1] (.region 0 [
 ⟨(opAssign (some 4) (.const (Value.slice none 0 0)) 34 "page.go:118" #[]).op, none⟩,
 ⟨(opAssign (some 5) (.const (Value.int IntKind.i64 0)) 3 "page.go:118" #[eC 0]).op, none⟩,
 ⟨(opAssign (some 6) (.const (Value.bool false)) 4 "page.go:118" #[eC 1]).op, none⟩
 ] (by kernel_rfl)))
 (.seq (.live [0, 1, 7, 8] (.region 1 [
 ⟨(opMove (some 12) (.tmp 0) 34 "page.go:119" #[]).op, none⟩,
 ⟨(opCallP p44 (some 13) [(.tmp 12)] #[34] 83 "page.go:119" #[eD 0]).op, none⟩,
 ⟨(opMove (some 11) (.tmp 13) 83 "page.go:119" #[eD 1]).op, none⟩,
 ⟨(opExtract (some 14) (.tmp 11) 0 82 "page.go:119" #[eD 2]).op, none⟩,
 ⟨(opExtract (some 15) (.tmp 11) 1 4 "page.go:119" #[eD 2, eX 5]).op, none⟩,
 ⟨(opAssign (some 7) (.tmp 14) 82 "page.go:119" #[eD 3, eC 1, eP 0, eP 1, eP 2, eP 3, eT 4]).op, none⟩,
 ⟨(opAssign (some 8) (.tmp 15) 4 "page.go:119" #[eD 4, eC 5, eP 0, eP 1, eP 2, eP 3, eP 4, eP 5]).op, none⟩
 ] (by kernel_rfl)))
 (.seq (.seq (.live [0, 1, 7, 17] (.region 2 [
 ⟨(opMove (some 16) (.tmp 8) 4 "page.go:120" #[]).op, none⟩,
 ⟨(opNot (some 17) 4 (.tmp 16) 4 "page.go:120" #[eD 0]).op, none⟩
 ] (by kernel_rfl)))
 (.cond (.tmp 17)
 (.seq (.live [4, 5, 6] (.region 3 [
 ⟨(opAssign (some 4) (.const (Value.slice none 0 0)) 34 "page.go:121" #[]).op, none⟩,
 ⟨(opAssign (some 5) (.const (Value.int IntKind.i64 0)) 3 "page.go:121" #[eC 0, eP 0]).op, none⟩,
 ⟨(opAssign (some 6) (.const (Value.bool false)) 4 "page.go:121" #[eC 1, eP 0, eP 1]).op, none⟩
 ] (by kernel_rfl)))
 (.live [4, 5, 6] .ret))
 .skip))
 (.seq (.live [0, 1, 7, 9] (.region 4 [
 ⟨(opMove (some 18) (.tmp 7) 82 "page.go:123" #[]).op, none⟩,
 ⟨(opCallP p68 (some 19) [(.tmp 18), (.func 69)] #[82, 86] 3 "page.go:123" #[eD 0]).op, none⟩,
 ⟨(opAssign (some 9) (.tmp 19) 3 "page.go:123" #[eD 1, eC 1, eP 0, eP 1]).op, none⟩
 ] (by kernel_rfl)))
 (.seq (.seq (.live [0, 1, 7, 9, 21] (.region 5 [
 ⟨(opMove (some 20) (.tmp 9) 3 "page.go:124" #[]).op, none⟩,
 ⟨(opBin (some 21) .lss 3 (.tmp 20) (.const (Value.int IntKind.i64 0)) 3 4 "page.go:124" #[eD 0]).op, none⟩
 ] (by kernel_rfl)))
 (.cond (.tmp 21)
 (.live [0, 1, 9] (.region 6 [
 ⟨(opMove (some 22) (.tmp 7) 82 "page.go:125" #[]).op, none⟩,
 ⟨(opLen (some 23) (.tmp 22) 82 (.slice 34) Try.underlying82 3 "page.go:125" #[eD 0]).op, none⟩,
 ⟨(opAssign (some 9) (.tmp 23) 3 "page.go:125" #[eD 1, eP 0, eP 1]).op, none⟩
 ] (by kernel_rfl)))
 .skip))
 (.seq (.live [8, 9, 10] (.region 7 [
 ⟨(opMove (some 25) (.tmp 0) 34 "page.go:127" #[]).op, none⟩,
 ⟨(opMove (some 26) (.tmp 9) 3 "page.go:127" #[]).op, none⟩,
 ⟨(opMove (some 27) (.tmp 1) 34 "page.go:127" #[]).op, none⟩,
 ⟨(opCallP p49 (some 28) [(.tmp 25), (.tmp 26), (.tmp 27)] #[34, 3, 34] 37 "page.go:127" #[eD 0, eD 1, eD 2]).op, none⟩,
 ⟨(opMove (some 24) (.tmp 28) 37 "page.go:127" #[eD 3]).op, none⟩,
 ⟨(opExtract (some 29) (.tmp 24) 0 34 "page.go:127" #[eD 4]).op, none⟩,
 ⟨(opExtract (some 30) (.tmp 24) 1 4 "page.go:127" #[eD 4, eX 7]).op, none⟩,
 ⟨(opAssign (some 10) (.tmp 29) 34 "page.go:127" #[eD 5, eC 3, eP 0, eP 1, eP 2, eP 3, eP 4, eP 5, eT 6]).op, none⟩,
 ⟨(opAssign (some 8) (.tmp 30) 4 "page.go:127" #[eD 6, eC 7, eP 0, eP 1, eP 2, eP 3, eP 4, eP 5, eP 6, eP 7]).op, none⟩
 ] (by kernel_rfl)))
 (.seq (.seq (.live [9, 10, 32] (.region 8 [
 ⟨(opMove (some 31) (.tmp 8) 4 "page.go:128" #[]).op, none⟩,
 ⟨(opNot (some 32) 4 (.tmp 31) 4 "page.go:128" #[eD 0]).op, none⟩
 ] (by kernel_rfl)))
 (.cond (.tmp 32)
 (.seq (.live [4, 5, 6] (.region 9 [
 ⟨(opAssign (some 4) (.const (Value.slice none 0 0)) 34 "page.go:129" #[]).op, none⟩,
 ⟨(opAssign (some 5) (.const (Value.int IntKind.i64 0)) 3 "page.go:129" #[eC 0, eP 0]).op, none⟩,
 ⟨(opAssign (some 6) (.const (Value.bool false)) 4 "page.go:129" #[eC 1, eP 0, eP 1]).op, none⟩
 ] (by kernel_rfl)))
 (.live [4, 5, 6] .ret))
 .skip))
 (.seq (.live [4, 5, 6] (.region 10 [
 ⟨(opMove (some 33) (.tmp 10) 34 "page.go:131" #[]).op, none⟩,
 ⟨(opMove (some 34) (.tmp 9) 3 "page.go:131" #[eX 2]).op, none⟩,
 ⟨(opAssign (some 4) (.tmp 33) 34 "page.go:131" #[eD 0, eP 0, eT 1]).op, none⟩,
 ⟨(opAssign (some 5) (.tmp 34) 3 "page.go:131" #[eD 1, eC 2, eP 0, eP 1, eP 2]).op, none⟩,
 ⟨(opAssign (some 6) (.const (Value.bool true)) 4 "page.go:131" #[eC 3, eP 0, eP 1, eP 2, eP 3]).op, none⟩
 ] (by kernel_rfl)))
 (.live [4, 5, 6] .ret)))))))))
noncomputable def f34 : Fun Try.prog where
 id := 34
 fn := Try.f34
 hf := Try.func34
 hname := by kernel_rfl
 body := f34_b
 hbody := by kernel_rfl
 res := [rTmp 4, rTmp 5, rTmp 6]
 hres := by kernel_rfl
 n := 35
 hn := by kernel_rfl
theorem add_run (F : Nat) (z y : Bool) (l r : List (List AV)) :
 (f34.run F [.ns z 1 l, .ns y 1 r] ⟨[], []⟩ : Ans) =
 branch (.bool (byOk l))
 (branch (.bool !ofB (nR l))
 (some (Fin.ret (AV.tup [AV.nilsl, .int .i64 0, AV.bool false]), St.mk [] []))
 (branch (.bool (true && okS (ofA (nR l))))
 (branch (.bool (decide (idxI (idxFrom (prd (69 : FuncId)) (ofA (nR l)) 0) < 0)))
 (branch (.bool (byOk l && (byOk r && apOk r.length 1)))
 (branch (.bool !oB (putP (nR l) (↑(ofA (nR l)).length : Int) (nR r)))
 (some (Fin.ret (AV.tup [AV.nilsl, .int .i64 0, AV.bool false]), St.mk [] []))
 (some
 (Fin.ret
 (AV.tup
 [AV.ns (!oB (putP (nR l) (↑(ofA (nR l)).length : Int) (nR r))) 1
 (oR (putP (nR l) (↑(ofA (nR l)).length : Int) (nR r))),
 .int .i64 (↑(ofA (nR l)).length : Int), AV.bool true]),
 St.mk [] [])))
 none)
 (branch (.bool (byOk l && (byOk r && apOk r.length 1)))
 (branch (.bool !oB (putP (nR l) (idxI (idxFrom (prd (69 : FuncId)) (ofA (nR l)) 0)) (nR r)))
 (some (Fin.ret (AV.tup [AV.nilsl, .int .i64 0, AV.bool false]), St.mk [] []))
 (some
 (Fin.ret
 (AV.tup
 [AV.ns (!oB (putP (nR l) (idxI (idxFrom (prd (69 : FuncId)) (ofA (nR l)) 0)) (nR r)))
 1 (oR (putP (nR l) (idxI (idxFrom (prd (69 : FuncId)) (ofA (nR l)) 0)) (nR r))),
 .int .i64 (idxI (idxFrom (prd (69 : FuncId)) (ofA (nR l)) 0)), AV.bool true]),
 St.mk [] [])))
 none))
 none))
 none := by kernel_rfl
def freeK (s : Sl) : Nat := s.findIdx (·.isNone)
theorem free_idx : ∀ (s : Sl) (i : Nat), idxI (idxFrom (prd 69) (sA s) i) = (if s.any (·.isNone) then ((i + freeK s : Nat) : Int) else -1)
 | [], i => rfl
 | o :: s, i => by
  have ih := free_idx s (i + 1)
  rw [show sA (o :: s) = rowS o :: sA s from rfl, idxFrom, show prd 69 (rowS o) = o.isNone from nilA_row o]
  cases o with
  | none => simp [idxI, freeK, List.findIdx_cons]
  | some b =>
   rw [show (some b : Option (List Nat)).isNone = false from rfl]
   rw [cond_false, ih, List.any_cons]
   simp only [Option.isNone_some, Bool.false_or]
   split
   ·simp only [freeK, List.findIdx_cons, Option.isNone_some, cond_false]
    omega
   ·rfl
theorem freeK_none {s : Sl} (h : s.any (·.isNone) = false) : freeK s = s.length := by
 rw [freeK, List.findIdx_eq_length]
 exact fun x hx => by
  have := List.any_eq_false.mp h x hx
  cases x with
  | none => exact absurd rfl this
  | some b => rfl
def addP (p b : List Nat) : Option (List Nat) := if ofB p then putP p (freeK (ofS p) : Nat) b else none
noncomputable def addK (p b : List Nat) : Int := opq (if (addP p b).isSome then (freeK (ofS p) : Int) else 0)
noncomputable def addV (p b : List Nat) : AV := .tup [.ns (!oB (addP p b)) 1 (oR (addP p b)), .int .i64 (addK p b), .bool (oB (addP p b))]
theorem addV_scoped (p b : List Nat) : Scoped 0 0 (addV p b) := by
 rw [addV]
 cases addP p b with
 | none => rw [oR_none]; exact ⟨trivial, trivial, trivial, trivial⟩
 | some c => rw [oR_some]; exact ⟨bR_scoped c, trivial, trivial, trivial⟩
noncomputable def p34 : POrc Try.prog := f34.farW
 (fun args k => match args with
  | [x, y] => onNs 1 x fun _ l => onNs 1 y fun _ r => ifT (byOk l && (byOk r && apOk r.length 1)) (k (addV (nR l) (nR r)))
  | _ => none)
 fun args k fin h => by
  split at h
  ·rename_i x y
   obtain ⟨z, l, h, hx⟩ := onNs_spec h
   obtain ⟨z', r, h, hy⟩ := onNs_spec h
   obtain ⟨h1, h⟩ := ifT_spec h
   have h2 := h1
   simp only [Bool.and_eq_true] at h1
   have hl := (byOk_iff.mp h1.1).1
   have hr := (byOk_iff.mp h1.2.1).1
   refine ⟨_, _, h, .cons hx (.cons hy .nil), ⟨okR_scoped hl, okR_scoped hr, trivial⟩, 0, ?_⟩
   have hok : okS (ofA (nR l)) = true := by rw [ofA_eq]; exact okS_sA (okSl_ofS fun b hb' => okR_lt hl hb')
   have no : addP (nR l) (nR r) = none → Scoped 0 0 (hard [] (.tup [.nilsl, .int .i64 0, .bool false])) ∧ Wk (hard [] (.tup [.nilsl, .int .i64 0, .bool false])) (addV (nR l) (nR r)) := fun e => ⟨⟨trivial, trivial, trivial, trivial⟩, by
    rw [addV, addK, opq_eq, e, oB_none, oR_none]; exact .tup (.cons .nil (.cons (.refl _) (.cons (.refl _) .nil)))⟩
   have go : ∀ i : Int, i = (freeK (ofS (nR l)) : Nat) → ofB (nR l) = true →
     ∃ r' st', branch (AV.bool (byOk l && (byOk r && apOk r.length 1)))
      (branch (AV.bool !oB (putP (nR l) i (nR r))) (some (Fin.ret (AV.tup [AV.nilsl, AV.int IntKind.i64 (0 : Int), AV.bool false]), St.mk [] []))
       (some (Fin.ret (AV.tup [AV.ns (!oB (putP (nR l) i (nR r))) 1 (oR (putP (nR l) i (nR r))), AV.int IntKind.i64 i, AV.bool true]), St.mk [] []))) none = some (.ret r', st') ∧ Scoped 0 0 (hard st'.objs r') ∧ Wk (hard st'.objs r') (addV (nR l) (nR r)) := by
    intro i hi hB
    have hP : addP (nR l) (nR r) = putP (nR l) i (nR r) := by rw [addP, hB, hi]; rfl
    rw [branch_of h2]
    cases hp : putP (nR l) i (nR r) with
    | none => exact ⟨_, _, by rw [oB_none]; exact branch_of (b := !false) rfl, no (by rw [hP, hp])⟩
    | some c =>
     refine ⟨_, _, by rw [oB_some]; exact branch_not (b := !true) rfl, ?_⟩
     have e : AV.tup [AV.ns (!true) 1 (oR (some c)), AV.int IntKind.i64 i, AV.bool true] = addV (nR l) (nR r) := by
      rw [addV, addK, opq_eq, hP, hp, oB_some, hi]; rfl
     rw [e, hard_id _ _ (addV_scoped _ _)]
     exact ⟨addV_scoped _ _, .refl _⟩
   rw [add_run, branch_of h1.1]
   cases hB : ofB (nR l) with
   | false => exact ⟨_, _, branch_of (b := !false) rfl, no (by rw [addP, hB]; rfl)⟩
   | true =>
    rw [branch_not (b := !true) rfl, branch_of (by rw [hok]; rfl), ofA_len, ofA_eq]
    rw [show idxI (idxFrom (prd (69 : FuncId)) (sA (ofS (nR l))) 0) = _ from free_idx (ofS (nR l)) 0]
    cases ha : (ofS (nR l)).any (·.isNone) with
    | true =>
     simp only [if_true, Nat.zero_add]
     obtain ⟨r', st', g1, g2⟩ := go (freeK (ofS (nR l)) : Nat) rfl hB
     exact ⟨r', st', (branch_not (by simp)).trans g1, g2⟩
    | false =>
     simp only [Bool.false_eq_true, if_false]
     obtain ⟨r', st', g1, g2⟩ := go ((ofS (nR l)).length : Nat) (by rw [freeK_none ha]) hB
     exact ⟨r', st', (branch_of (by decide)).trans g1, g2⟩
  ·cases h
theorem p34_nat : p34.Nat := by
 intro args k
 show (match args with | [x, y] => _ | _ => _) = thenA (match args with | [x, y] => _ | _ => _) k
 split
 ·exact onNs_nat fun _ _ => onNs_nat fun _ _ => ifT_nat rfl
 ·rfl
def code (o : Option (List Nat)) : Nat := match o with
 | none => 0
 | some b => b.length + 1
def dat : Sl → List Nat
 | [] => []
 | o :: s => dat s ++ o.getD []
theorem putN_app (P R D r : List Nat) (h : R.length = r.length) : putN (P ++ (R ++ D)) P.length r = P ++ (r ++ D) := by
 rw [putN, List.take_left, ← List.append_assoc P R D, show P.length + r.length = (P ++ R).length by simp [h], List.drop_left, List.append_assoc]
theorem putN_mid (A : List Nat) (m k : Nat) (b D : List Nat) (h : b.length = k) (hk : k ≤ m) : putN (A ++ List.replicate m 0 ++ D) (A.length + (m - k)) b = A ++ List.replicate (m - k) 0 ++ (b ++ D) := by
 have e : A ++ List.replicate m 0 ++ D = (A ++ List.replicate (m - k) 0) ++ (List.replicate k 0 ++ D) := by
  rw [List.append_assoc, List.append_assoc, ← List.append_assoc (List.replicate (m - k) 0), List.replicate_append_replicate, show m - k + k = m by omega]
 rw [e, show A.length + (m - k) = (A ++ List.replicate (m - k) 0).length by simp]
 exact putN_app _ _ _ _ (by simp [h])
theorem pgFold_lay : ∀ (s : Sl) (i : Nat) (A : List Nat) (m : Nat) (D : List Nat), A.length = 1 + i → s.length + sumN s ≤ m →
  pgFold s i (A ++ List.replicate m 0 ++ D) (A.length + m) = A ++ s.map code ++ List.replicate (m - s.length - sumN s) 0 ++ (dat s ++ D)
 | [], i, A, m, D, hA, hm => by simp [pgFold, dat, sumN]
 | none :: s, i, A, m, D, hA, hm => by
  rw [sumN_cons, List.length_cons] at hm
  have h0 : olen none = 0 := rfl
  obtain ⟨m', rfl⟩ : ∃ m', m = m' + 1 := ⟨m - 1, by omega⟩
  have e : A ++ List.replicate (m' + 1) 0 ++ D = (A ++ [0]) ++ List.replicate m' 0 ++ D := by simp [List.replicate_succ]
  have ih := pgFold_lay s (i + 1) (A ++ [0]) m' D (by simp; omega) (by omega)
  rw [List.length_append, List.length_singleton] at ih
  rw [pgFold, e, show A.length + (m' + 1) = A.length + 1 + m' by omega, ih, sumN_cons, h0, List.length_cons, show m' + 1 - (s.length + 1) - (0 + sumN s) = m' - s.length - sumN s by omega]
  simp [code, dat]
 | some b :: s, i, A, m, D, hA, hm => by
  rw [sumN_cons, List.length_cons] at hm
  have h0 : olen (some b) = b.length := rfl
  obtain ⟨m', rfl⟩ : ∃ m', m = m' + 1 := ⟨m - 1, by omega⟩
  have e : (A ++ List.replicate (m' + 1) 0 ++ D).set (1 + i) (b.length + 1) = (A ++ [b.length + 1]) ++ List.replicate m' 0 ++ D := by
   rw [← hA, List.append_assoc, List.set_append_right _ _ (Nat.le_refl _), Nat.sub_self, List.replicate_succ]
   simp
  have ih := pgFold_lay s (i + 1) (A ++ [b.length + 1]) (m' - b.length) (b ++ D) (by simp; omega) (by omega)
  rw [pgFold, e, show A.length + (m' + 1) - b.length = (A ++ [b.length + 1]).length + (m' - b.length) by simp; omega, putN_mid _ _ _ _ _ rfl (by omega), ih, sumN_cons, h0, List.length_cons,
   show m' + 1 - (s.length + 1) - (b.length + sumN s) = m' - b.length - s.length - sumN s by omega]
  simp [code, dat]
theorem pgB_lay {s : Sl} (h : szN s ≤ 256) : pgB s = [s.length] ++ s.map code ++ List.replicate (255 - s.length - sumN s) 0 ++ dat s := by
 have e : (List.replicate 256 0).set 0 s.length = [s.length] ++ List.replicate 255 0 ++ [] := by
  rw [show List.replicate 256 (0 : Nat) = 0 :: List.replicate 255 0 from List.replicate_succ, List.set_cons_zero, List.append_nil]; rfl
 have := pgFold_lay s 0 [s.length] 255 [] (by simp) (by rw [szN] at h; omega)
 rw [pgB, e, show (256 : Nat) = [s.length].length + 255 from rfl, this]
 simp
theorem decL_lay : ∀ (s : Sl) (X D : List Nat), (∀ o ∈ s, olen o ≤ 200) → decL (s.map code) (X ++ dat s).length (X ++ dat s ++ D) = some s
 | [], X, D, h => rfl
 | none :: s, X, D, h => by
  have ih := decL_lay s X D fun o ho => h o (by simp [ho])
  simp only [List.map_cons, code, decL, if_true, dat, Option.getD_none, List.append_nil]
  rw [ih]; rfl
 | some b :: s, X, D, h => by
  have ih := decL_lay s X (b ++ D) fun o ho => h o (by simp [ho])
  have hl : (X ++ dat (some b :: s)).length = (X ++ dat s).length + b.length := by simp [dat]; omega
  have e : X ++ dat (some b :: s) ++ D = X ++ dat s ++ (b ++ D) := by simp [dat]
  simp only [List.map_cons, code, decL]
  rw [if_neg (by omega), hl, if_neg (by omega), show (X ++ dat s).length + b.length - (b.length + 1 - 1) = (X ++ dat s).length by omega, e, ih]
  simp only [Option.map_some]
  congr 2
  rw [show (X ++ dat s).length + b.length = (X ++ dat s ++ b).length by simp; omega, ← List.append_assoc, List.take_left, List.drop_left]
theorem ofP_pgB {t : Sl} (hk : pgOk t = true) (hm : trm t = true) : ofP (pgB t) = some t := by
 obtain ⟨h1, h2⟩ := pgOk_iff.mp hk
 have hl := pgB_len hk
 have hd : (pgB t).headD 0 = t.length := by rw [pgB_lay h1]; rfl
 have hc : (t.map code).length = t.length := by simp
 have hsz : sumN t + t.length ≤ 255 := by rw [szN] at h1; omega
 have ht : ((pgB t).take (1 + t.length)).drop 1 = t.map code := by
  rw [pgB_lay h1, List.append_assoc ([t.length] ++ t.map code), show 1 + t.length = ([t.length] ++ t.map code).length by simp; omega, List.take_left]
  rfl
 have hD : decL (t.map code) 256 (pgB t) = some t := by
  have := decL_lay t ([t.length] ++ t.map code ++ List.replicate (255 - t.length - sumN t) 0) [] h2
  rw [List.append_nil, ← pgB_lay h1, hl] at this
  exact this
 rw [ofP, hl, hd, ht, hD]
 simp only [beq_self_eq_true, cond_true]
 rw [fine, hk, hm]
 simp
theorem trm_trS (s : Sl) : trm (trS s) = true := by
 unfold trm trS
 rw [List.getLast?_reverse]
 have : ∀ t : Sl, (t.dropWhile (·.isNone)).head? ≠ some none := by
  intro t
  induction t with
  | nil => simp
  | cons o t ih =>
   rw [List.dropWhile_cons]
   cases o with
   | none => exact ih
   | some b => simp
 have h := this s.reverse
 cases h2 : (s.reverse.dropWhile (·.isNone)).head? with
 | none => rfl
 | some o => cases o with
  | none => exact absurd h2 h
  | some b => rfl
theorem ofP_toP {s : Sl} {q : List Nat} (hm : trm s = true) (h : toP s = some q) : ofP q = some s ∧ pgOk s = true ∧ q = pgB s := by
 unfold toP at h
 split at h
 ·rename_i hk
  cases h
  exact ⟨ofP_pgB hk hm, hk, rfl⟩
 ·cases h
def Pg (p : List Nat) : Prop := (∀ b ∈ p, b < 256) ∧ p.length = 256 ∧ ofB p = true
theorem ofS_some {p : List Nat} {s : Sl} (h : ofP p = some s) : ofS p = s ∧ ofB p = true := by
 rw [ofS, ofB, h]; exact ⟨rfl, rfl⟩
theorem Pg.slots {p : List Nat} (h : Pg p) : ofP p = some (ofS p) ∧ okSl (ofS p) ∧ pgOk (ofS p) = true ∧ trm (ofS p) = true ∧ pgB (ofS p) = p := by
 obtain ⟨h1, h2, h3⟩ := h
 cases e : ofP p with
 | none => rw [ofB, e] at h3; cases h3
 | some s =>
  have hs := (ofS_some e).1
  obtain ⟨_, _, k1, k2, k3⟩ := ofP_some e
  rw [hs]
  exact ⟨rfl, okSl_of h1 e, k1, k3, k2⟩
theorem Pg.of {s : Sl} {q : List Nat} (hs : okSl s) (hm : trm s = true) (h : toP s = some q) : Pg q ∧ ofS q = s := by
 obtain ⟨h1, h2, rfl⟩ := ofP_toP hm h
 exact ⟨⟨pgB_lt hs h2, pgB_len h2, (ofS_some h1).2⟩, (ofS_some h1).1⟩
theorem Pg.put {p b q : List Nat} {i : Int} (hp : Pg p) (hb : ∀ x ∈ b, x < 256) (hbl : b.length < 4611686018427387904) (h : putP p i b = some q) : Pg q ∧ ofS q = withS (ofS p) i.toNat (some b) ∧ 0 ≤ i ∧ i ≤ 250 := by
 unfold putP at h
 rw [if_pos hp.2.2, putS] at h
 split at h
 ·rename_i hi
  have hl := len_ofS p
  have hok : okSl (withS (ofS p) i.toNat (some b)) := okSl_with hp.slots.2.1 (by omega) (by omega) fun c hc => by cases hc; exact ⟨hb, hbl⟩
  obtain ⟨k1, k2⟩ := Pg.of hok (trm_trS _) h
  exact ⟨k1, k2, hi⟩
 ·cases h
theorem zeros_pg : Pg (List.replicate 256 0) ∧ ofS (List.replicate 256 0) = [] := by
 have h : ofP (List.replicate 256 0) = some [] := by kernel_rfl
 exact ⟨⟨fun b hb => by rw [List.eq_of_mem_replicate hb]; omega, List.length_replicate, (ofS_some h).2⟩, (ofS_some h).1⟩
theorem trS_id {t : Sl} (h : trm t = true) : trS t = t := by
 rcases List.eq_nil_or_concat t with rfl | ⟨t', o, rfl⟩
 ·rfl
 ·rw [List.concat_eq_append] at *
  cases o with
  | none => simp [trm] at h
  | some b => rw [trS, List.reverse_append, List.reverse_singleton, List.singleton_append, List.dropWhile_cons]; simp
theorem trm_set {s : Sl} (h : trm s = true) (k : Nat) (b : List Nat) : trm (s.set k (some b)) = true := by
 rcases List.eq_nil_or_concat s with rfl | ⟨s', o, rfl⟩
 ·rfl
 ·rw [List.concat_eq_append] at *
  by_cases hk : k < s'.length
  ·rw [List.set_append_left _ _ hk]
   cases o with
   | none => simp [trm] at h
   | some c => simp [trm]
  ·rw [List.set_append_right _ _ (by omega)]
   rcases Nat.eq_zero_or_pos (k - s'.length) with h0 | h0
   ·rw [h0]; simp [trm]
   ·rw [List.set_eq_of_length_le (by simp; omega)]
    exact h
theorem trm_snoc (s : Sl) (b : List Nat) : trm (s ++ [some b]) = true := by simp [trm]
def mS (s : Sl) : Nat := if s.any (·.isNone) then 0 else 1
theorem free_at {s : Sl} (h : s.any (·.isNone) = true) : ∃ hk : freeK s < s.length, s[freeK s] = none := by
 have hk : freeK s < s.length := List.findIdx_lt_length.mpr (by
  obtain ⟨x, hx, h2⟩ := List.any_eq_true.mp h
  exact ⟨x, hx, h2⟩)
 refine ⟨hk, ?_⟩
 have h3 : s[freeK s].isNone = true := List.findIdx_getElem (w := hk)
 exact Option.isNone_iff_eq_none.mp h3
theorem sumN_set_none {s : Sl} {k : Nat} (hk : k < s.length) (h : s[k] = none) (b : List Nat) : sumN (s.set k (some b)) = sumN s + b.length := by
 induction s generalizing k with
 | nil => simp at hk
 | cons x s ih =>
  cases k with
  | zero =>
   simp only [List.getElem_cons_zero] at h
   subst h
   rw [List.set_cons_zero, sumN_cons, sumN_cons]
   show b.length + sumN s = 0 + sumN s + b.length
   omega
  | succ k =>
   rw [List.set_cons_succ, sumN_cons, sumN_cons, ih (by simpa using hk) (by simpa using h)]; omega
theorem with_free {s : Sl} (hm : trm s = true) (b : List Nat) :
  szN (withS s (freeK s) (some b)) = szN s + mS s + b.length ∧ (∀ o, o ∈ withS s (freeK s) (some b) → o ∈ s ∨ o = some b) ∧ some b ∈ withS s (freeK s) (some b) ∧ (withS s (freeK s) (some b)).length = s.length + mS s := by
 cases ha : s.any (·.isNone) with
 | true =>
  obtain ⟨hk, hn⟩ := free_at ha
  have hp : padS s (freeK s + 1) = s := by rw [padS, show freeK s + 1 - s.length = 0 by omega]; simp
  have e : withS s (freeK s) (some b) = s.set (freeK s) (some b) := by rw [withS, hp, trS_id (trm_set hm _ _)]
  have h0 : mS s = 0 := by rw [mS, if_pos ha]
  rw [e, h0, szN, szN, sumN_set_none hk hn, List.length_set]
  refine ⟨by omega, fun o ho => ?_, ?_, by omega⟩
  ·rcases List.mem_or_eq_of_mem_set ho with h | h
   ·exact .inl h
   ·exact .inr h
  ·rw [List.mem_iff_getElem]
   exact ⟨freeK s, by rw [List.length_set]; exact hk, by simp⟩
 | false =>
  have hk := freeK_none ha
  have hp : padS s (freeK s + 1) = s ++ [none] := by rw [padS, hk, show s.length + 1 - s.length = 1 by omega]; rfl
  have e : withS s (freeK s) (some b) = s ++ [some b] := by
   rw [withS, hp, hk, List.set_append_right _ _ (Nat.le_refl _), Nat.sub_self, List.set_cons_zero, trS_id (trm_snoc _ _)]
  have h1 : mS s = 1 := by rw [mS, if_neg (by simp [ha])]
  rw [e, h1, szN, szN, sumN_append, List.length_append]
  have : sumN [some b] = b.length := by simp [sumN, olen]
  refine ⟨by simp; omega, fun o ho => ?_, by simp, by simp⟩
  rcases List.mem_append.mp ho with h | h
  ·exact .inl h
  ·exact .inr (by simpa using h)
theorem pgOk_free {s : Sl} (hm : trm s = true) (hk : pgOk s = true) (b : List Nat) : pgOk (withS s (freeK s) (some b)) = decide (szN s + mS s + b.length ≤ 256 ∧ b.length ≤ 200) := by
 obtain ⟨h1, h2, h3, _⟩ := with_free hm b
 obtain ⟨k1, k2⟩ := pgOk_iff.mp hk
 rw [Bool.eq_iff_iff, pgOk_iff, decide_eq_true_iff, h1]
 constructor
 ·rintro ⟨e1, e2⟩
  exact ⟨e1, e2 _ h3⟩
 ·rintro ⟨e1, e2⟩
  refine ⟨e1, fun o ho => ?_⟩
  rcases h2 o ho with h | h
  ·exact k2 o h
  ·rw [h]; exact e2
theorem addP_eq {p : List Nat} (hp : Pg p) (b : List Nat) : addP p b = if freeK (ofS p) ≤ 250 ∧ szN (ofS p) + mS (ofS p) + b.length ≤ 256 ∧ b.length ≤ 200 then some (pgB (withS (ofS p) (freeK (ofS p)) (some b))) else none := by
 obtain ⟨_, _, k1, k2, _⟩ := hp.slots
 rw [addP, if_pos hp.2.2, putP, if_pos hp.2.2, putS, Int.toNat_natCast, toP, pgOk_free k2 k1]
 by_cases h1 : freeK (ofS p) ≤ 250
 ·rw [if_pos ⟨by omega, by omega⟩]
  by_cases h2 : szN (ofS p) + mS (ofS p) + b.length ≤ 256 ∧ b.length ≤ 200
  ·rw [if_pos (by simpa using h2), if_pos ⟨h1, h2⟩]
  ·rw [if_neg (by simpa using h2), if_neg (fun h => h2 h.2)]
 ·rw [if_neg (by omega), if_neg (fun h => h1 h.1)]
theorem Pg.add {p b q : List Nat} (hp : Pg p) (hb : ∀ x ∈ b, x < 256) (h : addP p b = some q) : Pg q ∧ ofS q = withS (ofS p) (freeK (ofS p)) (some b) ∧ freeK (ofS p) ≤ 250 ∧ szN (ofS p) + mS (ofS p) + b.length ≤ 256 ∧ b.length ≤ 200 := by
 have h2 := h
 rw [addP_eq hp] at h2
 split at h2
 ·rename_i hc
  rw [addP, if_pos hp.2.2] at h
  obtain ⟨k1, k2, _⟩ := hp.put hb (by omega) h
  rw [Int.toNat_natCast] at k2
  exact ⟨k1, k2, hc⟩
 ·cases h2
theorem add_len {p b q : List Nat} (hp : Pg p) (hl : (ofS p).length ≤ 251) (hb : ∀ x ∈ b, x < 256) (h : addP p b = some q) : (ofS q).length ≤ 251 := by
 obtain ⟨_, e, h1, _⟩ := hp.add hb h
 obtain ⟨_, _, _, h2⟩ := with_free hp.slots.2.2.2.1 b
 rw [e, h2]
 unfold mS
 split
 ·omega
 ·rename_i ha
  rw [freeK_none (Bool.eq_false_iff.mpr ha)] at h1
  omega
theorem room_cases {s : Sl} (hl : s.length ≤ 251) : (roomI s = -1 ∧ (256 < szN s + mS s ∨ 250 < freeK s)) ∨ (0 ≤ roomI s ∧ roomI s ≤ 200 ∧ freeK s ≤ 250 ∧ (szN s : Int) + mS s + roomI s ≤ 256 ∧ (roomI s = 200 ∨ (szN s : Int) + mS s + roomI s = 256)) := by
 have hf : freeK s ≤ 250 ∨ (s.any (·.isNone) = false ∧ 250 < s.length) := by
  cases ha : s.any (·.isNone) with
  | true => left; obtain ⟨hk, _⟩ := free_at ha; omega
  | false =>
   rw [freeK_none ha]
   rcases Nat.lt_or_ge 250 s.length with h | h
   ·exact .inr ⟨rfl, h⟩
   ·exact .inl h
 unfold roomI mS
 cases ha : s.any (·.isNone) with
 | true =>
  simp only [if_true]
  rcases hf with hf | ⟨h, _⟩
  ·split
   ·left; refine ⟨rfl, .inl ?_⟩; omega
   ·right; refine ⟨?_, ?_, hf, ?_, ?_⟩ <;> omega
  ·rw [ha] at h; cases h
 | false =>
  simp only [Bool.false_eq_true, if_false]
  have hk := freeK_none ha
  split
  ·left; refine ⟨rfl, ?_⟩; omega
  ·right; refine ⟨?_, ?_, ?_, ?_, ?_⟩ <;> omega
end Go.Proofs.Ytljigmghdpkdlaa.V
namespace Go.V
section
variable {P : Program}
def Orc.dead (id : FuncId) (fn : Func) (hf : P.funcs[id]? = some fn) (hname : (fn.name == "runtime.NumGoroutine") = false) (hb : fn.body.isNone = false) : Orc P where
 id := id
 fn := fn
 hf := hf
 hname := hname
 hb := hb
 sem _ _ _ := none
 sound k args st fin h := by cases h
mutual
def FlatD : AV → Prop
 | .agg cs => FlatDL cs
 | .tup cs => FlatDL cs
 | .bool _ => True
 | .int _ _ => True
 | .str _ => True
 | .nilptr => True
 | .nilsl => True
 | .nilmap => True
 | .nilfn => True
 | .nilif => True
 | _ => False
def FlatDL : List AV → Prop
 | [] => True
 | x :: l => FlatD x ∧ FlatDL l
end
mutual
theorem FlatD.any {g g' : Gh} {w w' : World} : ∀ (a : AV) (v : Value), FlatD a → Rel g w a v → Rel g' w' a v
 | .agg cs, _, s, ⟨vs, r1, r2, r3⟩ => ⟨vs, r1, FlatDL.any cs vs.toList s r2, r3⟩
 | .tup cs, _, s, ⟨vs, r1, r2⟩ => ⟨vs, r1, FlatDL.any cs vs.toList s r2⟩
 | .bool _, _, _, r => r
 | .int _ _, _, _, r => r
 | .str _, _, _, r => r
 | .nilptr, _, _, r => r
 | .nilsl, _, _, r => r
 | .nilmap, _, _, r => r
 | .nilfn, _, _, r => r
 | .nilif, _, _, r => r
 | .ptr _ _, _, s, _ => s.elim
 | .eptr _, _, s, _ => s.elim
 | .sl _ _ _, _, s, _ => s.elim
 | .lg _ _ _, _, s, _ => s.elim
 | .ms _ _ _ _ _, _, s, _ => s.elim
 | .mp _, _, s, _ => s.elim
 | .fn _ _ _, _, s, _ => s.elim
 | .ifc _ _, _, s, _ => s.elim
 | .dead, _, s, _ => s.elim
 | .ns _ _ _, _, s, _ => s.elim
 | .vs _ _ _ _, _, s, _ => s.elim
 | .vp _ _ _, _, s, _ => s.elim
 | .tp _ _ _, _, s, _ => s.elim
theorem FlatDL.any {g g' : Gh} {w w' : World} : ∀ (l : List AV) (vs : List Value), FlatDL l → RelAll g w l vs → RelAll g' w' l vs
 | [], _, _, r => r
 | x :: l, _, ⟨s1, s2⟩, ⟨v, vr, r1, r2, r3⟩ => ⟨v, vr, r1, FlatD.any x v s1 r2, FlatDL.any l vr s2 r3⟩
end
end
end Go.V
namespace Go.V
section
variable {P : Program}
end
end Go.V
namespace Go.V
section
variable {P : Program}
def findG (n : Nat) : List (Nat × List AV) → Option (List AV)
 | [] => none
 | x :: r => match Nat.beq x.1 n with
  | true => some x.2
  | false => findG n r
theorem findG_mem {n : Nat} : ∀ {l : List (Nat × List AV)} {cs : List AV}, findG n l = some cs → (n, cs) ∈ l
 | [], cs, h => by cases h
 | x :: r, cs, h => by
  simp only [findG] at h
  split at h
  ·rename_i h1
   cases h
   obtain rfl := Nat.eq_of_beq_eq_true h1
   exact List.mem_cons_self
  ·exact List.mem_cons_of_mem _ (findG_mem h)
def evG (ev : Operand → AV) (o : Operand) : AV :=
 match o with
 | .global n => match findG n globs with
  | some cs => .eptr cs
  | none => .dead
 | o => ev o
theorem EvR.glob {g : Gh} {w : World} {ev : Operand → AV} {a : Act} {xs : List Operand} (h : EvR g w ev a xs) (hG : Globs g w) : EvR g w (evG ev) a xs := by
 intro x hx
 unfold evG
 split
 ·rename_i n
  split
  ·rename_i cs hc
   exact ⟨n, 0, rfl, hG _ (findG_mem hc)⟩
  ·trivial
 ·exact h x hx
theorem evG_congr {ev ev' : Operand → AV} {xs : List Operand} (h : ∀ o ∈ xs, ev o = ev' o) : ∀ o ∈ xs, evG ev o = evG ev' o := by
 intro o ho
 unfold evG
 split
 ·rfl
 ·exact h o ho
def PSim.glob (x : PSim P) : PSim P :=
 ⟨x.oper, x.plain, x.xs, fun ev k => x.f (evG ev) k, fun ev ev' k h => x.congr _ _ _ (evG_congr h), fun ev k fin h g w a st he hs => x.sound (evG ev) k fin h g w a st (he.glob hs.glob) hs⟩
def QSim.glob (x : QSim P) : QSim P :=
 ⟨x.oper, x.plain, x.xs, fun ev st k => x.f (evG ev) st k, fun ev ev' st k h => x.congr _ _ _ _ (evG_congr h), fun ev st k fin h g w a he hs => x.sound (evG ev) st k fin h g w a (he.glob hs.glob) hs⟩
def constOk (s : ByteArray) (xs : List Operand) : Bool := xs.all fun o => match o with
 | .const v => match v with
  | .string t => t.data.toList == s.data.toList
  | _ => true
 | _ => true
def evN (nm : ByteArray) (ev : Operand → AV) (o : Operand) : AV :=
 match o with
 | .const v => match v with
  | .string _ => .str nm
  | v => ev (.const v)
 | o => ev o
def PSim.named (x : PSim P) (nm s : ByteArray) (hn : nm = s) (hx : constOk s x.xs = true) : PSim P :=
 ⟨x.oper, x.plain, x.xs, fun ev k => x.f (evN nm ev) k, fun ev ev' k h => x.congr _ _ _ fun o ho => by
  unfold evN
  split
  ·split
   ·rfl
   ·exact h _ ho
  ·exact h _ ho, fun ev k fin h g w a st he hs => x.sound (evN nm ev) k fin h g w a st (fun o ho => by
  have hc := List.all_eq_true.mp hx o ho
  unfold evN
  split
  ·split
   ·rename_i t
    simp only [beq_iff_eq] at hc
    have : t = s := by
     have := Array.toList_inj.mp hc
     cases t; cases s; simp only at this; rw [this]
    show Value.string t = Value.string nm
    rw [hn, this]
   ·exact he _ ho
  ·exact he _ ho) hs⟩
end
end Go.V
namespace Go.V
section
variable {P : Program}
def MSim.ofP (x : PSim P) : MSim P where
 oper := x.oper
 plain := x.plain
 xs := x.xs
 f ev st k := x.f ev fun r => k r st
 congr ev ev' st k h := x.congr ev ev' _ h
 sound ev st k fin h g w a he hs := by
  obtain ⟨r, h1, h2⟩ := x.sound ev _ fin h g w a st he hs
  exact ⟨r, st, h1, h2⟩
end
end Go.V
namespace Go.V
section
variable {P : Program}
def slots (env : Env) : List AV := (List.range env.n).map (look env.m)
theorem relAll_of {g : Gh} {w : World} : ∀ (l : List AV) (vs : List Value), l.length = vs.length → (∀ i, i < l.length → Rel g w (l.getD i .dead) (vs.getD i undef)) → RelAll g w l vs
 | [], [], _, _ => rfl
 | [], _ :: _, h, _ => by simp at h
 | _ :: _, [], h, _ => by simp at h
 | x :: l, v :: vs, h, hr => ⟨v, vs, rfl, by simpa using hr 0 (by simp), relAll_of l vs (by simpa using h) fun i hi => by have := hr (i + 1) (by simp; omega); simpa using this⟩
theorem slots_rel {g : Gh} {w : World} {env : Env} {a : Act} (he : EnvRel g w env a) : RelAll g w (slots env) a.tmps.toList := by
 refine relAll_of _ _ (by simp [slots, he.size]) fun i hi => ?_
 have hi' : i < env.n := by simpa [slots] using hi
 have e1 : (slots env).getD i .dead = look env.m i := by simp [slots, List.getD_eq_getElem?_getD, hi']
 have e2 : a.tmps.toList.getD i undef = a.tmps.getD i undef := by rw [List.getD_eq_getElem?_getD, Array.getD_eq_getD_getElem?, Array.getElem?_toList]
 rw [e1, e2]; exact he.slot i
theorem write_lp {g : Gh} {st : St} {w : World} (hs : StRel g st w) {j b : Nat} (hg : g.objs[j]? = some b) {s jj f : Nat} {tm : List AV} (hes : st.objs[j]? = some (.lp s jj f tm)) {L : Loop} (hM : w.heap[b]? = some (.loop L)) (L' : Loop) {s' j' : Nat}
  (h0 : rngs f = some (L'.params, L'.assign, L'.body)) (h1 : LSt s' j' L') (h2 : RelAll g w tm L'.tmps.toList) :
  StRel g ⟨st.objs.set j (.lp s' j' f tm), st.tk⟩ (w.putObj b (.loop L')) ∧ Ev g w g (w.putObj b (.loop L')) := by
 obtain ⟨hkind, _⟩ := ob_of hs hg hes
 have hlt := lt_of_block hM
 have hnew : (w.putObj b (.loop L')).heap[b]? = some (.loop L') := World.putObj_heap_same hlt
 have hold : ∀ x, x ≠ b → (w.putObj b (.loop L')).heap[x]? = w.heap[x]? := fun x hx => World.putObj_heap_other hx
 have hne : ∀ x, g.kind x ≠ .obj j → x ≠ b := fun x hx e => hx (by rw [e]; exact hkind)
 have hE : Ev g w g (w.putObj b (.loop L')) := by
  refine ⟨rfl, rfl, rfl, by simp, fun x hx hk => ⟨rfl, ?_⟩, fun x t hx hk => ⟨hk, fun C' E' fz hC' => ⟨C', ?_, rfl, fun _ _ => rfl⟩⟩, fun x k hx hk => .inl hk, fun _ _ h => h, tk_refl _, fun _ _ => Nat.le_refl _, fun x k hx _ hk _ => ⟨hk, fun C' E' fz hC' => ⟨C', ?_, rfl⟩⟩, fun x C' E' fz hC' => ⟨C', fz, ?_, rfl⟩⟩
  ·refine hold x (hne x ?_)
   intro e; rw [e] at hk; cases hk
  ·rw [← hC']; exact hold x (hne x (by rw [hk]; intro e; cases e))
  ·rw [← hC']; exact hold x (hne x (by rw [hk]; intro e; cases e))
  ·rw [← hC']; exact hold x (fun e => by rw [e, hM] at hC'; cases hC')
 refine ⟨⟨hs.tk, by simp [hs.len], fun k b' y hk hy => ?_, fun b' k hb' hk => ?_, fun b' t hb' hk => hs.rowlt b' t (by simpa using hb') hk, fun b' k hb' hk => ?_, hs.glob.mono hE⟩, hE⟩
 ·by_cases hkj : k = j
  ·subst hkj
   rw [hg] at hk
   cases hk
   rw [List.getElem?_set_self (getElem?_lt hes)] at hy
   cases hy
   exact ⟨by simpa using hlt, hkind, L', hnew, h0, h1, RelAll.mono hE _ _ h2⟩
  ·rw [List.getElem?_set_ne (fun e => hkj e.symm)] at hy
   obtain ⟨h2, h3⟩ := hs.obj k b' y hk hy
   refine ⟨by simpa using h2, ?_⟩
   have hvk : ∀ b'', b'' < w.heap.size → g.kind b'' = .vec k → (w.putObj b (.loop L')).heap[b'']? = w.heap[b'']? ∧ g.kind b'' = .vec k := fun b'' _ h5 =>
    ⟨hold b'' (hne b'' (by rw [h5]; intro e; cases e)), h5⟩
   by_cases hbb : b' = b
   ·subst hbb
    cases y with
    | gone => trivial
    | nov v => exact h3
    | cells cs' => have := h3.1; rw [hkind] at this; cases this; exact absurd rfl hkj
    | map es => have := h3.1; rw [hkind] at this; cases this; exact absurd rfl hkj
    | lp _ _ _ _ => have := h3.1; rw [hkind] at this; cases this; exact absurd rfl hkj
    | vec v cs' =>
     obtain ⟨e1, b'', e2, e3, C', E', e4, e5, e6⟩ := h3
     exact ⟨e1, b'', by simpa using e2, e3, C', E', (hvk b'' e2 e3).1.trans e4, RelAll.mono hE _ _ e5, e6⟩
   ·exact h3.keep hE (hold _ hbb) rfl hvk rfl
 ·obtain ⟨y, h2, h3, h4⟩ := hs.back b' k (by simpa using hb') hk
  by_cases hkj : k = j
  ·subst hkj
   exact ⟨_, List.getElem?_set_self (getElem?_lt hes), h3, trivial⟩
  ·exact ⟨y, by rw [List.getElem?_set_ne (fun e => hkj e.symm)]; exact h2, h3, h4⟩
 ·obtain ⟨⟨v, cs', h2⟩, h3⟩ := hs.vec b' k (by simpa using hb') hk
  have hkj : k ≠ j := by intro e; subst e; rw [hes] at h2; cases h2
  exact ⟨⟨v, cs', by rw [List.getElem?_set_ne (fun e => hkj e.symm)]; exact h2⟩, fun b'' hb'' => h3 b'' (by simpa using hb'')⟩
theorem drop_lp {g : Gh} {st : St} {w : World} (hs : StRel g st w) {j b : Nat} (hg : g.objs[j]? = some b) {s jj f : Nat} {tm : List AV} (hes : st.objs[j]? = some (.lp s jj f tm)) {L : Loop} (hM : w.heap[b]? = some (.loop L)) (L' : Loop) :
  StRel ⟨g.use b .solid, g.objs, g.tk, g.ver⟩ ⟨st.objs.set j .gone, st.tk⟩ (w.putObj b (.loop L')) ∧ Ev g w ⟨g.use b .solid, g.objs, g.tk, g.ver⟩ (w.putObj b (.loop L')) := by
 obtain ⟨hkind, _⟩ := ob_of hs hg hes
 have hlt := lt_of_block hM
 have hold : ∀ x, x ≠ b → (w.putObj b (.loop L')).heap[x]? = w.heap[x]? := fun x hx => World.putObj_heap_other hx
 have hne : ∀ x, g.kind x ≠ .obj j → x ≠ b := fun x hx e => hx (by rw [e]; exact hkind)
 have huse : ∀ x, x ≠ b → (g.use b .solid) x = g.kind x := fun x hx => by simp only [Gh.use]; rw [if_neg hx]
 have hE : Ev g w ⟨g.use b .solid, g.objs, g.tk, g.ver⟩ (w.putObj b (.loop L')) := by
  refine ⟨rfl, rfl, rfl, by simp, fun x hx hk => ?_, fun x t hx hk => ?_, fun x k hx hk => ?_, fun _ _ h => h, tk_refl _, fun _ _ => Nat.le_refl _, fun x k hx _ hk _ => ?_, fun x C' E' fz hC' => ⟨C', fz, ?_, rfl⟩⟩
  ·have := hne x (by intro e; rw [e] at hk; cases hk)
   exact ⟨huse x this, hold x this⟩
  ·have := hne x (by rw [hk]; intro e; cases e)
   exact ⟨(huse x this).trans hk, fun C' E' fz hC' => ⟨C', (hold x this).trans hC', rfl, fun _ _ => rfl⟩⟩
  ·by_cases hxb : x = b
   ·subst hxb; right; simp [Gh.use]
   ·left; exact (huse x hxb).trans hk
  ·have := hne x (by rw [hk]; intro e; cases e)
   exact ⟨(huse x this).trans hk, fun C' E' fz hC' => ⟨C', (hold x this).trans hC', rfl⟩⟩
  ·rw [← hC']; exact hold x (fun e => by rw [e, hM] at hC'; cases hC')
 have hback : ∀ x kd, (g.use b .solid) x = kd → kd ≠ .solid → x ≠ b ∧ g.kind x = kd := by
  intro x kd hk hn
  have : x ≠ b := by intro e; subst e; simp [Gh.use] at hk; exact hn hk.symm
  exact ⟨this, by rw [← huse x this]; exact hk⟩
 refine ⟨⟨hs.tk, by simp [hs.len], fun k b' y hk hy => ?_, fun b' k hb' hk => ?_, fun b' t hb' hk => ?_, fun b' k hb' hk => ?_, hs.glob.mono hE⟩, hE⟩
 ·by_cases hkj : k = j
  ·subst hkj
   rw [List.getElem?_set_self (getElem?_lt hes)] at hy
   cases hy
   obtain ⟨h2, _⟩ := hs.obj k b' _ hk hes
   exact ⟨by simpa using h2, trivial⟩
  ·rw [List.getElem?_set_ne (fun e => hkj e.symm)] at hy
   obtain ⟨h2, h3⟩ := hs.obj k b' y hk hy
   refine ⟨by simpa using h2, ?_⟩
   have hvk : ∀ b'', b'' < w.heap.size → g.kind b'' = .vec k → (w.putObj b (.loop L')).heap[b'']? = w.heap[b'']? ∧ (g.use b .solid) b'' = .vec k := fun b'' _ h5 => by
    have := hne b'' (by rw [h5]; intro e; cases e)
    exact ⟨hold b'' this, (huse b'' this).trans h5⟩
   by_cases hbb : b' = b
   ·subst hbb
    cases y with
    | gone => trivial
    | nov v => exact h3
    | cells cs' => have := h3.1; rw [hkind] at this; cases this; exact absurd rfl hkj
    | map es => have := h3.1; rw [hkind] at this; cases this; exact absurd rfl hkj
    | lp _ _ _ _ => have := h3.1; rw [hkind] at this; cases this; exact absurd rfl hkj
    | vec v cs' =>
     obtain ⟨e1, b'', e2, e3, C', E', e4, e5, e6⟩ := h3
     exact ⟨e1, b'', by simpa using e2, (hvk b'' e2 e3).2, C', E', (hvk b'' e2 e3).1.trans e4, RelAll.mono hE _ _ e5, e6⟩
   ·exact h3.keep hE (hold _ hbb) (huse _ hbb) hvk rfl
 ·obtain ⟨h1, h1'⟩ := hback b' _ hk (by intro e; cases e)
  obtain ⟨y, h2, h3, h4⟩ := hs.back b' k (by simpa using hb') h1'
  have hkj : k ≠ j := by intro e; subst e; rw [hg] at h3; cases h3; exact h1 rfl
  exact ⟨y, by rw [List.getElem?_set_ne (fun e => hkj e.symm)]; exact h2, h3, h4⟩
 ·obtain ⟨h1, h1'⟩ := hback b' _ hk (by intro e; cases e)
  exact hs.rowlt b' t (by simpa using hb') h1'
 ·obtain ⟨h1, h1'⟩ := hback b' _ hk (by intro e; cases e)
  obtain ⟨⟨v, cs', h2⟩, h3⟩ := hs.vec b' k (by simpa using hb') h1'
  have hkj : k ≠ j := by intro e; subst e; rw [hes] at h2; cases h2
  exact ⟨⟨v, cs', by rw [List.getElem?_set_ne (fun e => hkj e.symm)]; exact h2⟩, fun b'' hb'' hk'' => h3 b'' (by simpa using hb'') (hback b'' _ hk'' (by intro e; cases e)).2⟩
structure YOrc (P : Program) where
 sem : Nat → List AV → St → (Fin → St → Ans) → Ans
 sound : ∀ j args st k fin, sem j args st k = some fin → ∀ g w b (vals : Array Value), g.objs[j]? = some b → RelAll g w args vals.toList → StRel g st w →
  ∃ fn tmps assign body, (Instr.yield b vals).run P w = .ok (.round b fn tmps assign body) w ∧
   RoundIn Fence.wide 0 P b fn tmps assign body w fun e w' => ∃ r st' g', k r st' = some fin ∧ FinRel g' w' r e ∧ StRel g' st' w' ∧ Ev g w g' w'
def acallY (Y : YOrc P) (Os : List (Orc P)) (c : AV) (args : List AV) (st : St) (k : Fin → St → Ans) : Ans :=
 match c with
 | .fn (.yield j) first captured => match first with
  | [] => match captured with
   | [] => Y.sem j args st k
   | _ => none
  | _ => none
 | c => acall Os c args st k
def opCallY (Y : YOrc P) (Os : List (Orc P)) (dst : Option Tmp) (t : Tmp) (args : List Operand) (tys : Array TypeId) (ty : TypeId) (pos : String) (after : Array Edge) : OpSim P where
 oper := mkOp dst (.call { callee := .value (.tmp t), args := args.toArray, argTypes := tys }) ty pos after
 plain := rfl
 run K env st := acallY Y Os (look env.m t) (args.map env.eval) st (Cont.call K env dst)
 sound K env st fin h g w a he hs next Q hp ρ := by
  have hv := he.slot t
  unfold acallY at h
  split at h
  ·rename_i j first captured hb
   split at h
   ·split at h
    ·rw [hb] at hv
     obtain ⟨va, vc, ⟨b, hob, hv⟩, hva, hvc⟩ := hv
     have hva : va = #[] := by have : va.toList = [] := hva; simpa using this
     have hvc : vc = #[] := by have : vc.toList = [] := hvc; simpa using this
     subst hva; subst hvc
     have hev : a.eval (.tmp t) = .func (.yield b) #[] #[] := hv
     obtain ⟨fn, tmps, assign, body, hy, hround⟩ := Y.sound _ _ _ _ _ h g w b ((args.map a.eval).toArray) hob (by simpa using he.evals args) hs
     have hrun : (execOp a.eval (mkOp dst (.call { callee := .value (.tmp t), args := args.toArray, argTypes := tys }) ty pos after)).run P w = .ok (.round b fn tmps assign body) w := by
      simp only [execOp, mkOp, resolve, hev, Deferred.ofValue]
      simpa [invoke] using hy
     refine ⟨fun _ _ => trivial, ?_⟩
     rw [show ((mkOp dst (.call { callee := .value (.tmp t), args := args.toArray, argTypes := tys }) ty pos after).semAt (Rd ρ).round a.eval).run P w = _ from semAt_of hrun fun _ e => (by cases e), Oper.uponIn_round]
     refine ⟨rd_depth, ?_⟩
     refine RoundIn.mono (show RoundIn (Rd ρ) 0 P b fn tmps assign body w _ from hround) fun e w' ⟨r, st', g', hk, h1, h2, h3⟩ => ?_
     cases r with
     | ret x =>
      obtain ⟨v, rfl, hv⟩ := h1
      exact hp .normal _ st' g' w' _ .normal hk ((he.mono h3).putO dst hv) h2 h3 (.of_eq (put_defers ..)) rfl
     | pan x =>
      obtain ⟨v, rfl, hv⟩ := h1
      exact hp (.panic x) _ st' g' w' a _ hk (he.mono h3) h2 h3 (.refl ..) ⟨v, rfl, hv⟩
    ·cases h
   ·cases h
  ·exact (opCallDyn Os dst t args tys ty pos after).sound K env st fin h g w a he hs next Q hp ρ
def putAll : Env → List Tmp → List AV → Env
 | e, t :: ts, x :: xs => putAll (e.put t x) ts xs
 | e, _, _ => e
theorem putAll_rel {g : Gh} {w : World} : ∀ (ts : List Tmp) (xs : List AV) (vs : List Value) (e : Env) (a : Act), RelAll g w xs vs → EnvRel g w e a →
  EnvRel g w (putAll e ts xs) { a with tmps := (ts.zip vs).foldl (fun tmps (x : Tmp × Value) => tmps.setIfInBounds x.1 x.2) a.tmps }
 | [], xs, vs, e, a, h, he => by cases xs <;> exact he
 | t :: ts, [], vs, e, a, h, he => by obtain rfl : vs = [] := h; exact he
 | t :: ts, x :: xs, _, e, a, ⟨v, vr, rfl, h1, h2⟩, he => putAll_rel ts xs vr (e.put t x) (a.put (some t) v) h2 (he.put t h1)
def endK (j : Nat) (k : Fin → St → Ans) : Cont := fun x env st =>
 match st.objs[j]? with
 | some (.lp 1 _ f tm) => match x with
  | .normal => k (.ret (.bool true)) ⟨st.objs.set j (.lp 0 0 f tm), st.tk⟩
  | .ret => k (.ret (.bool false)) ⟨st.objs.set j (.lp 2 0 f tm), st.tk⟩
  | .exit i => k (.ret (.bool false)) ⟨st.objs.set j (.lp 2 (i + 1) f tm), st.tk⟩
  | _ => none
 | _ => none
def beginK (j : Nat) (k : Env → St → Ans) : Cont := fun x env st =>
 match x with
 | .normal => match st.objs[j]? with
  | some (.lp 0 jj f tm) => k env ⟨st.objs.set j (.lp 1 jj f tm), st.tk⟩
  | _ => none
 | _ => none
def rangeY (F : Nat) (f : Nat) (ps : Array Tmp) (asg body : Sim P) (hr : rngs f = some (ps, asg.code, body.code)) (h1 : noRange asg.code = true) (h2 : noRange body.code = true) : YOrc P where
 sem j args st k :=
  match st.objs[j]? with
  | some (.lp 0 _ f' tm) => match Nat.beq f' f && Nat.beq args.length ps.size with
   | true => asg.run F (beginK j fun env st => body.run F (endK j k) env st) (putAll ⟨tm.length, argEnv 0 tm⟩ ps.toList args) st
   | false => none
  | _ => none
 sound j args st k fin h g w b vals hob hv hs := by
  split at h
  ·rename_i jj f' tm hst
   split at h
   ·rename_i hc
    rw [Bool.and_eq_true] at hc
    obtain rfl := Nat.eq_of_beq_eq_true hc.1
    have hlen := Nat.eq_of_beq_eq_true hc.2
    obtain ⟨hkind, L, hL, hcode, ⟨hst0, hpend⟩, htm⟩ := ob_of hs hob hst
    rw [hr] at hcode
    simp only [Option.some.injEq, Prod.mk.injEq] at hcode
    obtain ⟨e1, e2, e3⟩ := hcode
    have hsz : vals.size = L.params.size := by have := RelAll.length _ _ hv; rw [← e1]; simpa [hlen] using this.symm
    refine ⟨_, _, _, _, run_yield hL hsz, roundIn_of_wpIn trivial ?_⟩
    rw [← e2, ← e3]
    have he0 : EnvRel g w ⟨tm.length, argEnv 0 tm⟩ ⟨L.tmps, []⟩ := by
     have hl := RelAll.length _ _ htm
     refine ⟨by simpa using hl.symm, fun t => ?_⟩
     have := argEnv_rel tm L.tmps.toList 0 [] [] htm rfl t
     simpa using this
    have he1 : EnvRel g w (putAll ⟨tm.length, argEnv 0 tm⟩ ps.toList args) { tmps := (L.params.zip vals).foldl (fun tmps (x : Tmp × Value) => tmps.setIfInBounds x.1 x.2) L.tmps, defers := [] } := by
     have := putAll_rel ps.toList args vals.toList _ _ hv he0
     rw [← e1, ← Array.foldl_toList, Array.toList_zip]
     exact this
    refine asg.sound F _ _ st fin h g w _ he1 hs _ ?_ (some b) (.inr h1)
    intro x env1 st1 g1 w1 a1 e k1 k2 k3 k4 k5 k6
    cases x with
    | normal =>
     obtain rfl := k6
     simp only [beginK] at k1
     split at k1
     ·rename_i jj1 f1 tm1 hst1
      have hob1 := k4.objs j b hob
      obtain ⟨hkind1, L1, hL1, hcode1, ⟨hr1, hp1⟩, htm1⟩ := ob_of k3 hob1 hst1
      obtain ⟨hs2, hE2⟩ := write_lp k3 hob1 hst1 hL1 { L1 with state := .busy } (s' := 1) (j' := jj1) hcode1 rfl htm1
      refine ⟨_, run_beginRound hL1 hr1, ?_⟩
      refine body.sound F _ env1 _ fin k1 g1 _ a1 (k2.mono hE2) hs2 _ ?_ (some b) (.inr h2)
      intro x env2 st2 g2 w2 a2 e m1 m2 m3 m4 m5 m6
      simp only [endK] at m1
      split at m1
      ·rename_i jj2 f2 tm2 hst2
       have hob2 := m4.objs j b hob1
       obtain ⟨hkind2, L2, hL2, hcode2, hr2, htm2⟩ := ob_of m3 hob2 hst2
       have hEE : Ev g w g2 w2 := k4.trans (hE2.trans m4)
       have fin' : ∀ (jump : Option Code) (s' j' : Nat), LSt s' j' { L2 with state := if jump.isNone then .ready else .done, pending := jump } → k (.ret (.bool jump.isNone)) ⟨st2.objs.set j (.lp s' j' f2 tm2), st2.tk⟩ = some fin →
         ∃ v w', (Instr.endRound b jump).run P w2 = .ok v w' ∧ ∃ r st' g', k r st' = some fin ∧ FinRel g' w' r (.returned v) ∧ StRel g' st' w' ∧ Ev g w g' w' := by
        intro jump s' j' hl hk
        obtain ⟨hs3, hE3⟩ := write_lp m3 hob2 hst2 hL2 { L2 with state := if jump.isNone then .ready else .done, pending := jump } (s' := s') (j' := j') hcode2 hl htm2
        exact ⟨_, _, run_endRound jump hL2, _, _, g2, hk, ⟨_, rfl, rfl⟩, hs3, hEE.trans hE3⟩
       cases x with
       | normal => obtain rfl := m6; exact fin' none 0 0 ⟨rfl, rfl⟩ m1
       | ret => obtain rfl := m6; exact fin' (some .ret) 2 0 ⟨rfl, rfl⟩ m1
       | exit i => obtain rfl := m6; exact fin' (some (.exit i)) 2 (i + 1) ⟨rfl, rfl⟩ m1
       | goto i => cases m1
       | panic v => cases m1
      ·cases m1
     ·cases k1
    | exit i => cases k1
    | goto i => cases k1
    | ret => cases k1
    | panic v => cases k1
   ·cases h
  ·cases h
def doneK (j : Nat) (K : Cont) (env : Env) : Fin → St → Ans := fun r st =>
 match r with
 | .ret _ => match st.objs[j]? with
  | some (.lp 0 _ _ _) => K .normal env ⟨st.objs.set j .gone, st.tk⟩
  | some (.lp 2 jj _ _) => match jj with
   | 0 => K .ret env ⟨st.objs.set j .gone, st.tk⟩
   | i + 1 => K (.exit i) env ⟨st.objs.set j .gone, st.tk⟩
  | _ => none
 | .pan v => K (.panic v) env st
noncomputable def Sim.rangeF (f : Nat) (g0 : Operand) (ps : Array Tmp) (asg body : Sim P) (it : YOrc P → Orc P) (hr : rngs f = some (ps, asg.code, body.code)) (h1 : noRange asg.code = true) (h2 : noRange body.code = true) : Sim P where
 code := .rangeFunc g0 ps asg.code body.code
 run F K env st :=
  match env.eval g0 with
  | .fn (.func i) first cap => match first with
   | [] => match Nat.beq (it (rangeY F f ps asg body hr h1 h2)).id i with
    | true => (it (rangeY F f ps asg body hr h1 h2)).sem (.fn (.yield st.objs.length) [] [] :: cap) ⟨st.objs ++ [.lp 0 0 f (slots env)], st.tk⟩ (doneK st.objs.length K env)
    | false => none
   | _ => none
  | _ => none
 sound F K env st fin h g w a he hs Q hp ρ hρ := by
  obtain rfl : ρ = none := by
   rcases hρ with h | h
   ·exact h
   ·cases h
  have hv := he.eval g0
  split at h
  ·rename_i i first cap hb
   rw [hb] at hv
   split at h
   ·split at h
    ·rename_i hid
     obtain rfl := Nat.eq_of_beq_eq_true hid
     generalize hO : it (rangeY F f ps asg body hr h1 h2) = O at h hv hb
     obtain ⟨va, vc, hv, hva, hvc⟩ := hv
     have hva : va = #[] := by have : va.toList = [] := hva; simpa using this
     subst hva
     have hv : a.eval g0 = .func (.func O.id) #[] vc := hv
     refine wpIn_rangeFunc fun fn _ => ?_
     have hp1 := Push.alloc w (.deferred (some []))
     have hs1 : StRel ⟨g.use w.heap.size .solid, g.objs, g.tk, g.ver⟩ st (w.alloc (.deferred (some []))) := by
      have := hs.push hp1 .solid g.tk (tk_refl _) trivial
      rw [hs.tk] at this ⊢; exact this
     have hE1 : Ev g w ⟨g.use w.heap.size .solid, g.objs, g.tk, g.ver⟩ (w.alloc (.deferred (some []))) := by simpa using Ev.push hp1 .solid [] g.tk (tk_refl _)
     generalize hg1 : (⟨g.use w.heap.size .solid, g.objs, g.tk, g.ver⟩ : Gh) = g1 at hs1 hE1
     have hk1 : g1.kind w.heap.size = .solid := by rw [← hg1]; simp [Gh.use]
     have hsz1 : (w.alloc (.deferred (some []))).heap.size = w.heap.size + 1 := World.size_alloc ..
     have hd1 : (w.alloc (.deferred (some []))).heap[w.heap.size]? = some (.deferred (some [])) := hp1.new
     generalize hw1 : w.alloc (.deferred (some [])) = w1 at *
     have htm : RelAll g1 w1 (slots env) a.tmps.toList := RelAll.mono hE1 _ _ (slots_rel he)
     obtain ⟨L, hLd⟩ : ∃ L : Loop, L = { state := .ready, pending := none, fn, tmps := a.tmps, params := ps, assign := asg.code, body := body.code, defers := w.heap.size } := ⟨_, rfl⟩
     have hLp : rngs f = some (L.params, L.assign, L.body) := by rw [hLd]; exact hr
     have hLs : LSt 0 0 L := by rw [hLd]; exact ⟨rfl, rfl⟩
     have hLt : L.tmps = a.tmps := by rw [hLd]
     have hp2 := Push.alloc w1 (.loop L)
     have hs2 := hs1.pushObj hp2 (.lp 0 0 f (slots env)) trivial fun hE => ⟨by simp [Gh.use], L, hp2.new, hLp, hLs, by rw [hLt]; exact RelAll.mono hE _ _ htm⟩
     have hE2 : Ev g1 w1 ⟨g1.use w1.heap.size (.obj st.objs.length), g1.objs ++ [w1.heap.size], g1.tk, g1.ver⟩ (w1.alloc (.loop L)) := Ev.push hp2 _ _ _ (tk_refl _)
     have hob2 : (g1.objs ++ [w1.heap.size])[st.objs.length]? = some w1.heap.size := by
      rw [List.getElem?_append_right (by rw [hs1.len]; exact Nat.le_refl _)]; simp [hs1.len]
     have hk2 : (g1.use w1.heap.size (.obj st.objs.length)) w.heap.size = .solid := by simp only [Gh.use]; rw [if_neg (by omega)]; exact hk1
     generalize hg2 : (⟨g1.use w1.heap.size (.obj st.objs.length), g1.objs ++ [w1.heap.size], g1.tk, g1.ver⟩ : Gh) = g2 at hs2 hE2
     have hob2 : g2.objs[st.objs.length]? = some w1.heap.size := by rw [← hg2]; exact hob2
     have hk2 : g2.kind w.heap.size = .solid := by rw [← hg2]; exact hk2
     have hd2 : (w1.alloc (.loop L)).heap[w.heap.size]? = some (.deferred (some [])) := (hp2.old (by omega)).trans hd1
     have hsz2 : w.heap.size < (w1.alloc (.loop L)).heap.size := by rw [World.size_alloc]; omega
     have hE : Ev g w g2 (w1.alloc (.loop L)) := hE1.trans hE2
     have hargs : RelAll g2 (w1.alloc (.loop L)) (.fn (.yield st.objs.length) [] [] :: cap) (#[Value.func (.yield (w.heap.size + 1)) #[] #[]] ++ vc).toList := by
      refine ⟨Value.func (.yield (w.heap.size + 1)) #[] #[], vc.toList, by simp, ⟨#[], #[], ⟨w1.heap.size, hob2, by rw [hsz1]⟩, rfl, rfl⟩, RelAll.mono hE _ _ hvc⟩
     refine ⟨w.heap.size + 1, [mark w.heap.size], w1.alloc (.loop L), { target := .fn (.func O.id) vc, args := #[.func (.yield (w.heap.size + 1)) #[] #[]] }, w1.alloc (.loop L), O.id, #[.func (.yield (w.heap.size + 1)) #[] #[]] ++ vc, w1.alloc (.loop L), ?_, ?_, fun _ _ => trivial, ?_, fun h => (by cases h), ?_⟩
     ·rw [← hw1, hLd]; exact run_enterLoop_outer _ _ _ _ _
     ·simp only [resolve, rangeCall, Deferred.ofValue, hv]
      simp [Act.eval]
     ·simp [invoke, run_callFunc O.hf O.hname O.hb]
     ·refine rd_calls ((O.sound _ _ _ _ h g2 _ _ hargs hs2).mono fun e w3 ⟨r, st3, g3, hk, f1, f2, f3⟩ => ?_)
      have hD3 : g3.kind w.heap.size = .solid ∧ w3.heap[w.heap.size]? = some (.deferred (some [])) := by
       obtain ⟨x1, x2⟩ := f3.solid w.heap.size hsz2 hk2
       exact ⟨x1, x2.trans hd2⟩
      have hsz3 : w.heap.size < w3.heap.size := Nat.lt_of_lt_of_le hsz2 f3.size
      have hdg : ∀ g4 w4, Ev g3 w3 g4 w4 → DG g4 w.heap.size w4 a.defers ([mark w.heap.size] ++ a.defers) := by
       intro g4 w4 hE4
       obtain ⟨x1, x2⟩ := hE4.solid w.heap.size hsz3 hD3.1
       exact ⟨[w.heap.size], rfl, by simp, fun D hD => by
        rw [List.mem_singleton] at hD
        subst hD
        exact ⟨Nat.le_refl _, Nat.lt_of_lt_of_le hsz3 hE4.size, x1, x2.trans hD3.2⟩⟩
      have hEr : ∀ {g4 w4}, Ev g3 w3 g4 w4 → EnvRel g4 w4 env { a with defers := [mark w.heap.size] ++ a.defers } := fun hE4 =>
       let he' := he.mono (hE.trans (f3.trans hE4)); ⟨he'.size, he'.slot⟩
      cases r with
      | pan x =>
       obtain ⟨v, rfl, hv'⟩ := f1
       exact hp (.panic x) env st3 g3 w3 _ _ hk (hEr (Ev.refl ..)) f2 (hE.trans f3) (hdg _ _ (Ev.refl ..)) ⟨v, rfl, hv'⟩
      | ret x =>
       obtain ⟨v, rfl, hv'⟩ := f1
       have hob3 := f3.objs _ _ hob2
       rw [hsz1] at hob3
       simp only [doneK] at hk
       split at hk
       ·rename_i jj3 f3' tm3 hst3
        obtain ⟨_, L3, hL3, _, ⟨hr3, hpn3⟩, _⟩ := ob_of f2 hob3 hst3
        obtain ⟨hs4, hE4⟩ := drop_lp f2 hob3 hst3 hL3 { L3 with state := .exhausted }
        have hel := (run_endLoop (P := P) hL3 (by rw [hr3]; intro e; cases e)).trans (show _ = Result.ok none (w3.putObj (w.heap.size + 1) (.loop { L3 with state := .exhausted })) by rw [hpn3])
        refine ⟨none, _, hel, ?_⟩
        exact hp .normal env _ _ _ _ .normal hk (hEr hE4) hs4 (hE.trans (f3.trans hE4)) (hdg _ _ hE4) rfl
       ·rename_i jj3 f3' tm3 hst3
        obtain ⟨_, L3, hL3, _, ⟨hr3, hpn3⟩, _⟩ := ob_of f2 hob3 hst3
        obtain ⟨hs4, hE4⟩ := drop_lp f2 hob3 hst3 hL3 { L3 with state := .exhausted }
        have hel := (run_endLoop (P := P) hL3 (by rw [hr3]; intro e; cases e)).trans (show _ = Result.ok (some (jcode jj3)) (w3.putObj (w.heap.size + 1) (.loop { L3 with state := .exhausted })) by rw [hpn3])
        refine ⟨some (jcode jj3), _, hel, ?_⟩
        split at hk
        ·exact wpIn_ret (hp .ret env _ _ _ _ .ret hk (hEr hE4) hs4 (hE.trans (f3.trans hE4)) (hdg _ _ hE4) rfl)
        ·rename_i ii
         exact wpIn_exit (hp (.exit ii) env _ _ _ _ (.exit ii) hk (hEr hE4) hs4 (hE.trans (f3.trans hE4)) (hdg _ _ hE4) rfl)
       ·cases hk
    ·cases h
   ·cases h
  ·cases h
noncomputable def YOrc.step (Y : YOrc P) (j : Nat) (args : List AV) (st : St) : Option (Bool × St) :=
 opq (match Y.sem j args st Fun.done with
  | some (.ret (.bool b), st') => some (b, st')
  | _ => none)
theorem YOrc.step_of {Y : YOrc P} {j : Nat} {args : List AV} {st : St} {b : Bool} {st' : St} (h : Y.sem j args st Fun.done = some (.ret (.bool b), st')) : Y.step j args st = some (b, st') := by
 rw [YOrc.step, opq_eq, h]
noncomputable def YOrc.told (Y : YOrc P) : YOrc P where
 sem j args st k := onSome (Y.step j args st) none fun o => k (.ret (.bool o.1)) o.2
 sound j args st k fin h g w b vals h1 h2 h3 := by
  cases hs : Y.step j args st with
  | none => rw [hs] at h; cases h
  | some o =>
   rw [hs] at h
   obtain ⟨b', st'⟩ := o
   have h : k (.ret (.bool b')) st' = some fin := h
   have hd : Y.sem j args st Fun.done = some (.ret (.bool b'), st') := by
    rw [YOrc.step, opq_eq] at hs
    split at hs
    ·rename_i b'' st'' hr
     simp only [Option.some.injEq, Prod.mk.injEq] at hs
     obtain ⟨rfl, rfl⟩ := hs
     exact hr
    ·cases hs
   obtain ⟨fn, tmps, assign, body, q1, q2⟩ := Y.sound j args st _ _ hd g w b vals h1 h2 h3
   refine ⟨fn, tmps, assign, body, q1, RoundIn.mono q2 ?_⟩
   rintro e w' ⟨r, st2, g', e1, e2⟩
   simp only [Fun.done, Option.some.injEq, Prod.mk.injEq] at e1
   obtain ⟨rfl, rfl⟩ := e1
   exact ⟨_, _, g', h, e2⟩
noncomputable def afreeN (x : AV) (st : St) (k : AV → St → Ans) : Ans :=
 match x with
 | .nilsl => k .nilsl st
 | .sl sz f l => k (.sl sz f l) st
 | x => afree x st k
theorem afreeN_rel {g : Gh} {st : St} {w : World} (hs : StRel g st w) {x : AV} {v : Value} (hv : Rel g w x v) {k : AV → St → Ans} {fin : Fin × St} (h : afreeN x st k = some fin) : ∃ r st' g', k r st' = some fin ∧ Rel g' w r v ∧ StRel g' st' w ∧ Ev g w g' w := by
 unfold afreeN at h
 split at h
 ·exact ⟨_, _, g, h, hv, hs, .refl ..⟩
 ·exact ⟨_, _, g, h, hv, hs, .refl ..⟩
 ·exact afree_rel hs hv h
noncomputable def opMoveZn (dst : Option Tmp) (x : Operand) (ty : TypeId) (pos : String) (after : Array Edge) : MSim P :=
 MSim.makes (mkOp dst (.move x) ty pos after) rfl [x] (fun ev st k => afreeN (ev x) st k) (fun ev ev' st k h => by simp only [h x (by simp)]) fun ev st k fin h g w a he hs => by
  obtain ⟨r, st', g', k1, k2, k3, k4⟩ := afreeN_rel hs (he x (by simp)) h
  exact ⟨r, _, st', g', w, k1, rfl, k2, k3, k4⟩
noncomputable def opAssignZn (dst : Option Tmp) (x : Operand) (ty : TypeId) (pos : String) (after : Array Edge) : MSim P :=
 MSim.makes (mkOp dst (.assign x) ty pos after) rfl [x] (fun ev st k => afreeN (ev x) st k) (fun ev ev' st k h => by simp only [h x (by simp)]) fun ev st k fin h g w a he hs => by
  obtain ⟨r, st', g', k1, k2, k3, k4⟩ := afreeN_rel hs (he x (by simp)) h
  exact ⟨r, _, st', g', w, k1, rfl, k2, k3, k4⟩
noncomputable def txC (l : List (List AV)) : ByteArray := opq (textOf ((nR l).map fun (b : Nat) => (b : Int)))
noncomputable def abytesC (x : AV) (st : St) (k : AV → Ans) : Ans :=
 match x with
 | .str _ => none
 | x => match rowsA 1 x st with
  | some l => match okR l with
   | true => k (.str (txC l))
   | false => none
  | none => none
theorem abytesC_of {x : AV} {st : St} {k : AV → Ans} {fin : Fin × St} (h : abytesC x st k = some fin) : (∀ s, x ≠ .str s) ∧ abytes x st k = some fin := by
 have hx : ∀ s, x ≠ .str s := by intro s e; rw [e] at h; cases h
 refine ⟨hx, ?_⟩
 unfold abytesC at h
 unfold abytes
 split at h
 ·exact absurd rfl (hx _)
 ·split at h
  ·rename_i l hl
   split at h
   ·rename_i hr
    split
    ·exact absurd rfl (hx _)
    ·rw [hl]
     simp only [numsOf_nR hr]
     rw [txC, opq_eq] at h
     exact h
   ·cases h
  ·cases h
noncomputable def opBytesStrC (dst : Option Tmp) (S T : TypeId) (x : Operand) (e : TypeId) (hS : P.underlying S = some (.slice e)) (he : P.underlying e = some (.int .u8)) (hT : P.underlying T = some .string) (ty : TypeId) (pos : String) (after : Array Edge) : QSim P where
 oper := mkOp dst (.convert S T x) ty pos after
 plain := rfl
 xs := [x]
 f ev st k := abytesC (ev x) st k
 congr ev ev' st k h := by simp only [h x (by simp)]
 sound ev st k fin h g w a hev hs := (opBytesStr dst S T x e hS he hT ty pos after).sound ev st k fin (by
  obtain ⟨h1, h2⟩ := abytesC_of h
  show (match ev x with | .str _ => none | _ => abytes (ev x) st k) = some fin
  split
  ·rename_i s e; exact absurd e (h1 s)
  ·exact h2) g w a hev hs
end
end Go.V
namespace Go.Proofs.Ytljigmghdpkdlaa.V
open Go Go.V Go.RowKit
theorem ze67 : (Try.prog.info? 67).bind (·.zero) = some (.agg #[(.slice none 0 0), (.slice none 0 0)]) := by kernel_rfl
theorem fl67_0 : fieldB Try.prog 67 0 0 1 false = true := by kernel_rfl
theorem sz22 : (Try.prog.info? 22).map (·.size) = some 1 := by kernel_rfl
theorem el22 : ElemOf Try.prog 22 34 1 24 (.slice none 0 0) := ⟨Try.underlying22, sz34, by34, ze34, by kernel_rfl, by decide⟩
theorem fl67_1 : fieldB Try.prog 67 1 1 1 false = true := by kernel_rfl
theorem sz23 : (Try.prog.info? 23).map (·.size) = some 1 := by kernel_rfl
noncomputable def f11_b : Sim Try.prog :=
 (.seq (.live [] (.region 0 [
 ⟨(opAssign (some 0) (.const (Value.pointer none)) 26 "heap.go:26" #[]).op, none⟩
 ] (by kernel_rfl)))
 (.seq (.live [0] (.region 1 [
 ⟨(opBuild (some 1) 67 #[(.slice none 0 0), (.slice none 0 0)] [] ze67 (by kernel_rfl) 67 "heap.go:26" #[]).op, none⟩,
 ⟨(MSim.ph (opBox (some 2) 67 (.tmp 1) 26 "heap.go:26" #[eD 0]) 2).op, none⟩,
 ⟨(opAssign (some 0) (.tmp 2) 26 "heap.go:26" #[eD 1, eP 0, eP 1]).op, none⟩
 ] (by kernel_rfl)))
 (.live [0] .ret)))
noncomputable def f11 : Fun Try.prog where
 id := 11
 fn := Try.f11
 hf := Try.func11
 hname := by kernel_rfl
 body := f11_b
 hbody := by kernel_rfl
 res := [rTmp 0]
 hres := by kernel_rfl
 n := 3
 hn := by kernel_rfl
noncomputable def f53_b : Sim Try.prog :=
 (.seq (.live [0, 1] (.region 0 [
 ⟨(opMove (some 4) (.tmp 0) 26 "heap.go:48" #[]).op, none⟩,
 ⟨(opMove (some 5) (.tmp 0) 26 "heap.go:48" #[]).op, none⟩,
 ⟨(opNilCheck (some 6) (.tmp 5) 0 "heap.go:48" #[eD 1]).op, none⟩,
 ⟨(opFieldAddr (some 7) 67 (.tmp 6) 0 0 1 false fl67_0 (by decide) 0 "heap.go:48" #[eD 2]).op, none⟩,
 ⟨(opLoadT (.one .any) (some 8) 22 (.tmp 7) (.slice 34) Try.underlying22 1 sz22 (by kernel_rfl) 22 "heap.go:48" #[eD 3]).op, none⟩,
 ⟨(opMove (some 9) (.tmp 1) 34 "heap.go:48" #[]).op, none⟩,
 ⟨(opBuildSlice (some 10) 22 1 [(0, (.tmp 9))] 34 1 24 (.slice none 0 0) el22 (by kernel_rfl) (by decide) 22 "heap.go:48" #[eD 5]).op, none⟩,
 ⟨(opAppendR (some (.tmp 0)) 1 (some 11) (.tmp 8) (.tmp 10) 22 22 34 1 24 (.slice none 0 0) el22 (.slice 34) Try.underlying22 rfl 22 "heap.go:48" #[eD 4, eD 6]).op, none⟩,
 ⟨(opNilCheck (some 12) (.tmp 4) 0 "heap.go:48" #[eD 0, eP 0, eP 1, eP 2, eP 3, eP 4, eP 5, eP 6, eP 7]).op, none⟩,
 ⟨(opFieldAddr (some 13) 67 (.tmp 12) 0 0 1 false fl67_0 (by decide) 0 "heap.go:48" #[eD 8, eP 0, eP 1, eP 2, eP 3, eP 4, eP 5, eP 6, eP 7]).op, none⟩,
 ⟨(opStore none 22 (.tmp 13) (.tmp 11) 1 sz22 0 "heap.go:48" #[eD 9, eD 7, eC 7, eP 0, eP 1, eP 2, eP 3, eP 4, eP 5, eP 6, eP 7]).op, none⟩
 ] (by kernel_rfl)))
 (.live [] (.draw 1 [
 ⟨.p (opMove (some 14) (.tmp 0) 26 "heap.go:49" #[]), none⟩,
 ⟨.p (opMove (some 15) (.tmp 0) 26 "heap.go:49" #[]), none⟩,
 ⟨.p (opNilCheck (some 16) (.tmp 15) 0 "heap.go:49" #[eD 1]), none⟩,
 ⟨.pn (opFieldAddr (some 17) 67 (.tmp 16) 1 1 1 false fl67_1 (by decide) 0 "heap.go:49" #[eD 2]) opFieldAddr_nat, none⟩,
 ⟨.qn (opLoadT (.one .any) (some 18) 23 (.tmp 17) (.slice 3) Try.underlying23 1 sz23 (by kernel_rfl) 23 "heap.go:49" #[eD 3]) opLoadT_nat, none⟩,
 ⟨.p (opMove (some 19) (.tmp 1) 34 "heap.go:49" #[]), none⟩,
 ⟨.pn (opCallP p19 (some 20) [(.tmp 19)] #[34] 3 "heap.go:49" #[eD 5]) (opCallP_nat p19_nat), none⟩,
 ⟨.p (opBuildSlice (some 21) 23 1 [(0, (.tmp 20))] 3 1 8 (.int .i64 0) el23 (by kernel_rfl) (by decide) 23 "heap.go:49" #[eD 6]), none⟩,
 ⟨.mn (opAppendR (some (.tmp 0)) 2 (some 22) (.tmp 18) (.tmp 21) 23 23 3 1 8 (.int .i64 0) el23 (.slice 3) Try.underlying23 rfl 23 "heap.go:49" #[eD 4, eD 7, eC 6]) opAppendR_nat, none⟩,
 ⟨.p (opNilCheck (some 23) (.tmp 14) 0 "heap.go:49" #[eD 0, eP 0, eP 1, eP 2, eP 3, eP 4, eP 5, eP 6, eP 7, eP 8]), none⟩,
 ⟨.pn (opFieldAddr (some 24) 67 (.tmp 23) 1 1 1 false fl67_1 (by decide) 0 "heap.go:49" #[eD 9, eP 0, eP 1, eP 2, eP 3, eP 4, eP 5, eP 6, eP 7, eP 8]) opFieldAddr_nat, none⟩,
 ⟨.m (opStore none 23 (.tmp 24) (.tmp 22) 1 sz23 0 "heap.go:49" #[eD 10, eD 8, eC 8, eP 0, eP 1, eP 2, eP 3, eP 4, eP 5, eP 6, eP 7, eP 8]), none⟩
 ] mixed (by kernel_rfl))))
noncomputable def f53 : Fun Try.prog where
 id := 53
 fn := Try.f53
 hf := Try.func53
 hname := by kernel_rfl
 body := f53_b
 hbody := by kernel_rfl
 res := []
 hres := by kernel_rfl
 n := 25
 hn := by kernel_rfl
noncomputable def f54_l0 : Sim Try.prog :=
 (.seq (.seq (.live [0, 3, 24] (.region 2 [
 ⟨(opMove (some 10) (.tmp 3) 3 "heap.go:55" #[]).op, none⟩,
 ⟨(opBin (some 11) .gtr 3 (.tmp 10) (.const (Value.int IntKind.i64 0)) 3 4 "heap.go:55" #[eD 0]).op, none⟩,
 ⟨(opMove (some 12) (.tmp 11) 4 "heap.go:55" #[eD 1]).op, none⟩,
 ⟨(opMove (some 13) (.tmp 0) 26 "heap.go:55" #[eG 2]).op, (some (2, 12, true))⟩,
 ⟨(opNilCheck (some 14) (.tmp 13) 0 "heap.go:55" #[eD 3, eG 2]).op, (some (2, 12, true))⟩,
 ⟨(opFieldAddr (some 15) 67 (.tmp 14) 0 0 1 false fl67_0 (by decide) 0 "heap.go:55" #[eD 4, eG 2]).op, (some (2, 12, true))⟩,
 ⟨(opLoadT (.one .any) (some 16) 22 (.tmp 15) (.slice 34) Try.underlying22 1 sz22 (by kernel_rfl) 22 "heap.go:55" #[eD 5, eG 2]).op, (some (2, 12, true))⟩,
 ⟨(opMove (some 17) (.tmp 3) 3 "heap.go:55" #[eG 2]).op, (some (2, 12, true))⟩,
 ⟨(opBin (some 18) .sub 3 (.tmp 17) (.const (Value.int IntKind.i64 1)) 3 3 "heap.go:55" #[eD 7, eG 2]).op, (some (2, 12, true))⟩,
 ⟨(opIndexAddrT (some 19) 22 (.tmp 16) (.tmp 18) 34 1 Try.underlying22 sz34 0 "heap.go:55" #[eD 6, eD 8, eG 2]).op, (some (2, 12, true))⟩,
 ⟨(opLoadT (.one (.ns 1)) (some 20) 34 (.tmp 19) (.slice 5) Try.underlying34 1 sz34 (by kernel_rfl) 34 "heap.go:55" #[eD 9, eG 2]).op, (some (2, 12, true))⟩,
 ⟨(opCallP p75 (some 21) [(.tmp 20)] #[34] 23 "heap.go:55" #[eD 10, eC 2, eG 2]).op, (some (2, 12, true))⟩,
 ⟨(opLen (some 22) (.tmp 21) 23 (.slice 3) Try.underlying23 3 "heap.go:55" #[eD 11, eG 2]).op, (some (2, 12, true))⟩,
 ⟨(opBin (some 23) .eql 3 (.tmp 22) (.const (Value.int IntKind.i64 0)) 3 4 "heap.go:55" #[eD 12, eG 2]).op, (some (2, 12, true))⟩,
 ⟨(opPick (some 24) (.tmp 12) (.tmp 23) (.const (Value.bool false)) 4 "heap.go:55" #[eD 2, eD 13]).op, none⟩
 ] (by kernel_rfl)))
 (.cond (.tmp 24)
 .skip
 (.live [0, 3] (.exit 0))))
 (.block 1 (.live [0, 3] (.region 3 [
 ⟨(opMove (some 25) (.tmp 3) 3 "heap.go:56" #[]).op, none⟩,
 ⟨(opBin (some 26) .sub 3 (.tmp 25) (.const (Value.int IntKind.i64 1)) 3 3 "heap.go:56" #[eD 0]).op, none⟩,
 ⟨(opAssign (some 3) (.tmp 26) 3 "heap.go:56" #[eD 1, eP 0, eP 1]).op, none⟩
 ] (by kernel_rfl)))))
noncomputable def f54_r0 : Sim Try.prog :=
 (.seq (.live [0, 3, 4] (.region 4 [
 ⟨(opMove (some 27) (.tmp 3) 3 "heap.go:58" #[]).op, none⟩,
 ⟨(opMove (some 28) (.tmp 0) 26 "heap.go:58" #[]).op, none⟩,
 ⟨(opNilCheck (some 29) (.tmp 28) 0 "heap.go:58" #[eD 1]).op, none⟩,
 ⟨(opFieldAddr (some 30) 67 (.tmp 29) 0 0 1 false fl67_0 (by decide) 0 "heap.go:58" #[eD 2]).op, none⟩,
 ⟨(opLoadT (.one .any) (some 31) 22 (.tmp 30) (.slice 34) Try.underlying22 1 sz22 (by kernel_rfl) 22 "heap.go:58" #[eD 3]).op, none⟩,
 ⟨(opLen (some 32) (.tmp 31) 22 (.slice 34) Try.underlying22 3 "heap.go:58" #[eD 4]).op, none⟩,
 ⟨(opBin (some 33) .lss 3 (.tmp 27) (.tmp 32) 3 4 "heap.go:58" #[eD 0, eD 5]).op, none⟩,
 ⟨(opAssign (some 4) (.tmp 33) 4 "heap.go:58" #[eD 6, eP 0, eP 1, eP 2, eP 3, eP 4, eP 5, eP 6]).op, none⟩
 ] (by kernel_rfl)))
 (.seq (.live [4] (.draw 5 [
 ⟨.p (opMove (some 34) (.tmp 0) 26 "heap.go:59" #[]), none⟩,
 ⟨.p (opMove (some 35) (.tmp 0) 26 "heap.go:59" #[eX 16]), none⟩,
 ⟨.p (opMove (some 36) (.tmp 0) 26 "heap.go:59" #[]), none⟩,
 ⟨.p (opNilCheck (some 37) (.tmp 36) 0 "heap.go:59" #[eD 2]), none⟩,
 ⟨.pn (opFieldAddr (some 38) 67 (.tmp 37) 0 0 1 false fl67_0 (by decide) 0 "heap.go:59" #[eD 3]) opFieldAddr_nat, none⟩,
 ⟨.qn (opLoadT (.one .any) (some 39) 22 (.tmp 38) (.slice 34) Try.underlying22 1 sz22 (by kernel_rfl) 22 "heap.go:59" #[eD 4]) opLoadT_nat, none⟩,
 ⟨.p (opMove (some 40) (.tmp 3) 3 "heap.go:59" #[]), none⟩,
 ⟨.pn (opSlice (some 41) 22 (.tmp 39) none (some (.tmp 40)) none 34 1 Try.underlying22 sz34 22 "heap.go:59" #[eD 5, eD 6]) opSlice_nat, none⟩,
 ⟨.p (opMove (some 42) (.tmp 0) 26 "heap.go:59" #[]), none⟩,
 ⟨.p (opNilCheck (some 43) (.tmp 42) 0 "heap.go:59" #[eD 8]), none⟩,
 ⟨.pn (opFieldAddr (some 44) 67 (.tmp 43) 1 1 1 false fl67_1 (by decide) 0 "heap.go:59" #[eD 9]) opFieldAddr_nat, none⟩,
 ⟨.qn (opLoadT (.one .any) (some 45) 23 (.tmp 44) (.slice 3) Try.underlying23 1 sz23 (by kernel_rfl) 23 "heap.go:59" #[eD 10]) opLoadT_nat, none⟩,
 ⟨.p (opMove (some 46) (.tmp 3) 3 "heap.go:59" #[]), none⟩,
 ⟨.pn (opSlice (some 47) 23 (.tmp 45) none (some (.tmp 46)) none 3 1 Try.underlying23 sz3 23 "heap.go:59" #[eD 11, eD 12]) opSlice_nat, none⟩,
 ⟨.p (opNilCheck (some 48) (.tmp 34) 0 "heap.go:59" #[eD 0, eP 0, eT 1, eP 2, eP 3, eP 4, eP 5, eP 6, eP 7, eT 8, { on := 9, ground := (Ground.textOnly Departure.lateStoresUnsure) }, { on := 10, ground := (Ground.textOnly Departure.lateStoresUnsure) }, eP 11, eT 12, { on := 13, ground := (Ground.textOnly Departure.lateStoresUnsure) }]), none⟩,
 ⟨.pn (opFieldAddr (some 49) 67 (.tmp 48) 0 0 1 false fl67_0 (by decide) 0 "heap.go:59" #[eD 14, eP 0, eT 1, eP 2, eP 3, eP 4, eP 5, eP 6, eP 7, eT 8, { on := 9, ground := (Ground.textOnly Departure.lateStoresUnsure) }, { on := 10, ground := (Ground.textOnly Departure.lateStoresUnsure) }, eP 11, eT 12, { on := 13, ground := (Ground.textOnly Departure.lateStoresUnsure) }]) opFieldAddr_nat, none⟩,
 ⟨.m (opStore none 22 (.tmp 49) (.tmp 41) 1 sz22 0 "heap.go:59" #[eD 15, eD 7, eP 0, eT 1, eP 2, eP 3, eP 4, eP 5, eP 6, eP 7, eT 8, { on := 9, ground := (Ground.textOnly Departure.lateStoresUnsure) }, { on := 10, ground := (Ground.textOnly Departure.lateStoresUnsure) }, eP 11, eT 12, { on := 13, ground := (Ground.textOnly Departure.lateStoresUnsure) }]), none⟩,
 ⟨.p (opNilCheck (some 50) (.tmp 35) 0 "heap.go:59" #[eD 1, eP 0, eP 1, eP 2, eP 3, eP 4, eP 5, eP 6, eP 7, eP 8, eP 9, eP 10, eP 11, eP 12, eP 13, eP 14, eP 15, eP 16]), none⟩,
 ⟨.pn (opFieldAddr (some 51) 67 (.tmp 50) 1 1 1 false fl67_1 (by decide) 0 "heap.go:59" #[eD 17, eP 0, eP 1, eP 2, eP 3, eP 4, eP 5, eP 6, eP 7, eP 8, eP 9, eP 10, eP 11, eP 12, eP 13, eP 14, eP 15, eP 16]) opFieldAddr_nat, none⟩,
 ⟨.m (opStore none 23 (.tmp 51) (.tmp 47) 1 sz23 0 "heap.go:59" #[eD 18, eD 13, eC 16, eP 0, eP 1, eP 2, eP 3, eP 4, eP 5, eP 6, eP 7, eP 8, eP 9, eP 10, eP 11, eP 12, eP 13, eP 14, eP 15, eP 16]), none⟩
 ] mixed (by kernel_rfl)))
 (.seq (.live [2] (.region 6 [
 ⟨(opMove (some 52) (.tmp 4) 4 "heap.go:60" #[]).op, none⟩,
 ⟨(opAssign (some 2) (.tmp 52) 4 "heap.go:60" #[eD 0, eP 0]).op, none⟩
 ] (by kernel_rfl)))
 (.live [2] .ret))))
noncomputable def f54_b : Sim Try.prog :=
 (.seq (.live [0] (.region 0 [
 ⟨(opAssign (some 2) (.const (Value.bool false)) 4 "heap.go:53" #[]).op, none⟩
 ] (by kernel_rfl)))
 (.seq (.live [0, 3] (.region 1 [
 ⟨(opMove (some 5) (.tmp 0) 26 "heap.go:54" #[]).op, none⟩,
 ⟨(opNilCheck (some 6) (.tmp 5) 0 "heap.go:54" #[eD 0]).op, none⟩,
 ⟨(opFieldAddr (some 7) 67 (.tmp 6) 0 0 1 false fl67_0 (by decide) 0 "heap.go:54" #[eD 1]).op, none⟩,
 ⟨(opLoadT (.one .any) (some 8) 22 (.tmp 7) (.slice 34) Try.underlying22 1 sz22 (by kernel_rfl) 22 "heap.go:54" #[eD 2]).op, none⟩,
 ⟨(opLen (some 9) (.tmp 8) 22 (.slice 34) Try.underlying22 3 "heap.go:54" #[eD 3]).op, none⟩,
 ⟨(opAssign (some 3) (.tmp 9) 3 "heap.go:54" #[eD 4, eP 0, eP 1, eP 2, eP 3, eP 4]).op, none⟩
 ] (by kernel_rfl)))
 (.seq (.block 0 (.loop [0, 3] f54_l0))
 f54_r0)))
noncomputable def f54 : Fun Try.prog where
 id := 54
 fn := Try.f54
 hf := Try.func54
 hname := by kernel_rfl
 body := f54_b
 hbody := by kernel_rfl
 res := [rTmp 2]
 hres := by kernel_rfl
 n := 53
 hn := by kernel_rfl
theorem new_hrun (F : Nat) :
 (f11.run F [] ⟨[], []⟩ : Ans) =
 some
 (Fin.ret (AV.ptr 0 0), St.mk [Ob.cells [AV.nilsl, AV.nilsl], Ob.nov 0, Ob.nov 0] []) := by kernel_rfl
theorem grow_nil (F : Nat) (l : List (List AV)) :
 (f53.run F [.ptr 0 0, .ns false 1 l] ⟨[.cells [.nilsl, .nilsl], .nov 0, .nov 0], []⟩ : Ans) =
 branch (.bool (apOk 1 24))
 (branch (.bool (byOk l))
 (branch (.bool (apOk 1 8))
 (some
 (Fin.ret (AV.tup []),
 St.mk
 [Ob.cells [AV.vs 1 1 1 1, AV.vs 2 1 1 1],
 Ob.vec 1 (catC [] 0 [[AV.ns false 1 l]]),
 Ob.vec 1 (catC [] 0 [[.int .i64 (roomP (nR l))]])]
 []))
 none)
 none)
 none := by kernel_rfl
theorem grow_vs (F v n : Nat) (pc rc : List AV) (l : List (List AV)) :
 (f53.run F [.ptr 0 0, .ns false 1 l] ⟨[.cells [.vs 1 v 1 n, .vs 2 v 1 n], .vec v pc, .vec v rc], []⟩ : Ans) =
 branch (.bool (v.beq v && (inC pc 0 (mulN n 1) && apOk (n + 1) 24)))
 (branch (.bool (byOk l))
 (branch (.bool (v.beq v && (inC rc 0 (mulN n 1) && apOk (n + 1) 8)))
 (some
 (Fin.ret (AV.tup []),
 St.mk
 [Ob.cells
 [AV.vs 1 (v + 1) 1 (n + 1),
 AV.vs 2 (v + 1) 1 (n + 1)],
 Ob.vec (v + 1) (catC pc (mulN n 1) [[AV.ns false 1 l]]),
 Ob.vec (v + 1) (catC rc (mulN n 1) [[.int .i64 (roomP (nR l))]])]
 []))
 none)
 none)
 none := by kernel_rfl
theorem htrim_run (F v n : Nat) (pc rc : List AV) :
 (f54.run F [.ptr 0 0] ⟨[.cells [.vs 1 v 1 n, .vs 2 v 1 n], .vec v pc, .vec v rc], []⟩ : Ans) =
 loopRun (f54_l0.run F) [0, 3]
 (Cont.block 0 (Cont.then (f54_r0.run F (f54.leaveK Fun.done)) (f54.leaveK Fun.done))) F
 (Env.mk 53 [(0, AV.ptr 0 0), (3, .int .i64 (↑n : Int))])
 (St.mk [Ob.cells [AV.vs 1 v 1 n, AV.vs 2 v 1 n], Ob.vec v pc, Ob.vec v rc] []) := by kernel_rfl
theorem htrim_nil (F : Nat) :
 (f54.run F.succ [.ptr 0 0] ⟨[.cells [.nilsl, .nilsl], .nov 0, .nov 0], []⟩ : Ans) =
 some (Fin.ret (.bool false), St.mk [Ob.cells [AV.nilsl, AV.nilsl], Ob.nov 0, Ob.nov 0] []) := by kernel_rfl
theorem htrim_round (F m : Nat) (K : Cont) (v n : Nat) (pc rc : List AV) (i : Int) :
 (loopRun (f54_l0.run F) [0, 3] K m.succ (Env.mk 53 [(0, .ptr 0 0), (3, .int .i64 i)]) ⟨[.cells [.vs 1 v 1 n, .vs 2 v 1 n], .vec v pc, .vec v rc], []⟩ : Ans) =
 branch (.bool (decide (i > 0)))
 (if (0 : Int) ≤ IntKind.i64.wrap (i - 1) ∧ IntKind.i64.wrap (i - 1) < (↑n : Int) then
 branch (.bool (v.beq v))
 (branch
 (.bool ((LD.one (LT.ns 1)).is (List.drop ((IntKind.i64.wrap (i - 1)).toNat * 1) pc)))
 (branch (.bool (byOk (rwA (List.drop ((IntKind.i64.wrap (i - 1)).toNat * 1) pc))))
 (branch
 (AV.bool
 ((↑(slotsA (nR (rwA (List.drop ((IntKind.i64.wrap (i - 1)).toNat * 1) pc)))).length :
 Int) ==
 (0 : Int)))
 (loopRun (f54_l0.run F) [0, 3] K m
 (Env.mk 53
 [(0, AV.ptr 0 0),
 (3, .int .i64 (IntKind.i64.wrap (i - 1)))])
 (St.mk [Ob.cells [AV.vs 1 v 1 n, AV.vs 2 v 1 n], Ob.vec v pc, Ob.vec v rc]
 []))
 (K (AX.exit 0)
 (Env.mk 53 [(0, AV.ptr 0 0), (3, .int .i64 i)])
 (St.mk [Ob.cells [AV.vs 1 v 1 n, AV.vs 2 v 1 n], Ob.vec v pc, Ob.vec v rc]
 [])))
 none)
 none)
 none
 else none)
 (K (AX.exit 0)
 (Env.mk 53 [(0, AV.ptr 0 0), (3, .int .i64 i)])
 (St.mk [Ob.cells [AV.vs 1 v 1 n, AV.vs 2 v 1 n], Ob.vec v pc, Ob.vec v rc] [])) := by kernel_rfl
theorem htrim_out (F v n : Nat) (pc rc : List AV) (i : Int) :
 ((Cont.block 0 (Cont.then (f54_r0.run F (f54.leaveK Fun.done)) (f54.leaveK Fun.done))) (.exit 0) (Env.mk 53 [(0, .ptr 0 0), (3, .int .i64 i)]) ⟨[.cells [.vs 1 v 1 n, .vs 2 v 1 n], .vec v pc, .vec v rc], []⟩ : Ans) =
 if (0 : Int) ≤ i ∧ i ≤ (↑n : Int) then
 if (0 : Int) ≤ i ∧ i ≤ (↑n : Int) then
 some
 (Fin.ret (.bool (decide (i < (↑n : Int)))),
 St.mk
 [Ob.cells [AV.vs 1 v 1 i.toNat, AV.vs 2 v 1 i.toNat], Ob.vec v pc,
 Ob.vec v rc]
 [])
 else none
 else none := by kernel_rfl
structure Hp where
 v : Nat
 ps : List (List Nat)
 n : Nat
def pC (ps : List (List Nat)) : List AV := ps.map fun b => AV.ns false 1 (bR b)
noncomputable def rmC (ps : List (List Nat)) : List AV := ps.map fun b => AV.int .i64 (roomP b)
def PgB (b : List Nat) : Prop := Pg b ∧ (ofS b).length ≤ 251
theorem pC_length (ps : List (List Nat)) : (pC ps).length = ps.length := by simp [pC]
theorem rmC_length (ps : List (List Nat)) : (rmC ps).length = ps.length := by simp [rmC]
theorem byOk_Pg {b : List Nat} (h : PgB b) : byOk (bR b) = true := byOk_bR h.1.1 (by rw [h.1.2.1]; omega)
noncomputable def Hp.obs (X : Hp) : List Ob :=
 match X.v with
 | 0 => [.cells [.nilsl, .nilsl], .nov 0, .nov 0]
 | v + 1 => [.cells [.vs 1 (v + 1) 1 X.n, .vs 2 (v + 1) 1 X.n], .vec (v + 1) (pC X.ps), .vec (v + 1) (rmC X.ps)]
structure Hp.Ok (X : Hp) : Prop where
 z : X.v = 0 → X.ps = [] ∧ X.n = 0
 n : X.n ≤ X.ps.length
 m : X.ps.length ≤ 300
 pg : ∀ b ∈ X.ps, PgB b
theorem bR_inj : ∀ {a b : List Nat}, bR a = bR b → a = b
 | [], [], _ => rfl
 | [], _ :: _, h => by simp [bR] at h
 | _ :: _, [], h => by simp [bR] at h
 | x :: a, y :: b, h => by
  simp only [bR, List.map_cons, List.cons.injEq, AV.int.injEq, true_and, and_true] at h
  obtain ⟨h1, h2⟩ := h
  rw [bR_inj (a := a) (b := b) h2, Int.ofNat.inj h1]
theorem pC_inj : ∀ {a b : List (List Nat)}, pC a = pC b → a = b
 | [], [], _ => rfl
 | [], _ :: _, h => by simp [pC] at h
 | _ :: _, [], h => by simp [pC] at h
 | x :: a, y :: b, h => by
  simp only [pC, List.map_cons, List.cons.injEq, AV.ns.injEq, true_and] at h
  rw [bR_inj h.1, pC_inj (a := a) (b := b) h.2]
theorem pC_near (n : Nat) : ∀ ps : List (List Nat), NearL n (pC ps)
 | [] => trivial
 | b :: ps => ⟨bR_scoped b, pC_near n ps⟩
theorem rmC_near (n : Nat) : ∀ ps : List (List Nat), NearL n (rmC ps)
 | [] => trivial
 | b :: ps => ⟨trivial, rmC_near n ps⟩
noncomputable def hpA : ADT Hp where
 m := 3
 p := 0
 hp := by decide
 obs := Hp.obs
 Ok := Hp.Ok
 len X := by unfold Hp.obs; split <;> rfl
 near X h o ho := by
  unfold Hp.obs at ho
  split at ho
  ·simp at ho
   rcases ho with rfl | rfl
   ·exact ⟨trivial, trivial, trivial⟩
   ·trivial
  ·simp at ho
   rcases ho with rfl | rfl | rfl
   ·exact ⟨by show 1 < 3; omega, by show 2 < 3; omega, trivial⟩
   ·exact pC_near _ _
   ·exact rmC_near _ _
 inj X Y hX hY h := by
  obtain ⟨v, ps, n⟩ := X
  obtain ⟨v', ps', n'⟩ := Y
  unfold Hp.obs at h
  cases v with
  | zero =>
   cases v' with
   | zero =>
    obtain ⟨a1, a2⟩ := hX.z rfl
    obtain ⟨b1, b2⟩ := hY.z rfl
    simp only at a1 a2 b1 b2
    rw [a1, a2, b1, b2]
   | succ v' => simp at h
  | succ v =>
   cases v' with
   | zero => simp at h
   | succ v' =>
    simp only [List.cons.injEq, Ob.cells.injEq, AV.vs.injEq, true_and, and_true, Ob.vec.injEq] at h
    obtain ⟨⟨⟨h1, h2⟩, _⟩, ⟨_, h3⟩, _⟩ := h
    rw [Nat.succ.inj h1, h2, pC_inj h3]
def Hp.pg_ (X : Hp) : List (List Nat) := X.ps.take X.n
def Hp.grow (X : Hp) (p : List Nat) : Hp := ⟨X.v + 1, X.ps.take X.n ++ [p], X.n + 1⟩
theorem Hp.Ok.grow {X : Hp} (h : X.Ok) {p : List Nat} (hp : PgB p) (hn : X.n < 300) : (X.grow p).Ok where
 z e := by cases e
 n := by have := h.n; simp only [Hp.grow, List.length_append, List.length_take, List.length_singleton]; omega
 m := by have := h.n; simp only [Hp.grow, List.length_append, List.length_take, List.length_singleton]; omega
 pg b hb := by
  simp only [Hp.grow, List.mem_append, List.mem_singleton] at hb
  rcases hb with hb | rfl
  ·exact h.pg b (List.mem_of_mem_take hb)
  ·exact hp
theorem Hp.grow_pg {X : Hp} (h : X.Ok) (p : List Nat) : (X.grow p).pg_ = X.pg_ ++ [p] := by
 have := h.n
 simp only [Hp.grow, Hp.pg_]
 rw [List.take_of_length_le (by simp; omega)]
theorem grow_at {X : Hp} (h : X.Ok) {p : List Nat} (hp : PgB p) (hn : X.n < 300) (F : Nat) : f53.run F [.ptr 0 0, .ns false 1 (bR p)] ⟨X.obs, []⟩ = some (.ret (.tup []), ⟨(X.grow p).obs ++ [], []⟩) := by
 have hby := byOk_Pg hp
 rw [List.append_nil]
 obtain ⟨v, ps, n⟩ := X
 have hnn := h.n
 simp only at hn hnn
 cases v with
 | zero =>
  obtain ⟨rfl, rfl⟩ := h.z rfl
  show f53.run F [.ptr 0 0, .ns false 1 (bR p)] ⟨[.cells [.nilsl, .nilsl], .nov 0, .nov 0], []⟩ = _
  rw [grow_nil, branch_of (by rw [apOk_iff]; decide), branch_of hby, branch_of (by rw [apOk_iff]; decide), catC_nil, catC_nil, nR_bR]
  rfl
 | succ v =>
  have e1 : catC (pC ps) (mulN n 1) [[AV.ns false 1 (bR p)]] = pC (ps.take n ++ [p]) := by
   rw [catC, opq_eq, mulN, opq_eq, Nat.mul_one]; simp [pC]
  have e2 : catC (rmC ps) (mulN n 1) [[AV.int .i64 (roomP (nR (bR p)))]] = rmC (ps.take n ++ [p]) := by
   rw [catC, opq_eq, mulN, opq_eq, Nat.mul_one, nR_bR]; simp [rmC]
  show f53.run F [.ptr 0 0, .ns false 1 (bR p)] ⟨[.cells [.vs 1 (v + 1) 1 n, .vs 2 (v + 1) 1 n], .vec (v + 1) (pC ps), .vec (v + 1) (rmC ps)], []⟩ = _
  have i1 : inC (pC ps) 0 (mulN n 1) = true := inC_one (by rw [pC_length]; exact hnn)
  have i2 : inC (rmC ps) 0 (mulN n 1) = true := inC_one (by rw [rmC_length]; exact hnn)
  have a1 : apOk (n + 1) 24 = true := by rw [apOk_iff]; omega
  have a2 : apOk (n + 1) 8 = true := by rw [apOk_iff]; omega
  rw [grow_vs, branch_of (by rw [Nat.beq_refl, i1, a1]; rfl), branch_of hby, branch_of (by rw [Nat.beq_refl, i2, a2]; rfl), e1, e2]
  rfl
def slN (b : List Nat) : Nat := (slotsI (ofS b) 0).length
def trH (ps : List (List Nat)) : Nat → Nat
 | 0 => 0
 | n + 1 => if slN (ps.getD n []) = 0 then trH ps n else n + 1
theorem trH_le (ps : List (List Nat)) : ∀ n, trH ps n ≤ n
 | 0 => Nat.le_refl _
 | n + 1 => by
  rw [trH]
  split
  ·exact Nat.le_succ_of_le (trH_le ps n)
  ·exact Nat.le_refl _
def Hp.trim (X : Hp) : Hp := ⟨X.v, X.ps, trH X.ps X.n⟩
theorem Hp.Ok.trim {X : Hp} (h : X.Ok) : X.trim.Ok where
 z e := by obtain ⟨h1, h2⟩ := h.z e; exact ⟨h1, by show trH X.ps X.n = 0; rw [h2]; rfl⟩
 n := Nat.le_trans (trH_le _ _) h.n
 m := h.m
 pg := h.pg
theorem slotsA_len (b : List Nat) : (slotsA b).length = slN b := by rw [slotsA, opq_eq, iR_length, slN]
theorem pC_at {ps : List (List Nat)} (h : ∀ b ∈ ps, PgB b) {i : Nat} (hi : i < ps.length) : (LD.one (LT.ns 1)).is (List.drop (i * 1) (pC ps)) = true ∧ rwA (List.drop (i * 1) (pC ps)) = bR ps[i] ∧ byOk (bR ps[i]) = true := by
 have hl : i < (pC ps).length := by rw [pC_length]; exact hi
 have e : (pC ps)[i] = .ns false 1 (bR ps[i]) := by simp [pC]
 rw [Nat.mul_one, is_at hl, rwA_at hl, e]
 exact ⟨rfl, rfl, byOk_Pg (h _ (List.getElem_mem hi))⟩
theorem htrim_loop {ps : List (List Nat)} (h : ∀ b ∈ ps, PgB b) (F v n : Nat) (hn : n ≤ ps.length) (hm : ps.length ≤ 300) : ∀ (i m : Nat), i ≤ n → i < m →
  loopRun (f54_l0.run F) [0, 3] (Cont.block 0 (Cont.then (f54_r0.run F (f54.leaveK Fun.done)) (f54.leaveK Fun.done))) m (Env.mk 53 [(0, .ptr 0 0), (3, .int .i64 (i : Int))]) ⟨[.cells [.vs 1 v 1 n, .vs 2 v 1 n], .vec v (pC ps), .vec v (rmC ps)], []⟩
   = some (.ret (.bool (decide (trH ps i < n))), ⟨[.cells [.vs 1 v 1 (trH ps i), .vs 2 v 1 (trH ps i)], .vec v (pC ps), .vec v (rmC ps)], []⟩)
 | i, 0, _, h => by omega
 | 0, m + 1, hi, _ => by
  rw [show m + 1 = m.succ from rfl, htrim_round, branch_not (by simp), htrim_out, if_pos ⟨by omega, by omega⟩, if_pos ⟨by omega, by omega⟩]
  rw [show decide (((0 : Nat) : Int) < (n : Int)) = decide (trH ps 0 < n) by rw [Bool.eq_iff_iff, decide_eq_true_eq, decide_eq_true_eq, trH]; omega]
  rfl
 | i + 1, m + 1, hi, hm' => by
  have hlt : i < ps.length := by omega
  obtain ⟨a1, a2, a3⟩ := pC_at h hlt
  have w : IntKind.i64.wrap (((i + 1 : Nat) : Int) - 1) = (i : Nat) := by rw [wrapS (by omega) (by omega)]; omega
  rw [show m + 1 = m.succ from rfl, htrim_round, branch_of (by simp), w, if_pos ⟨by omega, by omega⟩, branch_of (Nat.beq_refl _), Int.toNat_natCast, branch_of a1, a2, branch_of a3, nR_bR, slotsA_len]
  have e : ps.getD i [] = ps[i] := by rw [List.getD_eq_getElem?_getD, List.getElem?_eq_getElem hlt]; rfl
  by_cases h0 : slN ps[i] = 0
  ·rw [branch_of (by rw [h0]; rfl), trH, e, if_pos h0]
   exact htrim_loop h F v n hn hm i m (by omega) (by omega)
  ·rw [branch_not (by rw [beq_eq_false_iff_ne]; omega), htrim_out, if_pos ⟨by omega, by omega⟩, if_pos ⟨by omega, by omega⟩, trH, e, if_neg h0]
   rw [show decide (((i + 1 : Nat) : Int) < (n : Int)) = decide (i + 1 < n) by rw [Bool.eq_iff_iff, decide_eq_true_eq, decide_eq_true_eq]; omega]
   rfl
theorem trim_at {X : Hp} (h : X.Ok) : f54.run 1000 [.ptr 0 0] ⟨X.obs, []⟩ = some (.ret (.bool (decide (X.trim.n < X.n))), ⟨X.trim.obs ++ [], []⟩) := by
 rw [List.append_nil]
 obtain ⟨v, ps, n⟩ := X
 have hnn := h.n
 have hmm := h.m
 simp only at hnn hmm
 cases v with
 | zero =>
  obtain ⟨h1, h2⟩ := h.z rfl
  simp only at h1 h2
  subst h1; subst h2
  exact htrim_nil 999
 | succ v =>
  show f54.run 1000 [.ptr 0 0] ⟨[.cells [.vs 1 (v + 1) 1 n, .vs 2 (v + 1) 1 n], .vec (v + 1) (pC ps), .vec (v + 1) (rmC ps)], []⟩ = _
  rw [htrim_run]
  exact htrim_loop h.pg 1000 (v + 1) n hnn hmm n 1000 (Nat.le_refl _) (by omega)
theorem hp_obl {X : Hp} (h : X.Ok) : [hpA.ob 0 X 0, hpA.ob 0 X 1, hpA.ob 0 X 2] = X.obs := hpA.obl_zero (x := X) h
theorem hp_G {X : Hp} (h : X.Ok) : hpA.G 0 X.obs = some X := by
 have := hpA.G_obl (x := X) h 0
 rwa [ADT.obl_zero hpA h] at this
noncomputable def pgOkB (l : List (List AV)) : Bool := cdec (okR l = true ∧ PgB (nR l))
theorem pgOkB_iff {l : List (List AV)} : pgOkB l = true ↔ okR l = true ∧ PgB (nR l) := cdec_iff
theorem pgOkB_bR {b : List Nat} (h : PgB b) : pgOkB (bR b) = true := pgOkB_iff.mpr ⟨okR_bR h.1.1, by rw [nR_bR]; exact h⟩
theorem pgOkB_pg {l : List (List AV)} (h : pgOkB l = true) : PgB (nR l) ∧ l = bR (nR l) := by
 obtain ⟨h1, h2⟩ := pgOkB_iff.mp h
 exact ⟨h2, okR_rows h1⟩
noncomputable def s53 : OrcS Try.prog := f53.by'
 (fun args st k => match args with
  | [x, y] => hpA.on x st fun i X => onNs 1 y fun z l => ifT (!z && (pgOkB l && Nat.blt X.n 300)) (k (.ret (.tup [])) (hpA.pl st i (X.grow (nR l))))
  | _ => none)
 fun args st k fin h => by
  split at h
  ·rename_i x y
   obtain ⟨i, X, rfl, hd, h⟩ := ADT.on_spec h
   obtain ⟨z, l, h4, hy⟩ := onNs_spec h
   obtain ⟨h1, h5⟩ := ifT_spec h4
   clear h h4
   simp only [Bool.and_eq_true, Bool.not_eq_true'] at h1
   obtain ⟨rfl, h2, h3⟩ := h1
   obtain ⟨hp, hl⟩ := pgOkB_pg h2
   rw [Nat.blt_eq] at h3
   refine ⟨_, _, h5, ?_⟩
   have := ADT.placed (A := hpA) (f := f53) (x := X) (y := X.grow (nR l)) (args0 := [.ptr 0 0, .ns false 1 (bR (nR l))]) (r := .tup []) (xs := []) (grow_at hd.ok hp h3 0) (hd.ok.grow hp h3) ⟨by show 0 < 3; omega, bR_scoped _, trivial⟩ trivial hd
   rw [← hl] at this
   refine CallsTo.wk this fun g w vs ⟨v, vr, e, r1, v2, vr2, e2, r2, r3⟩ => ⟨v, vr, e, ?_, v2, vr2, e2, hy _ _ _ r2, r3⟩
   exact r1
  ·cases h
noncomputable def s54 : OrcS Try.prog := f54.by'
 (fun args st k => match args with
  | [x] => hpA.on x st fun i X => k (.ret (.bool (decide (X.trim.n < X.n)))) (hpA.pl st i X.trim)
  | _ => none)
 fun args st k fin h => by
  split at h
  ·rename_i x
   obtain ⟨i, X, rfl, hd, h⟩ := ADT.on_spec h
   exact ⟨_, _, h, ADT.placed (A := hpA) (f := f54) (x := X) (y := X.trim) (args0 := [.ptr 0 0]) (r := .bool _) (xs := []) (trim_at hd.ok) hd.ok.trim ⟨by show 0 < 3; omega, trivial⟩ trivial hd⟩
  ·cases h
def hp0 : Hp := ⟨0, [], 0⟩
theorem hp0_ok : hp0.Ok := ⟨fun _ => ⟨rfl, rfl⟩, Nat.le_refl _, by show 0 ≤ 300; omega, fun _ h => by cases h⟩
noncomputable def s11 : OrcS Try.prog := f11.by'
 (fun args st k => match args with
  | [] => k (.ret (.ptr st.objs.length 0)) (hpA.add st hp0)
  | _ => none)
 fun args st k fin h => by
  split at h
  ·exact ⟨_, _, h, ADT.fresh (A := hpA) (f := f11) (x := hp0) (args0 := []) (r := .ptr 0 0) (xs := []) (new_hrun 0) hp0_ok trivial (by show 0 < 3; omega) st⟩
  ·cases h
theorem fl30_0 : fieldB Try.prog 30 0 0 1 false = true := by kernel_rfl
theorem fl30_1 : fieldB Try.prog 30 1 1 1 false = true := by kernel_rfl
noncomputable def f36_l0 : Sim Try.prog :=
 (.seq (.seq (.live [0, 1, 2, 12] (.region 0 [
 ⟨(opMove (some 6) (.tmp 0) 26 "heap.go:65" #[]).op, none⟩,
 ⟨(opNilCheck (some 7) (.tmp 6) 0 "heap.go:65" #[eD 0]).op, none⟩,
 ⟨(opFieldAddr (some 8) 67 (.tmp 7) 0 0 1 false fl67_0 (by decide) 0 "heap.go:65" #[eD 1]).op, none⟩,
 ⟨(opLoadT (.one .any) (some 9) 22 (.tmp 8) (.slice 34) Try.underlying22 1 sz22 (by kernel_rfl) 22 "heap.go:65" #[eD 2]).op, none⟩,
 ⟨(opLen (some 10) (.tmp 9) 22 (.slice 34) Try.underlying22 3 "heap.go:65" #[eD 3]).op, none⟩,
 ⟨(opMove (some 11) (.tmp 1) 3 "heap.go:65" #[]).op, none⟩,
 ⟨(opBin (some 12) .leq 3 (.tmp 10) (.tmp 11) 3 4 "heap.go:65" #[eD 4, eD 5]).op, none⟩
 ] (by kernel_rfl)))
 (.cond (.tmp 12)
 .skip
 (.live [0, 1, 2] (.exit 0))))
 (.block 1 (.live [0, 1, 2] (.region 1 [
 ⟨(opMove (some 13) (.tmp 0) 26 "heap.go:66" #[]).op, none⟩,
 ⟨(opCallP p70 (some 14) [] #[] 34 "heap.go:66" #[]).op, none⟩,
 ⟨opCall (s53).orc (some 15) [(.tmp 13), (.tmp 14)] #[26, 34] 0 "heap.go:66" #[eD 0, eD 1, eC 1], none⟩
 ] (by kernel_rfl)))))
noncomputable def f36_r0 : Sim Try.prog :=
 (.seq (.live [0] (.draw 2 [
 ⟨.p (opMove (some 16) (.tmp 0) 26 "heap.go:68" #[]), none⟩,
 ⟨.p (opNilCheck (some 17) (.tmp 16) 0 "heap.go:68" #[eD 0]), none⟩,
 ⟨.pn (opFieldAddr (some 18) 67 (.tmp 17) 0 0 1 false fl67_0 (by decide) 0 "heap.go:68" #[eD 1]) opFieldAddr_nat, none⟩,
 ⟨.qn (opLoadT (.one .any) (some 19) 22 (.tmp 18) (.slice 34) Try.underlying22 1 sz22 (by kernel_rfl) 22 "heap.go:68" #[eD 2]) opLoadT_nat, none⟩,
 ⟨.p (opMove (some 20) (.tmp 1) 3 "heap.go:68" #[]), none⟩,
 ⟨.p (opMove (some 21) (.tmp 0) 26 "heap.go:68" #[]), none⟩,
 ⟨.p (opNilCheck (some 22) (.tmp 21) 0 "heap.go:68" #[eD 5]), none⟩,
 ⟨.pn (opFieldAddr (some 23) 67 (.tmp 22) 1 1 1 false fl67_1 (by decide) 0 "heap.go:68" #[eD 6]) opFieldAddr_nat, none⟩,
 ⟨.qn (opLoadT (.one .any) (some 24) 23 (.tmp 23) (.slice 3) Try.underlying23 1 sz23 (by kernel_rfl) 23 "heap.go:68" #[eD 7]) opLoadT_nat, none⟩,
 ⟨.p (opMove (some 25) (.tmp 1) 3 "heap.go:68" #[eX 14]), none⟩,
 ⟨.p (opMove (some 26) (.tmp 2) 34 "heap.go:68" #[]), none⟩,
 ⟨.p (opMove (some 27) (.tmp 2) 34 "heap.go:68" #[]), none⟩,
 ⟨.pn (opCallP p19 (some 28) [(.tmp 27)] #[34] 3 "heap.go:68" #[eD 11]) (opCallP_nat p19_nat), none⟩,
 ⟨.pn (opIndexAddrT (some 29) 22 (.tmp 19) (.tmp 20) 34 1 Try.underlying22 sz34 0 "heap.go:68" #[eD 3, eD 4, eP 0, eP 1, eP 2, eP 3, eP 4, eT 5, { on := 6, ground := (Ground.textOnly Departure.lateStoresUnsure) }, { on := 7, ground := (Ground.textOnly Departure.lateStoresUnsure) }, eP 8, eT 9, eP 10, eT 11, eP 12]) opIndexAddrT_nat, none⟩,
 ⟨.mn (opStoreC none 34 (.tmp 29) (.tmp 26) 1 sz34 0 "heap.go:68" #[eD 13, eD 10, eC 12, eP 0, eP 1, eP 2, eP 3, eP 4, eT 5, { on := 6, ground := (Ground.textOnly Departure.lateStoresUnsure) }, { on := 7, ground := (Ground.textOnly Departure.lateStoresUnsure) }, eP 8, eT 9, eP 10, eT 11, eP 12]) opStoreC_nat, none⟩,
 ⟨.pn (opIndexAddrT (some 30) 23 (.tmp 24) (.tmp 25) 3 1 Try.underlying23 sz3 0 "heap.go:68" #[eD 8, eD 9, eP 0, eP 1, eP 2, eP 3, eP 4, eP 5, eP 6, eP 7, eP 8, eP 9, eP 10, eP 11, eP 12, eP 13, eP 14]) opIndexAddrT_nat, none⟩,
 ⟨.mn (opStoreC none 3 (.tmp 30) (.tmp 28) 1 sz3 0 "heap.go:68" #[eD 15, eD 12, eC 14, eP 0, eP 1, eP 2, eP 3, eP 4, eP 5, eP 6, eP 7, eP 8, eP 9, eP 10, eP 11, eP 12, eP 13, eP 14]) opStoreC_nat, none⟩
 ] mixed (by kernel_rfl)))
 (.live [] (.region 3 [
 ⟨(opMove (some 31) (.tmp 0) 26 "heap.go:69" #[]).op, none⟩,
 ⟨opCall (s54).orc (some 32) [(.tmp 31)] #[26] 4 "heap.go:69" #[eD 0], none⟩
 ] (by kernel_rfl))))
noncomputable def f36_b : Sim Try.prog :=
 (.seq (.block 0 (.loop [0, 1, 2] f36_l0))
 f36_r0)
noncomputable def f36 : Fun Try.prog where
 id := 36
 fn := Try.f36
 hf := Try.func36
 hname := by kernel_rfl
 body := f36_b
 hbody := by kernel_rfl
 res := []
 hres := by kernel_rfl
 n := 33
 hn := by kernel_rfl
noncomputable def f35_b : Sim Try.prog :=
 (.seq (.live [0, 1] (.region 0 [
 ⟨(opAssign (some 4) (.const (Value.slice none 0 0)) 34 "heap.go:73" #[]).op, none⟩
 ] (by kernel_rfl)))
 (.seq (.seq (.live [0, 1, 11] (.region 1 [
 ⟨(opMove (some 5) (.tmp 1) 3 "heap.go:74" #[]).op, none⟩,
 ⟨(opMove (some 6) (.tmp 0) 26 "heap.go:74" #[]).op, none⟩,
 ⟨(opNilCheck (some 7) (.tmp 6) 0 "heap.go:74" #[eD 1]).op, none⟩,
 ⟨(opFieldAddr (some 8) 67 (.tmp 7) 0 0 1 false fl67_0 (by decide) 0 "heap.go:74" #[eD 2]).op, none⟩,
 ⟨(opLoadT (.one .any) (some 9) 22 (.tmp 8) (.slice 34) Try.underlying22 1 sz22 (by kernel_rfl) 22 "heap.go:74" #[eD 3]).op, none⟩,
 ⟨(opLen (some 10) (.tmp 9) 22 (.slice 34) Try.underlying22 3 "heap.go:74" #[eD 4]).op, none⟩,
 ⟨(opBin (some 11) .lss 3 (.tmp 5) (.tmp 10) 3 4 "heap.go:74" #[eD 0, eD 5]).op, none⟩
 ] (by kernel_rfl)))
 (.cond (.tmp 11)
 (.seq (.live [4] (.region 2 [
 ⟨(opMove (some 12) (.tmp 0) 26 "heap.go:75" #[]).op, none⟩,
 ⟨(opNilCheck (some 13) (.tmp 12) 0 "heap.go:75" #[eD 0]).op, none⟩,
 ⟨(opFieldAddr (some 14) 67 (.tmp 13) 0 0 1 false fl67_0 (by decide) 0 "heap.go:75" #[eD 1]).op, none⟩,
 ⟨(opLoadT (.one .any) (some 15) 22 (.tmp 14) (.slice 34) Try.underlying22 1 sz22 (by kernel_rfl) 22 "heap.go:75" #[eD 2]).op, none⟩,
 ⟨(opMove (some 16) (.tmp 1) 3 "heap.go:75" #[]).op, none⟩,
 ⟨(opIndexAddrT (some 17) 22 (.tmp 15) (.tmp 16) 34 1 Try.underlying22 sz34 0 "heap.go:75" #[eD 3, eD 4]).op, none⟩,
 ⟨(opLoadT (.one (.ns 1)) (some 18) 34 (.tmp 17) (.slice 5) Try.underlying34 1 sz34 (by kernel_rfl) 34 "heap.go:75" #[eD 5]).op, none⟩,
 ⟨(opAssign (some 4) (.tmp 18) 34 "heap.go:75" #[eD 6, eP 0, eP 1, eP 2, eP 3, eP 4, eP 5, eP 6]).op, none⟩
 ] (by kernel_rfl)))
 (.live [4] .ret))
 .skip))
 (.seq (.live [4] (.region 3 [
 ⟨(opCallP p70 (some 19) [] #[] 34 "heap.go:77" #[]).op, none⟩,
 ⟨(opAssign (some 4) (.tmp 19) 34 "heap.go:77" #[eD 0, eC 0, eP 0]).op, none⟩
 ] (by kernel_rfl)))
 (.live [4] .ret))))
noncomputable def f35 : Fun Try.prog where
 id := 35
 fn := Try.f35
 hf := Try.func35
 hname := by kernel_rfl
 body := f35_b
 hbody := by kernel_rfl
 res := [rTmp 4]
 hres := by kernel_rfl
 n := 20
 hn := by kernel_rfl
noncomputable def f14_b : Sim Try.prog :=
 (.seq (.live [0, 3] (.region 0 [
 ⟨(opBoxF (some 3) 30 (.tmp 1) 0 "heap.go:98" #[]).op, none⟩,
 ⟨(opAssign (some 4) (.const (Value.slice none 0 0)) 34 "heap.go:98" #[]).op, none⟩,
 ⟨(opAssign (some 5) (.const (Value.bool false)) 4 "heap.go:98" #[eC 1]).op, none⟩
 ] (by kernel_rfl)))
 (.seq (.seq (.live [0, 3, 18] (.draw 1 [
 ⟨.pn (opFieldAddr (some 6) 30 (.tmp 3) 0 0 1 false fl30_0 (by decide) 0 "heap.go:99" #[]) opFieldAddr_nat, none⟩,
 ⟨.qn (opLoadT (.one (.int .i64)) (some 7) 3 (.tmp 6) (.int .i64) Try.underlying3 1 sz3 (by kernel_rfl) 3 "heap.go:99" #[eD 0]) opLoadT_nat, none⟩,
 ⟨.pn (opBin (some 8) .lss 3 (.tmp 7) (.const (Value.int IntKind.i64 0)) 3 4 "heap.go:99" #[eD 1]) opBin_nat, none⟩,
 ⟨.p (opMove (some 9) (.tmp 8) 4 "heap.go:99" #[eD 2]), none⟩,
 ⟨.pn (opFieldAddr (some 10) 30 (.tmp 3) 0 0 1 false fl30_0 (by decide) 0 "heap.go:99" #[eG 3]) opFieldAddr_nat, (some (3, 9, false))⟩,
 ⟨.qn (opLoadT (.one (.int .i64)) (some 11) 3 (.tmp 10) (.int .i64) Try.underlying3 1 sz3 (by kernel_rfl) 3 "heap.go:99" #[eD 4, eG 3]) opLoadT_nat, (some (3, 9, false))⟩,
 ⟨.p (opMove (some 12) (.tmp 0) 26 "heap.go:99" #[eG 3]), (some (3, 9, false))⟩,
 ⟨.p (opNilCheck (some 13) (.tmp 12) 0 "heap.go:99" #[eD 6, eG 3]), (some (3, 9, false))⟩,
 ⟨.pn (opFieldAddr (some 14) 67 (.tmp 13) 0 0 1 false fl67_0 (by decide) 0 "heap.go:99" #[eD 7, eG 3]) opFieldAddr_nat, (some (3, 9, false))⟩,
 ⟨.qn (opLoadT (.one .any) (some 15) 22 (.tmp 14) (.slice 34) Try.underlying22 1 sz22 (by kernel_rfl) 22 "heap.go:99" #[eD 8, eG 3]) opLoadT_nat, (some (3, 9, false))⟩,
 ⟨.p (opLen (some 16) (.tmp 15) 22 (.slice 34) Try.underlying22 3 "heap.go:99" #[eD 9, eG 3]), (some (3, 9, false))⟩,
 ⟨.pn (opBin (some 17) .geq 3 (.tmp 11) (.tmp 16) 3 4 "heap.go:99" #[eD 5, eD 10, eG 3]) opBin_nat, (some (3, 9, false))⟩,
 ⟨.p (opPick (some 18) (.tmp 9) (.const (Value.bool true)) (.tmp 17) 4 "heap.go:99" #[eD 3, eD 11]), none⟩
 ] mixed (by kernel_rfl)))
 (.cond (.tmp 18)
 (.seq (.live [4, 5] (.region 2 [
 ⟨(opAssign (some 4) (.const (Value.slice none 0 0)) 34 "heap.go:100" #[]).op, none⟩,
 ⟨(opAssign (some 5) (.const (Value.bool false)) 4 "heap.go:100" #[eC 0, eP 0]).op, none⟩
 ] (by kernel_rfl)))
 (.live [4, 5] .ret))
 .skip))
 (.seq (.live [4, 5] (.draw 3 [
 ⟨.p (opMove (some 19) (.tmp 0) 26 "heap.go:102" #[]), none⟩,
 ⟨.p (opNilCheck (some 20) (.tmp 19) 0 "heap.go:102" #[eD 0]), none⟩,
 ⟨.pn (opFieldAddr (some 21) 67 (.tmp 20) 0 0 1 false fl67_0 (by decide) 0 "heap.go:102" #[eD 1]) opFieldAddr_nat, none⟩,
 ⟨.qn (opLoadT (.one .any) (some 22) 22 (.tmp 21) (.slice 34) Try.underlying22 1 sz22 (by kernel_rfl) 22 "heap.go:102" #[eD 2]) opLoadT_nat, none⟩,
 ⟨.pn (opFieldAddr (some 23) 30 (.tmp 3) 0 0 1 false fl30_0 (by decide) 0 "heap.go:102" #[]) opFieldAddr_nat, none⟩,
 ⟨.qn (opLoadT (.one (.int .i64)) (some 24) 3 (.tmp 23) (.int .i64) Try.underlying3 1 sz3 (by kernel_rfl) 3 "heap.go:102" #[eD 4]) opLoadT_nat, none⟩,
 ⟨.pn (opIndexAddrT (some 25) 22 (.tmp 22) (.tmp 24) 34 1 Try.underlying22 sz34 0 "heap.go:102" #[eD 3, eD 5]) opIndexAddrT_nat, none⟩,
 ⟨.qn (opLoadT (.one (.ns 1)) (some 26) 34 (.tmp 25) (.slice 5) Try.underlying34 1 sz34 (by kernel_rfl) 34 "heap.go:102" #[eD 6]) opLoadT_nat, none⟩,
 ⟨.pn (opFieldAddr (some 27) 30 (.tmp 3) 1 1 1 false fl30_1 (by decide) 0 "heap.go:102" #[]) opFieldAddr_nat, none⟩,
 ⟨.qn (opLoadT (.one (.int .i64)) (some 28) 3 (.tmp 27) (.int .i64) Try.underlying3 1 sz3 (by kernel_rfl) 3 "heap.go:102" #[eD 8]) opLoadT_nat, none⟩,
 ⟨.pn (opCallP p40 (some 29) [(.tmp 26), (.tmp 28)] #[34, 3] 37 "heap.go:102" #[eD 7, eD 9]) (opCallP_nat p40_nat), none⟩,
 ⟨.p (opExtract (some 30) (.tmp 29) 0 34 "heap.go:102" #[eD 10]), none⟩,
 ⟨.p (opExtract (some 31) (.tmp 29) 1 4 "heap.go:102" #[eD 10]), none⟩,
 ⟨.p (opAssign (some 4) (.tmp 30) 34 "heap.go:102" #[eD 11, eC 10, eP 0, eP 1, eP 2, eP 3, eP 4, eP 5, eP 6, eP 7, eP 8, eP 9, eP 10, eP 11, eP 12]), none⟩,
 ⟨.p (opAssign (some 5) (.tmp 31) 4 "heap.go:102" #[eD 12, eC 13, eP 0, eP 1, eP 2, eP 3, eP 4, eP 5, eP 6, eP 7, eP 8, eP 9, eP 10, eP 11, eP 12, eP 13]), none⟩
 ] mixed (by kernel_rfl)))
 (.live [4, 5] .ret))))
noncomputable def f14 : Fun Try.prog where
 id := 14
 fn := Try.f14
 hf := Try.func14
 hname := by kernel_rfl
 body := f14_b
 hbody := by kernel_rfl
 res := [rTmp 4, rTmp 5]
 hres := by kernel_rfl
 n := 32
 hn := by kernel_rfl
theorem set_run (F : Nat) (k : Int) (l : List (List AV)) (st : St) :
 (f36.run F [.ptr 0 0, .int .i64 k, .ns false 1 l] st : Ans) =
 loopRun (f36_l0.run F) [0, 1, 2]
 (Cont.block 0 (Cont.then (f36_r0.run F (f36.leaveK Fun.done)) (f36.leaveK Fun.done))) F
 (Env.mk 33
 [(0, AV.ptr 0 0), (1, .int .i64 k), (2, AV.ns false 1 l)])
 st := by kernel_rfl
theorem set_round (F m : Nat) (K : Cont) (v n : Nat) (pc rc : List AV) (k : Int) (l : List (List AV)) :
 (loopRun (f36_l0.run F) [0, 1, 2] K m.succ (Env.mk 33 [(0, .ptr 0 0), (1, .int .i64 k), (2, .ns false 1 l)]) ⟨[.cells [.vs 1 v 1 n, .vs 2 v 1 n], .vec v pc, .vec v rc], []⟩ : Ans) =
 branch (.bool (decide ((↑n : Int) ≤ k)))
 (onSome
 (hpA.G 0
 [Ob.cells [AV.vs 1 v 1 n, AV.vs 2 v 1 n], Ob.vec v pc, Ob.vec v rc])
 none fun (o : Hp) =>
 branch (.bool (true && (pgOkB (bR zeroP) && o.n.blt 300)))
 (loopRun (f36_l0.run F) [0, 1, 2] K m
 (Env.mk 33
 [(0, AV.ptr 0 0), (1, .int .i64 k),
 (2, AV.ns false 1 l)])
 (St.mk
 [hpA.ob 0 (o.grow (nR (bR zeroP))) 0, hpA.ob 0 (o.grow (nR (bR zeroP))) 1,
 hpA.ob 0 (o.grow (nR (bR zeroP))) 2]
 []))
 none)
 (K (AX.exit 0)
 (Env.mk 33
 [(0, AV.ptr 0 0), (1, .int .i64 k),
 (2, AV.ns false 1 l)])
 (St.mk [Ob.cells [AV.vs 1 v 1 n, AV.vs 2 v 1 n], Ob.vec v pc, Ob.vec v rc] [])) := by kernel_rfl
theorem set_round0 (F m : Nat) (K : Cont) (k : Int) (l : List (List AV)) :
 (loopRun (f36_l0.run F) [0, 1, 2] K m.succ (Env.mk 33 [(0, .ptr 0 0), (1, .int .i64 k), (2, .ns false 1 l)]) ⟨[.cells [.nilsl, .nilsl], .nov 0, .nov 0], []⟩ : Ans) =
 branch (.bool (decide ((0 : Int) ≤ k)))
 (onSome (hpA.G 0 [Ob.cells [AV.nilsl, AV.nilsl], Ob.nov 0, Ob.nov 0]) none fun (o : Hp) =>
 branch (.bool (true && (pgOkB (bR zeroP) && o.n.blt 300)))
 (loopRun (f36_l0.run F) [0, 1, 2] K m
 (Env.mk 33
 [(0, AV.ptr 0 0), (1, .int .i64 k),
 (2, AV.ns false 1 l)])
 (St.mk
 [hpA.ob 0 (o.grow (nR (bR zeroP))) 0, hpA.ob 0 (o.grow (nR (bR zeroP))) 1,
 hpA.ob 0 (o.grow (nR (bR zeroP))) 2]
 []))
 none)
 (K (AX.exit 0)
 (Env.mk 33
 [(0, AV.ptr 0 0), (1, .int .i64 k),
 (2, AV.ns false 1 l)])
 (St.mk [Ob.cells [AV.nilsl, AV.nilsl], Ob.nov 0, Ob.nov 0] [])) := by kernel_rfl
theorem set_out (F v n : Nat) (pc rc : List AV) (k : Int) (l : List (List AV)) :
 ((Cont.block 0 (Cont.then (f36_r0.run F (f36.leaveK Fun.done)) (f36.leaveK Fun.done))) (.exit 0) (Env.mk 33 [(0, .ptr 0 0), (1, .int .i64 k), (2, .ns false 1 l)]) ⟨[.cells [.vs 1 v 1 n, .vs 2 v 1 n], .vec v pc, .vec v rc], []⟩ : Ans) =
 branch (.bool (byOk l))
 (if (0 : Int) ≤ k ∧ k < (↑n : Int) then
 branch (.bool (v.beq v && (true && inC pc (k.toNat * 1) 1)))
 (if (0 : Int) ≤ k ∧ k < (↑n : Int) then
 branch (.bool (v.beq v && (true && inC rc (k.toNat * 1) 1)))
 (onSome
 (hpA.G 0
 [Ob.cells [AV.vs 1 v 1 n, AV.vs 2 v 1 n],
 Ob.vec v (setC pc (k.toNat * 1) [AV.ns false 1 l]),
 Ob.vec v (setC rc (k.toNat * 1) [.int .i64 (roomP (nR l))])])
 none fun (o : Hp) =>
 some
 (Fin.ret (AV.tup []),
 St.mk
 [hpA.ob 0 o.trim 0, hpA.ob 0 o.trim 1,
 hpA.ob 0 o.trim 2]
 []))
 none
 else none)
 none
 else none)
 none := by kernel_rfl
theorem at_run (F v n : Nat) (pc rc : List AV) (k : Int) :
 (f35.run F [.ptr 0 0, .int .i64 k] ⟨[.cells [.vs 1 v 1 n, .vs 2 v 1 n], .vec v pc, .vec v rc], []⟩ : Ans) =
 branch (.bool (decide (k < (↑n : Int))))
 (if (0 : Int) ≤ k ∧ k < (↑n : Int) then
 branch (.bool (v.beq v))
 (branch (.bool ((LD.one (LT.ns 1)).is (List.drop (k.toNat * 1) pc)))
 (some
 (Fin.ret
 (AV.ns (nilA (List.drop (k.toNat * 1) pc)) 1 (rwA (List.drop (k.toNat * 1) pc))),
 St.mk [Ob.cells [AV.vs 1 v 1 n, AV.vs 2 v 1 n], Ob.vec v pc, Ob.vec v rc]
 []))
 none)
 none
 else none)
 (some
 (Fin.ret (AV.ns false 1 (bR zeroP)),
 St.mk [Ob.cells [AV.vs 1 v 1 n, AV.vs 2 v 1 n], Ob.vec v pc, Ob.vec v rc] [])) := by kernel_rfl
theorem at_nil (F : Nat) (k : Int) :
 (f35.run F [.ptr 0 0, .int .i64 k] ⟨[.cells [.nilsl, .nilsl], .nov 0, .nov 0], []⟩ : Ans) =
 branch (.bool (decide (k < 0))) none
 (some
 (Fin.ret (AV.ns false 1 (bR zeroP)),
 St.mk [Ob.cells [AV.nilsl, AV.nilsl], Ob.nov 0, Ob.nov 0] [])) := by kernel_rfl
theorem hget_run (F v n : Nat) (pc rc : List AV) (p s : Int) :
 (f14.run F [.ptr 0 0, .agg [.int .i64 p, .int .i64 s]] ⟨[.cells [.vs 1 v 1 n, .vs 2 v 1 n], .vec v pc, .vec v rc], []⟩ : Ans) =
 branch (.bool (decide (p < 0)))
 (some
 (Fin.ret (AV.tup [AV.nilsl, AV.bool false]),
 St.mk [Ob.cells [AV.vs 1 v 1 n, AV.vs 2 v 1 n], Ob.vec v pc, Ob.vec v rc] []))
 (branch (.bool (decide (p ≥ (↑n : Int))))
 (some
 (Fin.ret (AV.tup [AV.nilsl, AV.bool false]),
 St.mk [Ob.cells [AV.vs 1 v 1 n, AV.vs 2 v 1 n], Ob.vec v pc, Ob.vec v rc] []))
 (if (0 : Int) ≤ p ∧ p < (↑n : Int) then
 branch (.bool (v.beq v))
 (branch (.bool ((LD.one (LT.ns 1)).is (List.drop (p.toNat * 1) pc)))
 (branch (.bool (byOk (rwA (List.drop (p.toNat * 1) pc))))
 (some
 (Fin.ret
 (AV.tup
 [AV.ns (!oB (getP (ofS (nR (rwA (List.drop (p.toNat * 1) pc)))) s)) 1
 (oR (getP (ofS (nR (rwA (List.drop (p.toNat * 1) pc)))) s)),
 AV.bool (oB (getP (ofS (nR (rwA (List.drop (p.toNat * 1) pc)))) s))]),
 St.mk
 [Ob.cells [AV.vs 1 v 1 n, AV.vs 2 v 1 n], Ob.vec v pc, Ob.vec v rc]
 []))
 none)
 none)
 none
 else none)) := by kernel_rfl
theorem hget_nil (F : Nat) (p s : Int) :
 (f14.run F [.ptr 0 0, .agg [.int .i64 p, .int .i64 s]] ⟨[.cells [.nilsl, .nilsl], .nov 0, .nov 0], []⟩ : Ans) =
 branch (.bool (decide (p < 0)))
 (some
 (Fin.ret (AV.tup [AV.nilsl, AV.bool false]),
 St.mk [Ob.cells [AV.nilsl, AV.nilsl], Ob.nov 0, Ob.nov 0] []))
 (branch (.bool (decide (p ≥ 0)))
 (some
 (Fin.ret (AV.tup [AV.nilsl, AV.bool false]),
 St.mk [Ob.cells [AV.nilsl, AV.nilsl], Ob.nov 0, Ob.nov 0] []))
 none) := by kernel_rfl
theorem zeroP_pg : PgB zeroP := by
 rw [zeroP, opq_eq]
 obtain ⟨h1, h2⟩ := zeros_pg
 exact ⟨h1, by rw [h2]; decide⟩
def Hp.put (X : Hp) (k : Nat) (p : List Nat) : Hp := ⟨X.v, X.ps.set k p, X.n⟩
theorem Hp.Ok.put {X : Hp} (h : X.Ok) {k : Nat} {p : List Nat} (hp : PgB p) : (X.put k p).Ok where
 z e := by obtain ⟨h1, h2⟩ := h.z e; exact ⟨by show X.ps.set k p = []; rw [h1]; rfl, h2⟩
 n := by show X.n ≤ (X.ps.set k p).length; rw [List.length_set]; exact h.n
 m := by show (X.ps.set k p).length ≤ 300; rw [List.length_set]; exact h.m
 pg b hb := by
  rcases List.mem_or_eq_of_mem_set hb with hb | rfl
  ·exact h.pg b hb
  ·exact hp
noncomputable def Hp.growTo (X : Hp) : Nat → Hp
 | 0 => X
 | c + 1 => Hp.growTo (X.grow zeroP) c
theorem Hp.growTo_ok : ∀ (c : Nat) {X : Hp}, X.Ok → X.n + c ≤ 300 → (X.growTo c).Ok ∧ (X.growTo c).n = X.n + c ∧ (X.growTo c).pg_ = X.pg_ ++ List.replicate c zeroP
 | 0, X, h, _ => ⟨h, rfl, by simp [Hp.growTo]⟩
 | c + 1, X, h, hn => by
  obtain ⟨a1, a2, a3⟩ := Hp.growTo_ok c (h.grow zeroP_pg (by omega)) (by show X.n + 1 + c ≤ 300; omega)
  refine ⟨a1, by rw [Hp.growTo, a2]; show X.n + 1 + c = _; omega, ?_⟩
  rw [Hp.growTo, a3, Hp.grow_pg h, List.append_assoc, List.replicate_succ]; rfl
noncomputable def Hp.set (X : Hp) (k : Nat) (p : List Nat) : Hp := ((X.growTo (k + 1 - X.n)).put k p).trim
theorem Hp.Ok.set {X : Hp} (h : X.Ok) {k : Nat} {p : List Nat} (hp : PgB p) (hk : k < 300) : (X.set k p).Ok := by
 have := h.n
 have := h.m
 exact ((Hp.growTo_ok _ h (by omega)).1.put hp).trim
theorem set_step {X : Hp} (h : X.Ok) {k : Nat} (hk : X.n ≤ k) (h3 : X.n < 300) (F m : Nat) (K : Cont) (l : List (List AV)) :
  loopRun (f36_l0.run F) [0, 1, 2] K m.succ (Env.mk 33 [(0, .ptr 0 0), (1, .int .i64 (k : Int)), (2, .ns false 1 l)]) ⟨X.obs, []⟩ = loopRun (f36_l0.run F) [0, 1, 2] K m (Env.mk 33 [(0, .ptr 0 0), (1, .int .i64 (k : Int)), (2, .ns false 1 l)]) ⟨(X.grow zeroP).obs, []⟩ := by
 have hG := hp_G h
 have hO := hp_obl (h.grow zeroP_pg h3)
 have hb : (true && (pgOkB (bR zeroP) && X.n.blt 300)) = true := by rw [pgOkB_bR zeroP_pg, show X.n.blt 300 = true from Nat.blt_eq.mpr h3]; rfl
 obtain ⟨v, ps, n⟩ := X
 cases v with
 | zero =>
  obtain ⟨h1, h2⟩ := h.z rfl
  simp only at h1 h2
  subst h1; subst h2
  show loopRun (f36_l0.run F) [0, 1, 2] K m.succ (Env.mk 33 [(0, .ptr 0 0), (1, .int .i64 (k : Int)), (2, .ns false 1 l)]) ⟨[.cells [.nilsl, .nilsl], .nov 0, .nov 0], []⟩ = _
  rw [set_round0, branch_of (decide_eq_true (by omega))]
  rw [show hpA.G 0 [Ob.cells [AV.nilsl, AV.nilsl], Ob.nov 0, Ob.nov 0] = _ from hG, onSome_some, branch_of hb, nR_bR, hO]
 | succ v =>
  show loopRun (f36_l0.run F) [0, 1, 2] K m.succ (Env.mk 33 [(0, .ptr 0 0), (1, .int .i64 (k : Int)), (2, .ns false 1 l)]) ⟨[.cells [.vs 1 (v + 1) 1 n, .vs 2 (v + 1) 1 n], .vec (v + 1) (pC ps), .vec (v + 1) (rmC ps)], []⟩ = _
  rw [set_round, branch_of (decide_eq_true (by simp only at hk; omega))]
  rw [show hpA.G 0 [Ob.cells [AV.vs 1 (v + 1) 1 n, AV.vs 2 (v + 1) 1 n], Ob.vec (v + 1) (pC ps), Ob.vec (v + 1) (rmC ps)] = _ from hG, onSome_some, branch_of hb, nR_bR, hO]
theorem set_stop {X : Hp} (h : X.Ok) {k : Nat} (hk : k < X.n) (F m : Nat) (K : Cont) (l : List (List AV)) :
  loopRun (f36_l0.run F) [0, 1, 2] K m.succ (Env.mk 33 [(0, .ptr 0 0), (1, .int .i64 (k : Int)), (2, .ns false 1 l)]) ⟨X.obs, []⟩ = K (.exit 0) (Env.mk 33 [(0, .ptr 0 0), (1, .int .i64 (k : Int)), (2, .ns false 1 l)]) ⟨X.obs, []⟩ := by
 obtain ⟨v, ps, n⟩ := X
 cases v with
 | zero => obtain ⟨h1, h2⟩ := h.z rfl; simp only at h2 hk; omega
 | succ v =>
  show loopRun (f36_l0.run F) [0, 1, 2] K m.succ (Env.mk 33 [(0, .ptr 0 0), (1, .int .i64 (k : Int)), (2, .ns false 1 l)]) ⟨[.cells [.vs 1 (v + 1) 1 n, .vs 2 (v + 1) 1 n], .vec (v + 1) (pC ps), .vec (v + 1) (rmC ps)], []⟩ = _
  rw [set_round, branch_not (decide_eq_false (by simp only at hk; omega))]
  rfl
theorem set_loop (F : Nat) (K : Cont) (l : List (List AV)) (k : Nat) : ∀ (c m : Nat) {X : Hp}, X.Ok → (X.n + c = k + 1 ∨ c = 0 ∧ k < X.n) → k < 300 → c < m →
  loopRun (f36_l0.run F) [0, 1, 2] K m (Env.mk 33 [(0, .ptr 0 0), (1, .int .i64 (k : Int)), (2, .ns false 1 l)]) ⟨X.obs, []⟩ = K (.exit 0) (Env.mk 33 [(0, .ptr 0 0), (1, .int .i64 (k : Int)), (2, .ns false 1 l)]) ⟨(X.growTo c).obs, []⟩
 | c, 0, X, _, _, _, h => by omega
 | 0, m + 1, X, hX, hc, hk, _ => by rw [show m + 1 = m.succ from rfl, set_stop hX (by omega)]; rfl
 | c + 1, m + 1, X, hX, hc, hk, hm => by
  rw [show m + 1 = m.succ from rfl, set_step hX (by omega) (by omega), Hp.growTo]
  exact set_loop F K l k c m (hX.grow zeroP_pg (by omega)) (by show X.n + 1 + c = k + 1 ∨ c = 0 ∧ k < X.n + 1; omega) hk (by omega)
theorem set_at {X : Hp} (h : X.Ok) {k : Nat} {p : List Nat} (hp : PgB p) (hk : k < 300) : f36.run 1000 [.ptr 0 0, .int .i64 (k : Int), .ns false 1 (bR p)] ⟨X.obs, []⟩ = some (.ret (.tup []), ⟨(X.set k p).obs ++ [], []⟩) := by
 have hn := h.n
 have hm := h.m
 obtain ⟨g1, g2, _⟩ := Hp.growTo_ok (k + 1 - X.n) h (by omega)
 have g3 := g1.put (k := k) hp
 have hG := hp_G g3
 have hO := hp_obl g3.trim
 rw [set_run, set_loop 1000 _ _ k (k + 1 - X.n) 1000 h (by omega) hk (by omega), List.append_nil, Hp.set]
 generalize X.growTo (k + 1 - X.n) = Y at *
 obtain ⟨v, ps, n⟩ := Y
 simp only at g2
 have gn := g1.n
 simp only at gn
 have hk' : k < n := by omega
 cases v with
 | zero => obtain ⟨h1, h2⟩ := g1.z rfl; simp only at h2; omega
 | succ v =>
  show (Cont.block 0 (Cont.then (f36_r0.run 1000 (f36.leaveK Fun.done)) (f36.leaveK Fun.done))) (.exit 0) (Env.mk 33 [(0, .ptr 0 0), (1, .int .i64 (k : Int)), (2, .ns false 1 (bR p))]) ⟨[.cells [.vs 1 (v + 1) 1 n, .vs 2 (v + 1) 1 n], .vec (v + 1) (pC ps), .vec (v + 1) (rmC ps)], []⟩ = _
  have i1 : inC (pC ps) (k * 1) 1 = true := by rw [inC_iff, pC_length]; omega
  have i2 : inC (rmC ps) (k * 1) 1 = true := by rw [inC_iff, rmC_length]; omega
  have e1 : setC (pC ps) (k * 1) [AV.ns false 1 (bR p)] = pC (ps.set k p) := by
   rw [Nat.mul_one, setC_one (by rw [pC_length]; omega)]; simp [pC, List.map_set]
  have e2 : setC (rmC ps) (k * 1) [AV.int IntKind.i64 (roomP (nR (bR p)))] = rmC (ps.set k p) := by
   rw [Nat.mul_one, setC_one (by rw [rmC_length]; omega), nR_bR]; simp [rmC, List.map_set]
  rw [set_out, branch_of (byOk_Pg hp), if_pos ⟨by omega, by omega⟩, Int.toNat_natCast, branch_of (by rw [Nat.beq_refl, i1]; rfl), if_pos ⟨by omega, by omega⟩, branch_of (by rw [Nat.beq_refl, i2]; rfl), e1, e2]
  rw [show hpA.G 0 [Ob.cells [AV.vs 1 (v + 1) 1 n, AV.vs 2 (v + 1) 1 n], Ob.vec (v + 1) (pC (ps.set k p)), Ob.vec (v + 1) (rmC (ps.set k p))] = _ from hG, onSome_some, hO]
noncomputable def s36 : OrcS Try.prog := f36.by'
 (fun args st k => match args with
  | [x, i, y] => hpA.on x st fun j X => onInt i fun kd i => onNs 1 y fun z l => ifT (decide (kd = .i64) && (!z && (pgOkB l && decide (0 ≤ i ∧ i < 300)))) (k (.ret (.tup [])) (hpA.pl st j (X.set i.toNat (nR l))))
  | _ => none)
 fun args st k fin h => by
  split at h
  ·rename_i x i y
   obtain ⟨j, X, rfl, hd, h1⟩ := ADT.on_spec h
   obtain ⟨kd, i, h2, rfl⟩ := onInt_spec h1
   obtain ⟨z, l, h3, hy⟩ := onNs_spec h2
   obtain ⟨h4, h5⟩ := ifT_spec h3
   clear h h1 h2 h3
   simp only [Bool.and_eq_true, Bool.not_eq_true', decide_eq_true_eq] at h4
   obtain ⟨rfl, rfl, h6, h7, h8⟩ := h4
   obtain ⟨hp, hl⟩ := pgOkB_pg h6
   obtain ⟨i, rfl⟩ := Int.eq_ofNat_of_zero_le h7
   refine ⟨_, _, h5, ?_⟩
   have := ADT.placed (A := hpA) (f := f36) (x := X) (y := X.set i (nR l)) (args0 := [.ptr 0 0, .int .i64 (i : Int), .ns false 1 (bR (nR l))]) (r := .tup []) (xs := []) (set_at hd.ok hp (by omega)) (hd.ok.set hp (by omega)) ⟨by show 0 < 3; omega, trivial, bR_scoped _, trivial⟩ trivial hd
   rw [← hl] at this
   exact CallsTo.wk this fun g w vs ⟨v, vr, e, r1, v2, vr2, e2, r2, v3, vr3, e3, r3, r4⟩ => ⟨v, vr, e, r1, v2, vr2, e2, r2, v3, vr3, e3, hy _ _ _ r3, r4⟩
  ·cases h
noncomputable def Hp.at_ (X : Hp) (k : Nat) : List Nat := (X.pg_[k]?).getD zeroP
theorem at_at {X : Hp} (h : X.Ok) (k : Nat) (F : Nat) : f35.run F [.ptr 0 0, .int .i64 (k : Int)] ⟨X.obs, []⟩ = some (.ret (.ns false 1 (bR (X.at_ k))), ⟨X.obs ++ [], []⟩) := by
 rw [List.append_nil]
 obtain ⟨v, ps, n⟩ := X
 have hn := h.n
 simp only at hn
 cases v with
 | zero =>
  obtain ⟨h1, h2⟩ := h.z rfl
  simp only at h1 h2
  subst h1; subst h2
  show f35.run F [.ptr 0 0, .int .i64 (k : Int)] ⟨[.cells [.nilsl, .nilsl], .nov 0, .nov 0], []⟩ = _
  rw [at_nil, branch_not (decide_eq_false (by omega))]
  rfl
 | succ v =>
  show f35.run F [.ptr 0 0, .int .i64 (k : Int)] ⟨[.cells [.vs 1 (v + 1) 1 n, .vs 2 (v + 1) 1 n], .vec (v + 1) (pC ps), .vec (v + 1) (rmC ps)], []⟩ = _
  rw [at_run]
  by_cases hk : k < n
  ·obtain ⟨a1, a2, a3⟩ := pC_at h.pg (show k < ps.length by omega)
   have e : (Hp.mk (v + 1) ps n).at_ k = ps[k] := by
    simp only [Hp.at_, Hp.pg_, List.getElem?_take, if_pos hk]
    rw [List.getElem?_eq_getElem (by omega)]; rfl
   have hl : k < (pC ps).length := by rw [pC_length]; omega
   have a4 : nilA (List.drop (k * 1) (pC ps)) = false := by
    rw [Nat.mul_one, nilA_at hl]; simp [pC]; rfl
   rw [branch_of (decide_eq_true (by omega)), if_pos ⟨by omega, by omega⟩, branch_of (Nat.beq_refl _), Int.toNat_natCast, branch_of a1, a2, a4, e]
   rfl
  ·have e : (Hp.mk (v + 1) ps n).at_ k = zeroP := by
    simp only [Hp.at_, Hp.pg_, List.getElem?_take, if_neg hk]; rfl
   rw [branch_not (decide_eq_false (by omega)), e]
   rfl
noncomputable def q35 : OrcQ Try.prog := f35.byQ
 (fun args st k => match args with
  | [x, i] => hpA.on x st fun j X => onInt i fun kd i => ifT (decide (kd = .i64) && decide (0 ≤ i)) (k (.ns false 1 (bR (X.at_ i.toNat))))
  | _ => none)
 fun args st k fin h => by
  split at h
  ·rename_i x i
   obtain ⟨j, X, rfl, hd, h1⟩ := ADT.on_spec h
   obtain ⟨kd, i, h2, rfl⟩ := onInt_spec h1
   obtain ⟨h4, h5⟩ := ifT_spec h2
   simp only [Bool.and_eq_true, decide_eq_true_eq] at h4
   obtain ⟨rfl, h7⟩ := h4
   obtain ⟨i, rfl⟩ := Int.eq_ofNat_of_zero_le h7
   refine ⟨_, h5, ?_⟩
   have := ADT.placed (A := hpA) (f := f35) (x := X) (y := X) (args0 := [.ptr 0 0, .int .i64 (i : Int)]) (r := .ns false 1 (bR (X.at_ i))) (xs := []) (at_at hd.ok i 0) hd.ok ⟨by show 0 < 3; omega, trivial, trivial⟩ (bR_scoped _) hd
   rw [hd.same] at this
   exact this
  ·cases h
theorem q35_nat : q35.NatQ := by
 intro args st k
 show (match args with | [x, i] => _ | _ => _) = thenA (match args with | [x, i] => _ | _ => _) k
 split
 ·exact ADT.on_nat fun j X => onInt_nat fun kd i => ifT_nat rfl
 ·rfl
def Hp.get (X : Hp) (p s : Int) : Option (List Nat) := if 0 ≤ p then match X.pg_[p.toNat]? with | some b => getP (ofS b) s | none => none else none
theorem hget_at {X : Hp} (h : X.Ok) (p s : Int) (F : Nat) : ∃ r, f14.run F [.ptr 0 0, .agg [.int .i64 p, .int .i64 s]] ⟨X.obs, []⟩ = some (.ret r, ⟨X.obs ++ [], []⟩) ∧ Near 3 (frz r) ∧ (∀ τ, ren τ (frz r) = frz r) ∧ Wk (frz r) (oV (X.get p s)) := by
 rw [List.append_nil]
 obtain ⟨v, ps, n⟩ := X
 have hn := h.n
 simp only at hn
 have no : Near 3 (frz (AV.tup [AV.nilsl, AV.bool false])) ∧ (∀ τ, ren τ (frz (AV.tup [AV.nilsl, AV.bool false])) = frz (AV.tup [AV.nilsl, AV.bool false])) ∧ Wk (frz (AV.tup [AV.nilsl, AV.bool false])) (oV none) := ⟨⟨trivial, trivial, trivial⟩, fun _ => rfl, oV_none⟩
 cases v with
 | zero =>
  obtain ⟨h1, h2⟩ := h.z rfl
  simp only at h1 h2
  subst h1; subst h2
  have e : (Hp.mk 0 [] 0).get p s = none := by
   unfold Hp.get
   split
   ·simp [Hp.pg_]
   ·rfl
  show ∃ r, f14.run F [.ptr 0 0, .agg [.int .i64 p, .int .i64 s]] ⟨[.cells [.nilsl, .nilsl], .nov 0, .nov 0], []⟩ = _ ∧ _
  rw [hget_nil, e]
  by_cases hp : p < 0
  ·exact ⟨_, branch_of (decide_eq_true hp), no⟩
  ·exact ⟨_, (branch_not (decide_eq_false hp)).trans (branch_of (decide_eq_true (by omega))), no⟩
 | succ v =>
  show ∃ r, f14.run F [.ptr 0 0, .agg [.int .i64 p, .int .i64 s]] ⟨[.cells [.vs 1 (v + 1) 1 n, .vs 2 (v + 1) 1 n], .vec (v + 1) (pC ps), .vec (v + 1) (rmC ps)], []⟩ = _ ∧ _
  rw [hget_run]
  by_cases hp : p < 0
  ·have e : (Hp.mk (v + 1) ps n).get p s = none := by unfold Hp.get; rw [if_neg (by omega)]
   rw [e]
   exact ⟨_, branch_of (decide_eq_true hp), no⟩
  ·obtain ⟨k, rfl⟩ := Int.eq_ofNat_of_zero_le (by omega : 0 ≤ p)
   by_cases hk : k < n
   ·obtain ⟨a1, a2, a3⟩ := pC_at h.pg (show k < ps.length by omega)
    have e : (Hp.mk (v + 1) ps n).get (k : Int) s = getP (ofS ps[k]) s := by
     unfold Hp.get
     rw [if_pos (by omega), Int.toNat_natCast]
     simp only [Hp.pg_, List.getElem?_take, if_pos hk]
     rw [List.getElem?_eq_getElem (by omega)]
    rw [e]
    refine ⟨_, (branch_not (decide_eq_false hp)).trans ((branch_not (decide_eq_false (by omega))).trans ((if_pos ⟨by omega, by omega⟩).trans ((branch_of (Nat.beq_refl _)).trans (by rw [Int.toNat_natCast, branch_of a1, a2, branch_of a3, nR_bR]; rfl)))), ?_⟩
    show Near 3 (frz (oV _)) ∧ _
    have es : frz (oV (getP (ofS ps[k]) s)) = oV (getP (ofS ps[k]) s) := by
     rw [oV]; rfl
    rw [es]
    refine ⟨?_, fun τ => ?_, .refl _⟩
    ·cases getP (ofS ps[k]) s with
     | none => rw [oV, oR_none]; exact ⟨trivial, trivial, trivial⟩
     | some b => rw [oV, oR_some]; exact ⟨bR_scoped b, trivial, trivial⟩
    ·rfl
   ·have e : (Hp.mk (v + 1) ps n).get (k : Int) s = none := by
     unfold Hp.get
     rw [if_pos (by omega), Int.toNat_natCast]
     simp only [Hp.pg_, List.getElem?_take, if_neg hk]
    rw [e]
    exact ⟨_, (branch_not (decide_eq_false hp)).trans (branch_of (decide_eq_true (by omega))), no⟩
noncomputable def onRid (x : AV) (k : Int → Int → Ans) : Ans :=
 match x with
 | .agg [p, s] => match p with
  | .int .i64 p => match s with
   | .int .i64 s => k p s
   | _ => none
  | _ => none
 | _ => none
theorem onRid_spec {x : AV} {k : Int → Int → Ans} {fin : Fin × St} (h : onRid x k = some fin) : ∃ p s, x = .agg [.int .i64 p, .int .i64 s] ∧ k p s = some fin := by
 unfold onRid at h
 split at h
 ·split at h
  ·split at h
   ·exact ⟨_, _, rfl, h⟩
   ·cases h
  ·cases h
 ·cases h
theorem onRid_nat {x : AV} {s : Int → Int → Ans} {s' : Int → Int → Ans} {K : AV → Ans} (h : ∀ p q, s p q = thenA (s' p q) K) : onRid x s = thenA (onRid x s') K := by
 unfold onRid
 split
 ·split
  ·split
   ·exact h _ _
   ·rfl
  ·rfl
 ·rfl
noncomputable def q14 : OrcQ Try.prog := f14.byQ
 (fun args st k => match args with
  | [x, r] => hpA.on x st fun j X => onRid r fun p s => k (oV (X.get p s))
  | _ => none)
 fun args st k fin h => by
  split at h
  ·rename_i x r
   obtain ⟨j, X, rfl, hd, h1⟩ := ADT.on_spec h
   obtain ⟨p, s, rfl, h2⟩ := onRid_spec h1
   refine ⟨_, h2, ?_⟩
   obtain ⟨r, g1, g2, g3, g4⟩ := hget_at hd.ok p s 0
   have := ADT.placed (A := hpA) (f := f14) (x := X) (y := X) (args0 := [.ptr 0 0, .agg [.int .i64 p, .int .i64 s]]) (r := r) (xs := []) g1 hd.ok ⟨by show 0 < 3; omega, ⟨trivial, trivial, trivial⟩, trivial⟩ g2 hd
   rw [hd.same, g3] at this
   exact CallsTo.wkR this g4
  ·cases h
noncomputable def f33_b : Sim Try.prog :=
 (.seq (.live [0, 1] (.region 0 [
 ⟨(opAssign (some 3) (.const (Value.bool false)) 4 "heap.go:85" #[]).op, none⟩
 ] (by kernel_rfl)))
 (.seq (.live [3] (.region 1 [
 ⟨(opMove (some 4) (.tmp 0) 3 "heap.go:85" #[]).op, none⟩,
 ⟨(opLoadT (.one .any) (some 5) 34 (.tmp 1) (.slice 5) Try.underlying34 1 sz34 (by kernel_rfl) 34 "heap.go:85" #[]).op, none⟩,
 ⟨(opLen (some 6) (.tmp 5) 34 (.slice 5) Try.underlying34 3 "heap.go:85" #[eD 1]).op, none⟩,
 ⟨(opBin (some 7) .geq 3 (.tmp 4) (.tmp 6) 3 4 "heap.go:85" #[eD 0, eD 2]).op, none⟩,
 ⟨(opAssign (some 3) (.tmp 7) 4 "heap.go:85" #[eD 3, eP 0, eP 1, eP 2, eP 3]).op, none⟩
 ] (by kernel_rfl)))
 (.live [3] .ret)))
noncomputable def f33 : Fun Try.prog where
 id := 33
 fn := Try.f33
 hf := Try.func33
 hname := by kernel_rfl
 body := f33_b
 hbody := by kernel_rfl
 res := [rTmp 3]
 hres := by kernel_rfl
 n := 8
 hn := by kernel_rfl
noncomputable def f32_l0 (Os : List (Orc Try.prog)) : Sim Try.prog :=
 (.seq (.live [0, 1, 7, 8, 9] (.region 2 [
 ⟨(opBin (some 9) .lss 3 (.tmp 8) (.tmp 7) 3 0 "slices.go:108" #[]).op, none⟩
 ] (by kernel_rfl)))
 (.seq (.cond (.tmp 9)
 .skip
 (.live [] (.exit 0)))
 (.seq (.block 1 (.seq (.live [0, 1, 5, 7, 8] (.region 3 [
 ⟨(opMove (some 10) (.tmp 8) 3 "slices.go:108" #[]).op, none⟩,
 ⟨(opAssign (some 5) (.tmp 10) 3 "slices.go:108" #[eD 0, eP 0]).op, none⟩
 ] (by kernel_rfl)))
 (.seq (.live [0, 1, 5, 7, 8, 16] (.region 4 [
 ⟨(opMove (some 11) (.tmp 1) 69 "slices.go:109" #[]).op, none⟩,
 ⟨(opMove (some 12) (.tmp 0) 23 "slices.go:109" #[]).op, none⟩,
 ⟨(opMove (some 13) (.tmp 5) 3 "slices.go:109" #[]).op, none⟩,
 ⟨(opIndexAddrT (some 14) 23 (.tmp 12) (.tmp 13) 3 1 Try.underlying23 sz3 0 "slices.go:109" #[eD 1, eD 2]).op, none⟩,
 ⟨(opLoadT (.one (.int .i64)) (some 15) 3 (.tmp 14) (.int .i64) Try.underlying3 1 sz3 (by kernel_rfl) 3 "slices.go:109" #[eD 3]).op, none⟩,
 ⟨opCallDyn Os (some 16) 11 [(.tmp 15)] #[3] 4 "slices.go:109" #[eD 0, eD 4], none⟩
 ] (by kernel_rfl)))
 (.cond (.tmp 16)
 (.seq (.live [4] (.region 5 [
 ⟨(opMove (some 17) (.tmp 5) 3 "slices.go:110" #[]).op, none⟩,
 ⟨(opAssign (some 4) (.tmp 17) 3 "slices.go:110" #[eD 0, eP 0]).op, none⟩
 ] (by kernel_rfl)))
 (.live [4] .ret))
 .skip))))
 (.live [0, 1, 7, 8] (.region 6 [
 ⟨(opBin (some 18) .add 3 (.tmp 8) (.const (Value.int IntKind.i64 1)) 3 3 "slices.go:108" #[]).op, none⟩,
 ⟨(opMove (some 8) (.tmp 18) 3 "slices.go:108" #[eD 0]).op, none⟩
 ] (by kernel_rfl))))))
noncomputable def f32_r0 (Os : List (Orc Try.prog)) : Sim Try.prog :=
 (.seq (.live [4] (.region 7 [
 ⟨(opAssign (some 4) (.const (Value.int IntKind.i64 (-1))) 3 "slices.go:113" #[]).op, none⟩
 ] (by kernel_rfl)))
 (.live [4] .ret))
noncomputable def f32_b (Os : List (Orc Try.prog)) : Sim Try.prog :=
 (.seq (.live [0, 1] (.region 0 [
 ⟨(opAssign (some 4) (.const (Value.int IntKind.i64 0)) 3 "slices.go:107" #[]).op, none⟩
 ] (by kernel_rfl)))
 (.seq (.seq (.live [0, 1, 7, 8] (.region 1 [
 ⟨(opMove (some 6) (.tmp 0) 23 "slices.go:108" #[]).op, none⟩,
 ⟨(opLen (some 7) (.tmp 6) 23 (.slice 3) Try.underlying23 3 "slices.go:108" #[eD 0]).op, none⟩,
 ⟨(opMove (some 8) (.const (Value.int IntKind.i64 0)) 3 "slices.go:108" #[]).op, none⟩
 ] (by kernel_rfl)))
 (.block 0 (.loop [0, 1, 7, 8] (f32_l0 Os))))
 (f32_r0 Os)))
noncomputable def f32 (Os : List (Orc Try.prog)) : Fun Try.prog where
 id := 32
 fn := Try.f32
 hf := Try.func32
 hname := by kernel_rfl
 body := f32_b Os
 hbody := by kernel_rfl
 res := [rTmp 4]
 hres := by kernel_rfl
 n := 19
 hn := by kernel_rfl
noncomputable def OsA : List (Orc Try.prog) := [f33.orc 0]
theorem ixr_run (F : Nat) (z y : Bool) (l b : List (List AV)) (st : St) :
 ((f32 OsA).run F [.ns z 1 l, .fn (.func 33) [] [.eptr [.ns y 1 b]]] st : Ans) =
 loopRun ((f32_l0 OsA).run F) [0, 1, 7, 8]
 (Cont.block 0 (Cont.then ((f32_r0 OsA).run F ((f32 OsA).leaveK Fun.done)) ((f32 OsA).leaveK Fun.done))) F
 (Env.mk 19
 [(0, AV.ns z 1 l), (1, AV.fn (Fn.func (33 : FuncId)) [] [AV.eptr [AV.ns y 1 b]]),
 (7, .int .i64 (↑l.length : Int)), (8, .int .i64 0)])
 st := by kernel_rfl
theorem ixr_round (F m : Nat) (K : Cont) (z y : Bool) (l b : List (List AV)) (i : Int) (st : St) :
 (loopRun ((f32_l0 OsA).run F) [0, 1, 7, 8] K m.succ (Env.mk 19 [(0, .ns z 1 l), (1, .fn (.func 33) [] [.eptr [.ns y 1 b]]), (7, .int .i64 (l.length : Int)), (8, .int .i64 i)]) st : Ans) =
 branch (.bool (decide (i < (↑l.length : Int))))
 (branch (.bool (inR l i))
 (branch (.bool ((LD.one (LT.int IntKind.i64)).is (V.rowAt l i)))
 (branch (.bool (decide (hdI (V.rowAt l i) ≥ (↑b.length : Int))))
 (K AX.ret (Env.mk 19 [(4, .int .i64 i)]) st)
 (loopRun ((f32_l0 OsA).run F) [0, 1, 7, 8] K m
 (Env.mk 19
 [(0, AV.ns z 1 l),
 (1, AV.fn (Fn.func (33 : FuncId)) [] [AV.eptr [AV.ns y 1 b]]),
 (7, .int .i64 (↑l.length : Int)),
 (8, .int .i64 (IntKind.i64.wrap (i + 1)))])
 st))
 none)
 none)
 (K (AX.exit 0) (Env.mk 19 []) st) := by kernel_rfl
theorem ixr_out (F : Nat) (st : St) :
 ((Cont.block 0 (Cont.then ((f32_r0 OsA).run F ((f32 OsA).leaveK Fun.done)) ((f32 OsA).leaveK Fun.done))) (.exit 0) (Env.mk 19 []) st : Ans) =
 some (Fin.ret (.int .i64 (-1 : Int)), st) := by kernel_rfl
def ixG (c : Int) : List Int → Nat → Int
 | [], _ => -1
 | r :: l, i => if c ≤ r then (i : Int) else ixG c l (i + 1)
def nI (l : List (List AV)) : List Int := l.map hdI
def isI (r : List AV) : Bool := match r with
 | [x] => match x with
  | .int k _ => decide (k = .i64)
  | _ => false
 | _ => false
theorem isI_spec {r : List AV} (h : isI r = true) : r = [.int .i64 (hdI r)] := by
 unfold isI at h
 split at h
 ·split at h
  ·rw [decide_eq_true_eq] at h; subst h; rfl
  ·cases h
 ·cases h
noncomputable def okI (l : List (List AV)) : Bool := opq (l.all isI && decide (l.length ≤ 1000))
theorem okI_iff {l : List (List AV)} : okI l = true ↔ (∀ r ∈ l, isI r = true) ∧ l.length ≤ 1000 := by
 rw [okI, opq_eq, Bool.and_eq_true, List.all_eq_true, decide_eq_true_eq]
theorem okI_scoped {n m : Nat} : ∀ {l : List (List AV)}, (∀ r ∈ l, isI r = true) → ScopedR n m l
 | [], _ => trivial
 | r :: l, h => ⟨by rw [isI_spec (h r (by simp))]; exact ⟨trivial, trivial⟩, okI_scoped fun x hx => h x (by simp [hx])⟩
theorem ixr_loop (F : Nat) (z y : Bool) (l b : List (List AV)) (hl : ∀ r ∈ l, isI r = true) (hn : l.length ≤ 1000) (st : St) : ∀ (k i m : Nat), i + k = l.length → k < m →
  loopRun ((f32_l0 OsA).run F) [0, 1, 7, 8] (Cont.block 0 (Cont.then ((f32_r0 OsA).run F ((f32 OsA).leaveK Fun.done)) ((f32 OsA).leaveK Fun.done))) m (Env.mk 19 [(0, .ns z 1 l), (1, .fn (.func 33) [] [.eptr [.ns y 1 b]]), (7, .int .i64 (l.length : Int)), (8, .int .i64 (i : Int))]) st
   = some (.ret (.int .i64 (ixG b.length (nI (l.drop i)) i)), st)
 | k, i, 0, _, h => by omega
 | 0, i, m + 1, h, _ => by
  rw [show m + 1 = m.succ from rfl, ixr_round, branch_not (decide_eq_false (by omega)), ixr_out, List.drop_eq_nil_of_le (by omega)]; rfl
 | k + 1, i, m + 1, h, hm => by
  have hi : i < l.length := by omega
  have hr := isI_spec (hl _ (List.getElem_mem hi))
  have e : nI (l.drop i) = hdI l[i] :: nI (l.drop (i + 1)) := by rw [List.drop_eq_getElem_cons hi]; rfl
  rw [show m + 1 = m.succ from rfl, ixr_round, branch_of (decide_eq_true (by omega)), branch_of (inR_nat hi), rowAt_nat hi, branch_of (by rw [hr]; rfl), e, ixG, wrap_succ (by omega)]
  by_cases hc : (b.length : Int) ≤ hdI l[i]
  ·rw [branch_of (decide_eq_true hc), if_pos hc]; rfl
  ·rw [branch_not (decide_eq_false hc), if_neg hc]
   exact ixr_loop F z y l b hl hn st k (i + 1) m (by omega) (by omega)
noncomputable def onClo (n : Nat) (x : AV) (k : AV → Ans) : Ans :=
 match x with
 | .fn f a c => match f with
  | .func m => match Nat.beq m n with
   | true => match a with
    | [] => match c with
     | [y] => match y with
      | .eptr cs => match cs with
       | [b] => k b
       | _ => none
      | _ => none
     | _ => none
    | _ => none
   | false => none
  | _ => none
 | _ => none
theorem onClo_spec {n : Nat} {x : AV} {k : AV → Ans} {fin : Fin × St} (h : onClo n x k = some fin) : ∃ b, x = .fn (.func n) [] [.eptr [b]] ∧ k b = some fin := by
 unfold onClo at h
 split at h
 ·split at h
  ·split at h
   ·rename_i hm
    obtain rfl := Nat.eq_of_beq_eq_true hm
    split at h
    ·split at h
     ·split at h
      ·split at h
       ·exact ⟨_, rfl, h⟩
       ·cases h
      ·cases h
     ·cases h
    ·cases h
   ·cases h
  ·cases h
 ·cases h
noncomputable def q32 : OrcQ Try.prog := (f32 OsA).farR
 (fun args st k => match args with
  | [x, f] => onNsQ 1 x st fun _ l => onClo 33 f fun b => onNs 1 b fun _ b => ifT (okI l && byOk b) (k (.int .i64 (ixG b.length (nI l) 0)))
  | _ => none)
 fun args st k fin h => by
  split at h
  ·rename_i x f
   obtain ⟨z, l, h1, hx⟩ := onNsQ_spec h
   obtain ⟨b, rfl, h2⟩ := onClo_spec h1
   obtain ⟨z', b', h3, hb⟩ := onNs_spec h2
   obtain ⟨h4, h5⟩ := ifT_spec h3
   rw [Bool.and_eq_true] at h4
   obtain ⟨i1, i2⟩ := okI_iff.mp h4.1
   have hsb := okR_scoped (n := 0) (m := 0) (byOk_iff.mp h4.2).1
   have hw : Wk (.fn (.func 33) [] [.eptr [b]]) (.fn (.func 33) [] [.eptr [.ns z' 1 b']]) := by
    intro g w v ⟨va, vc, r1, r2, vp, vr, e, ⟨bb, off, r3, ⟨⟨u, r4, r5, r6, r7⟩, r8⟩⟩, r9⟩
    exact ⟨va, vc, r1, r2, vp, vr, e, ⟨bb, off, r3, ⟨⟨u, r4, r5, r6, hb _ _ _ r7⟩, r8⟩⟩, r9⟩
   refine ⟨[.ns z 1 l, .fn (.func 33) [] [.eptr [.ns z' 1 b']]], _, h5, .cons (hx (okI_scoped i1)) (.cons (.of hw ⟨trivial, trivial, ⟨hsb, trivial⟩, trivial⟩) .nil), 1001, .int .i64 (ixG b'.length (nI l) 0), ⟨[], []⟩, ?_, ?_, trivial, .refl _⟩
   ·rw [ixr_run]
    exact ixr_loop 1001 z z' l b' i1 i2 _ l.length 0 1001 (by omega) (by omega)
   ·trivial
  ·cases h
theorem ze30 : (Try.prog.info? 30).bind (·.zero) = some (.agg #[(.int .i64 0), (.int .i64 0)]) := by kernel_rfl
theorem sz30 : (Try.prog.info? 30).map (·.size) = some 2 := by kernel_rfl
noncomputable abbrev d30 : TypeDesc := (Try.prog.underlying 30).getD .bool
theorem ud30 : Try.prog.underlying 30 = some d30 := by kernel_rfl
noncomputable def f12_b : Sim Try.prog :=
 (.seq (.live [0, 3, 4] (.region 0 [
 ⟨(opBoxF (some 3) 34 (.tmp 1) 0 "heap.go:81" #[]).op, none⟩,
 ⟨(opAlloc (some 4) 30 (.agg #[(.int .i64 0), (.int .i64 0)]) ze30 0 "heap.go:81" #[]).op, none⟩,
 ⟨(opAssign (some 5) (.const (Value.int IntKind.i64 0)) 31 "heap.go:81" #[]).op, none⟩
 ] (by kernel_rfl)))
 (.seq (.seq (.live [0, 3, 4, 12] (.region 1 [
 ⟨(opLoadT (.one .any) (some 10) 34 (.tmp 3) (.slice 5) Try.underlying34 1 sz34 (by kernel_rfl) 34 "heap.go:82" #[]).op, none⟩,
 ⟨(opLen (some 11) (.tmp 10) 34 (.slice 5) Try.underlying34 3 "heap.go:82" #[eD 0]).op, none⟩,
 ⟨(opBin (some 12) .gtr 3 (.tmp 11) (.const (Value.int IntKind.i64 200)) 3 4 "heap.go:82" #[eD 1]).op, none⟩
 ] (by kernel_rfl)))
 (.cond (.tmp 12)
 (.seq (.live [4, 5] (.region 2 [
 ⟨(opBuild (some 13) 30 #[(.int .i64 0), (.int .i64 0)] [] ze30 (by kernel_rfl) 30 "heap.go:83" #[]).op, none⟩,
 ⟨(opStore none 30 (.tmp 4) (.tmp 13) 2 sz30 0 "heap.go:83" #[eD 0, eP 0]).op, none⟩,
 ⟨(opAssign (some 5) (.const (Value.int IntKind.i64 41)) 31 "heap.go:83" #[eC 1, eP 0, eP 1]).op, none⟩
 ] (by kernel_rfl)))
 (.live [4, 5] .ret))
 .skip))
 (.seq (.live [0, 3, 4, 6] (.region 3 [
 ⟨(opMove (some 14) (.tmp 0) 26 "heap.go:85" #[]).op, none⟩,
 ⟨(opNilCheck (some 15) (.tmp 14) 0 "heap.go:85" #[eD 0]).op, none⟩,
 ⟨(opFieldAddr (some 16) 67 (.tmp 15) 1 1 1 false fl67_1 (by decide) 0 "heap.go:85" #[eD 1]).op, none⟩,
 ⟨(opLoadT (.one .any) (some 17) 23 (.tmp 16) (.slice 3) Try.underlying23 1 sz23 (by kernel_rfl) 23 "heap.go:85" #[eD 2]).op, none⟩,
 ⟨(opMakeFunc (some 18) (Fn.func 33) #[] #[(.tmp 3)] 69 "heap.go:85" #[]).op, none⟩,
 ⟨(opCallQ q32 (some 19) [(.tmp 17), (.tmp 18)] #[23, 69] 3 "heap.go:85" #[eD 3, eD 4]).op, none⟩,
 ⟨(opAssign (some 6) (.tmp 19) 3 "heap.go:85" #[eD 5, eC 5, eP 0, eP 1, eP 2, eP 3, eP 4, eP 5]).op, none⟩
 ] (by kernel_rfl)))
 (.seq (.seq (.live [0, 3, 4, 6, 21] (.region 4 [
 ⟨(opMove (some 20) (.tmp 6) 3 "heap.go:86" #[]).op, none⟩,
 ⟨(opBin (some 21) .lss 3 (.tmp 20) (.const (Value.int IntKind.i64 0)) 3 4 "heap.go:86" #[eD 0]).op, none⟩
 ] (by kernel_rfl)))
 (.cond (.tmp 21)
 (.live [0, 3, 4, 6] (.region 5 [
 ⟨(opMove (some 22) (.tmp 0) 26 "heap.go:87" #[]).op, none⟩,
 ⟨(opNilCheck (some 23) (.tmp 22) 0 "heap.go:87" #[eD 0]).op, none⟩,
 ⟨(opFieldAddr (some 24) 67 (.tmp 23) 0 0 1 false fl67_0 (by decide) 0 "heap.go:87" #[eD 1]).op, none⟩,
 ⟨(opLoadT (.one .any) (some 25) 22 (.tmp 24) (.slice 34) Try.underlying22 1 sz22 (by kernel_rfl) 22 "heap.go:87" #[eD 2]).op, none⟩,
 ⟨(opLen (some 26) (.tmp 25) 22 (.slice 34) Try.underlying22 3 "heap.go:87" #[eD 3]).op, none⟩,
 ⟨(opAssign (some 6) (.tmp 26) 3 "heap.go:87" #[eD 4, eP 0, eP 1, eP 2, eP 3, eP 4]).op, none⟩
 ] (by kernel_rfl)))
 .skip))
 (.seq (.seq (.live [0, 3, 4, 6, 28] (.region 6 [
 ⟨(opMove (some 27) (.tmp 6) 3 "heap.go:89" #[]).op, none⟩,
 ⟨(opBin (some 28) .geq 3 (.tmp 27) (.const (Value.int IntKind.i64 256)) 3 4 "heap.go:89" #[eD 0]).op, none⟩
 ] (by kernel_rfl)))
 (.cond (.tmp 28)
 (.seq (.live [4, 5] (.region 7 [
 ⟨(opBuild (some 29) 30 #[(.int .i64 0), (.int .i64 0)] [] ze30 (by kernel_rfl) 30 "heap.go:90" #[]).op, none⟩,
 ⟨(opStore none 30 (.tmp 4) (.tmp 29) 2 sz30 0 "heap.go:90" #[eD 0, eP 0]).op, none⟩,
 ⟨(opAssign (some 5) (.const (Value.int IntKind.i64 36)) 31 "heap.go:90" #[eC 1, eP 0, eP 1]).op, none⟩
 ] (by kernel_rfl)))
 (.live [4, 5] .ret))
 .skip))
 (.seq (.live [0, 4, 6, 7, 8] (.draw 8 [
 ⟨.p (opMove (some 31) (.tmp 0) 26 "heap.go:92" #[]), none⟩,
 ⟨.p (opMove (some 32) (.tmp 6) 3 "heap.go:92" #[]), none⟩,
 ⟨.qn (opCallQ q35 (some 33) [(.tmp 31), (.tmp 32)] #[26, 3] 34 "heap.go:92" #[eD 0, eD 1]) (opCallQ_nat q35_nat), none⟩,
 ⟨.qn (opLoadT (.one .any) (some 34) 34 (.tmp 3) (.slice 5) Try.underlying34 1 sz34 (by kernel_rfl) 34 "heap.go:92" #[]) opLoadT_nat, none⟩,
 ⟨.pn (opCallP p34 (some 35) [(.tmp 33), (.tmp 34)] #[34, 34] 70 "heap.go:92" #[eD 2, eD 3, eC 2]) (opCallP_nat p34_nat), none⟩,
 ⟨.p (opMove (some 30) (.tmp 35) 70 "heap.go:92" #[eD 4]), none⟩,
 ⟨.p (opExtract (some 36) (.tmp 30) 0 34 "heap.go:92" #[eD 5]), none⟩,
 ⟨.p (opExtract (some 37) (.tmp 30) 1 3 "heap.go:92" #[eD 5, eX 9]), none⟩,
 ⟨.p (opExtract (some 38) (.tmp 30) 2 4 "heap.go:92" #[eD 5, eX 10]), none⟩,
 ⟨.p (opAssign (some 7) (.tmp 36) 34 "heap.go:92" #[eD 6, eC 4, eP 0, eP 1, eP 2, eP 3, eP 4, eP 5, eP 6, eT 7, eT 8]), none⟩,
 ⟨.p (opAssign (some 8) (.tmp 37) 3 "heap.go:92" #[eD 7, eC 9, eP 0, eP 1, eP 2, eP 3, eP 4, eP 5, eP 6, eP 7, eT 8, eP 9]), none⟩,
 ⟨.p (opAssign (some 9) (.tmp 38) 4 "heap.go:92" #[eD 8, eC 10, eP 0, eP 1, eP 2, eP 3, eP 4, eP 5, eP 6, eP 7, eP 8, eP 9, eP 10]), none⟩
 ] mixed (by kernel_rfl)))
 (.seq (.live [4, 6, 8] (.region 9 [
 ⟨(opMove (some 39) (.tmp 0) 26 "heap.go:93" #[]).op, none⟩,
 ⟨(opMove (some 40) (.tmp 6) 3 "heap.go:93" #[]).op, none⟩,
 ⟨(opMove (some 41) (.tmp 7) 34 "heap.go:93" #[]).op, none⟩,
 ⟨opCall (s36).orc (some 42) [(.tmp 39), (.tmp 40), (.tmp 41)] #[26, 3, 34] 0 "heap.go:93" #[eD 0, eD 1, eD 2], none⟩
 ] (by kernel_rfl)))
 (.seq (.live [4, 5] (.region 10 [
 ⟨(opMove (some 43) (.tmp 6) 3 "heap.go:94" #[]).op, none⟩,
 ⟨(opMove (some 44) (.tmp 8) 3 "heap.go:94" #[]).op, none⟩,
 ⟨(opBuild (some 45) 30 #[(.int .i64 0), (.int .i64 0)] [(0, 0, 1, (.tmp 43)), (1, 1, 1, (.tmp 44))] ze30 (by kernel_rfl) 30 "heap.go:94" #[eD 0, eD 1]).op, none⟩,
 ⟨(opStore none 30 (.tmp 4) (.tmp 45) 2 sz30 0 "heap.go:94" #[eD 2, eP 0, eP 1, eP 2]).op, none⟩,
 ⟨(opAssign (some 5) (.const (Value.int IntKind.i64 0)) 31 "heap.go:94" #[eC 3, eP 0, eP 1, eP 2, eP 3]).op, none⟩
 ] (by kernel_rfl)))
 (.live [4, 5] .ret)))))))))
noncomputable def f12 : Fun Try.prog where
 id := 12
 fn := Try.f12
 hf := Try.func12
 hname := by kernel_rfl
 body := f12_b
 hbody := by kernel_rfl
 res := [rCell 4 30 d30 ud30 2 sz30, rTmp 5]
 hres := by kernel_rfl
 n := 46
 hn := by kernel_rfl
theorem add_hrun (F v n : Nat) (pc rc : List AV) (z : Bool) (l : List (List AV)) :
 (f12.run F [.ptr 0 0, .ns z 1 l] ⟨[.cells [.vs 1 v 1 n, .vs 2 v 1 n], .vec v pc, .vec v rc], []⟩ : Ans) =
 branch (.bool (decide ((↑l.length : Int) > 200)))
 (some
 (Fin.ret
 (AV.tup [AV.agg [.int .i64 0, .int .i64 0], .int .i64 41]),
 St.mk
 [Ob.cells [AV.vs 1 v 1 n, AV.vs 2 v 1 n], Ob.vec v pc, Ob.vec v rc,
 Ob.cells [.int .i64 0, .int .i64 0]]
 []))
 (branch (.bool (v.beq v && inC rc 0 (mulN n 1)))
 (branch (.bool (okI (rowsC 1 n rc 0) && byOk l))
 (branch (.bool (decide (ixG (↑l.length : Int) (nI (rowsC 1 n rc 0)) 0 < 0)))
 (branch (.bool (decide ((↑n : Int) ≥ 256)))
 (some
 (Fin.ret
 (AV.tup
 [AV.agg [.int .i64 0, .int .i64 0], .int .i64 36]),
 St.mk
 [Ob.cells [AV.vs 1 v 1 n, AV.vs 2 v 1 n], Ob.vec v pc, Ob.vec v rc,
 Ob.cells [.int .i64 0, .int .i64 0]]
 []))
 (onSome
 (hpA.G 0
 [Ob.cells [AV.vs 1 v 1 n, AV.vs 2 v 1 n], Ob.vec v pc, Ob.vec v rc])
 none fun (o : Hp) =>
 branch (.bool (byOk (bR (o.at_ n)) && (byOk l && apOk l.length 1)))
 (onSome
 (hpA.G 0
 [Ob.cells [AV.vs 1 v 1 n, AV.vs 2 v 1 n], Ob.vec v pc, Ob.vec v rc])
 none fun (o_1 : Hp) =>
 branch
 (AV.bool
 (true &&
 (!!oB (addP (nR (bR (o.at_ n))) (nR l)) &&
 (pgOkB (oR (addP (nR (bR (o.at_ n))) (nR l))) &&
 decide ((0 : Int) ≤ (↑n : Int) ∧ (↑n : Int) < 300)))))
 (some
 (Fin.ret
 (AV.tup
 [AV.agg [.int .i64 (↑n : Int), .int .i64 (addK (nR (bR (o.at_ n))) (nR l))],
 .int .i64 0]),
 St.mk
 [hpA.ob 0
 (o_1.set (↑n : Int).toNat (nR (oR (addP (nR (bR (o.at_ (↑n : Int).toNat))) (nR l)))))
 0,
 hpA.ob 0
 (o_1.set (↑n : Int).toNat (nR (oR (addP (nR (bR (o.at_ (↑n : Int).toNat))) (nR l)))))
 1,
 hpA.ob 0
 (o_1.set (↑n : Int).toNat (nR (oR (addP (nR (bR (o.at_ (↑n : Int).toNat))) (nR l)))))
 2,
 Ob.cells
 [.int .i64 (↑n : Int), .int .i64 (addK (nR (bR (o.at_ n))) (nR l))]]
 []))
 none)
 none))
 (branch (.bool (decide (ixG (↑l.length : Int) (nI (rowsC 1 n rc 0)) 0 ≥ 256)))
 (some
 (Fin.ret
 (AV.tup
 [AV.agg [.int .i64 0, .int .i64 0], .int .i64 36]),
 St.mk
 [Ob.cells [AV.vs 1 v 1 n, AV.vs 2 v 1 n], Ob.vec v pc, Ob.vec v rc,
 Ob.cells [.int .i64 0, .int .i64 0]]
 []))
 (onSome
 (hpA.G 0
 [Ob.cells [AV.vs 1 v 1 n, AV.vs 2 v 1 n], Ob.vec v pc, Ob.vec v rc])
 none fun (o : Hp) =>
 branch
 (AV.bool
 (true && decide ((0 : Int) ≤ ixG (↑l.length : Int) (nI (rowsC 1 n rc 0)) 0)))
 (branch
 (AV.bool
 (byOk (bR (o.at_ (ixG (↑l.length : Int) (nI (rowsC 1 n rc 0)) 0).toNat)) &&
 (byOk l && apOk l.length 1)))
 (onSome
 (hpA.G 0
 [Ob.cells [AV.vs 1 v 1 n, AV.vs 2 v 1 n], Ob.vec v pc, Ob.vec v rc])
 none fun (o_1 : Hp) =>
 branch
 (AV.bool
 (true &&
 (!!oB
 (addP
 (nR
 (bR
 (o.at_
 (ixG (↑l.length : Int) (nI (rowsC 1 n rc 0)) 0).toNat)))
 (nR l)) &&
 (pgOkB
 (oR
 (addP
 (nR
 (bR
 (o.at_
 (ixG (↑l.length : Int) (nI (rowsC 1 n rc 0)) 0).toNat)))
 (nR l))) &&
 decide
 ((0 : Int) ≤ ixG (↑l.length : Int) (nI (rowsC 1 n rc 0)) 0 ∧
 ixG (↑l.length : Int) (nI (rowsC 1 n rc 0)) 0 < 300)))))
 (some
 (Fin.ret
 (AV.tup
 [AV.agg
 [AV.int IntKind.i64
 (ixG (↑l.length : Int) (nI (rowsC 1 n rc 0)) 0),
 AV.int IntKind.i64
 (addK
 (nR
 (bR
 (o.at_
 (ixG (↑l.length : Int) (nI (rowsC 1 n rc 0))
 0).toNat)))
 (nR l))],
 .int .i64 0]),
 St.mk
 [hpA.ob 0
 (o_1.set (ixG (↑l.length : Int) (nI (rowsC 1 n rc 0)) 0).toNat
 (nR
 (oR
 (addP
 (nR
 (bR
 (o.at_
 (ixG (↑l.length : Int) (nI (rowsC 1 n rc 0))
 0).toNat)))
 (nR l)))))
 0,
 hpA.ob 0
 (o_1.set (ixG (↑l.length : Int) (nI (rowsC 1 n rc 0)) 0).toNat
 (nR
 (oR
 (addP
 (nR
 (bR
 (o.at_
 (ixG (↑l.length : Int) (nI (rowsC 1 n rc 0))
 0).toNat)))
 (nR l)))))
 1,
 hpA.ob 0
 (o_1.set (ixG (↑l.length : Int) (nI (rowsC 1 n rc 0)) 0).toNat
 (nR
 (oR
 (addP
 (nR
 (bR
 (o.at_
 (ixG (↑l.length : Int) (nI (rowsC 1 n rc 0))
 0).toNat)))
 (nR l)))))
 2,
 Ob.cells
 [AV.int IntKind.i64
 (ixG (↑l.length : Int) (nI (rowsC 1 n rc 0)) 0),
 AV.int IntKind.i64
 (addK
 (nR
 (bR
 (o.at_
 (ixG (↑l.length : Int) (nI (rowsC 1 n rc 0))
 0).toNat)))
 (nR l))]]
 []))
 none)
 none)
 none)))
 none)
 none) := by kernel_rfl
theorem add_hnil (F : Nat) (z : Bool) (l : List (List AV)) :
 (f12.run F [.ptr 0 0, .ns z 1 l] ⟨[.cells [.nilsl, .nilsl], .nov 0, .nov 0], []⟩ : Ans) =
 branch (.bool (decide ((↑l.length : Int) > 200)))
 (some
 (Fin.ret
 (AV.tup [AV.agg [.int .i64 0, .int .i64 0], .int .i64 41]),
 St.mk
 [Ob.cells [AV.nilsl, AV.nilsl], Ob.nov 0, Ob.nov 0,
 Ob.cells [.int .i64 0, .int .i64 0]]
 []))
 (branch (.bool (okI [] && byOk l))
 (onSome (hpA.G 0 [Ob.cells [AV.nilsl, AV.nilsl], Ob.nov 0, Ob.nov 0]) none fun (o : Hp) =>
 branch (.bool (byOk (bR (o.at_ 0)) && (byOk l && apOk l.length 1)))
 (onSome (hpA.G 0 [Ob.cells [AV.nilsl, AV.nilsl], Ob.nov 0, Ob.nov 0]) none
 fun (o_1 : Hp) =>
 branch
 (AV.bool
 (true &&
 (!!oB (addP (nR (bR (o.at_ 0))) (nR l)) &&
 (pgOkB (oR (addP (nR (bR (o.at_ 0))) (nR l))) && true))))
 (some
 (Fin.ret
 (AV.tup
 [AV.agg
 [.int .i64 0, .int .i64 (addK (nR (bR (o.at_ 0))) (nR l))],
 .int .i64 0]),
 St.mk
 [hpA.ob 0
 (o_1.set (Int.toNat (0 : Int)) (nR (oR (addP (nR (bR (o.at_ (Int.toNat (0 : Int))))) (nR l)))))
 0,
 hpA.ob 0
 (o_1.set (Int.toNat (0 : Int)) (nR (oR (addP (nR (bR (o.at_ (Int.toNat (0 : Int))))) (nR l)))))
 1,
 hpA.ob 0
 (o_1.set (Int.toNat (0 : Int)) (nR (oR (addP (nR (bR (o.at_ (Int.toNat (0 : Int))))) (nR l)))))
 2,
 Ob.cells
 [.int .i64 0, .int .i64 (addK (nR (bR (o.at_ 0))) (nR l))]]
 []))
 none)
 none)
 none) := by kernel_rfl
def getS (s : Sl) (i : Nat) : Option (List Nat) := (s[i]?).join
theorem getP_nat (s : Sl) (i : Nat) : getP s (i : Int) = getS s i := by rw [getP, if_pos (by omega), Int.toNat_natCast]; rfl
theorem getS_ge {s : Sl} {i : Nat} (h : s.length ≤ i) : getS s i = none := by rw [getS, List.getElem?_eq_none h]; rfl
theorem getS_lt {s : Sl} {i : Nat} (h : i < s.length) : getS s i = s[i] := by rw [getS, List.getElem?_eq_getElem h]; rfl
theorem sl_ext {s t : Sl} (hs : trm s = true) (ht : trm t = true) (h : ∀ i, getS s i = getS t i) : s = t := by
 have key : ∀ {s t : Sl}, trm t = true → (∀ i, getS s i = getS t i) → ¬ s.length < t.length := by
  intro s t ht h hl
  rcases List.eq_nil_or_concat t with rfl | ⟨t', o, rfl⟩
  ·simp at hl
  ·rw [List.concat_eq_append] at *
   rw [List.length_append, List.length_singleton] at hl
   have := h t'.length
   rw [getS_ge (by omega), getS_lt (by simp)] at this
   simp at this
   subst this
   simp [trm] at ht
 have hl : s.length = t.length := by
  have h1 := key (s := s) ht h
  have h2 := key (s := t) (t := s) hs fun i => (h i).symm
  omega
 apply List.ext_getElem hl
 intro i h1 h2
 have := h i
 rwa [getS_lt h1, getS_lt h2] at this
theorem sumN_set_le {s : Sl} {k : Nat} : sumN (s.set k none) ≤ sumN s := by
 have := sumN_set s k none
 exact this
theorem pgOk_cut {t : Sl} (h : pgOk t = true) {k : Nat} (hk : k < t.length) : pgOk (withS t k none) = true := by
 obtain ⟨h1, h2⟩ := pgOk_iff.mp h
 have hp : padS t (k + 1) = t := by rw [padS, show k + 1 - t.length = 0 by omega]; simp
 rw [pgOk_iff]
 refine ⟨?_, fun o ho => ?_⟩
 ·have e1 : sumN (withS t k none) ≤ sumN t := by
   rw [withS, hp, trS_take]
   exact Nat.le_trans (sumN_take _ _) sumN_set_le
  have e2 : (withS t k none).length ≤ t.length := by
   have := trS_len ((padS t (k + 1)).set k none)
   rw [hp, List.length_set] at this
   rw [withS, hp]; exact this
  rw [szN] at h1 ⊢
  omega
 ·rcases mem_with ho with h | h | h
  ·exact h2 o h
  ·rw [h]; exact Nat.zero_le _
  ·rw [h]; exact Nat.zero_le _
theorem Pg.cut {q : List Nat} (hq : Pg q) {k : Nat} {b : List Nat} (h : getS (ofS q) k = some b) : ∃ c, cutP q (k : Int) = some c ∧ Pg c ∧ ofS c = withS (ofS q) k none := by
 obtain ⟨_, h1, h2, h3, _⟩ := hq.slots
 have hk : k < (ofS q).length := by
  rcases Nat.lt_or_ge k (ofS q).length with h' | h'
  ·exact h'
  ·rw [getS_ge h'] at h; cases h
 have hok := pgOk_cut h2 hk
 have hl := len_ofS q
 have e : toP (withS (ofS q) k none) = some (pgB (withS (ofS q) k none)) := by rw [toP, if_pos hok]
 obtain ⟨k1, k2⟩ := Pg.of (okSl_with h1 (by omega) (by omega) (fun c hc => by cases hc)) (trm_trS _) e
 exact ⟨_, by rw [cutP, cutS, getP_nat, h, if_pos (show (some b).isSome = true from rfl), Int.toNat_natCast, e], k1, k2⟩
theorem getS_ok {s : Sl} (h : okSl s) {i : Nat} {b : List Nat} (hb : getS s i = some b) : (∀ x ∈ b, x < 256) ∧ b.length < 4611686018427387904 := by
 rcases Nat.lt_or_ge i s.length with hl | hl
 ·rw [getS_lt hl] at hb
  exact h.1 b (by rw [← hb]; exact List.getElem_mem hl)
 ·rw [getS_ge hl] at hb; cases hb
theorem iR_at {l : List Nat} {i : Nat} (h : i < l.length) : inR (iR l) (i : Int) = true ∧ (LD.one (LT.int .i64)).is (V.rowAt (iR l) (i : Int)) = true ∧ hdI (V.rowAt (iR l) (i : Int)) = ((l[i] : Nat) : Int) := by
 have hl : i < (iR l).length := by rw [iR_length]; exact h
 have e : V.rowAt (iR l) (i : Int) = [.int .i64 (l[i] : Nat)] := by rw [rowAt_nat hl]; simp [iR]
 exact ⟨inR_nat hl, by rw [e]; rfl, by rw [e]; rfl⟩
theorem slotsI_len : ∀ (s : Sl) (i : Nat), (slotsI s i).length ≤ s.length
 | [], _ => Nat.le_refl _
 | none :: s, i => by rw [slotsI, List.length_cons]; have := slotsI_len s (i + 1); omega
 | some _ :: s, i => by rw [slotsI, List.length_cons, List.length_cons]; have := slotsI_len s (i + 1); omega
theorem Pg.small {p : List Nat} (h : Pg p) : (∀ x ∈ p, x < 256) ∧ p.length < 4611686018427387904 := ⟨h.1, by rw [h.2.1]; decide⟩
theorem getP_ok {s : Sl} (h : okSl s) {i : Int} {b : List Nat} (hb : getP s i = some b) : (∀ x ∈ b, x < 256) ∧ b.length < 4611686018427387904 := by
 have hs := getP_bound (s := s) (i := i) (by rw [hb]; rfl)
 obtain ⟨n, rfl⟩ := Int.eq_ofNat_of_zero_le hs.1
 rw [getP_nat] at hb
 exact getS_ok h hb
theorem cutP_pg {p : List Nat} (hp : Pg p) {i : Int} {c : List Nat} (h : cutP p i = some c) : Pg c ∧ (ofS c).length ≤ (ofS p).length := by
 rw [cutP, cutS] at h
 split at h
 ·rename_i hg
  have hs := getP_bound hg
  obtain ⟨n, rfl⟩ := Int.eq_ofNat_of_zero_le hs.1
  rw [getP_nat] at hg
  cases hb : getS (ofS p) n with
  | none => rw [hb] at hg; cases hg
  | some b =>
   obtain ⟨c', k1, k2, k3⟩ := hp.cut hb
   rw [cutP, cutS, getP_nat, hb, if_pos (show (some b).isSome = true from rfl)] at k1
   rw [h] at k1
   cases k1
   refine ⟨k2, ?_⟩
   rw [k3, withS]
   refine Nat.le_trans (trS_len _) ?_
   rw [List.length_set, padS_len]
   have := hs.2
   rw [Int.toNat_natCast] at this
   omega
 ·cases h
theorem PgB.byOk {b : List Nat} (h : PgB b) : byOk (bR b) = true := byOk_Pg h
theorem len_with (s : Sl) (k : Nat) (o : Option (List Nat)) (hs : s.length ≤ 251) (hk : k ≤ 250) : (withS s k o).length ≤ 251 := by
 rw [withS]
 refine Nat.le_trans (trS_len _) ?_
 rw [List.length_set, padS_len]; omega
theorem PgB.put {p b q : List Nat} {i : Int} (hp : PgB p) (hb : ∀ x ∈ b, x < 256) (hbl : b.length < 4611686018427387904) (h : putP p i b = some q) : PgB q ∧ ofS q = withS (ofS p) i.toNat (some b) ∧ 0 ≤ i ∧ i ≤ 250 := by
 obtain ⟨h1, h2, h3, h4⟩ := hp.1.put hb hbl h
 exact ⟨⟨h1, by rw [h2]; exact len_with _ _ _ hp.2 (by omega)⟩, h2, h3, h4⟩
theorem PgB.cut {p c : List Nat} {i : Int} (hp : PgB p) (h : cutP p i = some c) : PgB c := by
 obtain ⟨h1, h2⟩ := cutP_pg hp.1 h
 exact ⟨h1, Nat.le_trans h2 hp.2⟩
theorem PgB.add {p b q : List Nat} (hp : PgB p) (hb : ∀ x ∈ b, x < 256) (h : addP p b = some q) : PgB q ∧ ofS q = withS (ofS p) (freeK (ofS p)) (some b) ∧ freeK (ofS p) ≤ 250 := by
 obtain ⟨h1, h2, h3, _⟩ := hp.1.add hb h
 exact ⟨⟨h1, add_len hp.1 hp.2 hb h⟩, h2, h3⟩
theorem PgB.roomP {p : List Nat} (hp : PgB p) : roomP p = roomI (ofS p) := by
 rw [V.roomP, opq_eq, if_pos hp.1.2.2]
theorem PgB.add_iff {p : List Nat} (hp : PgB p) (b : List Nat) (hb : b.length ≤ 200) : (addP p b).isSome = true ↔ (b.length : Int) ≤ V.roomP p := by
 rw [hp.roomP, addP_eq hp.1]
 have hk : pgOk (ofS p) = true := hp.1.slots.2.2.1
 have hs := (pgOk_iff.mp hk).1
 rcases room_cases hp.2 with ⟨h1, h2⟩ | ⟨h1, h2, h3, h4, h5⟩
 ·rw [h1]
  split
  ·rename_i h; omega
  ·simp; omega
 ·split
  ·rename_i h
   simp only [Option.isSome_some, true_iff]
   rcases h5 with h5 | h5 <;> omega
  ·rename_i h
   simp only [Option.isSome_none, Bool.false_eq_true, false_iff]
   omega
end Go.Proofs.Ytljigmghdpkdlaa.V
