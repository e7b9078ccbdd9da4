/- Merged out of 38 texts: what the claim's code comes to, and why. -/
import Derived.Test.YtnhdjhcpbjggmaaR44
set_option linter.unusedVariables false
set_option linter.unusedSimpArgs false
set_option maxRecDepth 100000
namespace Go.Proofs.Ytnhdjhcpbjggmaa.V
open Go Go.V Go.RowKit
structure Lg where
 g : Nat
 a : Nat
 f : Nat
 p : Nat
 s : Nat
def Lg.cs (L : Lg) : List AV := [.int .i64 (L.g : Int), .int .i64 (L.a : Int), .int .i64 (L.f : Int), .int .i64 (L.p : Int), .int .i64 (L.s : Int)]
noncomputable def lv0 (L : Lg) : Int := opq (L.g : Int)
noncomputable def lv1 (L : Lg) : Int := opq (L.a : Int)
noncomputable def lv2 (L : Lg) : Int := opq (L.f : Int)
noncomputable def lv3 (L : Lg) : Int := opq (L.p : Int)
noncomputable def lv4 (L : Lg) : Int := opq (L.s : Int)
noncomputable def lgT (L : Lg) : List AV := [.int .i64 (lv0 L), .int .i64 (lv1 L), .int .i64 (lv2 L), .int .i64 (lv3 L), .int .i64 (lv4 L)]
theorem lgT_eq (L : Lg) : lgT L = L.cs := by rw [lgT, lv0, opq_eq, lv1, opq_eq, lv2, opq_eq, lv3, opq_eq, lv4, opq_eq]; rfl
theorem cs_inj {L M : Lg} (h : L.cs = M.cs) : L = M := by
 obtain ⟨a, b, c, d, e⟩ := L
 obtain ⟨a', b', c', d', e'⟩ := M
 simp only [Lg.cs, List.cons.injEq, AV.int.injEq, true_and, and_true, Int.ofNat_inj] at h
 obtain ⟨rfl, rfl, rfl, rfl, rfl⟩ := h
 rfl
open Classical in
noncomputable def lgG (t : List AV) : Option Lg := opq (if h : ∃ L : Lg, L.cs = t then some (Classical.choose h) else none)
theorem lgG_spec {t : List AV} {L : Lg} (h : lgG t = some L) : t = L.cs := by
 rw [lgG, opq_eq] at h
 split at h
 ·rename_i hx; cases h; exact (Classical.choose_spec hx).symm
 ·cases h
theorem lgG_of (L : Lg) : lgG (lgT L) = some L := by
 have hx : ∃ M : Lg, M.cs = lgT L := ⟨L, (lgT_eq L).symm⟩
 rw [lgG, opq_eq, dif_pos hx]
 congr 1
 exact cs_inj ((Classical.choose_spec hx).trans (lgT_eq L))
theorem lgG_lv (L : Lg) : lgG [.int .i64 (lv0 L), .int .i64 (lv1 L), .int .i64 (lv2 L), .int .i64 (lv3 L), .int .i64 (lv4 L)] = some L := lgG_of L
noncomputable def lgO (i : Nat) (L : Lg) : Ob := .cells (.ptr (i + 2) 0 :: lgT L)
noncomputable def onL (x : AV) (st : St) (k : Nat → Nat → Dk → Lg → Ans) : Ans :=
 match x with
 | .ptr j o => match Nat.beq o 0 with
  | true => match st.objs[j]? with
   | some (.cells (q :: t)) => onD q st fun i X => onSome (lgG t) none fun L => k j i X L
   | _ => none
  | false => none
 | _ => none
noncomputable def plL (st : St) (j i : Nat) (L : Lg) : St := ⟨st.objs.set j (lgO i L), st.tk⟩
theorem onL_spec {x : AV} {st : St} {k : Nat → Nat → Dk → Lg → Ans} {fin : Fin × St} (h : onL x st k = some fin) : ∃ j i a b c d X L, x = .ptr j 0 ∧ st.objs[j]? = some (lgO i L) ∧ st.objs[i]? = some a ∧ st.objs[i + 1]? = some b ∧ st.objs[i + 2]? = some c ∧ st.objs[i + 3]? = some d ∧ isD i a b c d X ∧ k j i X L = some fin := by
 unfold onL at h
 split at h
 ·rename_i j o
  split at h
  ·rename_i ho
   obtain rfl := Nat.eq_of_beq_eq_true ho
   split at h
   ·rename_i q t hj
    obtain ⟨i, a, b, c, d, X, rfl, h0, h1, h2, h3, hd, h⟩ := onD_spec h
    unfold onSome at h
    split at h
    ·cases h
    ·rename_i L hL
     refine ⟨j, i, a, b, c, d, X, L, rfl, ?_, h0, h1, h2, h3, hd, h⟩
     rw [hj, lgO, lgG_spec hL, lgT_eq]
   ·cases h
  ·cases h
 ·cases h
theorem lg_out {st : St} {i j : Nat} {L : Lg} {a b c d : Ob} {X : Dk} (hj : st.objs[j]? = some (lgO i L)) (h0 : st.objs[i]? = some a) (h1 : st.objs[i + 1]? = some b) (h2 : st.objs[i + 2]? = some c) (h3 : st.objs[i + 3]? = some d) (hd : isD i a b c d X) : ¬ (i ≤ j ∧ j < i + 4) := by
 rintro ⟨p1, p2⟩
 obtain ⟨hX, _, e0, e1, e2, e3⟩ := hd
 have : j = i ∨ j = i + 1 ∨ j = i + 2 ∨ j = i + 3 := by omega
 rcases this with rfl | rfl | rfl | rfl
 ·rw [hj] at h0; cases h0
  rw [Dk.at0, lgO] at e0
  simp only [Ob.cells.injEq] at e0
  cases hb : X.ls with
  | nil => rw [hb] at e0; cases e0
  | cons x xs => rw [hb] at e0; simp [bC] at e0
 ·rw [hj] at h1; cases h1; cases e1
 ·rw [hj] at h2; cases h2
  rw [Dk.at2, lgO] at e2
  simp only [Ob.cells.injEq, List.cons.injEq] at e2
  cases e2.1
 ·rw [hj] at h3; cases h3
  rcases hX.flatW with ⟨v, cs, h, _⟩ | ⟨v, h⟩
  ·rw [h] at e3; cases e3
  ·rw [h] at e3; cases e3
def rhoL (i j k : Nat) : Nat := if k = 4 then j else i + k
def invL (i j k : Nat) : Option Nat := if k = j then some 4 else invD i k
theorem inv_rhoL {i j : Nat} (h : ¬ (i ≤ j ∧ j < i + 4)) : Inv (rhoL i j) 5 (invL i j) := by
 refine ⟨fun k hk => ?_, fun k m hm => ?_⟩
 ·unfold rhoL invL
  by_cases e : k = 4
  ·subst e; simp
  ·rw [if_neg e, if_neg (by omega)]
   exact (inv_rho i).to k (by omega)
 ·unfold invL at hm
  split at hm
  ·rename_i e
   cases hm; subst e
   exact ⟨by omega, by simp [rhoL]⟩
  ·obtain ⟨h1, h2⟩ := (inv_rho i).of k m hm
   exact ⟨by omega, by rw [rhoL, if_neg (by omega)]; exact h2⟩
theorem lgO_ren {τ : Nat → Nat} {i : Nat} (h2 : τ 2 = i + 2) (L : Lg) : renO τ (.cells (.ptr 2 0 :: L.cs)) = lgO i L := by
 show Ob.cells (.ptr (τ 2) 0 :: renL τ L.cs) = _
 rw [h2, lgO, lgT_eq]; rfl
def lgC (L : Lg) : Ob := .cells (.ptr 2 0 :: L.cs)
theorem lg_near (L : Lg) : NearO 5 (lgC L) := ⟨by show 2 < 5; omega, trivial, trivial, trivial, trivial, trivial, trivial⟩
theorem obs_near5 {X : Dk} (h : X.Ok) : ∀ o ∈ X.obs, NearO 5 o := by
 intro o ho
 simp only [Dk.obs, List.mem_cons, List.not_mem_nil, or_false] at ho
 rcases ho with rfl | rfl | rfl | rfl
 ·exact flat_near (flat_bC _)
 ·exact h.near1 5
 ·refine ⟨by show 0 < 5; omega, by show 1 < 5; omega, ?_, trivial⟩
  unfold Dk.wr
  split
  ·trivial
  ·show 3 < 5; omega
 ·exact h.nearW 5
theorem lg_lies {st : St} {i j : Nat} {L : Lg} {a b c d : Ob} {X : Dk} (hj : st.objs[j]? = some (lgO i L)) (h0 : st.objs[i]? = some a) (h1 : st.objs[i + 1]? = some b) (h2 : st.objs[i + 2]? = some c) (h3 : st.objs[i + 3]? = some d) (hd : isD i a b c d X) : Lies st (X.obs ++ [lgC L]) (rhoL i j) 5 (invL i j) := by
 have ho := lg_out hj h0 h1 h2 h3 hd
 obtain ⟨hX, _, e0, e1, e2, e3⟩ := hd
 refine ⟨rfl, inv_rhoL ho, fun k o hk => ?_, fun o ho => ?_⟩
 ·match k, hk with
  | 0, hk =>
   cases hk
   rw [at0_ren, e0]; exact h0
  | 1, hk =>
   cases hk
   rw [show renO (rhoL i j) (.map X.es) = X.at1 from hX.ren1 _, e1]; exact h1
  | 2, hk =>
   cases hk
   rw [at2_ren (τ := rhoL i j) (i := i) rfl rfl rfl, e2]; exact h2
  | 3, hk =>
   cases hk
   rw [hX.renW, e3]; exact h3
  | 4, hk =>
   cases hk
   rw [lgC, lgO_ren (τ := rhoL i j) (i := i) rfl]; exact hj
  | k + 5, hk => simp [Dk.obs] at hk
 ·rcases List.mem_append.mp ho with ho | ho
  ·exact obs_near5 hX o ho
  ·simp at ho; subst ho; exact lg_near L
theorem plL_length (st : St) (j i : Nat) (L : Lg) : (plL st j i L).objs.length = st.objs.length := by simp [plL]
theorem lg_placed {f : Fun Try.prog} {F : Nat} {X Y : Dk} {L M : Lg} {args0 : List AV} {r : AV} {xs : List Ob} {xt : List (Nat × Nat)} (hrun : f.run F args0 ⟨X.obs ++ [lgC L], []⟩ = some (.ret r, ⟨Y.obs ++ lgC M :: xs, xt⟩)) (hY : Y.Ok) (ha : NearL 5 args0) (hr : Near 5 (frz r))
  {st : St} {i j : Nat} {a b c d : Ob} (hj : st.objs[j]? = some (lgO i L)) (h0 : st.objs[i]? = some a) (h1 : st.objs[i + 1]? = some b) (h2 : st.objs[i + 2]? = some c) (h3 : st.objs[i + 3]? = some d) (hd : isD i a b c d X) :
  CallsTo Try.prog f.id (renL (rhoL i j) args0) st (.ret (ren (nx (rhoL i j) 5 st.objs.length) (frz r)), plL (plD st i Y) j i M) := by
 have hl := getElem?_lt h3
 have hlj := getElem?_lt hj
 have ho := lg_out hj h0 h1 h2 h3 hd
 have n4 : ∀ k, k < 4 → nx (rhoL i j) 5 st.objs.length k = i + k := fun k hk => by rw [nx, if_pos (by omega), rhoL, if_neg (by omega)]
 have n5 : nx (rhoL i j) 5 st.objs.length 4 = j := by rw [nx, if_pos (by omega)]; rfl
 refine placed (f.sound hrun) (Nat.le_refl 5) (by simp [Dk.obs]) ha hr (fun k o hk hko => ?_) (lg_lies hj h0 h1 h2 h3 hd) rfl (by rw [plL_length, plD_length]; omega) (fun k o hk hko => ?_) (fun k hk hi => ?_)
 ·match k, hk, hko with
  | 0, _, hko => cases hko; exact flat_near (flat_bC _)
  | 1, _, hko => cases hko; exact hY.near1 5
  | 2, _, hko => cases hko; exact obs_near5 hY _ (by simp [Dk.obs])
  | 3, _, hko => cases hko; exact hY.nearW 5
  | 4, _, hko => cases hko; exact lg_near M
  | k + 5, hk, _ => omega
 ·match k, hk, hko with
  | 0, _, hko =>
   cases hko
   rw [at0_ren, n4 0 (by omega), plL, plD]
   simp only [Nat.add_zero]
   rw [List.getElem?_set_ne (by omega), List.getElem?_set_ne (by omega), List.getElem?_set_ne (by omega), List.getElem?_set_ne (by omega), List.getElem?_set_self (by omega), dk0, opq_eq]
  | 1, _, hko =>
   cases hko
   rw [show renO _ (Ob.map Y.es) = Y.at1 from hY.ren1 _, n4 1 (by omega), plL, plD]
   simp only
   rw [List.getElem?_set_ne (by omega), List.getElem?_set_ne (by omega), List.getElem?_set_ne (by omega), List.getElem?_set_self (by simp; omega), dk1, opq_eq]
  | 2, _, hko =>
   cases hko
   rw [at2_ren (i := i) (n4 0 (by omega)) (n4 1 (by omega)) (n4 3 (by omega)), n4 2 (by omega), plL, plD]
   simp only
   rw [List.getElem?_set_ne (by omega), List.getElem?_set_ne (by omega), List.getElem?_set_self (by simp; omega), dk2, opq_eq]
  | 3, _, hko =>
   cases hko
   rw [hY.renW, n4 3 (by omega), plL, plD]
   simp only
   rw [List.getElem?_set_ne (by omega), List.getElem?_set_self (by simp; omega), dk3, opq_eq]
  | 4, _, hko =>
   cases hko
   rw [lgC, lgO_ren (τ := nx (rhoL i j) 5 st.objs.length) (i := i) (n4 2 (by omega)), n5, plL]
   simp only
   rw [List.getElem?_set_self (by rw [plD_length]; exact hlj)]
  | k + 5, hk, _ => omega
 ·have hn : k ≠ j ∧ ¬ (i ≤ k ∧ k < i + 4) := by
   simp only [invL] at hi
   split at hi
   ·cases hi
   ·rename_i hkj
    refine ⟨hkj, fun e => ?_⟩
    simp only [invD] at hi
    rw [if_pos e] at hi; cases hi
  rw [plL, plD]
  simp only
  rw [List.getElem?_set_ne (by omega), List.getElem?_set_ne (by omega), List.getElem?_set_ne (by omega), List.getElem?_set_ne (by omega), List.getElem?_set_ne (by omega)]
noncomputable def f36_b : Sim Try.prog :=
 (.seq (.live [0] (.region 0 [
 ⟨(opAssign (some 2) (.const (Value.int IntKind.i64 0)) 3 "wal.go:109" #[]).op, none⟩
 ] (by kernel_rfl)))
 (.seq (.live [2] (.region 1 [
 ⟨(opMove (some 3) (.tmp 0) 25 "wal.go:109" #[]).op, none⟩,
 ⟨(opMove (some 4) (.tmp 0) 25 "wal.go:109" #[]).op, none⟩,
 ⟨opCall (f46.orc 0) (some 5) [(.tmp 4)] #[25] 3 "wal.go:109" #[eD 1], none⟩,
 ⟨(opBin (some 6) .mul 3 (.const (Value.int IntKind.i64 2)) (.tmp 5) 3 3 "wal.go:109" #[eD 2]).op, none⟩,
 ⟨(opBin (some 7) .add 3 (.const (Value.int IntKind.i64 2)) (.tmp 6) 3 3 "wal.go:109" #[eD 3]).op, none⟩,
 ⟨(opCallQ q37 (some 8) [(.tmp 3), (.const (Value.int IntKind.i64 2)), (.tmp 7)] #[25, 3, 3] 3 "wal.go:109" #[eD 0, eD 4, eC 2]).op, none⟩,
 ⟨(opBin (some 9) .add 3 (.tmp 8) (.const (Value.int IntKind.i64 1)) 3 3 "wal.go:109" #[eD 5]).op, none⟩,
 ⟨(opAssign (some 2) (.tmp 9) 3 "wal.go:109" #[eD 6, eC 5, eP 0, eP 1, eP 2, eP 3, eP 4, eP 5, eP 6]).op, none⟩
 ] (by kernel_rfl)))
 (.live [2] .ret)))
noncomputable def f36 : Fun Try.prog where
 id := 36
 fn := Try.f36
 hf := Try.func36
 hname := by kernel_rfl
 body := f36_b
 hbody := by kernel_rfl
 res := [rTmp 2]
 hres := by kernel_rfl
 n := 10
 hn := by kernel_rfl
theorem half_run (F : Nat) (X : Dk) :
 (f46.run F [.ptr 2 0] ⟨[dk0 X, dk1 X, dk2 0 X, dk3 X], []⟩ : Ans) =
 onSome (dkG 0 (dk0 X) (dk1 X) (dk2 0 X) (dk3 X)) none fun (o : Dk) =>
 some
 (Fin.ret (.int .i64 (IntKind.i64.wrap ((IntKind.i64.wrap ((↑o.n : Int) - 2)).tdiv (2 : Int)))),
 St.mk [dk0 X, dk1 X, dk2 0 X, dk3 X] []) := by kernel_rfl
theorem next_run (F : Nat) (X : Dk) :
 (f36.run F [.ptr 2 0] ⟨[dk0 X, dk1 X, dk2 0 X, dk3 X], []⟩ : Ans) =
 onSome (dkG 0 (dk0 X) (dk1 X) (dk2 0 X) (dk3 X)) none fun (o : Dk) =>
 onSome (dkG 0 (dk0 X) (dk1 X) (dk2 0 X) (dk3 X)) none fun (o_1 : Dk) =>
 branch
 (AV.bool
 (true &&
 (true &&
 decide
 ((0 : Int) ≤ 2 ∧
 (2 : Int) ≤
 IntKind.i64.wrap
 ((2 : Int) +
 IntKind.i64.wrap
 ((2 : Int) *
 IntKind.i64.wrap ((IntKind.i64.wrap ((↑o.n : Int) - 2)).tdiv (2 : Int)))) ∧
 IntKind.i64.wrap
 ((2 : Int) +
 IntKind.i64.wrap
 ((2 : Int) *
 IntKind.i64.wrap ((IntKind.i64.wrap ((↑o.n : Int) - 2)).tdiv (2 : Int)))) ≤
 (↑o_1.n : Int)))))
 (some
 (Fin.ret
 (AV.int IntKind.i64
 (IntKind.i64.wrap
 (o_1.mostV (2 : Int)
 (IntKind.i64.wrap
 ((2 : Int) +
 IntKind.i64.wrap
 ((2 : Int) *
 IntKind.i64.wrap ((IntKind.i64.wrap ((↑o.n : Int) - 2)).tdiv (2 : Int))))) +
 (1 : Int)))),
 St.mk [dk0 X, dk1 X, dk2 0 X, dk3 X] []))
 none := by kernel_rfl
def Dk.half (X : Dk) : Nat := (X.n - 2) / 2
noncomputable def Dk.halfV (X : Dk) : Int := opq ((X.half : Nat) : Int)
def Dk.next (X : Dk) : Nat := X.most 2 (2 * X.half) 0 + 1
noncomputable def Dk.nextV (X : Dk) : Int := opq ((X.next : Nat) : Int)
theorem half_w {X : Dk} (h : X.Ok) (h2 : 2 ≤ X.n) : IntKind.i64.wrap ((IntKind.i64.wrap ((X.n : Int) - 2)).tdiv 2) = ((X.half : Nat) : Int) := by
 have hn1 := h.n1
 rw [show (X.n : Int) - 2 = ((X.n - 2 : Nat) : Int) by omega, wrap_nat (by omega), Int.tdiv_eq_ediv_of_nonneg (by omega)]
 rw [show ((X.n - 2 : Nat) : Int) / 2 = (((X.n - 2) / 2 : Nat) : Int) by omega, wrap_nat (by omega)]; rfl
theorem half_can {F : Nat} {X : Dk} (h : X.Ok) (hw : X.ws.length < 999999) (h2 : 2 ≤ X.n) : f46.run F [.ptr 2 0] ⟨X.obs, []⟩ = some (.ret (.int .i64 X.halfV), ⟨X.obs, []⟩) := by
 rw [dk_obs h, half_run, gD h hw, onSome_some, half_w h h2, Dk.halfV, opq_eq]
noncomputable def q46 : OrcQ Try.prog := f46.byQ
 (fun args st k => match args with
  | [x] => onD x st fun i X => ifT (decide (2 ≤ X.n)) (k (.int .i64 X.halfV))
  | _ => none)
 fun args st k fin h => by
  split at h
  ·rename_i x
   obtain ⟨i, o0, o1, o2, o3, X, rfl, h0, h1, h2, h3, hd, g901⟩ := onD_spec h
   obtain ⟨hk, g904⟩ := ifT_spec g901
   simp only [decide_eq_true_eq] at hk
   have := dk_placed (f := f46) (r := .int .i64 X.halfV) (args0 := [.ptr 2 0]) (xs := []) (X := X) (Y := X) (F := 0) (by rw [List.append_nil]; exact half_can hd.1 hd.2.1 hk) hd.1 ⟨by show 2 < 4; omega, trivial⟩ trivial hd h0 h1 h2 h3
   rw [same_plD hd h0 h1 h2 h3] at this
   exact ⟨_, g904, this⟩
  ·cases h
theorem q46_nat : q46.NatQ := by
 intro args st k
 simp only [q46, Fun.byQ]
 split
 ·exact onD_nat fun i Y => ifT_nat rfl
 ·rfl
theorem next_can {F : Nat} {X : Dk} (h : X.Ok) (hw : X.ws.length < 999999) (h2 : 2 ≤ X.n) : f36.run F [.ptr 2 0] ⟨X.obs, []⟩ = some (.ret (.int .i64 X.nextV), ⟨X.obs, []⟩) := by
 have hn1 := h.n1
 have hh : X.half = (X.n - 2) / 2 := rfl
 have hm : ∀ (d a n : Nat), a + d ≤ X.n → n < 4294967296 → X.most a d n < 4294967296 := by
  intro d
  induction d with
  | zero => intro a n _ hn; exact hn
  | succ d ih =>
   intro a n ha hn
   have := numB_lt (h.sector_len (k := a) (by omega)).2 0
   exact ih (a + 1) _ (by omega) (by omega)
 have hb := hm (2 * X.half) 2 0 (by omega) (by omega)
 rw [dk_obs h, next_run, gD h hw, onSome_some, onSome_some, half_w h h2]
 rw [show (2 : Int) * ((X.half : Nat) : Int) = ((2 * X.half : Nat) : Int) by omega, wrap_nat (by omega), show (2 : Int) + ((2 * X.half : Nat) : Int) = ((2 + 2 * X.half : Nat) : Int) by omega, wrap_nat (by omega)]
 rw [branch_of (by simp; omega), Dk.mostV, opq_eq, show ((2 + 2 * X.half : Nat) : Int).toNat - (2 : Int).toNat = 2 * X.half by rw [Int.toNat_natCast]; show 2 + 2 * X.half - 2 = _; omega, show (2 : Int).toNat = 2 from rfl, show ((X.most 2 (2 * X.half) 0 : Nat) : Int) + 1 = ((X.next : Nat) : Int) from rfl, wrap_nat (by show X.most 2 (2 * X.half) 0 + 1 < _; omega), Dk.nextV, opq_eq]
noncomputable def q36 : OrcQ Try.prog := f36.byQ
 (fun args st k => match args with
  | [x] => onD x st fun i X => ifT (decide (2 ≤ X.n)) (k (.int .i64 X.nextV))
  | _ => none)
 fun args st k fin h => by
  split at h
  ·rename_i x
   obtain ⟨i, o0, o1, o2, o3, X, rfl, h0, h1, h2, h3, hd, g901⟩ := onD_spec h
   obtain ⟨hk, g904⟩ := ifT_spec g901
   simp only [decide_eq_true_eq] at hk
   have := dk_placed (f := f36) (r := .int .i64 X.nextV) (args0 := [.ptr 2 0]) (xs := []) (X := X) (Y := X) (F := 0) (by rw [List.append_nil]; exact next_can hd.1 hd.2.1 hk) hd.1 ⟨by show 2 < 4; omega, trivial⟩ trivial hd h0 h1 h2 h3
   rw [same_plD hd h0 h1 h2 h3] at this
   exact ⟨_, g904, this⟩
  ·cases h
theorem q36_nat : q36.NatQ := by
 intro args st k
 simp only [q36, Fun.byQ]
 split
 ·exact onD_nat fun i Y => ifT_nat rfl
 ·rfl
theorem q37_nat : q37.NatQ := by
 intro args st k
 simp only [q37, Fun.byQ]
 split
 ·exact onD_nat fun i Y => onInt_nat fun _ _ => onInt_nat fun _ _ => ifT_nat rfl
 ·rfl
theorem fl71_0 : fieldB Try.prog 71 0 0 1 false = true := by kernel_rfl
theorem sz25 : (Try.prog.info? 25).map (·.size) = some 1 := by kernel_rfl
theorem fl71_2 : fieldB Try.prog 71 2 4 1 false = true := by kernel_rfl
theorem fl71_1 : fieldB Try.prog 71 1 1 3 true = true := by kernel_rfl
noncomputable def f18_b : Sim Try.prog :=
 (.seq (.live [0] (.region 0 [
 ⟨(opAssign (some 2) (.const (Value.int IntKind.i64 0)) 3 "wal.go:215" #[]).op, none⟩
 ] (by kernel_rfl)))
 (.seq (.live [2] (.draw 1 [
 ⟨.p (opMove (some 3) (.tmp 0) 29 "wal.go:215" #[]), none⟩,
 ⟨.p (opNilCheck (some 4) (.tmp 3) 0 "wal.go:215" #[eD 0]), none⟩,
 ⟨.pn (opFieldAddr (some 5) 71 (.tmp 4) 0 0 1 false fl71_0 (by decide) 0 "wal.go:215" #[eD 1]) opFieldAddr_nat, none⟩,
 ⟨.qn (opLoadT (.one .any) (some 6) 25 (.tmp 5) (.pointer 79) Try.underlying25 1 sz25 (by kernel_rfl) 25 "wal.go:215" #[eD 2]) opLoadT_nat, none⟩,
 ⟨.qn (opCallQ q46 (some 7) [(.tmp 6)] #[25] 3 "wal.go:215" #[eD 3]) (opCallQ_nat q46_nat), none⟩,
 ⟨.p (opMove (some 8) (.tmp 0) 29 "wal.go:215" #[]), none⟩,
 ⟨.p (opNilCheck (some 9) (.tmp 8) 0 "wal.go:215" #[eD 5]), none⟩,
 ⟨.pn (opFieldAddr (some 10) 71 (.tmp 9) 2 4 1 false fl71_2 (by decide) 0 "wal.go:215" #[eD 6]) opFieldAddr_nat, none⟩,
 ⟨.qn (opLoadT (.one (.int .i64)) (some 11) 3 (.tmp 10) (.int .i64) Try.underlying3 1 sz3 (by kernel_rfl) 3 "wal.go:215" #[eD 7]) opLoadT_nat, none⟩,
 ⟨.pn (opBin (some 12) .sub 3 (.tmp 7) (.tmp 11) 3 3 "wal.go:215" #[eD 4, eD 8]) opBin_nat, none⟩,
 ⟨.p (opAssign (some 2) (.tmp 12) 3 "wal.go:215" #[eD 9, eC 4, eP 0, eP 1, eP 2, eP 3, eP 4, eP 5, eP 6, eP 7, eP 8, eP 9]), none⟩
 ] mixed (by kernel_rfl)))
 (.live [2] .ret)))
noncomputable def f18 : Fun Try.prog where
 id := 18
 fn := Try.f18
 hf := Try.func18
 hname := by kernel_rfl
 body := f18_b
 hbody := by kernel_rfl
 res := [rTmp 2]
 hres := by kernel_rfl
 n := 13
 hn := by kernel_rfl
noncomputable def f61_b : Sim Try.prog :=
 (.seq (.live [0, 1, 2] (.region 0 [
 ⟨(opAssign (some 6) (.const (Value.int IntKind.i64 0)) 3 "wal.go:106" #[]).op, none⟩
 ] (by kernel_rfl)))
 (.seq (.live [6] (.region 1 [
 ⟨(opMove (some 7) (.tmp 1) 3 "wal.go:106" #[]).op, none⟩,
 ⟨(opMove (some 8) (.tmp 0) 29 "wal.go:106" #[]).op, none⟩,
 ⟨(opNilCheck (some 9) (.tmp 8) 0 "wal.go:106" #[eD 1]).op, none⟩,
 ⟨(opFieldAddr (some 10) 71 (.tmp 9) 0 0 1 false fl71_0 (by decide) 0 "wal.go:106" #[eD 2]).op, none⟩,
 ⟨(opLoadT (.one .any) (some 11) 25 (.tmp 10) (.pointer 79) Try.underlying25 1 sz25 (by kernel_rfl) 25 "wal.go:106" #[eD 3]).op, none⟩,
 ⟨(opCallQ q46 (some 12) [(.tmp 11)] #[25] 3 "wal.go:106" #[eD 4]).op, none⟩,
 ⟨(opBin (some 13) .mul 3 (.tmp 7) (.tmp 12) 3 3 "wal.go:106" #[eD 0, eD 5]).op, none⟩,
 ⟨(opBin (some 14) .add 3 (.const (Value.int IntKind.i64 2)) (.tmp 13) 3 3 "wal.go:106" #[eD 6]).op, none⟩,
 ⟨(opMove (some 15) (.tmp 2) 3 "wal.go:106" #[]).op, none⟩,
 ⟨(opBin (some 16) .add 3 (.tmp 14) (.tmp 15) 3 3 "wal.go:106" #[eD 7, eD 8]).op, none⟩,
 ⟨(opAssign (some 6) (.tmp 16) 3 "wal.go:106" #[eD 9, eC 5, eP 0, eP 1, eP 2, eP 3, eP 4, eP 5, eP 6, eP 7, eP 8, eP 9]).op, none⟩
 ] (by kernel_rfl)))
 (.live [6] .ret)))
noncomputable def f61 : Fun Try.prog where
 id := 61
 fn := Try.f61
 hf := Try.func61
 hname := by kernel_rfl
 body := f61_b
 hbody := by kernel_rfl
 res := [rTmp 6]
 hres := by kernel_rfl
 n := 17
 hn := by kernel_rfl
noncomputable def f38_b : Sim Try.prog :=
 (.seq (.live [0] (.draw 0 [
 ⟨.p (opMove (some 2) (.tmp 0) 29 "wal.go:113" #[]), none⟩,
 ⟨.p (opNilCheck (some 3) (.tmp 2) 0 "wal.go:113" #[eD 0]), none⟩,
 ⟨.pn (opFieldAddr (some 4) 71 (.tmp 3) 0 0 1 false fl71_0 (by decide) 0 "wal.go:113" #[eD 1]) opFieldAddr_nat, none⟩,
 ⟨.qn (opLoadT (.one .any) (some 5) 25 (.tmp 4) (.pointer 79) Try.underlying25 1 sz25 (by kernel_rfl) 25 "wal.go:113" #[eD 2]) opLoadT_nat, none⟩,
 ⟨.p (opMove (some 6) (.tmp 0) 29 "wal.go:113" #[]), none⟩,
 ⟨.p (opNilCheck (some 7) (.tmp 6) 0 "wal.go:113" #[eD 4]), none⟩,
 ⟨.pn (opFieldAddr (some 8) 71 (.tmp 7) 1 1 3 true fl71_1 (by decide) 0 "wal.go:113" #[eD 5]) opFieldAddr_nat, none⟩,
 ⟨.pn (opFieldAddr (some 9) 69 (.tmp 8) 0 0 1 false fl69_0 (by decide) 0 "wal.go:113" #[eD 6]) opFieldAddr_nat, none⟩,
 ⟨.qn (opLoadT (.one (.int .i64)) (some 10) 3 (.tmp 9) (.int .i64) Try.underlying3 1 sz3 (by kernel_rfl) 3 "wal.go:113" #[eD 7]) opLoadT_nat, none⟩,
 ⟨.pn (opBin (some 11) .rem 3 (.tmp 10) (.const (Value.int IntKind.i64 2)) 3 3 "wal.go:113" #[eD 8]) opBin_nat, none⟩,
 ⟨.p (opMove (some 12) (.tmp 0) 29 "wal.go:113" #[]), none⟩,
 ⟨.p (opNilCheck (some 13) (.tmp 12) 0 "wal.go:113" #[eD 10]), none⟩,
 ⟨.pn (opFieldAddr (some 14) 71 (.tmp 13) 1 1 3 true fl71_1 (by decide) 0 "wal.go:113" #[eD 11]) opFieldAddr_nat, none⟩,
 ⟨.qn (opLoadT (.agg [(.int .i64), (.int .i64), (.int .i64)]) (some 15) 69 (.tmp 14) d69 ud69 3 sz69 (by kernel_rfl) 69 "wal.go:113" #[eD 12]) opLoadT_nat, none⟩,
 ⟨.pn (opCallP p57 (some 16) [(.tmp 15)] #[69] 81 "wal.go:113" #[eD 13]) (opCallP_nat p57_nat), none⟩,
 ⟨.mn (opCallM (s56) (some 17) [(.tmp 5), (.tmp 11), (.tmp 16)] #[25, 3, 33] 26 "wal.go:113" #[eD 3, eD 9, eD 14, eC 14]) (opCallM_nat s56_nat), none⟩
 ] mixed (by kernel_rfl)))
 (.live [] (.region 1 [
 ⟨(opMove (some 18) (.tmp 0) 29 "wal.go:114" #[]).op, none⟩,
 ⟨(opNilCheck (some 19) (.tmp 18) 0 "wal.go:114" #[eD 0]).op, none⟩,
 ⟨(opFieldAddr (some 20) 71 (.tmp 19) 0 0 1 false fl71_0 (by decide) 0 "wal.go:114" #[eD 1]).op, none⟩,
 ⟨(opLoadT (.one .any) (some 21) 25 (.tmp 20) (.pointer 79) Try.underlying25 1 sz25 (by kernel_rfl) 25 "wal.go:114" #[eD 2]).op, none⟩,
 ⟨opCall (s41).orc (some 22) [(.tmp 21)] #[25] 0 "wal.go:114" #[eD 3], none⟩
 ] (by kernel_rfl))))
noncomputable def f38 : Fun Try.prog where
 id := 38
 fn := Try.f38
 hf := Try.func38
 hname := by kernel_rfl
 body := f38_b
 hbody := by kernel_rfl
 res := []
 hres := by kernel_rfl
 n := 23
 hn := by kernel_rfl
theorem room_run (F : Nat) (X : Dk) (g a f p s : Int) :
 (f18.run F [.ptr 4 0] ⟨[dk0 X, dk1 X, dk2 0 X, dk3 X, .cells [.ptr 2 0, .int .i64 g, .int .i64 a, .int .i64 f, .int .i64 p, .int .i64 s]], []⟩ : Ans) =
 onSome (dkG 0 (dk0 X) (dk1 X) (dk2 0 X) (dk3 X)) none fun (o : Dk) =>
 branch (.bool (decide (2 ≤ o.n)))
 (some
 (Fin.ret (.int .i64 (IntKind.i64.wrap (o.halfV - p))),
 St.mk
 [dk0 X, dk1 X, dk2 0 X, dk3 X,
 Ob.cells
 [AV.ptr 2 0, .int .i64 g, .int .i64 a, .int .i64 f,
 .int .i64 p, .int .i64 s]]
 []))
 none := by kernel_rfl
theorem place_run (F : Nat) (X : Dk) (g a f p s n m : Int) :
 (f61.run F [.ptr 4 0, .int .i64 n, .int .i64 m] ⟨[dk0 X, dk1 X, dk2 0 X, dk3 X, .cells [.ptr 2 0, .int .i64 g, .int .i64 a, .int .i64 f, .int .i64 p, .int .i64 s]], []⟩ : Ans) =
 onSome (dkG 0 (dk0 X) (dk1 X) (dk2 0 X) (dk3 X)) none fun (o : Dk) =>
 branch (.bool (decide (2 ≤ o.n)))
 (some
 (Fin.ret
 (.int .i64 (IntKind.i64.wrap (IntKind.i64.wrap ((2 : Int) + IntKind.i64.wrap (n * o.halfV)) + m))),
 St.mk
 [dk0 X, dk1 X, dk2 0 X, dk3 X,
 Ob.cells
 [AV.ptr 2 0, .int .i64 g, .int .i64 a, .int .i64 f,
 .int .i64 p, .int .i64 s]]
 []))
 none := by kernel_rfl
theorem crown_run (F : Nat) (X : Dk) (g a f p s : Int) :
 (f38.run F [.ptr 4 0] ⟨[dk0 X, dk1 X, dk2 0 X, dk3 X, .cells [.ptr 2 0, .int .i64 g, .int .i64 a, .int .i64 f, .int .i64 p, .int .i64 s]], []⟩ : Ans) =
 branch (.bool (decide ((0 : Int) ≤ g) && (decide ((0 : Int) ≤ a) && decide ((0 : Int) ≤ f))))
 (onSome (dkG 0 (dk0 X) (dk1 X) (dk2 0 X) (dk3 X)) none fun (o : Dk) =>
 branch (.bool (byOk (headV g a f)))
 (onSome
 (dkG 0 (dk0 (o.wrX (g.tmod (2 : Int)) (nR (headV g a f))))
 (dk1 (o.wrX (g.tmod (2 : Int)) (nR (headV g a f))))
 (dk2 0 (o.wrX (g.tmod (2 : Int)) (nR (headV g a f))))
 (dk3 (o.wrX (g.tmod (2 : Int)) (nR (headV g a f)))))
 none fun (o : Dk) =>
 some
 (Fin.ret (AV.tup []),
 St.mk
 [dk0 o.flush, dk1 o.flush, dk2 0 o.flush, dk3 o.flush,
 Ob.cells
 [AV.ptr 2 0, .int .i64 g, .int .i64 a, .int .i64 f,
 .int .i64 p, .int .i64 s]]
 []))
 none)
 none := by kernel_rfl
theorem onL_th {x : AV} {st : St} {s s' : Nat → Nat → Dk → Lg → Ans} {k : Fin → St → Ans} (h : ∀ j i X L, s j i X L = thS (s' j i X L) k) : onL x st s = thS (onL x st s') k := by
 unfold onL
 split
 ·split
  ·split
   ·refine onD_th fun i X => ?_
    unfold onSome
    split
    ·rfl
    ·exact h _ _ _ _
   ·rfl
  ·rfl
 ·rfl
theorem onL_nat {x : AV} {st : St} {s s' : Nat → Nat → Dk → Lg → Ans} {K : AV → Ans} (h : ∀ j i X L, s j i X L = thenA (s' j i X L) K) : onL x st s = thenA (onL x st s') K := by
 unfold onL
 split
 ·split
  ·split
   ·refine onD_nat fun i X => ?_
    unfold onSome
    split
    ·rfl
    ·exact h _ _ _ _
   ·rfl
  ·rfl
 ·rfl
theorem same_plL {st : St} {i j : Nat} {X : Dk} {L : Lg} {a b c d : Ob} (hj : st.objs[j]? = some (lgO i L)) (hd : isD i a b c d X) (h0 : st.objs[i]? = some a) (h1 : st.objs[i + 1]? = some b) (h2 : st.objs[i + 2]? = some c) (h3 : st.objs[i + 3]? = some d) : plL (plD st i X) j i L = st := by
 rw [same_plD hd h0 h1 h2 h3, plL]
 have : st.objs.set j (lgO i L) = st.objs := by
  apply List.ext_getElem?
  intro m
  rw [List.getElem?_set]
  split
  ·rename_i e; subst e; rw [if_pos (getElem?_lt hj), hj]
  ·rfl
 rw [this]
noncomputable def roomV (X : Dk) (L : Lg) : Int := opq ((X.half : Int) - (L.p : Int))
noncomputable def placeV (X : Dk) (a p : Int) : Int := opq (2 + a * (X.half : Int) + p)
theorem room_can {F : Nat} {X : Dk} {L : Lg} (h : X.Ok) (hw : X.ws.length < 999999) (h2 : 2 ≤ X.n) (hp : L.p < 1000000) : f18.run F [.ptr 4 0] ⟨X.obs ++ [lgC L], []⟩ = some (.ret (.int .i64 (roomV X L)), ⟨X.obs ++ [lgC L], []⟩) := by
 have hn1 := h.n1
 have hh : X.half = (X.n - 2) / 2 := rfl
 rw [dk_obs h]
 refine (room_run F X _ _ _ _ _).trans ?_
 rw [gD h hw, onSome_some, branch_of (decide_eq_true h2), Dk.halfV, opq_eq, wrapS (by omega) (by omega), roomV, opq_eq]
 rfl
noncomputable def q18 : OrcQ Try.prog := f18.byQ
 (fun args st k => match args with
  | [x] => onL x st fun j i X L => ifT (decide (2 ≤ X.n) && cdec (L.p < 1000000)) (k (.int .i64 (roomV X L)))
  | _ => none)
 fun args st k fin h => by
  split at h
  ·rename_i x
   obtain ⟨j, i, o0, o1, o2, o3, X, L, rfl, hj, h0, h1, h2, h3, hd, g901⟩ := onL_spec h
   obtain ⟨hk, g904⟩ := ifT_spec g901
   simp only [Bool.and_eq_true, decide_eq_true_eq, cdec_iff] at hk
   have := lg_placed (f := f18) (r := .int .i64 (roomV X L)) (args0 := [.ptr 4 0]) (xs := []) (X := X) (Y := X) (L := L) (M := L) (F := 0) (room_can hd.1 hd.2.1 hk.1 hk.2) hd.1 ⟨by show 4 < 5; omega, trivial⟩ trivial hj h0 h1 h2 h3 hd
   rw [same_plL hj hd h0 h1 h2 h3] at this
   exact ⟨_, g904, this⟩
  ·cases h
theorem place_can {F : Nat} {X : Dk} {L : Lg} (h : X.Ok) (hw : X.ws.length < 999999) (h2 : 2 ≤ X.n) {a p : Int} (ha : 0 ≤ a ∧ a < 2) (hp : 0 ≤ p ∧ p < 1000000) : f61.run F [.ptr 4 0, .int .i64 a, .int .i64 p] ⟨X.obs ++ [lgC L], []⟩ = some (.ret (.int .i64 (placeV X a p)), ⟨X.obs ++ [lgC L], []⟩) := by
 have hn1 := h.n1
 have hh : X.half = (X.n - 2) / 2 := rfl
 have hm : 0 ≤ a * (X.half : Int) ∧ a * (X.half : Int) ≤ X.half := by
  have : a = 0 ∨ a = 1 := by omega
  rcases this with rfl | rfl
  ·rw [Int.zero_mul]; omega
  ·rw [Int.one_mul]; omega
 rw [dk_obs h]
 refine (place_run F X _ _ _ _ _ a p).trans ?_
 rw [gD h hw, onSome_some, branch_of (decide_eq_true h2), Dk.halfV, opq_eq, wrapS (n := a * (X.half : Int)) (by omega) (by omega), wrapS (n := 2 + a * (X.half : Int)) (by omega) (by omega), wrapS (by omega) (by omega), placeV, opq_eq]
 rfl
noncomputable def q61 : OrcQ Try.prog := f61.byQ
 (fun args st k => match args with
  | [x, y, z] => onL x st fun j i X L => onInt y fun kd a => onInt z fun kd' p => ifT (decide (kd = .i64) && (decide (kd' = .i64) && (decide (2 ≤ X.n) && (decide (0 ≤ a ∧ a < 2) && decide (0 ≤ p ∧ p < 1000000))))) (k (.int .i64 (placeV X a p)))
  | _ => none)
 fun args st k fin h => by
  split at h
  ·rename_i x y z
   obtain ⟨j, i, o0, o1, o2, o3, X, L, rfl, hj, h0, h1, h2, h3, hd, g901⟩ := onL_spec h
   obtain ⟨kd, a, g902, rfl⟩ := onInt_spec g901
   obtain ⟨kd', p, g903, rfl⟩ := onInt_spec g902
   obtain ⟨hk, g904⟩ := ifT_spec g903
   simp only [Bool.and_eq_true, decide_eq_true_eq] at hk
   obtain ⟨rfl, rfl, hk1, hk2, hk3⟩ := hk
   have := lg_placed (f := f61) (r := .int .i64 (placeV X a p)) (args0 := [.ptr 4 0, .int .i64 a, .int .i64 p]) (xs := []) (X := X) (Y := X) (L := L) (M := L) (F := 0) (place_can hd.1 hd.2.1 hk1 hk2 hk3) hd.1 ⟨by show 4 < 5; omega, trivial, trivial, trivial⟩ trivial hj h0 h1 h2 h3 hd
   rw [same_plL hj hd h0 h1 h2 h3] at this
   exact ⟨_, g904, this⟩
  ·cases h
theorem q61_nat : q61.NatQ := by
 intro args st k
 simp only [q61, Fun.byQ]
 split
 ·exact onL_nat fun j i Y L => onInt_nat fun _ _ => onInt_nat fun _ _ => ifT_nat rfl
 ·rfl
def Dk.crown (X : Dk) (L : Lg) : Dk := (X.wrX ((L.g % 2 : Nat) : Int) (headB L.g L.a L.f)).flush
theorem headV_ok (g a f : Nat) : byOk (headV g a f) = true ∧ nR (headV g a f) = headB g a f ∧ (headV g a f).length = 64 := by
 rw [headV, opq_eq]
 refine ⟨byOk_bR (headB_lt g a f) (by rw [show (headB (g : Int).toNat (a : Int).toNat (f : Int).toNat).length = 64 from rfl]; omega), nR_bR _, by rw [bR_length]; rfl⟩
theorem flush_ok {X : Dk} (h : X.Ok) : X.flush.Ok := h.settle _ _
theorem crown_ok {X : Dk} (h : X.Ok) (L : Lg) : (X.crown L).Ok := flush_ok (h.wrX (headB_lt _ _ _))
theorem crown_can {F : Nat} {X : Dk} {L : Lg} (h : X.Ok) (hw : X.ws.length < 999998) : f38.run F [.ptr 4 0] ⟨X.obs ++ [lgC L], []⟩ = some (.ret (.tup []), ⟨(X.crown L).obs ++ [lgC L], []⟩) := by
 obtain ⟨b1, b2, b3⟩ := headV_ok L.g L.a L.f
 have hx := h.wrX (k := ((L.g % 2 : Nat) : Int)) (b := headB L.g L.a L.f) (headB_lt _ _ _)
 have hl := wr_len (X := X) (k := ((L.g % 2 : Nat) : Int)) (b := headB L.g L.a L.f)
 rw [dk_obs h, dk_obs (crown_ok h L)]
 refine (crown_run F X _ _ _ _ _).trans ?_
 have e2 : ((L.g : Int)).tmod 2 = ((L.g % 2 : Nat) : Int) := by rw [Int.tmod_eq_emod_of_nonneg (by omega)]; omega
 rw [branch_of (by simp), gD h (by omega), onSome_some]
 refine (branch_of b1).trans ?_
 show onSome (dkG 0 (dk0 (X.wrX ((L.g : Int).tmod 2) (nR (headV L.g L.a L.f)))) (dk1 (X.wrX ((L.g : Int).tmod 2) (nR (headV L.g L.a L.f)))) (dk2 0 (X.wrX ((L.g : Int).tmod 2) (nR (headV L.g L.a L.f)))) (dk3 (X.wrX ((L.g : Int).tmod 2) (nR (headV L.g L.a L.f))))) none _ = _
 rw [e2, b2, gD' hx (by omega), onSome_some]
 rfl
noncomputable def s38 : OrcS Try.prog := f38.by'
 (fun args st k => match args with
  | [x] => onL x st fun j i X L => ifT (cdec (X.ws.length < 999998)) (k (.ret (.tup [])) (plL (plD st i (X.crown L)) j i L))
  | _ => none)
 fun args st k fin h => by
  split at h
  ·rename_i x
   obtain ⟨j, i, o0, o1, o2, o3, X, L, rfl, hj, h0, h1, h2, h3, hd, g901⟩ := onL_spec h
   obtain ⟨hk, g904⟩ := ifT_spec g901
   rw [cdec_iff] at hk
   have := lg_placed (f := f38) (r := .tup []) (args0 := [.ptr 4 0]) (xs := []) (X := X) (Y := X.crown L) (L := L) (M := L) (F := 0) (crown_can hd.1 hk) (crown_ok hd.1 L) ⟨by show 4 < 5; omega, trivial⟩ trivial hj h0 h1 h2 h3 hd
   exact ⟨_, _, g904, this⟩
  ·cases h
noncomputable def f58_b : Sim Try.prog :=
 (.seq (.live [2, 3] (.region 0 [
 ⟨(opBoxF (some 2) 33 (.tmp 0) 0 "iter.go:97" #[]).op, none⟩,
 ⟨(opBoxF (some 3) 3 (.tmp 1) 0 "iter.go:97" #[]).op, none⟩,
 ⟨(opAssign (some 4) (.const Value.nilFunc) 100 "iter.go:97" #[]).op, none⟩
 ] (by kernel_rfl)))
 (.seq (.seq (.live [2, 3, 6] (.region 1 [
 ⟨(opLoadT (.one (.int .i64)) (some 5) 3 (.tmp 3) (.int .i64) Try.underlying3 1 sz3 (by kernel_rfl) 3 "iter.go:98" #[]).op, none⟩,
 ⟨(opBin (some 6) .lss 3 (.tmp 5) (.const (Value.int IntKind.i64 1)) 3 4 "iter.go:98" #[eD 0]).op, none⟩
 ] (by kernel_rfl)))
 (.cond (.tmp 6)
 (Sim.never (Code.region 2 #[{ dst := (some 7), op := (Op.makeInterface 9 (Operand.const (Value.string { data := #[99, 97, 110, 110, 111, 116, 32, 98, 101, 32, 108, 101, 115, 115, 32, 116, 104, 97, 110, 32, 49] }))), type := 20, pos := "iter.go:99", after := #[], guard := none }, { dst := none, op := (Op.panic (Operand.tmp 7)), type := 0, pos := "iter.go:99", after := #[eD 0], guard := none }] false))
 .skip))
 (.seq (.live [4] (.region 3 [
 ⟨(opMakeFunc (some 8) (Fn.func 75) #[] #[(.tmp 2), (.tmp 3)] 99 "iter.go:102" #[]).op, none⟩,
 ⟨(opAssign (some 4) (.tmp 8) 100 "iter.go:102" #[eD 0, eP 0]).op, none⟩
 ] (by kernel_rfl)))
 (.live [4] .ret))))
noncomputable def f58 : Fun Try.prog where
 id := 58
 fn := Try.f58
 hf := Try.func58
 hname := by kernel_rfl
 body := f58_b
 hbody := by kernel_rfl
 res := [rTmp 4]
 hres := by kernel_rfl
 n := 9
 hn := by kernel_rfl
noncomputable def f75_l0 (Y : YOrc Try.prog) (Os : List (Orc Try.prog)) : Sim Try.prog :=
 (.seq (.seq (.live [0, 1, 2, 4, 9] (.region 1 [
 ⟨(opMove (some 6) (.tmp 4) 3 "iter.go:103" #[]).op, none⟩,
 ⟨(opLoadT (.one .any) (some 7) 33 (.tmp 1) (.slice 5) Try.underlying33 1 sz33 (by kernel_rfl) 33 "iter.go:103" #[]).op, none⟩,
 ⟨(opLen (some 8) (.tmp 7) 33 (.slice 5) Try.underlying33 3 "iter.go:103" #[eD 1]).op, none⟩,
 ⟨(opBin (some 9) .lss 3 (.tmp 6) (.tmp 8) 3 4 "iter.go:103" #[eD 0, eD 2]).op, none⟩
 ] (by kernel_rfl)))
 (.cond (.tmp 9)
 .skip
 (.live [] (.exit 0))))
 (.seq (.block 1 (.seq (.live [0, 1, 2, 4, 5] (.draw 3 [
 ⟨.qn (opLoadT (.one (.int .i64)) (some 13) 3 (.tmp 2) (.int .i64) Try.underlying3 1 sz3 (by kernel_rfl) 3 "iter.go:105" #[]) opLoadT_nat, none⟩,
 ⟨.qn (opLoadT (.one .any) (some 14) 33 (.tmp 1) (.slice 5) Try.underlying33 1 sz33 (by kernel_rfl) 33 "iter.go:105" #[]) opLoadT_nat, none⟩,
 ⟨.p (opMove (some 15) (.tmp 4) 3 "iter.go:105" #[]), none⟩,
 ⟨.pn (opSlice (some 16) 33 (.tmp 14) (some (.tmp 15)) none none 5 1 Try.underlying33 sz5 33 "iter.go:105" #[eD 1, eD 2]) opSlice_nat, none⟩,
 ⟨.p (opLen (some 17) (.tmp 16) 33 (.slice 5) Try.underlying33 3 "iter.go:105" #[eD 3]), none⟩,
 ⟨.p (opMinMax (some 18) false (.tmp 13) [(.tmp 17)] #[3, 3] 3 "iter.go:105" #[eD 0, eD 4]), none⟩,
 ⟨.p (opAssign (some 5) (.tmp 18) 3 "iter.go:105" #[eD 5, eP 0, eP 1, eP 2, eP 3, eP 4, eP 5]), none⟩
 ] mixed (by kernel_rfl)))
 (.seq (.live [0, 1, 2, 4, 30] (.region 4 [
 ⟨(opMove (some 19) (.tmp 0) 114 "iter.go:109" #[]).op, none⟩,
 ⟨(opLoadT (.one .any) (some 20) 33 (.tmp 1) (.slice 5) Try.underlying33 1 sz33 (by kernel_rfl) 33 "iter.go:109" #[]).op, none⟩,
 ⟨(opMove (some 21) (.tmp 4) 3 "iter.go:109" #[]).op, none⟩,
 ⟨(opMove (some 22) (.tmp 4) 3 "iter.go:109" #[]).op, none⟩,
 ⟨(opMove (some 23) (.tmp 5) 3 "iter.go:109" #[]).op, none⟩,
 ⟨(opBin (some 24) .add 3 (.tmp 22) (.tmp 23) 3 3 "iter.go:109" #[eD 3, eD 4]).op, none⟩,
 ⟨(opMove (some 25) (.tmp 4) 3 "iter.go:109" #[]).op, none⟩,
 ⟨(opMove (some 26) (.tmp 5) 3 "iter.go:109" #[]).op, none⟩,
 ⟨(opBin (some 27) .add 3 (.tmp 25) (.tmp 26) 3 3 "iter.go:109" #[eD 6, eD 7]).op, none⟩,
 ⟨(opSlice (some 28) 33 (.tmp 20) (some (.tmp 21)) (some (.tmp 24)) (some (.tmp 27)) 5 1 Try.underlying33 sz5 33 "iter.go:109" #[eD 1, eD 2, eD 5, eD 8]).op, none⟩,
 ⟨opCallY Y Os (some 29) 19 [(.tmp 28)] #[33] 4 "iter.go:109" #[eD 0, eD 9], none⟩,
 ⟨(opNot (some 30) 4 (.tmp 29) 4 "iter.go:109" #[eD 10]).op, none⟩
 ] (by kernel_rfl)))
 (.cond (.tmp 30)
 (.live [] .ret)
 .skip))))
 (.live [0, 1, 2, 4] (.region 2 [
 ⟨(opMove (some 10) (.tmp 4) 3 "iter.go:103" #[]).op, none⟩,
 ⟨(opLoadT (.one (.int .i64)) (some 11) 3 (.tmp 2) (.int .i64) Try.underlying3 1 sz3 (by kernel_rfl) 3 "iter.go:103" #[]).op, none⟩,
 ⟨(opBin (some 12) .add 3 (.tmp 10) (.tmp 11) 3 3 "iter.go:103" #[eD 0, eD 1]).op, none⟩,
 ⟨(opAssign (some 4) (.tmp 12) 3 "iter.go:103" #[eD 2, eP 0, eP 1, eP 2]).op, none⟩
 ] (by kernel_rfl)))))
noncomputable def f75_b (Y : YOrc Try.prog) (Os : List (Orc Try.prog)) : Sim Try.prog :=
 (.seq (.live [0, 1, 2, 4] (.region 0 [
 ⟨(opAssign (some 4) (.const (Value.int IntKind.i64 0)) 3 "iter.go:103" #[]).op, none⟩
 ] (by kernel_rfl)))
 (.block 0 (.loop [0, 1, 2, 4] (f75_l0 Y Os))))
noncomputable def f75 (Y : YOrc Try.prog) (Os : List (Orc Try.prog)) : Fun Try.prog where
 id := 75
 fn := Try.f75
 hf := Try.func75
 hname := by kernel_rfl
 body := f75_b Y Os
 hbody := by kernel_rfl
 res := []
 hres := by kernel_rfl
 n := 31
 hn := by kernel_rfl
theorem chunk_run (F j : Nat) (l : List (List AV)) (Y : YOrc Try.prog) (st : St) (k : Fin → St → Ans) :
 ((f75 Y.cut []).runK F [.fn (.yield j) [] [], .eptr [.sl 1 false l], .eptr [.int .i64 56]] st k : Ans) =
 loopRun ((f75_l0 Y.cut []).run F) [0, 1, 2, 4]
 (Cont.block 0 ((f75 Y.cut []).leaveK k)) F
 (Env.mk 31
 [(0, AV.fn (Fn.yield j) [] []), (1, AV.eptr [AV.sl 1 false l]),
 (2, AV.eptr [.int .i64 56]), (4, .int .i64 0)])
 st := by kernel_rfl
theorem chunk_round (F m i j : Nat) (l : List (List AV)) (Y : YOrc Try.prog) (st : St) (K : Cont) :
 (loopRun ((f75_l0 Y.cut []).run F) [0, 1, 2, 4] K m.succ (Env.mk 31 [(0, .fn (.yield j) [] []), (1, .eptr [.sl 1 false l]), (2, .eptr [.int .i64 56]), (4, .int .i64 (i : Int))]) st : Ans) =
 branch (.bool (decide ((↑i : Int) < (↑l.length : Int))))
 (if (0 : Int) ≤ (↑i : Int) ∧ (↑i : Int) ≤ (↑l.length : Int) then
 if
 (0 : Int) ≤
 IntKind.i64.wrap
 ((↑i : Int) + leastI false (56 : Int) (↑(List.drop i (List.take l.length l)).length : Int)) ∧
 IntKind.i64.wrap ((↑i : Int) + leastI false (56 : Int) (↑(List.drop i (List.take l.length l)).length : Int)) ≤
 (↑l.length : Int) then
 if
 (0 : Int) ≤
 IntKind.i64.wrap
 ((↑i : Int) + leastI false (56 : Int) (↑(List.drop i (List.take l.length l)).length : Int)) ∧
 IntKind.i64.wrap
 ((↑i : Int) + leastI false (56 : Int) (↑(List.drop i (List.take l.length l)).length : Int)) ≤
 (↑(IntKind.i64.wrap
 ((↑i : Int) +
 leastI false (56 : Int) (↑(List.drop i (List.take l.length l)).length : Int))).toNat :
 Int) then
 if
 (0 : Int) ≤ (↑i : Int) ∧
 (↑i : Int) ≤
 (↑(IntKind.i64.wrap
 ((↑i : Int) +
 leastI false (56 : Int) (↑(List.drop i (List.take l.length l)).length : Int))).toNat :
 Int) then
 onSome
 (Y.stepC j
 [AV.sl 1
 ((IntKind.i64.wrap
 ((↑i : Int) +
 leastI false (56 : Int) (↑(List.drop i (List.take l.length l)).length : Int))).toNat.beq
 (IntKind.i64.wrap
 ((↑i : Int) +
 leastI false (56 : Int) (↑(List.drop i (List.take l.length l)).length : Int))).toNat)
 (List.drop i
 (List.take
 (IntKind.i64.wrap
 ((↑i : Int) +
 leastI false (56 : Int) (↑(List.drop i (List.take l.length l)).length : Int))).toNat
 l))]
 st)
 none fun (o : Bool × St) =>
 branch (.bool !o.fst) (K AX.ret (Env.mk 31 []) o.2)
 (loopRun ((f75_l0 Y.cut []).run F) [0, 1, 2, 4] K m
 (Env.mk 31
 [(0, AV.fn (Fn.yield j) [] []), (1, AV.eptr [AV.sl 1 false l]),
 (2, AV.eptr [.int .i64 56]),
 (4, .int .i64 (IntKind.i64.wrap ((↑i : Int) + 56)))])
 o.2)
 else none
 else none
 else none
 else none)
 (K (AX.exit 0) (Env.mk 31 []) st) := by kernel_rfl
noncomputable def fz3O (O : OrcS Try.prog) : OrcS Try.prog where
 id := O.id
 fn := O.fn
 hf := O.hf
 hname := O.hname
 hb := O.hb
 sem args st k := match args with
  | [a, b, c] => afree c st fun y st' => O.sem [a, b, y] st' k
  | _ => none
 sound k args st fin h := by
  split at h
  ·rename_i a b c
   rw [afree_nat] at h
   unfold thenM at h
   cases hr : afree c st retM with
   | none => rw [hr] at h; cases h
   | some p =>
    obtain ⟨e, st'⟩ := p
    rw [hr] at h
    cases e with
    | pan x => cases h
    | ret y =>
     obtain ⟨r, st2, h1, h2⟩ := O.sound _ _ _ _ h
     refine ⟨r, st2, h1, fun g w vals hv hs => ?_⟩
     obtain ⟨v1, r1, e1, k1, v2, r2, e2, k2, v3, r3, e3, k3, k4⟩ := hv
     obtain ⟨y', st3, g', m1, m2, m3, m4⟩ := afree_rel hs k3 hr
     simp only [retM, Option.some.injEq, Prod.mk.injEq, Fin.ret.injEq] at m1
     obtain ⟨rfl, rfl⟩ := m1
     refine (h2 g' w vals ⟨v1, r1, e1, k1.mono m4, v2, r2, e2, k2.mono m4, v3, r3, e3, m2, k4⟩ m3).mono ?_
     rintro e w' ⟨g2, q1, q2, q3⟩
     exact ⟨g2, q1, q2, m4.trans q3⟩
  ·cases h
theorem fz3_nat {O : OrcS Try.prog} (h : O.NatS) : (fz3O O).NatS := by
 intro args st k
 show (fz3O O).sem args st k = thS ((fz3O O).sem args st (fun r st' => some (r, st'))) k
 simp only [fz3O]
 split
 ·rename_i a b c
  rw [afree_nat, afree_nat (k := fun y st' => O.sem [a, b, y] st' fun r st' => some (r, st'))]
  cases afree c st retM with
  | none => rfl
  | some p =>
   obtain ⟨e, st'⟩ := p
   cases e with
   | pan x => rfl
   | ret y => exact h [a, b, y] st' k
 ·rfl
noncomputable def s56z : OrcS Try.prog := fz3O s56
theorem s56z_nat : s56z.NatS := fz3_nat s56_nat
noncomputable def layW (st : St) (r : Dk × Nat × Nat) : St :=
 match st.objs with
 | _ :: _ :: _ :: _ :: lg :: lb :: _ :: l :: _ => match lg with
  | .cells (q :: g :: a :: f :: p :: _) => match l with
   | .lp _ _ ff tm => ⟨[dk0 r.1, dk1 r.1, dk2 0 r.1, dk3 r.1, .cells [q, g, a, f, p, .int .i64 (r.2.1 : Int)], lb, .cells [.int .i64 (r.2.2 : Int)], .lp 0 0 ff tm], []⟩
   | _ => ⟨[], []⟩
  | _ => ⟨[], []⟩
 | _ => ⟨[], []⟩
theorem dk_inj {X Y : Dk} (hX : X.Ok) (hY : Y.Ok) (h0 : dk0 X = dk0 Y) (h1 : dk1 X = dk1 Y) (h2 : dk2 0 X = dk2 0 Y) (h3 : dk3 X = dk3 Y) : X = Y := by
 rw [dk0, opq_eq, dk0, opq_eq] at h0
 rw [dk1, opq_eq, dk1, opq_eq] at h1
 rw [dk2, opq_eq, dk2, opq_eq] at h2
 rw [dk3, opq_eq, dk3, opq_eq] at h3
 exact obs_inj hX hY h0 h1 h2 h3
noncomputable def chunkR (Y : YOrc Try.prog) (args : List AV) (st : St) : Option (Dk × Nat × Nat) :=
 opq (open Classical in if h : ∃ r : Dk × Nat × Nat, r.1.Ok ∧ (f75 Y.cut []).runK 100 args st Fun.done = some (.ret (.tup []), layW st r) then some (Classical.choose h) else none)
theorem chunkR_spec {Y : YOrc Try.prog} {args : List AV} {st : St} {r : Dk × Nat × Nat} (h : chunkR Y args st = some r) : (f75 Y.cut []).runK 100 args st Fun.done = some (.ret (.tup []), layW st r) := by
 rw [chunkR, opq_eq] at h
 split at h
 ·rename_i hh
  cases h
  exact (Classical.choose_spec hh).2
 ·cases h
theorem chunkR_of {Y : YOrc Try.prog} {args : List AV} {a b c d e e' : Ob} {q g aa f p x : AV} {s i ff : Nat} {tm : List AV} {r : Dk × Nat × Nat} (hr : r.1.Ok) (h : (f75 Y.cut []).runK 100 args ⟨[a, b, c, d, .cells [q, g, aa, f, p, x], e', e, .lp s i ff tm], []⟩ Fun.done = some (.ret (.tup []), layW ⟨[a, b, c, d, .cells [q, g, aa, f, p, x], e', e, .lp s i ff tm], []⟩ r)) : chunkR Y args ⟨[a, b, c, d, .cells [q, g, aa, f, p, x], e', e, .lp s i ff tm], []⟩ = some r := by
 have hx : ∃ r : Dk × Nat × Nat, r.1.Ok ∧ (f75 Y.cut []).runK 100 args ⟨[a, b, c, d, .cells [q, g, aa, f, p, x], e', e, .lp s i ff tm], []⟩ Fun.done = some (.ret (.tup []), layW ⟨[a, b, c, d, .cells [q, g, aa, f, p, x], e', e, .lp s i ff tm], []⟩ r) := ⟨r, hr, h⟩
 rw [chunkR, opq_eq, dif_pos hx]
 obtain ⟨k1, k2⟩ := Classical.choose_spec hx
 have := h.symm.trans k2
 generalize Classical.choose hx = r' at k1 this
 obtain ⟨X, m, n⟩ := r
 obtain ⟨X', m', n'⟩ := r'
 simp only [layW, Option.some.injEq, Prod.mk.injEq, true_and, St.mk.injEq, and_true, List.cons.injEq, Ob.cells.injEq, AV.int.injEq, Int.ofNat_inj] at this
 obtain ⟨h0, h1, h2, h3, h4, h5⟩ := this
 have e : X = X' := dk_inj hr k1 h0 h1 h2 h3
 rw [e, h4, h5]
noncomputable def o75 (Y : YOrc Try.prog) : Orc Try.prog where
 id := 75
 fn := Try.f75
 hf := Try.func75
 hname := by kernel_rfl
 hb := by kernel_rfl
 sem args st k := onSome (chunkR Y args st) none fun r => k (.ret (.tup [])) (layW st r)
 sound k args st fin h g w vals hv hs := by
  cases hr : chunkR Y args st with
  | none => rw [hr] at h; cases h
  | some r =>
   rw [hr] at h
   refine ((f75 Y.cut []).soundK (chunkR_spec hr) g w vals hv hs).mono ?_
   rintro e w' ⟨r', st2, g', e1, e2⟩
   simp only [Fun.done, Option.some.injEq, Prod.mk.injEq] at e1
   obtain ⟨rfl, rfl⟩ := e1
   exact ⟨_, _, g', h, e2⟩
theorem sz29 : (Try.prog.info? 29).map (·.size) = some 1 := by kernel_rfl
theorem fl71_3 : fieldB Try.prog 71 3 5 1 false = true := by kernel_rfl
noncomputable def f40_a0 : Sim Try.prog :=
 (.live [4, 5, 6, 9] (.region 3 [
 ⟨(opAssign (some 9) (.tmp 23) 33 "wal.go:187" #[]).op, none⟩
 ] (by kernel_rfl)))
noncomputable def f40_y0 : Sim Try.prog :=
 (.block 1 (.seq (.live [4, 5, 6, 9, 10] (.region 4 [
 ⟨(opMakeC (some 24) 81 (.const (Value.int IntKind.i64 64)) 5 1 1 (.int .u8 0) el81 [AV.int .u8 0] (by kernel_rfl) (by kernel_rfl) 81 "wal.go:188" #[]).op, none⟩,
 ⟨(opAssign (some 10) (.tmp 24) 81 "wal.go:188" #[eD 0, eP 0]).op, none⟩
 ] (by kernel_rfl)))
 (.seq (.live [4, 5, 6, 9, 10] (.region 5 [
 ⟨(opMove (some 25) (.tmp 10) 81 "wal.go:189" #[]).op, none⟩,
 ⟨(opLoadT (.one .any) (some 26) 29 (.tmp 4) (.pointer 71) Try.underlying29 1 sz29 (by kernel_rfl) 29 "wal.go:189" #[]).op, none⟩,
 ⟨(opNilCheck (some 27) (.tmp 26) 0 "wal.go:189" #[eD 1]).op, none⟩,
 ⟨(opFieldAddr (some 28) 71 (.tmp 27) 3 5 1 false fl71_3 (by decide) 0 "wal.go:189" #[eD 2]).op, none⟩,
 ⟨(opLoadT (.one (.int .i64)) (some 29) 3 (.tmp 28) (.int .i64) Try.underlying3 1 sz3 (by kernel_rfl) 3 "wal.go:189" #[eD 3]).op, none⟩,
 ⟨opCall (f59.orc 0) (some 30) [(.tmp 25), (.tmp 29)] #[81, 3] 0 "wal.go:189" #[eD 0, eD 4], none⟩
 ] (by kernel_rfl)))
 (.seq (.live [4, 5, 6, 10] (.region 6 [
 ⟨(opMove (some 31) (.tmp 10) 81 "wal.go:190" #[]).op, none⟩,
 ⟨opCall (f60.orc 0) (some 32) [(.tmp 31)] #[81] 33 "wal.go:190" #[eD 0], none⟩,
 ⟨(opMove (some 33) (.tmp 9) 33 "wal.go:190" #[]).op, none⟩,
 ⟨(opCopyV (some 34) (.tmp 32) (.tmp 33) 33 33 5 1 Try.underlying33 sz5 3 "wal.go:190" #[eD 1, eD 2, eC 1]).op, none⟩
 ] (by kernel_rfl)))
 (.seq (.live [4, 6] (.draw 7 [
 ⟨.qn (opLoadT (.one .any) (some 35) 29 (.tmp 4) (.pointer 71) Try.underlying29 1 sz29 (by kernel_rfl) 29 "wal.go:191" #[]) opLoadT_nat, none⟩,
 ⟨.p (opNilCheck (some 36) (.tmp 35) 0 "wal.go:191" #[eD 0]), none⟩,
 ⟨.pn (opFieldAddr (some 37) 71 (.tmp 36) 0 0 1 false fl71_0 (by decide) 0 "wal.go:191" #[eD 1]) opFieldAddr_nat, none⟩,
 ⟨.qn (opLoadT (.one .any) (some 38) 25 (.tmp 37) (.pointer 79) Try.underlying25 1 sz25 (by kernel_rfl) 25 "wal.go:191" #[eD 2]) opLoadT_nat, none⟩,
 ⟨.qn (opLoadT (.one .any) (some 39) 29 (.tmp 4) (.pointer 71) Try.underlying29 1 sz29 (by kernel_rfl) 29 "wal.go:191" #[]) opLoadT_nat, none⟩,
 ⟨.qn (opLoadT (.one (.int .i64)) (some 40) 3 (.tmp 5) (.int .i64) Try.underlying3 1 sz3 (by kernel_rfl) 3 "wal.go:191" #[]) opLoadT_nat, none⟩,
 ⟨.qn (opLoadT (.one (.int .i64)) (some 41) 3 (.tmp 6) (.int .i64) Try.underlying3 1 sz3 (by kernel_rfl) 3 "wal.go:191" #[]) opLoadT_nat, none⟩,
 ⟨.qn (opCallQ q61 (some 42) [(.tmp 39), (.tmp 40), (.tmp 41)] #[29, 3, 3] 3 "wal.go:191" #[eD 4, eD 5, eD 6]) (opCallQ_nat q61_nat), none⟩,
 ⟨.p (opMove (some 43) (.tmp 10) 81 "wal.go:191" #[]), none⟩,
 ⟨.mn (opCallM (s56z) (some 44) [(.tmp 38), (.tmp 42), (.tmp 43)] #[25, 3, 33] 26 "wal.go:191" #[eD 3, eD 7, eD 8, eC 7]) (opCallM_nat s56z_nat), none⟩
 ] mixed (by kernel_rfl)))
 (.seq (.live [6] (.region 8 [
 ⟨(opLoadT (.one .any) (some 45) 29 (.tmp 4) (.pointer 71) Try.underlying29 1 sz29 (by kernel_rfl) 29 "wal.go:192" #[]).op, none⟩,
 ⟨(opNilCheck (some 46) (.tmp 45) 0 "wal.go:192" #[eD 0]).op, none⟩,
 ⟨(opFieldAddr (some 47) 71 (.tmp 46) 3 5 1 false fl71_3 (by decide) 0 "wal.go:192" #[eD 1]).op, none⟩,
 ⟨(opLoadT (.one (.int .i64)) (some 48) 3 (.tmp 47) (.int .i64) Try.underlying3 1 sz3 (by kernel_rfl) 3 "wal.go:192" #[eD 2]).op, none⟩,
 ⟨(opBin (some 49) .add 3 (.tmp 48) (.const (Value.int IntKind.i64 1)) 3 3 "wal.go:192" #[eD 3]).op, none⟩,
 ⟨(opNilCheck (some 50) (.tmp 45) 0 "wal.go:192" #[eD 0, eP 0, eP 1, eP 2, eP 3, eP 4]).op, none⟩,
 ⟨(opFieldAddr (some 51) 71 (.tmp 50) 3 5 1 false fl71_3 (by decide) 0 "wal.go:192" #[eD 5, eP 0, eP 1, eP 2, eP 3, eP 4]).op, none⟩,
 ⟨(opStore none 3 (.tmp 51) (.tmp 49) 1 sz3 0 "wal.go:192" #[eD 6, eD 4, eP 0, eP 1, eP 2, eP 3, eP 4]).op, none⟩
 ] (by kernel_rfl)))
 (.live [] (.region 9 [
 ⟨(opLoadT (.one (.int .i64)) (some 52) 3 (.tmp 6) (.int .i64) Try.underlying3 1 sz3 (by kernel_rfl) 3 "wal.go:193" #[]).op, none⟩,
 ⟨(opBin (some 53) .add 3 (.tmp 52) (.const (Value.int IntKind.i64 1)) 3 3 "wal.go:193" #[eD 0]).op, none⟩,
 ⟨(opStore none 3 (.tmp 6) (.tmp 53) 1 sz3 0 "wal.go:193" #[eD 1, eP 0, eP 1]).op, none⟩
 ] (by kernel_rfl)))))))))
noncomputable def f40_b : Sim Try.prog :=
 (.seq (.live [3, 4, 5, 6] (.region 0 [
 ⟨(opBox (some 4) 29 (.tmp 0) 0 "wal.go:185" #[]).op, none⟩,
 ⟨(opBoxF (some 5) 3 (.tmp 1) 0 "wal.go:185" #[]).op, none⟩,
 ⟨(opBox (some 6) 3 (.tmp 2) 0 "wal.go:185" #[]).op, none⟩
 ] (by kernel_rfl)))
 (.seq (.live [4, 5, 6, 8] (.region 1 [
 ⟨(opMove (some 11) (.tmp 3) 33 "wal.go:186" #[]).op, none⟩,
 ⟨(opLen (some 12) (.tmp 11) 33 (.slice 5) Try.underlying33 3 "wal.go:186" #[eD 0]).op, none⟩,
 ⟨(opConvInt (some 13) 3 5 (.tmp 12) (.int .i64) Try.underlying3 .u8 Try.underlying5 5 "wal.go:186" #[eD 1]).op, none⟩,
 ⟨(opMove (some 14) (.tmp 3) 33 "wal.go:186" #[]).op, none⟩,
 ⟨(opLen (some 15) (.tmp 14) 33 (.slice 5) Try.underlying33 3 "wal.go:186" #[eD 3]).op, none⟩,
 ⟨(opBin (some 16) .shr 3 (.tmp 15) (.const (Value.int IntKind.u64 8)) 98 3 "wal.go:186" #[eD 4]).op, none⟩,
 ⟨(opConvInt (some 17) 3 5 (.tmp 16) (.int .i64) Try.underlying3 .u8 Try.underlying5 5 "wal.go:186" #[eD 5]).op, none⟩,
 ⟨(opBuildSlice (some 18) 33 2 [(0, (.tmp 13)), (1, (.tmp 17))] 5 1 1 (.int .u8 0) el33 (by kernel_rfl) (by decide) 33 "wal.go:186" #[eD 2, eD 6]).op, none⟩,
 ⟨(opMove (some 19) (.tmp 3) 33 "wal.go:186" #[]).op, none⟩,
 ⟨(opAppendF (some 20) (.tmp 18) (.tmp 19) 33 33 5 1 1 (.int .u8 0) el33 (.slice 5) Try.underlying33 rfl 33 "wal.go:186" #[eD 7, eD 8]).op, none⟩,
 ⟨(opAssign (some 8) (.tmp 20) 33 "wal.go:186" #[eD 9, eC 9, eP 0, eP 1, eP 2, eP 3, eP 4, eP 5, eP 6, eP 7, eP 8, eP 9]).op, none⟩
 ] (by kernel_rfl)))
 (.seq (.live [4, 5, 6, 22] (.region 2 [
 ⟨(opMove (some 21) (.tmp 8) 33 "wal.go:187" #[]).op, none⟩,
 ⟨opCall (f58.orc 0) (some 22) [(.tmp 21), (.const (Value.int IntKind.i64 56))] #[33, 3] 100 "wal.go:187" #[eD 0], none⟩
 ] (by kernel_rfl)))
 (.block 0 (.rangeF 40 (.tmp 22) #[23] f40_a0 f40_y0 (fun Y => o75 Y) (by kernel_rfl) (by kernel_rfl) (by kernel_rfl))))))
noncomputable def f40 : Fun Try.prog where
 id := 40
 fn := Try.f40
 hf := Try.func40
 hname := by kernel_rfl
 body := f40_b
 hbody := by kernel_rfl
 res := []
 hres := by kernel_rfl
 n := 54
 hn := by kernel_rfl
theorem write_run (F : Nat) (X : Dk) (g a f p s n m : Int) (z : Bool) (l : List (List AV)) :
 (f40.run F [.ptr 4 0, .int .i64 n, .int .i64 m, .ns z 1 l] ⟨[dk0 X, dk1 X, dk2 0 X, dk3 X, .cells [.ptr 2 0, .int .i64 g, .int .i64 a, .int .i64 f, .int .i64 p, .int .i64 s]], []⟩ : Ans) =
 branch
 (AV.bool
 (true &&
 apOk
 ([AV.int IntKind.u8 (IntKind.u8.wrap (↑l.length : Int))] ::
 [AV.int IntKind.u8 (IntKind.u8.wrap ((↑l.length : Int).fdiv (256 : Int)))] :: l).length
 1))
 (onSome
 (chunkR (rangeY F 40 #[(23 : Tmp)] f40_a0 f40_y0 (by kernel_rfl) (Eq.refl true) (Eq.refl true))
 [AV.fn (Fn.yield 7) [] [],
 AV.eptr
 [AV.sl 1 false
 ([AV.int IntKind.u8 (IntKind.u8.wrap (↑l.length : Int))] ::
 [AV.int IntKind.u8 (IntKind.u8.wrap ((↑l.length : Int).fdiv (256 : Int)))] :: l)],
 AV.eptr [.int .i64 56]]
 (St.mk
 [dk0 X, dk1 X, dk2 0 X, dk3 X,
 Ob.cells
 [AV.ptr 2 0, .int .i64 g, .int .i64 a, .int .i64 f,
 .int .i64 p, .int .i64 s],
 Ob.cells [AV.ptr 4 0], Ob.cells [.int .i64 m],
 Ob.lp 0 0 40
 [AV.dead, AV.dead, AV.dead, AV.dead, AV.ptr 5 0, AV.eptr [.int .i64 n],
 AV.ptr 6 0, AV.dead, AV.dead, AV.dead, AV.dead, AV.dead, AV.dead, AV.dead, AV.dead,
 AV.dead, AV.dead, AV.dead, AV.dead, AV.dead, AV.dead, AV.dead,
 AV.fn (Fn.func (75 : FuncId)) []
 [AV.eptr
 [AV.sl 1 false
 ([AV.int IntKind.u8 (IntKind.u8.wrap (↑l.length : Int))] ::
 [AV.int IntKind.u8 (IntKind.u8.wrap ((↑l.length : Int).fdiv (256 : Int)))] :: l)],
 AV.eptr [.int .i64 56]],
 AV.dead, AV.dead, AV.dead, AV.dead, AV.dead, AV.dead, AV.dead, AV.dead, AV.dead, AV.dead, AV.dead,
 AV.dead, AV.dead, AV.dead, AV.dead, AV.dead, AV.dead, AV.dead, AV.dead, AV.dead, AV.dead, AV.dead,
 AV.dead, AV.dead, AV.dead, AV.dead, AV.dead, AV.dead, AV.dead, AV.dead, AV.dead]]
 []))
 none fun (o : Dk × Nat × Nat) =>
 some
 (Fin.ret (AV.tup []),
 St.mk
 [dk0 o.fst, dk1 o.fst, dk2 0 o.fst, dk3 o.fst,
 Ob.cells
 [AV.ptr 2 0, .int .i64 g, .int .i64 a, .int .i64 f,
 .int .i64 p, .int .i64 (↑o.2.fst : Int)],
 Ob.cells [AV.ptr 4 0], Ob.cells [.int .i64 (↑o.2.snd : Int)], Ob.gone]
 []))
 none := by kernel_rfl
theorem body_run (F : Nat) (X : Dk) (g a f p s n m : Int) (x : AV) (l : List (List AV)) :
 ((rangeY F 40 #[23] f40_a0 f40_y0 (by kernel_rfl) (by kernel_rfl) (by kernel_rfl)).sem 7 [.sl 1 true l] ⟨[dk0 X, dk1 X, dk2 0 X, dk3 X, .cells [.ptr 2 0, .int .i64 g, .int .i64 a, .int .i64 f, .int .i64 p, .int .i64 s], .cells [.ptr 4 0], .cells [.int .i64 m], .lp 0 0 40 [AV.dead, AV.dead, AV.dead, AV.dead, AV.ptr 5 0, AV.eptr [.int .i64 n], AV.ptr 6 0, AV.dead, AV.dead, AV.dead, AV.dead, AV.dead, AV.dead, AV.dead, AV.dead, AV.dead, AV.dead, AV.dead, AV.dead, AV.dead, AV.dead, AV.dead, x, AV.dead, AV.dead, AV.dead, AV.dead, AV.dead, AV.dead, AV.dead, AV.dead, AV.dead, AV.dead, AV.dead, AV.dead, AV.dead, AV.dead, AV.dead, AV.dead, AV.dead, AV.dead, AV.dead, AV.dead, AV.dead, AV.dead, AV.dead, AV.dead, AV.dead, AV.dead, AV.dead, AV.dead, AV.dead, AV.dead, AV.dead]], []⟩ Fun.done : Ans) =
 branch (.bool (mkOk 1 (64 : Int)))
 (branch (.bool (true && inC (zerC 64 [AV.int IntKind.u8 (0 : Int)]) 0 1))
 (branch
 (AV.bool
 (true &&
 inC
 (setC (zerC 64 [AV.int IntKind.u8 (0 : Int)]) 0
 [AV.int IntKind.u8 (IntKind.u8.wrap (s.fdiv (1 : Int)))])
 1 1))
 (branch
 (AV.bool
 (true &&
 inC
 (setC
 (setC (zerC 64 [AV.int IntKind.u8 (0 : Int)]) 0
 [AV.int IntKind.u8 (IntKind.u8.wrap (s.fdiv (1 : Int)))])
 1 [AV.int IntKind.u8 (IntKind.u8.wrap (s.fdiv (256 : Int)))])
 2 1))
 (branch
 (AV.bool
 (true &&
 inC
 (setC
 (setC
 (setC (zerC 64 [AV.int IntKind.u8 (0 : Int)]) 0
 [AV.int IntKind.u8 (IntKind.u8.wrap (s.fdiv (1 : Int)))])
 1 [AV.int IntKind.u8 (IntKind.u8.wrap (s.fdiv (256 : Int)))])
 2 [AV.int IntKind.u8 (IntKind.u8.wrap (s.fdiv (65536 : Int)))])
 3 1))
 (branch
 (AV.bool
 (true &&
 inC
 (setC
 (setC
 (setC
 (setC (zerC 64 [AV.int IntKind.u8 (0 : Int)]) 0
 [AV.int IntKind.u8 (IntKind.u8.wrap (s.fdiv (1 : Int)))])
 1 [AV.int IntKind.u8 (IntKind.u8.wrap (s.fdiv (256 : Int)))])
 2 [AV.int IntKind.u8 (IntKind.u8.wrap (s.fdiv (65536 : Int)))])
 3 [AV.int IntKind.u8 (IntKind.u8.wrap (s.fdiv (16777216 : Int)))])
 60 1))
 (branch
 (AV.bool
 (true &&
 inC
 (setC
 (setC
 (setC
 (setC
 (setC (zerC 64 [AV.int IntKind.u8 (0 : Int)]) 0
 [AV.int IntKind.u8 (IntKind.u8.wrap (s.fdiv (1 : Int)))])
 1 [AV.int IntKind.u8 (IntKind.u8.wrap (s.fdiv (256 : Int)))])
 2 [AV.int IntKind.u8 (IntKind.u8.wrap (s.fdiv (65536 : Int)))])
 3 [AV.int IntKind.u8 (IntKind.u8.wrap (s.fdiv (16777216 : Int)))])
 60 [AV.int IntKind.u8 (IntKind.u8.wrap (s.fdiv (1 : Int)))])
 61 1))
 (branch
 (AV.bool
 (true &&
 inC
 (setC
 (setC
 (setC
 (setC
 (setC
 (setC (zerC 64 [AV.int IntKind.u8 (0 : Int)]) 0
 [AV.int IntKind.u8 (IntKind.u8.wrap (s.fdiv (1 : Int)))])
 1 [AV.int IntKind.u8 (IntKind.u8.wrap (s.fdiv (256 : Int)))])
 2 [AV.int IntKind.u8 (IntKind.u8.wrap (s.fdiv (65536 : Int)))])
 3 [AV.int IntKind.u8 (IntKind.u8.wrap (s.fdiv (16777216 : Int)))])
 60 [AV.int IntKind.u8 (IntKind.u8.wrap (s.fdiv (1 : Int)))])
 61 [AV.int IntKind.u8 (IntKind.u8.wrap (s.fdiv (256 : Int)))])
 62 1))
 (branch
 (AV.bool
 (true &&
 inC
 (setC
 (setC
 (setC
 (setC
 (setC
 (setC
 (setC (zerC 64 [AV.int IntKind.u8 (0 : Int)]) 0
 [AV.int IntKind.u8 (IntKind.u8.wrap (s.fdiv (1 : Int)))])
 1 [AV.int IntKind.u8 (IntKind.u8.wrap (s.fdiv (256 : Int)))])
 2 [AV.int IntKind.u8 (IntKind.u8.wrap (s.fdiv (65536 : Int)))])
 3 [AV.int IntKind.u8 (IntKind.u8.wrap (s.fdiv (16777216 : Int)))])
 60 [AV.int IntKind.u8 (IntKind.u8.wrap (s.fdiv (1 : Int)))])
 61 [AV.int IntKind.u8 (IntKind.u8.wrap (s.fdiv (256 : Int)))])
 62 [AV.int IntKind.u8 (IntKind.u8.wrap (s.fdiv (65536 : Int)))])
 63 1))
 (branch
 (AV.bool
 (inC
 (setC
 (setC
 (setC
 (setC
 (setC
 (setC
 (setC
 (setC (zerC 64 [AV.int IntKind.u8 (0 : Int)]) 0
 [AV.int IntKind.u8 (IntKind.u8.wrap (s.fdiv (1 : Int)))])
 1 [AV.int IntKind.u8 (IntKind.u8.wrap (s.fdiv (256 : Int)))])
 2 [AV.int IntKind.u8 (IntKind.u8.wrap (s.fdiv (65536 : Int)))])
 3 [AV.int IntKind.u8 (IntKind.u8.wrap (s.fdiv (16777216 : Int)))])
 60 [AV.int IntKind.u8 (IntKind.u8.wrap (s.fdiv (1 : Int)))])
 61 [AV.int IntKind.u8 (IntKind.u8.wrap (s.fdiv (256 : Int)))])
 62 [AV.int IntKind.u8 (IntKind.u8.wrap (s.fdiv (65536 : Int)))])
 63 [AV.int IntKind.u8 (IntKind.u8.wrap (s.fdiv (16777216 : Int)))])
 4 (mulN (minN l.length 56) 1)))
 (onSome (dkG 0 (dk0 X) (dk1 X) (dk2 0 X) (dk3 X)) none fun (o : Dk) =>
 onSome
 (lgG
 [.int .i64 g, .int .i64 a, .int .i64 f, .int .i64 p,
 .int .i64 s])
 none fun (o_1 : Lg) =>
 branch
 (AV.bool
 (true &&
 (true &&
 (decide (2 ≤ o.n) &&
 (decide ((0 : Int) ≤ n ∧ n < 2) &&
 decide ((0 : Int) ≤ m ∧ m < 1000000))))))
 (branch
 (AV.bool
 (inC
 (setC
 (setC
 (setC
 (setC
 (setC
 (setC
 (setC
 (setC
 (setC (zerC 64 [AV.int IntKind.u8 (0 : Int)]) 0
 [AV.int IntKind.u8 (IntKind.u8.wrap (s.fdiv (1 : Int)))])
 1 [AV.int IntKind.u8 (IntKind.u8.wrap (s.fdiv (256 : Int)))])
 2 [AV.int IntKind.u8 (IntKind.u8.wrap (s.fdiv (65536 : Int)))])
 3 [AV.int IntKind.u8 (IntKind.u8.wrap (s.fdiv (16777216 : Int)))])
 60 [AV.int IntKind.u8 (IntKind.u8.wrap (s.fdiv (1 : Int)))])
 61 [AV.int IntKind.u8 (IntKind.u8.wrap (s.fdiv (256 : Int)))])
 62 [AV.int IntKind.u8 (IntKind.u8.wrap (s.fdiv (65536 : Int)))])
 63 [AV.int IntKind.u8 (IntKind.u8.wrap (s.fdiv (16777216 : Int)))])
 4 (flC l (minN l.length 56)))
 0 (mulN 64 1)))
 (onSome (dkG 0 (dk0 X) (dk1 X) (dk2 0 X) (dk3 X)) none fun (o_2 : Dk) =>
 branch
 (AV.bool
 (byOk
 (rowsC 1 64
 (setC
 (setC
 (setC
 (setC
 (setC
 (setC
 (setC
 (setC
 (setC (zerC 64 [AV.int IntKind.u8 (0 : Int)]) 0
 [AV.int IntKind.u8 (IntKind.u8.wrap (s.fdiv (1 : Int)))])
 1
 [AV.int IntKind.u8 (IntKind.u8.wrap (s.fdiv (256 : Int)))])
 2
 [AV.int IntKind.u8 (IntKind.u8.wrap (s.fdiv (65536 : Int)))])
 3
 [AV.int IntKind.u8 (IntKind.u8.wrap (s.fdiv (16777216 : Int)))])
 60 [AV.int IntKind.u8 (IntKind.u8.wrap (s.fdiv (1 : Int)))])
 61 [AV.int IntKind.u8 (IntKind.u8.wrap (s.fdiv (256 : Int)))])
 62 [AV.int IntKind.u8 (IntKind.u8.wrap (s.fdiv (65536 : Int)))])
 63 [AV.int IntKind.u8 (IntKind.u8.wrap (s.fdiv (16777216 : Int)))])
 4 (flC l (minN l.length 56)))
 0)))
 (some
 (Fin.ret (.bool true),
 St.mk
 [dk0
 (o_2.wrX (placeV o n m)
 (nR
 (rowsC 1 64
 (setC
 (setC
 (setC
 (setC
 (setC
 (setC
 (setC
 (setC
 (setC (zerC 64 [AV.int IntKind.u8 (0 : Int)])
 0
 [AV.int IntKind.u8
 (IntKind.u8.wrap (s.fdiv (1 : Int)))])
 1
 [AV.int IntKind.u8
 (IntKind.u8.wrap (s.fdiv (256 : Int)))])
 2
 [AV.int IntKind.u8
 (IntKind.u8.wrap (s.fdiv (65536 : Int)))])
 3
 [AV.int IntKind.u8
 (IntKind.u8.wrap (s.fdiv (16777216 : Int)))])
 60
 [AV.int IntKind.u8 (IntKind.u8.wrap (s.fdiv (1 : Int)))])
 61
 [AV.int IntKind.u8 (IntKind.u8.wrap (s.fdiv (256 : Int)))])
 62
 [AV.int IntKind.u8 (IntKind.u8.wrap (s.fdiv (65536 : Int)))])
 63
 [AV.int IntKind.u8 (IntKind.u8.wrap (s.fdiv (16777216 : Int)))])
 4 (flC l (minN l.length 56)))
 0))),
 dk1
 (o_2.wrX (placeV o n m)
 (nR
 (rowsC 1 64
 (setC
 (setC
 (setC
 (setC
 (setC
 (setC
 (setC
 (setC
 (setC (zerC 64 [AV.int IntKind.u8 (0 : Int)])
 0
 [AV.int IntKind.u8
 (IntKind.u8.wrap (s.fdiv (1 : Int)))])
 1
 [AV.int IntKind.u8
 (IntKind.u8.wrap (s.fdiv (256 : Int)))])
 2
 [AV.int IntKind.u8
 (IntKind.u8.wrap (s.fdiv (65536 : Int)))])
 3
 [AV.int IntKind.u8
 (IntKind.u8.wrap (s.fdiv (16777216 : Int)))])
 60
 [AV.int IntKind.u8 (IntKind.u8.wrap (s.fdiv (1 : Int)))])
 61
 [AV.int IntKind.u8 (IntKind.u8.wrap (s.fdiv (256 : Int)))])
 62
 [AV.int IntKind.u8 (IntKind.u8.wrap (s.fdiv (65536 : Int)))])
 63
 [AV.int IntKind.u8 (IntKind.u8.wrap (s.fdiv (16777216 : Int)))])
 4 (flC l (minN l.length 56)))
 0))),
 dk2 0
 (o_2.wrX (placeV o n m)
 (nR
 (rowsC 1 64
 (setC
 (setC
 (setC
 (setC
 (setC
 (setC
 (setC
 (setC
 (setC (zerC 64 [AV.int IntKind.u8 (0 : Int)])
 0
 [AV.int IntKind.u8
 (IntKind.u8.wrap (s.fdiv (1 : Int)))])
 1
 [AV.int IntKind.u8
 (IntKind.u8.wrap (s.fdiv (256 : Int)))])
 2
 [AV.int IntKind.u8
 (IntKind.u8.wrap (s.fdiv (65536 : Int)))])
 3
 [AV.int IntKind.u8
 (IntKind.u8.wrap (s.fdiv (16777216 : Int)))])
 60
 [AV.int IntKind.u8 (IntKind.u8.wrap (s.fdiv (1 : Int)))])
 61
 [AV.int IntKind.u8 (IntKind.u8.wrap (s.fdiv (256 : Int)))])
 62
 [AV.int IntKind.u8 (IntKind.u8.wrap (s.fdiv (65536 : Int)))])
 63
 [AV.int IntKind.u8 (IntKind.u8.wrap (s.fdiv (16777216 : Int)))])
 4 (flC l (minN l.length 56)))
 0))),
 dk3
 (o_2.wrX (placeV o n m)
 (nR
 (rowsC 1 64
 (setC
 (setC
 (setC
 (setC
 (setC
 (setC
 (setC
 (setC
 (setC (zerC 64 [AV.int IntKind.u8 (0 : Int)])
 0
 [AV.int IntKind.u8
 (IntKind.u8.wrap (s.fdiv (1 : Int)))])
 1
 [AV.int IntKind.u8
 (IntKind.u8.wrap (s.fdiv (256 : Int)))])
 2
 [AV.int IntKind.u8
 (IntKind.u8.wrap (s.fdiv (65536 : Int)))])
 3
 [AV.int IntKind.u8
 (IntKind.u8.wrap (s.fdiv (16777216 : Int)))])
 60
 [AV.int IntKind.u8 (IntKind.u8.wrap (s.fdiv (1 : Int)))])
 61
 [AV.int IntKind.u8 (IntKind.u8.wrap (s.fdiv (256 : Int)))])
 62
 [AV.int IntKind.u8 (IntKind.u8.wrap (s.fdiv (65536 : Int)))])
 63
 [AV.int IntKind.u8 (IntKind.u8.wrap (s.fdiv (16777216 : Int)))])
 4 (flC l (minN l.length 56)))
 0))),
 Ob.cells
 [AV.ptr 2 0, .int .i64 g, .int .i64 a,
 .int .i64 f, .int .i64 p,
 .int .i64 (IntKind.i64.wrap (s + 1))],
 Ob.cells [AV.ptr 4 0],
 Ob.cells [.int .i64 (IntKind.i64.wrap (m + 1))],
 Ob.lp 0 0 40
 [AV.dead, AV.dead, AV.dead, AV.dead, AV.ptr 5 0,
 AV.eptr [.int .i64 n], AV.ptr 6 0, AV.dead,
 AV.dead, AV.dead, AV.dead, AV.dead, AV.dead, AV.dead, AV.dead, AV.dead,
 AV.dead, AV.dead, AV.dead, AV.dead, AV.dead, AV.dead, x, AV.dead, AV.dead,
 AV.dead, AV.dead, AV.dead, AV.dead, AV.dead, AV.dead, AV.dead, AV.dead,
 AV.dead, AV.dead, AV.dead, AV.dead, AV.dead, AV.dead, AV.dead, AV.dead,
 AV.dead, AV.dead, AV.dead, AV.dead, AV.dead, AV.dead, AV.dead, AV.dead,
 AV.dead, AV.dead, AV.dead, AV.dead, AV.dead],
 Ob.gone]
 []))
 none)
 none)
 none)
 none)
 none)
 none)
 none)
 none)
 none)
 none)
 none)
 none)
 none := by kernel_rfl
def recB (s : Nat) (d : List Nat) : List Nat := le4 s ++ d ++ List.replicate (56 - d.length) 0 ++ le4 s
theorem recB_len {s : Nat} {d : List Nat} (h : d.length ≤ 56) : (recB s d).length = 64 := by simp [recB, le4]; omega
theorem recB_lt {s : Nat} {d : List Nat} (h : ∀ x ∈ d, x < 256) : ∀ x ∈ recB s d, x < 256 := fun x hx => by
 simp only [recB, List.mem_append, List.mem_replicate] at hx
 rcases hx with ((hx | hx) | hx) | hx
 ·exact le4_lt s x hx
 ·exact h x hx
 ·omega
 ·exact le4_lt s x hx
def stB (s : Nat) : List Nat := le4 s ++ List.replicate 56 0 ++ le4 s
theorem put_rec {s : Nat} {d : List Nat} (h : d.length ≤ 56) : putN (stB s) 4 d = recB s d := by
 rw [putN, show (stB s).take 4 = le4 s from rfl, recB]
 have : (stB s).drop (4 + d.length) = List.replicate (56 - d.length) 0 ++ le4 s := by
  rw [← List.drop_drop, show (stB s).drop 4 = List.replicate 56 0 ++ le4 s from rfl, List.drop_append_of_le_length (by simp; omega), List.drop_replicate]
 rw [this, List.append_assoc, List.append_assoc, List.append_assoc]
def tmW (n : Int) (x : AV) : List AV := [.dead, .dead, .dead, .dead, .ptr 5 0, .eptr [.int .i64 n], .ptr 6 0, .dead, .dead, .dead, .dead, .dead, .dead, .dead, .dead, .dead, .dead, .dead, .dead, .dead, .dead, .dead, x] ++ List.replicate 31 .dead
noncomputable def stW (X : Dk) (L : Lg) (m : Nat) (n : Int) (x : AV) : List Ob := [dk0 X, dk1 X, dk2 0 X, dk3 X, .cells [.ptr 2 0, .int .i64 (L.g : Int), .int .i64 (L.a : Int), .int .i64 (L.f : Int), .int .i64 (L.p : Int), .int .i64 (L.s : Int)], .cells [.ptr 4 0], .cells [.int .i64 (m : Int)], .lp 0 0 40 (tmW n x)]
def placeN (X : Dk) (a p : Nat) : Nat := 2 + a * X.half + p
theorem lgG_cs (L : Lg) : lgG [.int .i64 (L.g : Int), .int .i64 (L.a : Int), .int .i64 (L.f : Int), .int .i64 (L.p : Int), .int .i64 (L.s : Int)] = some L := by
 have := lgG_of L
 rw [lgT_eq] at this; exact this
theorem body_can (F : Nat) {X : Dk} (h : X.Ok) (hw : X.ws.length < 999999) (h2 : 2 ≤ X.n) (L : Lg) (hs : L.s < 9000000000000000000) (a m : Nat) (ha : a < 2) (hm : m < 1000000) (x : AV) (d : List Nat) (hd : ∀ y ∈ d, y < 256) (hl : d.length ≤ 56) :
  (rangeY F 40 #[23] f40_a0 f40_y0 (by kernel_rfl) (by kernel_rfl) (by kernel_rfl)).sem 7 [.sl 1 true (bR d)] ⟨stW X L m a x, []⟩ Fun.done =
   some (.ret (.bool true), ⟨stW (X.wrX ((placeN X a m : Nat) : Int) (recB L.s d)) { L with s := L.s + 1 } (m + 1) a x ++ [.gone], []⟩) := by
 have w1 : ∀ n : Nat, IntKind.u8.wrap ((n : Int).fdiv 1) = ((n % 256 : Nat) : Int) := fun n => by have := u8w n 1 (by omega); rw [Nat.div_one] at this; exact this
 have w2 : ∀ n : Nat, IntKind.u8.wrap ((n : Int).fdiv 256) = ((n / 256 % 256 : Nat) : Int) := fun n => u8w n 256 (by omega)
 have w3 : ∀ n : Nat, IntKind.u8.wrap ((n : Int).fdiv 65536) = ((n / 65536 % 256 : Nat) : Int) := fun n => u8w n 65536 (by omega)
 have w4 : ∀ n : Nat, IntKind.u8.wrap ((n : Int).fdiv 16777216) = ((n / 16777216 % 256 : Nat) : Int) := fun n => u8w n 16777216 (by omega)
 have hlen : (List.replicate 64 0).length = 64 := List.length_replicate
 refine (body_run F X _ _ _ _ _ _ _ x (bR d)).trans ?_
 rw [branch_of (by rw [mkOk_iff]; exact ⟨by decide, by decide⟩), zerC_byte, w1, w2, w3, w4]
 generalize hb : List.replicate 64 0 = b at *
 iterate 8 rw [branch_of (inC_b (by simp only [List.length_set, hlen]; decide)), setC_byte (by simp only [List.length_set, hlen]; decide)]
 subst hb
 rw [show ((((((((List.replicate 64 0).set 0 (L.s % 256)).set 1 (L.s / 256 % 256)).set 2 (L.s / 65536 % 256)).set 3 (L.s / 16777216 % 256)).set 60 (L.s % 256)).set 61 (L.s / 256 % 256)).set 62 (L.s / 65536 % 256)).set 63 (L.s / 16777216 % 256) = stB L.s from rfl]
 have em : minN (bR d).length 56 = d.length := by rw [minN, opq_eq, bR_length]; omega
 have es : (stB L.s).length = 64 := rfl
 have eh : X.half = (X.n - 2) / 2 := rfl
 have hn1 := h.n1
 have ep : placeV X (a : Int) (m : Int) = ((placeN X a m : Nat) : Int) := by
  rw [placeV, opq_eq, placeN]; push_cast; rfl
 rw [em, mulN_one, branch_of (show inC (bC (stB L.s)) 4 d.length = true by rw [inC_iff, bC_length, es]; omega), gD' h hw, onSome_some, lgG_cs, onSome_some, branch_of (by simp; omega), flC_bR, List.take_of_length_le (Nat.le_refl _), setC_bC (by rw [es]; omega), put_rec hl,
  branch_of (show inC (bC (recB L.s d)) 0 (mulN 64 1) = true by rw [inC_iff, mulN_one, bC_length, recB_len hl]; omega), onSome_some, rowsC_bC (by rw [recB_len hl]; omega), List.drop_zero, List.take_of_length_le (by rw [recB_len hl]; omega),
  branch_of (byOk_bR (recB_lt hd) (by rw [recB_len hl]; omega)), nR_bR, ep, wrap_succ (by omega), wrap_succ (by omega)]
 rfl
def Dk.wrRec (X : Dk) (k s : Nat) : Nat → List Nat → Dk
 | 0, _ => X
 | n + 1, l => (X.wrX (k : Int) (recB s (l.take 56))).wrRec (k + 1) (s + 1) n (l.drop 56)
theorem wrX_n (X : Dk) (k : Int) (b : List Nat) : (X.wrX k b).n = X.n := by unfold Dk.wrX; split <;> rfl
theorem wrRec_n : ∀ (n : Nat) (X : Dk) (k s : Nat) (l : List Nat), (X.wrRec k s n l).n = X.n
 | 0, _, _, _, _ => rfl
 | n + 1, X, k, s, l => by rw [Dk.wrRec, wrRec_n n, wrX_n]
theorem wrRec_ok : ∀ (n : Nat) {X : Dk} (h : X.Ok) (k s : Nat) {l : List Nat} (hl : ∀ x ∈ l, x < 256), (X.wrRec k s n l).Ok
 | 0, _, h, _, _, _, _ => h
 | n + 1, X, h, k, s, l, hl => wrRec_ok n (h.wrX (recB_lt fun x hx => hl x (List.mem_of_mem_take hx))) _ _ fun x hx => hl x (List.mem_of_mem_drop hx)
theorem wrRec_len : ∀ (n : Nat) (X : Dk) (k s : Nat) (l : List Nat), (X.wrRec k s n l).ws.length ≤ X.ws.length + n
 | 0, _, _, _, _ => by simp [Dk.wrRec]
 | n + 1, X, k, s, l => by
  have h1 := wrRec_len n (X.wrX (k : Int) (recB s (l.take 56))) (k + 1) (s + 1) (l.drop 56)
  have h2 := wr_len (X := X) (k := (k : Int)) (b := recB s (l.take 56))
  rw [Dk.wrRec]; omega
theorem stW_near {X : Dk} (h : X.Ok) (L : Lg) (m : Nat) (n : Int) {x : AV} (hx : Near 8 x) : ∀ o ∈ stW X L m n x, NearO 8 o := by
 intro o ho
 simp only [stW, List.mem_cons, List.not_mem_nil, or_false] at ho
 rcases ho with rfl | rfl | rfl | rfl | rfl | rfl | rfl | rfl
 ·rw [dk0, opq_eq]; exact flat_near (flat_bC _)
 ·rw [dk1, opq_eq]; exact h.near1 8
 ·rw [dk2, opq_eq]
  refine ⟨by show 0 < 8; omega, by show 1 < 8; omega, ?_, trivial⟩
  unfold Dk.wrAt
  split
  ·trivial
  ·show 0 + 3 < 8; omega
 ·rw [dk3, opq_eq]; exact h.nearW 8
 ·exact ⟨by show 2 < 8; omega, trivial, trivial, trivial, trivial, trivial, trivial⟩
 ·exact ⟨by show 4 < 8; omega, trivial⟩
 ·exact ⟨trivial, trivial⟩
 ·show NearL 8 (tmW n x)
  simp [tmW, List.replicate, NearL, Near, ScopedL, Scoped, hx]
theorem step_can (F : Nat) {X : Dk} (h : X.Ok) (hw : X.ws.length < 999999) (h2 : 2 ≤ X.n) (L : Lg) (hs : L.s < 9000000000000000000) (a m : Nat) (ha : a < 2) (hm : m < 1000000) {x : AV} (hx : Near 8 x) (d : List Nat) (hd : ∀ y ∈ d, y < 256) (hl : d.length ≤ 56) :
  (rangeY F 40 #[23] f40_a0 f40_y0 (by kernel_rfl) (by kernel_rfl) (by kernel_rfl)).stepC 7 [.sl 1 true (bR d)] ⟨stW X L m a x, []⟩ = some (true, ⟨stW (X.wrX ((placeN X a m : Nat) : Int) (recB L.s d)) { L with s := L.s + 1 } (m + 1) a x, []⟩) := by
 have := YOrc.stepC_of (body_can F h hw h2 L hs a m ha hm x d hd hl) ⟨rfl, ⟨bR_scoped _, trivial⟩, stW_near h L m a hx, by simp [stW], fun o ho => ?_⟩
 ·exact this
 ·refine stW_near (h.wrX (k := ((placeN X a m : Nat) : Int)) (recB_lt (s := L.s) hd)) { L with s := L.s + 1 } (m + 1) a hx o ?_
  have e : List.take (St.mk (stW X L m a x) []).objs.length (stW (X.wrX ((placeN X a m : Nat) : Int) (recB L.s d)) { L with s := L.s + 1 } (m + 1) a x ++ [.gone]) = stW (X.wrX ((placeN X a m : Nat) : Int) (recB L.s d)) { L with s := L.s + 1 } (m + 1) a x := rfl
  rw [← e]; exact ho
theorem lead_min (a b : Nat) : leastI false (a : Int) (b : Int) = ((min a b : Nat) : Int) := by
 simp only [leastI]; split <;> omega
theorem chunk_loop (F : Nat) (a : Nat) (ha : a < 2) {x : AV} (hx : Near 8 x) (all : List Nat) (hb : ∀ y ∈ all, y < 256) (hal : all.length < 1000000) (K : Cont) : ∀ (n i mm m : Nat) (X : Dk) (L : Lg), X.Ok → 2 ≤ X.n → X.ws.length + n < 999999 → L.s + n < 9000000000000000000 → m + n < 1000000 → n < mm → all.length ≤ i + 56 * n → i + 56 * n < all.length + 56 → 
  loopRun ((f75_l0 (YOrc.cut (rangeY F 40 #[23] f40_a0 f40_y0 (by kernel_rfl) (by kernel_rfl) (by kernel_rfl))) []).run 100) [0, 1, 2, 4] K mm (Env.mk 31 [(0, .fn (.yield 7) [] []), (1, .eptr [.sl 1 false (bR all)]), (2, .eptr [.int .i64 56]), (4, .int .i64 (i : Int))]) ⟨stW X L m a x, []⟩
   = K (.exit 0) (Env.mk 31 []) ⟨stW (X.wrRec (placeN X a m) L.s n (all.drop i)) { L with s := L.s + n } (m + n) a x, []⟩
 | n, i, 0, m, X, L, _, _, _, _, _, hm, _, _ => by omega
 | 0, i, mm + 1, m, X, L, hX, h2, hw, hs, hm, hmm, h1, h3 => by
  rw [show mm + 1 = mm.succ from rfl, chunk_round, branch_not (decide_eq_false (by rw [bR_length]; omega))]
  rfl
 | n + 1, i, mm + 1, m, X, L, hX, h2, hw, hs, hm, hmm, h1, h3 => by
  have hi : i < all.length := by omega
  have e1 : (List.drop i (List.take (bR all).length (bR all))).length = all.length - i := by
   rw [List.take_of_length_le (Nat.le_refl _), List.length_drop, bR_length]
  have ew : IntKind.i64.wrap ((i : Int) + leastI false (56 : Int) ((List.drop i (List.take (bR all).length (bR all))).length : Int)) = ((min (i + 56) all.length : Nat) : Int) := by
   rw [e1, show (56 : Int) = ((56 : Nat) : Int) from rfl, lead_min, show (i : Int) + ((min 56 (all.length - i) : Nat) : Int) = ((min (i + 56) all.length : Nat) : Int) by omega, wrap_nat (by omega)]
  have et : List.drop i (List.take (((min (i + 56) all.length : Nat) : Int)).toNat (bR all)) = bR ((all.drop i).take 56) := by
   rw [Int.toNat_natCast, bR_take, bR_drop, List.drop_take]
   congr 1
   by_cases hc : i + 56 ≤ all.length
   ·rw [Nat.min_eq_left hc]; congr 1; omega
   ·rw [Nat.min_eq_right (by omega), List.take_of_length_le (by simp), List.take_of_length_le (by simp; omega)]
  have hd : ∀ y ∈ (all.drop i).take 56, y < 256 := fun y hy => hb y (List.mem_of_mem_drop (List.mem_of_mem_take hy))
  have st := step_can F hX (by omega) h2 L (by omega) a m ha (by omega) hx ((all.drop i).take 56) hd (by simp; omega)
  have e56 : IntKind.i64.wrap ((i : Int) + 56) = ((i + 56 : Nat) : Int) := by
   rw [show (i : Int) + 56 = ((i + 56 : Nat) : Int) by omega, wrap_nat (by omega)]
  rw [show mm + 1 = mm.succ from rfl, chunk_round, branch_of (decide_eq_true (by rw [bR_length]; omega)), if_pos ⟨by omega, by rw [bR_length]; omega⟩, ew, if_pos ⟨by omega, by rw [bR_length]; omega⟩, if_pos ⟨by omega, by omega⟩, if_pos ⟨by omega, by omega⟩, Nat.beq_refl, et, st, onSome_some, e56]
  refine (branch_not rfl).trans ?_
  have ih := chunk_loop F a ha hx all hb hal K n (i + 56) mm (m + 1) (X.wrX ((placeN X a m : Nat) : Int) (recB L.s ((all.drop i).take 56))) { L with s := L.s + 1 } (hX.wrX (recB_lt hd)) (by rw [wrX_n]; exact h2) (by have := wr_len (X := X) (k := ((placeN X a m : Nat) : Int)) (b := recB L.s ((all.drop i).take 56)); omega) (by simp only; omega) (by omega) (by omega) (by omega) (by omega)
  refine ih.trans ?_
  have ep : placeN (X.wrX ((placeN X a m : Nat) : Int) (recB L.s ((all.drop i).take 56))) a (m + 1) = placeN X a m + 1 := by
   rw [placeN, placeN, Dk.half, Dk.half, wrX_n]; omega
  rw [ep, Dk.wrRec, List.drop_drop, show L.s + 1 + n = L.s + (n + 1) by omega, show m + 1 + n = m + (n + 1) by omega]
def recAll (d : List Nat) : List Nat := d.length % 256 :: d.length / 256 % 256 :: d
theorem recAll_lt {d : List Nat} (h : ∀ x ∈ d, x < 256) : ∀ x ∈ recAll d, x < 256 := fun x hx => by
 simp only [recAll, List.mem_cons] at hx
 rcases hx with rfl | rfl | hx
 ·omega
 ·omega
 ·exact h x hx
theorem near_x (all : List Nat) : Near 8 (.fn (.func 75) [] [.eptr [.sl 1 false (bR all)], .eptr [.int .i64 56]]) := by
 refine ⟨trivial, trivial, ⟨⟨bR_scoped _, trivial⟩, ⟨trivial, trivial⟩, trivial⟩⟩
theorem wrec_can (F : Nat) {X : Dk} (h : X.Ok) (h2 : 2 ≤ X.n) (L : Lg) (a m : Nat) (ha : a < 2) (z : Bool) (d : List Nat) (hd : ∀ y ∈ d, y < 256) (hl : d.length ≤ 5000) (hw : X.ws.length + piecesN d.length < 999999) (hs : L.s + piecesN d.length < 9000000000000000000) (hm : m + piecesN d.length < 1000000) :
  ∃ xs, f40.run F [.ptr 4 0, .int .i64 (a : Int), .int .i64 (m : Int), .ns z 1 (bR d)] ⟨X.obs ++ [lgC L], []⟩ = some (.ret (.tup []), ⟨(X.wrRec (placeN X a m) L.s (piecesN d.length) (recAll d)).obs ++ lgC { L with s := L.s + piecesN d.length } :: xs, []⟩) := by
 have hp : piecesN d.length = (d.length + 57) / 56 := rfl
 have e0 : ([AV.int IntKind.u8 (IntKind.u8.wrap ((bR d).length : Int))] :: [AV.int IntKind.u8 (IntKind.u8.wrap (((bR d).length : Int).fdiv 256))] :: bR d) = bR (recAll d) := by
  rw [bR_length, u8w0, show (256 : Int) = ((256 : Nat) : Int) from rfl, u8w _ _ (by omega)]; rfl
 have hlen : (recAll d).length = d.length + 2 := rfl
 have hY := wrRec_ok (piecesN d.length) h (placeN X a m) L.s (recAll_lt hd)
 rw [dk_obs h, dk_obs hY]
 have key := chunk_loop F a ha (near_x (recAll d)) (recAll d) (recAll_lt hd) (by omega) (Cont.block 0 ((f75 (YOrc.cut (rangeY F 40 #[23] f40_a0 f40_y0 (by kernel_rfl) (by kernel_rfl) (by kernel_rfl))) []).leaveK Fun.done)) (piecesN d.length) 0 100 m X L h h2 hw hs hm (by omega) (by omega) (by omega)
 have hc := chunkR_of (Y := rangeY F 40 #[23] f40_a0 f40_y0 (by kernel_rfl) (by kernel_rfl) (by kernel_rfl)) (args := [.fn (.yield 7) [] [], .eptr [.sl 1 false (bR (recAll d))], .eptr [.int .i64 56]]) (a := dk0 X) (b := dk1 X) (c := dk2 0 X) (d := dk3 X) (q := .ptr 2 0) (g := .int .i64 (L.g : Int)) (aa := .int .i64 (L.a : Int)) (f := .int .i64 (L.f : Int)) (p := .int .i64 (L.p : Int)) (x := .int .i64 (L.s : Int)) (e' := .cells [.ptr 4 0]) (e := .cells [.int .i64 (m : Int)]) (s := 0) (i := 0) (ff := 40) (tm := tmW a (.fn (.func 75) [] [.eptr [.sl 1 false (bR (recAll d))], .eptr [.int .i64 56]]))
  (r := (X.wrRec (placeN X a m) L.s (piecesN d.length) (recAll d), L.s + piecesN d.length, m + piecesN d.length)) hY ((chunk_run _ _ _ _ _ _).trans (key.trans rfl))
 refine ⟨[.cells [.ptr 4 0], .cells [.int .i64 ((m + piecesN d.length : Nat) : Int)], .gone], ?_⟩
 refine (write_run F X _ _ _ _ _ _ _ z (bR d)).trans ?_
 rw [e0, branch_of (by rw [Bool.true_and, apOk_iff, bR_length]; omega)]
 refine (congrArg (fun o => onSome o none _) hc).trans ?_
 rfl
def Lg.wr (L : Lg) (d : List Nat) : Lg := { L with s := L.s + piecesN d.length }
def Dk.wrLog (X : Dk) (L : Lg) (a m : Nat) (d : List Nat) : Dk := X.wrRec (placeN X a m) L.s (piecesN d.length) (recAll d)
noncomputable def Lg.wrO (L : Lg) (d : List Nat) : Lg := opq (L.wr d)
theorem wrO_eq (L : Lg) (d : List Nat) : L.wrO d = L.wr d := by rw [Lg.wrO, opq_eq]
noncomputable def Dk.wrLogO (X : Dk) (L : Lg) (a m : Int) (d : List Nat) : Dk := opq (X.wrLog L a.toNat m.toNat d)
theorem wrLogO_eq (X : Dk) (L : Lg) (a m : Nat) (d : List Nat) : X.wrLogO L a m d = X.wrLog L a m d := by rw [Dk.wrLogO, opq_eq]; rfl
noncomputable def s40 : OrcS Try.prog := f40.by'
 (fun args st k => match args with
  | [x, y, z, w] => onL x st fun j i X L => onInt y fun kd a => onInt z fun kd' m => onNs 1 w fun _ l => ifT (decide (kd = .i64) && (decide (kd' = .i64) && (decide (0 ≤ a ∧ a < 2) && (decide (0 ≤ m ∧ m < 900000) && (byOk l && cdec (l.length ≤ 5000 ∧ 2 ≤ X.n ∧ X.ws.length < 900000 ∧ L.s < 8000000000000000000)))))) (k (.ret (.tup [])) (plL (plD st i (X.wrLogO L a m (nR l))) j i (L.wrO (nR l))))
  | _ => none)
 fun args st k fin h => by
  split at h
  ·rename_i x y z w
   obtain ⟨j, i, o0, o1, o2, o3, X, L, rfl, hj, h0, h1, h2, h3, hd, g901⟩ := onL_spec h
   obtain ⟨kd, a, g902, rfl⟩ := onInt_spec g901
   obtain ⟨kd', m, g903, rfl⟩ := onInt_spec g902
   obtain ⟨zz, l, g904, hx⟩ := onNs_spec g903
   obtain ⟨hk, g905⟩ := ifT_spec g904
   simp only [Bool.and_eq_true, decide_eq_true_eq, cdec_iff] at hk
   obtain ⟨rfl, rfl, hk1, hk2, hb, hk3⟩ := hk
   obtain ⟨a, rfl⟩ := Int.eq_ofNat_of_zero_le hk1.1
   obtain ⟨m, rfl⟩ := Int.eq_ofNat_of_zero_le hk2.1
   rw [wrLogO_eq, wrO_eq] at g905
   have hok := byOk_iff.mp hb
   have hlt : ∀ y ∈ nR l, y < 256 := fun y hy => okR_lt hok.1 hy
   have hp : piecesN (nR l).length = ((nR l).length + 57) / 56 := rfl
   have hln := nR_length l
   obtain ⟨xs, hrun⟩ := wrec_can 100 hd.1 hk3.2.1 L a m (by omega) zz (nR l) hlt (by omega) (by omega) (by omega) (by omega)
   rw [← okR_rows hok.1] at hrun
   have := lg_placed (f := f40) (r := .tup []) (xs := xs) (X := X) (Y := X.wrLog L a m (nR l)) (L := L) (M := L.wr (nR l)) (F := 100) hrun (wrRec_ok _ hd.1 _ _ (recAll_lt hlt)) ⟨by show 4 < 5; omega, trivial, trivial, okR_scoped hok.1, trivial⟩ trivial hj h0 h1 h2 h3 hd
   refine ⟨_, _, g905, calls_wk this fun g w vs ⟨v1, r901, e1, k1, v2, r902, e2, k2, v3, r903, e3, k3, v4, r904, e4, k4, k5⟩ => ⟨v1, r901, e1, k1, v2, r902, e2, k2, v3, r903, e3, k3, v4, r904, e4, hx g w v4 k4, k5⟩⟩
  ·cases h
theorem s40_nat : s40.NatS := by
 intro args st k
 show s40.sem args st k = thS (s40.sem args st (fun r st' => some (r, st'))) k
 simp only [s40, Fun.by']
 split
 ·exact onL_th fun j i X L => onInt_th fun _ _ => onInt_th fun _ _ => onNs_th fun _ _ => ifT_th rfl
 ·rfl
noncomputable def f12_b : Sim Try.prog :=
 (.seq (.live [0, 1] (.region 0 [
 ⟨(opAssign (some 4) (.const (Value.int IntKind.i64 0)) 26 "wal.go:198" #[]).op, none⟩
 ] (by kernel_rfl)))
 (.seq (.seq (.live [0, 1, 8] (.region 1 [
 ⟨(opMove (some 6) (.tmp 1) 33 "wal.go:199" #[]).op, none⟩,
 ⟨(PSim.hide (opLen (some 7) (.tmp 6) 33 (.slice 5) Try.underlying33 3 "wal.go:199" #[eD 0])).op, none⟩,
 ⟨(opBin (some 8) .gtr 3 (.tmp 7) (.const (Value.int IntKind.i64 4096)) 3 4 "wal.go:199" #[eD 1]).op, none⟩
 ] (by kernel_rfl)))
 (.cond (.tmp 8)
 (.seq (.live [4] (.region 2 [
 ⟨(opAssign (some 4) (.const (Value.int IntKind.i64 41)) 26 "wal.go:200" #[]).op, none⟩
 ] (by kernel_rfl)))
 (.live [4] .ret))
 .skip))
 (.seq (.live [0, 1, 5] (.region 3 [
 ⟨(opMove (some 9) (.tmp 1) 33 "wal.go:202" #[]).op, none⟩,
 ⟨(PSim.hide (opLen (some 10) (.tmp 9) 33 (.slice 5) Try.underlying33 3 "wal.go:202" #[eD 0])).op, none⟩,
 ⟨(opCallP p39 (some 11) [(.tmp 10)] #[3] 3 "wal.go:202" #[eD 1]).op, none⟩,
 ⟨(opAssign (some 5) (.tmp 11) 3 "wal.go:202" #[eD 2, eC 2, eP 0, eP 1, eP 2]).op, none⟩
 ] (by kernel_rfl)))
 (.seq (.seq (.live [0, 1, 5, 24] (.region 4 [
 ⟨(opMove (some 12) (.tmp 5) 3 "wal.go:203" #[]).op, none⟩,
 ⟨(opMove (some 13) (.tmp 0) 29 "wal.go:203" #[]).op, none⟩,
 ⟨(opCallQ q18 (some 14) [(.tmp 13)] #[29] 3 "wal.go:203" #[eD 1]).op, none⟩,
 ⟨(opBin (some 15) .gtr 3 (.tmp 12) (.tmp 14) 3 4 "wal.go:203" #[eD 0, eD 2]).op, none⟩,
 ⟨(opMove (some 16) (.tmp 15) 4 "wal.go:203" #[eD 3, eC 2]).op, none⟩,
 ⟨(opMove (some 17) (.tmp 0) 29 "wal.go:203" #[eG 4]).op, (some (4, 16, false))⟩,
 ⟨(opNilCheck (some 18) (.tmp 17) 0 "wal.go:203" #[eD 5, eG 4]).op, (some (4, 16, false))⟩,
 ⟨(opFieldAddr (some 19) 71 (.tmp 18) 3 5 1 false fl71_3 (by decide) 0 "wal.go:203" #[eD 6, eG 4]).op, (some (4, 16, false))⟩,
 ⟨(opLoadT (.one (.int .i64)) (some 20) 3 (.tmp 19) (.int .i64) Try.underlying3 1 sz3 (by kernel_rfl) 3 "wal.go:203" #[eD 7, eG 4]).op, (some (4, 16, false))⟩,
 ⟨(opMove (some 21) (.tmp 5) 3 "wal.go:203" #[eG 4]).op, (some (4, 16, false))⟩,
 ⟨(opBin (some 22) .add 3 (.tmp 20) (.tmp 21) 3 3 "wal.go:203" #[eD 8, eD 9, eG 4]).op, (some (4, 16, false))⟩,
 ⟨(opBin (some 23) .gtr 3 (.tmp 22) (.const (Value.int IntKind.i64 2147483648)) 3 4 "wal.go:203" #[eD 10, eG 4]).op, (some (4, 16, false))⟩,
 ⟨(opPick (some 24) (.tmp 16) (.const (Value.bool true)) (.tmp 23) 4 "wal.go:203" #[eD 4, eD 11]).op, none⟩
 ] (by kernel_rfl)))
 (.cond (.tmp 24)
 (.seq (.live [4] (.region 5 [
 ⟨(opAssign (some 4) (.const (Value.int IntKind.i64 36)) 26 "wal.go:204" #[]).op, none⟩
 ] (by kernel_rfl)))
 (.live [4] .ret))
 .skip))
 (.seq (.live [0, 5] (.draw 6 [
 ⟨.p (opMove (some 25) (.tmp 0) 29 "wal.go:206" #[]), none⟩,
 ⟨.p (opMove (some 26) (.tmp 0) 29 "wal.go:206" #[]), none⟩,
 ⟨.p (opNilCheck (some 27) (.tmp 26) 0 "wal.go:206" #[eD 1]), none⟩,
 ⟨.pn (opFieldAddr (some 28) 71 (.tmp 27) 1 1 3 true fl71_1 (by decide) 0 "wal.go:206" #[eD 2]) opFieldAddr_nat, none⟩,
 ⟨.pn (opFieldAddr (some 29) 69 (.tmp 28) 1 1 1 false fl69_1 (by decide) 0 "wal.go:206" #[eD 3]) opFieldAddr_nat, none⟩,
 ⟨.qn (opLoadT (.one (.int .i64)) (some 30) 3 (.tmp 29) (.int .i64) Try.underlying3 1 sz3 (by kernel_rfl) 3 "wal.go:206" #[eD 4]) opLoadT_nat, none⟩,
 ⟨.p (opMove (some 31) (.tmp 0) 29 "wal.go:206" #[]), none⟩,
 ⟨.p (opNilCheck (some 32) (.tmp 31) 0 "wal.go:206" #[eD 6]), none⟩,
 ⟨.pn (opFieldAddr (some 33) 71 (.tmp 32) 2 4 1 false fl71_2 (by decide) 0 "wal.go:206" #[eD 7]) opFieldAddr_nat, none⟩,
 ⟨.qn (opLoadT (.one (.int .i64)) (some 34) 3 (.tmp 33) (.int .i64) Try.underlying3 1 sz3 (by kernel_rfl) 3 "wal.go:206" #[eD 8]) opLoadT_nat, none⟩,
 ⟨.p (opMove (some 35) (.tmp 1) 33 "wal.go:206" #[]), none⟩,
 ⟨.mn (opCallM (s40) (some 36) [(.tmp 25), (.tmp 30), (.tmp 34), (.tmp 35)] #[29, 3, 3, 33] 0 "wal.go:206" #[eD 0, eD 5, eD 9, eD 10]) (opCallM_nat s40_nat), none⟩
 ] mixed (by kernel_rfl)))
 (.seq (.live [] (.region 7 [
 ⟨(opMove (some 37) (.tmp 0) 29 "wal.go:207" #[]).op, none⟩,
 ⟨(opNilCheck (some 38) (.tmp 37) 0 "wal.go:207" #[eD 0]).op, none⟩,
 ⟨(opFieldAddr (some 39) 71 (.tmp 38) 2 4 1 false fl71_2 (by decide) 0 "wal.go:207" #[eD 1]).op, none⟩,
 ⟨(opLoadT (.one (.int .i64)) (some 40) 3 (.tmp 39) (.int .i64) Try.underlying3 1 sz3 (by kernel_rfl) 3 "wal.go:207" #[eD 2]).op, none⟩,
 ⟨(opMove (some 41) (.tmp 5) 3 "wal.go:207" #[]).op, none⟩,
 ⟨(opBin (some 42) .add 3 (.tmp 40) (.tmp 41) 3 3 "wal.go:207" #[eD 3, eD 4]).op, none⟩,
 ⟨(opNilCheck (some 43) (.tmp 37) 0 "wal.go:207" #[eD 0, eP 0, eP 1, eP 2, eP 3, eP 4, eP 5]).op, none⟩,
 ⟨(opFieldAddr (some 44) 71 (.tmp 43) 2 4 1 false fl71_2 (by decide) 0 "wal.go:207" #[eD 6, eP 0, eP 1, eP 2, eP 3, eP 4, eP 5]).op, none⟩,
 ⟨(opStore none 3 (.tmp 44) (.tmp 42) 1 sz3 0 "wal.go:207" #[eD 7, eD 5, eP 0, eP 1, eP 2, eP 3, eP 4, eP 5]).op, none⟩
 ] (by kernel_rfl)))
 (.seq (.live [4] (.region 8 [
 ⟨(opAssign (some 4) (.const (Value.int IntKind.i64 0)) 26 "wal.go:208" #[]).op, none⟩
 ] (by kernel_rfl)))
 (.live [4] .ret))))))))
noncomputable def f12 : Fun Try.prog where
 id := 12
 fn := Try.f12
 hf := Try.func12
 hname := by kernel_rfl
 body := f12_b
 hbody := by kernel_rfl
 res := [rTmp 4]
 hres := by kernel_rfl
 n := 45
 hn := by kernel_rfl
theorem append_run (F : Nat) (X : Dk) (g a f p s : Int) (z : Bool) (l : List (List AV)) :
 (f12.run F [.ptr 4 0, .ns z 1 l] ⟨[dk0 X, dk1 X, dk2 0 X, dk3 X, .cells [.ptr 2 0, .int .i64 g, .int .i64 a, .int .i64 f, .int .i64 p, .int .i64 s]], []⟩ : Ans) =
 branch (.bool (decide (opq (↑l.length : Int) > 4096)))
 (some
 (Fin.ret (.int .i64 41),
 St.mk
 [dk0 X, dk1 X, dk2 0 X, dk3 X,
 Ob.cells
 [AV.ptr 2 0, .int .i64 g, .int .i64 a, .int .i64 f,
 .int .i64 p, .int .i64 s]]
 []))
 (branch (.bool (true && decide ((0 : Int) ≤ opq (↑l.length : Int) ∧ opq (↑l.length : Int) < 1000000000)))
 (onSome (dkG 0 (dk0 X) (dk1 X) (dk2 0 X) (dk3 X)) none fun (o : Dk) =>
 onSome
 (lgG
 [.int .i64 g, .int .i64 a, .int .i64 f, .int .i64 p,
 .int .i64 s])
 none fun (o_1 : Lg) =>
 branch (.bool (decide (2 ≤ o.n) && cdec (o_1.p < 1000000)))
 (branch (.bool (decide (piecesV (opq (↑l.length : Int)) > roomV o o_1)))
 (some
 (Fin.ret (.int .i64 36),
 St.mk
 [dk0 X, dk1 X, dk2 0 X, dk3 X,
 Ob.cells
 [AV.ptr 2 0, .int .i64 g, .int .i64 a, .int .i64 f,
 .int .i64 p, .int .i64 s]]
 []))
 (branch (.bool (decide (IntKind.i64.wrap (s + piecesV (opq (↑l.length : Int))) > 2147483648)))
 (some
 (Fin.ret (.int .i64 36),
 St.mk
 [dk0 X, dk1 X, dk2 0 X, dk3 X,
 Ob.cells
 [AV.ptr 2 0, .int .i64 g, .int .i64 a, .int .i64 f,
 .int .i64 p, .int .i64 s]]
 []))
 (onSome (dkG 0 (dk0 X) (dk1 X) (dk2 0 X) (dk3 X)) none fun (o : Dk) =>
 onSome
 (lgG
 [.int .i64 g, .int .i64 a, .int .i64 f, .int .i64 p,
 .int .i64 s])
 none fun (o_2 : Lg) =>
 branch
 (AV.bool
 (true &&
 (true &&
 (decide ((0 : Int) ≤ a ∧ a < 2) &&
 (decide ((0 : Int) ≤ p ∧ p < 900000) &&
 (byOk l &&
 cdec
 (l.length ≤ 5000 ∧
 2 ≤ o.n ∧
 o.3.length < 900000 ∧ o_2.s < 8000000000000000000)))))))
 (some
 (Fin.ret (.int .i64 0),
 St.mk
 [dk0 (o.wrLogO o_2 a p (nR l)), dk1 (o.wrLogO o_2 a p (nR l)),
 dk2 0 (o.wrLogO o_2 a p (nR l)), dk3 (o.wrLogO o_2 a p (nR l)),
 Ob.cells
 [AV.ptr 2 0, .int .i64 (lv0 (o_2.wrO (nR l))),
 .int .i64 (lv1 (o_2.wrO (nR l))), .int .i64 (lv2 (o_2.wrO (nR l))),
 AV.int IntKind.i64
 (IntKind.i64.wrap (lv3 (o_2.wrO (nR l)) + piecesV (opq (↑l.length : Int)))),
 .int .i64 (lv4 (o_2.wrO (nR l)))]]
 []))
 none)))
 none)
 none) := by kernel_rfl
theorem lv_eq (L : Lg) : lv0 L = (L.g : Int) ∧ lv1 L = (L.a : Int) ∧ lv2 L = (L.f : Int) ∧ lv3 L = (L.p : Int) ∧ lv4 L = (L.s : Int) := ⟨opq_eq _, opq_eq _, opq_eq _, opq_eq _, opq_eq _⟩
def appE (X : Dk) (L : Lg) (d : List Nat) : Nat := if 4096 < d.length then 41 else if X.half < L.p + piecesN d.length ∨ 2147483648 < L.s + piecesN d.length then 36 else 0
def Dk.app (X : Dk) (L : Lg) (d : List Nat) : Dk := if appE X L d = 0 then X.wrLog L L.a L.p d else X
def Lg.app (L : Lg) (X : Dk) (d : List Nat) : Lg := if appE X L d = 0 then { L with p := L.p + piecesN d.length, s := L.s + piecesN d.length } else L
noncomputable def appEO (X : Dk) (L : Lg) (d : List Nat) : Int := opq ((appE X L d : Nat) : Int)
noncomputable def Dk.appO (X : Dk) (L : Lg) (d : List Nat) : Dk := opq (X.app L d)
noncomputable def Lg.appO (L : Lg) (X : Dk) (d : List Nat) : Lg := opq (L.app X d)
theorem appO_eq (X : Dk) (L : Lg) (d : List Nat) : appEO X L d = ((appE X L d : Nat) : Int) ∧ X.appO L d = X.app L d ∧ L.appO X d = L.app X d := ⟨opq_eq _, opq_eq _, opq_eq _⟩
structure LOk (X : Dk) (L : Lg) : Prop where
 n2 : 2 ≤ X.n
 a : L.a < 2
 p : L.p < 900000
 w : X.ws.length < 900000
 s : L.s < 8000000000000000000
theorem app_ok {X : Dk} (h : X.Ok) (L : Lg) {d : List Nat} (hd : ∀ y ∈ d, y < 256) : (X.app L d).Ok := by
 unfold Dk.app; split
 ·exact wrRec_ok _ h _ _ (recAll_lt hd)
 ·exact h
theorem append_can (F : Nat) {X : Dk} (h : X.Ok) {L : Lg} (hL : LOk X L) (z : Bool) (d : List Nat) (hd : ∀ y ∈ d, y < 256) (hl : d.length < 4611686018427387904) :
  f12.run F [.ptr 4 0, .ns z 1 (bR d)] ⟨X.obs ++ [lgC L], []⟩ = some (.ret (.int .i64 ((appE X L d : Nat) : Int)), ⟨(X.app L d).obs ++ [lgC (L.app X d)], []⟩) := by
 obtain ⟨n2, ha, hp, hw, hs⟩ := hL
 have hpn : piecesN d.length = (d.length + 57) / 56 := rfl
 rw [dk_obs h, dk_obs (app_ok h L hd)]
 refine (append_run F X _ _ _ _ _ z (bR d)).trans ?_
 rw [opq_eq, bR_length]
 by_cases h1 : 4096 < d.length
 ·have e1 : appE X L d = 41 := if_pos h1
  rw [branch_of (decide_eq_true (by omega)), Dk.app, Lg.app, e1, if_neg (by omega), if_neg (by omega)]; rfl
 ·rw [branch_not (decide_eq_false (by omega)), branch_of (by rw [Bool.true_and]; exact decide_eq_true (by omega)), gD h (by omega), onSome_some, lgG_cs, onSome_some, branch_of (by rw [Bool.and_eq_true, decide_eq_true_eq, cdec_iff]; omega)]
  have ep : piecesV ((d.length : Nat) : Int) = ((piecesN d.length : Nat) : Int) := by rw [piecesV, opq_eq, Int.toNat_natCast]
  have er : roomV X L = (X.half : Int) - (L.p : Int) := by rw [roomV, opq_eq]
  rw [ep, er]
  by_cases h2 : X.half < L.p + piecesN d.length
  ·have e1 : appE X L d = 36 := by rw [appE, if_neg h1, if_pos (.inl h2)]
   rw [branch_of (decide_eq_true (by omega)), Dk.app, Lg.app, e1, if_neg (by omega), if_neg (by omega)]; rfl
  ·rw [branch_not (decide_eq_false (by omega)), show (L.s : Int) + ((piecesN d.length : Nat) : Int) = ((L.s + piecesN d.length : Nat) : Int) by omega, wrap_nat (by omega)]
   by_cases h3 : 2147483648 < L.s + piecesN d.length
   ·have e1 : appE X L d = 36 := by rw [appE, if_neg h1, if_pos (.inr h3)]
    rw [branch_of (decide_eq_true (by omega)), Dk.app, Lg.app, e1, if_neg (by omega), if_neg (by omega)]; rfl
   ·have e1 : appE X L d = 0 := by rw [appE, if_neg h1, if_neg (by omega)]
    obtain ⟨v0, v1, v2, v3, v4⟩ := lv_eq (L.wr d)
    rw [branch_not (decide_eq_false (by omega)), onSome_some, onSome_some]
    refine (branch_of ?_).trans ?_
    ·simp only [Bool.true_and, Bool.and_eq_true, decide_eq_true_eq, cdec_iff]
     exact ⟨by omega, by omega, byOk_bR hd hl, by omega, n2, hw, hs⟩
    ·rw [nR_bR, wrLogO_eq, wrO_eq, v0, v1, v2, v3, v4, show ((L.wr d).p : Int) + ((piecesN d.length : Nat) : Int) = ((L.p + piecesN d.length : Nat) : Int) from by show (L.p : Int) + _ = _; omega, wrap_nat (by omega), Dk.app, Lg.app, e1, if_pos rfl, if_pos rfl]
     rfl
noncomputable def s12 : OrcS Try.prog := f12.by'
 (fun args st k => match args with
  | [x, w] => onL x st fun j i X L => onNs 1 w fun _ l => ifT (byOk l && cdec (LOk X L)) (k (.ret (.int .i64 (appEO X L (nR l)))) (plL (plD st i (X.appO L (nR l))) j i (L.appO X (nR l))))
  | _ => none)
 fun args st k fin h => by
  split at h
  ·rename_i x w
   obtain ⟨j, i, o0, o1, o2, o3, X, L, rfl, hj, h0, h1, h2, h3, hd, g901⟩ := onL_spec h
   obtain ⟨zz, l, g904, hx⟩ := onNs_spec g901
   obtain ⟨hk, g905⟩ := ifT_spec g904
   simp only [Bool.and_eq_true, cdec_iff] at hk
   obtain ⟨hb, hk3⟩ := hk
   obtain ⟨e1, e2, e3⟩ := appO_eq X L (nR l)
   rw [e1, e2, e3] at g905
   have hok := byOk_iff.mp hb
   have hlt : ∀ y ∈ nR l, y < 256 := fun y hy => okR_lt hok.1 hy
   have hrun := append_can 100 hd.1 hk3 zz (nR l) hlt (by rw [nR_length]; exact hok.2)
   rw [← okR_rows hok.1] at hrun
   have := lg_placed (f := f12) (r := .int .i64 _) (xs := []) (X := X) (Y := X.app L (nR l)) (L := L) (M := L.app X (nR l)) (F := 100) hrun (app_ok hd.1 L hlt) ⟨by show 4 < 5; omega, okR_scoped hok.1, trivial⟩ trivial hj h0 h1 h2 h3 hd
   refine ⟨_, _, g905, calls_wk this fun g w vs ⟨v1, r901, e1, k1, v2, r902, e2, k2, k5⟩ => ⟨v1, r901, e1, k1, v2, r902, e2, hx g w v2 k2, k5⟩⟩
  ·cases h
theorem ze71 : (Try.prog.info? 71).bind (·.zero) = some (.agg #[(.pointer none), (.int .i64 0), (.int .i64 0), (.int .i64 0), (.int .i64 0), (.int .i64 0)]) := by kernel_rfl
noncomputable def f11_b : Sim Try.prog :=
 (.seq (.live [0] (.region 0 [
 ⟨(opAssign (some 2) (.const (Value.pointer none)) 29 "wal.go:118" #[]).op, none⟩,
 ⟨(opAssign (some 3) (.const (Value.int IntKind.i64 0)) 26 "wal.go:118" #[eC 0]).op, none⟩
 ] (by kernel_rfl)))
 (.seq (.seq (.live [0, 7] (.region 1 [
 ⟨(opMove (some 5) (.tmp 0) 25 "wal.go:119" #[]).op, none⟩,
 ⟨(opCallQ q35 (some 6) [(.tmp 5)] #[25] 3 "wal.go:119" #[eD 0]).op, none⟩,
 ⟨(opBin (some 7) .lss 3 (.tmp 6) (.const (Value.int IntKind.i64 10)) 3 4 "wal.go:119" #[eD 1]).op, none⟩
 ] (by kernel_rfl)))
 (.cond (.tmp 7)
 (.seq (.live [2, 3] (.region 2 [
 ⟨(opAssign (some 2) (.const (Value.pointer none)) 29 "wal.go:120" #[]).op, none⟩,
 ⟨(opAssign (some 3) (.const (Value.int IntKind.i64 41)) 26 "wal.go:120" #[eC 0, eP 0]).op, none⟩
 ] (by kernel_rfl)))
 (.live [2, 3] .ret))
 .skip))
 (.seq (.live [0, 4] (.region 3 [
 ⟨(opMove (some 8) (.tmp 0) 25 "wal.go:122" #[]).op, none⟩,
 ⟨(opMove (some 9) (.tmp 0) 25 "wal.go:122" #[]).op, none⟩,
 ⟨(opCallQ q36 (some 10) [(.tmp 9)] #[25] 3 "wal.go:122" #[eD 1]).op, none⟩,
 ⟨(opBuild (some 11) 71 #[(.pointer none), (.int .i64 0), (.int .i64 0), (.int .i64 0), (.int .i64 0), (.int .i64 0)] [(0, 0, 1, (.tmp 8)), (3, 5, 1, (.tmp 10))] ze71 (by kernel_rfl) 71 "wal.go:122" #[eD 0, eD 2]).op, none⟩,
 ⟨(opBox (some 12) 71 (.tmp 11) 29 "wal.go:122" #[eD 3]).op, none⟩,
 ⟨(opAssign (some 4) (.tmp 12) 29 "wal.go:122" #[eD 4, eC 2, eP 0, eP 1, eP 2, eP 3, eP 4]).op, none⟩
 ] (by kernel_rfl)))
 (.seq (.live [4] (.draw 4 [
 ⟨.p (opMove (some 13) (.tmp 4) 29 "wal.go:123" #[]), none⟩,
 ⟨.p (opMove (some 14) (.tmp 0) 25 "wal.go:123" #[]), none⟩,
 ⟨.qn (opCallQ q37 (some 15) [(.tmp 14), (.const (Value.int IntKind.i64 0)), (.const (Value.int IntKind.i64 2))] #[25, 3, 3] 3 "wal.go:123" #[eD 1]) (opCallQ_nat q37_nat), none⟩,
 ⟨.pn (opBin (some 16) .add 3 (.tmp 15) (.const (Value.int IntKind.i64 1)) 3 3 "wal.go:123" #[eD 2]) opBin_nat, none⟩,
 ⟨.p (opMove (some 17) (.tmp 4) 29 "wal.go:123" #[]), none⟩,
 ⟨.p (opNilCheck (some 18) (.tmp 17) 0 "wal.go:123" #[eD 4]), none⟩,
 ⟨.pn (opFieldAddr (some 19) 71 (.tmp 18) 3 5 1 false fl71_3 (by decide) 0 "wal.go:123" #[eD 5]) opFieldAddr_nat, none⟩,
 ⟨.qn (opLoadT (.one (.int .i64)) (some 20) 3 (.tmp 19) (.int .i64) Try.underlying3 1 sz3 (by kernel_rfl) 3 "wal.go:123" #[eD 6]) opLoadT_nat, none⟩,
 ⟨.p (opBuild (some 21) 69 #[(.int .i64 0), (.int .i64 0), (.int .i64 0)] [(0, 0, 1, (.tmp 16)), (2, 2, 1, (.tmp 20))] ze69 (by kernel_rfl) 69 "wal.go:123" #[eD 3, eD 7]), none⟩,
 ⟨.p (opNilCheck (some 22) (.tmp 13) 0 "wal.go:123" #[eD 0, eP 0, eP 1, eP 2, eP 3, eP 4, eP 5, eP 6, eP 7, eP 8]), none⟩,
 ⟨.pn (opFieldAddr (some 23) 71 (.tmp 22) 1 1 3 true fl71_1 (by decide) 0 "wal.go:123" #[eD 9, eP 0, eP 1, eP 2, eP 3, eP 4, eP 5, eP 6, eP 7, eP 8]) opFieldAddr_nat, none⟩,
 ⟨.m (opStore none 69 (.tmp 23) (.tmp 21) 3 sz69 0 "wal.go:123" #[eD 10, eD 8, eC 2, eP 0, eP 1, eP 2, eP 3, eP 4, eP 5, eP 6, eP 7, eP 8]), none⟩
 ] mixed (by kernel_rfl)))
 (.seq (.seq (.live [4, 36] (.region 5 [
 ⟨(opMove (some 24) (.tmp 4) 29 "wal.go:124" #[]).op, none⟩,
 ⟨(opNilCheck (some 25) (.tmp 24) 0 "wal.go:124" #[eD 0]).op, none⟩,
 ⟨(opFieldAddr (some 26) 71 (.tmp 25) 1 1 3 true fl71_1 (by decide) 0 "wal.go:124" #[eD 1]).op, none⟩,
 ⟨(opFieldAddr (some 27) 69 (.tmp 26) 0 0 1 false fl69_0 (by decide) 0 "wal.go:124" #[eD 2]).op, none⟩,
 ⟨(opLoadT (.one (.int .i64)) (some 28) 3 (.tmp 27) (.int .i64) Try.underlying3 1 sz3 (by kernel_rfl) 3 "wal.go:124" #[eD 3]).op, none⟩,
 ⟨(opBin (some 29) .geq 3 (.tmp 28) (.const (Value.int IntKind.i64 2147483648)) 3 4 "wal.go:124" #[eD 4]).op, none⟩,
 ⟨(opMove (some 30) (.tmp 29) 4 "wal.go:124" #[eD 5]).op, none⟩,
 ⟨(opMove (some 31) (.tmp 4) 29 "wal.go:124" #[eG 6]).op, (some (6, 30, false))⟩,
 ⟨(opNilCheck (some 32) (.tmp 31) 0 "wal.go:124" #[eD 7, eG 6]).op, (some (6, 30, false))⟩,
 ⟨(opFieldAddr (some 33) 71 (.tmp 32) 3 5 1 false fl71_3 (by decide) 0 "wal.go:124" #[eD 8, eG 6]).op, (some (6, 30, false))⟩,
 ⟨(opLoadT (.one (.int .i64)) (some 34) 3 (.tmp 33) (.int .i64) Try.underlying3 1 sz3 (by kernel_rfl) 3 "wal.go:124" #[eD 9, eG 6]).op, (some (6, 30, false))⟩,
 ⟨(opBin (some 35) .geq 3 (.tmp 34) (.const (Value.int IntKind.i64 2147483648)) 3 4 "wal.go:124" #[eD 10, eG 6]).op, (some (6, 30, false))⟩,
 ⟨(opPick (some 36) (.tmp 30) (.const (Value.bool true)) (.tmp 35) 4 "wal.go:124" #[eD 6, eD 11]).op, none⟩
 ] (by kernel_rfl)))
 (.cond (.tmp 36)
 (.seq (.live [2, 3] (.region 6 [
 ⟨(opAssign (some 2) (.const (Value.pointer none)) 29 "wal.go:125" #[]).op, none⟩,
 ⟨(opAssign (some 3) (.const (Value.int IntKind.i64 36)) 26 "wal.go:125" #[eC 0, eP 0]).op, none⟩
 ] (by kernel_rfl)))
 (.live [2, 3] .ret))
 .skip))
 (.seq (.live [4] (.region 7 [
 ⟨(opMove (some 37) (.tmp 4) 29 "wal.go:127" #[]).op, none⟩,
 ⟨opCall (s38).orc (some 38) [(.tmp 37)] #[29] 0 "wal.go:127" #[eD 0], none⟩
 ] (by kernel_rfl)))
 (.seq (.live [2, 3] (.region 8 [
 ⟨(opMove (some 39) (.tmp 4) 29 "wal.go:128" #[]).op, none⟩,
 ⟨(opAssign (some 2) (.tmp 39) 29 "wal.go:128" #[eD 0, eP 0]).op, none⟩,
 ⟨(opAssign (some 3) (.const (Value.int IntKind.i64 0)) 26 "wal.go:128" #[eC 1, eP 0, eP 1]).op, none⟩
 ] (by kernel_rfl)))
 (.live [2, 3] .ret))))))))
noncomputable def f11 : Fun Try.prog where
 id := 11
 fn := Try.f11
 hf := Try.func11
 hname := by kernel_rfl
 body := f11_b
 hbody := by kernel_rfl
 res := [rTmp 2, rTmp 3]
 hres := by kernel_rfl
 n := 40
 hn := by kernel_rfl
noncomputable def f13_b : Sim Try.prog :=
 (.live [] (.region 0 [
 ⟨(opMove (some 2) (.tmp 0) 29 "wal.go:212" #[]).op, none⟩,
 ⟨(opNilCheck (some 3) (.tmp 2) 0 "wal.go:212" #[eD 0]).op, none⟩,
 ⟨(opFieldAddr (some 4) 71 (.tmp 3) 0 0 1 false fl71_0 (by decide) 0 "wal.go:212" #[eD 1]).op, none⟩,
 ⟨(opLoadT (.one .any) (some 5) 25 (.tmp 4) (.pointer 79) Try.underlying25 1 sz25 (by kernel_rfl) 25 "wal.go:212" #[eD 2]).op, none⟩,
 ⟨opCall (s41).orc (some 6) [(.tmp 5)] #[25] 0 "wal.go:212" #[eD 3], none⟩
 ] (by kernel_rfl)))
noncomputable def f13 : Fun Try.prog where
 id := 13
 fn := Try.f13
 hf := Try.func13
 hname := by kernel_rfl
 body := f13_b
 hbody := by kernel_rfl
 res := []
 hres := by kernel_rfl
 n := 7
 hn := by kernel_rfl
theorem format_run (F : Nat) (X : Dk) :
 (f11.run F [.ptr 2 0] ⟨[dk0 X, dk1 X, dk2 0 X, dk3 X], []⟩ : Ans) =
 onSome (dkG 0 (dk0 X) (dk1 X) (dk2 0 X) (dk3 X)) none fun (o : Dk) =>
 branch (.bool (decide ((↑o.n : Int) < 10)))
 (some
 (Fin.ret (AV.tup [AV.nilptr, .int .i64 41]), St.mk [dk0 X, dk1 X, dk2 0 X, dk3 X] []))
 (onSome (dkG 0 (dk0 X) (dk1 X) (dk2 0 X) (dk3 X)) none fun (o_1 : Dk) =>
 branch (.bool (decide (2 ≤ o_1.n)))
 (onSome (dkG 0 (dk0 X) (dk1 X) (dk2 0 X) (dk3 X)) none fun (o_2 : Dk) =>
 branch
 (AV.bool
 (true && (true && decide ((0 : Int) ≤ 0 ∧ (0 : Int) ≤ 2 ∧ (2 : Int) ≤ (↑o_2.n : Int)))))
 (branch
 (.bool (decide (IntKind.i64.wrap (o_2.mostV (0 : Int) (2 : Int) + 1) ≥ 2147483648)))
 (some
 (Fin.ret (AV.tup [AV.nilptr, .int .i64 36]),
 St.mk
 [dk0 X, dk1 X, dk2 0 X, dk3 X,
 Ob.cells
 [AV.ptr 2 0,
 .int .i64 (IntKind.i64.wrap (o_2.mostV (0 : Int) (2 : Int) + 1)),
 .int .i64 0, .int .i64 o_1.nextV, .int .i64 0,
 .int .i64 o_1.nextV]]
 []))
 (branch (.bool (decide (o_1.nextV ≥ 2147483648)))
 (some
 (Fin.ret (AV.tup [AV.nilptr, .int .i64 36]),
 St.mk
 [dk0 X, dk1 X, dk2 0 X, dk3 X,
 Ob.cells
 [AV.ptr 2 0,
 .int .i64 (IntKind.i64.wrap (o_2.mostV (0 : Int) (2 : Int) + 1)),
 .int .i64 0, .int .i64 o_1.nextV, .int .i64 0,
 .int .i64 o_1.nextV]]
 []))
 (onSome (dkG 0 (dk0 X) (dk1 X) (dk2 0 X) (dk3 X)) none fun (o : Dk) =>
 onSome
 (lgG
 [.int .i64 (IntKind.i64.wrap (o_2.mostV (0 : Int) (2 : Int) + 1)),
 .int .i64 0, .int .i64 o_1.nextV, .int .i64 0,
 .int .i64 o_1.nextV])
 none fun (o_3 : Lg) =>
 branch (.bool (cdec (o.3.length < 999998)))
 (some
 (Fin.ret (AV.tup [AV.ptr 4 0, .int .i64 0]),
 St.mk
 [dk0 (o.crown o_3), dk1 (o.crown o_3), dk2 0 (o.crown o_3), dk3 (o.crown o_3),
 Ob.cells
 [AV.ptr 2 0, .int .i64 (lv0 o_3), .int .i64 (lv1 o_3),
 .int .i64 (lv2 o_3), .int .i64 (lv3 o_3),
 .int .i64 (lv4 o_3)]]
 []))
 none)))
 none)
 none) := by kernel_rfl
theorem wflush_run (F : Nat) (X : Dk) (g a f p s : Int) :
 (f13.run F [.ptr 4 0] ⟨[dk0 X, dk1 X, dk2 0 X, dk3 X, .cells [.ptr 2 0, .int .i64 g, .int .i64 a, .int .i64 f, .int .i64 p, .int .i64 s]], []⟩ : Ans) =
 onSome (dkG 0 (dk0 X) (dk1 X) (dk2 0 X) (dk3 X)) none fun (o : Dk) =>
 some
 (Fin.ret (AV.tup []),
 St.mk
 [dk0 o.flush, dk1 o.flush, dk2 0 o.flush, dk3 o.flush,
 Ob.cells
 [AV.ptr 2 0, .int .i64 g, .int .i64 a, .int .i64 f,
 .int .i64 p, .int .i64 s]]
 []) := by kernel_rfl
theorem rd_run (F : Nat) (X : Dk) (n : Int) :
 (f44.run F [.ptr 2 0, .int .i64 n] ⟨[dk0 X, dk1 X, dk2 0 X, dk3 X], []⟩ : Ans) =
 onSome (dkG 0 (dk0 X) (dk1 X) (dk2 0 X) (dk3 X)) none fun (o : Dk) =>
 some (Fin.ret (AV.ns (!o.inD n) 1 (bR (o.rdB n))), St.mk [dk0 X, dk1 X, dk2 0 X, dk3 X] []) := by kernel_rfl
noncomputable def addL (st : St) (i : Nat) (L : Lg) : St := ⟨st.objs ++ [lgO i L], st.tk⟩
theorem lg_new {f : Fun Try.prog} {F : Nat} {X Y : Dk} {L : Lg} {args0 : List AV} {r : AV} {xs : List Ob} {xt : List (Nat × Nat)} (hrun : f.run F args0 ⟨X.obs, []⟩ = some (.ret r, ⟨Y.obs ++ lgC L :: xs, xt⟩)) (hY : Y.Ok) (ha : NearL 4 args0) (hr : Near 5 (frz r))
  {st : St} {i : Nat} {a b c d : Ob} (hd : isD i a b c d X) (h0 : st.objs[i]? = some a) (h1 : st.objs[i + 1]? = some b) (h2 : st.objs[i + 2]? = some c) (h3 : st.objs[i + 3]? = some d) :
  CallsTo Try.prog f.id (renL (rho i) args0) st (.ret (ren (nx (rho i) 4 st.objs.length) (frz r)), addL (plD st i Y) i L) := by
 have hl := getElem?_lt h3
 have n4 : ∀ j, j < 4 → nx (rho i) 4 st.objs.length j = i + j := fun j hj => by rw [nx, if_pos hj]; rfl
 have n5 : nx (rho i) 4 st.objs.length 4 = st.objs.length := by rw [nx, if_neg (by omega)]; omega
 refine placed (f.sound hrun) (p := 5) (by omega) (by simp [Dk.obs]) ha hr (fun j o hj ho => ?_) (isD_at hd h0 h1 h2 h3) rfl (by simp [addL, plD_length]) (fun j o hj ho => ?_) (fun k hk hi => ?_)
 ·match j, hj, ho with
  | 0, _, ho => cases ho; exact flat_near (flat_bC _)
  | 1, _, ho => cases ho; exact hY.near1 5
  | 2, _, ho => cases ho; exact obs_near5 hY _ (by simp [Dk.obs])
  | 3, _, ho => cases ho; exact hY.nearW 5
  | 4, _, ho => cases ho; exact lg_near L
  | j + 5, hj, _ => omega
 ·have hlen := plD_length st i Y
  rw [addL]
  match j, hj, ho with
  | 0, _, ho =>
   cases ho
   rw [at0_ren, n4 0 (by omega)]
   simp only [Nat.add_zero]
   rw [List.getElem?_append_left (by omega), plD]
   simp only
   rw [List.getElem?_set_ne (by omega), List.getElem?_set_ne (by omega), List.getElem?_set_ne (by omega), List.getElem?_set_self (by omega), dk0, opq_eq]
  | 1, _, ho =>
   cases ho
   rw [show renO _ (Ob.map Y.es) = Y.at1 from hY.ren1 _, n4 1 (by omega)]
   simp only
   rw [List.getElem?_append_left (by omega), plD]
   simp only
   rw [List.getElem?_set_ne (by omega), List.getElem?_set_ne (by omega), List.getElem?_set_self (by simp; omega), dk1, opq_eq]
  | 2, _, ho =>
   cases ho
   rw [at2_ren (i := i) (n4 0 (by omega)) (n4 1 (by omega)) (n4 3 (by omega)), n4 2 (by omega)]
   simp only
   rw [List.getElem?_append_left (by omega), plD]
   simp only
   rw [List.getElem?_set_ne (by omega), List.getElem?_set_self (by simp; omega), dk2, opq_eq]
  | 3, _, ho =>
   cases ho
   rw [hY.renW, n4 3 (by omega)]
   simp only
   rw [List.getElem?_append_left (by omega), plD]
   simp only
   rw [List.getElem?_set_self (by simp; omega), dk3, opq_eq]
  | 4, _, ho =>
   cases ho
   rw [lgC, lgO_ren (τ := nx (rho i) 4 st.objs.length) (i := i) (n4 2 (by omega)), n5]
   simp only
   rw [List.getElem?_append_right (by omega), hlen]
   simp
  | j + 5, hj, _ => omega
 ·have hn : ¬ (i ≤ k ∧ k < i + 4) := by
   intro e
   simp only [invD] at hi
   rw [if_pos e] at hi; cases hi
  rw [addL]
  simp only
  rw [List.getElem?_append_left (by rw [plD_length]; exact hk), plD]
  simp only
  rw [List.getElem?_set_ne (by omega), List.getElem?_set_ne (by omega), List.getElem?_set_ne (by omega), List.getElem?_set_ne (by omega)]
def fmtE (X : Dk) : Nat := if X.n < 10 then 41 else if 2147483648 ≤ X.most 0 2 0 + 1 ∨ 2147483648 ≤ X.next then 36 else 0
def fmtL (X : Dk) : Lg := ⟨X.most 0 2 0 + 1, 0, X.next, 0, X.next⟩
def Dk.fmt (X : Dk) : Dk := X.crown (fmtL X)
theorem most_lt {X : Dk} (h : X.Ok) : ∀ (d a n : Nat), a + d ≤ X.n → n < 4294967296 → X.most a d n < 4294967296
 | 0, a, n, _, hn => hn
 | d + 1, a, n, ha, hn => by
  have := numB_lt (h.sector_len (k := a) (by omega)).2 0
  exact most_lt h d (a + 1) _ (by omega) (by omega)
theorem format_can (F : Nat) {X : Dk} (h : X.Ok) (hw : X.ws.length < 999998) :
  (fmtE X = 0 ∧ f11.run F [.ptr 2 0] ⟨X.obs, []⟩ = some (.ret (.tup [.ptr 4 0, .int .i64 0]), ⟨X.fmt.obs ++ [lgC (fmtL X)], []⟩)) ∨
  (fmtE X ≠ 0 ∧ ∃ xs, f11.run F [.ptr 2 0] ⟨X.obs, []⟩ = some (.ret (.tup [.nilptr, .int .i64 ((fmtE X : Nat) : Int)]), ⟨X.obs ++ xs, []⟩)) := by
 have hn1 := h.n1
 have hh : X.half = (X.n - 2) / 2 := rfl
 rw [dk_obs h, format_run, gD h (by omega), onSome_some]
 by_cases h1 : X.n < 10
 ·have e : fmtE X = 41 := if_pos h1
  refine .inr ⟨by omega, [], ?_⟩
  rw [branch_of (decide_eq_true (by omega)), e]; rfl
 ·have m0 := most_lt h 2 0 0 (by omega) (by omega)
  have m2 := most_lt h (2 * X.half) 2 0 (by omega) (by omega)
  have en : X.next = X.most 2 (2 * X.half) 0 + 1 := rfl
  have e0 : X.mostV (0 : Int) (2 : Int) = ((X.most 0 2 0 : Nat) : Int) := by rw [Dk.mostV, opq_eq]; rfl
  rw [branch_not (decide_eq_false (by omega)), onSome_some, branch_of (decide_eq_true (by omega)), onSome_some, branch_of (by simp; omega), e0, show (((X.most 0 2 0 : Nat) : Int) + 1) = ((X.most 0 2 0 + 1 : Nat) : Int) from rfl, wrap_nat (by omega), Dk.nextV, opq_eq]
  by_cases h2 : 2147483648 ≤ X.most 0 2 0 + 1
  ·have e : fmtE X = 36 := by rw [fmtE, if_neg h1, if_pos (.inl h2)]
   refine .inr ⟨by omega, [lgC (fmtL X)], ?_⟩
   rw [branch_of (decide_eq_true (by omega)), e]; rfl
  ·rw [branch_not (decide_eq_false (by omega))]
   by_cases h3 : 2147483648 ≤ X.next
   ·have e : fmtE X = 36 := by rw [fmtE, if_neg h1, if_pos (.inr h3)]
    refine .inr ⟨by omega, [lgC (fmtL X)], ?_⟩
    rw [branch_of (decide_eq_true (by omega)), e]; rfl
   ·have e : fmtE X = 0 := by rw [fmtE, if_neg h1, if_neg (by omega)]
    refine .inl ⟨e, ?_⟩
    have eg : lgG [AV.int IntKind.i64 ((X.most 0 2 0 + 1 : Nat) : Int), AV.int IntKind.i64 (0 : Int), AV.int IntKind.i64 (X.next : Int), AV.int IntKind.i64 (0 : Int), AV.int IntKind.i64 (X.next : Int)] = some (fmtL X) := lgG_cs (fmtL X)
    obtain ⟨v0, v1, v2, v3, v4⟩ := lv_eq (fmtL X)
    rw [branch_not (decide_eq_false (by omega)), onSome_some, eg, onSome_some, branch_of ((cdec_iff).mpr (by omega)), v0, v1, v2, v3, v4, Dk.fmt, dk_obs (crown_ok h (fmtL X))]
    rfl
noncomputable def fmtEO (X : Dk) : Int := opq ((fmtE X : Nat) : Int)
noncomputable def Dk.fmtO (X : Dk) : Dk := opq X.fmt
noncomputable def fmtLO (X : Dk) : Lg := opq (fmtL X)
noncomputable def fmtB (X : Dk) : Bool := opq (fmtE X == 0)
theorem fmtO_eq (X : Dk) : fmtEO X = ((fmtE X : Nat) : Int) ∧ X.fmtO = X.fmt ∧ fmtLO X = fmtL X ∧ fmtB X = (fmtE X == 0) := ⟨opq_eq _, opq_eq _, opq_eq _, opq_eq _⟩
theorem fmt_ok {X : Dk} (h : X.Ok) : X.fmt.Ok := crown_ok h _
noncomputable def s11 : OrcS Try.prog := f11.by'
 (fun args st k => match args with
  | [x] => onD x st fun i X => ifT (cdec (X.ws.length < 999998)) (match fmtB X with
   | true => k (.ret (.tup [.ptr st.objs.length 0, .int .i64 0])) (addL (plD st i X.fmtO) i (fmtLO X))
   | false => k (.ret (.tup [.nilptr, .int .i64 (fmtEO X)])) st)
  | _ => none)
 fun args st k fin h => by
  split at h
  ·rename_i x
   obtain ⟨i, a, b, c, d, X, rfl, h0, h1, h2, h3, hd, g901⟩ := onD_spec h
   obtain ⟨hk, g903⟩ := ifT_spec g901
   rw [cdec_iff] at hk
   obtain ⟨e1, e2, e3, e4⟩ := fmtO_eq X
   rw [e1, e2, e3, e4] at g903
   rcases format_can 100 hd.1 (by omega) with ⟨e, hrun⟩ | ⟨e, xs, hrun⟩
   ·rw [show (fmtE X == 0) = true by simp [e]] at g903
    have := lg_new (f := f11) (F := 100) (r := .tup [.ptr 4 0, .int .i64 0]) (args0 := [.ptr 2 0]) (xs := []) hrun (fmt_ok hd.1) ⟨by show 2 < 4; omega, trivial⟩ ⟨by show 4 < 5; omega, trivial, trivial⟩ hd h0 h1 h2 h3
    refine ⟨_, _, g903, ?_⟩
    have n5 : nx (rho i) 4 st.objs.length 4 = st.objs.length := by rw [nx, if_neg (by omega)]; omega
    have e9 : ren (nx (rho i) 4 st.objs.length) (frz (.tup [.ptr 4 0, .int .i64 0])) = .tup [.ptr st.objs.length 0, .int .i64 0] := by
     show AV.tup [.ptr (nx (rho i) 4 st.objs.length 4) 0, .int .i64 0] = _
     rw [n5]
    rw [e9] at this
    exact this
   ·rw [show (fmtE X == 0) = false by simp [e]] at g903
    have := dk_placed (f := f11) (F := 100) (r := .tup [.nilptr, .int .i64 ((fmtE X : Nat) : Int)]) (args0 := [.ptr 2 0]) hrun hd.1 ⟨by show 2 < 4; omega, trivial⟩ ⟨trivial, trivial, trivial⟩ hd h0 h1 h2 h3
    rw [same_plD hd h0 h1 h2 h3] at this
    exact ⟨_, _, g903, this⟩
  ·cases h
theorem wflush_can {F : Nat} {X : Dk} {L : Lg} (h : X.Ok) (hw : X.ws.length < 999999) : f13.run F [.ptr 4 0] ⟨X.obs ++ [lgC L], []⟩ = some (.ret (.tup []), ⟨X.flush.obs ++ [lgC L], []⟩) := by
 rw [dk_obs h, dk_obs (flush_ok h)]
 refine (wflush_run F X _ _ _ _ _).trans ?_
 rw [gD h hw, onSome_some]; rfl
noncomputable def Dk.flushO (X : Dk) : Dk := opq X.flush
theorem flushO_eq (X : Dk) : X.flushO = X.flush := opq_eq _
noncomputable def s13 : OrcS Try.prog := f13.by'
 (fun args st k => match args with
  | [x] => onL x st fun j i X L => k (.ret (.tup [])) (plL (plD st i X.flushO) j i L)
  | _ => none)
 fun args st k fin h => by
  split at h
  ·rename_i x
   obtain ⟨j, i, o0, o1, o2, o3, X, L, rfl, hj, h0, h1, h2, h3, hd, g901⟩ := onL_spec h
   rw [flushO_eq] at g901
   have := lg_placed (f := f13) (r := .tup []) (args0 := [.ptr 4 0]) (xs := []) (X := X) (Y := X.flush) (L := L) (M := L) (F := 0) (wflush_can hd.1 hd.2.1) (flush_ok hd.1) ⟨by show 4 < 5; omega, trivial⟩ trivial hj h0 h1 h2 h3 hd
   exact ⟨_, _, g901, this⟩
  ·cases h
noncomputable def q44 : OrcQ Try.prog := f44.byQ
 (fun args st k => match args with
  | [x, n] => onD x st fun i X => onInt n fun kd n => ifT (decide (kd = .i64)) (k (.ns (!X.inD n) 1 (bR (X.rdB n))))
  | _ => none)
 fun args st k fin h => by
  split at h
  ·rename_i x n
   obtain ⟨i, a, b, c, d, X, rfl, h0, h1, h2, h3, hd, g901⟩ := onD_spec h
   obtain ⟨kd, n, g902, rfl⟩ := onInt_spec g901
   obtain ⟨hk, g903⟩ := ifT_spec g902
   obtain rfl := of_decide_eq_true hk
   refine ⟨_, g903, ?_⟩
   have hrun : f44.run 0 [.ptr 2 0, .int .i64 n] ⟨X.obs, []⟩ = some (.ret (.ns (!X.inD n) 1 (bR (X.rdB n))), ⟨X.obs, []⟩) := by
    rw [dk_obs hd.1, rd_run, gD hd.1 hd.2.1, onSome_some]
   have := dk_placed (f := f44) (r := .ns (!X.inD n) 1 (bR (X.rdB n))) (args0 := [.ptr 2 0, .int .i64 n]) (xs := []) (X := X) (Y := X) (F := 0) (by rw [List.append_nil]; exact hrun) hd.1 ⟨by show 2 < 4; omega, trivial, trivial⟩ (bR_scoped _) hd h0 h1 h2 h3
   rw [same_plD hd h0 h1 h2 h3] at this
   exact this
  ·cases h
theorem q44_nat : q44.NatQ := by
 intro args st k
 simp only [q44, Fun.byQ]
 split
 ·exact onD_nat fun i Y => onInt_nat fun _ _ => ifT_nat rfl
 ·rfl
noncomputable def f45_l0 : Sim Try.prog :=
 (.seq (.live [0, 8, 10, 11, 12, 63, 64, 65] (.region 11 [
 ⟨(opBin (some 65) .lss 3 (.tmp 64) (.tmp 63) 3 4 "wal.go:147" #[]).op, none⟩
 ] (by kernel_rfl)))
 (.seq (.cond (.tmp 65)
 .skip
 (.live [8, 10, 11, 12] (.exit 0)))
 (.seq (.block 1 (.seq (.live [0, 8, 10, 11, 12, 13, 63, 64] (.region 12 [
 ⟨(opMove (some 66) (.tmp 64) 3 "wal.go:147" #[]).op, none⟩,
 ⟨(opAssign (some 13) (.tmp 66) 3 "wal.go:147" #[eD 0, eP 0]).op, none⟩
 ] (by kernel_rfl)))
 (.seq (.live [0, 8, 10, 11, 12, 13, 14, 63, 64] (.draw 13 [
 ⟨.p (opMove (some 67) (.tmp 0) 29 "wal.go:148" #[]), none⟩,
 ⟨.p (opNilCheck (some 68) (.tmp 67) 0 "wal.go:148" #[eD 0]), none⟩,
 ⟨.pn (opFieldAddr (some 69) 71 (.tmp 68) 0 0 1 false fl71_0 (by decide) 0 "wal.go:148" #[eD 1]) opFieldAddr_nat, none⟩,
 ⟨.qn (opLoadT (.one .any) (some 70) 25 (.tmp 69) (.pointer 79) Try.underlying25 1 sz25 (by kernel_rfl) 25 "wal.go:148" #[eD 2]) opLoadT_nat, none⟩,
 ⟨.p (opMove (some 71) (.tmp 0) 29 "wal.go:148" #[]), none⟩,
 ⟨.p (opMove (some 72) (.tmp 0) 29 "wal.go:148" #[]), none⟩,
 ⟨.p (opNilCheck (some 73) (.tmp 72) 0 "wal.go:148" #[eD 5]), none⟩,
 ⟨.pn (opFieldAddr (some 74) 71 (.tmp 73) 1 1 3 true fl71_1 (by decide) 0 "wal.go:148" #[eD 6]) opFieldAddr_nat, none⟩,
 ⟨.pn (opFieldAddr (some 75) 69 (.tmp 74) 1 1 1 false fl69_1 (by decide) 0 "wal.go:148" #[eD 7]) opFieldAddr_nat, none⟩,
 ⟨.qn (opLoadT (.one (.int .i64)) (some 76) 3 (.tmp 75) (.int .i64) Try.underlying3 1 sz3 (by kernel_rfl) 3 "wal.go:148" #[eD 8]) opLoadT_nat, none⟩,
 ⟨.p (opMove (some 77) (.tmp 0) 29 "wal.go:148" #[]), none⟩,
 ⟨.p (opNilCheck (some 78) (.tmp 77) 0 "wal.go:148" #[eD 10]), none⟩,
 ⟨.pn (opFieldAddr (some 79) 71 (.tmp 78) 2 4 1 false fl71_2 (by decide) 0 "wal.go:148" #[eD 11]) opFieldAddr_nat, none⟩,
 ⟨.qn (opLoadT (.one (.int .i64)) (some 80) 3 (.tmp 79) (.int .i64) Try.underlying3 1 sz3 (by kernel_rfl) 3 "wal.go:148" #[eD 12]) opLoadT_nat, none⟩,
 ⟨.p (opMove (some 81) (.tmp 13) 3 "wal.go:148" #[]), none⟩,
 ⟨.pn (opBin (some 82) .add 3 (.tmp 80) (.tmp 81) 3 3 "wal.go:148" #[eD 13, eD 14]) opBin_nat, none⟩,
 ⟨.qn (opCallQ q61 (some 83) [(.tmp 71), (.tmp 76), (.tmp 82)] #[29, 3, 3] 3 "wal.go:148" #[eD 4, eD 9, eD 15]) (opCallQ_nat q61_nat), none⟩,
 ⟨.qn (opCallQ q44 (some 84) [(.tmp 70), (.tmp 83)] #[25, 3] 81 "wal.go:148" #[eD 3, eD 16, eC 16]) (opCallQ_nat q44_nat), none⟩,
 ⟨.p (opAssign (some 14) (.tmp 84) 81 "wal.go:148" #[eD 17, eC 17, eP 0, eP 1, eP 2, eP 3, eP 4, eP 5, eP 6, eP 7, eP 8, eP 9, eP 10, eP 11, eP 12, eP 13, eP 14, eP 15, eP 16, eP 17]), none⟩
 ] mixed (by kernel_rfl)))
 (.seq (.seq (.live [0, 8, 10, 11, 12, 14, 63, 64, 90] (.region 14 [
 ⟨(opMove (some 85) (.tmp 14) 81 "wal.go:149" #[]).op, none⟩,
 ⟨(opCallP p62 (some 86) [(.tmp 85)] #[81] 3 "wal.go:149" #[eD 0]).op, none⟩,
 ⟨(opMove (some 87) (.tmp 8) 3 "wal.go:149" #[]).op, none⟩,
 ⟨(opMove (some 88) (.tmp 13) 3 "wal.go:149" #[]).op, none⟩,
 ⟨(opBin (some 89) .add 3 (.tmp 87) (.tmp 88) 3 3 "wal.go:149" #[eD 2, eD 3]).op, none⟩,
 ⟨(opBin (some 90) .neq 3 (.tmp 86) (.tmp 89) 3 4 "wal.go:149" #[eD 1, eD 4]).op, none⟩
 ] (by kernel_rfl)))
 (.cond (.tmp 90)
 (.seq (.live [4, 5, 6] (.region 15 [
 ⟨(opAssign (some 4) (.const (Value.slice none 0 0)) 33 "wal.go:150" #[]).op, none⟩,
 ⟨(opAssign (some 5) (.const (Value.int IntKind.i64 0)) 3 "wal.go:150" #[eC 0, eP 0]).op, none⟩,
 ⟨(opAssign (some 6) (.const (Value.bool false)) 4 "wal.go:150" #[eC 1, eP 0, eP 1]).op, none⟩
 ] (by kernel_rfl)))
 (.live [4, 5, 6] .ret))
 .skip))
 (.live [0, 8, 10, 11, 12, 63, 64] (.region 16 [
 ⟨(opMove (some 91) (.tmp 12) 33 "wal.go:152" #[]).op, none⟩,
 ⟨(opMove (some 92) (.tmp 14) 81 "wal.go:152" #[]).op, none⟩,
 ⟨opCall (f60.orc 0) (some 93) [(.tmp 92)] #[81] 33 "wal.go:152" #[eD 1], none⟩,
 ⟨(opAppend (some 94) (.tmp 91) (.tmp 93) 33 33 5 1 1 (.int .u8 0) el33 (.slice 5) Try.underlying33 rfl 33 "wal.go:152" #[eD 0, eD 2, eC 2]).op, none⟩,
 ⟨(opAssign (some 12) (.tmp 94) 33 "wal.go:152" #[eD 3, eC 3, eP 0, eP 1, eP 2, eP 3]).op, none⟩
 ] (by kernel_rfl)))))))
 (.live [0, 8, 10, 11, 12, 63, 64] (.region 17 [
 ⟨(opBin (some 95) .add 3 (.tmp 64) (.const (Value.int IntKind.i64 1)) 3 3 "wal.go:147" #[]).op, none⟩,
 ⟨(opMove (some 64) (.tmp 95) 3 "wal.go:147" #[eD 0]).op, none⟩
 ] (by kernel_rfl))))))
noncomputable def f45_r0 : Sim Try.prog :=
 (.seq (.live [4, 5, 6] (.region 18 [
 ⟨(opMove (some 96) (.tmp 12) 33 "wal.go:154" #[]).op, none⟩,
 ⟨(opMove (some 97) (.tmp 10) 3 "wal.go:154" #[]).op, none⟩,
 ⟨(opBin (some 98) .add 3 (.const (Value.int IntKind.i64 2)) (.tmp 97) 3 3 "wal.go:154" #[eD 1]).op, none⟩,
 ⟨(opSlice (some 99) 33 (.tmp 96) (some (.const (Value.int IntKind.i64 2))) (some (.tmp 98)) none 5 1 Try.underlying33 sz5 33 "wal.go:154" #[eD 0, eD 2]).op, none⟩,
 ⟨opCall (f66.orc 0) (some 100) [(.tmp 99)] #[33] 33 "wal.go:154" #[eD 3], none⟩,
 ⟨(opMove (some 101) (.tmp 8) 3 "wal.go:154" #[eX 9]).op, none⟩,
 ⟨(opMove (some 102) (.tmp 11) 3 "wal.go:154" #[eX 9]).op, none⟩,
 ⟨(opBin (some 103) .add 3 (.tmp 101) (.tmp 102) 3 3 "wal.go:154" #[eD 5, eD 6, eX 9]).op, none⟩,
 ⟨(opBin (some 104) .sub 3 (.tmp 103) (.const (Value.int IntKind.i64 1)) 3 3 "wal.go:154" #[eD 7, eX 9]).op, none⟩,
 ⟨(opAssign (some 4) (.tmp 100) 33 "wal.go:154" #[eD 4, eC 4, eP 0, eP 1, eP 2, eP 3, eP 4, eT 5, eT 6, eT 7, eT 8]).op, none⟩,
 ⟨(opAssign (some 5) (.tmp 104) 3 "wal.go:154" #[eD 8, eC 9, eP 0, eP 1, eP 2, eP 3, eP 4, eP 5, eP 6, eP 7, eP 8, eP 9]).op, none⟩,
 ⟨(opAssign (some 6) (.const (Value.bool true)) 4 "wal.go:154" #[eC 10, eP 0, eP 1, eP 2, eP 3, eP 4, eP 5, eP 6, eP 7, eP 8, eP 9, eP 10]).op, none⟩
 ] (by kernel_rfl)))
 (.live [4, 5, 6] .ret))
noncomputable def f45_b : Sim Try.prog :=
 (.seq (.live [0, 1] (.region 0 [
 ⟨(opAssign (some 4) (.const (Value.slice none 0 0)) 33 "wal.go:135" #[]).op, none⟩,
 ⟨(opAssign (some 5) (.const (Value.int IntKind.i64 0)) 3 "wal.go:135" #[eC 0]).op, none⟩,
 ⟨(opAssign (some 6) (.const (Value.bool false)) 4 "wal.go:135" #[eC 1]).op, none⟩
 ] (by kernel_rfl)))
 (.seq (.seq (.live [0, 1, 17] (.region 1 [
 ⟨(opMove (some 15) (.tmp 0) 29 "wal.go:136" #[]).op, none⟩,
 ⟨(opCallQ q18 (some 16) [(.tmp 15)] #[29] 3 "wal.go:136" #[eD 0]).op, none⟩,
 ⟨(opBin (some 17) .eql 3 (.tmp 16) (.const (Value.int IntKind.i64 0)) 3 4 "wal.go:136" #[eD 1]).op, none⟩
 ] (by kernel_rfl)))
 (.cond (.tmp 17)
 (.seq (.live [4, 5, 6] (.region 2 [
 ⟨(opAssign (some 4) (.const (Value.slice none 0 0)) 33 "wal.go:137" #[]).op, none⟩,
 ⟨(opAssign (some 5) (.const (Value.int IntKind.i64 0)) 3 "wal.go:137" #[eC 0, eP 0]).op, none⟩,
 ⟨(opAssign (some 6) (.const (Value.bool false)) 4 "wal.go:137" #[eC 1, eP 0, eP 1]).op, none⟩
 ] (by kernel_rfl)))
 (.live [4, 5, 6] .ret))
 .skip))
 (.seq (.live [0, 1, 7] (.draw 3 [
 ⟨.p (opMove (some 18) (.tmp 0) 29 "wal.go:139" #[]), none⟩,
 ⟨.p (opNilCheck (some 19) (.tmp 18) 0 "wal.go:139" #[eD 0]), none⟩,
 ⟨.pn (opFieldAddr (some 20) 71 (.tmp 19) 0 0 1 false fl71_0 (by decide) 0 "wal.go:139" #[eD 1]) opFieldAddr_nat, none⟩,
 ⟨.qn (opLoadT (.one .any) (some 21) 25 (.tmp 20) (.pointer 79) Try.underlying25 1 sz25 (by kernel_rfl) 25 "wal.go:139" #[eD 2]) opLoadT_nat, none⟩,
 ⟨.p (opMove (some 22) (.tmp 0) 29 "wal.go:139" #[]), none⟩,
 ⟨.p (opMove (some 23) (.tmp 0) 29 "wal.go:139" #[]), none⟩,
 ⟨.p (opNilCheck (some 24) (.tmp 23) 0 "wal.go:139" #[eD 5]), none⟩,
 ⟨.pn (opFieldAddr (some 25) 71 (.tmp 24) 1 1 3 true fl71_1 (by decide) 0 "wal.go:139" #[eD 6]) opFieldAddr_nat, none⟩,
 ⟨.pn (opFieldAddr (some 26) 69 (.tmp 25) 1 1 1 false fl69_1 (by decide) 0 "wal.go:139" #[eD 7]) opFieldAddr_nat, none⟩,
 ⟨.qn (opLoadT (.one (.int .i64)) (some 27) 3 (.tmp 26) (.int .i64) Try.underlying3 1 sz3 (by kernel_rfl) 3 "wal.go:139" #[eD 8]) opLoadT_nat, none⟩,
 ⟨.p (opMove (some 28) (.tmp 0) 29 "wal.go:139" #[]), none⟩,
 ⟨.p (opNilCheck (some 29) (.tmp 28) 0 "wal.go:139" #[eD 10]), none⟩,
 ⟨.pn (opFieldAddr (some 30) 71 (.tmp 29) 2 4 1 false fl71_2 (by decide) 0 "wal.go:139" #[eD 11]) opFieldAddr_nat, none⟩,
 ⟨.qn (opLoadT (.one (.int .i64)) (some 31) 3 (.tmp 30) (.int .i64) Try.underlying3 1 sz3 (by kernel_rfl) 3 "wal.go:139" #[eD 12]) opLoadT_nat, none⟩,
 ⟨.qn (opCallQ q61 (some 32) [(.tmp 22), (.tmp 27), (.tmp 31)] #[29, 3, 3] 3 "wal.go:139" #[eD 4, eD 9, eD 13]) (opCallQ_nat q61_nat), none⟩,
 ⟨.qn (opCallQ q44 (some 33) [(.tmp 21), (.tmp 32)] #[25, 3] 81 "wal.go:139" #[eD 3, eD 14, eC 14]) (opCallQ_nat q44_nat), none⟩,
 ⟨.p (opAssign (some 7) (.tmp 33) 81 "wal.go:139" #[eD 15, eC 15, eP 0, eP 1, eP 2, eP 3, eP 4, eP 5, eP 6, eP 7, eP 8, eP 9, eP 10, eP 11, eP 12, eP 13, eP 14, eP 15]), none⟩
 ] mixed (by kernel_rfl)))
 (.seq (.live [0, 1, 8, 9] (.region 4 [
 ⟨(opMove (some 34) (.tmp 7) 81 "wal.go:140" #[]).op, none⟩,
 ⟨(opCallP p62 (some 35) [(.tmp 34)] #[81] 3 "wal.go:140" #[eD 0]).op, none⟩,
 ⟨(opMove (some 36) (.tmp 7) 81 "wal.go:140" #[]).op, none⟩,
 ⟨opCall (f60.orc 0) (some 37) [(.tmp 36)] #[81] 33 "wal.go:140" #[eD 2, eC 1], none⟩,
 ⟨(opAssign (some 8) (.tmp 35) 3 "wal.go:140" #[eD 1, eC 3, eP 0, eP 1, eT 2, { on := 3, ground := (Ground.textOnly Departure.lateStoresUnsure) }]).op, none⟩,
 ⟨(opAssign (some 9) (.tmp 37) 33 "wal.go:140" #[eD 3, eC 4, eP 0, eP 1, eP 2, eP 3, eP 4]).op, none⟩
 ] (by kernel_rfl)))
 (.seq (.live [0, 1, 8, 10] (.draw 5 [
 ⟨.p (opMove (some 38) (.tmp 9) 33 "wal.go:141" #[]), none⟩,
 ⟨.pn (opIndexAddrT (some 39) 33 (.tmp 38) (.const (Value.int IntKind.i64 0)) 5 1 Try.underlying33 sz5 0 "wal.go:141" #[eD 0]) opIndexAddrT_nat, none⟩,
 ⟨.qn (opLoadT (.one (.int .u8)) (some 40) 5 (.tmp 39) (.int .u8) Try.underlying5 1 sz5 (by kernel_rfl) 5 "wal.go:141" #[eD 1]) opLoadT_nat, none⟩,
 ⟨.pn (opConvInt (some 41) 5 3 (.tmp 40) (.int .u8) Try.underlying5 .i64 Try.underlying3 3 "wal.go:141" #[eD 2]) opConvInt_nat, none⟩,
 ⟨.p (opMove (some 42) (.tmp 9) 33 "wal.go:141" #[]), none⟩,
 ⟨.pn (opIndexAddrT (some 43) 33 (.tmp 42) (.const (Value.int IntKind.i64 1)) 5 1 Try.underlying33 sz5 0 "wal.go:141" #[eD 4]) opIndexAddrT_nat, none⟩,
 ⟨.qn (opLoadT (.one (.int .u8)) (some 44) 5 (.tmp 43) (.int .u8) Try.underlying5 1 sz5 (by kernel_rfl) 5 "wal.go:141" #[eD 5]) opLoadT_nat, none⟩,
 ⟨.pn (opConvInt (some 45) 5 3 (.tmp 44) (.int .u8) Try.underlying5 .i64 Try.underlying3 3 "wal.go:141" #[eD 6]) opConvInt_nat, none⟩,
 ⟨.pn (opBin (some 46) .shl 3 (.tmp 45) (.const (Value.int IntKind.u64 8)) 98 3 "wal.go:141" #[eD 7]) opBin_nat, none⟩,
 ⟨.pn (PSim.hide (opBin (some 47) .or 3 (.tmp 41) (.tmp 46) 3 3 "wal.go:141" #[eD 3, eD 8])) (PSim.hide_nat opBin_nat), none⟩,
 ⟨.p (opAssign (some 10) (.tmp 47) 3 "wal.go:141" #[eD 9, eP 0, eP 1, eP 2, eP 3, eP 4, eP 5, eP 6, eP 7, eP 8, eP 9]), none⟩
 ] mixed (by kernel_rfl)))
 (.seq (.live [0, 1, 8, 10, 11] (.region 6 [
 ⟨(opMove (some 48) (.tmp 10) 3 "wal.go:142" #[]).op, none⟩,
 ⟨(opCallP p39 (some 49) [(.tmp 48)] #[3] 3 "wal.go:142" #[eD 0]).op, none⟩,
 ⟨(opAssign (some 11) (.tmp 49) 3 "wal.go:142" #[eD 1, eC 1, eP 0, eP 1]).op, none⟩
 ] (by kernel_rfl)))
 (.seq (.seq (.live [0, 8, 10, 11, 62] (.region 7 [
 ⟨(opMove (some 50) (.tmp 8) 3 "wal.go:143" #[]).op, none⟩,
 ⟨(opMove (some 51) (.tmp 1) 3 "wal.go:143" #[]).op, none⟩,
 ⟨(opBin (some 52) .lss 3 (.tmp 50) (.tmp 51) 3 4 "wal.go:143" #[eD 0, eD 1]).op, none⟩,
 ⟨(opMove (some 53) (.tmp 52) 4 "wal.go:143" #[eD 2]).op, none⟩,
 ⟨(opMove (some 54) (.tmp 10) 3 "wal.go:143" #[eG 3]).op, (some (3, 53, false))⟩,
 ⟨(opBin (some 55) .gtr 3 (.tmp 54) (.const (Value.int IntKind.i64 4096)) 3 4 "wal.go:143" #[eD 4, eG 3]).op, (some (3, 53, false))⟩,
 ⟨(opPick (some 56) (.tmp 53) (.const (Value.bool true)) (.tmp 55) 4 "wal.go:143" #[eD 3, eD 5]).op, none⟩,
 ⟨(opMove (some 57) (.tmp 56) 4 "wal.go:143" #[eD 6, eC 3]).op, none⟩,
 ⟨(opMove (some 58) (.tmp 11) 3 "wal.go:143" #[eG 7]).op, (some (7, 57, false))⟩,
 ⟨(opMove (some 59) (.tmp 0) 29 "wal.go:143" #[eG 7]).op, (some (7, 57, false))⟩,
 ⟨(opCallQ q18 (some 60) [(.tmp 59)] #[29] 3 "wal.go:143" #[eD 9, eC 7, eG 7]).op, (some (7, 57, false))⟩,
 ⟨(opBin (some 61) .gtr 3 (.tmp 58) (.tmp 60) 3 4 "wal.go:143" #[eD 8, eD 10, eG 7]).op, (some (7, 57, false))⟩,
 ⟨(opPick (some 62) (.tmp 57) (.const (Value.bool true)) (.tmp 61) 4 "wal.go:143" #[eD 7, eD 11]).op, none⟩
 ] (by kernel_rfl)))
 (.cond (.tmp 62)
 (.seq (.live [4, 5, 6] (.region 8 [
 ⟨(opAssign (some 4) (.const (Value.slice none 0 0)) 33 "wal.go:144" #[]).op, none⟩,
 ⟨(opAssign (some 5) (.const (Value.int IntKind.i64 0)) 3 "wal.go:144" #[eC 0, eP 0]).op, none⟩,
 ⟨(opAssign (some 6) (.const (Value.bool false)) 4 "wal.go:144" #[eC 1, eP 0, eP 1]).op, none⟩
 ] (by kernel_rfl)))
 (.live [4, 5, 6] .ret))
 .skip))
 (.seq (.live [0, 8, 10, 11, 12] (.region 9 [
 ⟨(opAssign (some 12) (.const (Value.slice none 0 0)) 33 "wal.go:146" #[]).op, none⟩
 ] (by kernel_rfl)))
 (.seq (.seq (.live [0, 8, 10, 11, 12, 63, 64] (.region 10 [
 ⟨(opMove (some 63) (.tmp 11) 3 "wal.go:147" #[]).op, none⟩,
 ⟨(opMove (some 64) (.const (Value.int IntKind.i64 0)) 3 "wal.go:147" #[]).op, none⟩
 ] (by kernel_rfl)))
 (.block 0 (.loop [0, 8, 10, 11, 12, 63, 64] f45_l0)))
 f45_r0)))))))))
noncomputable def f45 : Fun Try.prog where
 id := 45
 fn := Try.f45
 hf := Try.func45
 hname := by kernel_rfl
 body := f45_b
 hbody := by kernel_rfl
 res := [rTmp 4, rTmp 5, rTmp 6]
 hres := by kernel_rfl
 n := 105
 hn := by kernel_rfl
theorem rec_run (F : Nat) (X : Dk) (g a f p s n : Int) :
 (f45.run F [.ptr 4 0, .int .i64 n] ⟨[dk0 X, dk1 X, dk2 0 X, dk3 X, .cells [.ptr 2 0, .int .i64 g, .int .i64 a, .int .i64 f, .int .i64 p, .int .i64 s]], []⟩ : Ans) =
 onSome (dkG 0 (dk0 X) (dk1 X) (dk2 0 X) (dk3 X)) none fun (o : Dk) =>
 onSome
 (lgG [.int .i64 g, .int .i64 a, .int .i64 f, .int .i64 p, .int .i64 s])
 none fun (o_1 : Lg) =>
 branch (.bool (decide (2 ≤ o.n) && cdec (o_1.p < 1000000)))
 (branch (.bool (roomV o o_1 == 0))
 (some
 (Fin.ret (AV.tup [AV.nilsl, .int .i64 0, AV.bool false]),
 St.mk
 [dk0 X, dk1 X, dk2 0 X, dk3 X,
 Ob.cells
 [AV.ptr 2 0, .int .i64 g, .int .i64 a, .int .i64 f,
 .int .i64 p, .int .i64 s]]
 []))
 (onSome (dkG 0 (dk0 X) (dk1 X) (dk2 0 X) (dk3 X)) none fun (o : Dk) =>
 onSome
 (lgG
 [.int .i64 g, .int .i64 a, .int .i64 f, .int .i64 p,
 .int .i64 s])
 none fun (o_2 : Lg) =>
 branch
 (AV.bool
 (true &&
 (true &&
 (decide (2 ≤ o.n) &&
 (decide ((0 : Int) ≤ a ∧ a < 2) && decide ((0 : Int) ≤ p ∧ p < 1000000))))))
 (onSome (dkG 0 (dk0 X) (dk1 X) (dk2 0 X) (dk3 X)) none fun (o_3 : Dk) =>
 branch
 (AV.bool
 (byOk (bR (o_3.rdB (placeV o a p))) && decide (64 ≤ (bR (o_3.rdB (placeV o a p))).length)))
 (if (0 : Int) ≤ 60 ∧ (60 : Int) ≤ (↑(bR (o_3.rdB (placeV o a p))).length : Int) then
 branch
 (AV.bool
 (inR (List.drop 4 (List.take 60 (bR (o_3.rdB (placeV o a p))))) (0 : Int)))
 (branch
 (AV.bool
 ((LD.one (LT.int IntKind.u8)).is
 (V.rowAt (List.drop 4 (List.take 60 (bR (o_3.rdB (placeV o a p)))))
 (0 : Int))))
 (branch
 (AV.bool
 (inR (List.drop 4 (List.take 60 (bR (o_3.rdB (placeV o a p))))) (1 : Int)))
 (branch
 (AV.bool
 ((LD.one (LT.int IntKind.u8)).is
 (V.rowAt (List.drop 4 (List.take 60 (bR (o_3.rdB (placeV o a p)))))
 (1 : Int))))
 (branch
 (AV.bool
 (true &&
 decide
 ((0 : Int) ≤
 opq
 (bitsI BinOp.or IntKind.i64
 (IntKind.i64.wrap
 (hdI
 (V.rowAt
 (List.drop 4
 (List.take 60 (bR (o_3.rdB (placeV o a p)))))
 (0 : Int))))
 (IntKind.i64.wrap
 (IntKind.i64.wrap
 (hdI
 (V.rowAt
 (List.drop 4
 (List.take 60 (bR (o_3.rdB (placeV o a p)))))
 (1 : Int))) *
 (256 : Int)))) ∧
 opq
 (bitsI BinOp.or IntKind.i64
 (IntKind.i64.wrap
 (hdI
 (V.rowAt
 (List.drop 4
 (List.take 60 (bR (o_3.rdB (placeV o a p)))))
 (0 : Int))))
 (IntKind.i64.wrap
 (IntKind.i64.wrap
 (hdI
 (V.rowAt
 (List.drop 4
 (List.take 60 (bR (o_3.rdB (placeV o a p)))))
 (1 : Int))) *
 (256 : Int)))) <
 (1000000000 : Int))))
 (branch (.bool (decide (stpV (bR (o_3.rdB (placeV o a p))) < n)))
 (some
 (Fin.ret (AV.tup [AV.nilsl, .int .i64 0, AV.bool false]),
 St.mk
 [dk0 X, dk1 X, dk2 0 X, dk3 X,
 Ob.cells
 [AV.ptr 2 0, .int .i64 g, .int .i64 a,
 .int .i64 f, .int .i64 p, .int .i64 s]]
 []))
 (branch
 (AV.bool
 (decide
 (opq
 (bitsI BinOp.or IntKind.i64
 (IntKind.i64.wrap
 (hdI
 (V.rowAt
 (List.drop 4
 (List.take 60 (bR (o_3.rdB (placeV o a p)))))
 (0 : Int))))
 (IntKind.i64.wrap
 (IntKind.i64.wrap
 (hdI
 (V.rowAt
 (List.drop 4
 (List.take 60 (bR (o_3.rdB (placeV o a p)))))
 (1 : Int))) *
 (256 : Int)))) >
 (4096 : Int))))
 (some
 (Fin.ret (AV.tup [AV.nilsl, .int .i64 0, AV.bool false]),
 St.mk
 [dk0 X, dk1 X, dk2 0 X, dk3 X,
 Ob.cells
 [AV.ptr 2 0, .int .i64 g, .int .i64 a,
 .int .i64 f, .int .i64 p, .int .i64 s]]
 []))
 (onSome (dkG 0 (dk0 X) (dk1 X) (dk2 0 X) (dk3 X)) none
 fun (o_4 : Dk) =>
 onSome
 (lgG
 [.int .i64 g, .int .i64 a, .int .i64 f,
 .int .i64 p, .int .i64 s])
 none fun (o_5 : Lg) =>
 branch (.bool (decide (2 ≤ o_4.n) && cdec (o_5.p < 1000000)))
 (branch
 (AV.bool
 (decide
 (piecesV
 (opq
 (bitsI BinOp.or IntKind.i64
 (IntKind.i64.wrap
 (hdI
 (V.rowAt
 (List.drop 4
 (List.take 60 (bR (o_3.rdB (placeV o a p)))))
 (0 : Int))))
 (IntKind.i64.wrap
 (IntKind.i64.wrap
 (hdI
 (V.rowAt
 (List.drop 4
 (List.take 60 (bR (o_3.rdB (placeV o a p)))))
 (1 : Int))) *
 (256 : Int))))) >
 roomV o_4 o_5)))
 (some
 (Fin.ret (AV.tup [AV.nilsl, .int .i64 0, AV.bool false]),
 St.mk
 [dk0 X, dk1 X, dk2 0 X, dk3 X,
 Ob.cells
 [AV.ptr 2 0, .int .i64 g,
 .int .i64 a, .int .i64 f, .int .i64 p,
 .int .i64 s]]
 []))
 (loopRun (f45_l0.run F)
 [0, 8, 10, 11, 12, 63,
 64]
 (Cont.block 0
 (Cont.then (f45_r0.run F (f45.leaveK Fun.done)) (f45.leaveK Fun.done)))
 F
 (Env.mk 105
 [(0, AV.ptr 4 0),
 (8, .int .i64 (stpV (bR (o_3.rdB (placeV o a p))))),
 (10,
 AV.int IntKind.i64
 (opq
 (bitsI BinOp.or IntKind.i64
 (IntKind.i64.wrap
 (hdI
 (V.rowAt
 (List.drop 4
 (List.take 60 (bR (o_3.rdB (placeV o a p)))))
 (0 : Int))))
 (IntKind.i64.wrap
 (IntKind.i64.wrap
 (hdI
 (V.rowAt
 (List.drop 4
 (List.take 60
 (bR (o_3.rdB (placeV o a p)))))
 (1 : Int))) *
 (256 : Int)))))),
 (11,
 AV.int IntKind.i64
 (piecesV
 (opq
 (bitsI BinOp.or IntKind.i64
 (IntKind.i64.wrap
 (hdI
 (V.rowAt
 (List.drop 4
 (List.take 60 (bR (o_3.rdB (placeV o a p)))))
 (0 : Int))))
 (IntKind.i64.wrap
 (IntKind.i64.wrap
 (hdI
 (V.rowAt
 (List.drop 4
 (List.take 60
 (bR (o_3.rdB (placeV o a p)))))
 (1 : Int))) *
 (256 : Int))))))),
 (12, AV.nilsl),
 (63,
 AV.int IntKind.i64
 (piecesV
 (opq
 (bitsI BinOp.or IntKind.i64
 (IntKind.i64.wrap
 (hdI
 (V.rowAt
 (List.drop 4
 (List.take 60 (bR (o_3.rdB (placeV o a p)))))
 (0 : Int))))
 (IntKind.i64.wrap
 (IntKind.i64.wrap
 (hdI
 (V.rowAt
 (List.drop 4
 (List.take 60
 (bR (o_3.rdB (placeV o a p)))))
 (1 : Int))) *
 (256 : Int))))))),
 (64, .int .i64 0)])
 (St.mk
 [dk0 X, dk1 X, dk2 0 X, dk3 X,
 Ob.cells
 [AV.ptr 2 0, .int .i64 g,
 .int .i64 a, .int .i64 f, .int .i64 p,
 .int .i64 s]]
 [])))
 none)))
 none)
 none)
 none)
 none)
 none
 else none)
 none)
 none))
 none := by kernel_rfl
theorem rec_round0 (F m : Nat) (X : Dk) (g a f p s s0 z n i : Int) (K : Cont) :
 (loopRun (f45_l0.run F) [0, 8, 10, 11, 12, 63, 64] K m.succ (Env.mk 105 [(0, .ptr 4 0), (8, .int .i64 s0), (10, .int .i64 z), (11, .int .i64 n), (12, .nilsl), (63, .int .i64 n), (64, .int .i64 i)]) ⟨[dk0 X, dk1 X, dk2 0 X, dk3 X, .cells [.ptr 2 0, .int .i64 g, .int .i64 a, .int .i64 f, .int .i64 p, .int .i64 s]], []⟩ : Ans) =
 branch (.bool (decide (i < n)))
 (onSome (dkG 0 (dk0 X) (dk1 X) (dk2 0 X) (dk3 X)) none fun (o : Dk) =>
 onSome
 (lgG
 [.int .i64 g, .int .i64 a, .int .i64 f, .int .i64 p, .int .i64 s])
 none fun (o_1 : Lg) =>
 branch
 (AV.bool
 (true &&
 (true &&
 (decide (2 ≤ o.n) &&
 (decide ((0 : Int) ≤ a ∧ a < 2) &&
 decide ((0 : Int) ≤ IntKind.i64.wrap (p + i) ∧ IntKind.i64.wrap (p + i) < 1000000))))))
 (onSome (dkG 0 (dk0 X) (dk1 X) (dk2 0 X) (dk3 X)) none fun (o_2 : Dk) =>
 branch
 (AV.bool
 (byOk (bR (o_2.rdB (placeV o a (IntKind.i64.wrap (p + i))))) &&
 decide (64 ≤ (bR (o_2.rdB (placeV o a (IntKind.i64.wrap (p + i))))).length)))
 (branch (.bool (stpV (bR (o_2.rdB (placeV o a (IntKind.i64.wrap (p + i))))) != IntKind.i64.wrap (s0 + i)))
 (K AX.ret
 (Env.mk 105
 [(4, AV.nilsl), (5, .int .i64 0), (6, AV.bool false)])
 (St.mk
 [dk0 X, dk1 X, dk2 0 X, dk3 X,
 Ob.cells
 [AV.ptr 2 0, .int .i64 g, .int .i64 a, .int .i64 f,
 .int .i64 p, .int .i64 s]]
 []))
 (if
 (0 : Int) ≤ 60 ∧
 (60 : Int) ≤ (↑(bR (o_2.rdB (placeV o a (IntKind.i64.wrap (p + i))))).length : Int) then
 onCons
 (List.drop 4 (List.take 60 (bR (o_2.rdB (placeV o a (IntKind.i64.wrap (p + i)))))))
 (loopRun (f45_l0.run F)
 [0, 8, 10, 11, 12, 63, 64] K m
 (Env.mk 105
 [(0, AV.ptr 4 0), (8, .int .i64 s0),
 (10, .int .i64 z), (11, .int .i64 n), (12, AV.nilsl),
 (63, .int .i64 n),
 (64, .int .i64 (IntKind.i64.wrap (i + 1)))])
 (St.mk
 [dk0 X, dk1 X, dk2 0 X, dk3 X,
 Ob.cells
 [AV.ptr 2 0, .int .i64 g, .int .i64 a, .int .i64 f,
 .int .i64 p, .int .i64 s]]
 []))
 fun (x : List AV) (l : List (List AV)) =>
 if (x :: l).length * 1 ≤ 140737488355328 then
 loopRun (f45_l0.run F)
 [0, 8, 10, 11, 12, 63, 64] K m
 (Env.mk 105
 [(0, AV.ptr 4 0), (8, .int .i64 s0),
 (10, .int .i64 z), (11, .int .i64 n),
 (12, AV.lg 0 1 (x :: l)), (63, .int .i64 n),
 (64, .int .i64 (IntKind.i64.wrap (i + 1)))])
 (St.mk
 [dk0 X, dk1 X, dk2 0 X, dk3 X,
 Ob.cells
 [AV.ptr 2 0, .int .i64 g, .int .i64 a,
 .int .i64 f, .int .i64 p, .int .i64 s]]
 [(1, (x :: l).length)])
 else none
 else none))
 none)
 none)
 (K (AX.exit 0)
 (Env.mk 105
 [(8, .int .i64 s0), (10, .int .i64 z), (11, .int .i64 n),
 (12, AV.nilsl)])
 (St.mk
 [dk0 X, dk1 X, dk2 0 X, dk3 X,
 Ob.cells
 [AV.ptr 2 0, .int .i64 g, .int .i64 a, .int .i64 f,
 .int .i64 p, .int .i64 s]]
 [])) := by kernel_rfl
theorem rec_round (F m : Nat) (X : Dk) (g a f p s s0 z n i : Int) (l : List (List AV)) (K : Cont) :
 (loopRun (f45_l0.run F) [0, 8, 10, 11, 12, 63, 64] K m.succ (Env.mk 105 [(0, .ptr 4 0), (8, .int .i64 s0), (10, .int .i64 z), (11, .int .i64 n), (12, .lg 0 1 l), (63, .int .i64 n), (64, .int .i64 i)]) ⟨[dk0 X, dk1 X, dk2 0 X, dk3 X, .cells [.ptr 2 0, .int .i64 g, .int .i64 a, .int .i64 f, .int .i64 p, .int .i64 s]], [(1, l.length)]⟩ : Ans) =
 branch (.bool (decide (i < n)))
 (onSome (dkG 0 (dk0 X) (dk1 X) (dk2 0 X) (dk3 X)) none fun (o : Dk) =>
 onSome
 (lgG
 [.int .i64 g, .int .i64 a, .int .i64 f, .int .i64 p, .int .i64 s])
 none fun (o_1 : Lg) =>
 branch
 (AV.bool
 (true &&
 (true &&
 (decide (2 ≤ o.n) &&
 (decide ((0 : Int) ≤ a ∧ a < 2) &&
 decide ((0 : Int) ≤ IntKind.i64.wrap (p + i) ∧ IntKind.i64.wrap (p + i) < 1000000))))))
 (onSome (dkG 0 (dk0 X) (dk1 X) (dk2 0 X) (dk3 X)) none fun (o_2 : Dk) =>
 branch
 (AV.bool
 (byOk (bR (o_2.rdB (placeV o a (IntKind.i64.wrap (p + i))))) &&
 decide (64 ≤ (bR (o_2.rdB (placeV o a (IntKind.i64.wrap (p + i))))).length)))
 (branch (.bool (stpV (bR (o_2.rdB (placeV o a (IntKind.i64.wrap (p + i))))) != IntKind.i64.wrap (s0 + i)))
 (K AX.ret
 (Env.mk 105
 [(4, AV.nilsl), (5, .int .i64 0), (6, AV.bool false)])
 (St.mk
 [dk0 X, dk1 X, dk2 0 X, dk3 X,
 Ob.cells
 [AV.ptr 2 0, .int .i64 g, .int .i64 a, .int .i64 f,
 .int .i64 p, .int .i64 s]]
 [(1, l.length)]))
 (if
 (0 : Int) ≤ 60 ∧
 (60 : Int) ≤ (↑(bR (o_2.rdB (placeV o a (IntKind.i64.wrap (p + i))))).length : Int) then
 if
 some (1, l.length) = some (1, l.length) ∧
 (l.length +
 (List.drop 4
 (List.take 60 (bR (o_2.rdB (placeV o a (IntKind.i64.wrap (p + i))))))).length) *
 1 ≤
 140737488355328 then
 loopRun (f45_l0.run F)
 [0, 8, 10, 11, 12, 63, 64] K m
 (Env.mk 105
 [(0, AV.ptr 4 0), (8, .int .i64 s0),
 (10, .int .i64 z), (11, .int .i64 n),
 (12,
 AV.lg 0 1
 (l ++
 List.drop 4
 (List.take 60 (bR (o_2.rdB (placeV o a (IntKind.i64.wrap (p + i)))))))),
 (63, .int .i64 n),
 (64, .int .i64 (IntKind.i64.wrap (i + 1)))])
 (St.mk
 [dk0 X, dk1 X, dk2 0 X, dk3 X,
 Ob.cells
 [AV.ptr 2 0, .int .i64 g, .int .i64 a, .int .i64 f,
 .int .i64 p, .int .i64 s]]
 [(1,
 l.length +
 (List.drop 4
 (List.take 60 (bR (o_2.rdB (placeV o a (IntKind.i64.wrap (p + i))))))).length)])
 else none
 else none))
 none)
 none)
 (K (AX.exit 0)
 (Env.mk 105
 [(8, .int .i64 s0), (10, .int .i64 z), (11, .int .i64 n),
 (12, AV.lg 0 1 l)])
 (St.mk
 [dk0 X, dk1 X, dk2 0 X, dk3 X,
 Ob.cells
 [AV.ptr 2 0, .int .i64 g, .int .i64 a, .int .i64 f,
 .int .i64 p, .int .i64 s]]
 [(1, l.length)])) := by kernel_rfl
theorem rec_out (F : Nat) (s0 z n : Int) (l : List (List AV)) (st : St) (K : Cont) :
 (f45_r0.run F K (Env.mk 105 [(8, .int .i64 s0), (10, .int .i64 z), (11, .int .i64 n), (12, .lg 0 1 l)]) st : Ans) =
 if (0 : Int) ≤ IntKind.i64.wrap ((2 : Int) + z) ∧ IntKind.i64.wrap ((2 : Int) + z) ≤ (↑l.length : Int) then
 if (0 : Int) ≤ 2 ∧ (2 : Int) ≤ (↑(IntKind.i64.wrap ((2 : Int) + z)).toNat : Int) then
 branch
 (AV.bool
 (true &&
 apOk ([] ++ List.drop 2 (List.take (IntKind.i64.wrap ((2 : Int) + z)).toNat l)).length 1))
 (K AX.ret
 (Env.mk 105
 [(4,
 AV.sl 1 false ([] ++ List.drop 2 (List.take (IntKind.i64.wrap ((2 : Int) + z)).toNat l))),
 (5, .int .i64 (IntKind.i64.wrap (IntKind.i64.wrap (s0 + n) - 1))),
 (6, AV.bool true)])
 st)
 none
 else none
 else none := by kernel_rfl
def payB (b : List Nat) : List Nat := (b.take 60).drop 4
def Dk.recGo (X : Dk) (k s : Nat) : Nat → Option (List Nat)
 | 0 => some []
 | n + 1 => if stampB (X.sector k) = s then (X.recGo (k + 1) (s + 1) n).map (payB (X.sector k) ++ ·) else none
def sizeB (b : List Nat) : Nat := b.getD 4 0 + 256 * b.getD 5 0
def Dk.recT (X : Dk) (L : Lg) (f : Nat) : Option (List Nat × Nat) :=
 if L.p = X.half then none else
 let b := X.sector (placeN X L.a L.p)
 if stampB b < f ∨ 4096 < sizeB b ∨ X.half < L.p + piecesN (sizeB b) then none else
 (X.recGo (placeN X L.a L.p) (stampB b) (piecesN (sizeB b))).map fun d => ((d.take (2 + sizeB b)).drop 2, stampB b + piecesN (sizeB b) - 1)
theorem stampB_lt (b : List Nat) : stampB b < 2147483648 := by unfold stampB; split <;> omega
theorem stpV_b (b : List Nat) : stpV (bR b) = ((stampB b : Nat) : Int) := by rw [stpV, opq_eq, nR_bR]
theorem pay_row {b : List Nat} : List.drop 4 (List.take 60 (bR b)) = bR (payB b) := by rw [bR_take, bR_drop]; rfl
theorem payB_len {b : List Nat} (h : b.length = 64) : (payB b).length = 56 := by simp [payB, h]
theorem payB_lt {b : List Nat} (h : ∀ x ∈ b, x < 256) : ∀ x ∈ payB b, x < 256 := fun x hx => h x (List.mem_of_mem_take (List.mem_of_mem_drop hx))
theorem place_lt {X : Dk} {a p : Nat} (ha : a < 2) (hp : p < X.half) : placeN X a p < X.n := by
 have hh : X.half = (X.n - 2) / 2 := rfl
 have : a = 0 ∨ a = 1 := by omega
 unfold placeN
 rcases this with rfl | rfl <;> omega
theorem placeV_n (X : Dk) (a p : Nat) : placeV X (a : Int) (p : Int) = ((placeN X a p : Nat) : Int) := by rw [placeV, opq_eq, placeN]; push_cast; rfl
theorem recGo_len {X : Dk} (h : X.Ok) : ∀ (n k s : Nat) (d : List Nat), k + n ≤ X.n → X.recGo k s n = some d → d.length = 56 * n ∧ ∀ x ∈ d, x < 256
 | 0, k, s, d, _, e => by cases e; exact ⟨rfl, fun x hx => by cases hx⟩
 | n + 1, k, s, d, hk, e => by
  rw [Dk.recGo] at e
  split at e
  ·cases hg : X.recGo (k + 1) (s + 1) n with
   | none => rw [hg] at e; cases e
   | some d' =>
    rw [hg] at e; cases e
    obtain ⟨h1, h2⟩ := recGo_len h n _ _ _ (by omega) hg
    obtain ⟨s1, s2⟩ := h.sector_len (k := k) (by omega)
    refine ⟨by rw [List.length_append, payB_len s1, h1]; omega, fun x hx => ?_⟩
    rcases List.mem_append.mp hx with hx | hx
    ·exact payB_lt s2 x hx
    ·exact h2 x hx
  ·cases e
def recEnv (s0 z n i : Nat) (v : AV) : Env := Env.mk 105 [(0, .ptr 4 0), (8, .int .i64 (s0 : Int)), (10, .int .i64 (z : Int)), (11, .int .i64 (n : Int)), (12, v), (63, .int .i64 (n : Int)), (64, .int .i64 (i : Int))]
noncomputable def recSt (X : Dk) (L : Lg) (tk : List (Nat × Nat)) : St := ⟨[dk0 X, dk1 X, dk2 0 X, dk3 X, .cells [.ptr 2 0, .int .i64 (L.g : Int), .int .i64 (L.a : Int), .int .i64 (L.f : Int), .int .i64 (L.p : Int), .int .i64 (L.s : Int)]], tk⟩
noncomputable def recEnd (X : Dk) (L : Lg) (s0 z n : Nat) (K : Cont) (acc : List Nat) (tk : List (Nat × Nat)) : Option (List Nat) → Ans
 | none => K AX.ret (Env.mk 105 [(4, AV.nilsl), (5, AV.int IntKind.i64 (0 : Int)), (6, AV.bool false)]) (recSt X L tk)
 | some d => K (AX.exit 0) (Env.mk 105 [(8, .int .i64 (s0 : Int)), (10, .int .i64 (z : Int)), (11, .int .i64 (n : Int)), (12, .lg 0 1 (bR (acc ++ d)))]) (recSt X L [(1, (bR (acc ++ d)).length)])
theorem rec_step {X : Dk} (h : X.Ok) (hw : X.ws.length < 900000) {L : Lg} (ha : L.a < 2) {i : Nat} (hp : L.p + i < X.half) : let b := X.sector (placeN X L.a L.p + i);
  IntKind.i64.wrap ((L.p : Int) + (i : Int)) = ((L.p + i : Nat) : Int) ∧ X.rdB (placeV X (L.a : Int) ((L.p + i : Nat) : Int)) = b ∧ byOk (bR b) = true ∧ (bR b).length = 64 ∧ b.length = 64 ∧ L.p + i < 1000000 ∧ ∀ x ∈ b, x < 256 := by
 have hn1 := h.n1
 have hh : X.half = (X.n - 2) / 2 := rfl
 have hk : placeN X L.a L.p + i = placeN X L.a (L.p + i) := by unfold placeN; omega
 have hlt := place_lt ha hp
 intro b
 have hb : b = X.sector (placeN X L.a (L.p + i)) := by show X.sector (placeN X L.a L.p + i) = _; rw [hk]
 obtain ⟨b1, b2, b3⟩ := sector_b h hlt
 refine ⟨by rw [show (L.p : Int) + (i : Int) = ((L.p + i : Nat) : Int) by omega, wrap_nat (by omega)], ?_, ?_, ?_, ?_, by omega, ?_⟩
 ·rw [placeV_n, (rd_sector X hlt).2, hb]
 ·rw [hb]; exact b1
 ·rw [hb]; exact b2
 ·rw [hb]; exact (h.sector_len hlt).1
 ·rw [hb]; exact (h.sector_len hlt).2
theorem rec_loop (F : Nat) {X : Dk} (h : X.Ok) (hw : X.ws.length < 900000) {L : Lg} (h2 : 2 ≤ X.n) (ha : L.a < 2) (s0 z n : Nat) (hs : s0 < 2147483648) (hn : L.p + n ≤ X.half) (K : Cont) : ∀ (d m i : Nat) (acc : List Nat), i + d = n → d < m → acc.length = 56 * i → ∃ tk,
  loopRun (f45_l0.run F) [0, 8, 10, 11, 12, 63, 64] K m (recEnv s0 z n i (.lg 0 1 (bR acc))) (recSt X L [(1, (bR acc).length)]) = recEnd X L s0 z n K acc tk (X.recGo (placeN X L.a L.p + i) (s0 + i) d)
 | d, 0, i, acc, _, hm, _ => by omega
 | 0, m + 1, i, acc, hi, _, _ => by
  refine ⟨[], ?_⟩
  rw [show m + 1 = m.succ from rfl]
  refine (rec_round F m X _ _ _ _ _ _ _ _ _ (bR acc) K).trans ?_
  rw [branch_not (decide_eq_false (by omega)), Dk.recGo, recEnd, List.append_nil]; rfl
 | d + 1, m + 1, i, acc, hi, hm, hacc => by
  obtain ⟨e1, e2, e3, e4, e5, e6, e7⟩ := rec_step h hw ha (L := L) (i := i) (by omega)
  have hn1 := h.n1
  have hh : X.half = (X.n - 2) / 2 := rfl
  have pl : (payB (X.sector (placeN X L.a L.p + i))).length = 56 := payB_len e5
  rw [show m + 1 = m.succ from rfl]
  have := rec_round F m X (L.g : Int) (L.a : Int) (L.f : Int) (L.p : Int) (L.s : Int) (s0 : Int) (z : Int) (n : Int) (i : Int) (bR acc) K
  by_cases hst : stampB (X.sector (placeN X L.a L.p + i)) = s0 + i
  ·obtain ⟨tk, ih⟩ := rec_loop F h hw h2 ha s0 z n hs hn K d m (i + 1) (acc ++ payB (X.sector (placeN X L.a L.p + i))) (by omega) (by omega) (by rw [List.length_append, pl]; omega)
   refine ⟨tk, this.trans ?_⟩
   rw [branch_of (decide_eq_true (by omega)), gD h (by omega), onSome_some, lgG_cs, onSome_some, e1, onSome_some, branch_of (by simp only [Bool.true_and, Bool.and_eq_true, decide_eq_true_eq]; omega), e2, branch_of (by rw [e3, e4]; rfl), stpV_b,
    show (s0 : Int) + (i : Int) = ((s0 + i : Nat) : Int) by omega, wrap_nat (i := s0 + i) (by omega), branch_not (by rw [hst]; simp), if_pos ⟨by decide, by rw [e4]; decide⟩, pay_row, if_pos ⟨rfl, by rw [bR_length, bR_length, hacc, pl]; omega⟩, wrap_succ (by omega)]
   have eq1 : bR acc ++ bR (payB (X.sector (placeN X L.a L.p + i))) = bR (acc ++ payB (X.sector (placeN X L.a L.p + i))) := by simp [bR]
   rw [eq1, show (bR acc).length + (bR (payB (X.sector (placeN X L.a L.p + i)))).length = (bR (acc ++ payB (X.sector (placeN X L.a L.p + i)))).length by rw [← eq1, List.length_append]]
   refine ih.trans ?_
   rw [Dk.recGo, if_pos hst, show placeN X L.a L.p + (i + 1) = placeN X L.a L.p + i + 1 by omega, show s0 + (i + 1) = s0 + i + 1 by omega]
   cases X.recGo (placeN X L.a L.p + i + 1) (s0 + i + 1) d with
   | none => rfl
   | some d' => simp only [recEnd, Option.map_some, List.append_assoc]
  ·refine ⟨[(1, (bR acc).length)], this.trans ?_⟩
   rw [branch_of (decide_eq_true (by omega)), gD h (by omega), onSome_some, lgG_cs, onSome_some, e1, onSome_some, branch_of (by simp only [Bool.true_and, Bool.and_eq_true, decide_eq_true_eq]; omega), e2, branch_of (by rw [e3, e4]; rfl), stpV_b,
    show (s0 : Int) + (i : Int) = ((s0 + i : Nat) : Int) by omega, wrap_nat (i := s0 + i) (by omega), branch_of (by simp; omega), Dk.recGo, if_neg hst]
   rfl
theorem rec_loop0 (F : Nat) {X : Dk} (h : X.Ok) (hw : X.ws.length < 900000) {L : Lg} (h2 : 2 ≤ X.n) (ha : L.a < 2) (s0 z n : Nat) (hs : s0 < 2147483648) (hn : L.p + n ≤ X.half) (K : Cont) (m : Nat) (h0 : 0 < n) (hm : n < m) : ∃ tk,
  loopRun (f45_l0.run F) [0, 8, 10, 11, 12, 63, 64] K m (recEnv s0 z n 0 .nilsl) (recSt X L []) = recEnd X L s0 z n K [] tk (X.recGo (placeN X L.a L.p) s0 n) := by
 obtain ⟨m, rfl⟩ : ∃ k, m = k + 1 := ⟨m - 1, by omega⟩
 obtain ⟨e1, e2, e3, e4, e5, e6, e7⟩ := rec_step h hw ha (L := L) (i := 0) (by omega)
 have hn1 := h.n1
 have hh : X.half = (X.n - 2) / 2 := rfl
 simp only [Nat.add_zero] at e1 e2 e3 e4 e5 e7
 have pl : (payB (X.sector (placeN X L.a L.p))).length = 56 := payB_len e5
 rw [show m + 1 = m.succ from rfl]
 have := rec_round0 F m X (L.g : Int) (L.a : Int) (L.f : Int) (L.p : Int) (L.s : Int) (s0 : Int) (z : Int) (n : Int) ((0 : Nat) : Int) K
 obtain ⟨n, rfl⟩ : ∃ k, n = k + 1 := ⟨n - 1, by omega⟩
 by_cases hst : stampB (X.sector (placeN X L.a L.p)) = s0
 ·obtain ⟨tk, ih⟩ := rec_loop F h hw h2 ha s0 z (n + 1) hs hn K n m 1 (payB (X.sector (placeN X L.a L.p))) (by omega) (by omega) (by rw [pl])
  refine ⟨tk, this.trans ?_⟩
  rw [branch_of (decide_eq_true (by omega)), gD h (by omega), onSome_some, lgG_cs, onSome_some, e1, onSome_some, branch_of (by simp only [Bool.true_and, Bool.and_eq_true, decide_eq_true_eq]; omega), e2, branch_of (by rw [e3, e4]; rfl), stpV_b,
   show (s0 : Int) + ((0 : Nat) : Int) = ((s0 : Nat) : Int) by omega, wrap_nat (i := s0) (by omega), branch_not (by rw [hst]; simp), if_pos ⟨by decide, by rw [e4]; decide⟩, pay_row, wrap_succ (by omega)]
  generalize hb : X.sector (placeN X L.a L.p) = b at *
  obtain ⟨x, r, hr⟩ : ∃ x r, bR (payB b) = x :: r := by
   cases hq : bR (payB b) with
   | nil => have := congrArg List.length hq; rw [bR_length, pl] at this; cases this
   | cons x r => exact ⟨x, r, rfl⟩
  rw [hr, onCons_cons, ← hr, if_pos (by rw [bR_length, pl]; decide)]
  refine ih.trans ?_
  rw [Dk.recGo, hb, if_pos hst]
  cases X.recGo (placeN X L.a L.p + 1) (s0 + 1) n with
  | none => rfl
  | some d' => simp only [recEnd, Option.map_some, List.nil_append]
 ·refine ⟨[], this.trans ?_⟩
  rw [branch_of (decide_eq_true (by omega)), gD h (by omega), onSome_some, lgG_cs, onSome_some, e1, onSome_some, branch_of (by simp only [Bool.true_and, Bool.and_eq_true, decide_eq_true_eq]; omega), e2, branch_of (by rw [e3, e4]; rfl), stpV_b,
   show (s0 : Int) + ((0 : Nat) : Int) = ((s0 : Nat) : Int) by omega, wrap_nat (i := s0) (by omega), branch_of (by simp; omega), Dk.recGo, if_neg hst]
  rfl
theorem pay_at {b : List Nat} (h : b.length = 64) {i : Nat} (hi : i < 2) : (payB b).getD i 0 = b.getD (4 + i) 0 := by
 rw [payB, List.getD_eq_getElem?_getD, List.getElem?_drop, List.getElem?_take, if_pos (by omega), ← List.getD_eq_getElem?_getD]
theorem pay_hd {b : List Nat} (h : b.length = 64) (hx : ∀ x ∈ b, x < 256) {i : Nat} (hi : i < 2) : inR (bR (payB b)) (i : Int) = true ∧ (LD.one (.int .u8)).is (V.rowAt (bR (payB b)) (i : Int)) = true ∧ hdI (V.rowAt (bR (payB b)) (i : Int)) = ((b.getD (4 + i) 0 : Nat) : Int) := by
 have hl := payB_len h
 have hb := byOk_iff.mp (byOk_bR (payB_lt hx) (by rw [hl]; omega))
 obtain ⟨a1, a2⟩ := okR_at hb.1 (i := i) (by rw [bR_length, hl]; omega)
 refine ⟨inR_nat (by rw [bR_length, hl]; omega), a1, ?_⟩
 rw [a2, ← pay_at h hi, List.getD_eq_getElem?_getD]
 simp only [nR_bR]
 rw [List.getElem?_eq_getElem (by rw [hl]; omega)]; rfl
theorem size_or {x y : Nat} (hx : x < 256) (hy : y < 256) : bitsI BinOp.or IntKind.i64 (IntKind.i64.wrap (x : Int)) (IntKind.i64.wrap (IntKind.i64.wrap (y : Int) * (256 : Int))) = ((x + 256 * y : Nat) : Int) := by
 rw [wrap_nat (i := x) (by omega), wrap_nat (i := y) (by omega), show ((y : Int) * 256) = ((y * 2 ^ 8 : Nat) : Int) by omega, wrap_nat (i := y * 2 ^ 8) (by omega), orAb (by omega) (by omega) (by omega)]
 congr 1; omega
theorem rec_can {X : Dk} (h : X.Ok) (hw : X.ws.length < 900000) {L : Lg} (h2 : 2 ≤ X.n) (ha : L.a < 2) (hp : L.p ≤ X.half) (f : Nat) :
  ∃ tk, f45.run 100000 [.ptr 4 0, .int .i64 (f : Int)] ⟨X.obs ++ [lgC L], []⟩ = some (.ret (match X.recT L f with
   | none => .tup [.nilsl, .int .i64 0, .bool false]
   | some r => .tup [.sl 1 false (bR r.1), .int .i64 (r.2 : Int), .bool true]), ⟨X.obs ++ [lgC L], tk⟩) := by
 have hn1 := h.n1
 have hh : X.half = (X.n - 2) / 2 := rfl
 rw [dk_obs h]
 have key := rec_run 100000 X (L.g : Int) (L.a : Int) (L.f : Int) (L.p : Int) (L.s : Int) (f : Int)
 have er : roomV X L = (X.half : Int) - (L.p : Int) := by rw [roomV, opq_eq]
 rw [gD h (by omega), onSome_some, lgG_cs, onSome_some, branch_of (by rw [Bool.and_eq_true, decide_eq_true_eq, cdec_iff]; omega), er] at key
 by_cases hpe : L.p = X.half
 ·refine ⟨[], key.trans ?_⟩
  rw [branch_of (by simp; omega), Dk.recT, if_pos hpe]; rfl
 ·have hpl : L.p < X.half := by omega
  obtain ⟨e1, e2, e3, e4, e5, e6, e7⟩ := rec_step h hw ha (L := L) (i := 0) (by omega)
  simp only [Nat.add_zero] at e1 e2 e3 e4 e5 e7
  obtain ⟨p1, p2, p3⟩ : inR (bR (payB (X.sector (placeN X L.a L.p)))) (0 : Int) = true ∧ (LD.one (.int .u8)).is (V.rowAt (bR (payB (X.sector (placeN X L.a L.p)))) (0 : Int)) = true ∧ hdI (V.rowAt (bR (payB (X.sector (placeN X L.a L.p)))) (0 : Int)) = (((X.sector (placeN X L.a L.p)).getD 4 0 : Nat) : Int) := pay_hd e5 e7 (i := 0) (by omega)
  obtain ⟨q1, q2, q3⟩ : inR (bR (payB (X.sector (placeN X L.a L.p)))) (1 : Int) = true ∧ (LD.one (.int .u8)).is (V.rowAt (bR (payB (X.sector (placeN X L.a L.p)))) (1 : Int)) = true ∧ hdI (V.rowAt (bR (payB (X.sector (placeN X L.a L.p)))) (1 : Int)) = (((X.sector (placeN X L.a L.p)).getD 5 0 : Nat) : Int) := pay_hd e5 e7 (i := 1) (by omega)
  have g4 := getD_lt e7 4
  have g5 := getD_lt e7 5
  rw [branch_not (by simp; omega), onSome_some, onSome_some, branch_of (by simp only [Bool.true_and, Bool.and_eq_true, decide_eq_true_eq]; omega), onSome_some, e2, branch_of (by rw [e3, e4]; rfl), if_pos ⟨by decide, by rw [e4]; decide⟩, pay_row,
   branch_of p1, branch_of p2, branch_of q1, branch_of q2, p3, q3, size_or g4 g5, opq_eq,
   show (X.sector (placeN X L.a L.p)).getD 4 0 + 256 * (X.sector (placeN X L.a L.p)).getD 5 0 = sizeB (X.sector (placeN X L.a L.p)) from rfl, stpV_b] at key
  have hz : sizeB (X.sector (placeN X L.a L.p)) < 65536 := by unfold sizeB; omega
  have hs := stampB_lt (X.sector (placeN X L.a L.p))
  have eT : X.recT L f = (if stampB (X.sector (placeN X L.a L.p)) < f ∨ 4096 < sizeB (X.sector (placeN X L.a L.p)) ∨ X.half < L.p + piecesN (sizeB (X.sector (placeN X L.a L.p))) then none else (X.recGo (placeN X L.a L.p) (stampB (X.sector (placeN X L.a L.p))) (piecesN (sizeB (X.sector (placeN X L.a L.p))))).map fun d => ((d.take (2 + sizeB (X.sector (placeN X L.a L.p)))).drop 2, stampB (X.sector (placeN X L.a L.p)) + piecesN (sizeB (X.sector (placeN X L.a L.p))) - 1)) := by
   rw [Dk.recT, if_neg hpe]
  rw [eT]
  generalize stampB (X.sector (placeN X L.a L.p)) = s0 at *
  generalize sizeB (X.sector (placeN X L.a L.p)) = z at *
  have hpz : piecesN z = (z + 57) / 56 := rfl
  have ep : piecesV ((z : Nat) : Int) = ((piecesN z : Nat) : Int) := by rw [piecesV, opq_eq, Int.toNat_natCast]
  rw [branch_of (by rw [Bool.true_and]; exact decide_eq_true (by omega)), ep] at key
  by_cases h3 : s0 < f
  ·refine ⟨[], key.trans ?_⟩
   rw [branch_of (decide_eq_true (by omega)), if_pos (.inl h3)]; rfl
  ·rw [branch_not (decide_eq_false (by omega))] at key
   by_cases h4 : 4096 < z
   ·refine ⟨[], key.trans ?_⟩
    rw [branch_of (decide_eq_true (by omega)), if_pos (.inr (.inl h4))]; rfl
   ·rw [branch_not (decide_eq_false (by omega)), onSome_some, onSome_some, branch_of (by rw [Bool.and_eq_true, decide_eq_true_eq, cdec_iff]; omega), er] at key
    by_cases h5 : X.half < L.p + piecesN z
    ·refine ⟨[], key.trans ?_⟩
     rw [branch_of (decide_eq_true (by omega)), if_pos (.inr (.inr h5))]; rfl
    ·rw [branch_not (decide_eq_false (by omega))] at key
     rw [if_neg (by omega)]
     obtain ⟨tk, hl⟩ := rec_loop0 100000 h hw h2 ha s0 z (piecesN z) hs (by omega) (Cont.block 0 (Cont.then (f45_r0.run 100000 (f45.leaveK Fun.done)) (f45.leaveK Fun.done))) 100000 (by omega) (by omega)
     cases hg : X.recGo (placeN X L.a L.p) s0 (piecesN z) with
     | none =>
      refine ⟨tk, key.trans (Eq.trans hl ?_)⟩
      rw [hg]; rfl
     | some d =>
      obtain ⟨d1, d2⟩ := recGo_len h _ _ _ _ (by have := place_lt (X := X) (a := L.a) (p := L.p + (piecesN z - 1)) ha (by omega); unfold placeN at this ⊢; omega) hg
      refine ⟨[(1, (bR ([] ++ d)).length)], key.trans (Eq.trans hl ?_)⟩
      rw [hg]
      show f45_r0.run 100000 (f45.leaveK Fun.done) (Env.mk 105 [(8, .int .i64 (s0 : Int)), (10, .int .i64 (z : Int)), (11, .int .i64 ((piecesN z : Nat) : Int)), (12, .lg 0 1 (bR ([] ++ d)))]) (recSt X L [(1, (bR ([] ++ d)).length)]) = _
      rw [List.nil_append, rec_out, show (2 : Int) + (z : Int) = ((2 + z : Nat) : Int) by omega, wrap_nat (i := 2 + z) (by omega), Int.toNat_natCast, if_pos ⟨by omega, by rw [bR_length, d1]; omega⟩, if_pos ⟨by decide, by omega⟩, List.nil_append, bR_take, bR_drop, branch_of (by rw [Bool.true_and, apOk_iff, bR_length, List.length_drop, List.length_take]; omega),
       show (s0 : Int) + ((piecesN z : Nat) : Int) = ((s0 + piecesN z : Nat) : Int) by omega, wrap_nat (i := s0 + piecesN z) (by omega), show ((s0 + piecesN z : Nat) : Int) - 1 = ((s0 + piecesN z - 1 : Nat) : Int) by omega, wrap_nat (i := s0 + piecesN z - 1) (by omega)]
      rfl
noncomputable def rdOk (X : Dk) (L : Lg) (f : Int) : Bool := opq (X.recT L f.toNat).isSome
noncomputable def rdBy (X : Dk) (L : Lg) (f : Int) : List (List AV) := opq (bR (((X.recT L f.toNat).map (·.1)).getD []))
noncomputable def rdLast (X : Dk) (L : Lg) (f : Int) : Int := opq ((((X.recT L f.toNat).map (·.2)).getD 0 : Nat) : Int)
structure POk (X : Dk) (L : Lg) : Prop where
 n2 : 2 ≤ X.n
 a : L.a < 2
 p : L.p ≤ X.half
 w : X.ws.length < 900000
noncomputable def q45 : OrcQ Try.prog := f45.byQ
 (fun args st k => match args with
  | [x, n] => onL x st fun j i X L => onInt n fun kd n => ifT (decide (kd = .i64) && (decide (0 ≤ n) && cdec (POk X L))) (k (.tup [.ns (!rdOk X L n) 1 (rdBy X L n), .int .i64 (rdLast X L n), .bool (rdOk X L n)]))
  | _ => none)
 fun args st k fin h => by
  split at h
  ·rename_i x n
   obtain ⟨j, i, o0, o1, o2, o3, X, L, rfl, hj, h0, h1, h2, h3, hd, g901⟩ := onL_spec h
   obtain ⟨kd, n, g902, rfl⟩ := onInt_spec g901
   obtain ⟨hk, g903⟩ := ifT_spec g902
   simp only [Bool.and_eq_true, decide_eq_true_eq, cdec_iff] at hk
   obtain ⟨rfl, hk1, hk2⟩ := hk
   obtain ⟨n, rfl⟩ := Int.eq_ofNat_of_zero_le hk1
   refine ⟨_, g903, ?_⟩
   obtain ⟨tk, hrun⟩ := rec_can hd.1 hk2.w hk2.n2 hk2.a hk2.p n
   have e1 : rdOk X L (n : Int) = (X.recT L n).isSome := by rw [rdOk, opq_eq, Int.toNat_natCast]
   have e2 : rdBy X L (n : Int) = bR (((X.recT L n).map (·.1)).getD []) := by rw [rdBy, opq_eq, Int.toNat_natCast]
   have e3 : rdLast X L (n : Int) = ((((X.recT L n).map (·.2)).getD 0 : Nat) : Int) := by rw [rdLast, opq_eq, Int.toNat_natCast]
   rw [e1, e2, e3]
   cases hT : X.recT L n with
   | none =>
    rw [hT] at hrun
    have := lg_placed (f := f45) (r := .tup [.nilsl, .int .i64 0, .bool false]) (args0 := [.ptr 4 0, .int .i64 (n : Int)]) (xs := []) (X := X) (Y := X) (L := L) (M := L) (F := 100000) hrun hd.1 ⟨by show 4 < 5; omega, trivial, trivial⟩ ⟨trivial, trivial, trivial, trivial⟩ hj h0 h1 h2 h3 hd
    rw [same_plL hj hd h0 h1 h2 h3] at this
    exact calls_wkR this fun g w v ⟨vs, e, v1, r901, q901, q902, q903⟩ => ⟨vs, e, v1, r901, q901, .inl ⟨rfl, rfl, q902⟩, q903⟩
   | some r =>
    rw [hT] at hrun
    have := lg_placed (f := f45) (r := .tup [.sl 1 false (bR r.1), .int .i64 (r.2 : Int), .bool true]) (args0 := [.ptr 4 0, .int .i64 (n : Int)]) (xs := []) (X := X) (Y := X) (L := L) (M := L) (F := 100000) hrun hd.1 ⟨by show 4 < 5; omega, trivial, trivial⟩ ⟨bR_scoped _, trivial, trivial, trivial⟩ hj h0 h1 h2 h3 hd
    rw [same_plL hj hd h0 h1 h2 h3] at this
    refine calls_wkR this fun g w v ⟨vs, e, v1, r901, q901, q902, q903⟩ => ⟨vs, e, v1, r901, q901, ?_, q903⟩
    obtain ⟨b', o, sp, cap, p901, p902, _, p903, p904⟩ := q902
    exact .inr ⟨rfl, b', o, sp, cap, p901, p902, p903, p904⟩
  ·cases h
theorem ze33 : (Try.prog.info? 33).bind (·.zero) = some (.slice none 0 0) := by kernel_rfl
theorem by33 : (Try.prog.info? 33).map (·.bytes) = some 24 := by kernel_rfl
theorem el22 : ElemOf Try.prog 22 33 1 24 (.slice none 0 0) := ⟨Try.underlying22, sz33, by33, ze33, by kernel_rfl, by decide⟩
noncomputable def f15_l0 : Sim Try.prog :=
 (.seq (.live [0, 5, 19, 20] (.region 5 [
 ⟨(opBin (some 20) .lss 3 (.tmp 19) (.const (Value.int IntKind.i64 2)) 3 4 "wal.go:163" #[]).op, none⟩
 ] (by kernel_rfl)))
 (.seq (.cond (.tmp 20)
 .skip
 (.live [0, 5] (.exit 0)))
 (.seq (.block 1 (.seq (.live [0, 5, 6, 19] (.region 6 [
 ⟨(opMove (some 21) (.tmp 19) 3 "wal.go:163" #[]).op, none⟩,
 ⟨(opAssign (some 6) (.tmp 21) 3 "wal.go:163" #[eD 0, eP 0]).op, none⟩
 ] (by kernel_rfl)))
 (.seq (.live [0, 5, 7, 19] (.items 7 [
 .one ((opMove (some 22) (.tmp 0) 25 "wal.go:164" #[]).op),
 .one ((opMove (some 23) (.tmp 6) 3 "wal.go:164" #[]).op),
 .one ((opCallQ q44 (some 24) [(.tmp 22), (.tmp 23)] #[25, 3] 81 "wal.go:164" #[eD 0, eD 1]).op),
 .one ((opMove (some 25) (.tmp 6) 3 "wal.go:164" #[]).op),
 .one ((opCallP p43 (some 26) [(.tmp 24), (.tmp 25)] #[81, 3] 69 "wal.go:164" #[eD 2, eD 3, eC 2]).op),
 .two (op2Box 7 69 (.agg #[(.int .i64 0), (.int .i64 0), (.int .i64 0)]) ze69 (.tmp 26) (by rfl) 3 sz69 (by kernel_rfl) 89 (by rfl) 0 0 "wal.go:164" "wal.go:164" #[] #[eD 5, eD 4, eC 4, eP 0, eP 1, eP 2, eP 3, eP 4, eP 5])
 ]))
 (.seq (.live [0, 5, 7, 19, 34] (.draw 8 [
 ⟨.pn (opFieldAddr (some 27) 69 (.tmp 7) 0 0 1 false fl69_0 (by decide) 0 "wal.go:164" #[]) opFieldAddr_nat, none⟩,
 ⟨.qn (opLoadT (.one (.int .i64)) (some 28) 3 (.tmp 27) (.int .i64) Try.underlying3 1 sz3 (by kernel_rfl) 3 "wal.go:164" #[eD 0]) opLoadT_nat, none⟩,
 ⟨.p (opMove (some 29) (.tmp 5) 29 "wal.go:164" #[]), none⟩,
 ⟨.p (opNilCheck (some 30) (.tmp 29) 0 "wal.go:164" #[eD 2]), none⟩,
 ⟨.pn (opFieldAddr (some 31) 71 (.tmp 30) 1 1 3 true fl71_1 (by decide) 0 "wal.go:164" #[eD 3]) opFieldAddr_nat, none⟩,
 ⟨.pn (opFieldAddr (some 32) 69 (.tmp 31) 0 0 1 false fl69_0 (by decide) 0 "wal.go:164" #[eD 4]) opFieldAddr_nat, none⟩,
 ⟨.qn (opLoadT (.one (.int .i64)) (some 33) 3 (.tmp 32) (.int .i64) Try.underlying3 1 sz3 (by kernel_rfl) 3 "wal.go:164" #[eD 5]) opLoadT_nat, none⟩,
 ⟨.pn (opBin (some 34) .gtr 3 (.tmp 28) (.tmp 33) 3 4 "wal.go:164" #[eD 1, eD 6]) opBin_nat, none⟩
 ] mixed (by kernel_rfl)))
 (.cond (.tmp 34)
 (.live [0, 5, 19] (.region 9 [
 ⟨(opMove (some 35) (.tmp 5) 29 "wal.go:165" #[]).op, none⟩,
 ⟨(opLoadT (.agg [(.int .i64), (.int .i64), (.int .i64)]) (some 36) 69 (.tmp 7) d69 ud69 3 sz69 (by kernel_rfl) 69 "wal.go:165" #[]).op, none⟩,
 ⟨(opNilCheck (some 37) (.tmp 35) 0 "wal.go:165" #[eD 0, eP 0, eP 1]).op, none⟩,
 ⟨(opFieldAddr (some 38) 71 (.tmp 37) 1 1 3 true fl71_1 (by decide) 0 "wal.go:165" #[eD 2, eP 0, eP 1]).op, none⟩,
 ⟨(opStore none 69 (.tmp 38) (.tmp 36) 3 sz69 0 "wal.go:165" #[eD 3, eD 1, eP 0, eP 1]).op, none⟩
 ] (by kernel_rfl)))
 .skip)))))
 (.live [0, 5, 19] (.region 10 [
 ⟨(opBin (some 39) .add 3 (.tmp 19) (.const (Value.int IntKind.i64 1)) 3 3 "wal.go:163" #[]).op, none⟩,
 ⟨(opMove (some 19) (.tmp 39) 3 "wal.go:163" #[eD 0]).op, none⟩
 ] (by kernel_rfl))))))
noncomputable def f15_l1 : Sim Try.prog :=
 (.block 3 (.seq (.live [5, 8, 10, 11, 12] (.region 16 [
 ⟨(opMove (some 63) (.tmp 5) 29 "wal.go:174" #[]).op, none⟩,
 ⟨(opMove (some 64) (.tmp 9) 3 "wal.go:174" #[]).op, none⟩,
 ⟨(opCallQ q45 (some 65) [(.tmp 63), (.tmp 64)] #[29, 3] 83 "wal.go:174" #[eD 0, eD 1]).op, none⟩,
 ⟨(opMove (some 62) (.tmp 65) 83 "wal.go:174" #[eD 2]).op, none⟩,
 ⟨(opExtract (some 66) (.tmp 62) 0 33 "wal.go:174" #[eD 3]).op, none⟩,
 ⟨(opExtract (some 67) (.tmp 62) 1 3 "wal.go:174" #[eD 3, eX 7]).op, none⟩,
 ⟨(opExtract (some 68) (.tmp 62) 2 4 "wal.go:174" #[eD 3, eX 8]).op, none⟩,
 ⟨(opAssign (some 10) (.tmp 66) 33 "wal.go:174" #[eD 4, eC 2, eP 0, eP 1, eP 2, eP 3, eP 4, eT 5, eT 6]).op, none⟩,
 ⟨(opAssign (some 11) (.tmp 67) 3 "wal.go:174" #[eD 5, eC 7, eP 0, eP 1, eP 2, eP 3, eP 4, eP 5, eT 6, eP 7]).op, none⟩,
 ⟨(opAssign (some 12) (.tmp 68) 4 "wal.go:174" #[eD 6, eC 8, eP 0, eP 1, eP 2, eP 3, eP 4, eP 5, eP 6, eP 7, eP 8]).op, none⟩
 ] (by kernel_rfl)))
 (.seq (.seq (.live [5, 8, 10, 11, 70] (.region 17 [
 ⟨(opMove (some 69) (.tmp 12) 4 "wal.go:175" #[]).op, none⟩,
 ⟨(opNot (some 70) 4 (.tmp 69) 4 "wal.go:175" #[eD 0]).op, none⟩
 ] (by kernel_rfl)))
 (.cond (.tmp 70)
 (.seq (.live [2, 3, 4] (.region 18 [
 ⟨(opMove (some 71) (.tmp 5) 29 "wal.go:176" #[]).op, none⟩,
 ⟨(opMove (some 72) (.tmp 8) 22 "wal.go:176" #[eX 2]).op, none⟩,
 ⟨(opAssign (some 2) (.tmp 71) 29 "wal.go:176" #[eD 0, eP 0, eT 1]).op, none⟩,
 ⟨(opAssign (some 3) (.tmp 72) 22 "wal.go:176" #[eD 1, eC 2, eP 0, eP 1, eP 2]).op, none⟩,
 ⟨(opAssign (some 4) (.const (Value.int IntKind.i64 0)) 26 "wal.go:176" #[eC 3, eP 0, eP 1, eP 2, eP 3]).op, none⟩
 ] (by kernel_rfl)))
 (.live [2, 3, 4] .ret))
 .skip))
 (.seq (.live [5, 8, 10, 11] (.region 19 [
 ⟨(opMove (some 73) (.tmp 8) 22 "wal.go:178" #[]).op, none⟩,
 ⟨(opMove (some 74) (.tmp 10) 33 "wal.go:178" #[]).op, none⟩,
 ⟨(opBuildSlice (some 75) 22 1 [(0, (.tmp 74))] 33 1 24 (.slice none 0 0) el22 (by kernel_rfl) (by decide) 22 "wal.go:178" #[eD 1]).op, none⟩,
 ⟨(opAppend (some 76) (.tmp 73) (.tmp 75) 22 22 33 1 24 (.slice none 0 0) el22 (.slice 33) Try.underlying22 rfl 22 "wal.go:178" #[eD 0, eD 2]).op, none⟩,
 ⟨(opAssign (some 8) (.tmp 76) 22 "wal.go:178" #[eD 3, eC 3, eP 0, eP 1, eP 2, eP 3]).op, none⟩
 ] (by kernel_rfl)))
 (.seq (.live [5, 8, 11] (.draw 20 [
 ⟨.p (opMove (some 77) (.tmp 5) 29 "wal.go:179" #[]), none⟩,
 ⟨.p (opNilCheck (some 78) (.tmp 77) 0 "wal.go:179" #[eD 0]), none⟩,
 ⟨.pn (opFieldAddr (some 79) 71 (.tmp 78) 2 4 1 false fl71_2 (by decide) 0 "wal.go:179" #[eD 1]) opFieldAddr_nat, none⟩,
 ⟨.qn (opLoadT (.one (.int .i64)) (some 80) 3 (.tmp 79) (.int .i64) Try.underlying3 1 sz3 (by kernel_rfl) 3 "wal.go:179" #[eD 2]) opLoadT_nat, none⟩,
 ⟨.p (opMove (some 81) (.tmp 10) 33 "wal.go:179" #[]), none⟩,
 ⟨.p (PSim.hide (opLen (some 82) (.tmp 81) 33 (.slice 5) Try.underlying33 3 "wal.go:179" #[eD 4])), none⟩,
 ⟨.pn (opCallP p39 (some 83) [(.tmp 82)] #[3] 3 "wal.go:179" #[eD 5]) (opCallP_nat p39_nat), none⟩,
 ⟨.pn (opBin (some 84) .add 3 (.tmp 80) (.tmp 83) 3 3 "wal.go:179" #[eD 3, eD 6]) opBin_nat, none⟩,
 ⟨.p (opNilCheck (some 85) (.tmp 77) 0 "wal.go:179" #[eD 0, eP 0, eP 1, eP 2, eP 3, eP 4, eP 5, eP 6, eP 7]), none⟩,
 ⟨.pn (opFieldAddr (some 86) 71 (.tmp 85) 2 4 1 false fl71_2 (by decide) 0 "wal.go:179" #[eD 8, eP 0, eP 1, eP 2, eP 3, eP 4, eP 5, eP 6, eP 7]) opFieldAddr_nat, none⟩,
 ⟨.m (opStore none 3 (.tmp 86) (.tmp 84) 1 sz3 0 "wal.go:179" #[eD 9, eD 7, eC 6, eP 0, eP 1, eP 2, eP 3, eP 4, eP 5, eP 6, eP 7]), none⟩
 ] mixed (by kernel_rfl)))
 (.live [5, 8, 9] (.region 21 [
 ⟨(opMove (some 87) (.tmp 11) 3 "wal.go:180" #[]).op, none⟩,
 ⟨(opBin (some 88) .add 3 (.tmp 87) (.const (Value.int IntKind.i64 1)) 3 3 "wal.go:180" #[eD 0]).op, none⟩,
 ⟨(opAssign (some 9) (.tmp 88) 3 "wal.go:180" #[eD 1, eP 0, eP 1]).op, none⟩
 ] (by kernel_rfl))))))))
noncomputable def f15_r0 : Sim Try.prog :=
 (.seq (.seq (.live [0, 5, 45] (.region 11 [
 ⟨(opMove (some 40) (.tmp 5) 29 "wal.go:168" #[]).op, none⟩,
 ⟨(opNilCheck (some 41) (.tmp 40) 0 "wal.go:168" #[eD 0]).op, none⟩,
 ⟨(opFieldAddr (some 42) 71 (.tmp 41) 1 1 3 true fl71_1 (by decide) 0 "wal.go:168" #[eD 1]).op, none⟩,
 ⟨(opFieldAddr (some 43) 69 (.tmp 42) 0 0 1 false fl69_0 (by decide) 0 "wal.go:168" #[eD 2]).op, none⟩,
 ⟨(opLoadT (.one (.int .i64)) (some 44) 3 (.tmp 43) (.int .i64) Try.underlying3 1 sz3 (by kernel_rfl) 3 "wal.go:168" #[eD 3]).op, none⟩,
 ⟨(opBin (some 45) .eql 3 (.tmp 44) (.const (Value.int IntKind.i64 0)) 3 4 "wal.go:168" #[eD 4]).op, none⟩
 ] (by kernel_rfl)))
 (.cond (.tmp 45)
 (.seq (.live [2, 3, 4] (.region 12 [
 ⟨(opAssign (some 2) (.const (Value.pointer none)) 29 "wal.go:169" #[]).op, none⟩,
 ⟨(opAssign (some 3) (.const (Value.slice none 0 0)) 22 "wal.go:169" #[eC 0, eP 0]).op, none⟩,
 ⟨(opAssign (some 4) (.const (Value.int IntKind.i64 42)) 26 "wal.go:169" #[eC 1, eP 0, eP 1]).op, none⟩
 ] (by kernel_rfl)))
 (.live [2, 3, 4] .ret))
 .skip))
 (.seq (.live [5] (.draw 13 [
 ⟨.p (opMove (some 46) (.tmp 5) 29 "wal.go:171" #[]), none⟩,
 ⟨.p (opMove (some 47) (.tmp 0) 25 "wal.go:171" #[]), none⟩,
 ⟨.qn (opCallQ q36 (some 48) [(.tmp 47)] #[25] 3 "wal.go:171" #[eD 1]) (opCallQ_nat q36_nat), none⟩,
 ⟨.p (opMove (some 49) (.tmp 5) 29 "wal.go:171" #[]), none⟩,
 ⟨.p (opNilCheck (some 50) (.tmp 49) 0 "wal.go:171" #[eD 3]), none⟩,
 ⟨.pn (opFieldAddr (some 51) 71 (.tmp 50) 1 1 3 true fl71_1 (by decide) 0 "wal.go:171" #[eD 4]) opFieldAddr_nat, none⟩,
 ⟨.pn (opFieldAddr (some 52) 69 (.tmp 51) 2 2 1 false fl69_2 (by decide) 0 "wal.go:171" #[eD 5]) opFieldAddr_nat, none⟩,
 ⟨.qn (opLoadT (.one (.int .i64)) (some 53) 3 (.tmp 52) (.int .i64) Try.underlying3 1 sz3 (by kernel_rfl) 3 "wal.go:171" #[eD 6]) opLoadT_nat, none⟩,
 ⟨.p (opMinMax (some 54) true (.tmp 48) [(.tmp 53)] #[3, 3] 3 "wal.go:171" #[eD 2, eD 7]), none⟩,
 ⟨.p (opNilCheck (some 55) (.tmp 46) 0 "wal.go:171" #[eD 0, eP 0, eP 1, eP 2, eP 3, eP 4, eP 5, eP 6, eP 7, eP 8]), none⟩,
 ⟨.pn (opFieldAddr (some 56) 71 (.tmp 55) 3 5 1 false fl71_3 (by decide) 0 "wal.go:171" #[eD 9, eP 0, eP 1, eP 2, eP 3, eP 4, eP 5, eP 6, eP 7, eP 8]) opFieldAddr_nat, none⟩,
 ⟨.m (opStore none 3 (.tmp 56) (.tmp 54) 1 sz3 0 "wal.go:171" #[eD 10, eD 8, eC 2, eP 0, eP 1, eP 2, eP 3, eP 4, eP 5, eP 6, eP 7, eP 8]), none⟩
 ] mixed (by kernel_rfl)))
 (.seq (.live [5, 8] (.region 14 [
 ⟨(opAssign (some 8) (.const (Value.slice none 0 0)) 22 "wal.go:172" #[]).op, none⟩
 ] (by kernel_rfl)))
 (.seq (.live [5, 8, 9] (.region 15 [
 ⟨(opMove (some 57) (.tmp 5) 29 "wal.go:173" #[]).op, none⟩,
 ⟨(opNilCheck (some 58) (.tmp 57) 0 "wal.go:173" #[eD 0]).op, none⟩,
 ⟨(opFieldAddr (some 59) 71 (.tmp 58) 1 1 3 true fl71_1 (by decide) 0 "wal.go:173" #[eD 1]).op, none⟩,
 ⟨(opFieldAddr (some 60) 69 (.tmp 59) 2 2 1 false fl69_2 (by decide) 0 "wal.go:173" #[eD 2]).op, none⟩,
 ⟨(opLoadT (.one (.int .i64)) (some 61) 3 (.tmp 60) (.int .i64) Try.underlying3 1 sz3 (by kernel_rfl) 3 "wal.go:173" #[eD 3]).op, none⟩,
 ⟨(opAssign (some 9) (.tmp 61) 3 "wal.go:173" #[eD 4, eP 0, eP 1, eP 2, eP 3, eP 4]).op, none⟩
 ] (by kernel_rfl)))
 (.block 2 (.loop [5, 8, 9] f15_l1))))))
noncomputable def f15_b : Sim Try.prog :=
 (.seq (.live [0] (.region 0 [
 ⟨(opAssign (some 2) (.const (Value.pointer none)) 29 "wal.go:158" #[]).op, none⟩,
 ⟨(opAssign (some 3) (.const (Value.slice none 0 0)) 22 "wal.go:158" #[eC 0]).op, none⟩,
 ⟨(opAssign (some 4) (.const (Value.int IntKind.i64 0)) 26 "wal.go:158" #[eC 1]).op, none⟩
 ] (by kernel_rfl)))
 (.seq (.seq (.live [0, 15] (.region 1 [
 ⟨(opMove (some 13) (.tmp 0) 25 "wal.go:159" #[]).op, none⟩,
 ⟨(opCallQ q35 (some 14) [(.tmp 13)] #[25] 3 "wal.go:159" #[eD 0]).op, none⟩,
 ⟨(opBin (some 15) .lss 3 (.tmp 14) (.const (Value.int IntKind.i64 10)) 3 4 "wal.go:159" #[eD 1]).op, none⟩
 ] (by kernel_rfl)))
 (.cond (.tmp 15)
 (.seq (.live [2, 3, 4] (.region 2 [
 ⟨(opAssign (some 2) (.const (Value.pointer none)) 29 "wal.go:160" #[]).op, none⟩,
 ⟨(opAssign (some 3) (.const (Value.slice none 0 0)) 22 "wal.go:160" #[eC 0, eP 0]).op, none⟩,
 ⟨(opAssign (some 4) (.const (Value.int IntKind.i64 41)) 26 "wal.go:160" #[eC 1, eP 0, eP 1]).op, none⟩
 ] (by kernel_rfl)))
 (.live [2, 3, 4] .ret))
 .skip))
 (.seq (.live [0, 5] (.region 3 [
 ⟨(opMove (some 16) (.tmp 0) 25 "wal.go:162" #[]).op, none⟩,
 ⟨(opBuild (some 17) 71 #[(.pointer none), (.int .i64 0), (.int .i64 0), (.int .i64 0), (.int .i64 0), (.int .i64 0)] [(0, 0, 1, (.tmp 16))] ze71 (by kernel_rfl) 71 "wal.go:162" #[eD 0]).op, none⟩,
 ⟨(opBox (some 18) 71 (.tmp 17) 29 "wal.go:162" #[eD 1]).op, none⟩,
 ⟨(opAssign (some 5) (.tmp 18) 29 "wal.go:162" #[eD 2, eP 0, eP 1, eP 2]).op, none⟩
 ] (by kernel_rfl)))
 (.seq (.seq (.live [0, 5, 19] (.region 4 [
 ⟨(opMove (some 19) (.const (Value.int IntKind.i64 0)) 3 "wal.go:163" #[]).op, none⟩
 ] (by kernel_rfl)))
 (.block 0 (.loop [0, 5, 19] f15_l0)))
 f15_r0))))
noncomputable def f15 : Fun Try.prog where
 id := 15
 fn := Try.f15
 hf := Try.func15
 hname := by kernel_rfl
 body := f15_b
 hbody := by kernel_rfl
 res := [rTmp 2, rTmp 3, rTmp 4]
 hres := by kernel_rfl
 n := 89
 hn := by kernel_rfl
theorem open_run (F : Nat) (X : Dk) :
 (f15.run F [.ptr 2 0] ⟨[dk0 X, dk1 X, dk2 0 X, dk3 X], []⟩ : Ans) =
 onSome (dkG 0 (dk0 X) (dk1 X) (dk2 0 X) (dk3 X)) none fun (o : Dk) =>
 branch (.bool (decide ((↑o.n : Int) < 10)))
 (some
 (Fin.ret (AV.tup [AV.nilptr, AV.nilsl, .int .i64 41]),
 St.mk [dk0 X, dk1 X, dk2 0 X, dk3 X] []))
 (loopRun (f15_l0.run F) [0, 5, 19]
 (Cont.block 0 (Cont.then (f15_r0.run F (f15.leaveK Fun.done)) (f15.leaveK Fun.done))) F
 (Env.mk 89
 [(0, AV.ptr 2 0), (5, AV.ptr 4 0),
 (19, .int .i64 0)])
 (St.mk
 [dk0 X, dk1 X, dk2 0 X, dk3 X,
 Ob.cells
 [AV.ptr 2 0, .int .i64 0, .int .i64 0,
 .int .i64 0, .int .i64 0, .int .i64 0]]
 [])) := by kernel_rfl
theorem open_round0 (F m : Nat) (X : Dk) (g a f : Int) (K : Cont) :
 (loopRun (f15_l0.run F) [0, 5, 19] K m.succ (Env.mk 89 [(0, .ptr 2 0), (5, .ptr 4 0), (19, .int .i64 0)]) ⟨[dk0 X, dk1 X, dk2 0 X, dk3 X, .cells [.ptr 2 0, .int .i64 g, .int .i64 a, .int .i64 f, .int .i64 0, .int .i64 0]], []⟩ : Ans) =
 onSome (dkG 0 (dk0 X) (dk1 X) (dk2 0 X) (dk3 X)) none fun (o : Dk) =>
 branch
 (AV.bool
 (true &&
 (byOk (bR (o.rdB (0 : Int))) && decide ((0 : Int) ≤ 0 ∧ 64 ≤ (bR (o.rdB (0 : Int))).length))))
 (branch (.bool (decide (hdgV (bR (o.rdB (0 : Int))) (0 : Int) > g)))
 (loopRun (f15_l0.run F) [0, 5, 19] K m
 (Env.mk 89
 [(0, AV.ptr 2 0), (5, AV.ptr 4 0),
 (19, .int .i64 1)])
 (St.mk
 [dk0 X, dk1 X, dk2 0 X, dk3 X,
 Ob.cells
 [AV.ptr 2 0, .int .i64 (hdgV (bR (o.rdB (0 : Int))) (0 : Int)),
 .int .i64 (hdaV (bR (o.rdB (0 : Int))) (0 : Int)),
 .int .i64 (hdfV (bR (o.rdB (0 : Int))) (0 : Int)), .int .i64 0,
 .int .i64 0]]
 []))
 (loopRun (f15_l0.run F) [0, 5, 19] K m
 (Env.mk 89
 [(0, AV.ptr 2 0), (5, AV.ptr 4 0),
 (19, .int .i64 1)])
 (St.mk
 [dk0 X, dk1 X, dk2 0 X, dk3 X,
 Ob.cells
 [AV.ptr 2 0, .int .i64 g, .int .i64 a, .int .i64 f,
 .int .i64 0, .int .i64 0]]
 [])))
 none := by kernel_rfl
theorem open_round1 (F m : Nat) (X : Dk) (g a f : Int) (K : Cont) :
 (loopRun (f15_l0.run F) [0, 5, 19] K m.succ (Env.mk 89 [(0, .ptr 2 0), (5, .ptr 4 0), (19, .int .i64 1)]) ⟨[dk0 X, dk1 X, dk2 0 X, dk3 X, .cells [.ptr 2 0, .int .i64 g, .int .i64 a, .int .i64 f, .int .i64 0, .int .i64 0]], []⟩ : Ans) =
 onSome (dkG 0 (dk0 X) (dk1 X) (dk2 0 X) (dk3 X)) none fun (o : Dk) =>
 branch
 (AV.bool
 (true &&
 (byOk (bR (o.rdB (1 : Int))) && decide ((0 : Int) ≤ 1 ∧ 64 ≤ (bR (o.rdB (1 : Int))).length))))
 (branch (.bool (decide (hdgV (bR (o.rdB (1 : Int))) (1 : Int) > g)))
 (loopRun (f15_l0.run F) [0, 5, 19] K m
 (Env.mk 89
 [(0, AV.ptr 2 0), (5, AV.ptr 4 0),
 (19, .int .i64 2)])
 (St.mk
 [dk0 X, dk1 X, dk2 0 X, dk3 X,
 Ob.cells
 [AV.ptr 2 0, .int .i64 (hdgV (bR (o.rdB (1 : Int))) (1 : Int)),
 .int .i64 (hdaV (bR (o.rdB (1 : Int))) (1 : Int)),
 .int .i64 (hdfV (bR (o.rdB (1 : Int))) (1 : Int)), .int .i64 0,
 .int .i64 0]]
 []))
 (loopRun (f15_l0.run F) [0, 5, 19] K m
 (Env.mk 89
 [(0, AV.ptr 2 0), (5, AV.ptr 4 0),
 (19, .int .i64 2)])
 (St.mk
 [dk0 X, dk1 X, dk2 0 X, dk3 X,
 Ob.cells
 [AV.ptr 2 0, .int .i64 g, .int .i64 a, .int .i64 f,
 .int .i64 0, .int .i64 0]]
 [])))
 none := by kernel_rfl
theorem open_round2 (F m : Nat) (X : Dk) (g a f : Int) (K : Cont) :
 (loopRun (f15_l0.run F) [0, 5, 19] K m.succ (Env.mk 89 [(0, .ptr 2 0), (5, .ptr 4 0), (19, .int .i64 2)]) ⟨[dk0 X, dk1 X, dk2 0 X, dk3 X, .cells [.ptr 2 0, .int .i64 g, .int .i64 a, .int .i64 f, .int .i64 0, .int .i64 0]], []⟩ : Ans) =
 K (AX.exit 0)
 (Env.mk 89 [(0, AV.ptr 2 0), (5, AV.ptr 4 0)])
 (St.mk
 [dk0 X, dk1 X, dk2 0 X, dk3 X,
 Ob.cells
 [AV.ptr 2 0, .int .i64 g, .int .i64 a, .int .i64 f,
 .int .i64 0, .int .i64 0]]
 []) := by kernel_rfl
theorem open_out (F : Nat) (X : Dk) (g a f : Int) (K : Cont) :
 (f15_r0.run F K (Env.mk 89 [(0, .ptr 2 0), (5, .ptr 4 0)]) ⟨[dk0 X, dk1 X, dk2 0 X, dk3 X, .cells [.ptr 2 0, .int .i64 g, .int .i64 a, .int .i64 f, .int .i64 0, .int .i64 0]], []⟩ : Ans) =
 branch (.bool (g == 0))
 (K AX.ret
 (Env.mk 89 [(2, AV.nilptr), (3, AV.nilsl), (4, .int .i64 42)])
 (St.mk
 [dk0 X, dk1 X, dk2 0 X, dk3 X,
 Ob.cells
 [AV.ptr 2 0, .int .i64 g, .int .i64 a, .int .i64 f,
 .int .i64 0, .int .i64 0]]
 []))
 (onSome (dkG 0 (dk0 X) (dk1 X) (dk2 0 X) (dk3 X)) none fun (o : Dk) =>
 branch (.bool (decide (2 ≤ o.n)))
 (loopRun (f15_l1.run F) [5, 8, 9] (Cont.block 2 K) F
 (Env.mk 89
 [(5, AV.ptr 4 0), (8, AV.nilsl), (9, .int .i64 f)])
 (St.mk
 [dk0 X, dk1 X, dk2 0 X, dk3 X,
 Ob.cells
 [AV.ptr 2 0, .int .i64 g, .int .i64 a, .int .i64 f,
 .int .i64 0, .int .i64 (leastI true o.nextV f)]]
 []))
 none) := by kernel_rfl
theorem open_go0 (F m : Nat) (X : Dk) (g a f p s n : Int) (K : Cont) :
 (loopRun (f15_l1.run F) [5, 8, 9] K m.succ (Env.mk 89 [(5, .ptr 4 0), (8, .nilsl), (9, .int .i64 n)]) ⟨[dk0 X, dk1 X, dk2 0 X, dk3 X, .cells [.ptr 2 0, .int .i64 g, .int .i64 a, .int .i64 f, .int .i64 p, .int .i64 s]], []⟩ : Ans) =
 onSome (dkG 0 (dk0 X) (dk1 X) (dk2 0 X) (dk3 X)) none fun (o : Dk) =>
 onSome
 (lgG [.int .i64 g, .int .i64 a, .int .i64 f, .int .i64 p, .int .i64 s])
 none fun (o_1 : Lg) =>
 branch (.bool (true && (decide ((0 : Int) ≤ n) && cdec (POk o o_1))))
 (branch (.bool !rdOk o o_1 n)
 (K AX.ret
 (Env.mk 89
 [(2, AV.ptr 4 0), (3, AV.nilsl), (4, .int .i64 0)])
 (St.mk
 [dk0 X, dk1 X, dk2 0 X, dk3 X,
 Ob.cells
 [AV.ptr 2 0, .int .i64 g, .int .i64 a, .int .i64 f,
 .int .i64 p, .int .i64 s]]
 []))
 (branch
 (AV.bool
 (true &&
 decide
 ((0 : Int) ≤ opq (↑(rdBy o o_1 n).length : Int) ∧
 opq (↑(rdBy o o_1 n).length : Int) < 1000000000)))
 (loopRun (f15_l1.run F) [5, 8, 9] K m
 (Env.mk 89
 [(5, AV.ptr 4 0),
 (8, AV.lg 0 1 [[AV.ns (!rdOk o o_1 n) 1 (rdBy o o_1 n)]]),
 (9, .int .i64 (IntKind.i64.wrap (rdLast o o_1 n + 1)))])
 (St.mk
 [dk0 X, dk1 X, dk2 0 X, dk3 X,
 Ob.cells
 [AV.ptr 2 0, .int .i64 g, .int .i64 a, .int .i64 f,
 .int .i64 (IntKind.i64.wrap (p + piecesV (opq (↑(rdBy o o_1 n).length : Int)))),
 .int .i64 s]]
 [(1, 1)]))
 none))
 none := by kernel_rfl
theorem open_go (F m : Nat) (X : Dk) (g a f p s n : Int) (l : List (List AV)) (K : Cont) :
 (loopRun (f15_l1.run F) [5, 8, 9] K m.succ (Env.mk 89 [(5, .ptr 4 0), (8, .lg 0 1 l), (9, .int .i64 n)]) ⟨[dk0 X, dk1 X, dk2 0 X, dk3 X, .cells [.ptr 2 0, .int .i64 g, .int .i64 a, .int .i64 f, .int .i64 p, .int .i64 s]], [(1, l.length)]⟩ : Ans) =
 onSome (dkG 0 (dk0 X) (dk1 X) (dk2 0 X) (dk3 X)) none fun (o : Dk) =>
 onSome
 (lgG [.int .i64 g, .int .i64 a, .int .i64 f, .int .i64 p, .int .i64 s])
 none fun (o_1 : Lg) =>
 branch (.bool (true && (decide ((0 : Int) ≤ n) && cdec (POk o o_1))))
 (branch (.bool !rdOk o o_1 n)
 (K AX.ret
 (Env.mk 89
 [(2, AV.ptr 4 0), (3, AV.lg 0 1 l),
 (4, .int .i64 0)])
 (St.mk
 [dk0 X, dk1 X, dk2 0 X, dk3 X,
 Ob.cells
 [AV.ptr 2 0, .int .i64 g, .int .i64 a, .int .i64 f,
 .int .i64 p, .int .i64 s]]
 [(1, l.length)]))
 (if
 some (1, l.length) = some (1, l.length) ∧
 (l.length + 1) * 24 ≤ 140737488355328 then
 branch
 (AV.bool
 (true &&
 decide
 ((0 : Int) ≤ opq (↑(rdBy o o_1 n).length : Int) ∧
 opq (↑(rdBy o o_1 n).length : Int) < 1000000000)))
 (loopRun (f15_l1.run F) [5, 8, 9] K m
 (Env.mk 89
 [(5, AV.ptr 4 0),
 (8, AV.lg 0 1 (l ++ [[AV.ns (!rdOk o o_1 n) 1 (rdBy o o_1 n)]])),
 (9, .int .i64 (IntKind.i64.wrap (rdLast o o_1 n + 1)))])
 (St.mk
 [dk0 X, dk1 X, dk2 0 X, dk3 X,
 Ob.cells
 [AV.ptr 2 0, .int .i64 g, .int .i64 a, .int .i64 f,
 .int .i64 (IntKind.i64.wrap (p + piecesV (opq (↑(rdBy o o_1 n).length : Int)))),
 .int .i64 s]]
 [(1, l.length + 1)]))
 none
 else none))
 none := by kernel_rfl
def Dk.newest (X : Dk) : Hd :=
 let h0 := headD (X.sector 0) 0
 let m : Hd := if 0 < h0.g then h0 else ⟨0, 0, 0⟩
 let h1 := headD (X.sector 1) 1
 if m.g < h1.g then h1 else m
def opE (X : Dk) : Nat := if X.n < 10 then 41 else if X.newest.g = 0 then 42 else 0
def opL0 (X : Dk) : Lg := ⟨X.newest.g, X.newest.a, X.newest.f, 0, max X.next X.newest.f⟩
def Dk.recs (X : Dk) (L : Lg) : Nat → Nat → List (List Nat) × Nat
 | 0, _ => ([], L.p)
 | m + 1, f => match X.recT L f with
  | none => ([], L.p)
  | some r => (r.1 :: (X.recs { L with p := L.p + piecesN r.1.length } m (r.2 + 1)).1, (X.recs { L with p := L.p + piecesN r.1.length } m (r.2 + 1)).2)
def Dk.opR (X : Dk) : List (List Nat) := (X.recs (opL0 X) X.half X.newest.f).1
def opL (X : Dk) : Lg := { opL0 X with p := (X.recs (opL0 X) X.half X.newest.f).2 }
theorem recT_spec {X : Dk} (h : X.Ok) {L : Lg} (ha : L.a < 2) (hp : L.p ≤ X.half) {f : Nat} {r : List Nat × Nat} (e : X.recT L f = some r) :
  r.1 = ((r.1 : List Nat)) ∧ r.1.length ≤ 4096 ∧ L.p + piecesN r.1.length ≤ X.half ∧ (∀ x ∈ r.1, x < 256) ∧ r.2 < 2147483648 + 100 ∧ f ≤ r.2 := by
 have hh : X.half = (X.n - 2) / 2 := rfl
 rw [Dk.recT] at e
 split at e
 ·cases e
 ·rename_i hpe
  simp only at e
  split at e
  ·cases e
  ·rename_i hc
   have hs := stampB_lt (X.sector (placeN X L.a L.p))
   generalize stampB (X.sector (placeN X L.a L.p)) = s at *
   generalize sizeB (X.sector (placeN X L.a L.p)) = z at *
   have hpz : piecesN z = (z + 57) / 56 := rfl
   cases hg : X.recGo (placeN X L.a L.p) s (piecesN z) with
   | none => rw [hg] at e; cases e
   | some d =>
    rw [hg] at e
    simp only [Option.map_some, Option.some.injEq] at e
    subst e
    have hlt := place_lt (X := X) (a := L.a) (p := L.p + (piecesN z - 1)) ha (by omega)
    obtain ⟨d1, d2⟩ := recGo_len h _ _ _ _ (by unfold placeN at hlt ⊢; omega) hg
    have hl : (List.drop 2 (List.take (2 + z) d)).length = z := by rw [List.length_drop, List.length_take, d1]; omega
    refine ⟨rfl, ?_, ?_, ?_, ?_, ?_⟩
    ·show (List.drop 2 (List.take (2 + z) d)).length ≤ _; rw [hl]; omega
    ·show L.p + piecesN (List.drop 2 (List.take (2 + z) d)).length ≤ _; rw [hl]; omega
    ·exact fun x hx => d2 x (List.mem_of_mem_take (List.mem_of_mem_drop hx))
    ·show s + piecesN z - 1 < _; omega
    ·show f ≤ s + piecesN z - 1; omega
theorem pieces_pos (n : Nat) : 1 ≤ piecesN n := by unfold piecesN; omega
theorem recs_ok {X : Dk} (h : X.Ok) : ∀ (d : Nat) (L : Lg) (f : Nat), L.a < 2 → L.p ≤ X.half → (X.recs L d f).1.length ≤ d ∧ ∀ r ∈ (X.recs L d f).1, r.length ≤ 4096 ∧ ∀ x ∈ r, x < 256
 | 0, L, f, _, hp => ⟨by simp [Dk.recs], fun r hr => by simp [Dk.recs] at hr⟩
 | d + 1, L, f, ha, hp => by
  rw [Dk.recs]
  cases hT : X.recT L f with
  | none => exact ⟨by simp, fun r hr => by simp at hr⟩
  | some r =>
   obtain ⟨_, h2, h3, h4, _⟩ := recT_spec h ha hp hT
   obtain ⟨k1, k2⟩ := recs_ok h d { L with p := L.p + piecesN r.1.length } (r.2 + 1) ha h3
   refine ⟨by simp only [List.length_cons]; omega, fun q hq => ?_⟩
   rcases List.mem_cons.mp hq with rfl | hq
   ·exact ⟨h2, h4⟩
   ·exact k2 q hq
def bsB (rs : List (List Nat)) : List (List AV) := rs.map fun r => [.ns false 1 (bR r)]
theorem bsB_length (rs : List (List Nat)) : (bsB rs).length = rs.length := by simp [bsB]
theorem bsB_append (a b : List (List Nat)) : bsB (a ++ b) = bsB a ++ bsB b := by simp [bsB]
theorem bsR_bsB (rs : List (List Nat)) : bsR (bsB rs) = rs := by
 simp only [bsR, bsB, List.map_map]
 conv => rhs; rw [← List.map_id rs]
 refine List.map_congr_left fun r _ => ?_
 show nR (bR r) = r
 exact nR_bR r
theorem okBs_bsB {rs : List (List Nat)} (h : ∀ r ∈ rs, r.length ≤ 4096 ∧ ∀ x ∈ r, x < 256) (hl : rs.length < 4611686018427387904) : okBs (bsB rs) = true := by
 rw [okBs_iff]
 refine ⟨fun r hr => ?_, by rw [bsB_length]; exact hl⟩
 simp only [bsB, List.mem_map] at hr
 obtain ⟨x, hx, rfl⟩ := hr
 show (Nat.beq 1 1 && byOk (bR x)) = true
 rw [byOk_bR (h x hx).2 (by have := (h x hx).1; omega)]; rfl
theorem rd_none {X : Dk} {L : Lg} {f : Nat} (e : X.recT L f = none) : rdOk X L (f : Int) = false := by rw [rdOk, opq_eq, Int.toNat_natCast, e]; rfl
theorem rd_some {X : Dk} {L : Lg} {f : Nat} {r : List Nat × Nat} (e : X.recT L f = some r) : rdOk X L (f : Int) = true ∧ rdBy X L (f : Int) = bR r.1 ∧ rdLast X L (f : Int) = (r.2 : Int) := by
 refine ⟨by rw [rdOk, opq_eq, Int.toNat_natCast, e]; rfl, by rw [rdBy, opq_eq, Int.toNat_natCast, e]; rfl, by rw [rdLast, opq_eq, Int.toNat_natCast, e]; rfl⟩
theorem open_loop (F : Nat) {X : Dk} (h : X.Ok) (hw : X.ws.length < 900000) (h2 : 2 ≤ X.n) (K : Cont) : ∀ (d m : Nat) (L : Lg) (f : Nat) (acc : List (List Nat)), L.a < 2 → L.p ≤ X.half → X.half - L.p ≤ d → d < m → acc.length + d < 1000000 → f < 4294967296 →
  loopRun (f15_l1.run F) [5, 8, 9] K m (Env.mk 89 [(5, .ptr 4 0), (8, .lg 0 1 (bsB acc)), (9, .int .i64 (f : Int))]) (recSt X L [(1, (bsB acc).length)])
   = K AX.ret (Env.mk 89 [(2, .ptr 4 0), (3, .lg 0 1 (bsB (acc ++ (X.recs L d f).1))), (4, .int .i64 0)]) (recSt X { L with p := (X.recs L d f).2 } [(1, (bsB (acc ++ (X.recs L d f).1)).length)])
 | d, 0, L, f, acc, _, _, _, hm, _, _ => by omega
 | 0, m + 1, L, f, acc, ha, hp, hd, hm, hacc, hf => by
  have hpe : L.p = X.half := by omega
  have hT : X.recT L f = none := by rw [Dk.recT, if_pos hpe]
  rw [show m + 1 = m.succ from rfl]
  refine (open_go F m X (L.g : Int) (L.a : Int) (L.f : Int) (L.p : Int) (L.s : Int) (f : Int) (bsB acc) K).trans ?_
  rw [gD h (by omega), onSome_some, lgG_cs, onSome_some, branch_of (by simp only [Bool.true_and, Bool.and_eq_true, decide_eq_true_eq, cdec_iff]; exact ⟨by omega, h2, ha, hp, hw⟩), rd_none hT, branch_of (show (!false) = true from rfl), Dk.recs, List.append_nil]
  rfl
 | d + 1, m + 1, L, f, acc, ha, hp, hd, hm, hacc, hf => by
  have hn1 := h.n1
  have hh : X.half = (X.n - 2) / 2 := rfl
  have key := open_go F m X (L.g : Int) (L.a : Int) (L.f : Int) (L.p : Int) (L.s : Int) (f : Int) (bsB acc) K
  rw [gD h (by omega), onSome_some, lgG_cs, onSome_some, branch_of (by simp only [Bool.true_and, Bool.and_eq_true, decide_eq_true_eq, cdec_iff]; exact ⟨by omega, h2, ha, hp, hw⟩)] at key
  cases hT : X.recT L f with
  | none =>
   refine key.trans ?_
   rw [rd_none hT, branch_of (show (!false) = true from rfl), Dk.recs, hT, List.append_nil]
   rfl
  | some r =>
   obtain ⟨_, r2, r3, r4, r5, _⟩ := recT_spec h ha hp hT
   obtain ⟨q1, q2, q3⟩ := rd_some hT
   have hpp := pieces_pos r.1.length
   have ih := open_loop F h hw h2 K d m { L with p := L.p + piecesN r.1.length } (r.2 + 1) (acc ++ [r.1]) ha r3 (by simp only; omega) (by omega) (by simp; omega) (by omega)
   refine key.trans ?_
   have ep : piecesV ((r.1.length : Nat) : Int) = ((piecesN r.1.length : Nat) : Int) := by rw [piecesV, opq_eq, Int.toNat_natCast]
   rw [q1, q2, q3, branch_not (show (!true) = false from rfl), if_pos ⟨rfl, by rw [bsB_length]; omega⟩, opq_eq, bR_length, branch_of (by rw [Bool.true_and]; exact decide_eq_true (by omega)), ep, wrap_succ (by omega), show (L.p : Int) + ((piecesN r.1.length : Nat) : Int) = ((L.p + piecesN r.1.length : Nat) : Int) by omega, wrap_nat (by omega)]
   have e1 : bsB acc ++ [[AV.ns (!true) 1 (bR r.1)]] = bsB (acc ++ [r.1]) := by rw [bsB_append]; rfl
   have e2 : (bsB acc).length + 1 = (bsB (acc ++ [r.1])).length := by rw [← e1]; simp
   rw [e1, e2]
   refine Eq.trans ih ?_
   rw [Dk.recs, hT, List.append_assoc]; rfl
theorem open_loop0 (F : Nat) {X : Dk} (h : X.Ok) (hw : X.ws.length < 900000) (h2 : 2 ≤ X.n) (K : Cont) (d m : Nat) (L : Lg) (f : Nat) (ha : L.a < 2) (hp : L.p ≤ X.half) (hd : X.half - L.p ≤ d) (hm : d < m) (hd' : d < 500000) (hf : f < 4294967296) : ∃ v tk, ((v = .lg 0 1 (bsB (X.recs L d f).1) ∧ (X.recs L d f).1 ≠ []) ∨ (v = .nilsl ∧ (X.recs L d f).1 = [])) ∧
  loopRun (f15_l1.run F) [5, 8, 9] K m (Env.mk 89 [(5, .ptr 4 0), (8, .nilsl), (9, .int .i64 (f : Int))]) (recSt X L [])
   = K AX.ret (Env.mk 89 [(2, .ptr 4 0), (3, v), (4, .int .i64 0)]) (recSt X { L with p := (X.recs L d f).2 } tk) := by
 have hn1 := h.n1
 have hh : X.half = (X.n - 2) / 2 := rfl
 obtain ⟨m, rfl⟩ : ∃ k, m = k + 1 := ⟨m - 1, by omega⟩
 have key := open_go0 F m X (L.g : Int) (L.a : Int) (L.f : Int) (L.p : Int) (L.s : Int) (f : Int) K
 rw [gD h (by omega), onSome_some, lgG_cs, onSome_some, branch_of (by simp only [Bool.true_and, Bool.and_eq_true, decide_eq_true_eq, cdec_iff]; exact ⟨by omega, h2, ha, hp, hw⟩)] at key
 cases hT : X.recT L f with
 | none =>
  have e : X.recs L d f = ([], L.p) := by
   cases d with
   | zero => rfl
   | succ d => rw [Dk.recs, hT]
  refine ⟨.nilsl, [], .inr ⟨rfl, by rw [e]⟩, key.trans ?_⟩
  rw [rd_none hT, branch_of (show (!false) = true from rfl), e]; rfl
 | some r =>
  obtain ⟨_, r2, r3, r4, r5, _⟩ := recT_spec h ha hp hT
  obtain ⟨q1, q2, q3⟩ := rd_some hT
  have hpp := pieces_pos r.1.length
  obtain ⟨d, rfl⟩ : ∃ k, d = k + 1 := ⟨d - 1, by omega⟩
  have ih := open_loop F h hw h2 K d m { L with p := L.p + piecesN r.1.length } (r.2 + 1) [r.1] ha r3 (by simp only; omega) (by omega) (by simp; omega) (by omega)
  refine ⟨_, [(1, (bsB ([r.1] ++ (X.recs { L with p := L.p + piecesN r.1.length } d (r.2 + 1)).1)).length)], .inl ⟨rfl, by rw [Dk.recs, hT]; simp⟩, key.trans ?_⟩
  have ep : piecesV ((r.1.length : Nat) : Int) = ((piecesN r.1.length : Nat) : Int) := by rw [piecesV, opq_eq, Int.toNat_natCast]
  rw [q1, q2, q3, branch_not (show (!true) = false from rfl), opq_eq, bR_length, branch_of (by rw [Bool.true_and]; exact decide_eq_true (by omega)), ep, wrap_succ (by omega), show (L.p : Int) + ((piecesN r.1.length : Nat) : Int) = ((L.p + piecesN r.1.length : Nat) : Int) by omega, wrap_nat (by omega)]
  refine Eq.trans ih ?_
  rw [Dk.recs, hT]; rfl
theorem hd_b (b : List Nat) (s : Nat) : hdgV (bR b) (s : Int) = ((headD b s).g : Int) ∧ hdaV (bR b) (s : Int) = ((headD b s).a : Int) ∧ hdfV (bR b) (s : Int) = ((headD b s).f : Int) := by
 refine ⟨by rw [hdgV, opq_eq, nR_bR, Int.toNat_natCast], by rw [hdaV, opq_eq, nR_bR, Int.toNat_natCast], by rw [hdfV, opq_eq, nR_bR, Int.toNat_natCast]⟩
noncomputable def hdSt (X : Dk) (m : Hd) : St := ⟨[dk0 X, dk1 X, dk2 0 X, dk3 X, .cells [.ptr 2 0, .int .i64 (m.g : Int), .int .i64 (m.a : Int), .int .i64 (m.f : Int), .int .i64 0, .int .i64 0]], []⟩
def hdMax (m h : Hd) : Hd := if m.g < h.g then h else m
theorem newest_eq (X : Dk) : X.newest = hdMax (hdMax ⟨0, 0, 0⟩ (headD (X.sector 0) 0)) (headD (X.sector 1) 1) := by
 rfl
theorem open_r0 (F m : Nat) {X : Dk} (h : X.Ok) (hw : X.ws.length < 900000) (hn : 2 ≤ X.n) (h0 : Hd) (K : Cont) : loopRun (f15_l0.run F) [0, 5, 19] K m.succ (Env.mk 89 [(0, .ptr 2 0), (5, .ptr 4 0), (19, .int .i64 0)]) (hdSt X h0) = loopRun (f15_l0.run F) [0, 5, 19] K m (Env.mk 89 [(0, .ptr 2 0), (5, .ptr 4 0), (19, .int .i64 1)]) (hdSt X (hdMax h0 (headD (X.sector 0) 0))) := by
 obtain ⟨b1, b2, b3⟩ := sector_b h (i := 0) (by omega)
 have r2 : X.rdB (0 : Int) = X.sector 0 := (rd_sector X (i := 0) (by omega)).2
 obtain ⟨e1, e2, e3⟩ : hdgV (bR (X.sector 0)) (0 : Int) = ((headD (X.sector 0) 0).g : Int) ∧ hdaV (bR (X.sector 0)) (0 : Int) = ((headD (X.sector 0) 0).a : Int) ∧ hdfV (bR (X.sector 0)) (0 : Int) = ((headD (X.sector 0) 0).f : Int) := hd_b _ 0
 refine (open_round0 F m X (h0.g : Int) (h0.a : Int) (h0.f : Int) K).trans ?_
 rw [gD h (by omega), onSome_some, r2, branch_of (by rw [b1, b2]; rfl), e1, e2, e3, hdMax]
 by_cases hc : h0.g < (headD (X.sector 0) 0).g
 ·rw [branch_of (decide_eq_true (by omega)), if_pos hc]; rfl
 ·rw [branch_not (decide_eq_false (by omega)), if_neg hc]; rfl
theorem open_r1 (F m : Nat) {X : Dk} (h : X.Ok) (hw : X.ws.length < 900000) (hn : 2 ≤ X.n) (h0 : Hd) (K : Cont) : loopRun (f15_l0.run F) [0, 5, 19] K m.succ (Env.mk 89 [(0, .ptr 2 0), (5, .ptr 4 0), (19, .int .i64 1)]) (hdSt X h0) = loopRun (f15_l0.run F) [0, 5, 19] K m (Env.mk 89 [(0, .ptr 2 0), (5, .ptr 4 0), (19, .int .i64 2)]) (hdSt X (hdMax h0 (headD (X.sector 1) 1))) := by
 obtain ⟨b1, b2, b3⟩ := sector_b h (i := 1) (by omega)
 have r2 : X.rdB (1 : Int) = X.sector 1 := (rd_sector X (i := 1) (by omega)).2
 obtain ⟨e1, e2, e3⟩ : hdgV (bR (X.sector 1)) (1 : Int) = ((headD (X.sector 1) 1).g : Int) ∧ hdaV (bR (X.sector 1)) (1 : Int) = ((headD (X.sector 1) 1).a : Int) ∧ hdfV (bR (X.sector 1)) (1 : Int) = ((headD (X.sector 1) 1).f : Int) := hd_b _ 1
 refine (open_round1 F m X (h0.g : Int) (h0.a : Int) (h0.f : Int) K).trans ?_
 rw [gD h (by omega), onSome_some, r2, branch_of (by rw [b1, b2]; rfl), e1, e2, e3, hdMax]
 by_cases hc : h0.g < (headD (X.sector 1) 1).g
 ·rw [branch_of (decide_eq_true (by omega)), if_pos hc]; rfl
 ·rw [branch_not (decide_eq_false (by omega)), if_neg hc]; rfl
theorem headD_ok {b : List Nat} (hb : ∀ x ∈ b, x < 256) (s : Nat) : (headD b s).a < 2 ∧ (headD b s).f < 4294967296 ∧ (headD b s).g < 2147483648 := by
 unfold headD
 split
 ·exact ⟨by decide, by decide, by decide⟩
 ·rename_i hc
  exact ⟨by show b.getD 4 0 < 2; omega, numB_lt hb _, stampB_lt b⟩
theorem newest_ok {X : Dk} (h : X.Ok) (hn : 2 ≤ X.n) : X.newest.a < 2 ∧ X.newest.f < 4294967296 ∧ X.newest.g < 2147483648 := by
 have h0 := headD_ok (h.sector_len (k := 0) (by omega)).2 0
 have h1 := headD_ok (h.sector_len (k := 1) (by omega)).2 1
 rw [newest_eq]
 have : ∀ (a b : Hd), (a.a < 2 ∧ a.f < 4294967296 ∧ a.g < 2147483648) → (b.a < 2 ∧ b.f < 4294967296 ∧ b.g < 2147483648) → ((hdMax a b).a < 2 ∧ (hdMax a b).f < 4294967296 ∧ (hdMax a b).g < 2147483648) := by
  intro a b ha hb
  unfold hdMax; split <;> assumption
 exact this _ _ (this _ _ ⟨by decide, by decide, by decide⟩ h0) h1
theorem open_can {X : Dk} (h : X.Ok) (hw : X.ws.length < 900000) :
  (opE X = 0 ∧ ∃ v tk, ((v = .lg 0 1 (bsB X.opR) ∧ X.opR ≠ []) ∨ (v = .nilsl ∧ X.opR = [])) ∧ f15.run 100000 [.ptr 2 0] ⟨X.obs, []⟩ = some (.ret (.tup [.ptr 4 0, v, .int .i64 0]), ⟨X.obs ++ [lgC (opL X)], tk⟩)) ∨
  (opE X ≠ 0 ∧ ∃ xs, f15.run 100000 [.ptr 2 0] ⟨X.obs, []⟩ = some (.ret (.tup [.nilptr, .nilsl, .int .i64 ((opE X : Nat) : Int)]), ⟨X.obs ++ xs, []⟩)) := by
 have hn1 := h.n1
 have hh : X.half = (X.n - 2) / 2 := rfl
 rw [dk_obs h]
 have key := open_run 100000 X
 rw [gD h (by omega), onSome_some] at key
 by_cases h1 : X.n < 10
 ·have e : opE X = 41 := if_pos h1
  refine .inr ⟨by omega, [], key.trans ?_⟩
  rw [branch_of (decide_eq_true (by omega)), e]; rfl
 ·rw [branch_not (decide_eq_false (by omega))] at key
  obtain ⟨m1, m2, m3⟩ := newest_ok h (by omega)
  have k2 := open_out 100000 X (X.newest.g : Int) (X.newest.a : Int) (X.newest.f : Int) (f15.leaveK Fun.done)
  have run : ∀ K : Cont, loopRun (f15_l0.run 100000) [0, 5, 19] K 100000 (Env.mk 89 [(0, .ptr 2 0), (5, .ptr 4 0), (19, .int .i64 0)]) (hdSt X ⟨0, 0, 0⟩) = K (AX.exit 0) (Env.mk 89 [(0, .ptr 2 0), (5, .ptr 4 0)]) (hdSt X X.newest) := by
   intro K
   rw [show (100000 : Nat) = (99999 : Nat).succ from rfl, open_r0 _ 99999 h hw (by omega), show (99999 : Nat) = (99998 : Nat).succ from rfl, open_r1 _ 99998 h hw (by omega), ← newest_eq, show (99998 : Nat) = (99997 : Nat).succ from rfl]
   exact open_round2 _ 99997 X _ _ _ K
  have key := key.trans (run _)
  rw [show (Cont.block 0 (Cont.then (f15_r0.run 100000 (f15.leaveK Fun.done)) (f15.leaveK Fun.done))) (AX.exit 0) (Env.mk 89 [(0, .ptr 2 0), (5, .ptr 4 0)]) (hdSt X X.newest) = f15_r0.run 100000 (f15.leaveK Fun.done) (Env.mk 89 [(0, .ptr 2 0), (5, .ptr 4 0)]) (hdSt X X.newest) from rfl] at key
  have key := key.trans k2
  by_cases h2 : X.newest.g = 0
  ·have e : opE X = 42 := by rw [opE, if_neg h1, if_pos h2]
   refine .inr ⟨by omega, [.cells [.ptr 2 0, .int .i64 (X.newest.g : Int), .int .i64 (X.newest.a : Int), .int .i64 (X.newest.f : Int), .int .i64 0, .int .i64 0]], key.trans ?_⟩
   rw [branch_of (by simp; omega), e]; rfl
  ·have e : opE X = 0 := by rw [opE, if_neg h1, if_neg h2]
   refine .inl ⟨e, ?_⟩
   rw [branch_not (by simp; omega), gD h (by omega), onSome_some, branch_of (decide_eq_true (by omega)), Dk.nextV, opq_eq, lead_max] at key
   obtain ⟨v, tk, hv, hl⟩ := open_loop0 100000 h hw (by omega) (Cont.block 2 (f15.leaveK Fun.done)) X.half 100000 (opL0 X) X.newest.f m1 (Nat.zero_le _) (by omega) (by omega) (by omega) m2
   refine ⟨v, tk, hv, key.trans (Eq.trans hl ?_)⟩
   rfl
noncomputable def opB (X : Dk) : Bool := opq (opE X == 0)
noncomputable def opEO (X : Dk) : Int := opq ((opE X : Nat) : Int)
noncomputable def opLO (X : Dk) : Lg := opq (opL X)
noncomputable def opZ (X : Dk) : Bool := opq X.opR.isEmpty
noncomputable def opRO (X : Dk) : List (List AV) := opq (bsB X.opR)
theorem opO_eq (X : Dk) : opB X = (opE X == 0) ∧ opEO X = ((opE X : Nat) : Int) ∧ opLO X = opL X ∧ opZ X = X.opR.isEmpty ∧ opRO X = bsB X.opR := ⟨opq_eq _, opq_eq _, opq_eq _, opq_eq _, opq_eq _⟩
theorem bsB_scoped {n m : Nat} : ∀ rs : List (List Nat), ScopedR n m (bsB rs)
 | [] => trivial
 | r :: rs => ⟨⟨bR_scoped r, trivial⟩, bsB_scoped rs⟩
noncomputable def s15 : OrcS Try.prog := f15.by'
 (fun args st k => match args with
  | [x] => onD x st fun i X => ifT (cdec (X.ws.length < 900000)) (match opB X with
   | true => k (.ret (.tup [.ptr st.objs.length 0, .ns (opZ X) 1 (opRO X), .int .i64 0])) (addL st i (opLO X))
   | false => k (.ret (.tup [.nilptr, .nilsl, .int .i64 (opEO X)])) st)
  | _ => none)
 fun args st k fin h => by
  split at h
  ·rename_i x
   obtain ⟨i, a, b, c, d, X, rfl, h0, h1, h2, h3, hd, g901⟩ := onD_spec h
   obtain ⟨hk, g903⟩ := ifT_spec g901
   rw [cdec_iff] at hk
   obtain ⟨e1, e2, e3, e4, e5⟩ := opO_eq X
   rw [e1, e2, e3, e4, e5] at g903
   rcases open_can hd.1 hk with ⟨e, v, tk, hv, hrun⟩ | ⟨e, xs, hrun⟩
   ·rw [show (opE X == 0) = true by simp [e]] at g903
    have hsc : Near 5 (frz (.tup [.ptr 4 0, v, .int .i64 0])) := by
     refine ⟨by show 4 < 5; omega, ?_, trivial, trivial⟩
     rcases hv with ⟨rfl, _⟩ | ⟨rfl, _⟩
     ·exact bsB_scoped _
     ·trivial
    have := lg_new (f := f15) (F := 100000) (r := .tup [.ptr 4 0, v, .int .i64 0]) (args0 := [.ptr 2 0]) (xs := []) hrun hd.1 ⟨by show 2 < 4; omega, trivial⟩ hsc hd h0 h1 h2 h3
    rw [same_plD hd h0 h1 h2 h3] at this
    refine ⟨_, _, g903, ?_⟩
    have n5 : nx (rho i) 4 st.objs.length 4 = st.objs.length := by rw [nx, if_neg (by omega)]; omega
    rcases hv with ⟨rfl, hz⟩ | ⟨rfl, hnil⟩
    ·have e9 : ren (nx (rho i) 4 st.objs.length) (frz (.tup [.ptr 4 0, .lg 0 1 (bsB X.opR), .int .i64 0])) = .tup [.ptr st.objs.length 0, .sl 1 false (bsB X.opR), .int .i64 0] := by
      show AV.tup [.ptr (nx (rho i) 4 st.objs.length 4) 0, .sl 1 false (bsB X.opR), .int .i64 0] = _
      rw [n5]
     rw [e9] at this
     refine calls_wkR this fun g w v ⟨vs, e, v1, r901, q901, q902, v2, r902, q903, q904, q905⟩ => ⟨vs, e, v1, r901, q901, q902, v2, r902, q903, ?_, q905⟩
     obtain ⟨b', o, sp, cap, p901, p902, _, p903, p904⟩ := q904
     exact .inr ⟨by cases hq : X.opR <;> simp_all, b', o, sp, cap, p901, p902, p903, p904⟩
    ·have e9 : ren (nx (rho i) 4 st.objs.length) (frz (.tup [.ptr 4 0, .nilsl, .int .i64 0])) = .tup [.ptr st.objs.length 0, .nilsl, .int .i64 0] := by
      show AV.tup [.ptr (nx (rho i) 4 st.objs.length 4) 0, .nilsl, .int .i64 0] = _
      rw [n5]
     rw [e9] at this
     rw [hnil]
     exact calls_wkR this fun g w v ⟨vs, e, v1, r901, q901, q902, v2, r902, q903, q904, q905⟩ => ⟨vs, e, v1, r901, q901, q902, v2, r902, q903, .inl ⟨rfl, rfl, q904⟩, q905⟩
   ·rw [show (opE X == 0) = false by simp [e]] at g903
    have := dk_placed (f := f15) (F := 100000) (r := .tup [.nilptr, .nilsl, .int .i64 ((opE X : Nat) : Int)]) (args0 := [.ptr 2 0]) hrun hd.1 ⟨by show 2 < 4; omega, trivial⟩ ⟨trivial, trivial, trivial, trivial⟩ hd h0 h1 h2 h3
    rw [same_plD hd h0 h1 h2 h3] at this
    exact ⟨_, _, g903, this⟩
  ·cases h
theorem newst_run (F : Nat) (n : Int) (st : St) :
 (f10.run F [.int .i64 n] st : Ans) =
 branch (.bool (byOk [] && true))
 (branch (.bool (decide ((1 : Int) ≤ n) && decide (n ≤ 65536)))
 (some
 (Fin.ret (AV.tup [AV.ptr (st.1.length + 2) 0, .int .i64 0]),
 St.mk
 (st.1 ++
 [dk0 (Dk.new n.toNat []), dk1 (Dk.new n.toNat []), dk2 st.1.length (Dk.new n.toNat []),
 dk3 (Dk.new n.toNat [])])
 st.2))
 (some (Fin.ret (AV.tup [AV.nilptr, .int .i64 41]), st)))
 none := by kernel_rfl
noncomputable def newO (n : Int) : Dk := opq (Dk.new n.toNat [])
theorem newO_eq (n : Nat) : newO (n : Int) = Dk.new n [] := by rw [newO, opq_eq]; rfl
noncomputable def s10 : OrcS Try.prog := f10.by'
 (fun args st k => match args with
  | [x] => onInt x fun kd n => ifT (decide (kd = .i64)) (match decide (1 ≤ n) && decide (n ≤ 65536) with
   | true => k (.ret (.tup [.ptr (st.objs.length + 2) 0, .int .i64 0])) (addD st (newO n))
   | false => k (.ret (.tup [.nilptr, .int .i64 41])) st)
  | _ => none)
 fun args st k fin h => by
  split at h
  ·rename_i x
   obtain ⟨kd, n, g902, rfl⟩ := onInt_spec h
   obtain ⟨hk, g903⟩ := ifT_spec g902
   obtain rfl := of_decide_eq_true hk
   have key := newst_run 10 n st
   rw [branch_of (by rw [Bool.and_true]; exact byOk_iff.mpr ⟨rfl, by decide⟩)] at key
   split at g903
   ·rename_i hc
    rw [branch_of hc] at key
    refine ⟨_, _, g903, ?_⟩
    rw [newO, opq_eq]
    exact f10.sound key
   ·rename_i hc
    rw [branch_not hc] at key
    exact ⟨_, _, g903, f10.sound key⟩
  ·cases h
noncomputable def Dk.crashO (X : Dk) (k t : Int) : Dk := opq (X.crash k t)
theorem crashO_eq (X : Dk) (k t : Int) : X.crashO k t = X.crash k t := opq_eq _
noncomputable def s14o : OrcS Try.prog := f14.by'
 (fun args st k => match args with
  | [x, n, y] => onD x st fun i X => onInt n fun kd n => onInt y fun kd' t => ifT (decide (kd = .i64) && decide (kd' = .i64)) (k (.ret (.tup [])) (plD st i (X.crashO n t)))
  | _ => none)
 fun args st k fin h => by
  have : s14.sem args st k = some fin := by
   rw [← h]
   show (match args with | [x, n, y] => _ | _ => _) = _
   split
   ·simp only [crashO_eq]
   ·rfl
  exact s14.sound k args st fin this
noncomputable def f8_b : Sim Try.prog :=
 (.seq (.live [] (.region 0 [
 ⟨(opAssign (some 0) (.const (Value.bool false)) 4 "law.go:21" #[]).op, none⟩
 ] (by kernel_rfl)))
 (.seq (.live [1, 2] (.region 1 [
 ⟨opCall (s10).orc (some 7) [(.const (Value.int IntKind.i64 20))] #[3] 27 "law.go:22" #[], none⟩,
 ⟨(opMove (some 6) (.tmp 7) 27 "law.go:22" #[eD 0]).op, none⟩,
 ⟨(opExtract (some 8) (.tmp 6) 0 25 "law.go:22" #[eD 1]).op, none⟩,
 ⟨(opExtract (some 9) (.tmp 6) 1 26 "law.go:22" #[eD 1, eX 4]).op, none⟩,
 ⟨(opAssign (some 1) (.tmp 8) 25 "law.go:22" #[eD 2, eC 0, eP 0, eP 1, eP 2, eT 3]).op, none⟩,
 ⟨(opAssign (some 2) (.tmp 9) 26 "law.go:22" #[eD 3, eC 4, eP 0, eP 1, eP 2, eP 3, eP 4]).op, none⟩
 ] (by kernel_rfl)))
 (.seq (.seq (.live [1, 15] (.region 2 [
 ⟨(opMove (some 10) (.tmp 2) 26 "law.go:23" #[]).op, none⟩,
 ⟨(opBin (some 11) .neq 26 (.tmp 10) (.const (Value.int IntKind.i64 0)) 26 4 "law.go:23" #[eD 0]).op, none⟩,
 ⟨(opMove (some 12) (.tmp 11) 4 "law.go:23" #[eD 1]).op, none⟩,
 ⟨(opMove (some 13) (.tmp 1) 25 "law.go:23" #[eG 2]).op, (some (2, 12, false))⟩,
 ⟨(opEq (some 14) 25 (.pointer 79) Try.underlying25 (.tmp 13) (.const (Value.pointer none)) (.inl rfl) 25 4 "law.go:23" #[eD 3, eG 2]).op, (some (2, 12, false))⟩,
 ⟨(opPick (some 15) (.tmp 12) (.const (Value.bool true)) (.tmp 14) 4 "law.go:23" #[eD 2, eD 4]).op, none⟩
 ] (by kernel_rfl)))
 (.cond (.tmp 15)
 (.seq (.live [0] (.region 3 [
 ⟨(opAssign (some 0) (.const (Value.bool false)) 4 "law.go:24" #[]).op, none⟩
 ] (by kernel_rfl)))
 (.live [0] .ret))
 .skip))
 (.seq (.live [1, 2, 3] (.region 4 [
 ⟨(opMove (some 17) (.tmp 1) 25 "law.go:26" #[]).op, none⟩,
 ⟨opCall (s11).orc (some 18) [(.tmp 17)] #[25] 30 "law.go:26" #[eD 0], none⟩,
 ⟨(opMove (some 16) (.tmp 18) 30 "law.go:26" #[eD 1]).op, none⟩,
 ⟨(opExtract (some 19) (.tmp 16) 0 29 "law.go:26" #[eD 2]).op, none⟩,
 ⟨(opExtract (some 20) (.tmp 16) 1 26 "law.go:26" #[eD 2, eX 5]).op, none⟩,
 ⟨(opAssign (some 3) (.tmp 19) 29 "law.go:26" #[eD 3, eC 1, eP 0, eP 1, eP 2, eP 3, eT 4]).op, none⟩,
 ⟨(opAssign (some 2) (.tmp 20) 26 "law.go:26" #[eD 4, eC 5, eP 0, eP 1, eP 2, eP 3, eP 4, eP 5]).op, none⟩
 ] (by kernel_rfl)))
 (.seq (.seq (.live [1, 3, 33] (.region 5 [
 ⟨(opMove (some 21) (.tmp 2) 26 "law.go:27" #[]).op, none⟩,
 ⟨(opBin (some 22) .neq 26 (.tmp 21) (.const (Value.int IntKind.i64 0)) 26 4 "law.go:27" #[eD 0]).op, none⟩,
 ⟨(opMove (some 23) (.tmp 22) 4 "law.go:27" #[eD 1]).op, none⟩,
 ⟨(opMove (some 24) (.tmp 3) 29 "law.go:27" #[eG 2]).op, (some (2, 23, false))⟩,
 ⟨(opEq (some 25) 29 (.pointer 71) Try.underlying29 (.tmp 24) (.const (Value.pointer none)) (.inl rfl) 29 4 "law.go:27" #[eD 3, eG 2]).op, (some (2, 23, false))⟩,
 ⟨(opPick (some 26) (.tmp 23) (.const (Value.bool true)) (.tmp 25) 4 "law.go:27" #[eD 2, eD 4]).op, none⟩,
 ⟨(opMove (some 27) (.tmp 26) 4 "law.go:27" #[eD 5, eC 2]).op, none⟩,
 ⟨(opMove (some 28) (.tmp 3) 29 "law.go:27" #[eG 6]).op, (some (6, 27, false))⟩,
 ⟨(opBuildSliceO (some 29) 33 2 [(0, (.const (Value.int IntKind.u8 97))), (1, (.const (Value.int IntKind.u8 98)))] 5 1 1 (.int .u8 0) el33 (by kernel_rfl) (by decide) 33 "law.go:27" #[eG 6]).op, (some (6, 27, false))⟩,
 ⟨(opConvSl (some 30) 33 (.tmp 29) 5 Try.underlying33 Try.underlying5 33 "law.go:27" #[eD 8, eG 6]).op, (some (6, 27, false))⟩,
 ⟨opCall (s12).orc (some 31) [(.tmp 28), (.tmp 30)] #[29, 33] 26 "law.go:27" #[eD 7, eD 9, eC 6, eG 6], (some (6, 27, false))⟩,
 ⟨(opBin (some 32) .neq 26 (.tmp 31) (.const (Value.int IntKind.i64 0)) 26 4 "law.go:27" #[eD 10, eG 6]).op, (some (6, 27, false))⟩,
 ⟨(opPick (some 33) (.tmp 27) (.const (Value.bool true)) (.tmp 32) 4 "law.go:27" #[eD 6, eD 11]).op, none⟩
 ] (by kernel_rfl)))
 (.cond (.tmp 33)
 (.seq (.live [0] (.region 6 [
 ⟨(opAssign (some 0) (.const (Value.bool false)) 4 "law.go:28" #[]).op, none⟩
 ] (by kernel_rfl)))
 (.live [0] .ret))
 .skip))
 (.seq (.live [1, 3] (.region 7 [
 ⟨(opMove (some 34) (.tmp 3) 29 "law.go:30" #[]).op, none⟩,
 ⟨opCall (s13).orc (some 35) [(.tmp 34)] #[29] 0 "law.go:30" #[eD 0], none⟩
 ] (by kernel_rfl)))
 (.seq (.seq (.live [1, 45] (.region 8 [
 ⟨(opMove (some 36) (.tmp 3) 29 "law.go:31" #[]).op, none⟩,
 ⟨(opBuildSliceO (some 37) 33 2 [(0, (.const (Value.int IntKind.u8 99))), (1, (.const (Value.int IntKind.u8 100)))] 5 1 1 (.int .u8 0) el33 (by kernel_rfl) (by decide) 33 "law.go:31" #[]).op, none⟩,
 ⟨(opConvSl (some 38) 33 (.tmp 37) 5 Try.underlying33 Try.underlying5 33 "law.go:31" #[eD 1]).op, none⟩,
 ⟨opCall (s12).orc (some 39) [(.tmp 36), (.tmp 38)] #[29, 33] 26 "law.go:31" #[eD 0, eD 2], none⟩,
 ⟨(opBin (some 40) .neq 26 (.tmp 39) (.const (Value.int IntKind.i64 0)) 26 4 "law.go:31" #[eD 3]).op, none⟩,
 ⟨(opMove (some 41) (.tmp 40) 4 "law.go:31" #[eD 4, eC 3]).op, none⟩,
 ⟨(opMove (some 42) (.tmp 3) 29 "law.go:31" #[eG 5]).op, (some (5, 41, false))⟩,
 ⟨(opCallQ q18 (some 43) [(.tmp 42)] #[29] 3 "law.go:31" #[eD 6, eC 5, eG 5]).op, (some (5, 41, false))⟩,
 ⟨(opBin (some 44) .neq 3 (.tmp 43) (.const (Value.int IntKind.i64 7)) 3 4 "law.go:31" #[eD 7, eG 5]).op, (some (5, 41, false))⟩,
 ⟨(opPick (some 45) (.tmp 41) (.const (Value.bool true)) (.tmp 44) 4 "law.go:31" #[eD 5, eD 8]).op, none⟩
 ] (by kernel_rfl)))
 (.cond (.tmp 45)
 (.seq (.live [0] (.region 9 [
 ⟨(opAssign (some 0) (.const (Value.bool false)) 4 "law.go:32" #[]).op, none⟩
 ] (by kernel_rfl)))
 (.live [0] .ret))
 .skip))
 (.seq (.live [1] (.region 10 [
 ⟨(opMove (some 46) (.tmp 1) 25 "law.go:34" #[]).op, none⟩,
 ⟨opCall (s14o).orc (some 47) [(.tmp 46), (.const (Value.int IntKind.i64 0)), (.const (Value.int IntKind.i64 60))] #[25, 3, 3] 0 "law.go:34" #[eD 0], none⟩
 ] (by kernel_rfl)))
 (.seq (.live [2, 5] (.region 11 [
 ⟨(opMove (some 49) (.tmp 1) 25 "law.go:35" #[]).op, none⟩,
 ⟨opCall (s15).orc (some 50) [(.tmp 49)] #[25] 35 "law.go:35" #[eD 0], none⟩,
 ⟨(opMove (some 48) (.tmp 50) 35 "law.go:35" #[eD 1]).op, none⟩,
 ⟨(opExtract (some 51) (.tmp 48) 0 29 "law.go:35" #[eD 2]).op, none⟩,
 ⟨(opExtract (some 52) (.tmp 48) 1 22 "law.go:35" #[eD 2, eX 6]).op, none⟩,
 ⟨(opExtract (some 53) (.tmp 48) 2 26 "law.go:35" #[eD 2, eX 7]).op, none⟩,
 ⟨(opAssign (some 4) (.tmp 51) 29 "law.go:35" #[eD 3, eC 1, eP 0, eP 1, eP 2, eP 3, eT 4, eT 5]).op, none⟩,
 ⟨(opAssign (some 5) (.tmp 52) 22 "law.go:35" #[eD 4, eC 6, eP 0, eP 1, eP 2, eP 3, eP 4, eT 5, eP 6]).op, none⟩,
 ⟨(opAssign (some 2) (.tmp 53) 26 "law.go:35" #[eD 5, eC 7, eP 0, eP 1, eP 2, eP 3, eP 4, eP 5, eP 6, eP 7]).op, none⟩
 ] (by kernel_rfl)))
 (.seq (.live [0] (.region 12 [
 ⟨(opMove (some 54) (.tmp 2) 26 "law.go:36" #[]).op, none⟩,
 ⟨(opBin (some 55) .eql 26 (.tmp 54) (.const (Value.int IntKind.i64 0)) 26 4 "law.go:36" #[eD 0]).op, none⟩,
 ⟨(opMove (some 56) (.tmp 55) 4 "law.go:36" #[eD 1]).op, none⟩,
 ⟨(opMove (some 57) (.tmp 5) 22 "law.go:36" #[eG 2]).op, (some (2, 56, true))⟩,
 ⟨(opLen (some 58) (.tmp 57) 22 (.slice 33) Try.underlying22 3 "law.go:36" #[eD 3, eG 2]).op, (some (2, 56, true))⟩,
 ⟨(opBin (some 59) .eql 3 (.tmp 58) (.const (Value.int IntKind.i64 1)) 3 4 "law.go:36" #[eD 4, eG 2]).op, (some (2, 56, true))⟩,
 ⟨(opPick (some 60) (.tmp 56) (.tmp 59) (.const (Value.bool false)) 4 "law.go:36" #[eD 2, eD 5]).op, none⟩,
 ⟨(opMove (some 61) (.tmp 60) 4 "law.go:36" #[eD 6, eC 2]).op, none⟩,
 ⟨(opMove (some 62) (.tmp 5) 22 "law.go:36" #[eG 7]).op, (some (7, 61, true))⟩,
 ⟨(opIndexAddrT (some 63) 22 (.tmp 62) (.const (Value.int IntKind.i64 0)) 33 1 Try.underlying22 sz33 0 "law.go:36" #[eD 8, eG 7]).op, (some (7, 61, true))⟩,
 ⟨(opLoadT (.one (.ns 1)) (some 64) 33 (.tmp 63) (.slice 5) Try.underlying33 1 sz33 (by kernel_rfl) 33 "law.go:36" #[eD 9, eG 7]).op, (some (7, 61, true))⟩,
 ⟨(opBytesStrC (some 65) 33 9 (.tmp 64) 5 Try.underlying33 Try.underlying5 Try.underlying9 9 "law.go:36" #[eD 10, eG 7]).op, (some (7, 61, true))⟩,
 ⟨(opBinS (some 66) .eql 9 (.tmp 65) (.const (Value.string { data := #[97, 98] })) 9 4 "law.go:36" #[eD 11, eG 7]).op, (some (7, 61, true))⟩,
 ⟨(opPick (some 67) (.tmp 61) (.tmp 66) (.const (Value.bool false)) 4 "law.go:36" #[eD 7, eD 12]).op, none⟩,
 ⟨(opAssign (some 0) (.tmp 67) 4 "law.go:36" #[eD 13, eC 7, eP 0, eP 1, eP 2, eP 3, eP 4, eP 5, eP 6, eP 7, eP 8, eP 9, eP 10, eP 11, eP 12, eP 13]).op, none⟩
 ] (by kernel_rfl)))
 (.live [0] .ret)))))))))))
noncomputable def f8 : Fun Try.prog where
 id := 8
 fn := Try.f8
 hf := Try.func8
 hname := by kernel_rfl
 body := f8_b
 hbody := by kernel_rfl
 res := [rTmp 0]
 hres := by kernel_rfl
 n := 68
 hn := by kernel_rfl
theorem alive_run (F : Nat) :
 (f8.run F [] ⟨[], []⟩ : Ans) =
 onSome
 (dkG 0 (dk0 (newO (20 : Int))) (dk1 (newO (20 : Int))) (dk2 0 (newO (20 : Int)))
 (dk3 (newO (20 : Int))))
 none fun (o : Dk) =>
 branch (.bool (cdec (o.3.length < 999998)))
 (branch (.bool (fmtB o))
 (onSome (dkG 0 (dk0 o.fmtO) (dk1 o.fmtO) (dk2 0 o.fmtO) (dk3 o.fmtO)) none fun (o_1 : Dk) =>
 onSome
 (lgG
 [.int .i64 (lv0 (fmtLO o)), .int .i64 (lv1 (fmtLO o)), .int .i64 (lv2 (fmtLO o)),
 .int .i64 (lv3 (fmtLO o)), .int .i64 (lv4 (fmtLO o))])
 none fun (o : Lg) =>
 branch (.bool (byOk [[AV.int IntKind.u8 (97 : Int)], [AV.int IntKind.u8 (98 : Int)]] && cdec (LOk o_1 o)))
 (branch (.bool (appEO o_1 o [97, 98] != 0))
 (some
 (Fin.ret (.bool false),
 St.mk
 [dk0 (o_1.appO o [97, 98]), dk1 (o_1.appO o [97, 98]),
 dk2 0 (o_1.appO o [97, 98]), dk3 (o_1.appO o [97, 98]),
 Ob.cells
 [AV.ptr 2 0, .int .i64 (lv0 (o.appO o_1 [97, 98])),
 .int .i64 (lv1 (o.appO o_1 [97, 98])),
 .int .i64 (lv2 (o.appO o_1 [97, 98])),
 .int .i64 (lv3 (o.appO o_1 [97, 98])),
 .int .i64 (lv4 (o.appO o_1 [97, 98]))],
 Ob.gone]
 []))
 (onSome
 (dkG 0 (dk0 (o_1.appO o [97, 98])) (dk1 (o_1.appO o [97, 98]))
 (dk2 0 (o_1.appO o [97, 98])) (dk3 (o_1.appO o [97, 98])))
 none fun (o_2 : Dk) =>
 onSome
 (lgG
 [.int .i64 (lv0 (o.appO o_1 [97, 98])),
 .int .i64 (lv1 (o.appO o_1 [97, 98])),
 .int .i64 (lv2 (o.appO o_1 [97, 98])),
 .int .i64 (lv3 (o.appO o_1 [97, 98])),
 .int .i64 (lv4 (o.appO o_1 [97, 98]))])
 none fun (o : Lg) =>
 onSome (dkG 0 (dk0 o_2.flushO) (dk1 o_2.flushO) (dk2 0 o_2.flushO) (dk3 o_2.flushO))
 none fun (o_3 : Dk) =>
 onSome
 (lgG
 [.int .i64 (lv0 o), .int .i64 (lv1 o), .int .i64 (lv2 o),
 .int .i64 (lv3 o), .int .i64 (lv4 o)])
 none fun (o : Lg) =>
 branch
 (AV.bool
 (byOk [[AV.int IntKind.u8 (99 : Int)], [AV.int IntKind.u8 (100 : Int)]] && cdec (LOk o_3 o)))
 (branch (.bool (appEO o_3 o [99, 100] != 0))
 (some
 (Fin.ret (.bool false),
 St.mk
 [dk0 (o_3.appO o [99, 100]), dk1 (o_3.appO o [99, 100]),
 dk2 0 (o_3.appO o [99, 100]),
 dk3 (o_3.appO o [99, 100]),
 Ob.cells
 [AV.ptr 2 0,
 .int .i64 (lv0 (o.appO o_3 [99, 100])),
 .int .i64 (lv1 (o.appO o_3 [99, 100])),
 .int .i64 (lv2 (o.appO o_3 [99, 100])),
 .int .i64 (lv3 (o.appO o_3 [99, 100])),
 .int .i64 (lv4 (o.appO o_3 [99, 100]))],
 Ob.gone, Ob.gone]
 []))
 (onSome
 (dkG 0 (dk0 (o_3.appO o [99, 100]))
 (dk1 (o_3.appO o [99, 100]))
 (dk2 0 (o_3.appO o [99, 100]))
 (dk3 (o_3.appO o [99, 100])))
 none fun (o_4 : Dk) =>
 onSome
 (lgG
 [.int .i64 (lv0 (o.appO o_3 [99, 100])),
 .int .i64 (lv1 (o.appO o_3 [99, 100])),
 .int .i64 (lv2 (o.appO o_3 [99, 100])),
 .int .i64 (lv3 (o.appO o_3 [99, 100])),
 .int .i64 (lv4 (o.appO o_3 [99, 100]))])
 none fun (o_5 : Lg) =>
 branch (.bool (decide (2 ≤ o_4.n) && cdec (o_5.p < 1000000)))
 (branch (.bool (roomV o_4 o_5 != 7))
 (some
 (Fin.ret (.bool false),
 St.mk
 [dk0 (o_3.appO o [99, 100]),
 dk1 (o_3.appO o [99, 100]),
 dk2 0 (o_3.appO o [99, 100]),
 dk3 (o_3.appO o [99, 100]),
 Ob.cells
 [AV.ptr 2 0,
 .int .i64 (lv0 (o.appO o_3 [99, 100])),
 .int .i64 (lv1 (o.appO o_3 [99, 100])),
 .int .i64 (lv2 (o.appO o_3 [99, 100])),
 .int .i64 (lv3 (o.appO o_3 [99, 100])),
 .int .i64 (lv4 (o.appO o_3 [99, 100]))],
 Ob.gone, Ob.gone]
 []))
 (onSome
 (dkG 0 (dk0 (o_3.appO o [99, 100]))
 (dk1 (o_3.appO o [99, 100]))
 (dk2 0 (o_3.appO o [99, 100]))
 (dk3 (o_3.appO o [99, 100])))
 none fun (o_6 : Dk) =>
 onSome
 (dkG 0 (dk0 (o_6.crashO (0 : Int) (60 : Int)))
 (dk1 (o_6.crashO (0 : Int) (60 : Int)))
 (dk2 0 (o_6.crashO (0 : Int) (60 : Int)))
 (dk3 (o_6.crashO (0 : Int) (60 : Int))))
 none fun (o_7 : Dk) =>
 branch (.bool (cdec (o_7.3.length < 900000)))
 (branch (.bool (opB o_7))
 (branch (.bool ((↑(opRO o_7).length : Int) == 1))
 (branch (.bool (inR (opRO o_7) (0 : Int)))
 (branch
 (.bool ((LD.one (LT.ns 1)).is (V.rowAt (opRO o_7) (0 : Int))))
 (branch (.bool (okR (rwA (V.rowAt (opRO o_7) (0 : Int)))))
 (some
 (Fin.ret
 (AV.bool
 ((txC (rwA (V.rowAt (opRO o_7) (0 : Int)))).toList ==
 [UInt8.ofNat 97, UInt8.ofNat 98])),
 St.mk
 [dk0 (o_6.crashO (0 : Int) (60 : Int)),
 dk1 (o_6.crashO (0 : Int) (60 : Int)),
 dk2 0 (o_6.crashO (0 : Int) (60 : Int)),
 dk3 (o_6.crashO (0 : Int) (60 : Int)),
 Ob.cells
 [AV.ptr 2 0,
 AV.int IntKind.i64
 (lv0 (o.appO o_3 [99, 100])),
 AV.int IntKind.i64
 (lv1 (o.appO o_3 [99, 100])),
 AV.int IntKind.i64
 (lv2 (o.appO o_3 [99, 100])),
 AV.int IntKind.i64
 (lv3 (o.appO o_3 [99, 100])),
 AV.int IntKind.i64
 (lv4 (o.appO o_3 [99, 100]))],
 Ob.gone, Ob.gone,
 Ob.cells
 [AV.ptr 2 0,
 .int .i64 (lv0 (opLO o_7)),
 .int .i64 (lv1 (opLO o_7)),
 .int .i64 (lv2 (opLO o_7)),
 .int .i64 (lv3 (opLO o_7)),
 .int .i64 (lv4 (opLO o_7))]]
 []))
 none)
 none)
 none)
 (some
 (Fin.ret (.bool false),
 St.mk
 [dk0 (o_6.crashO (0 : Int) (60 : Int)),
 dk1 (o_6.crashO (0 : Int) (60 : Int)),
 dk2 0 (o_6.crashO (0 : Int) (60 : Int)),
 dk3 (o_6.crashO (0 : Int) (60 : Int)),
 Ob.cells
 [AV.ptr 2 0,
 .int .i64 (lv0 (o.appO o_3 [99, 100])),
 .int .i64 (lv1 (o.appO o_3 [99, 100])),
 .int .i64 (lv2 (o.appO o_3 [99, 100])),
 .int .i64 (lv3 (o.appO o_3 [99, 100])),
 AV.int IntKind.i64
 (lv4 (o.appO o_3 [99, 100]))],
 Ob.gone, Ob.gone,
 Ob.cells
 [AV.ptr 2 0, .int .i64 (lv0 (opLO o_7)),
 .int .i64 (lv1 (opLO o_7)),
 .int .i64 (lv2 (opLO o_7)),
 .int .i64 (lv3 (opLO o_7)),
 .int .i64 (lv4 (opLO o_7))]]
 [])))
 (branch (.bool (opEO o_7 == 0))
 (some
 (Fin.ret (.bool false),
 St.mk
 [dk0 (o_6.crashO (0 : Int) (60 : Int)),
 dk1 (o_6.crashO (0 : Int) (60 : Int)),
 dk2 0 (o_6.crashO (0 : Int) (60 : Int)),
 dk3 (o_6.crashO (0 : Int) (60 : Int)),
 Ob.cells
 [AV.ptr 2 0,
 .int .i64 (lv0 (o.appO o_3 [99, 100])),
 .int .i64 (lv1 (o.appO o_3 [99, 100])),
 .int .i64 (lv2 (o.appO o_3 [99, 100])),
 .int .i64 (lv3 (o.appO o_3 [99, 100])),
 AV.int IntKind.i64
 (lv4 (o.appO o_3 [99, 100]))],
 Ob.gone, Ob.gone]
 []))
 (some
 (Fin.ret (.bool false),
 St.mk
 [dk0 (o_6.crashO (0 : Int) (60 : Int)),
 dk1 (o_6.crashO (0 : Int) (60 : Int)),
 dk2 0 (o_6.crashO (0 : Int) (60 : Int)),
 dk3 (o_6.crashO (0 : Int) (60 : Int)),
 Ob.cells
 [AV.ptr 2 0,
 .int .i64 (lv0 (o.appO o_3 [99, 100])),
 .int .i64 (lv1 (o.appO o_3 [99, 100])),
 .int .i64 (lv2 (o.appO o_3 [99, 100])),
 .int .i64 (lv3 (o.appO o_3 [99, 100])),
 AV.int IntKind.i64
 (lv4 (o.appO o_3 [99, 100]))],
 Ob.gone, Ob.gone]
 []))))
 none))
 none))
 none))
 none)
 (branch (.bool (fmtEO o != 0))
 (some
 (Fin.ret (.bool false),
 St.mk [dk0 (newO (20 : Int)), dk1 (newO (20 : Int)), dk2 0 (newO (20 : Int)), dk3 (newO (20 : Int))]
 []))
 (some
 (Fin.ret (.bool false),
 St.mk [dk0 (newO (20 : Int)), dk1 (newO (20 : Int)), dk2 0 (newO (20 : Int)), dk3 (newO (20 : Int))]
 []))))
 none := by kernel_rfl
def x0 : Dk := Dk.new 20 []
def l1 : Lg := fmtL x0
def x1 : Dk := x0.fmt
def x2 : Dk := x1.app l1 [97, 98]
def l2 : Lg := l1.app x1 [97, 98]
def x3 : Dk := x2.flush
def x4 : Dk := x3.app l2 [99, 100]
def l4 : Lg := l2.app x3 [99, 100]
def x5 : Dk := x4.crash 0 60
theorem ab_lt : ∀ y ∈ [97, 98], y < 256 := by decide
theorem cd_lt : ∀ y ∈ [99, 100], y < 256 := by decide
theorem x0_ok : x0.Ok := new_ok (by decide) (by simp)
theorem x1_ok : x1.Ok := fmt_ok x0_ok
theorem x2_ok : x2.Ok := app_ok x1_ok _ ab_lt
theorem x3_ok : x3.Ok := flush_ok x2_ok
theorem x4_ok : x4.Ok := app_ok x3_ok _ cd_lt
theorem x5_ok : x5.Ok := x4_ok.settle _ _
theorem x0_e : fmtE x0 = 0 := by kernel_rfl
theorem x1_e : appE x1 l1 [97, 98] = 0 := by kernel_rfl
theorem x3_e : appE x3 l2 [99, 100] = 0 := by kernel_rfl
theorem x4_half : x4.half = 9 := by kernel_rfl
theorem l4_p : l4.p = 2 := by kernel_rfl
theorem x5_e : opE x5 = 0 := by kernel_rfl
theorem x5_r : x5.opR = [[97, 98]] := by kernel_rfl
theorem x0_w : x0.ws.length = 0 := by kernel_rfl
theorem x1_w : x1.ws.length = 0 := by kernel_rfl
theorem x2_w : x2.ws.length = 1 := by kernel_rfl
theorem x3_w : x3.ws.length = 0 := by kernel_rfl
theorem x4_w : x4.ws.length = 1 := by kernel_rfl
theorem x5_w : x5.ws.length = 0 := by kernel_rfl
theorem x4_n : x4.n = 20 := by kernel_rfl
theorem x1_k : LOk x1 l1 := ⟨by rw [show x1.n = 20 by kernel_rfl]; decide, by rw [show l1.a = 0 by kernel_rfl]; decide, by rw [show l1.p = 0 by kernel_rfl]; decide, by rw [x1_w]; decide, by rw [show l1.s = 1 by kernel_rfl]; decide⟩
theorem x3_k : LOk x3 l2 := ⟨by rw [show x3.n = 20 by kernel_rfl]; decide, by rw [show l2.a = 0 by kernel_rfl]; decide, by rw [show l2.p = 1 by kernel_rfl]; decide, by rw [x3_w]; decide, by rw [show l2.s = 2 by kernel_rfl]; decide⟩
theorem alive_true : ∃ st, f8.run 1000 [] ⟨[], []⟩ = some (.ret (.bool true), st) := by
 have e0 : newO (20 : Int) = x0 := newO_eq 20
 obtain ⟨f1, f2, f3, f4⟩ := fmtO_eq x0
 obtain ⟨a1, a2, a3⟩ := appO_eq x1 l1 [97, 98]
 obtain ⟨b1, b2, b3⟩ := appO_eq x3 l2 [99, 100]
 obtain ⟨o1, o2, o3, o4, o5⟩ := opO_eq x5
 have cr : x4.crashO 0 60 = x5 := crashO_eq _ _ _
 have fl : x2.flushO = x3 := flushO_eq _
 refine ⟨⟨[dk0 x5, dk1 x5, dk2 0 x5, dk3 x5, lgO 0 l4, .gone, .gone, lgO 0 (opL x5)], []⟩, ?_⟩
 rw [alive_run, e0, gD x0_ok (by rw [x0_w]; decide), onSome_some, branch_of (cdec_iff.mpr (by show x0.ws.length < _; rw [x0_w]; decide)), f4, branch_of (by rw [x0_e]; rfl), f2, f3, show x0.fmt = x1 from rfl, show fmtL x0 = l1 from rfl,
  gD x1_ok (by rw [x1_w]; decide), onSome_some, lgG_lv, onSome_some, branch_of (by rw [Bool.and_eq_true, cdec_iff]; exact ⟨byOk_iff.mpr ⟨by rfl, by decide⟩, x1_k⟩), a1, x1_e, branch_not (by rfl), a2, a3, show x1.app l1 [97, 98] = x2 from rfl, show l1.app x1 [97, 98] = l2 from rfl,
  gD x2_ok (by rw [x2_w]; decide), onSome_some, lgG_lv, onSome_some, fl, gD x3_ok (by rw [x3_w]; decide), onSome_some, lgG_lv, onSome_some, branch_of (by rw [Bool.and_eq_true, cdec_iff]; exact ⟨byOk_iff.mpr ⟨by rfl, by decide⟩, x3_k⟩), b1, x3_e, branch_not (by rfl), b2, b3, show x3.app l2 [99, 100] = x4 from rfl, show l2.app x3 [99, 100] = l4 from rfl,
  gD x4_ok (by rw [x4_w]; decide), onSome_some, lgG_lv, onSome_some, branch_of (by rw [Bool.and_eq_true, decide_eq_true_eq, cdec_iff, x4_n, l4_p]; decide), roomV, opq_eq, x4_half, l4_p, branch_not (by decide), onSome_some, cr, gD x5_ok (by rw [x5_w]; decide), onSome_some, branch_of (cdec_iff.mpr (by show x5.ws.length < _; rw [x5_w]; decide)), o1, x5_e, branch_of (by rfl), o5, x5_r, branch_of (by rfl), branch_of (by rfl), branch_of (by rfl), branch_of (by rfl)]
 have htx : ((txC (rwA (V.rowAt (bsB [[97, 98]]) (0 : Int)))).toList == [UInt8.ofNat 97, UInt8.ofNat 98]) = true := by
  rw [show rwA (V.rowAt (bsB [[97, 98]]) (0 : Int)) = bR [97, 98] from rfl, txC, opq_eq, nR_bR, ByteArray.toList_eq, textOf, foldl_push]; rfl
 rw [htx, o3]
 rfl
noncomputable def p8 : POrc Try.prog := f8.farN
 (fun args k => match args with
  | [] => k (.bool true)
  | _ => none)
 fun args k fin h => by
  split at h
  ·obtain ⟨st', h1⟩ := alive_true
   exact ⟨_, _, h, .nil, trivial, trivial, 1000, .bool true, st', rfl, h1⟩
  ·cases h
end Go.Proofs.Ytnhdjhcpbjggmaa.V
namespace Go.Proofs.Ytnhdjhcpbjggmaa.V
open Go Go.V Go.RowKit
theorem weighI_ge (x : Int) (hx : x < 1000000) : ∀ (l : List (List AV)) (n : Int), (∀ r ∈ l, isB r = true) → 0 ≤ n → n ≤ x + 4611686018427387904 + 1 → weighI x l n ≤ x → ∀ r ∈ l, ((rwA r).length : Int) + n < x + 1 ∧ n ≤ weighI x l n
 | [], n, _, _, _, _, r, hr => by cases hr
 | r :: t, n, hb, h0, h1, hw, q, hq => by
  rw [weighI] at hw ⊢
  obtain ⟨z, d, hrd, hd⟩ := isB_spec (hb r (by simp))
  have hdl : (rwA r).length < 4611686018427387904 := by rw [hrd]; exact (byOk_iff.mp hd).2
  by_cases hc : n ≤ x
  ·rw [if_pos hc] at hw ⊢
   rw [wrapS (n := 1 + ((rwA r).length : Int)) (by omega) (by omega), wrapS (by omega) (by omega)] at hw ⊢
   cases t with
   | nil =>
    rw [weighI] at hw ⊢
    simp only [List.mem_cons, List.not_mem_nil, or_false] at hq
    subst hq
    exact ⟨by omega, by omega⟩
   | cons r2 t2 =>
    have ih := weighI_ge x hx (r2 :: t2) (n + (1 + ((rwA r).length : Int))) (fun y hy => hb y (List.mem_cons_of_mem _ hy)) (by omega) (by omega) hw
    have h2 := ih r2 (by simp)
    rcases List.mem_cons.mp hq with rfl | hq
    ·exact ⟨by omega, by omega⟩
    ·have := ih q hq; exact ⟨by omega, by omega⟩
  ·rw [if_neg hc] at hw; omega
theorem weigh_len {l : List (List AV)} {x : Nat} (hx : x < 1000000) (hl : okBs l = true) (hw : ¬ weighV l (x : Int) > (x : Int)) : l.length ≤ x ∧ ∀ r ∈ l, (rwA r).length ≤ x := by
 obtain ⟨l1, l2⟩ := okBs_iff.mp hl
 rw [weighV, opq_eq] at hw
 by_cases hc : (l.length : Int) > (x : Int)
 ·rw [if_pos hc, wrapS (by omega) (by omega)] at hw; omega
 ·rw [if_neg hc] at hw
  refine ⟨by omega, fun r hr => ?_⟩
  have := weighI_ge (x : Int) (by omega) l 0 l1 (by omega) (by omega) (by omega) r hr
  omega
theorem app_n (X : Dk) (L : Lg) (d : List Nat) : (X.app L d).n = X.n := by
 unfold Dk.app; split
 ·exact wrRec_n _ _ _ _ _
 ·rfl
theorem app_half (X : Dk) (L : Lg) (d : List Nat) : (X.app L d).half = X.half := by rw [Dk.half, Dk.half, app_n]
theorem app_w (X : Dk) (L : Lg) (d : List Nat) : (X.app L d).ws.length + L.p ≤ X.ws.length + (L.app X d).p := by
 unfold Dk.app Lg.app; split
 ·have := wrRec_len (piecesN d.length) X (placeN X L.a L.p) L.s (recAll d)
  show (X.wrRec _ _ _ _).ws.length + L.p ≤ X.ws.length + (L.p + piecesN d.length)
  omega
 ·omega
theorem app_s (L : Lg) (X : Dk) (d : List Nat) : (L.app X d).s + L.p = L.s + (L.app X d).p := by
 unfold Lg.app; split
 ·show L.s + _ + L.p = L.s + (L.p + _); omega
 ·omega
theorem app_a (L : Lg) (X : Dk) (d : List Nat) : (L.app X d).a = L.a := by unfold Lg.app; split <;> rfl
theorem app_p {X : Dk} {L : Lg} (d : List Nat) (h : L.p ≤ X.half) : (L.app X d).p ≤ X.half := by
 unfold Lg.app; split
 ·rename_i he
  show L.p + piecesN d.length ≤ X.half
  unfold appE at he
  split at he
  ·omega
  ·split at he <;> omega
 ·exact h
structure Small (X : Dk) (L : Lg) (n s : Nat) : Prop where
 ok : X.Ok
 n : X.n = n
 a : L.a < 2
 p : L.p ≤ X.half
 w : X.ws.length ≤ L.p
 s : L.s = s + L.p
theorem Small.app {X : Dk} {L : Lg} {n s : Nat} (h : Small X L n s) {d : List Nat} (hd : ∀ y ∈ d, y < 256) : Small (X.app L d) (L.app X d) n s where
 ok := app_ok h.ok L hd
 n := (app_n X L d).trans h.n
 a := by rw [app_a]; exact h.a
 p := by rw [app_half]; exact app_p d h.p
 w := by have := app_w X L d; have := h.w; omega
 s := by have := app_s L X d; have := h.s; omega
theorem numB_zero (at' : Nat) : numB (List.replicate 64 0) at' = 0 := by
 have : ∀ i, (List.replicate 64 0).getD i 0 = 0 := fun i => by
  rw [List.getD_eq_getElem?_getD, List.getElem?_replicate]; split <;> rfl
 simp only [numB, this]; rfl
theorem new_sector (n k : Nat) : (Dk.new n []).sector k = (List.replicate (n * 64) 0 |>.drop (k * 64) |>.take 64) := by
 have : (Dk.new n []).ls = List.replicate (n * 64) 0 := by simp [Dk.new, imgAt]
 rw [Dk.sector, this]; rfl
theorem new_numB (n k at' : Nat) : numB ((Dk.new n []).sector k) at' = 0 := by
 rw [new_sector, List.drop_replicate, List.take_replicate]
 have : ∀ m i, (List.replicate m 0).getD i 0 = 0 := fun m i => by
  rw [List.getD_eq_getElem?_getD, List.getElem?_replicate]; split <;> rfl
 simp only [numB, this]; rfl
theorem new_most (n : Nat) : ∀ (d a m : Nat), (Dk.new n []).most a d m = m
 | 0, a, m => rfl
 | d + 1, a, m => by rw [Dk.most, new_numB, Nat.max_zero, new_most n d]
theorem new_fmt (n : Nat) : fmtL (Dk.new n []) = ⟨1, 0, 1, 0, 1⟩ := by
 simp only [fmtL, Dk.next, new_most]
theorem crown_n (X : Dk) (L : Lg) : (X.crown L).n = X.n := by
 show ((X.wrX _ _).flush).n = X.n
 exact wrX_n _ _ _
theorem new_small {n : Nat} (h : n ≤ 65536) (h10 : 10 ≤ n) : fmtE (Dk.new n []) = 0 ∧ Small (Dk.new n []).fmt (fmtL (Dk.new n [])) n 1 := by
 have hn : (Dk.new n []).n = n := rfl
 refine ⟨?_, fmt_ok (new_ok h (by simp)), (crown_n _ _).trans hn, ?_, ?_, ?_, ?_⟩
 ·rw [fmtE, hn, if_neg (by omega), Dk.next, new_most, new_most, if_neg (by omega)]
 ·rw [new_fmt]; decide
 ·rw [new_fmt]; exact Nat.zero_le _
 ·rw [show (Dk.new n []).fmt.ws = [] from rfl]; exact Nat.zero_le _
 ·rw [new_fmt]; rfl
end Go.Proofs.Ytnhdjhcpbjggmaa.V
