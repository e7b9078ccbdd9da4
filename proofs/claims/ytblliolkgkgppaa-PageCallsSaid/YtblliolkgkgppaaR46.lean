/- Merged out of 16 texts: what the claim's code comes to, and why. -/
import Derived.Test.YtblliolkgkgppaaR45
/- What the functions' runs come to; the right sides were printed by a tool, Lean checks them. -/
set_option linter.unusedVariables false
set_option maxRecDepth 100000
namespace Go.Proofs.Ytblliolkgkgppaa.V
open Go Go.V Go.RowKit

theorem order_run (F : Nat) (z : Bool) (l : List (List AV)) :
    (f3.run F [.ns z 3 l] ⟨[], []⟩ : Ans) =
    branch (AV.bool (okCl l))
      (branch (AV.bool (greatB l)) (some (Fin.ret (AV.bool true), St.mk [] []))
        (loopRun (f3_l0.run F) [0, 3, 4, 5, 6]
          (Cont.block 0 (Cont.then (f3_r1.run F (f3.leaveK Fun.done)) (f3.leaveK Fun.done))) F
          (Env.mk 93
            [(0, AV.ns z 3 l), (3, AV.ns false 1 (bR zeroP)),
              (4, AV.ns false 1 (bR zeroP)), (5, AV.mp 0),
              (6, AV.int IntKind.i64 (0 : Int))])
          (St.mk [Ob.map []] [])))
      none := by kernel_rfl

theorem order_round (F m : Nat) (K : Cont) (z y u : Bool) (l p q : List (List AV)) (es : List (AV × AV)) (i : Int) :
    (loopRun (f3_l0.run F) [0, 3, 4, 5, 6] K m.succ (Env.mk 93 [(0, .ns z 3 l), (3, .ns y 1 p), (4, .ns u 1 q), (5, .mp 0), (6, .int .i64 i)]) ⟨[.map es], []⟩ : Ans) =
    branch (AV.bool (decide (i < (↑l.length : Int))))
      (branch (AV.bool (inR l i))
        (branch (AV.bool ((LD.one (LT.int IntKind.i64)).is (List.drop 1 (V.rowAt l i))))
          (branch (AV.bool (true && keysOk (LT.int IntKind.i64) es))
            (branch (AV.bool (hasK es (AV.int IntKind.i64 (hdI (List.drop 1 (V.rowAt l i))))))
              (branch
                (AV.bool ((LK.one LT.bool).is (valK es (AV.int IntKind.i64 (hdI (List.drop 1 (V.rowAt l i)))))))
                (branch (AV.bool (hdB [valK es (AV.int IntKind.i64 (hdI (List.drop 1 (V.rowAt l i))))]))
                  (K AX.ret (Env.mk 93 [(2, AV.bool true)]) (St.mk [Ob.map es] []))
                  (branch (AV.bool (inR l i))
                    (branch (AV.bool ((LD.one (LT.int IntKind.i64)).is (List.drop 1 (V.rowAt l i))))
                      (branch (AV.bool (true && keysOk (LT.int IntKind.i64) es))
                        (loopRun (f3_l0.run F) [0, 3, 4, 5, 6] K m
                          (Env.mk 93
                            [(0, AV.ns z 3 l), (3, AV.ns y 1 p),
                              (4, AV.ns u 1 q), (5, AV.mp 0),
                              (6, AV.int IntKind.i64 (IntKind.i64.wrap (i + (1 : Int))))])
                          (St.mk
                            [Ob.map (putK es (AV.int IntKind.i64 (hdI (List.drop 1 (V.rowAt l i)))) (AV.bool true))]
                            []))
                        none)
                      none)
                    none))
                none)
              (branch (AV.bool (inR l i))
                (branch (AV.bool ((LD.one (LT.int IntKind.i64)).is (List.drop 1 (V.rowAt l i))))
                  (branch (AV.bool (true && keysOk (LT.int IntKind.i64) es))
                    (loopRun (f3_l0.run F) [0, 3, 4, 5, 6] K m
                      (Env.mk 93
                        [(0, AV.ns z 3 l), (3, AV.ns y 1 p),
                          (4, AV.ns u 1 q), (5, AV.mp 0),
                          (6, AV.int IntKind.i64 (IntKind.i64.wrap (i + (1 : Int))))])
                      (St.mk
                        [Ob.map (putK es (AV.int IntKind.i64 (hdI (List.drop 1 (V.rowAt l i)))) (AV.bool true))]
                        []))
                    none)
                  none)
                none))
            none)
          none)
        none)
      (K (AX.exit 0)
        (Env.mk 93
          [(0, AV.ns z 3 l), (3, AV.ns y 1 p), (4, AV.ns u 1 q)])
        (St.mk [Ob.map es] [])) := by kernel_rfl

theorem order_out (F : Nat) (z y u : Bool) (l p q : List (List AV)) (es : List (AV × AV)) (i : Int) :
    ((Cont.block 0 (Cont.then (f3_r1.run F (f3.leaveK Fun.done)) (f3.leaveK Fun.done))) (.exit 0) (Env.mk 93 [(0, .ns z 3 l), (3, .ns y 1 p), (4, .ns u 1 q)]) ⟨[.map es], []⟩ : Ans) =
    loopRun (f3_l1.run F) [0, 3, 4, 7]
      (Cont.block 2 (Cont.then (f3_r0.run F (f3.leaveK Fun.done)) (f3.leaveK Fun.done))) F
      (Env.mk 93
        [(0, AV.ns z 3 l), (3, AV.ns y 1 p), (4, AV.ns u 1 q),
          (7, AV.int IntKind.i64 (0 : Int))])
      (St.mk [Ob.map es] []) := by kernel_rfl

theorem order_round2 (F m : Nat) (K : Cont) (z y u : Bool) (l p q : List (List AV)) (es : List (AV × AV)) (i : Int) :
    (loopRun (f3_l1.run F) [0, 3, 4, 7] K m.succ (Env.mk 93 [(0, .ns z 3 l), (3, .ns y 1 p), (4, .ns u 1 q), (7, .int .i64 i)]) ⟨[.map es], []⟩ : Ans) =
    branch (AV.bool (decide (i < (↑l.length : Int))))
      (branch (AV.bool (inR l i))
        (branch (AV.bool ((LD.one (LT.int IntKind.i64)).is (List.drop 1 (V.rowAt l i))))
          (branch (AV.bool (inR l i))
            (branch (AV.bool ((LD.one (LT.ns 1)).is (List.drop 2 (V.rowAt l i))))
              (branch
                (AV.bool
                  (byOk p &&
                    (byOk (rwA (List.drop 2 (V.rowAt l i))) &&
                      apOk (rwA (List.drop 2 (V.rowAt l i))).length 1)))
                (branch (AV.bool (inR l (IntKind.i64.wrap (IntKind.i64.wrap ((↑l.length : Int) - (1 : Int)) - i))))
                  (branch
                    (AV.bool
                      ((LD.one (LT.int IntKind.i64)).is
                        (List.drop 1
                          (V.rowAt l (IntKind.i64.wrap (IntKind.i64.wrap ((↑l.length : Int) - (1 : Int)) - i))))))
                    (branch (AV.bool (inR l (IntKind.i64.wrap (IntKind.i64.wrap ((↑l.length : Int) - (1 : Int)) - i))))
                      (branch
                        (AV.bool
                          ((LD.one (LT.ns 1)).is
                            (List.drop 2
                              (V.rowAt l (IntKind.i64.wrap (IntKind.i64.wrap ((↑l.length : Int) - (1 : Int)) - i))))))
                        (branch
                          (AV.bool
                            (byOk q &&
                              (byOk
                                  (rwA
                                    (List.drop 2
                                      (V.rowAt l
                                        (IntKind.i64.wrap (IntKind.i64.wrap ((↑l.length : Int) - (1 : Int)) - i))))) &&
                                apOk
                                  (rwA
                                      (List.drop 2
                                        (V.rowAt l
                                          (IntKind.i64.wrap
                                            (IntKind.i64.wrap ((↑l.length : Int) - (1 : Int)) - i))))).length
                                  1)))
                          (branch
                            (AV.bool
                              !oB
                                  (putP (nR p) (hdI (List.drop 1 (V.rowAt l i)))
                                    (nR (rwA (List.drop 2 (V.rowAt l i))))))
                            (K AX.ret (Env.mk 93 [(2, AV.bool true)]) (St.mk [Ob.map es] []))
                            (branch
                              (AV.bool
                                !oB
                                    (putP (nR q)
                                      (hdI
                                        (List.drop 1
                                          (V.rowAt l
                                            (IntKind.i64.wrap (IntKind.i64.wrap ((↑l.length : Int) - (1 : Int)) - i)))))
                                      (nR
                                        (rwA
                                          (List.drop 2
                                            (V.rowAt l
                                              (IntKind.i64.wrap
                                                (IntKind.i64.wrap ((↑l.length : Int) - (1 : Int)) - i))))))))
                              (K AX.ret (Env.mk 93 [(2, AV.bool true)]) (St.mk [Ob.map es] []))
                              (loopRun (f3_l1.run F) [0, 3, 4, 7] K m
                                (Env.mk 93
                                  [(0, AV.ns z 3 l),
                                    (3,
                                      AV.ns
                                        (!oB
                                            (putP (nR p) (hdI (List.drop 1 (V.rowAt l i)))
                                              (nR (rwA (List.drop 2 (V.rowAt l i))))))
                                        1
                                        (oR
                                          (putP (nR p) (hdI (List.drop 1 (V.rowAt l i)))
                                            (nR (rwA (List.drop 2 (V.rowAt l i))))))),
                                    (4,
                                      AV.ns
                                        (!oB
                                            (putP (nR q)
                                              (hdI
                                                (List.drop 1
                                                  (V.rowAt l
                                                    (IntKind.i64.wrap
                                                      (IntKind.i64.wrap ((↑l.length : Int) - (1 : Int)) - i)))))
                                              (nR
                                                (rwA
                                                  (List.drop 2
                                                    (V.rowAt l
                                                      (IntKind.i64.wrap
                                                        (IntKind.i64.wrap ((↑l.length : Int) - (1 : Int)) - i))))))))
                                        1
                                        (oR
                                          (putP (nR q)
                                            (hdI
                                              (List.drop 1
                                                (V.rowAt l
                                                  (IntKind.i64.wrap
                                                    (IntKind.i64.wrap ((↑l.length : Int) - (1 : Int)) - i)))))
                                            (nR
                                              (rwA
                                                (List.drop 2
                                                  (V.rowAt l
                                                    (IntKind.i64.wrap
                                                      (IntKind.i64.wrap ((↑l.length : Int) - (1 : Int)) - i))))))))),
                                    (7, AV.int IntKind.i64 (IntKind.i64.wrap (i + (1 : Int))))])
                                (St.mk [Ob.map es] []))))
                          none)
                        none)
                      none)
                    none)
                  none)
                none)
              none)
            none)
          none)
        none)
      (K (AX.exit 2) (Env.mk 93 [(3, AV.ns y 1 p), (4, AV.ns u 1 q)])
        (St.mk [Ob.map es] [])) := by kernel_rfl

theorem order_out2 (F : Nat) (y u : Bool) (p q : List (List AV)) (es : List (AV × AV)) :
    ((Cont.block 2 (Cont.then (f3_r0.run F (f3.leaveK Fun.done)) (f3.leaveK Fun.done))) (.exit 2) (Env.mk 93 [(3, .ns y 1 p), (4, .ns u 1 q)]) ⟨[.map es], []⟩ : Ans) =
    branch (AV.bool (byOk p && byOk q)) (some (Fin.ret (AV.bool (nR p == nR q)), St.mk [Ob.map es] [])) none := by kernel_rfl

end Go.Proofs.Ytblliolkgkgppaa.V

/- Page: PageOrder. -/
set_option linter.unusedVariables false
namespace Go.Proofs.Ytblliolkgkgppaa.V
open Go Go.V Go.RowKit

/-- The slots that were seen. -/
def mSeen (l : List Int) : List (AV × AV) := l.map fun n => (.int .i64 n, .bool true)
theorem keys_mSeen (l : List Int) : keysOk (.int .i64) (mSeen l) = true := by
  rw [keysOk, List.all_eq_true]
  intro e he
  obtain ⟨n, _, rfl⟩ := List.mem_map.mp he
  rfl
theorem find_mSeen (n : Int) : ∀ l : List Int, findK (mSeen l) (.int .i64 n) = if n ∈ l then some (.bool true) else none
  | [] => rfl
  | m :: l => by
    show (match eqK (.int .i64 n) (.int .i64 m) with | true => some (AV.bool true) | false => findK (mSeen l) (.int .i64 n)) = _
    by_cases h : n = m
    · subst h
      have : eqK (.int .i64 n) (.int .i64 n) = true := by simp [eqK]
      rw [this]; simp
    · have : eqK (.int .i64 n) (.int .i64 m) = false := by simp [eqK, h]
      rw [this, find_mSeen n l]; simp [h]
theorem put_mSeen (n : Int) : ∀ l : List Int, n ∉ l → putK (mSeen l) (.int .i64 n) (.bool true) = mSeen (l ++ [n])
  | [], _ => rfl
  | m :: l, h => by
    have h1 : n ≠ m := fun e => h (e ▸ List.mem_cons_self)
    have : eqK (.int .i64 n) (.int .i64 m) = false := by simp [eqK, h1]
    show (match eqK (.int .i64 n) (.int .i64 m) with | true => _ | false => (AV.int .i64 m, AV.bool true) :: putK (mSeen l) (.int .i64 n) (.bool true)) = _
    rw [this, put_mSeen n l fun e => h (List.mem_cons_of_mem _ e)]
    rfl
/-- A call's slot, its bytes. -/
def sAt (l : List (List AV)) (i : Nat) : Int := hdI (List.drop 1 (V.rowAt l (i : Int)))
def dAt (l : List (List AV)) (i : Nat) : List Nat := nR (rwA (List.drop 2 (V.rowAt l (i : Int))))
theorem slot_at {l : List (List AV)} (h : Calls' l) {i : Nat} (hi : i < l.length) : (LD.one (LT.int .i64)).is (List.drop 1 (V.rowAt l (i : Int))) = true ∧ (rwA (List.drop 2 (V.rowAt l (i : Int)))).length < 4611686018427387904 := by
  rw [rowAt_nat hi]
  obtain ⟨w, s, z, d, hr, h1, _, h3, _⟩ := h l[i] (List.getElem_mem hi)
  rw [hr]
  exact ⟨rfl, h3⟩
noncomputable abbrev ordK (F : Nat) : Cont := Cont.block 0 (Cont.then (f3_r1.run F (f3.leaveK Fun.done)) (f3.leaveK Fun.done))
noncomputable abbrev ordK2 (F : Nat) : Cont := Cont.block 2 (Cont.then (f3_r0.run F (f3.leaveK Fun.done)) (f3.leaveK Fun.done))
theorem nodup_inj {α : Type} {l : List α} (h : l.Nodup) {i j : Nat} (hi : i < l.length) (hj : j < l.length) : l[i] = l[j] ↔ i = j := by
  constructor
  · intro e
    have hp := List.pairwise_iff_getElem.mp h
    rcases Nat.lt_trichotomy i j with h' | h' | h'
    · exact absurd e (hp i j hi hj h')
    · exact h'
    · exact absurd e.symm (hp j i hj hi h')
  · rintro rfl; rfl
theorem ord_loop (F : Nat) (z y u : Bool) (l p q : List (List AV)) (hc : Calls' l) (h100 : l.length ≤ 100) : ∀ (k m i : Nat) (ls : List Int), i + k = l.length → k < m → ls.length = i → (∀ j (h : j < ls.length), ls[j] = sAt l j) → ls.Nodup →
    (∃ st, loopRun (f3_l0.run F) [0, 3, 4, 5, 6] (ordK F) m (Env.mk 93 [(0, .ns z 3 l), (3, .ns y 1 p), (4, .ns u 1 q), (5, .mp 0), (6, .int .i64 (i : Int))]) ⟨[.map (mSeen ls)], []⟩ = some (.ret (.bool true), st)) ∨
    (∃ es, (∀ i j, i < l.length → j < l.length → sAt l i = sAt l j → i = j) ∧ loopRun (f3_l0.run F) [0, 3, 4, 5, 6] (ordK F) m (Env.mk 93 [(0, .ns z 3 l), (3, .ns y 1 p), (4, .ns u 1 q), (5, .mp 0), (6, .int .i64 (i : Int))]) ⟨[.map (mSeen ls)], []⟩ = ordK F (.exit 0) (Env.mk 93 [(0, .ns z 3 l), (3, .ns y 1 p), (4, .ns u 1 q)]) ⟨[.map es], []⟩)
  | k, 0, i, ls, hi, hm, hl, hls, hn => by omega
  | 0, m + 1, i, ls, hi, hm, hl, hls, hn => by
    refine .inr ⟨mSeen ls, fun a b ha hb hab => ?_, by rw [show m + 1 = m.succ from rfl, order_round, branch_not (by simp; omega)]⟩
    have ha' : a < ls.length := by omega
    have hb' : b < ls.length := by omega
    rw [← hls a ha', ← hls b hb'] at hab
    exact (nodup_inj hn ha' hb').mp hab
  | k + 1, m + 1, i, ls, hi, hm, hl, hls, hn => by
    have h1 : i < l.length := by omega
    have w0 : IntKind.i64.wrap ((i : Int) + 1) = ((i + 1 : Nat) : Int) := wrap_succ (by omega)
    have hs : (LD.one (LT.int .i64)).is (List.drop 1 (V.rowAt l (i : Int))) = true := (slot_at hc h1).1
    have hf := find_mSeen (sAt l i) ls
    rw [show m + 1 = m.succ from rfl, order_round, branch_of (by simpa using h1), branch_of (inR_nat h1), branch_of hs, branch_of (b := true && keysOk (.int .i64) (mSeen ls)) (by rw [keys_mSeen]; rfl)]
    by_cases hmem : sAt l i ∈ ls
    · rw [if_pos hmem] at hf
      left
      have h2 : hasK (mSeen ls) (.int .i64 (hdI (List.drop 1 (V.rowAt l (i : Int))))) = true := by rw [hasK]; show (findK (mSeen ls) (.int .i64 (sAt l i))).isSome = true; rw [hf]; rfl
      have h3 : valK (mSeen ls) (.int .i64 (hdI (List.drop 1 (V.rowAt l (i : Int))))) = .bool true := by rw [valK]; show (findK (mSeen ls) (.int .i64 (sAt l i))).getD .dead = _; rw [hf]; rfl
      rw [branch_of h2, h3, branch_of (b := (LK.one LT.bool).is (.bool true)) rfl, branch_of (b := hdB [.bool true]) rfl]
      exact ⟨_, rfl⟩
    · rw [if_neg hmem] at hf
      have h2 : hasK (mSeen ls) (.int .i64 (hdI (List.drop 1 (V.rowAt l (i : Int))))) = false := by rw [hasK]; show (findK (mSeen ls) (.int .i64 (sAt l i))).isSome = false; rw [hf]; rfl
      have h3 : putK (mSeen ls) (.int .i64 (hdI (List.drop 1 (V.rowAt l (i : Int))))) (.bool true) = mSeen (ls ++ [sAt l i]) := put_mSeen _ _ hmem
      rw [branch_not h2, branch_of (inR_nat h1), branch_of hs, branch_of (b := true && keysOk (.int .i64) (mSeen ls)) (by rw [keys_mSeen]; rfl), h3, w0]
      refine ord_loop F z y u l p q hc h100 k m (i + 1) (ls ++ [sAt l i]) (by omega) (by omega) (by simp [hl]) (fun j hj => ?_) ?_
      · rcases Nat.lt_or_ge j ls.length with h | h
        · rw [List.getElem_append_left h]; exact hls j h
        · have : j = ls.length := by simp at hj; omega
          subst this
          rw [List.getElem_append_right (Nat.le_refl _)]; simp [hl]
      · rw [List.nodup_append]
        exact ⟨hn, by simp, fun a ha b hb => by simp at hb; subst hb; exact fun e => hmem (e ▸ ha)⟩
/-- A page has just what the calls of J say. -/
def Has (l : List (List AV)) (J : Nat → Prop) (p : List Nat) : Prop := Pg p ∧ (∀ j, j < l.length → J j → 0 ≤ sAt l j ∧ getS (ofS p) (sAt l j).toNat = some (dAt l j)) ∧ ∀ k : Nat, (∀ j, j < l.length → J j → sAt l j ≠ k) → getS (ofS p) k = none
theorem Has.put {l : List (List AV)} {J J' : Nat → Prop} {p q : List Nat} (h : Has l J p) {i : Nat} (hi : i < l.length) (hne : ∀ a b, a < l.length → b < l.length → sAt l a = sAt l b → a = b) (hJ : ∀ j, j < l.length → (J' j ↔ J j ∨ j = i)) (hJi : ¬ J i) (hb : ∀ x ∈ dAt l i, x < 256) (hbl : (dAt l i).length < 4611686018427387904) (hq : putP p (sAt l i) (dAt l i) = some q) : Has l J' q := by
  obtain ⟨h1, h2, h3⟩ := h
  obtain ⟨k1, k2, k3, _⟩ := h1.put hb hbl hq
  refine ⟨k1, fun j hj hJj => ?_, fun k hk => ?_⟩
  · rw [k2, getS_with]
    rcases (hJ j hj).mp hJj with hj' | rfl
    · obtain ⟨e1, e2⟩ := h2 j hj hj'
      refine ⟨e1, ?_⟩
      rw [if_neg ?_]
      · exact e2
      · intro e
        have : sAt l j = sAt l i := by omega
        rw [hne j i hj hi this] at hj'
        exact hJi hj'
    · exact ⟨k3, by rw [if_pos rfl]⟩
  · rw [k2, getS_with, if_neg ?_]
    · exact h3 k fun j hj hj' => hk j hj ((hJ j hj).mpr (.inl hj'))
    · intro e
      exact hk i hi ((hJ i hi).mpr (.inr rfl)) (by omega)
theorem Has.same {l : List (List AV)} {p q : List Nat} (hp : Has l (fun _ => True) p) (hq : Has l (fun _ => True) q) : p = q := by
  obtain ⟨h1, h2, h3⟩ := hp
  obtain ⟨k1, k2, k3⟩ := hq
  have : ofS p = ofS q := by
    refine sl_ext h1.slots.2.2.2.1 k1.slots.2.2.2.1 fun k => ?_
    by_cases hk : ∃ j, j < l.length ∧ sAt l j = k
    · obtain ⟨j, hj, e⟩ := hk
      obtain ⟨e1, e2⟩ := h2 j hj trivial
      obtain ⟨_, e3⟩ := k2 j hj trivial
      rw [e, Int.toNat_natCast] at e2 e3
      rw [e2, e3]
    · have hk' : ∀ j, j < l.length → True → sAt l j ≠ k := fun j hj _ e => hk ⟨j, hj, e⟩
      rw [h3 k hk', k3 k hk']
  rw [← h1.slots.2.2.2.2, ← k1.slots.2.2.2.2, this]
theorem ord_loop2 (F : Nat) (z : Bool) (l : List (List AV)) (es : List (AV × AV)) (hc : Calls' l) (hg : greatB l = false) (hne : ∀ a b, a < l.length → b < l.length → sAt l a = sAt l b → a = b) : ∀ (k m i : Nat) (y u : Bool) (p q : List Nat), i + k = l.length → k < m → Has l (fun j => j < i) p → Has l (fun j => l.length - i ≤ j) q →
    (∃ st, loopRun (f3_l1.run F) [0, 3, 4, 7] (ordK2 F) m (Env.mk 93 [(0, .ns z 3 l), (3, .ns y 1 (bR p)), (4, .ns u 1 (bR q)), (7, .int .i64 (i : Int))]) ⟨[.map es], []⟩ = some (.ret (.bool true), st)) ∨
    (∃ y' u' p', Pg p' ∧ loopRun (f3_l1.run F) [0, 3, 4, 7] (ordK2 F) m (Env.mk 93 [(0, .ns z 3 l), (3, .ns y 1 (bR p)), (4, .ns u 1 (bR q)), (7, .int .i64 (i : Int))]) ⟨[.map es], []⟩ = ordK2 F (.exit 2) (Env.mk 93 [(3, .ns y' 1 (bR p')), (4, .ns u' 1 (bR p'))]) ⟨[.map es], []⟩)
  | k, 0, i, y, u, p, q, hi, hm, hp, hq => by omega
  | 0, m + 1, i, y, u, p, q, hi, hm, hp, hq => by
    have hp' : Has l (fun _ => True) p := ⟨hp.1, fun j hj _ => hp.2.1 j hj (by omega), fun k hk => hp.2.2 k fun j hj _ => hk j hj trivial⟩
    have hq' : Has l (fun _ => True) q := ⟨hq.1, fun j hj _ => hq.2.1 j hj (by omega), fun k hk => hq.2.2 k fun j hj _ => hk j hj trivial⟩
    obtain rfl := hp'.same hq'
    exact .inr ⟨y, u, p, hp.1, by rw [show m + 1 = m.succ from rfl, order_round2, branch_not (by simp; omega)]⟩
  | k + 1, m + 1, i, y, u, p, q, hi, hm, hp, hq => by
    have h1 : i < l.length := by omega
    have h2 : l.length - 1 - i < l.length := by omega
    have h100 := great_len hg
    obtain ⟨c1, c2, c3, c4⟩ := call_at hc hg h1
    obtain ⟨e1, e2, e3, e4⟩ := call_at hc hg h2
    obtain ⟨s1, s2⟩ := slot_at hc h1
    obtain ⟨t1, t2⟩ := slot_at hc h2
    have w0 : IntKind.i64.wrap ((i : Int) + 1) = ((i + 1 : Nat) : Int) := wrap_succ (by omega)
    have w1 : IntKind.i64.wrap ((l.length : Int) - 1) = (l.length : Int) - 1 := wrapS (by omega) (by omega)
    have w2 : IntKind.i64.wrap ((l.length : Int) - 1 - i) = ((l.length - 1 - i : Nat) : Int) := by
      rw [wrapS (by omega) (by omega)]; omega
    have hbp : byOk (bR p) = true := byOk_bR hp.1.1 (by rw [hp.1.2.1]; omega)
    have hbq : byOk (bR q) = true := byOk_bR hq.1.1 (by rw [hq.1.2.1]; omega)
    rw [show m + 1 = m.succ from rfl, order_round2, w1, w2, branch_of (by simpa using h1), branch_of (inR_nat h1), branch_of s1, branch_of (inR_nat h1), branch_of c1, branch_of (by rw [hbp, c2, c3]; rfl), branch_of (inR_nat h2), branch_of t1, branch_of (inR_nat h2), branch_of e1, branch_of (by rw [hbq, e2, e3]; rfl), nR_bR, nR_bR, w0]
    have ex : putP p (hdI (List.drop 1 (V.rowAt l (i : Int)))) (nR (rwA (List.drop 2 (V.rowAt l (i : Int))))) = putP p (sAt l i) (dAt l i) := rfl
    have ey : putP q (hdI (List.drop 1 (V.rowAt l ((l.length - 1 - i : Nat) : Int)))) (nR (rwA (List.drop 2 (V.rowAt l ((l.length - 1 - i : Nat) : Int))))) = putP q (sAt l (l.length - 1 - i)) (dAt l (l.length - 1 - i)) := rfl
    rw [ex, ey]
    cases ha : putP p (sAt l i) (dAt l i) with
    | none => exact .inl ⟨_, branch_of (by rw [oB_none]; rfl)⟩
    | some p' =>
      rw [branch_not (b := !oB (some p')) (by rw [oB_some]; rfl)]
      cases hb : putP q (sAt l (l.length - 1 - i)) (dAt l (l.length - 1 - i)) with
      | none => exact .inl ⟨_, branch_of (by rw [oB_none]; rfl)⟩
      | some q' =>
        rw [branch_not (b := !oB (some q')) (by rw [oB_some]; rfl)]
        have hp' : Has l (fun j => j < i + 1) p' := hp.put h1 hne (fun j hj => by omega) (by omega) c4 (by rw [dAt, nR_length]; exact s2) ha
        have hq' : Has l (fun j => l.length - (i + 1) ≤ j) q' := hq.put h2 hne (fun j hj => by omega) (by omega) e4 (by rw [dAt, nR_length]; exact t2) hb
        have ih := ord_loop2 F z l es hc hg hne k m (i + 1) (!oB (some p')) (!oB (some q')) p' q' (by omega) (by omega) hp' hq'
        rw [oR_some, oR_some]
        exact ih
theorem pageOrder_true (z : Bool) (l : List (List AV)) (hc : Calls' l) (hl : l.length < 4611686018427387904) : ∃ F st, f3.run F [.ns z 3 l] ⟨[], []⟩ = some (.ret (.bool true), st) := by
  refine ⟨l.length + 1000, ?_⟩
  rw [order_run, branch_of (hc.ok hl)]
  cases hg : greatB l with
  | true => exact ⟨_, rfl⟩
  | false =>
    rw [branch_false, zeroP_eq, show (0 : Int) = ((0 : Nat) : Int) from rfl]
    obtain ⟨z0, z1⟩ := zeros_pg
    have hnil : ∀ k, getS (ofS (List.replicate 256 0)) k = none := fun k => by rw [z1]; exact getS_ge (Nat.zero_le _)
    rcases ord_loop (l.length + 1000) z false false l (bR (List.replicate 256 0)) (bR (List.replicate 256 0)) hc (great_len hg) l.length (l.length + 1000) 0 [] (by omega) (by omega) rfl (fun j h => by simp at h) List.nodup_nil with ⟨st, h⟩ | ⟨es, hne, h⟩
    · exact ⟨st, h⟩
    · rcases ord_loop2 (l.length + 1000) z l es hc hg hne l.length (l.length + 1000) 0 false false (List.replicate 256 0) (List.replicate 256 0) (by omega) (by omega) ⟨z0, fun j _ hj => by omega, fun k _ => hnil k⟩ ⟨z0, fun j hj hj' => by omega, fun k _ => hnil k⟩ with ⟨st, h2⟩ | ⟨y, u, p, hp, h2⟩
      · refine ⟨st, h.trans ?_⟩
        rw [ordK, order_out (i := 0)]
        exact h2
      · have hbp : byOk (bR p) = true := byOk_bR hp.1 (by rw [hp.2.1]; omega)
        refine ⟨⟨[.map es], []⟩, h.trans ?_⟩
        rw [ordK, order_out (i := 0)]
        refine h2.trans ?_
        rw [ordK2, order_out2, branch_of (by rw [hbp]; rfl), nR_bR]
        simp
theorem pageOrder_law (as0 : List AV) (s0 : Ty.Shape tyCalls as0) : ∃ F st, f3.run F [tyCalls.AV' as0] ⟨[], []⟩ = some (.ret (.bool true), st) := by
  obtain ⟨z, l, rfl, h1, h2⟩ := calls_shape s0
  exact pageOrder_true z l h1 h2
end Go.Proofs.Ytblliolkgkgppaa.V

/- The functions' pieces, as told by gen.py. -/
set_option linter.unusedVariables false
set_option maxRecDepth 20000
namespace Go.Proofs.Ytblliolkgkgppaa.V
open Go Go.V Go.RowKit

theorem fl53_0 : fieldB Try.prog 53 0 0 1 false = true := by kernel_rfl
theorem sz43 : (Try.prog.info? 43).map (·.size) = some 1 := by kernel_rfl

/-! ### 38: (interlock/interlockref06.Page).Bytes (53); results 2, 3; slots: 0 p, 1 p, 4 out, 5 end, 6 i, 7 n -/
/-- A loop's round; at its head live: 1 p, 4 out, 5 end, 6 i -/
noncomputable def f38_l0 : Sim Try.prog :=
  (.seq (.seq (.live [1, 4, 5, 6, 23] (.region 7 [
    ⟨(opMove (some 19) (.tmp 6) 3 "ref.go:25" #[]).op, none⟩,
    ⟨(opFieldAddr (some 20) 53 (.tmp 1) 0 0 1 false fl53_0 (by decide) 0 "ref.go:25" #[]).op, none⟩,
    ⟨(opLoadT (.one .any) (some 21) 43 (.tmp 20) (.slice 25) Try.underlying43 1 sz43 (by kernel_rfl) 43 "ref.go:25" #[{ on := 1, ground := Ground.data }]).op, none⟩,
    ⟨(opLen (some 22) (.tmp 21) 43 (.slice 25) Try.underlying43 3 "ref.go:25" #[{ on := 2, ground := Ground.data }]).op, none⟩,
    ⟨(opBin (some 23) .lss 3 (.tmp 19) (.tmp 22) 3 4 "ref.go:25" #[{ on := 0, ground := Ground.data }, { on := 3, ground := Ground.data }]).op, none⟩
  ] (by kernel_rfl)))
  (.cond (.tmp 23)
    .skip
    (.live [1, 4, 5] (.exit 0))))
  (.seq (.block 1 (.seq (.seq (.live [1, 4, 5, 6, 31] (.region 9 [
      ⟨(opFieldAddr (some 26) 53 (.tmp 1) 0 0 1 false fl53_0 (by decide) 0 "ref.go:26" #[]).op, none⟩,
      ⟨(opLoadT (.one .any) (some 27) 43 (.tmp 26) (.slice 25) Try.underlying43 1 sz43 (by kernel_rfl) 43 "ref.go:26" #[{ on := 0, ground := Ground.data }]).op, none⟩,
      ⟨(opMove (some 28) (.tmp 6) 3 "ref.go:26" #[]).op, none⟩,
      ⟨(opIndexAddrT (some 29) 43 (.tmp 27) (.tmp 28) 25 1 Try.underlying43 sz25 0 "ref.go:26" #[{ on := 1, ground := Ground.data }, { on := 2, ground := Ground.data }]).op, none⟩,
      ⟨(opLoadT (.one (.ns 1)) (some 30) 25 (.tmp 29) (.slice 5) Try.underlying25 1 sz25 (by kernel_rfl) 25 "ref.go:26" #[{ on := 3, ground := Ground.data }]).op, none⟩,
      ⟨(opEq (some 31) 25 (.slice 5) Try.underlying25 (.tmp 30) (.const (Value.slice none 0 0)) (.inl rfl) 25 4 "ref.go:26" #[{ on := 4, ground := Ground.data }]).op, none⟩
    ] (by kernel_rfl)))
    (.cond (.tmp 31)
      (.live [1, 4, 5, 6] (.exit 1))
      .skip))
    (.seq (.live [1, 4, 5, 6, 7] (.region 10 [
      ⟨(opFieldAddr (some 32) 53 (.tmp 1) 0 0 1 false fl53_0 (by decide) 0 "ref.go:29" #[]).op, none⟩,
      ⟨(opLoadT (.one .any) (some 33) 43 (.tmp 32) (.slice 25) Try.underlying43 1 sz43 (by kernel_rfl) 43 "ref.go:29" #[{ on := 0, ground := Ground.data }]).op, none⟩,
      ⟨(opMove (some 34) (.tmp 6) 3 "ref.go:29" #[]).op, none⟩,
      ⟨(opIndexAddrT (some 35) 43 (.tmp 33) (.tmp 34) 25 1 Try.underlying43 sz25 0 "ref.go:29" #[{ on := 1, ground := Ground.data }, { on := 2, ground := Ground.data }]).op, none⟩,
      ⟨(opLoadT (.one (.ns 1)) (some 36) 25 (.tmp 35) (.slice 5) Try.underlying25 1 sz25 (by kernel_rfl) 25 "ref.go:29" #[{ on := 3, ground := Ground.data }]).op, none⟩,
      ⟨(opLen (some 37) (.tmp 36) 25 (.slice 5) Try.underlying25 3 "ref.go:29" #[{ on := 4, ground := Ground.data }]).op, none⟩,
      ⟨(opAssign (some 7) (.tmp 37) 3 "ref.go:29" #[{ on := 5, ground := Ground.data }, { on := 0, ground := Ground.phase }, { on := 1, ground := Ground.phase }, { on := 2, ground := Ground.phase }, { on := 3, ground := Ground.phase }, { on := 4, ground := Ground.phase }, { on := 5, ground := Ground.phase }]).op, none⟩
    ] (by kernel_rfl)))
    (.seq (.seq (.live [1, 4, 5, 6, 7, 49] (.region 11 [
      ⟨(opMove (some 38) (.tmp 7) 3 "ref.go:30" #[]).op, none⟩,
      ⟨(opBin (some 39) .gtr 3 (.tmp 38) (.const (Value.int IntKind.i64 200)) 3 4 "ref.go:30" #[{ on := 0, ground := Ground.data }]).op, none⟩,
      ⟨(opMove (some 40) (.tmp 39) 4 "ref.go:30" #[{ on := 1, ground := Ground.data }]).op, none⟩,
      ⟨(opMove (some 41) (.tmp 5) 3 "ref.go:30" #[{ on := 2, ground := Ground.guard }]).op, (some (2, 40, false))⟩,
      ⟨(opMove (some 42) (.tmp 7) 3 "ref.go:30" #[{ on := 2, ground := Ground.guard }]).op, (some (2, 40, false))⟩,
      ⟨(opBin (some 43) .sub 3 (.tmp 41) (.tmp 42) 3 3 "ref.go:30" #[{ on := 3, ground := Ground.data }, { on := 4, ground := Ground.data }, { on := 2, ground := Ground.guard }]).op, (some (2, 40, false))⟩,
      ⟨(opFieldAddr (some 44) 53 (.tmp 1) 0 0 1 false fl53_0 (by decide) 0 "ref.go:30" #[{ on := 2, ground := Ground.guard }]).op, (some (2, 40, false))⟩,
      ⟨(opLoadT (.one .any) (some 45) 43 (.tmp 44) (.slice 25) Try.underlying43 1 sz43 (by kernel_rfl) 43 "ref.go:30" #[{ on := 6, ground := Ground.data }, { on := 2, ground := Ground.guard }]).op, (some (2, 40, false))⟩,
      ⟨(opLen (some 46) (.tmp 45) 43 (.slice 25) Try.underlying43 3 "ref.go:30" #[{ on := 7, ground := Ground.data }, { on := 2, ground := Ground.guard }]).op, (some (2, 40, false))⟩,
      ⟨(opBin (some 47) .add 3 (.const (Value.int IntKind.i64 1)) (.tmp 46) 3 3 "ref.go:30" #[{ on := 8, ground := Ground.data }, { on := 2, ground := Ground.guard }]).op, (some (2, 40, false))⟩,
      ⟨(opBin (some 48) .lss 3 (.tmp 43) (.tmp 47) 3 4 "ref.go:30" #[{ on := 5, ground := Ground.data }, { on := 9, ground := Ground.data }, { on := 2, ground := Ground.guard }]).op, (some (2, 40, false))⟩,
      ⟨(opPick (some 49) (.tmp 40) (.const (Value.bool true)) (.tmp 48) 4 "ref.go:30" #[{ on := 2, ground := Ground.data }, { on := 10, ground := Ground.data }]).op, none⟩
    ] (by kernel_rfl)))
    (.cond (.tmp 49)
      (.seq (.live [2, 3] (.region 12 [
        ⟨(opAssign (some 2) (.const (Value.slice none 0 0)) 25 "ref.go:31" #[]).op, none⟩,
        ⟨(opAssign (some 3) (.const (Value.bool false)) 4 "ref.go:31" #[{ on := 0, ground := Ground.chain }, { on := 0, ground := Ground.phase }]).op, none⟩
      ] (by kernel_rfl)))
      (.live [2, 3] .ret))
      .skip))
    (.seq (.live [1, 4, 5, 6, 7] (.region 13 [
      ⟨(opMove (some 50) (.tmp 4) 25 "ref.go:33" #[]).op, none⟩,
      ⟨(opMove (some 51) (.tmp 6) 3 "ref.go:33" #[]).op, none⟩,
      ⟨(opBin (some 52) .add 3 (.const (Value.int IntKind.i64 1)) (.tmp 51) 3 3 "ref.go:33" #[{ on := 1, ground := Ground.data }]).op, none⟩,
      ⟨(opMove (some 53) (.tmp 7) 3 "ref.go:33" #[]).op, none⟩,
      ⟨(opBin (some 54) .add 3 (.tmp 53) (.const (Value.int IntKind.i64 1)) 3 3 "ref.go:33" #[{ on := 3, ground := Ground.data }]).op, none⟩,
      ⟨(opConvInt (some 55) 3 5 (.tmp 54) (.int .i64) Try.underlying3 .u8 Try.underlying5 5 "ref.go:33" #[{ on := 4, ground := Ground.data }]).op, none⟩,
      ⟨(opIndexAddrT (some 56) 25 (.tmp 50) (.tmp 52) 5 1 Try.underlying25 sz5 0 "ref.go:33" #[{ on := 0, ground := Ground.data }, { on := 2, ground := Ground.data }, { on := 0, ground := Ground.phase }, { on := 1, ground := Ground.phase }, { on := 2, ground := Ground.phase }, { on := 3, ground := Ground.phase }, { on := 4, ground := Ground.phase }, { on := 5, ground := Ground.phase }]).op, none⟩,
      ⟨(opStoreC none 5 (.tmp 56) (.tmp 55) 1 sz5 0 "ref.go:33" #[{ on := 6, ground := Ground.data }, { on := 5, ground := Ground.data }, { on := 0, ground := Ground.phase }, { on := 1, ground := Ground.phase }, { on := 2, ground := Ground.phase }, { on := 3, ground := Ground.phase }, { on := 4, ground := Ground.phase }, { on := 5, ground := Ground.phase }]).op, none⟩
    ] (by kernel_rfl)))
    (.seq (.live [1, 4, 5, 6] (.region 14 [
      ⟨(opMove (some 57) (.tmp 5) 3 "ref.go:34" #[]).op, none⟩,
      ⟨(opMove (some 58) (.tmp 7) 3 "ref.go:34" #[]).op, none⟩,
      ⟨(opBin (some 59) .sub 3 (.tmp 57) (.tmp 58) 3 3 "ref.go:34" #[{ on := 0, ground := Ground.data }, { on := 1, ground := Ground.data }]).op, none⟩,
      ⟨(opAssign (some 5) (.tmp 59) 3 "ref.go:34" #[{ on := 2, ground := Ground.data }, { on := 0, ground := Ground.phase }, { on := 1, ground := Ground.phase }, { on := 2, ground := Ground.phase }]).op, none⟩
    ] (by kernel_rfl)))
    (.live [1, 4, 5, 6] (.draw 15 [
      ⟨.p (opMove (some 60) (.tmp 4) 25 "ref.go:35" #[]), none⟩,
      ⟨.p (opMove (some 61) (.tmp 5) 3 "ref.go:35" #[]), none⟩,
      ⟨.pn (opSlice (some 62) 25 (.tmp 60) (some (.tmp 61)) none none 5 1 Try.underlying25 sz5 25 "ref.go:35" #[{ on := 0, ground := Ground.data }, { on := 1, ground := Ground.data }]) opSlice_nat, none⟩,
      ⟨.pn (opFieldAddr (some 63) 53 (.tmp 1) 0 0 1 false fl53_0 (by decide) 0 "ref.go:35" #[]) opFieldAddr_nat, none⟩,
      ⟨.qn (opLoadT (.one .any) (some 64) 43 (.tmp 63) (.slice 25) Try.underlying43 1 sz43 (by kernel_rfl) 43 "ref.go:35" #[{ on := 3, ground := Ground.data }]) opLoadT_nat, none⟩,
      ⟨.p (opMove (some 65) (.tmp 6) 3 "ref.go:35" #[]), none⟩,
      ⟨.pn (opIndexAddrT (some 66) 43 (.tmp 64) (.tmp 65) 25 1 Try.underlying43 sz25 0 "ref.go:35" #[{ on := 4, ground := Ground.data }, { on := 5, ground := Ground.data }]) opIndexAddrT_nat, none⟩,
      ⟨.qn (opLoadT (.one (.ns 1)) (some 67) 25 (.tmp 66) (.slice 5) Try.underlying25 1 sz25 (by kernel_rfl) 25 "ref.go:35" #[{ on := 6, ground := Ground.data }]) opLoadT_nat, none⟩,
      ⟨.mn (opCopyV (some 68) (.tmp 62) (.tmp 67) 25 25 5 1 Try.underlying25 sz5 3 "ref.go:35" #[{ on := 2, ground := Ground.data }, { on := 7, ground := Ground.data }]) opCopyV_nat, none⟩
    ] mixed (by kernel_rfl)))))))))
  (.live [1, 4, 5, 6] (.region 8 [
    ⟨(opMove (some 24) (.tmp 6) 3 "ref.go:25" #[]).op, none⟩,
    ⟨(opBin (some 25) .add 3 (.tmp 24) (.const (Value.int IntKind.i64 1)) 3 3 "ref.go:25" #[{ on := 0, ground := Ground.data }]).op, none⟩,
    ⟨(opAssign (some 6) (.tmp 25) 3 "ref.go:25" #[{ on := 1, ground := Ground.data }, { on := 0, ground := Ground.phase }, { on := 1, ground := Ground.phase }]).op, none⟩
  ] (by kernel_rfl)))))

/-- What follows a loop. -/
noncomputable def f38_r0 : Sim Try.prog :=
  (.seq (.seq (.live [4, 74] (.region 16 [
    ⟨(opFieldAddr (some 69) 53 (.tmp 1) 0 0 1 false fl53_0 (by decide) 0 "ref.go:37" #[]).op, none⟩,
    ⟨(opLoadT (.one .any) (some 70) 43 (.tmp 69) (.slice 25) Try.underlying43 1 sz43 (by kernel_rfl) 43 "ref.go:37" #[{ on := 0, ground := Ground.data }]).op, none⟩,
    ⟨(opLen (some 71) (.tmp 70) 43 (.slice 25) Try.underlying43 3 "ref.go:37" #[{ on := 1, ground := Ground.data }]).op, none⟩,
    ⟨(opBin (some 72) .add 3 (.const (Value.int IntKind.i64 1)) (.tmp 71) 3 3 "ref.go:37" #[{ on := 2, ground := Ground.data }]).op, none⟩,
    ⟨(opMove (some 73) (.tmp 5) 3 "ref.go:37" #[]).op, none⟩,
    ⟨(opBin (some 74) .gtr 3 (.tmp 72) (.tmp 73) 3 4 "ref.go:37" #[{ on := 3, ground := Ground.data }, { on := 4, ground := Ground.data }]).op, none⟩
  ] (by kernel_rfl)))
  (.cond (.tmp 74)
    (.seq (.live [2, 3] (.region 17 [
      ⟨(opAssign (some 2) (.const (Value.slice none 0 0)) 25 "ref.go:38" #[]).op, none⟩,
      ⟨(opAssign (some 3) (.const (Value.bool false)) 4 "ref.go:38" #[{ on := 0, ground := Ground.chain }, { on := 0, ground := Ground.phase }]).op, none⟩
    ] (by kernel_rfl)))
    (.live [2, 3] .ret))
    .skip))
  (.seq (.live [2, 3] (.region 18 [
    ⟨(opMove (some 75) (.tmp 4) 25 "ref.go:40" #[]).op, none⟩,
    ⟨(opAssign (some 2) (.tmp 75) 25 "ref.go:40" #[{ on := 0, ground := Ground.data }, { on := 0, ground := Ground.phase }]).op, none⟩,
    ⟨(opAssign (some 3) (.const (Value.bool true)) 4 "ref.go:40" #[{ on := 1, ground := Ground.chain }, { on := 0, ground := Ground.phase }, { on := 1, ground := Ground.phase }]).op, none⟩
  ] (by kernel_rfl)))
  (.live [2, 3] .ret)))

noncomputable def f38_b : Sim Try.prog :=
  (.seq (.live [1] (.region 0 [
    ⟨(opBoxF (some 1) 53 (.tmp 0) 0 "ref.go:18" #[]).op, none⟩,
    ⟨(opAssign (some 2) (.const (Value.slice none 0 0)) 25 "ref.go:18" #[]).op, none⟩,
    ⟨(opAssign (some 3) (.const (Value.bool false)) 4 "ref.go:18" #[{ on := 1, ground := Ground.chain }]).op, none⟩
  ] (by kernel_rfl)))
  (.seq (.live [1, 4] (.region 1 [
    ⟨(opMakeC (some 8) 25 (.const (Value.int IntKind.i64 256)) 5 1 1 (.int .u8 0) el25 [AV.int .u8 0] (by kernel_rfl) (by kernel_rfl) 25 "ref.go:19" #[]).op, none⟩,
    ⟨(opAssign (some 4) (.tmp 8) 25 "ref.go:19" #[{ on := 0, ground := Ground.data }, { on := 0, ground := Ground.phase }]).op, none⟩
  ] (by kernel_rfl)))
  (.seq (.seq (.live [1, 4, 12] (.region 2 [
    ⟨(opFieldAddr (some 9) 53 (.tmp 1) 0 0 1 false fl53_0 (by decide) 0 "ref.go:20" #[]).op, none⟩,
    ⟨(opLoadT (.one .any) (some 10) 43 (.tmp 9) (.slice 25) Try.underlying43 1 sz43 (by kernel_rfl) 43 "ref.go:20" #[{ on := 0, ground := Ground.data }]).op, none⟩,
    ⟨(opLen (some 11) (.tmp 10) 43 (.slice 25) Try.underlying43 3 "ref.go:20" #[{ on := 1, ground := Ground.data }]).op, none⟩,
    ⟨(opBin (some 12) .gtr 3 (.tmp 11) (.const (Value.int IntKind.i64 255)) 3 4 "ref.go:20" #[{ on := 2, ground := Ground.data }]).op, none⟩
  ] (by kernel_rfl)))
  (.cond (.tmp 12)
    (.seq (.live [2, 3] (.region 3 [
      ⟨(opAssign (some 2) (.const (Value.slice none 0 0)) 25 "ref.go:21" #[]).op, none⟩,
      ⟨(opAssign (some 3) (.const (Value.bool false)) 4 "ref.go:21" #[{ on := 0, ground := Ground.chain }, { on := 0, ground := Ground.phase }]).op, none⟩
    ] (by kernel_rfl)))
    (.live [2, 3] .ret))
    .skip))
  (.seq (.live [1, 4] (.region 4 [
    ⟨(opMove (some 13) (.tmp 4) 25 "ref.go:23" #[]).op, none⟩,
    ⟨(opFieldAddr (some 14) 53 (.tmp 1) 0 0 1 false fl53_0 (by decide) 0 "ref.go:23" #[]).op, none⟩,
    ⟨(opLoadT (.one .any) (some 15) 43 (.tmp 14) (.slice 25) Try.underlying43 1 sz43 (by kernel_rfl) 43 "ref.go:23" #[{ on := 1, ground := Ground.data }]).op, none⟩,
    ⟨(opLen (some 16) (.tmp 15) 43 (.slice 25) Try.underlying43 3 "ref.go:23" #[{ on := 2, ground := Ground.data }]).op, none⟩,
    ⟨(opConvInt (some 17) 3 5 (.tmp 16) (.int .i64) Try.underlying3 .u8 Try.underlying5 5 "ref.go:23" #[{ on := 3, ground := Ground.data }]).op, none⟩,
    ⟨(opIndexAddrT (some 18) 25 (.tmp 13) (.const (Value.int IntKind.i64 0)) 5 1 Try.underlying25 sz5 0 "ref.go:23" #[{ on := 0, ground := Ground.data }, { on := 0, ground := Ground.phase }, { on := 1, ground := Ground.phase }, { on := 2, ground := Ground.phase }, { on := 3, ground := Ground.phase }, { on := 4, ground := Ground.phase }]).op, none⟩,
    ⟨(opStoreC none 5 (.tmp 18) (.tmp 17) 1 sz5 0 "ref.go:23" #[{ on := 5, ground := Ground.data }, { on := 4, ground := Ground.data }, { on := 0, ground := Ground.phase }, { on := 1, ground := Ground.phase }, { on := 2, ground := Ground.phase }, { on := 3, ground := Ground.phase }, { on := 4, ground := Ground.phase }]).op, none⟩
  ] (by kernel_rfl)))
  (.seq (.live [1, 4, 5] (.region 5 [
    ⟨(opAssign (some 5) (.const (Value.int IntKind.i64 256)) 3 "ref.go:24" #[]).op, none⟩
  ] (by kernel_rfl)))
  (.seq (.seq (.live [1, 4, 5, 6] (.region 6 [
    ⟨(opAssign (some 6) (.const (Value.int IntKind.i64 0)) 3 "ref.go:25" #[]).op, none⟩
  ] (by kernel_rfl)))
  (.block 0 (.loop [1, 4, 5, 6] f38_l0)))
  f38_r0))))))

noncomputable def f38 : Fun Try.prog where
  id := 38
  fn := Try.f38
  hf := Try.func38
  hname := by kernel_rfl
  body := f38_b
  hbody := by kernel_rfl
  res := [rTmp 2, rTmp 3]
  hres := by kernel_rfl
  n := 76
  hn := by kernel_rfl

/-! ### 39: interlock/interlockref06.trim (43); results 2; slots: 0 l, 1 l -/
/-- A loop's round; at its head live: 0 l -/
noncomputable def f39_l0 : Sim Try.prog :=
  (.seq (.seq (.live [0, 14] (.region 1 [
    ⟨(opMove (some 3) (.tmp 0) 43 "ref.go:11" #[]).op, none⟩,
    ⟨(opLen (some 4) (.tmp 3) 43 (.slice 25) Try.underlying43 3 "ref.go:11" #[{ on := 0, ground := Ground.data }]).op, none⟩,
    ⟨(opBin (some 5) .gtr 3 (.tmp 4) (.const (Value.int IntKind.i64 0)) 3 4 "ref.go:11" #[{ on := 1, ground := Ground.data }]).op, none⟩,
    ⟨(opMove (some 6) (.tmp 5) 4 "ref.go:11" #[{ on := 2, ground := Ground.data }]).op, none⟩,
    ⟨(opMove (some 7) (.tmp 0) 43 "ref.go:11" #[{ on := 3, ground := Ground.guard }]).op, (some (3, 6, true))⟩,
    ⟨(opMove (some 8) (.tmp 0) 43 "ref.go:11" #[{ on := 3, ground := Ground.guard }]).op, (some (3, 6, true))⟩,
    ⟨(opLen (some 9) (.tmp 8) 43 (.slice 25) Try.underlying43 3 "ref.go:11" #[{ on := 5, ground := Ground.data }, { on := 3, ground := Ground.guard }]).op, (some (3, 6, true))⟩,
    ⟨(opBin (some 10) .sub 3 (.tmp 9) (.const (Value.int IntKind.i64 1)) 3 3 "ref.go:11" #[{ on := 6, ground := Ground.data }, { on := 3, ground := Ground.guard }]).op, (some (3, 6, true))⟩,
    ⟨(opIndexAddrT (some 11) 43 (.tmp 7) (.tmp 10) 25 1 Try.underlying43 sz25 0 "ref.go:11" #[{ on := 4, ground := Ground.data }, { on := 7, ground := Ground.data }, { on := 3, ground := Ground.guard }]).op, (some (3, 6, true))⟩,
    ⟨(opLoadT (.one (.ns 1)) (some 12) 25 (.tmp 11) (.slice 5) Try.underlying25 1 sz25 (by kernel_rfl) 25 "ref.go:11" #[{ on := 8, ground := Ground.data }, { on := 3, ground := Ground.guard }]).op, (some (3, 6, true))⟩,
    ⟨(opEq (some 13) 25 (.slice 5) Try.underlying25 (.tmp 12) (.const (Value.slice none 0 0)) (.inl rfl) 25 4 "ref.go:11" #[{ on := 9, ground := Ground.data }, { on := 3, ground := Ground.guard }]).op, (some (3, 6, true))⟩,
    ⟨(opPick (some 14) (.tmp 6) (.tmp 13) (.const (Value.bool false)) 4 "ref.go:11" #[{ on := 3, ground := Ground.data }, { on := 10, ground := Ground.data }]).op, none⟩
  ] (by kernel_rfl)))
  (.cond (.tmp 14)
    .skip
    (.live [0] (.exit 0))))
  (.block 1 (.live [0] (.region 2 [
      ⟨(opMove (some 15) (.tmp 0) 43 "ref.go:12" #[]).op, none⟩,
      ⟨(opMove (some 16) (.tmp 0) 43 "ref.go:12" #[]).op, none⟩,
      ⟨(opLen (some 17) (.tmp 16) 43 (.slice 25) Try.underlying43 3 "ref.go:12" #[{ on := 1, ground := Ground.data }]).op, none⟩,
      ⟨(opBin (some 18) .sub 3 (.tmp 17) (.const (Value.int IntKind.i64 1)) 3 3 "ref.go:12" #[{ on := 2, ground := Ground.data }]).op, none⟩,
      ⟨(opSlice (some 19) 43 (.tmp 15) none (some (.tmp 18)) none 25 1 Try.underlying43 sz25 43 "ref.go:12" #[{ on := 0, ground := Ground.data }, { on := 3, ground := Ground.data }]).op, none⟩,
      ⟨(opAssign (some 0) (.tmp 19) 43 "ref.go:12" #[{ on := 4, ground := Ground.data }, { on := 0, ground := Ground.phase }, { on := 1, ground := Ground.phase }, { on := 2, ground := Ground.phase }, { on := 3, ground := Ground.phase }, { on := 4, ground := Ground.phase }]).op, none⟩
    ] (by kernel_rfl)))))

/-- What follows a loop. -/
noncomputable def f39_r0 : Sim Try.prog :=
  (.seq (.live [2] (.region 3 [
    ⟨(opMove (some 20) (.tmp 0) 43 "ref.go:14" #[]).op, none⟩,
    ⟨(opAssign (some 2) (.tmp 20) 43 "ref.go:14" #[{ on := 0, ground := Ground.data }, { on := 0, ground := Ground.phase }]).op, none⟩
  ] (by kernel_rfl)))
  (.live [2] .ret))

noncomputable def f39_b : Sim Try.prog :=
  (.seq (.live [0] (.region 0 [
    ⟨(opAssign (some 2) (.const (Value.slice none 0 0)) 43 "ref.go:10" #[]).op, none⟩
  ] (by kernel_rfl)))
  (.seq (.block 0 (.loop [0] f39_l0))
  f39_r0))

noncomputable def f39 : Fun Try.prog where
  id := 39
  fn := Try.f39
  hf := Try.func39
  hname := by kernel_rfl
  body := f39_b
  hbody := by kernel_rfl
  res := [rTmp 2]
  hres := by kernel_rfl
  n := 21
  hn := by kernel_rfl

end Go.Proofs.Ytblliolkgkgppaa.V

/- What the functions' runs come to; the right sides were printed by a tool, Lean checks them. -/
set_option linter.unusedVariables false
set_option maxRecDepth 100000
namespace Go.Proofs.Ytblliolkgkgppaa.V
open Go Go.V Go.RowKit

theorem by_run (F : Nat) (z : Bool) (l : List (List AV)) :
    (f38.run F [.agg [.ns z 1 l]] ⟨[], []⟩ : Ans) =
    branch (AV.bool (mkOk 1 (256 : Int)))
      (branch (AV.bool (decide ((↑l.length : Int) > (255 : Int))))
        (some
          (Fin.ret (AV.tup [AV.nilsl, AV.bool false]),
            St.mk [Ob.cells (zerC 256 [AV.int IntKind.u8 (0 : Int)])] []))
        (branch (AV.bool (true && inC (zerC 256 [AV.int IntKind.u8 (0 : Int)]) 0 1))
          (loopRun (f38_l0.run F) [1, 4, 5, 6]
            (Cont.block 0 (Cont.then (f38_r0.run F (f38.leaveK Fun.done)) (f38.leaveK Fun.done))) F
            (Env.mk 76
              [(1, AV.eptr [AV.ns z 1 l]),
                (4, AV.ms 0 1 0 256 256),
                (5, AV.int IntKind.i64 (256 : Int)), (6, AV.int IntKind.i64 (0 : Int))])
            (St.mk
              [Ob.cells
                  (setC (zerC 256 [AV.int IntKind.u8 (0 : Int)]) 0
                    [AV.int IntKind.u8 (IntKind.u8.wrap (↑l.length : Int))])]
              []))
          none))
      none := by kernel_rfl

theorem by_round (F m : Nat) (K : Cont) (z : Bool) (l : List (List AV)) (cs : List AV) (e i : Int) :
    (loopRun (f38_l0.run F) [1, 4, 5, 6] K m.succ (Env.mk 76 [(1, .eptr [.ns z 1 l]), (4, .ms 0 1 0 256 256), (5, .int .i64 e), (6, .int .i64 i)]) ⟨[.cells cs], []⟩ : Ans) =
    branch (AV.bool (decide (i < (↑l.length : Int))))
      (branch (AV.bool (inR l i))
        (branch (AV.bool ((LD.one (LT.ns 1)).is (V.rowAt l i)))
          (branch (AV.bool (nilA (V.rowAt l i)))
            (loopRun (f38_l0.run F) [1, 4, 5, 6] K m
              (Env.mk 76
                [(1, AV.eptr [AV.ns z 1 l]),
                  (4, AV.ms 0 1 0 256 256),
                  (5, AV.int IntKind.i64 e), (6, AV.int IntKind.i64 (IntKind.i64.wrap (i + (1 : Int))))])
              (St.mk [Ob.cells cs] []))
            (branch (AV.bool (inR l i))
              (branch (AV.bool ((LD.one (LT.ns 1)).is (V.rowAt l i)))
                (branch (AV.bool (decide ((↑(rwA (V.rowAt l i)).length : Int) > (200 : Int))))
                  (K AX.ret (Env.mk 76 [(2, AV.nilsl), (3, AV.bool false)])
                    (St.mk [Ob.cells cs] []))
                  (branch
                    (AV.bool
                      (decide
                        (IntKind.i64.wrap (e - (↑(rwA (V.rowAt l i)).length : Int)) <
                          IntKind.i64.wrap ((1 : Int) + (↑l.length : Int)))))
                    (K AX.ret (Env.mk 76 [(2, AV.nilsl), (3, AV.bool false)])
                      (St.mk [Ob.cells cs] []))
                    (if (0 : Int) ≤ IntKind.i64.wrap ((1 : Int) + i) ∧ IntKind.i64.wrap ((1 : Int) + i) < (256 : Int) then
                      branch
                        (AV.bool
                          (true && inC cs (0 + (IntKind.i64.wrap ((1 : Int) + i)).toNat * 1) 1))
                        (if
                            (0 : Int) ≤ IntKind.i64.wrap (e - (↑(rwA (V.rowAt l i)).length : Int)) ∧
                              IntKind.i64.wrap (e - (↑(rwA (V.rowAt l i)).length : Int)) ≤ (256 : Int) then
                          if (IntKind.i64.wrap (e - (↑(rwA (V.rowAt l i)).length : Int))).toNat < 256 then
                            branch (AV.bool (inR l i))
                              (branch (AV.bool ((LD.one (LT.ns 1)).is (V.rowAt l i)))
                                (branch
                                  (AV.bool
                                    (inC
                                      (setC cs (0 + (IntKind.i64.wrap ((1 : Int) + i)).toNat * 1)
                                        [AV.int IntKind.u8
                                            (IntKind.u8.wrap
                                              (IntKind.i64.wrap ((↑(rwA (V.rowAt l i)).length : Int) + (1 : Int))))])
                                      (0 +
                                        (IntKind.i64.wrap (e - (↑(rwA (V.rowAt l i)).length : Int))).toNat * 1)
                                      (mulN
                                        (minN (rwA (V.rowAt l i)).length
                                          (256 -
                                            (IntKind.i64.wrap (e - (↑(rwA (V.rowAt l i)).length : Int))).toNat))
                                        1)))
                                  (loopRun (f38_l0.run F) [1, 4, 5, 6] K m
                                    (Env.mk 76
                                      [(1, AV.eptr [AV.ns z 1 l]),
                                        (4, AV.ms 0 1 0 256 256),
                                        (5,
                                          AV.int IntKind.i64 (IntKind.i64.wrap (e - (↑(rwA (V.rowAt l i)).length : Int)))),
                                        (6, AV.int IntKind.i64 (IntKind.i64.wrap (i + (1 : Int))))])
                                    (St.mk
                                      [Ob.cells
                                          (setC
                                            (setC cs (0 + (IntKind.i64.wrap ((1 : Int) + i)).toNat * 1)
                                              [AV.int IntKind.u8
                                                  (IntKind.u8.wrap
                                                    (IntKind.i64.wrap ((↑(rwA (V.rowAt l i)).length : Int) + (1 : Int))))])
                                            (0 +
                                              (IntKind.i64.wrap (e - (↑(rwA (V.rowAt l i)).length : Int))).toNat *
                                                1)
                                            (flC (rwA (V.rowAt l i))
                                              (minN (rwA (V.rowAt l i)).length
                                                (256 -
                                                  (IntKind.i64.wrap (e - (↑(rwA (V.rowAt l i)).length : Int))).toNat))))]
                                      []))
                                  none)
                                none)
                              none
                          else
                            branch (AV.bool (inR l i))
                              (branch (AV.bool ((LD.one (LT.ns 1)).is (V.rowAt l i)))
                                (loopRun (f38_l0.run F) [1, 4, 5, 6] K m
                                  (Env.mk 76
                                    [(1, AV.eptr [AV.ns z 1 l]),
                                      (4, AV.ms 0 1 0 256 256),
                                      (5,
                                        AV.int IntKind.i64 (IntKind.i64.wrap (e - (↑(rwA (V.rowAt l i)).length : Int)))),
                                      (6, AV.int IntKind.i64 (IntKind.i64.wrap (i + (1 : Int))))])
                                  (St.mk
                                    [Ob.cells
                                        (setC cs (0 + (IntKind.i64.wrap ((1 : Int) + i)).toNat * 1)
                                          [AV.int IntKind.u8
                                              (IntKind.u8.wrap
                                                (IntKind.i64.wrap ((↑(rwA (V.rowAt l i)).length : Int) + (1 : Int))))])]
                                    []))
                                none)
                              none
                        else none)
                        none
                    else none)))
                none)
              none))
          none)
        none)
      (K (AX.exit 0)
        (Env.mk 76
          [(1, AV.eptr [AV.ns z 1 l]),
            (4, AV.ms 0 1 0 256 256), (5, AV.int IntKind.i64 e)])
        (St.mk [Ob.cells cs] [])) := by kernel_rfl

theorem rt_run (F : Nat) (z : Bool) (l : List (List AV)) :
    (f39.run F [.ns z 1 l] ⟨[], []⟩ : Ans) =
    loopRun (f39_l0.run F) [0]
      (Cont.block 0 (Cont.then (f39_r0.run F (f39.leaveK Fun.done)) (f39.leaveK Fun.done))) F
      (Env.mk 21 [(0, AV.ns z 1 l)]) (St.mk [] []) := by kernel_rfl

theorem rt_runv (F v n : Nat) (cs : List AV) (st : List Ob) :
    (f39.run F [.vs 0 v 1 n] ⟨.vec v cs :: st, []⟩ : Ans) =
    loopRun (f39_l0.run F) [0]
      (Cont.block 0 (Cont.then (f39_r0.run F (f39.leaveK Fun.done)) (f39.leaveK Fun.done))) F
      (Env.mk 21 [(0, AV.vs 0 v 1 n)]) (St.mk (Ob.vec v cs :: st) []) := by kernel_rfl

theorem by_out (F : Nat) (z : Bool) (l : List (List AV)) (e : Int) (st : St) :
    ((Cont.block 0 (Cont.then (f38_r0.run F (f38.leaveK Fun.done)) (f38.leaveK Fun.done))) (.exit 0) (Env.mk 76 [(1, .eptr [.ns z 1 l]), (4, .ms 0 1 0 256 256), (5, .int .i64 e)]) st : Ans) =
    branch (AV.bool (decide (IntKind.i64.wrap ((1 : Int) + (↑l.length : Int)) > e)))
      (some (Fin.ret (AV.tup [AV.nilsl, AV.bool false]), st))
      (some (Fin.ret (AV.tup [AV.ms 0 1 0 256 256, AV.bool true]), st)) := by kernel_rfl

theorem by_ret (F : Nat) (st : St) :
    ((Cont.block 0 (Cont.then (f38_r0.run F (f38.leaveK Fun.done)) (f38.leaveK Fun.done))) .ret (Env.mk 76 [(2, .nilsl), (3, .bool false)]) st : Ans) =
    some (Fin.ret (AV.tup [AV.nilsl, AV.bool false]), st) := by kernel_rfl

theorem rt_round (F m v n : Nat) (K : Cont) (cs : List AV) (st : List Ob) :
    (loopRun (f39_l0.run F) [0] K m.succ (Env.mk 21 [(0, .vs 0 v 1 n)]) ⟨.vec v cs :: st, []⟩ : Ans) =
    branch (AV.bool (decide ((↑n : Int) > (0 : Int))))
      (if
          (0 : Int) ≤ IntKind.i64.wrap ((↑n : Int) - (1 : Int)) ∧
            IntKind.i64.wrap ((↑n : Int) - (1 : Int)) < (↑n : Int) then
        branch (AV.bool (v.beq v))
          (branch
            (AV.bool
              ((LD.one (LT.ns 1)).is
                (List.drop ((IntKind.i64.wrap ((↑n : Int) - (1 : Int))).toNat * 1) cs)))
            (branch (AV.bool (nilA (List.drop ((IntKind.i64.wrap ((↑n : Int) - (1 : Int))).toNat * 1) cs)))
              (if
                  (0 : Int) ≤ IntKind.i64.wrap ((↑n : Int) - (1 : Int)) ∧
                    IntKind.i64.wrap ((↑n : Int) - (1 : Int)) ≤ (↑n : Int) then
                loopRun (f39_l0.run F) [0] K m
                  (Env.mk 21
                    [(0, AV.vs 0 v 1 (IntKind.i64.wrap ((↑n : Int) - (1 : Int))).toNat)])
                  (St.mk (Ob.vec v cs :: st) [])
              else none)
              (K (AX.exit 0) (Env.mk 21 [(0, AV.vs 0 v 1 n)])
                (St.mk (Ob.vec v cs :: st) [])))
            none)
          none
      else none)
      (K (AX.exit 0) (Env.mk 21 [(0, AV.vs 0 v 1 n)])
        (St.mk (Ob.vec v cs :: st) [])) := by kernel_rfl

theorem rt_out (F v n : Nat) (st : St) :
    ((Cont.block 0 (Cont.then (f39_r0.run F (f39.leaveK Fun.done)) (f39.leaveK Fun.done))) (.exit 0) (Env.mk 21 [(0, .vs 0 v 1 n)]) st : Ans) =
    some (Fin.ret (AV.vs 0 v 1 n), st) := by kernel_rfl

theorem rt_nil (F : Nat) (st : St) :
    (f39.run F [.nilsl] st : Ans) =
    loopRun (f39_l0.run F) [0]
      (Cont.block 0 (Cont.then (f39_r0.run F (f39.leaveK Fun.done)) (f39.leaveK Fun.done))) F
      (Env.mk 21 [(0, AV.nilsl)]) st := by kernel_rfl

theorem rt_nilr (F m : Nat) (st : St) :
    (loopRun (f39_l0.run F) [0] (Cont.block 0 (Cont.then (f39_r0.run F (f39.leaveK Fun.done)) (f39.leaveK Fun.done))) m.succ (Env.mk 21 [(0, .nilsl)]) st : Ans) =
    some (Fin.ret AV.nilsl, st) := by kernel_rfl

end Go.Proofs.Ytblliolkgkgppaa.V

/- Page: the reference's bytes of slots, slots trimmed. -/
set_option linter.unusedVariables false
namespace Go.Proofs.Ytblliolkgkgppaa.V
open Go Go.V Go.RowKit

/-! ### Bytes -/
theorem ref_loop (F : Nat) (z : Bool) (l : List (List AV)) (h : okS l = true) (h255 : l.length ≤ 255) : ∀ (k m i e : Nat) (p : List Nat), i + k = l.length → k < m → p.length = 256 → e ≤ 256 →
    ∃ p' : List Nat, p'.length = 256 ∧ loopRun (f38_l0.run F) [1, 4, 5, 6] (Cont.block 0 (Cont.then (f38_r0.run F (f38.leaveK Fun.done)) (f38.leaveK Fun.done))) m
      (Env.mk 76 [(1, .eptr [.ns z 1 l]), (4, .ms 0 1 0 256 256), (5, .int .i64 (e : Int)), (6, .int .i64 (i : Int))]) ⟨[.cells (bC p)], []⟩
      = some (.ret (bif ((sR l).drop i).all (fun o => decide (olen o ≤ 200)) && decide (1 + l.length + sumN ((sR l).drop i) ≤ e) then .tup [.ms 0 1 0 256 256, .bool true] else .tup [.nilsl, .bool false]), ⟨[.cells (bC p')], []⟩) ∧
      ((((sR l).drop i).all (fun o => decide (olen o ≤ 200)) && decide (1 + l.length + sumN ((sR l).drop i) ≤ e)) = true → p' = pgFold ((sR l).drop i) i p e)
  | k, 0, i, e, p, hi, hm, hp, he => by omega
  | 0, m + 1, i, e, p, hi, hm, hp, he => by
    have e1 : (sR l).drop i = [] := List.drop_eq_nil_of_le (by rw [sR_length]; omega)
    refine ⟨p, hp, ?_, fun _ => by rw [e1]; rfl⟩
    have w1 : IntKind.i64.wrap (1 + (l.length : Int)) = ((1 + l.length : Nat) : Int) := by rw [show 1 + (l.length : Int) = ((1 + l.length : Nat) : Int) by omega, wrap_nat (by omega)]
    rw [show m + 1 = m.succ from rfl, by_round, branch_not (by simp; omega), by_out, e1, w1]
    by_cases hc : 1 + l.length ≤ e
    · have : (([] : Sl).all (fun o => decide (olen o ≤ 200)) && decide (1 + l.length + sumN [] ≤ e)) = true := by simp [sumN]; omega
      rw [this, branch_not (by rw [decide_eq_false_iff_not]; omega)]; rfl
    · have : (([] : Sl).all (fun o => decide (olen o ≤ 200)) && decide (1 + l.length + sumN [] ≤ e)) = false := by simp [sumN]; omega
      rw [this, branch_of (by rw [decide_eq_true_eq]; omega)]; rfl
  | k + 1, m + 1, i, e, p, hi, hm, hp, he => by
    have h1 : i < l.length := by omega
    obtain ⟨l1, l2, l3, l4⟩ := okS_at h h1
    have hd : (sR l).drop i = slot (V.rowAt l (i : Int)) :: (sR l).drop (i + 1) := by rw [drop_at (by rw [sR_length]; exact h1), l3]
    rw [hd]
    have w0 := wrap_succ (i := i) (by omega)
    rw [show m + 1 = m.succ from rfl, by_round, branch_of (by simp; omega), branch_of (inR_nat h1), branch_of l1, w0]
    cases hn : nilA (V.rowAt l (i : Int)) with
    | true =>
      have hsl : slot (V.rowAt l (i : Int)) = none := by rw [slot, hn]; rfl
      obtain ⟨p', q1, q2, q3⟩ := ref_loop F z l h h255 k m (i + 1) e p (by omega) (by omega) hp he
      have e2 : ((none :: (sR l).drop (i + 1)).all (fun o => decide (olen o ≤ 200)) && decide (1 + l.length + sumN (none :: (sR l).drop (i + 1)) ≤ e)) = (((sR l).drop (i + 1)).all (fun o => decide (olen o ≤ 200)) && decide (1 + l.length + sumN ((sR l).drop (i + 1)) ≤ e)) := by
        rw [List.all_cons, sumN_cons, show olen none = 0 from rfl, Nat.zero_add]; rfl
      refine ⟨p', q1, ?_, ?_⟩
      · rw [hsl, e2, branch_of (b := true) rfl]; exact q2
      · rw [hsl, e2]; exact q3
    | false =>
      obtain ⟨b, hb, hr⟩ := rows_slot (byOk_iff.mp l2).1 hn
      have hob : olen (some b) = b.length := rfl
      have hbl : b.length < 4611686018427387904 := by have := (byOk_iff.mp l2).2; rw [hr, bR_length] at this; exact this
      have w2 : IntKind.i64.wrap ((e : Int) - (b.length : Int)) = (e : Int) - (b.length : Int) := wrapS (by omega) (by omega)
      have w1 : IntKind.i64.wrap (1 + (l.length : Int)) = ((1 + l.length : Nat) : Int) := by rw [show 1 + (l.length : Int) = ((1 + l.length : Nat) : Int) by omega, wrap_nat (by omega)]
      have w3 : IntKind.i64.wrap (1 + (i : Int)) = ((1 + i : Nat) : Int) := by rw [show 1 + (i : Int) = ((1 + i : Nat) : Int) by omega, wrap_nat (by omega)]
      rw [hb, hr, bR_length, branch_not (b := false) rfl, branch_of (inR_nat h1), branch_of l1, w2, w1, w3]
      have eF : ∀ c : Bool, c = false → ((some b :: (sR l).drop (i + 1)).all (fun o => decide (olen o ≤ 200)) && decide (1 + l.length + sumN (some b :: (sR l).drop (i + 1)) ≤ e)) = c →
          ∃ p' : List Nat, p'.length = 256 ∧ (some (Fin.ret (AV.tup [AV.nilsl, AV.bool false]), (⟨[.cells (bC p)], []⟩ : St)) : Ans) = some (.ret (bif ((some b :: (sR l).drop (i + 1)).all (fun o => decide (olen o ≤ 200)) && decide (1 + l.length + sumN (some b :: (sR l).drop (i + 1)) ≤ e)) then .tup [.ms 0 1 0 256 256, .bool true] else .tup [.nilsl, .bool false]), ⟨[.cells (bC p')], []⟩) ∧
          (((some b :: (sR l).drop (i + 1)).all (fun o => decide (olen o ≤ 200)) && decide (1 + l.length + sumN (some b :: (sR l).drop (i + 1)) ≤ e)) = true → p' = pgFold (some b :: (sR l).drop (i + 1)) i p e) := by
        intro c hc hcc
        subst hc
        exact ⟨p, hp, by rw [hcc]; rfl, fun e => by rw [hcc] at e; cases e⟩
      by_cases g1 : b.length ≤ 200
      · rw [branch_not (by rw [decide_eq_false_iff_not]; omega)]
        by_cases g2 : b.length + (1 + l.length) ≤ e
        · have w4 : (e : Int) - (b.length : Int) = ((e - b.length : Nat) : Int) := by omega
          have w5 : IntKind.u8.wrap (IntKind.i64.wrap ((b.length : Int) + 1)) = ((b.length + 1 : Nat) : Int) := by
            rw [wrap_succ (by omega)]
            exact wrapU rfl (by omega) (by simp only [IntKind.bits]; omega)
          have hpl : 1 + i < p.length := by omega
          have hsl : (p.set (1 + i) (b.length + 1)).length = 256 := by rw [List.length_set]; exact hp
          have e2 : ((some b :: (sR l).drop (i + 1)).all (fun o => decide (olen o ≤ 200)) && decide (1 + l.length + sumN (some b :: (sR l).drop (i + 1)) ≤ e)) = (((sR l).drop (i + 1)).all (fun o => decide (olen o ≤ 200)) && decide (1 + l.length + sumN ((sR l).drop (i + 1)) ≤ e - b.length)) := by
            rw [List.all_cons, sumN_cons, hob, decide_eq_true g1, Bool.true_and]
            congr 1
            exact decide_eq_decide.mpr (by omega)
          have hlt : (e - b.length) ≤ 256 := by omega
          have hlen2 : (putN (p.set (1 + i) (b.length + 1)) (e - b.length) b).length = 256 := by rw [putN_length (by omega)]; exact hsl
          obtain ⟨p', q1, q2, q3⟩ := ref_loop F z l h h255 k m (i + 1) (e - b.length) (putN (p.set (1 + i) (b.length + 1)) (e - b.length) b) (by omega) (by omega) hlen2 hlt
          refine ⟨p', q1, ?_, ?_⟩
          · rw [e2, branch_not (by rw [decide_eq_false_iff_not]; omega), w4, w5, if_pos ⟨by omega, by omega⟩, Int.toNat_natCast, Int.toNat_natCast, Nat.zero_add, Nat.mul_one, Nat.zero_add, Nat.mul_one, branch_of (by rw [Bool.true_and, inC_iff, bC_length]; omega), if_pos ⟨by omega, by omega⟩, setC_byte hpl]
            by_cases hlt2 : e - b.length < 256
            · have hmin : minN b.length (256 - (e - b.length)) = b.length := by rw [minN, opq_eq]; omega
              rw [if_pos hlt2, branch_of (inR_nat h1), branch_of l1, hmin, mulN, opq_eq, Nat.mul_one, branch_of (by rw [inC_iff, bC_length]; omega), flC_bR, List.take_of_length_le (Nat.le_refl _), setC_bC (by omega)]
              exact q2
            · have hb0 : b = [] := List.eq_nil_of_length_eq_zero (by omega)
              subst hb0
              rw [putN_nil] at q2
              rw [if_neg hlt2, branch_of (inR_nat h1), branch_of l1]
              exact q2
          · rw [e2]; exact q3
        · rw [branch_of (by rw [decide_eq_true_eq]; omega), by_ret]
          refine eF false rfl ?_
          rw [Bool.and_eq_false_iff]
          refine .inr ?_
          rw [sumN_cons, hob, decide_eq_false_iff_not]; omega
      · rw [branch_of (by rw [decide_eq_true_eq]; omega), by_ret]
        refine eF false rfl ?_
        rw [List.all_cons, hob, decide_eq_false g1]; rfl
theorem ref_bytes (z : Bool) (l : List (List AV)) (h : okS l = true) : ∃ p' : List Nat, p'.length = 256 ∧ f38.run (l.length + 1) [.agg [.ns z 1 l]] ⟨[], []⟩ = some (.ret (bif pgOk (sR l) then .tup [.ms 0 1 0 256 256, .bool true] else .tup [.nilsl, .bool false]), ⟨[.cells (bC p')], []⟩) ∧ (pgOk (sR l) = true → p' = pgB (sR l)) := by
  have hz : (List.replicate 256 0).length = 256 := List.length_replicate
  rw [by_run, branch_of (by rw [mkOk_iff]; exact ⟨by decide, by decide⟩), zerC_byte]
  by_cases h255 : l.length ≤ 255
  · have w1 : IntKind.u8.wrap (l.length : Int) = ((l.length : Nat) : Int) := wrapU rfl (by omega) (by simp only [IntKind.bits]; omega)
    obtain ⟨p', q1, q2, q3⟩ := ref_loop (l.length + 1) z l h h255 l.length (l.length + 1) 0 256 ((List.replicate 256 0).set 0 l.length) (by omega) (by omega) (by rw [List.length_set]; exact hz) (Nat.le_refl _)
    rw [List.drop_zero] at q2 q3
    have e : ((sR l).all (fun o => decide (olen o ≤ 200)) && decide (1 + l.length + sumN (sR l) ≤ 256)) = pgOk (sR l) := by
      rw [pgOk, szN, sR_length, Bool.and_comm]
    rw [e] at q2 q3
    refine ⟨p', q1, ?_, fun hh => by rw [q3 hh, pgB, sR_length]⟩
    rw [branch_not (by rw [decide_eq_false_iff_not]; omega), branch_of (by rw [Bool.true_and, inC_iff, bC_length, hz]; omega), w1, setC_byte (by rw [hz]; omega)]
    exact q2
  · have e : pgOk (sR l) = false := by simp only [pgOk, szN, sR_length, Bool.and_eq_false_iff]; left; rw [decide_eq_false_iff_not]; omega
    refine ⟨List.replicate 256 0, hz, ?_, fun hh => by rw [e] at hh; cases hh⟩
    rw [branch_of (by rw [decide_eq_true_eq]; omega), e]; rfl
noncomputable def q38 : OrcQ Try.prog := f38.farR
  (fun args st k => match args with
    | [.agg [x]] => onNsQ 1 x st fun _ l => ifT (okS l) (k (.tup [.ns (!pgOk (sR l)) 1 (pgR l), .bool (pgOk (sR l))]))
    | _ => none)
  fun args st k fin h => by
    split at h
    · rename_i x
      obtain ⟨z, l, h, hx⟩ := onNsQ_spec h
      obtain ⟨h1, h⟩ := ifT_spec h
      obtain ⟨p', q1, q2, q3⟩ := ref_bytes z l h1
      refine ⟨_, _, h, .cons (.agg (.cons (hx (okS_scoped (okS_iff.mp h1).1)) .nil)) .nil, l.length + 1, _, _, q2, ?_⟩
      cases e : pgOk (sR l) with
      | false =>
        refine ⟨fun y hy => ?_, ⟨trivial, trivial, trivial⟩, ?_⟩
        · simp only [cond_false, List.mem_cons, List.not_mem_nil, or_false] at hy
          rcases hy with rfl | rfl <;> trivial
        · rw [pgR_no e]
          exact .tup (.cons .nil (.cons (.refl _) .nil))
      | true =>
        have hh : hard [Ob.cells (bC p')] (.tup [.ms 0 1 0 256 256, .bool true]) = .tup [.sl 1 true (bR p'), .bool true] := by
          simp only [hard, hardL, List.getElem?_cons_zero, List.drop_zero]
          rw [rowsOf_bC 256 _ (by rw [q1]; exact Nat.le_refl _), List.take_of_length_le (by rw [q1]; exact Nat.le_refl _)]
          rfl
        refine ⟨fun y hy => ?_, ?_, ?_⟩
        · simp only [cond_true, List.mem_cons, List.not_mem_nil, or_false] at hy
          rcases hy with rfl | rfl
          · exact ⟨_, rfl, bC_flat _⟩
          · trivial
        · rw [cond_true, hh]; exact ⟨bR_scoped _, trivial, trivial⟩
        · rw [cond_true, hh, pgR_ok e, q3 e]
          exact .tup (.cons .sl (.cons (.refl _) .nil))
    · cases h
theorem q38_nat : q38.NatQ := by
  intro args st k
  show (match args with | [.agg [x]] => _ | _ => _) = thenA (match args with | [.agg [x]] => _ | _ => _) k
  split
  · exact onNsQ_nat fun _ _ => ifT_nat rfl
  · rfl

/-! ### Slots trimmed -/
theorem rt_loop (F v : Nat) (cs : List AV) (os : List Ob) : ∀ (m n : Nat), okV n cs = true → n < m →
    loopRun (f39_l0.run F) [0] (Cont.block 0 (Cont.then (f39_r0.run F (f39.leaveK Fun.done)) (f39.leaveK Fun.done))) m (Env.mk 21 [(0, .vs 0 v 1 n)]) ⟨.vec v cs :: os, []⟩ = some (.ret (.vs 0 v 1 (trR (cR (cs.take n))).length), ⟨.vec v cs :: os, []⟩)
  | 0, n, h, hn => by omega
  | m + 1, 0, h, hn => by
    rw [show m + 1 = m.succ from rfl, rt_round, branch_not (by simp), rt_out, List.take_zero, show cR [] = [] from rfl, trR_nil]; rfl
  | m + 1, n + 1, h, hn => by
    obtain ⟨h1, h2⟩ := okV_iff.mp h
    have h0 : n < cs.length := by omega
    have hlen : (cR (cs.take (n + 1))).length = n + 1 := by rw [cR_length, List.length_take]; omega
    have hb := (okS_iff.mp h2).2
    rw [hlen] at hb
    have hw : IntKind.i64.wrap (((n + 1 : Nat) : Int) - 1) = ((n : Nat) : Int) := by
      rw [show ((n + 1 : Nat) : Int) - 1 = ((n : Nat) : Int) by omega, wrap_nat (by omega)]
    have hi : n < (cR (cs.take (n + 1))).length := by omega
    obtain ⟨k1, k2, k3, k4⟩ := okS_at h2 hi
    have hr : V.rowAt (cR (cs.take (n + 1))) ((n : Nat) : Int) = [cs[n]] := by rw [rowAt_nat hi]; simp [cR]
    rw [hr] at k1
    rw [show m + 1 = m.succ from rfl, rt_round, branch_of (by simp), hw, if_pos ⟨by omega, by omega⟩, branch_of (Nat.beq_refl v), Int.toNat_natCast, Nat.mul_one, is_at h0, branch_of k1, nilA_at h0, cR_snoc h0, trR_snoc]
    cases hx : nilA [cs[n]] with
    | false =>
      rw [branch_not rfl, rt_out, cond_false, List.length_append, cR_length, List.length_take, Nat.min_eq_left (by omega)]; rfl
    | true =>
      rw [branch_true, if_pos ⟨by omega, by omega⟩, cond_true]
      refine rt_loop F v cs os m n (okV_iff.mpr ⟨by omega, okS_sub h2 (fun y hy => ?_) ?_⟩) (by omega)
      · rw [cR_snoc h0]; exact List.mem_append_left _ hy
      · rw [hlen, cR_length, List.length_take]; omega
/-- A slice of slots that grows, as data. -/
theorem okS_near {n : Nat} : ∀ {cs : List AV}, okS (cR cs) = true → (∀ c ∈ cs, (c = .nilsl ∨ ∃ f l, c = .sl 1 f l) ∨ ∃ z l, c = .ns z 1 l) → NearL n cs
  | [], _, _ => trivial
  | c :: cs, h, hc => by
    have h2 : okS (cR cs) = true := okS_sub h (fun x hx => by simp only [cR, List.map_cons]; exact List.mem_cons_of_mem _ hx) (by simp [cR])
    have h3 := okS_near (n := n) h2 fun x hx => hc x (List.mem_cons_of_mem _ hx)
    have h4 := ((okS_iff.mp h).1 [c] (by simp [cR])).1
    have h5 := okSlot_spec h4
    refine ⟨?_, h3⟩
    rcases hc c List.mem_cons_self with (rfl | ⟨f, l, rfl⟩) | ⟨z, l, rfl⟩
    · trivial
    · exact okR_scoped (l := l) h5.2.1
    · exact okR_scoped (l := l) h5.2.1
def slC (c : AV) : Bool := match c with
  | .nilsl => true
  | .sl s _ _ => Nat.beq s 1
  | .ns _ s _ => Nat.beq s 1
  | _ => false
theorem slC_spec {c : AV} (h : slC c = true) : (c = .nilsl ∨ ∃ f l, c = .sl 1 f l) ∨ ∃ z l, c = .ns z 1 l := by
  unfold slC at h
  split at h
  · exact .inl (.inl rfl)
  · obtain rfl := Nat.eq_of_beq_eq_true h; exact .inl (.inr ⟨_, _, rfl⟩)
  · obtain rfl := Nat.eq_of_beq_eq_true h; exact .inr ⟨_, _, rfl⟩
  · cases h
def slA : ADT (Nat × List AV) where
  m := 1
  p := 0
  hp := by decide
  obs := fun x => [.vec x.1 x.2]
  Ok := fun x => okS (cR x.2) = true ∧ x.2.all slC = true
  len := fun _ => rfl
  near := fun x h o ho => by
    simp only [List.mem_cons, List.not_mem_nil, or_false] at ho
    subst ho
    exact okS_near h.1 fun c hc => slC_spec (List.all_eq_true.mp h.2 c hc)
  inj := fun x y _ _ h => by
    simp only [List.cons.injEq, Ob.vec.injEq, and_true] at h
    exact Prod.ext h.1 h.2
theorem slA_here {st : St} {j v : Nat} {cs : List AV} (ho : st.objs[j]? = some (.vec v cs)) (h : okS (cR cs) = true ∧ cs.all slC = true) : slA.Here st j (v, cs) := by
  have hl := getElem?_lt ho
  refine ⟨h, by show j + 1 ≤ _; omega, ?_⟩
  have hn : NearO 0 (.vec v cs) := okS_near h.1 fun c hc => slC_spec (List.all_eq_true.mp h.2 c hc)
  have e : renO (sh j) (.vec v cs) = .vec v cs := by
    rw [renO_near (n := 0) (ρ := sh j) (τ := fun k => k) (fun k hk => by omega) _ hn, renO_id]
  show (st.objs.drop j).take 1 = [renO (sh j) (.vec v cs)]
  rw [e, List.drop_eq_getElem_cons hl, List.take_succ_cons, List.take_zero]
  rw [List.getElem?_eq_getElem hl] at ho
  rw [Option.some.inj ho]
noncomputable def q39 : OrcQ Try.prog := f39.byQ
  (fun args st k => match args with
    | [.nilsl] => k .nilsl
    | [.vs j v s n] => match st.objs[j]? with
      | some (.vec v' cs) => ifT (Nat.beq s 1 && (Nat.beq v v' && (okS (cR cs) && (cs.all slC && cdec (n ≤ cs.length))))) (k (.vs j v 1 (trN n cs)))
      | _ => none
    | _ => none)
  fun args st k fin h => by
    split at h
    · refine ⟨_, h, ?_⟩
      have := framed (st := st) (f39.sound (F := 1) (args := [.nilsl]) (st := ⟨[], []⟩) (fin := (.ret .nilsl, ⟨[], []⟩)) (by rw [rt_nil]; exact rt_nilr 1 0 _)) ⟨trivial, trivial⟩ trivial
      exact this
    · rename_i j v s n
      split at h
      · rename_i v' cs ho
        obtain ⟨h1, h2⟩ := ifT_spec h
        simp only [Bool.and_eq_true, cdec_iff] at h1
        obtain ⟨e1, e2, e3, e4, e5⟩ := h1
        obtain rfl := Nat.eq_of_beq_eq_true e1
        obtain rfl := Nat.eq_of_beq_eq_true e2
        refine ⟨_, h2, ?_⟩
        have hd := slA_here ho ⟨e3, e4⟩
        have hv : okV n cs = true := okV_iff.mpr ⟨e5, okS_sub e3 (fun y hy => by
          simp only [cR, List.mem_map] at hy ⊢
          obtain ⟨c, hc, rfl⟩ := hy
          exact ⟨c, List.mem_of_mem_take hc, rfl⟩) (by simp [cR]; omega)⟩
        have := ADT.placed (A := slA) (f := f39) (F := n + 1) (x := (v, cs)) (y := (v, cs)) (args0 := [.vs 0 v 1 n]) (r := .vs 0 v 1 (trN n cs)) (xs := []) (by
          show f39.run (n + 1) [.vs 0 v 1 n] ⟨[.vec v cs], []⟩ = some (.ret (.vs 0 v 1 (trN n cs)), ⟨[.vec v cs] ++ [], []⟩)
          rw [rt_runv, trN, opq_eq]
          exact rt_loop (n + 1) v cs [] (n + 1) n hv (by omega)) ⟨e3, e4⟩ ⟨by show 0 < 1; omega, trivial⟩ (by show 0 < 1; omega) hd
        rw [hd.same] at this
        exact this
      · cases h
    · cases h
theorem q39_nat : q39.NatQ := by
  intro args st k
  simp only [q39, Fun.byQ]
  split
  · rfl
  · split
    · exact ifT_nat rfl
    · rfl
  · rfl
end Go.Proofs.Ytblliolkgkgppaa.V

/- The functions' pieces, as told by gen.py. -/
set_option linter.unusedVariables false
set_option maxRecDepth 20000
namespace Go.Proofs.Ytblliolkgkgppaa.V
open Go Go.V Go.RowKit

theorem ze53 : (Try.prog.info? 53).bind (·.zero) = some (.agg #[(.slice none 0 0)]) := by kernel_rfl
theorem sz53 : (Try.prog.info? 53).map (·.size) = some 1 := by kernel_rfl
theorem el43 : ElemOf Try.prog 43 25 1 24 (.slice none 0 0) := ⟨Try.underlying43, sz25, by25, ze25, by kernel_rfl, by decide⟩
noncomputable abbrev d53 : TypeDesc := (Try.prog.underlying 53).getD .bool
theorem ud53 : Try.prog.underlying 53 = some d53 := by kernel_rfl

/-! ### 40: (interlock/interlockref06.Page).with (53, 3, 25); results 6; slots: 0 p, 1 slot, 2 b, 3 p, 4 slot, 5 b, 7 out -/
/-- A loop's round; at its head live: 1 slot, 2 b, 6 , 7 out -/
noncomputable def f40_l0 : Sim Try.prog :=
  (.seq (.seq (.live [1, 2, 6, 7, 19] (.region 3 [
    ⟨(opFieldAddr (some 15) 53 (.tmp 7) 0 0 1 false fl53_0 (by decide) 0 "ref.go:86" #[]).op, none⟩,
    ⟨(opLoadT (.one .any) (some 16) 43 (.tmp 15) (.slice 25) Try.underlying43 1 sz43 (by kernel_rfl) 43 "ref.go:86" #[{ on := 0, ground := Ground.data }]).op, none⟩,
    ⟨(opLen (some 17) (.tmp 16) 43 (.slice 25) Try.underlying43 3 "ref.go:86" #[{ on := 1, ground := Ground.data }]).op, none⟩,
    ⟨(opMove (some 18) (.tmp 1) 3 "ref.go:86" #[]).op, none⟩,
    ⟨(opBin (some 19) .leq 3 (.tmp 17) (.tmp 18) 3 4 "ref.go:86" #[{ on := 2, ground := Ground.data }, { on := 3, ground := Ground.data }]).op, none⟩
  ] (by kernel_rfl)))
  (.cond (.tmp 19)
    .skip
    (.live [1, 2, 6, 7] (.exit 0))))
  (.block 1 (.live [1, 2, 6, 7] (.region 4 [
      ⟨(opFieldAddr (some 20) 53 (.tmp 7) 0 0 1 false fl53_0 (by decide) 0 "ref.go:87" #[]).op, none⟩,
      ⟨(opLoadT (.one .any) (some 21) 43 (.tmp 20) (.slice 25) Try.underlying43 1 sz43 (by kernel_rfl) 43 "ref.go:87" #[{ on := 0, ground := Ground.data }]).op, none⟩,
      ⟨(opBuildSlice (some 22) 43 1 [(0, (.const (Value.slice none 0 0)))] 25 1 24 (.slice none 0 0) el43 (by kernel_rfl) (by decide) 43 "ref.go:87" #[]).op, none⟩,
      ⟨(opAppendR none 2 (some 23) (.tmp 21) (.tmp 22) 43 43 25 1 24 (.slice none 0 0) el43 (.slice 25) Try.underlying43 rfl 43 "ref.go:87" #[{ on := 1, ground := Ground.data }, { on := 2, ground := Ground.data }]).op, none⟩,
      ⟨(opFieldAddr (some 24) 53 (.tmp 7) 0 0 1 false fl53_0 (by decide) 0 "ref.go:87" #[{ on := 0, ground := Ground.phase }, { on := 1, ground := Ground.phase }, { on := 2, ground := Ground.phase }, { on := 3, ground := Ground.phase }]).op, none⟩,
      ⟨(opStore none 43 (.tmp 24) (.tmp 23) 1 sz43 0 "ref.go:87" #[{ on := 4, ground := Ground.data }, { on := 3, ground := Ground.data }, { on := 3, ground := Ground.chain }, { on := 0, ground := Ground.phase }, { on := 1, ground := Ground.phase }, { on := 2, ground := Ground.phase }, { on := 3, ground := Ground.phase }]).op, none⟩
    ] (by kernel_rfl)))))

/-- What follows a loop. -/
noncomputable def f40_r0 : Sim Try.prog :=
  (.seq (.live [6, 7] (.region 5 [
    ⟨(opFieldAddr (some 25) 53 (.tmp 7) 0 0 1 false fl53_0 (by decide) 0 "ref.go:89" #[]).op, none⟩,
    ⟨(opLoadT (.one .any) (some 26) 43 (.tmp 25) (.slice 25) Try.underlying43 1 sz43 (by kernel_rfl) 43 "ref.go:89" #[{ on := 0, ground := Ground.data }]).op, none⟩,
    ⟨(opMove (some 27) (.tmp 1) 3 "ref.go:89" #[]).op, none⟩,
    ⟨(opMove (some 28) (.tmp 2) 25 "ref.go:89" #[]).op, none⟩,
    ⟨(opIndexAddrT (some 29) 43 (.tmp 26) (.tmp 27) 25 1 Try.underlying43 sz25 0 "ref.go:89" #[{ on := 1, ground := Ground.data }, { on := 2, ground := Ground.data }, { on := 0, ground := Ground.phase }, { on := 1, ground := Ground.phase }, { on := 2, ground := Ground.phase }, { on := 3, ground := Ground.phase }]).op, none⟩,
    ⟨(opStoreC none 25 (.tmp 29) (.tmp 28) 1 sz25 0 "ref.go:89" #[{ on := 4, ground := Ground.data }, { on := 3, ground := Ground.data }, { on := 0, ground := Ground.phase }, { on := 1, ground := Ground.phase }, { on := 2, ground := Ground.phase }, { on := 3, ground := Ground.phase }]).op, none⟩
  ] (by kernel_rfl)))
  (.seq (.live [6, 7] (.region 6 [
    ⟨(opFieldAddr (some 30) 53 (.tmp 7) 0 0 1 false fl53_0 (by decide) 0 "ref.go:90" #[]).op, none⟩,
    ⟨(opLoadT (.one .any) (some 31) 43 (.tmp 30) (.slice 25) Try.underlying43 1 sz43 (by kernel_rfl) 43 "ref.go:90" #[{ on := 0, ground := Ground.data }]).op, none⟩,
    ⟨(opCallQ q39 (some 32) [(.tmp 31)] #[43] 43 "ref.go:90" #[{ on := 1, ground := Ground.data }]).op, none⟩,
    ⟨(opFieldAddr (some 33) 53 (.tmp 7) 0 0 1 false fl53_0 (by decide) 0 "ref.go:90" #[{ on := 0, ground := Ground.phase }, { on := 1, ground := Ground.phase }, { on := 2, ground := Ground.phase }]).op, none⟩,
    ⟨(opStore none 43 (.tmp 33) (.tmp 32) 1 sz43 0 "ref.go:90" #[{ on := 3, ground := Ground.data }, { on := 2, ground := Ground.data }, { on := 2, ground := Ground.chain }, { on := 0, ground := Ground.phase }, { on := 1, ground := Ground.phase }, { on := 2, ground := Ground.phase }]).op, none⟩
  ] (by kernel_rfl)))
  (.seq (.live [6] (.region 7 [
    ⟨(opLoadT (.agg [.any]) (some 34) 53 (.tmp 7) d53 ud53 1 sz53 (by kernel_rfl) 53 "ref.go:91" #[]).op, none⟩,
    ⟨(opStore none 53 (.tmp 6) (.tmp 34) 1 sz53 0 "ref.go:91" #[{ on := 0, ground := Ground.data }, { on := 0, ground := Ground.phase }]).op, none⟩
  ] (by kernel_rfl)))
  (.live [6] .ret))))

noncomputable def f40_b : Sim Try.prog :=
  (.seq (.live [1, 2, 3, 6] (.region 0 [
    ⟨(opBoxF (some 3) 53 (.tmp 0) 0 "ref.go:83" #[]).op, none⟩,
    ⟨(opAlloc (some 6) 53 (.agg #[(.slice none 0 0)]) ze53 0 "ref.go:83" #[]).op, none⟩
  ] (by kernel_rfl)))
  (.seq (.live [1, 2, 3, 6, 7] (.region 1 [
    ⟨(opBuild (some 8) 53 #[(.slice none 0 0)] [] ze53 (by kernel_rfl) 53 "ref.go:84" #[]).op, none⟩,
    ⟨(MSim.ph (opAlloc (some 7) 53 (.agg #[(.slice none 0 0)]) ze53 0 "ref.go:84" #[]) 1).op, none⟩,
    ⟨(opStore none 53 (.tmp 7) (.tmp 8) 1 sz53 0 "ref.go:84" #[{ on := 1, ground := Ground.data }, { on := 0, ground := Ground.data }, { on := 0, ground := Ground.phase }, { on := 1, ground := Ground.phase }]).op, none⟩
  ] (by kernel_rfl)))
  (.seq (.live [1, 2, 6, 7] (.region 2 [
    ⟨(opFieldAddr (some 9) 53 (.tmp 7) 0 0 1 false fl53_0 (by decide) 0 "ref.go:85" #[]).op, none⟩,
    ⟨(opLoadT (.one .any) (some 10) 43 (.tmp 9) (.slice 25) Try.underlying43 1 sz43 (by kernel_rfl) 43 "ref.go:85" #[{ on := 0, ground := Ground.data }]).op, none⟩,
    ⟨(opFieldAddr (some 11) 53 (.tmp 3) 0 0 1 false fl53_0 (by decide) 0 "ref.go:85" #[]).op, none⟩,
    ⟨(opLoadT (.one .any) (some 12) 43 (.tmp 11) (.slice 25) Try.underlying43 1 sz43 (by kernel_rfl) 43 "ref.go:85" #[{ on := 2, ground := Ground.data }]).op, none⟩,
    ⟨(opAppendR none 2 (some 13) (.tmp 10) (.tmp 12) 43 43 25 1 24 (.slice none 0 0) el43 (.slice 25) Try.underlying43 rfl 43 "ref.go:85" #[{ on := 1, ground := Ground.data }, { on := 3, ground := Ground.data }]).op, none⟩,
    ⟨(opFieldAddr (some 14) 53 (.tmp 7) 0 0 1 false fl53_0 (by decide) 0 "ref.go:85" #[{ on := 0, ground := Ground.phase }, { on := 1, ground := Ground.phase }, { on := 2, ground := Ground.phase }, { on := 3, ground := Ground.phase }, { on := 4, ground := Ground.phase }]).op, none⟩,
    ⟨(opStore none 43 (.tmp 14) (.tmp 13) 1 sz43 0 "ref.go:85" #[{ on := 5, ground := Ground.data }, { on := 4, ground := Ground.data }, { on := 4, ground := Ground.chain }, { on := 0, ground := Ground.phase }, { on := 1, ground := Ground.phase }, { on := 2, ground := Ground.phase }, { on := 3, ground := Ground.phase }, { on := 4, ground := Ground.phase }]).op, none⟩
  ] (by kernel_rfl)))
  (.seq (.block 0 (.loop [1, 2, 6, 7] f40_l0))
  f40_r0))))

noncomputable def f40 : Fun Try.prog where
  id := 40
  fn := Try.f40
  hf := Try.func40
  hname := by kernel_rfl
  body := f40_b
  hbody := by kernel_rfl
  res := [rCell 6 53 d53 ud53 1 sz53]
  hres := by kernel_rfl
  n := 35
  hn := by kernel_rfl

/-! ### 30: (interlock/interlockref06.Page).Get (53, 3); results 4, 5; slots: 0 p, 1 slot, 2 p, 3 slot -/
noncomputable def f30_b : Sim Try.prog :=
  (.seq (.live [1, 2] (.region 0 [
    ⟨(opBoxF (some 2) 53 (.tmp 0) 0 "ref.go:75" #[]).op, none⟩,
    ⟨(opAssign (some 4) (.const (Value.slice none 0 0)) 25 "ref.go:75" #[]).op, none⟩,
    ⟨(opAssign (some 5) (.const (Value.bool false)) 4 "ref.go:75" #[{ on := 1, ground := Ground.chain }]).op, none⟩
  ] (by kernel_rfl)))
  (.seq (.seq (.live [1, 2, 22] (.region 1 [
    ⟨(opMove (some 6) (.tmp 1) 3 "ref.go:76" #[]).op, none⟩,
    ⟨(opBin (some 7) .lss 3 (.tmp 6) (.const (Value.int IntKind.i64 0)) 3 4 "ref.go:76" #[{ on := 0, ground := Ground.data }]).op, none⟩,
    ⟨(opMove (some 8) (.tmp 7) 4 "ref.go:76" #[{ on := 1, ground := Ground.data }]).op, none⟩,
    ⟨(opMove (some 9) (.tmp 1) 3 "ref.go:76" #[{ on := 2, ground := Ground.guard }]).op, (some (2, 8, false))⟩,
    ⟨(opFieldAddr (some 10) 53 (.tmp 2) 0 0 1 false fl53_0 (by decide) 0 "ref.go:76" #[{ on := 2, ground := Ground.guard }]).op, (some (2, 8, false))⟩,
    ⟨(opLoadT (.one .any) (some 11) 43 (.tmp 10) (.slice 25) Try.underlying43 1 sz43 (by kernel_rfl) 43 "ref.go:76" #[{ on := 4, ground := Ground.data }, { on := 2, ground := Ground.guard }]).op, (some (2, 8, false))⟩,
    ⟨(opLen (some 12) (.tmp 11) 43 (.slice 25) Try.underlying43 3 "ref.go:76" #[{ on := 5, ground := Ground.data }, { on := 2, ground := Ground.guard }]).op, (some (2, 8, false))⟩,
    ⟨(opBin (some 13) .geq 3 (.tmp 9) (.tmp 12) 3 4 "ref.go:76" #[{ on := 3, ground := Ground.data }, { on := 6, ground := Ground.data }, { on := 2, ground := Ground.guard }]).op, (some (2, 8, false))⟩,
    ⟨(opPick (some 14) (.tmp 8) (.const (Value.bool true)) (.tmp 13) 4 "ref.go:76" #[{ on := 2, ground := Ground.data }, { on := 7, ground := Ground.data }]).op, none⟩,
    ⟨(opMove (some 15) (.tmp 14) 4 "ref.go:76" #[{ on := 8, ground := Ground.data }, { on := 2, ground := Ground.chain }]).op, none⟩,
    ⟨(opFieldAddr (some 16) 53 (.tmp 2) 0 0 1 false fl53_0 (by decide) 0 "ref.go:76" #[{ on := 9, ground := Ground.guard }]).op, (some (9, 15, false))⟩,
    ⟨(opLoadT (.one .any) (some 17) 43 (.tmp 16) (.slice 25) Try.underlying43 1 sz43 (by kernel_rfl) 43 "ref.go:76" #[{ on := 10, ground := Ground.data }, { on := 9, ground := Ground.guard }]).op, (some (9, 15, false))⟩,
    ⟨(opMove (some 18) (.tmp 1) 3 "ref.go:76" #[{ on := 9, ground := Ground.guard }]).op, (some (9, 15, false))⟩,
    ⟨(opIndexAddrT (some 19) 43 (.tmp 17) (.tmp 18) 25 1 Try.underlying43 sz25 0 "ref.go:76" #[{ on := 11, ground := Ground.data }, { on := 12, ground := Ground.data }, { on := 9, ground := Ground.guard }]).op, (some (9, 15, false))⟩,
    ⟨(opLoadT (.one (.ns 1)) (some 20) 25 (.tmp 19) (.slice 5) Try.underlying25 1 sz25 (by kernel_rfl) 25 "ref.go:76" #[{ on := 13, ground := Ground.data }, { on := 9, ground := Ground.guard }]).op, (some (9, 15, false))⟩,
    ⟨(opEq (some 21) 25 (.slice 5) Try.underlying25 (.tmp 20) (.const (Value.slice none 0 0)) (.inl rfl) 25 4 "ref.go:76" #[{ on := 14, ground := Ground.data }, { on := 9, ground := Ground.guard }]).op, (some (9, 15, false))⟩,
    ⟨(opPick (some 22) (.tmp 15) (.const (Value.bool true)) (.tmp 21) 4 "ref.go:76" #[{ on := 9, ground := Ground.data }, { on := 15, ground := Ground.data }]).op, none⟩
  ] (by kernel_rfl)))
  (.cond (.tmp 22)
    (.seq (.live [4, 5] (.region 2 [
      ⟨(opAssign (some 4) (.const (Value.slice none 0 0)) 25 "ref.go:77" #[]).op, none⟩,
      ⟨(opAssign (some 5) (.const (Value.bool false)) 4 "ref.go:77" #[{ on := 0, ground := Ground.chain }, { on := 0, ground := Ground.phase }]).op, none⟩
    ] (by kernel_rfl)))
    (.live [4, 5] .ret))
    .skip))
  (.seq (.live [4, 5] (.region 3 [
    ⟨(opFieldAddr (some 23) 53 (.tmp 2) 0 0 1 false fl53_0 (by decide) 0 "ref.go:79" #[]).op, none⟩,
    ⟨(opLoadT (.one .any) (some 24) 43 (.tmp 23) (.slice 25) Try.underlying43 1 sz43 (by kernel_rfl) 43 "ref.go:79" #[{ on := 0, ground := Ground.data }]).op, none⟩,
    ⟨(opMove (some 25) (.tmp 1) 3 "ref.go:79" #[]).op, none⟩,
    ⟨(opIndexAddrT (some 26) 43 (.tmp 24) (.tmp 25) 25 1 Try.underlying43 sz25 0 "ref.go:79" #[{ on := 1, ground := Ground.data }, { on := 2, ground := Ground.data }]).op, none⟩,
    ⟨(opLoadT (.one (.ns 1)) (some 27) 25 (.tmp 26) (.slice 5) Try.underlying25 1 sz25 (by kernel_rfl) 25 "ref.go:79" #[{ on := 3, ground := Ground.data }]).op, none⟩,
    ⟨(opAssign (some 4) (.tmp 27) 25 "ref.go:79" #[{ on := 4, ground := Ground.data }, { on := 0, ground := Ground.phase }, { on := 1, ground := Ground.phase }, { on := 2, ground := Ground.phase }, { on := 3, ground := Ground.phase }, { on := 4, ground := Ground.phase }]).op, none⟩,
    ⟨(opAssign (some 5) (.const (Value.bool true)) 4 "ref.go:79" #[{ on := 5, ground := Ground.chain }, { on := 0, ground := Ground.phase }, { on := 1, ground := Ground.phase }, { on := 2, ground := Ground.phase }, { on := 3, ground := Ground.phase }, { on := 4, ground := Ground.phase }, { on := 5, ground := Ground.phase }]).op, none⟩
  ] (by kernel_rfl)))
  (.live [4, 5] .ret))))

noncomputable def f30 : Fun Try.prog where
  id := 30
  fn := Try.f30
  hf := Try.func30
  hname := by kernel_rfl
  body := f30_b
  hbody := by kernel_rfl
  res := [rTmp 4, rTmp 5]
  hres := by kernel_rfl
  n := 28
  hn := by kernel_rfl

end Go.Proofs.Ytblliolkgkgppaa.V

/- What the functions' runs come to; the right sides were printed by a tool, Lean checks them. -/
set_option linter.unusedVariables false
set_option maxRecDepth 100000
namespace Go.Proofs.Ytblliolkgkgppaa.V
open Go Go.V Go.RowKit

theorem rw_run (F : Nat) (z : Bool) (l : List (List AV)) (i : Int) (b : AV) :
    (f40.run F [.agg [.ns z 1 l], .int .i64 i, b] ⟨[], []⟩ : Ans) =
    branch (AV.bool (apOk l.length 24))
      (branch (AV.bool (l.length.beq 0))
        (loopRun (f40_l0.run F) [1, 2, 6, 7]
          (Cont.block 0 (Cont.then (f40_r0.run F (f40.leaveK Fun.done)) (f40.leaveK Fun.done))) F
          (Env.mk 35
            [(1, AV.int IntKind.i64 i), (2, b), (6, AV.ptr 0 0),
              (7, AV.ptr 1 0)])
          (St.mk [Ob.cells [AV.nilsl], Ob.cells [AV.nilsl], Ob.nov 0] []))
        (loopRun (f40_l0.run F) [1, 2, 6, 7]
          (Cont.block 0 (Cont.then (f40_r0.run F (f40.leaveK Fun.done)) (f40.leaveK Fun.done))) F
          (Env.mk 35
            [(1, AV.int IntKind.i64 i), (2, b), (6, AV.ptr 0 0),
              (7, AV.ptr 1 0)])
          (St.mk
            [Ob.cells [AV.nilsl], Ob.cells [AV.vs 2 1 1 l.length],
              Ob.vec 1 (catC [] 0 l)]
            [])))
      none := by kernel_rfl

theorem rw_round0 (F m : Nat) (K : Cont) (i : Int) (b : AV) (x : Ob) :
    (loopRun (f40_l0.run F) [1, 2, 6, 7] K m.succ (Env.mk 35 [(1, .int .i64 i), (2, b), (6, .ptr 0 0), (7, .ptr 1 0)]) ⟨[x, .cells [.nilsl], .nov 0], []⟩ : Ans) =
    branch (AV.bool (decide ((0 : Int) ≤ i)))
      (branch (AV.bool (apOk 1 24))
        (loopRun (f40_l0.run F) [1, 2, 6, 7] K m
          (Env.mk 35
            [(1, AV.int IntKind.i64 i), (2, b), (6, AV.ptr 0 0),
              (7, AV.ptr 1 0)])
          (St.mk
            [x, Ob.cells [AV.vs 2 1 1 1], Ob.vec 1 (catC [] 0 [[AV.nilsl]])]
            []))
        none)
      (K (AX.exit 0)
        (Env.mk 35
          [(1, AV.int IntKind.i64 i), (2, b), (6, AV.ptr 0 0),
            (7, AV.ptr 1 0)])
        (St.mk [x, Ob.cells [AV.nilsl], Ob.nov 0] [])) := by kernel_rfl

theorem rw_round (F m : Nat) (K : Cont) (i : Int) (b : AV) (x : Ob) (v n : Nat) (cs : List AV) :
    (loopRun (f40_l0.run F) [1, 2, 6, 7] K m.succ (Env.mk 35 [(1, .int .i64 i), (2, b), (6, .ptr 0 0), (7, .ptr 1 0)]) ⟨[x, .cells [.vs 2 v 1 n], .vec v cs], []⟩ : Ans) =
    branch (AV.bool (decide ((↑n : Int) ≤ i)))
      (branch (AV.bool (v.beq v && (inC cs 0 (mulN n 1) && apOk (n + 1) 24)))
        (loopRun (f40_l0.run F) [1, 2, 6, 7] K m
          (Env.mk 35
            [(1, AV.int IntKind.i64 i), (2, b), (6, AV.ptr 0 0),
              (7, AV.ptr 1 0)])
          (St.mk
            [x, Ob.cells [AV.vs 2 (v + 1) 1 (n + 1)],
              Ob.vec (v + 1) (catC cs (mulN n 1) [[AV.nilsl]])]
            []))
        none)
      (K (AX.exit 0)
        (Env.mk 35
          [(1, AV.int IntKind.i64 i), (2, b), (6, AV.ptr 0 0),
            (7, AV.ptr 1 0)])
        (St.mk [x, Ob.cells [AV.vs 2 v 1 n], Ob.vec v cs] [])) := by kernel_rfl

theorem rg_run (F : Nat) (z : Bool) (l : List (List AV)) (i : Int) :
    (f30.run F [.agg [.ns z 1 l], .int .i64 i] ⟨[], []⟩ : Ans) =
    branch (AV.bool (decide (i < (0 : Int)))) (some (Fin.ret (AV.tup [AV.nilsl, AV.bool false]), St.mk [] []))
      (branch (AV.bool (decide (i ≥ (↑l.length : Int)))) (some (Fin.ret (AV.tup [AV.nilsl, AV.bool false]), St.mk [] []))
        (branch (AV.bool (inR l i))
          (branch (AV.bool ((LD.one (LT.ns 1)).is (V.rowAt l i)))
            (branch (AV.bool (nilA (V.rowAt l i))) (some (Fin.ret (AV.tup [AV.nilsl, AV.bool false]), St.mk [] []))
              (branch (AV.bool (inR l i))
                (branch (AV.bool ((LD.one (LT.ns 1)).is (V.rowAt l i)))
                  (some
                    (Fin.ret (AV.tup [AV.ns (nilA (V.rowAt l i)) 1 (rwA (V.rowAt l i)), AV.bool true]),
                      St.mk [] []))
                  none)
                none))
            none)
          none)) := by kernel_rfl

theorem rw_out0 (F : Nat) (i : Int) (v n : Nat) (cs : List AV) :
    ((Cont.block 0 (Cont.then (f40_r0.run F (f40.leaveK Fun.done)) (f40.leaveK Fun.done))) (.exit 0) (Env.mk 35 [(1, .int .i64 i), (2, .nilsl), (6, .ptr 0 0), (7, .ptr 1 0)]) ⟨[.cells [.nilsl], .cells [.vs 2 v 1 n], .vec v cs], []⟩ : Ans) =
    if (0 : Int) ≤ i ∧ i < (↑n : Int) then
      branch (AV.bool (v.beq v && (true && inC cs (i.toNat * 1) 1)))
        (branch
          (AV.bool
            (true &&
              (v.beq v &&
                (okS (cR (setC cs (i.toNat * 1) [AV.nilsl])) &&
                  ((setC cs (i.toNat * 1) [AV.nilsl]).all slC &&
                    cdec (n ≤ (setC cs (i.toNat * 1) [AV.nilsl]).length))))))
          (some
            (Fin.ret (AV.agg [AV.vs 2 v 1 (trN n (setC cs (i.toNat * 1) [AV.nilsl]))]),
              St.mk
                [Ob.cells [AV.vs 2 v 1 (trN n (setC cs (i.toNat * 1) [AV.nilsl]))],
                  Ob.cells [AV.vs 2 v 1 (trN n (setC cs (i.toNat * 1) [AV.nilsl]))],
                  Ob.vec v (setC cs (i.toNat * 1) [AV.nilsl])]
                []))
          none)
        none
    else none := by kernel_rfl

theorem rw_out (F : Nat) (i : Int) (v n : Nat) (cs : List AV) (bs : List (List AV)) :
    ((Cont.block 0 (Cont.then (f40_r0.run F (f40.leaveK Fun.done)) (f40.leaveK Fun.done))) (.exit 0) (Env.mk 35 [(1, .int .i64 i), (2, .ns false 1 bs), (6, .ptr 0 0), (7, .ptr 1 0)]) ⟨[.cells [.nilsl], .cells [.vs 2 v 1 n], .vec v cs], []⟩ : Ans) =
    if (0 : Int) ≤ i ∧ i < (↑n : Int) then
      branch (AV.bool (v.beq v && (true && inC cs (i.toNat * 1) 1)))
        (branch
          (AV.bool
            (true &&
              (v.beq v &&
                (okS (cR (setC cs (i.toNat * 1) [AV.ns false 1 bs])) &&
                  ((setC cs (i.toNat * 1) [AV.ns false 1 bs]).all slC &&
                    cdec (n ≤ (setC cs (i.toNat * 1) [AV.ns false 1 bs]).length))))))
          (some
            (Fin.ret
                (AV.agg [AV.vs 2 v 1 (trN n (setC cs (i.toNat * 1) [AV.ns false 1 bs]))]),
              St.mk
                [Ob.cells [AV.vs 2 v 1 (trN n (setC cs (i.toNat * 1) [AV.ns false 1 bs]))],
                  Ob.cells [AV.vs 2 v 1 (trN n (setC cs (i.toNat * 1) [AV.ns false 1 bs]))],
                  Ob.vec v (setC cs (i.toNat * 1) [AV.ns false 1 bs])]
                []))
          none)
        none
    else none := by kernel_rfl

end Go.Proofs.Ytblliolkgkgppaa.V

/- Page: the reference's slots, of which one has bytes; a slot's bytes. -/
set_option linter.unusedVariables false
namespace Go.Proofs.Ytblliolkgkgppaa.V
open Go Go.V Go.RowKit

/-! ### The reference's slots -/
def cellN (o : Option (List Nat)) : AV := match o with
  | none => .nilsl
  | some b => .ns false 1 (bR b)
def sCN (s : Sl) : List AV := s.map cellN
/-- Slots as rows. -/
def sN (s : Sl) : List (List AV) := s.map fun o => [cellN o]
theorem cR_sCN (s : Sl) : cR (sCN s) = sN s := by simp [cR, sCN, sN]
theorem sCN_length (s : Sl) : (sCN s).length = s.length := by simp [sCN]
theorem sN_length (s : Sl) : (sN s).length = s.length := by simp [sN]
theorem sCN_append (s t : Sl) : sCN (s ++ t) = sCN s ++ sCN t := by simp [sCN]
theorem slot_N (o : Option (List Nat)) : slot [cellN o] = o := by
  cases o with
  | none => rfl
  | some b => simp [cellN, slot, nilA, rwA, nR_bR]
theorem sR_sN (s : Sl) : sR (sN s) = s := by
  simp only [sR, sN, List.map_map]
  conv => rhs; rw [← List.map_id s]
  exact List.map_congr_left fun o _ => slot_N o
theorem okS_sN {s : Sl} (h : okSl s) : okS (sN s) = true := by
  rw [okS_iff, sN_length]
  refine ⟨fun r hr => ?_, h.2⟩
  obtain ⟨o, ho, rfl⟩ := List.mem_map.mp hr
  cases o with
  | none => exact ⟨rfl, by simp [cellN, rwA]⟩
  | some b =>
    obtain ⟨h1, h2⟩ := h.1 b ho
    exact ⟨okR_bR h1, by simpa [cellN, rwA, bR_length] using h2⟩
theorem slC_sCN (s : Sl) : (sCN s).all slC = true := by
  rw [List.all_eq_true]
  intro c hc
  obtain ⟨o, _, rfl⟩ := List.mem_map.mp hc
  cases o <;> rfl
theorem sN_scoped {n m : Nat} : ∀ s : Sl, ScopedR n m (sN s)
  | [] => trivial
  | none :: s => ⟨⟨trivial, trivial⟩, sN_scoped s⟩
  | some b :: s => ⟨⟨bR_scoped b, trivial⟩, sN_scoped s⟩
theorem nilA_N (o : Option (List Nat)) : nilA [cellN o] = o.isNone := by cases o <;> rfl
theorem trR_sN (s : Sl) : trR (sN s) = sN (trS s) := by
  rw [trR, opq_eq, trS, sN, sN, ← List.map_reverse, List.map_reverse]
  have h : ∀ t : Sl, (t.map fun o => [cellN o]).dropWhile nilA = (t.dropWhile (·.isNone)).map fun o => [cellN o] := by
    intro t
    induction t with
    | nil => rfl
    | cons o t ih =>
      rw [List.map_cons, List.dropWhile_cons, List.dropWhile_cons, nilA_N]
      cases o with
      | none => exact ih
      | some b => rfl
  rw [← List.map_reverse, h, List.map_reverse]
theorem sN_take (s : Sl) (n : Nat) : cR ((sCN s).take n) = sN (s.take n) := by rw [show (sCN s).take n = sCN (s.take n) by simp [sCN], cR_sCN]
theorem trN_sCN (s : Sl) : trN s.length (sCN s) = (trS s).length := by
  rw [trN, opq_eq, List.take_of_length_le (by rw [sCN_length]; exact Nat.le_refl _), cR_sCN, trR_sN, sN_length]
theorem rows_sCN (s : Sl) (n : Nat) (h : n ≤ s.length) : rowsOf 1 n (sCN s) = some (sN (s.take n)) := by
  rw [rowsOf_one n _ (by rw [sCN_length]; exact h), sN_take]
theorem padC_sCN (s : Sl) (m : Nat) : padC (sCN s) m = sCN (padS s m) := by
  rw [padC, padS, sCN_append, sCN_length]
  congr 1
  simp [sCN, cellN]
theorem set_sCN (s : Sl) (k : Nat) (o : Option (List Nat)) : (sCN s).set k (cellN o) = sCN (s.set k o) := by simp [sCN, List.map_set]
theorem okSl_pad {s : Sl} (h : okSl s) {m : Nat} (hm : m < 4611686018427387904) : okSl (padS s m) := by
  refine ⟨fun b hb => ?_, by rw [padS_len]; have := h.2; omega⟩
  rcases List.mem_append.mp hb with hb | hb
  · exact h.1 b hb
  · have := List.eq_of_mem_replicate hb; cases this
theorem okSl_set {s : Sl} (h : okSl s) {k : Nat} {o : Option (List Nat)} (ho : ∀ b, o = some b → (∀ x ∈ b, x < 256) ∧ b.length < 4611686018427387904) : okSl (s.set k o) := by
  refine ⟨fun b hb => ?_, by rw [List.length_set]; exact h.2⟩
  rcases List.mem_or_eq_of_mem_set hb with hb | hb
  · exact h.1 b hb
  · exact ho b hb.symm
/-- A slice of the reference's slots. -/
noncomputable def isN (l : List (List AV)) : Bool := cdec (okSl (sR l) ∧ l = sN (sR l) ∧ l.length ≤ 1000)
theorem isN_iff {l : List (List AV)} : isN l = true ↔ okSl (sR l) ∧ l = sN (sR l) ∧ l.length ≤ 1000 := cdec_iff
theorem isN_sN {s : Sl} (h : okSl s) (h2 : s.length ≤ 1000) : isN (sN s) = true := by rw [isN_iff, sR_sN, sN_length]; exact ⟨h, rfl, h2⟩

/-! ### With -/
noncomputable abbrev rwK (F : Nat) : Cont := Cont.block 0 (Cont.then (f40_r0.run F (f40.leaveK Fun.done)) (f40.leaveK Fun.done))
theorem rw_loop (F k : Nat) (hk : k ≤ 1000) (b : AV) (x : Ob) : ∀ (d m v : Nat) (cs : List AV), cs.length + d = max cs.length (k + 1) → d < m →
    loopRun (f40_l0.run F) [1, 2, 6, 7] (rwK F) m (Env.mk 35 [(1, .int .i64 (k : Int)), (2, b), (6, .ptr 0 0), (7, .ptr 1 0)]) ⟨[x, .cells [.vs 2 v 1 cs.length], .vec v cs], []⟩
      = rwK F (.exit 0) (Env.mk 35 [(1, .int .i64 (k : Int)), (2, b), (6, .ptr 0 0), (7, .ptr 1 0)]) ⟨[x, .cells [.vs 2 (v + d) 1 (padC cs (k + 1)).length], .vec (v + d) (padC cs (k + 1))], []⟩
  | d, 0, v, cs, hd, hm => by omega
  | 0, m + 1, v, cs, hd, hm => by
    have : padC cs (k + 1) = cs := by rw [padC, show k + 1 - cs.length = 0 by omega]; simp
    rw [show m + 1 = m.succ from rfl, rw_round, branch_not (by simp; omega), this]
    rfl
  | d + 1, m + 1, v, cs, hd, hm => by
    have hlt : cs.length ≤ k := by omega
    have hp : padC (cs ++ [.nilsl]) (k + 1) = padC cs (k + 1) := by
      simp only [padC, List.length_append, List.length_singleton, List.append_assoc]
      rw [show k + 1 - cs.length = (k + 1 - (cs.length + 1)) + 1 by omega, List.replicate_succ]
      rfl
    rw [show m + 1 = m.succ from rfl, rw_round, branch_of (by simpa using hlt), branch_of (vs_guard rfl (by omega)), catC_one rfl]
    have ih := rw_loop F k hk b x d m (v + 1) (cs ++ [.nilsl]) (by rw [List.length_append, List.length_singleton]; omega) (by omega)
    rw [hp, List.length_append, List.length_singleton, show v + 1 + d = v + (d + 1) by omega] at ih
    exact ih
noncomputable def wrR (l : List (List AV)) (i : Int) (o : Option (List Nat)) : List (List AV) := opq (sN (withS (sR l) i.toNat o))
theorem rw_end (F k v : Nat) (hk : k ≤ 1000) (s : Sl) (hs : okSl s) (o : Option (List Nat)) (ho : ∀ b, o = some b → (∀ x ∈ b, x < 256) ∧ b.length < 4611686018427387904) :
    ∃ xs, rwK F (.exit 0) (Env.mk 35 [(1, .int .i64 (k : Int)), (2, cellN o), (6, .ptr 0 0), (7, .ptr 1 0)]) ⟨[.cells [.nilsl], .cells [.vs 2 v 1 (padC (sCN s) (k + 1)).length], .vec v (padC (sCN s) (k + 1))], []⟩ = some (.ret (.agg [.vs 2 v 1 (withS s k o).length]), ⟨xs, []⟩) ∧ xs[2]? = some (.vec v (sCN ((padS s (k + 1)).set k o))) := by
  have hl : k < (padC (sCN s) (k + 1)).length := by rw [padC_length]; omega
  have hset : setC (padC (sCN s) (k + 1)) k [cellN o] = sCN ((padS s (k + 1)).set k o) := by rw [setC_one hl, padC_sCN, set_sCN]
  have hok : okSl ((padS s (k + 1)).set k o) := okSl_set (okSl_pad hs (by omega)) ho
  have hlen : (padC (sCN s) (k + 1)).length = ((padS s (k + 1)).set k o).length := by rw [padC_sCN, sCN_length, List.length_set]
  have htr : trN ((padS s (k + 1)).set k o).length (sCN ((padS s (k + 1)).set k o)) = (withS s k o).length := trN_sCN _
  have hg1 : (v.beq v && (true && inC (padC (sCN s) (k + 1)) (k * 1) 1)) = true := by
    rw [Nat.beq_refl, Bool.true_and, Bool.true_and, inC_iff]; omega
  have hg2 : (true && (v.beq v && (okS (cR (sCN ((padS s (k + 1)).set k o))) && ((sCN ((padS s (k + 1)).set k o)).all slC && cdec ((padC (sCN s) (k + 1)).length ≤ (sCN ((padS s (k + 1)).set k o)).length))))) = true := by
    rw [Nat.beq_refl, cR_sCN, okS_sN hok, slC_sCN, cdec_iff.mpr (by rw [sCN_length, hlen]; exact Nat.le_refl _)]; rfl
  cases o with
  | none =>
    refine ⟨[.cells [.vs 2 v 1 (withS s k none).length], .cells [.vs 2 v 1 (withS s k none).length], .vec v (sCN ((padS s (k + 1)).set k none))], ?_, rfl⟩
    · rw [rwK, show cellN none = .nilsl from rfl, rw_out0, if_pos ⟨by omega, by omega⟩, Int.toNat_natCast, branch_of hg1, Nat.mul_one, show AV.nilsl = cellN none from rfl, hset, branch_of hg2, hlen, htr]
  | some b =>
    refine ⟨[.cells [.vs 2 v 1 (withS s k (some b)).length], .cells [.vs 2 v 1 (withS s k (some b)).length], .vec v (sCN ((padS s (k + 1)).set k (some b)))], ?_, rfl⟩
    · rw [rwK, show cellN (some b) = .ns false 1 (bR b) from rfl, rw_out, if_pos ⟨by omega, by omega⟩, Int.toNat_natCast, branch_of hg1, Nat.mul_one, show AV.ns false 1 (bR b) = cellN (some b) from rfl, hset, branch_of hg2, hlen, htr]
theorem rw_all (z : Bool) (k : Nat) (hk : k ≤ 1000) (s : Sl) (hs : okSl s) (h1000 : s.length ≤ 1000) (o : Option (List Nat)) (ho : ∀ b, o = some b → (∀ x ∈ b, x < 256) ∧ b.length < 4611686018427387904) :
    ∃ v xs, f40.run (k + 3) [.agg [.ns z 1 (sN s)], .int .i64 (k : Int), cellN o] ⟨[], []⟩ = some (.ret (.agg [.vs 2 v 1 (withS s k o).length]), ⟨xs, []⟩) ∧ xs[2]? = some (.vec v (sCN ((padS s (k + 1)).set k o))) := by
  have hap : apOk (sN s).length 24 = true := by rw [apOk_iff, sN_length]; omega
  rw [rw_run, branch_of hap]
  cases s with
  | nil =>
    have e : padC [.nilsl] (k + 1) = padC (sCN []) (k + 1) := by
      simp only [padC, sCN, List.map_nil, List.length_nil, List.length_singleton]
      rw [show k + 1 - 0 = (k + 1 - 1) + 1 by omega, List.replicate_succ]
      rfl
    have hl := rw_loop (k + 3) k hk (cellN o) (.cells [.nilsl]) k (k + 2) 1 [.nilsl] (by simp; omega) (by omega)
    rw [e] at hl
    obtain ⟨xs, q1, q2⟩ := rw_end (k + 3) k (1 + k) hk [] hs o ho
    refine ⟨1 + k, xs, ?_, q2⟩
    rw [branch_of (by rfl)]
    rw [show loopRun (f40_l0.run (k + 3)) [1, 2, 6, 7] (Cont.block 0 (Cont.then (f40_r0.run (k + 3) (f40.leaveK Fun.done)) (f40.leaveK Fun.done))) (k + 3) = loopRun (f40_l0.run (k + 3)) [1, 2, 6, 7] (Cont.block 0 (Cont.then (f40_r0.run (k + 3) (f40.leaveK Fun.done)) (f40.leaveK Fun.done))) (k + 2).succ from rfl, rw_round0, branch_of (by simp), branch_of ap_one, catC_nil]
    exact hl.trans q1
  | cons o0 s =>
    have hl := rw_loop (k + 3) k hk (cellN o) (.cells [.nilsl]) (max (sCN (o0 :: s)).length (k + 1) - (sCN (o0 :: s)).length) (k + 3) 1 (sCN (o0 :: s)) (by omega) (by omega)
    obtain ⟨xs, q1, q2⟩ := rw_end (k + 3) k (1 + (max (sCN (o0 :: s)).length (k + 1) - (sCN (o0 :: s)).length)) hk (o0 :: s) hs o ho
    refine ⟨_, xs, ?_, q2⟩
    have hc : catC [] 0 (sN (o0 :: s)) = sCN (o0 :: s) := by rw [catC_nil, ← cR_sCN, cR_flat]
    have hn : (sN (o0 :: s)).length.beq 0 = false := by rw [sN_length]; rfl
    rw [branch_not hn, hc, sN_length, ← sCN_length]
    exact hl.trans q1
theorem withS_take (s : Sl) (k : Nat) (o : Option (List Nat)) : ((padS s (k + 1)).set k o).take (withS s k o).length = withS s k o := by rw [withS]; exact (trS_take _).symm
theorem withS_len (s : Sl) (k : Nat) (o : Option (List Nat)) : (withS s k o).length ≤ ((padS s (k + 1)).set k o).length := trS_len _
noncomputable def cellO (b : AV) : Option (Option (List Nat)) := match b with
  | .nilsl => some none
  | .ns false s l => bif Nat.beq s 1 && byOk l then some (some (nR l)) else none
  | _ => none
theorem p40_spec {z : Bool} {l : List (List AV)} {i : Int} {b : AV} {o : Option (List Nat)} (hl : isN l = true) (hi : 0 ≤ i ∧ i ≤ 1000) (hb : b = cellN o) (ho : ∀ c, o = some c → (∀ x ∈ c, x < 256) ∧ c.length < 4611686018427387904) :
    ∃ F r' st', f40.run F [.agg [.ns z 1 l], .int .i64 i, b] ⟨[], []⟩ = some (.ret r', st') ∧ Scoped 0 0 (hard st'.objs r') ∧ Wk (hard st'.objs r') (.agg [.ns false 1 (wrR l i o)]) := by
  obtain ⟨h1, h2, h3⟩ := isN_iff.mp hl
  obtain ⟨k, rfl⟩ := Int.eq_ofNat_of_zero_le hi.1
  obtain ⟨v, xs, q1, q2⟩ := rw_all z k (by omega) (sR l) h1 (by rw [sR_length]; exact h3) o ho
  rw [← h2] at q1
  have hh : hard xs (.agg [.vs 2 v 1 (withS (sR l) k o).length]) = .agg [.sl 1 false (sN (withS (sR l) k o))] := by
    simp only [hard, hardL, q2, Nat.beq_refl]
    rw [rows_sCN _ _ (withS_len _ _ _), withS_take]
  refine ⟨k + 3, _, ⟨xs, []⟩, by rw [hb]; exact q1, ?_, ?_⟩
  · show Scoped 0 0 (hard xs _)
    rw [hh]; exact ⟨sN_scoped _, trivial⟩
  · show Wk (hard xs _) _
    rw [hh, wrR, opq_eq, Int.toNat_natCast]
    exact .agg (.cons .sl .nil)
noncomputable def p40 : POrc Try.prog := f40.farW
  (fun args k => match args with
    | [.agg [x], .int .i64 i, .nilsl] => onNs 1 x fun _ l => ifT (isN l && cdec (0 ≤ i ∧ i ≤ 1000)) (k (.agg [.ns false 1 (wrR l i none)]))
    | [.agg [x], .int .i64 i, .ns false s c] => onNs 1 x fun _ l => ifT (isN l && (cdec (0 ≤ i ∧ i ≤ 1000) && (Nat.beq s 1 && byOk c))) (k (.agg [.ns false 1 (wrR l i (some (nR c)))]))
    | _ => none)
  fun args k fin h => by
    split at h
    · rename_i x i
      obtain ⟨z, l, h, hx⟩ := onNs_spec h
      obtain ⟨h1, h⟩ := ifT_spec h
      rw [Bool.and_eq_true, cdec_iff] at h1
      obtain ⟨F, r', st', q1, q2, q3⟩ := p40_spec (z := z) (o := none) h1.1 h1.2 rfl (fun c hc => by cases hc)
      obtain ⟨k1, k2, _⟩ := isN_iff.mp h1.1
      exact ⟨_, _, h, .cons (.agg (.cons hx .nil)) (.cons (.refl _) (.cons (.refl _) .nil)), ⟨⟨by rw [k2]; exact sN_scoped _, trivial⟩, trivial, trivial, trivial⟩, F, r', st', q1, q2, q3⟩
    · rename_i x i s c
      obtain ⟨z, l, g1, hx⟩ := onNs_spec h
      obtain ⟨h1, g2⟩ := ifT_spec g1
      simp only [Bool.and_eq_true, cdec_iff] at h1
      obtain ⟨e1, e2, e3, e4⟩ := h1
      obtain rfl := Nat.eq_of_beq_eq_true e3
      have hok := byOk_iff.mp e4
      have hr := okR_rows hok.1
      obtain ⟨F, r', st', q1, q2, q3⟩ := p40_spec (z := z) (o := some (nR c)) (b := .ns false 1 c) e1 e2 (by rw [cellN, ← hr]) (fun c' hc => by
        cases hc; exact ⟨fun x hx => okR_lt hok.1 hx, by rw [nR_length]; exact hok.2⟩)
      obtain ⟨k1, k2, _⟩ := isN_iff.mp e1
      exact ⟨_, _, g2, .cons (.agg (.cons hx .nil)) (.cons (.refl _) (.cons (.refl _) .nil)), ⟨⟨by rw [k2]; exact sN_scoped _, trivial⟩, trivial, okR_scoped hok.1, trivial⟩, F, r', st', q1, q2, q3⟩
    · cases h
theorem p40_nat : p40.Nat := by
  intro args k
  simp only [p40, Fun.farW]
  split
  · exact onNs_nat fun _ _ => ifT_nat rfl
  · exact onNs_nat fun _ _ => ifT_nat rfl
  · rfl

/-! ### Get -/
noncomputable def getI (l : List (List AV)) (i : Int) : Option (List Nat) := opq (getP (sR l) i)
noncomputable def p30 : POrc Try.prog := f30.farW
  (fun args k => match args with
    | [.agg [x], .int .i64 i] => onNs 1 x fun _ l => ifT (isN l) (k (oV (getI l i)))
    | _ => none)
  fun args k fin h => by
    split at h
    · rename_i x i
      obtain ⟨z, l, g1, hx⟩ := onNs_spec h
      obtain ⟨h1, g2⟩ := ifT_spec g1
      obtain ⟨k1, k2, k3⟩ := isN_iff.mp h1
      rw [getI, opq_eq] at g2
      generalize hs : sR l = s at k1 k2 g2
      subst k2
      refine ⟨_, _, g2, .cons (.agg (.cons hx .nil)) (.cons (.refl _) .nil), ⟨⟨sN_scoped _, trivial⟩, trivial, trivial⟩, 0, ?_⟩
      rw [rg_run]
      by_cases h0 : i < 0
      · refine ⟨_, ⟨[], []⟩, branch_of (by simpa using h0), ⟨trivial, trivial, trivial⟩, ?_⟩
        rw [show getP s i = none by rw [getP, if_neg (by omega)]]
        exact oV_none
      · obtain ⟨n, rfl⟩ := Int.eq_ofNat_of_zero_le (by omega : 0 ≤ i)
        rw [branch_not (by simp)]
        by_cases hn : s.length ≤ n
        · refine ⟨_, ⟨[], []⟩, branch_of (by rw [sN_length]; simpa using hn), ⟨trivial, trivial, trivial⟩, ?_⟩
          rw [show getP s (n : Int) = none by rw [getP, if_pos (by omega), Int.toNat_natCast, List.getElem?_eq_none hn]; rfl]
          exact oV_none
        · have hlt : n < s.length := by omega
          have hg : getP s (n : Int) = s[n] := by rw [getP, if_pos (by omega), Int.toNat_natCast, List.getElem?_eq_getElem hlt]; rfl
          have hi : inR (sN s) (n : Int) = true := inR_nat (by rw [sN_length]; exact hlt)
          have hr : V.rowAt (sN s) (n : Int) = [cellN s[n]] := by rw [rowAt_nat (by rw [sN_length]; exact hlt)]; simp [sN]
          rw [branch_not (by rw [sN_length]; simp; omega), branch_of hi, hr, hg]
          cases s[n] with
          | none => exact ⟨_, ⟨[], []⟩, rfl, ⟨trivial, trivial, trivial⟩, oV_none⟩
          | some b =>
            refine ⟨.tup [.ns false 1 (bR b), .bool true], ⟨[], []⟩, ?_, ⟨?_, trivial, trivial⟩, ?_⟩
            · rw [branch_of (show (LD.one (LT.ns 1)).is [cellN (some b)] = true from rfl), branch_not (show nilA [cellN (some b)] = false from rfl), branch_of hi, branch_of (show (LD.one (LT.ns 1)).is [cellN (some b)] = true from rfl)]
              rfl
            · simp only [hard]; rw [hardR_id _ _ (bR_scoped b)]; exact bR_scoped b
            · simp only [hard, hardL]
              rw [hardR_id _ _ (bR_scoped b), oV, oB_some, oR_some]
              exact .refl _
    · cases h
theorem p30_nat : p30.Nat := by
  intro args k
  simp only [p30, Fun.farW]
  split
  · exact onNs_nat fun _ _ => ifT_nat rfl
  · rfl
end Go.Proofs.Ytblliolkgkgppaa.V

/- The functions' pieces, as told by gen.py. -/
set_option linter.unusedVariables false
set_option maxRecDepth 20000
namespace Go.Proofs.Ytblliolkgkgppaa.V
open Go Go.V Go.RowKit


/-! ### 31: (interlock/interlockref06.Page).Put (53, 3, 25); results 6, 7; slots: 0 p, 1 slot, 2 b, 3 p, 4 slot, 5 b, 8 own -/
noncomputable def f31_b : Sim Try.prog :=
  (.seq (.live [1, 2, 3] (.region 0 [
    ⟨(opBoxF (some 3) 53 (.tmp 0) 0 "ref.go:95" #[]).op, none⟩,
    ⟨(opAssign (some 6) (.const (Value.slice none 0 0)) 25 "ref.go:95" #[]).op, none⟩,
    ⟨(opAssign (some 7) (.const (Value.bool false)) 4 "ref.go:95" #[{ on := 1, ground := Ground.chain }]).op, none⟩
  ] (by kernel_rfl)))
  (.seq (.seq (.live [1, 2, 3, 14] (.region 1 [
    ⟨(opMove (some 9) (.tmp 1) 3 "ref.go:96" #[]).op, none⟩,
    ⟨(opBin (some 10) .lss 3 (.tmp 9) (.const (Value.int IntKind.i64 0)) 3 4 "ref.go:96" #[{ on := 0, ground := Ground.data }]).op, none⟩,
    ⟨(opMove (some 11) (.tmp 10) 4 "ref.go:96" #[{ on := 1, ground := Ground.data }]).op, none⟩,
    ⟨(opMove (some 12) (.tmp 1) 3 "ref.go:96" #[{ on := 2, ground := Ground.guard }]).op, (some (2, 11, false))⟩,
    ⟨(opBin (some 13) .gtr 3 (.tmp 12) (.const (Value.int IntKind.i64 250)) 3 4 "ref.go:96" #[{ on := 3, ground := Ground.data }, { on := 2, ground := Ground.guard }]).op, (some (2, 11, false))⟩,
    ⟨(opPick (some 14) (.tmp 11) (.const (Value.bool true)) (.tmp 13) 4 "ref.go:96" #[{ on := 2, ground := Ground.data }, { on := 4, ground := Ground.data }]).op, none⟩
  ] (by kernel_rfl)))
  (.cond (.tmp 14)
    (.seq (.live [6, 7] (.region 2 [
      ⟨(opAssign (some 6) (.const (Value.slice none 0 0)) 25 "ref.go:97" #[]).op, none⟩,
      ⟨(opAssign (some 7) (.const (Value.bool false)) 4 "ref.go:97" #[{ on := 0, ground := Ground.chain }, { on := 0, ground := Ground.phase }]).op, none⟩
    ] (by kernel_rfl)))
    (.live [6, 7] .ret))
    .skip))
  (.seq (.live [1, 2, 3, 8] (.region 3 [
    ⟨(opMove (some 15) (.tmp 2) 25 "ref.go:99" #[]).op, none⟩,
    ⟨(opLen (some 16) (.tmp 15) 25 (.slice 5) Try.underlying25 3 "ref.go:99" #[{ on := 0, ground := Ground.data }]).op, none⟩,
    ⟨(opMakeC (some 17) 25 (.tmp 16) 5 1 1 (.int .u8 0) el25 [AV.int .u8 0] (by kernel_rfl) (by kernel_rfl) 25 "ref.go:99" #[{ on := 1, ground := Ground.data }, { on := 1, ground := Ground.data }]).op, none⟩,
    ⟨(opAssign (some 8) (.tmp 17) 25 "ref.go:99" #[{ on := 2, ground := Ground.data }, { on := 0, ground := Ground.phase }, { on := 1, ground := Ground.phase }, { on := 2, ground := Ground.phase }]).op, none⟩
  ] (by kernel_rfl)))
  (.seq (.live [1, 3, 8] (.region 4 [
    ⟨(opMove (some 18) (.tmp 8) 25 "ref.go:100" #[]).op, none⟩,
    ⟨(opMove (some 19) (.tmp 2) 25 "ref.go:100" #[]).op, none⟩,
    ⟨(opCopyV (some 20) (.tmp 18) (.tmp 19) 25 25 5 1 Try.underlying25 sz5 3 "ref.go:100" #[{ on := 0, ground := Ground.data }, { on := 1, ground := Ground.data }]).op, none⟩
  ] (by kernel_rfl)))
  (.seq (.live [6, 7] (.region 5 [
    ⟨(opLoadT (.agg [.any]) (some 21) 53 (.tmp 3) d53 ud53 1 sz53 (by kernel_rfl) 53 "ref.go:101" #[]).op, none⟩,
    ⟨(opMove (some 22) (.tmp 1) 3 "ref.go:101" #[]).op, none⟩,
    ⟨(opMoveZ (some 23) (.tmp 8) 25 "ref.go:101" #[]).op, none⟩,
    ⟨(opCallP p40 (some 24) [(.tmp 21), (.tmp 22), (.tmp 23)] #[53, 3, 25] 53 "ref.go:101" #[{ on := 0, ground := Ground.data }, { on := 1, ground := Ground.data }, { on := 2, ground := Ground.data }]).op, none⟩,
    ⟨(opCallQ q38 (some 25) [(.tmp 24)] #[53] 30 "ref.go:101" #[{ on := 3, ground := Ground.data }, { on := 3, ground := Ground.chain }]).op, none⟩,
    ⟨(opExtract (some 26) (.tmp 25) 0 25 "ref.go:101" #[{ on := 4, ground := Ground.data }]).op, none⟩,
    ⟨(opExtract (some 27) (.tmp 25) 1 4 "ref.go:101" #[{ on := 4, ground := Ground.data }]).op, none⟩,
    ⟨(opAssign (some 6) (.tmp 26) 25 "ref.go:101" #[{ on := 5, ground := Ground.data }, { on := 4, ground := Ground.chain }, { on := 0, ground := Ground.phase }, { on := 1, ground := Ground.phase }, { on := 2, ground := Ground.phase }, { on := 3, ground := Ground.phase }, { on := 4, ground := Ground.phase }, { on := 5, ground := Ground.phase }, { on := 6, ground := Ground.phase }]).op, none⟩,
    ⟨(opAssign (some 7) (.tmp 27) 4 "ref.go:101" #[{ on := 6, ground := Ground.data }, { on := 7, ground := Ground.chain }, { on := 0, ground := Ground.phase }, { on := 1, ground := Ground.phase }, { on := 2, ground := Ground.phase }, { on := 3, ground := Ground.phase }, { on := 4, ground := Ground.phase }, { on := 5, ground := Ground.phase }, { on := 6, ground := Ground.phase }, { on := 7, ground := Ground.phase }]).op, none⟩
  ] (by kernel_rfl)))
  (.live [6, 7] .ret))))))

noncomputable def f31 : Fun Try.prog where
  id := 31
  fn := Try.f31
  hf := Try.func31
  hname := by kernel_rfl
  body := f31_b
  hbody := by kernel_rfl
  res := [rTmp 6, rTmp 7]
  hres := by kernel_rfl
  n := 28
  hn := by kernel_rfl

/-! ### 33: (interlock/interlockref06.Page).Cut (53, 3); results 4, 5; slots: 0 p, 1 slot, 2 p, 3 slot, 6 _, 7 ok -/
noncomputable def f33_b : Sim Try.prog :=
  (.seq (.live [1, 2] (.region 0 [
    ⟨(opBoxF (some 2) 53 (.tmp 0) 0 "ref.go:118" #[]).op, none⟩,
    ⟨(opAssign (some 4) (.const (Value.slice none 0 0)) 25 "ref.go:118" #[]).op, none⟩,
    ⟨(opAssign (some 5) (.const (Value.bool false)) 4 "ref.go:118" #[{ on := 1, ground := Ground.chain }]).op, none⟩
  ] (by kernel_rfl)))
  (.seq (.live [1, 2, 7] (.region 1 [
    ⟨(opLoadT (.agg [.any]) (some 9) 53 (.tmp 2) d53 ud53 1 sz53 (by kernel_rfl) 53 "ref.go:119" #[]).op, none⟩,
    ⟨(opMove (some 10) (.tmp 1) 3 "ref.go:119" #[]).op, none⟩,
    ⟨(opCallP p30 (some 11) [(.tmp 9), (.tmp 10)] #[53, 3] 30 "ref.go:119" #[{ on := 0, ground := Ground.data }, { on := 1, ground := Ground.data }]).op, none⟩,
    ⟨(opMove (some 8) (.tmp 11) 30 "ref.go:119" #[{ on := 2, ground := Ground.data }]).op, none⟩,
    ⟨(opExtract (some 12) (.tmp 8) 0 25 "ref.go:119" #[{ on := 3, ground := Ground.data }]).op, none⟩,
    ⟨(opExtract (some 13) (.tmp 8) 1 4 "ref.go:119" #[{ on := 3, ground := Ground.data }, { on := 6, ground := (Ground.gcOnly Departure.lateStores) }]).op, none⟩,
    ⟨(opAssign (some 6) (.tmp 12) 25 "ref.go:119" #[{ on := 4, ground := Ground.data }, { on := 2, ground := Ground.chain }, { on := 0, ground := Ground.phase }, { on := 1, ground := Ground.phase }, { on := 2, ground := Ground.phase }, { on := 3, ground := Ground.phase }, { on := 4, ground := Ground.phase }, { on := 5, ground := (Ground.textOnly Departure.lateStores) }]).op, none⟩,
    ⟨(opAssign (some 7) (.tmp 13) 4 "ref.go:119" #[{ on := 5, ground := Ground.data }, { on := 6, ground := Ground.chain }, { on := 0, ground := Ground.phase }, { on := 1, ground := Ground.phase }, { on := 2, ground := Ground.phase }, { on := 3, ground := Ground.phase }, { on := 4, ground := Ground.phase }, { on := 5, ground := Ground.phase }, { on := 6, ground := Ground.phase }]).op, none⟩
  ] (by kernel_rfl)))
  (.seq (.seq (.live [1, 2, 15] (.region 2 [
    ⟨(opMove (some 14) (.tmp 7) 4 "ref.go:120" #[]).op, none⟩,
    ⟨(opNot (some 15) 4 (.tmp 14) 4 "ref.go:120" #[{ on := 0, ground := Ground.data }]).op, none⟩
  ] (by kernel_rfl)))
  (.cond (.tmp 15)
    (.seq (.live [4, 5] (.region 3 [
      ⟨(opAssign (some 4) (.const (Value.slice none 0 0)) 25 "ref.go:121" #[]).op, none⟩,
      ⟨(opAssign (some 5) (.const (Value.bool false)) 4 "ref.go:121" #[{ on := 0, ground := Ground.chain }, { on := 0, ground := Ground.phase }]).op, none⟩
    ] (by kernel_rfl)))
    (.live [4, 5] .ret))
    .skip))
  (.seq (.live [4, 5] (.region 4 [
    ⟨(opLoadT (.agg [.any]) (some 16) 53 (.tmp 2) d53 ud53 1 sz53 (by kernel_rfl) 53 "ref.go:123" #[]).op, none⟩,
    ⟨(opMove (some 17) (.tmp 1) 3 "ref.go:123" #[]).op, none⟩,
    ⟨(opCallP p40 (some 18) [(.tmp 16), (.tmp 17), (.const (Value.slice none 0 0))] #[53, 3, 25] 53 "ref.go:123" #[{ on := 0, ground := Ground.data }, { on := 1, ground := Ground.data }]).op, none⟩,
    ⟨(opCallQ q38 (some 19) [(.tmp 18)] #[53] 30 "ref.go:123" #[{ on := 2, ground := Ground.data }, { on := 2, ground := Ground.chain }]).op, none⟩,
    ⟨(opExtract (some 20) (.tmp 19) 0 25 "ref.go:123" #[{ on := 3, ground := Ground.data }]).op, none⟩,
    ⟨(opExtract (some 21) (.tmp 19) 1 4 "ref.go:123" #[{ on := 3, ground := Ground.data }]).op, none⟩,
    ⟨(opAssign (some 4) (.tmp 20) 25 "ref.go:123" #[{ on := 4, ground := Ground.data }, { on := 3, ground := Ground.chain }, { on := 0, ground := Ground.phase }, { on := 1, ground := Ground.phase }, { on := 2, ground := Ground.phase }, { on := 3, ground := Ground.phase }, { on := 4, ground := Ground.phase }, { on := 5, ground := Ground.phase }]).op, none⟩,
    ⟨(opAssign (some 5) (.tmp 21) 4 "ref.go:123" #[{ on := 5, ground := Ground.data }, { on := 6, ground := Ground.chain }, { on := 0, ground := Ground.phase }, { on := 1, ground := Ground.phase }, { on := 2, ground := Ground.phase }, { on := 3, ground := Ground.phase }, { on := 4, ground := Ground.phase }, { on := 5, ground := Ground.phase }, { on := 6, ground := Ground.phase }]).op, none⟩
  ] (by kernel_rfl)))
  (.live [4, 5] .ret)))))

noncomputable def f33 : Fun Try.prog where
  id := 33
  fn := Try.f33
  hf := Try.func33
  hname := by kernel_rfl
  body := f33_b
  hbody := by kernel_rfl
  res := [rTmp 4, rTmp 5]
  hres := by kernel_rfl
  n := 22
  hn := by kernel_rfl

end Go.Proofs.Ytblliolkgkgppaa.V

/- What the functions' runs come to; the right sides were printed by a tool, Lean checks them. -/
set_option linter.unusedVariables false
set_option maxRecDepth 100000
namespace Go.Proofs.Ytblliolkgkgppaa.V
open Go Go.V Go.RowKit

theorem rput_run (F : Nat) (z y : Bool) (l b : List (List AV)) (i : Int) :
    (f31.run F [.agg [.ns z 1 l], .int .i64 i, .ns y 1 b] ⟨[], []⟩ : Ans) =
    branch (AV.bool (decide (i < (0 : Int)))) (some (Fin.ret (AV.tup [AV.nilsl, AV.bool false]), St.mk [] []))
      (branch (AV.bool (decide (i > (250 : Int)))) (some (Fin.ret (AV.tup [AV.nilsl, AV.bool false]), St.mk [] []))
        (branch (AV.bool (mkOk 1 (↑b.length : Int)))
          (branch
            (AV.bool
              (inC (zerC (↑b.length : Int).toNat [AV.int IntKind.u8 (0 : Int)]) 0
                (mulN (minN b.length (↑b.length : Int).toNat) 1)))
            (branch
              (AV.bool
                (inC
                  (setC (zerC (↑b.length : Int).toNat [AV.int IntKind.u8 (0 : Int)]) 0
                    (flC b (minN b.length (↑b.length : Int).toNat)))
                  0 (mulN (↑b.length : Int).toNat 1)))
              (branch
                (AV.bool
                  (isN l &&
                    (cdec ((0 : Int) ≤ i ∧ i ≤ (1000 : Int)) &&
                      (true &&
                        byOk
                          (rowsC 1 (↑b.length : Int).toNat
                            (setC (zerC (↑b.length : Int).toNat [AV.int IntKind.u8 (0 : Int)]) 0
                              (flC b (minN b.length (↑b.length : Int).toNat)))
                            0)))))
                (branch
                  (AV.bool
                    (okS
                      (wrR l i
                        (some
                          (nR
                            (rowsC 1 (↑b.length : Int).toNat
                              (setC (zerC (↑b.length : Int).toNat [AV.int IntKind.u8 (0 : Int)]) 0
                                (flC b (minN b.length (↑b.length : Int).toNat)))
                              0))))))
                  (some
                    (Fin.ret
                        (AV.tup
                          [AV.ns
                              (!pgOk
                                  (sR
                                    (wrR l i
                                      (some
                                        (nR
                                          (rowsC 1 (↑b.length : Int).toNat
                                            (setC (zerC (↑b.length : Int).toNat [AV.int IntKind.u8 (0 : Int)]) 0
                                              (flC b (minN b.length (↑b.length : Int).toNat)))
                                            0))))))
                              1
                              (pgR
                                (wrR l i
                                  (some
                                    (nR
                                      (rowsC 1 (↑b.length : Int).toNat
                                        (setC (zerC (↑b.length : Int).toNat [AV.int IntKind.u8 (0 : Int)]) 0
                                          (flC b (minN b.length (↑b.length : Int).toNat)))
                                        0))))),
                            AV.bool
                              (pgOk
                                (sR
                                  (wrR l i
                                    (some
                                      (nR
                                        (rowsC 1 (↑b.length : Int).toNat
                                          (setC (zerC (↑b.length : Int).toNat [AV.int IntKind.u8 (0 : Int)]) 0
                                            (flC b (minN b.length (↑b.length : Int).toNat)))
                                          0))))))]),
                      St.mk [Ob.gone] []))
                  none)
                none)
              none)
            none)
          none)) := by kernel_rfl

theorem rcut_run (F : Nat) (z : Bool) (l : List (List AV)) (i : Int) :
    (f33.run F [.agg [.ns z 1 l], .int .i64 i] ⟨[], []⟩ : Ans) =
    branch (AV.bool (isN l))
      (branch (AV.bool !oB (getI l i)) (some (Fin.ret (AV.tup [AV.nilsl, AV.bool false]), St.mk [] []))
        (branch (AV.bool (isN l && cdec ((0 : Int) ≤ i ∧ i ≤ (1000 : Int))))
          (branch (AV.bool (okS (wrR l i none)))
            (some
              (Fin.ret
                  (AV.tup
                    [AV.ns (!pgOk (sR (wrR l i none))) 1 (pgR (wrR l i none)), AV.bool (pgOk (sR (wrR l i none)))]),
                St.mk [] []))
            none)
          none))
      none := by kernel_rfl

end Go.Proofs.Ytblliolkgkgppaa.V

/- Page: the reference's Put, Cut. -/
set_option linter.unusedVariables false
namespace Go.Proofs.Ytblliolkgkgppaa.V
open Go Go.V Go.RowKit

theorem okSl_take {s : Sl} (h : okSl s) (n : Nat) : okSl (s.take n) := ⟨fun b hb => h.1 b (List.mem_of_mem_take hb), by rw [List.length_take]; have := h.2; omega⟩
theorem okSl_withN {s : Sl} (h : okSl s) {k : Nat} (hk : k ≤ 1000) {o : Option (List Nat)} (ho : ∀ b, o = some b → (∀ x ∈ b, x < 256) ∧ b.length < 4611686018427387904) : okSl (withS s k o) := by
  rw [← withS_take]
  exact okSl_take (okSl_set (okSl_pad h (by omega)) ho) _
theorem wrR_eq (l : List (List AV)) (k : Nat) (o : Option (List Nat)) : wrR l (k : Int) o = sN (withS (sR l) k o) := by rw [wrR, opq_eq, Int.toNat_natCast]
theorem oV_toP (s : Sl) : AV.tup [.ns (!pgOk (sR (sN s))) 1 (pgR (sN s)), .bool (pgOk (sR (sN s)))] = oV (toP s) := by
  rw [toP]
  cases h : pgOk s with
  | true =>
    have e : pgOk (sR (sN s)) = true := by rw [sR_sN]; exact h
    rw [pgR_ok e, sR_sN, h, if_pos rfl, oV, oB_some, oR_some]
  | false =>
    have e : pgOk (sR (sN s)) = false := by rw [sR_sN]; exact h
    rw [pgR_no e, sR_sN, h, if_neg (by simp), oV, oB_none, oR_none]
theorem own_row (b : List Nat) : rowsC 1 (((bR b).length : Nat) : Int).toNat (setC (zerC (((bR b).length : Nat) : Int).toNat [.int .u8 0]) 0 (flC (bR b) (minN (bR b).length (((bR b).length : Nat) : Int).toNat))) 0 = bR b ∧
    inC (zerC (((bR b).length : Nat) : Int).toNat [.int .u8 0]) 0 (mulN (minN (bR b).length (((bR b).length : Nat) : Int).toNat) 1) = true ∧
    inC (setC (zerC (((bR b).length : Nat) : Int).toNat [.int .u8 0]) 0 (flC (bR b) (minN (bR b).length (((bR b).length : Nat) : Int).toNat))) 0 (mulN (((bR b).length : Nat) : Int).toNat 1) = true := by
  have hz : (List.replicate b.length 0).length = b.length := List.length_replicate
  have e1 : minN b.length b.length = b.length := by rw [minN, opq_eq, Nat.min_self]
  have e2 : putN (List.replicate b.length 0) 0 b = b := by rw [putN, List.take_zero, List.nil_append, Nat.zero_add, List.drop_replicate, Nat.sub_self]; simp
  rw [Int.toNat_natCast, bR_length, e1, zerC_byte, flC_bR, List.take_of_length_le (Nat.le_refl _), setC_bC (by omega), e2, mulN, opq_eq, Nat.mul_one]
  refine ⟨?_, by rw [inC_iff, bC_length]; omega, by rw [inC_iff, bC_length]; omega⟩
  rw [rowsC_bC (by omega), List.drop_zero, List.take_of_length_le (Nat.le_refl _)]
noncomputable def putI (l : List (List AV)) (i : Int) (b : List Nat) : Option (List Nat) := opq (putS (sR l) i b)
noncomputable def p31 : POrc Try.prog := f31.farW
  (fun args k => match args with
    | [.agg [x], .int .i64 i, y] => onNs 1 x fun _ l => onNs 1 y fun _ b => ifT (isN l && (byOk b && cdec (b.length ≤ 1000000))) (k (oV (putI l i (nR b))))
    | _ => none)
  fun args k fin h => by
    split at h
    · rename_i x i y
      obtain ⟨z, l, g1, hx⟩ := onNs_spec h
      obtain ⟨z', b, g2, hy⟩ := onNs_spec g1
      obtain ⟨h1, g3⟩ := ifT_spec g2
      simp only [Bool.and_eq_true, cdec_iff] at h1
      obtain ⟨e1, e2, e3⟩ := h1
      obtain ⟨k1, k2, k3⟩ := isN_iff.mp e1
      have hok := byOk_iff.mp e2
      have hr := okR_rows hok.1
      rw [putI, opq_eq] at g3
      refine ⟨_, _, g3, .cons (.agg (.cons hx .nil)) (.cons (.refl _) (.cons hy .nil)), ⟨⟨by rw [k2]; exact sN_scoped _, trivial⟩, trivial, okR_scoped hok.1, trivial⟩, 0, ?_⟩
      have no : putS (sR l) i (nR b) = none → ∃ r' st', some (Fin.ret (AV.tup [AV.nilsl, AV.bool false]), (⟨[], []⟩ : St)) = some (.ret r', st') ∧ Scoped 0 0 (hard st'.objs r') ∧ Wk (hard st'.objs r') (oV (putS (sR l) i (nR b))) := by
        intro e
        rw [e]
        exact ⟨_, _, rfl, ⟨trivial, trivial, trivial⟩, oV_none⟩
      rw [rput_run]
      by_cases h0 : i < 0
      · rw [branch_of (by rw [decide_eq_true_eq]; exact h0)]
        exact no (by rw [putS, if_neg (by omega)])
      · rw [branch_not (by rw [decide_eq_false_iff_not]; exact h0)]
        by_cases h3 : i > 250
        · rw [branch_of (by rw [decide_eq_true_eq]; exact h3)]
          exact no (by rw [putS, if_neg (by omega)])
        · obtain ⟨n, rfl⟩ := Int.eq_ofNat_of_zero_le (by omega : 0 ≤ i)
          have hs : putS (sR l) (n : Int) (nR b) = toP (withS (sR l) n (some (nR b))) := by rw [putS, if_pos (by omega), Int.toNat_natCast]
          have hof : ∀ c, some (nR b) = some c → (∀ x ∈ c, x < 256) ∧ c.length < 4611686018427387904 := fun c hc => by
            cases hc; exact ⟨fun x hx => okR_lt hok.1 hx, by rw [nR_length]; exact hok.2⟩
          have ho := own_row (nR b)
          rw [← hr] at ho
          obtain ⟨o1, o2, o3⟩ := ho
          rw [branch_not (by rw [decide_eq_false_iff_not]; exact h3), branch_of (by rw [mkOk_iff]; omega), branch_of o2, branch_of o3, o1, branch_of (by rw [e1, e2, cdec_iff.mpr (show (0 : Int) ≤ (n : Int) ∧ (n : Int) ≤ 1000 by omega)]; rfl), wrR_eq, branch_of (okS_sN (okSl_withN k1 (by omega) hof)), oV_toP, hs]
          refine ⟨_, _, rfl, ?_, ?_⟩
          · rw [hard_id _ _ (oV_scoped _)]; exact oV_scoped _
          · rw [hard_id _ _ (oV_scoped _)]; exact .refl _
    · cases h
theorem p31_nat : p31.Nat := by
  intro args k
  simp only [p31, Fun.farW]
  split
  · exact onNs_nat fun _ _ => onNs_nat fun _ _ => ifT_nat rfl
  · rfl
noncomputable def cutI (l : List (List AV)) (i : Int) : Option (List Nat) := opq (cutS (sR l) i)
noncomputable def p33 : POrc Try.prog := f33.farW
  (fun args k => match args with
    | [.agg [x], .int .i64 i] => onNs 1 x fun _ l => ifT (isN l) (k (oV (cutI l i)))
    | _ => none)
  fun args k fin h => by
    split at h
    · rename_i x i
      obtain ⟨z, l, g1, hx⟩ := onNs_spec h
      obtain ⟨e1, g2⟩ := ifT_spec g1
      obtain ⟨k1, k2, k3⟩ := isN_iff.mp e1
      rw [cutI, opq_eq] at g2
      refine ⟨_, _, g2, .cons (.agg (.cons hx .nil)) (.cons (.refl _) .nil), ⟨⟨by rw [k2]; exact sN_scoped _, trivial⟩, trivial, trivial⟩, 0, ?_⟩
      rw [rcut_run, branch_of e1]
      cases hg : getP (sR l) i with
      | none =>
        rw [branch_of (by rw [getI, opq_eq, hg, oB_none]; rfl), show cutS (sR l) i = none by rw [cutS, hg]; rfl]
        exact ⟨_, _, rfl, ⟨trivial, trivial, trivial⟩, oV_none⟩
      | some b =>
        have hi : 0 ≤ i ∧ i.toNat < (sR l).length := by
          unfold getP at hg
          split at hg
          · refine ⟨by assumption, ?_⟩
            rcases Nat.lt_or_ge i.toNat (sR l).length with hlt | hge
            · exact hlt
            · rw [List.getElem?_eq_none hge] at hg; cases hg
          · cases hg
        obtain ⟨n, rfl⟩ := Int.eq_ofNat_of_zero_le hi.1
        have hn : n < l.length := by have := hi.2; rw [Int.toNat_natCast, sR_length] at this; exact this
        have hs : cutS (sR l) (n : Int) = toP (withS (sR l) n none) := by rw [cutS, hg, Int.toNat_natCast]; rfl
        rw [branch_not (by rw [getI, opq_eq, hg, oB_some]; rfl), branch_of (by rw [e1, cdec_iff.mpr (show (0 : Int) ≤ (n : Int) ∧ (n : Int) ≤ 1000 by omega)]; rfl), wrR_eq, branch_of (okS_sN (okSl_withN k1 (by omega) fun c hc => by cases hc)), oV_toP, hs]
        refine ⟨_, _, rfl, ?_, ?_⟩
        · rw [hard_id _ _ (oV_scoped _)]; exact oV_scoped _
        · rw [hard_id _ _ (oV_scoped _)]; exact .refl _
    · cases h
theorem p33_nat : p33.Nat := by
  intro args k
  simp only [p33, Fun.farW]
  split
  · exact onNs_nat fun _ _ => ifT_nat rfl
  · rfl
end Go.Proofs.Ytblliolkgkgppaa.V

/- The functions' pieces, as told by gen.py. -/
set_option linter.unusedVariables false
set_option maxRecDepth 20000
namespace Go.Proofs.Ytblliolkgkgppaa.V
open Go Go.V Go.RowKit


/-! ### 32: (interlock/interlockref06.Page).Add (53, 25); results 4, 5, 6; slots: 0 p, 1 b, 2 p, 3 b, 7 k, 8 out, 9 ok -/
/-- A loop's round; at its head live: 1 b, 2 p, 7 k -/
noncomputable def f32_l0 : Sim Try.prog :=
  (.seq (.seq (.live [1, 2, 7, 22] (.region 2 [
    ⟨(opMove (some 10) (.tmp 7) 3 "ref.go:107" #[]).op, none⟩,
    ⟨(opFieldAddr (some 11) 53 (.tmp 2) 0 0 1 false fl53_0 (by decide) 0 "ref.go:107" #[]).op, none⟩,
    ⟨(opLoadT (.one .any) (some 12) 43 (.tmp 11) (.slice 25) Try.underlying43 1 sz43 (by kernel_rfl) 43 "ref.go:107" #[{ on := 1, ground := Ground.data }]).op, none⟩,
    ⟨(opLen (some 13) (.tmp 12) 43 (.slice 25) Try.underlying43 3 "ref.go:107" #[{ on := 2, ground := Ground.data }]).op, none⟩,
    ⟨(opBin (some 14) .lss 3 (.tmp 10) (.tmp 13) 3 4 "ref.go:107" #[{ on := 0, ground := Ground.data }, { on := 3, ground := Ground.data }]).op, none⟩,
    ⟨(opMove (some 15) (.tmp 14) 4 "ref.go:107" #[{ on := 4, ground := Ground.data }]).op, none⟩,
    ⟨(opFieldAddr (some 16) 53 (.tmp 2) 0 0 1 false fl53_0 (by decide) 0 "ref.go:107" #[{ on := 5, ground := Ground.guard }]).op, (some (5, 15, true))⟩,
    ⟨(opLoadT (.one .any) (some 17) 43 (.tmp 16) (.slice 25) Try.underlying43 1 sz43 (by kernel_rfl) 43 "ref.go:107" #[{ on := 6, ground := Ground.data }, { on := 5, ground := Ground.guard }]).op, (some (5, 15, true))⟩,
    ⟨(opMove (some 18) (.tmp 7) 3 "ref.go:107" #[{ on := 5, ground := Ground.guard }]).op, (some (5, 15, true))⟩,
    ⟨(opIndexAddrT (some 19) 43 (.tmp 17) (.tmp 18) 25 1 Try.underlying43 sz25 0 "ref.go:107" #[{ on := 7, ground := Ground.data }, { on := 8, ground := Ground.data }, { on := 5, ground := Ground.guard }]).op, (some (5, 15, true))⟩,
    ⟨(opLoadT (.one (.ns 1)) (some 20) 25 (.tmp 19) (.slice 5) Try.underlying25 1 sz25 (by kernel_rfl) 25 "ref.go:107" #[{ on := 9, ground := Ground.data }, { on := 5, ground := Ground.guard }]).op, (some (5, 15, true))⟩,
    ⟨(opNe (some 21) 25 (.slice 5) Try.underlying25 (.tmp 20) (.const (Value.slice none 0 0)) (.inl rfl) 25 4 "ref.go:107" #[{ on := 10, ground := Ground.data }, { on := 5, ground := Ground.guard }]).op, (some (5, 15, true))⟩,
    ⟨(opPick (some 22) (.tmp 15) (.tmp 21) (.const (Value.bool false)) 4 "ref.go:107" #[{ on := 5, ground := Ground.data }, { on := 11, ground := Ground.data }]).op, none⟩
  ] (by kernel_rfl)))
  (.cond (.tmp 22)
    .skip
    (.live [1, 2, 7] (.exit 0))))
  (.block 1 (.live [1, 2, 7] (.region 3 [
      ⟨(opMove (some 23) (.tmp 7) 3 "ref.go:108" #[]).op, none⟩,
      ⟨(opBin (some 24) .add 3 (.tmp 23) (.const (Value.int IntKind.i64 1)) 3 3 "ref.go:108" #[{ on := 0, ground := Ground.data }]).op, none⟩,
      ⟨(opAssign (some 7) (.tmp 24) 3 "ref.go:108" #[{ on := 1, ground := Ground.data }, { on := 0, ground := Ground.phase }, { on := 1, ground := Ground.phase }]).op, none⟩
    ] (by kernel_rfl)))))

/-- What follows a loop. -/
noncomputable def f32_r0 : Sim Try.prog :=
  (.seq (.live [7, 8, 9] (.region 4 [
    ⟨(opLoadT (.agg [.any]) (some 26) 53 (.tmp 2) d53 ud53 1 sz53 (by kernel_rfl) 53 "ref.go:110" #[]).op, none⟩,
    ⟨(opMove (some 27) (.tmp 7) 3 "ref.go:110" #[]).op, none⟩,
    ⟨(opMove (some 28) (.tmp 1) 25 "ref.go:110" #[]).op, none⟩,
    ⟨(opCallP p31 (some 29) [(.tmp 26), (.tmp 27), (.tmp 28)] #[53, 3, 25] 30 "ref.go:110" #[{ on := 0, ground := Ground.data }, { on := 1, ground := Ground.data }, { on := 2, ground := Ground.data }]).op, none⟩,
    ⟨(opMove (some 25) (.tmp 29) 30 "ref.go:110" #[{ on := 3, ground := Ground.data }]).op, none⟩,
    ⟨(opExtract (some 30) (.tmp 25) 0 25 "ref.go:110" #[{ on := 4, ground := Ground.data }]).op, none⟩,
    ⟨(opExtract (some 31) (.tmp 25) 1 4 "ref.go:110" #[{ on := 4, ground := Ground.data }, { on := 7, ground := (Ground.gcOnly Departure.lateStores) }]).op, none⟩,
    ⟨(opAssign (some 8) (.tmp 30) 25 "ref.go:110" #[{ on := 5, ground := Ground.data }, { on := 3, ground := Ground.chain }, { on := 0, ground := Ground.phase }, { on := 1, ground := Ground.phase }, { on := 2, ground := Ground.phase }, { on := 3, ground := Ground.phase }, { on := 4, ground := Ground.phase }, { on := 5, ground := Ground.phase }, { on := 6, ground := (Ground.textOnly Departure.lateStores) }]).op, none⟩,
    ⟨(opAssign (some 9) (.tmp 31) 4 "ref.go:110" #[{ on := 6, ground := Ground.data }, { on := 7, ground := Ground.chain }, { on := 0, ground := Ground.phase }, { on := 1, ground := Ground.phase }, { on := 2, ground := Ground.phase }, { on := 3, ground := Ground.phase }, { on := 4, ground := Ground.phase }, { on := 5, ground := Ground.phase }, { on := 6, ground := Ground.phase }, { on := 7, ground := Ground.phase }]).op, none⟩
  ] (by kernel_rfl)))
  (.seq (.seq (.live [7, 8, 33] (.region 5 [
    ⟨(opMove (some 32) (.tmp 9) 4 "ref.go:111" #[]).op, none⟩,
    ⟨(opNot (some 33) 4 (.tmp 32) 4 "ref.go:111" #[{ on := 0, ground := Ground.data }]).op, none⟩
  ] (by kernel_rfl)))
  (.cond (.tmp 33)
    (.seq (.live [4, 5, 6] (.region 6 [
      ⟨(opAssign (some 4) (.const (Value.slice none 0 0)) 25 "ref.go:112" #[]).op, none⟩,
      ⟨(opAssign (some 5) (.const (Value.int IntKind.i64 0)) 3 "ref.go:112" #[{ on := 0, ground := Ground.chain }, { on := 0, ground := Ground.phase }]).op, none⟩,
      ⟨(opAssign (some 6) (.const (Value.bool false)) 4 "ref.go:112" #[{ on := 1, ground := Ground.chain }, { on := 0, ground := Ground.phase }, { on := 1, ground := Ground.phase }]).op, none⟩
    ] (by kernel_rfl)))
    (.live [4, 5, 6] .ret))
    .skip))
  (.seq (.live [4, 5, 6] (.region 7 [
    ⟨(opMove (some 34) (.tmp 8) 25 "ref.go:114" #[]).op, none⟩,
    ⟨(opMove (some 35) (.tmp 7) 3 "ref.go:114" #[{ on := 2, ground := (Ground.gcOnly Departure.lateStores) }]).op, none⟩,
    ⟨(opAssign (some 4) (.tmp 34) 25 "ref.go:114" #[{ on := 0, ground := Ground.data }, { on := 0, ground := Ground.phase }, { on := 1, ground := (Ground.textOnly Departure.lateStores) }]).op, none⟩,
    ⟨(opAssign (some 5) (.tmp 35) 3 "ref.go:114" #[{ on := 1, ground := Ground.data }, { on := 2, ground := Ground.chain }, { on := 0, ground := Ground.phase }, { on := 1, ground := Ground.phase }, { on := 2, ground := Ground.phase }]).op, none⟩,
    ⟨(opAssign (some 6) (.const (Value.bool true)) 4 "ref.go:114" #[{ on := 3, ground := Ground.chain }, { on := 0, ground := Ground.phase }, { on := 1, ground := Ground.phase }, { on := 2, ground := Ground.phase }, { on := 3, ground := Ground.phase }]).op, none⟩
  ] (by kernel_rfl)))
  (.live [4, 5, 6] .ret))))

noncomputable def f32_b : Sim Try.prog :=
  (.seq (.live [1, 2] (.region 0 [
    ⟨(opBoxF (some 2) 53 (.tmp 0) 0 "ref.go:105" #[]).op, none⟩,
    ⟨(opAssign (some 4) (.const (Value.slice none 0 0)) 25 "ref.go:105" #[]).op, none⟩,
    ⟨(opAssign (some 5) (.const (Value.int IntKind.i64 0)) 3 "ref.go:105" #[{ on := 1, ground := Ground.chain }]).op, none⟩,
    ⟨(opAssign (some 6) (.const (Value.bool false)) 4 "ref.go:105" #[{ on := 2, ground := Ground.chain }]).op, none⟩
  ] (by kernel_rfl)))
  (.seq (.live [1, 2, 7] (.region 1 [
    ⟨(opAssign (some 7) (.const (Value.int IntKind.i64 0)) 3 "ref.go:106" #[]).op, none⟩
  ] (by kernel_rfl)))
  (.seq (.block 0 (.loop [1, 2, 7] f32_l0))
  f32_r0)))

noncomputable def f32 : Fun Try.prog where
  id := 32
  fn := Try.f32
  hf := Try.func32
  hname := by kernel_rfl
  body := f32_b
  hbody := by kernel_rfl
  res := [rTmp 4, rTmp 5, rTmp 6]
  hres := by kernel_rfl
  n := 36
  hn := by kernel_rfl

end Go.Proofs.Ytblliolkgkgppaa.V

/- What the functions' runs come to; the right sides were printed by a tool, Lean checks them. -/
set_option linter.unusedVariables false
set_option maxRecDepth 100000
namespace Go.Proofs.Ytblliolkgkgppaa.V
open Go Go.V Go.RowKit

theorem radd_run (F : Nat) (z y : Bool) (l b : List (List AV)) :
    (f32.run F [.agg [.ns z 1 l], .ns y 1 b] ⟨[], []⟩ : Ans) =
    loopRun (f32_l0.run F) [1, 2, 7]
      (Cont.block 0 (Cont.then (f32_r0.run F (f32.leaveK Fun.done)) (f32.leaveK Fun.done))) F
      (Env.mk 36
        [(1, AV.ns y 1 b), (2, AV.eptr [AV.ns z 1 l]),
          (7, AV.int IntKind.i64 (0 : Int))])
      (St.mk [] []) := by kernel_rfl

theorem radd_round (F m : Nat) (K : Cont) (z y : Bool) (l b : List (List AV)) (i : Int) :
    (loopRun (f32_l0.run F) [1, 2, 7] K m.succ (Env.mk 36 [(1, .ns y 1 b), (2, .eptr [.ns z 1 l]), (7, .int .i64 i)]) ⟨[], []⟩ : Ans) =
    branch (AV.bool (decide (i < (↑l.length : Int))))
      (branch (AV.bool (inR l i))
        (branch (AV.bool ((LD.one (LT.ns 1)).is (V.rowAt l i)))
          (branch (AV.bool !nilA (V.rowAt l i))
            (loopRun (f32_l0.run F) [1, 2, 7] K m
              (Env.mk 36
                [(1, AV.ns y 1 b), (2, AV.eptr [AV.ns z 1 l]),
                  (7, AV.int IntKind.i64 (IntKind.i64.wrap (i + (1 : Int))))])
              (St.mk [] []))
            (K (AX.exit 0)
              (Env.mk 36
                [(1, AV.ns y 1 b), (2, AV.eptr [AV.ns z 1 l]),
                  (7, AV.int IntKind.i64 i)])
              (St.mk [] [])))
          none)
        none)
      (K (AX.exit 0)
        (Env.mk 36
          [(1, AV.ns y 1 b), (2, AV.eptr [AV.ns z 1 l]), (7, AV.int IntKind.i64 i)])
        (St.mk [] [])) := by kernel_rfl

theorem radd_out (F : Nat) (z y : Bool) (l b : List (List AV)) (i : Int) :
    ((Cont.block 0 (Cont.then (f32_r0.run F (f32.leaveK Fun.done)) (f32.leaveK Fun.done))) (.exit 0) (Env.mk 36 [(1, .ns y 1 b), (2, .eptr [.ns z 1 l]), (7, .int .i64 i)]) ⟨[], []⟩ : Ans) =
    branch (AV.bool (isN l && (byOk b && cdec (b.length ≤ 1000000))))
      (branch (AV.bool !oB (putI l i (nR b)))
        (some (Fin.ret (AV.tup [AV.nilsl, AV.int IntKind.i64 (0 : Int), AV.bool false]), St.mk [] []))
        (some
          (Fin.ret
              (AV.tup [AV.ns (!oB (putI l i (nR b))) 1 (oR (putI l i (nR b))), AV.int IntKind.i64 i, AV.bool true]),
            St.mk [] [])))
      none := by kernel_rfl

end Go.Proofs.Ytblliolkgkgppaa.V

/- Page: the reference's Add. -/
set_option linter.unusedVariables false
namespace Go.Proofs.Ytblliolkgkgppaa.V
open Go Go.V Go.RowKit

noncomputable def rA (l : List (List AV)) (b : List Nat) : Option (List Nat) := opq (putS (sR l) (freeK (sR l) : Nat) b)
noncomputable def rAK (l : List (List AV)) (b : List Nat) : Int := opq (if (rA l b).isSome then (freeK (sR l) : Int) else 0)
noncomputable def rAV (l : List (List AV)) (b : List Nat) : AV := .tup [.ns (!oB (rA l b)) 1 (oR (rA l b)), .int .i64 (rAK l b), .bool (oB (rA l b))]
theorem rAV_scoped (l : List (List AV)) (b : List Nat) : Scoped 0 0 (rAV l b) := by
  rw [rAV]
  cases rA l b with
  | none => rw [oR_none]; exact ⟨trivial, trivial, trivial, trivial⟩
  | some c => rw [oR_some]; exact ⟨bR_scoped c, trivial, trivial, trivial⟩
theorem sN_row {s : Sl} {i : Nat} (h : i < s.length) : inR (sN s) (i : Int) = true ∧ V.rowAt (sN s) (i : Int) = [cellN s[i]] := by
  refine ⟨inR_nat (by rw [sN_length]; exact h), ?_⟩
  rw [rowAt_nat (by rw [sN_length]; exact h)]; simp [sN]
theorem freeK_drop : ∀ {s : Sl} {i : Nat} (h : i < s.length), i + freeK (s.drop i) = if s[i].isNone then i else i + 1 + freeK (s.drop (i + 1))
  | s, i, h => by
    rw [drop_at h, freeK, List.findIdx_cons]
    cases s[i] with
    | none => simp
    | some b => simp [freeK]; omega
theorem radd_loop (F : Nat) (z y : Bool) (s : Sl) (hs : okSl s) (hl : s.length ≤ 1000) (b : List (List AV)) : ∀ (k m i : Nat), i + k = s.length → k < m →
    loopRun (f32_l0.run F) [1, 2, 7] (Cont.block 0 (Cont.then (f32_r0.run F (f32.leaveK Fun.done)) (f32.leaveK Fun.done))) m (Env.mk 36 [(1, .ns y 1 b), (2, .eptr [.ns z 1 (sN s)]), (7, .int .i64 (i : Int))]) ⟨[], []⟩ =
      (Cont.block 0 (Cont.then (f32_r0.run F (f32.leaveK Fun.done)) (f32.leaveK Fun.done))) (.exit 0) (Env.mk 36 [(1, .ns y 1 b), (2, .eptr [.ns z 1 (sN s)]), (7, .int .i64 ((i + freeK (s.drop i) : Nat) : Int))]) ⟨[], []⟩
  | k, 0, i, hi, hm => by omega
  | 0, m + 1, i, hi, hm => by
    have e : s.drop i = [] := List.drop_eq_nil_of_le (by omega)
    rw [show m + 1 = m.succ from rfl, radd_round, branch_not (by rw [decide_eq_false_iff_not, sN_length]; omega), e]
    rfl
  | k + 1, m + 1, i, hi, hm => by
    have h1 : i < s.length := by omega
    obtain ⟨r1, r2⟩ := sN_row h1
    have ih := radd_loop F z y s hs hl b k m (i + 1) (by omega) (by omega)
    rw [show m + 1 = m.succ from rfl, radd_round, branch_of (by rw [decide_eq_true_eq, sN_length]; omega), branch_of r1, r2, wrap_succ (by omega), freeK_drop h1]
    cases s[i] with
    | none => rw [branch_of (show (LD.one (LT.ns 1)).is [cellN none] = true from rfl), branch_not (show (!nilA [cellN none]) = false from rfl)]; rfl
    | some c => rw [branch_of (show (LD.one (LT.ns 1)).is [cellN (some c)] = true from rfl), branch_of (show (!nilA [cellN (some c)]) = true from rfl)]; exact ih
noncomputable def p32 : POrc Try.prog := f32.farW
  (fun args k => match args with
    | [.agg [x], y] => onNs 1 x fun _ l => onNs 1 y fun _ b => ifT (isN l && (byOk b && cdec (b.length ≤ 1000000))) (k (rAV l (nR b)))
    | _ => none)
  fun args k fin h => by
    split at h
    · rename_i x y
      obtain ⟨z, l, g1, hx⟩ := onNs_spec h
      obtain ⟨z', b, g2, hy⟩ := onNs_spec g1
      obtain ⟨h1, g3⟩ := ifT_spec g2
      have h2 := h1
      simp only [Bool.and_eq_true, cdec_iff] at h1
      obtain ⟨e1, e2, e3⟩ := h1
      obtain ⟨k1, k2, k3⟩ := isN_iff.mp e1
      have hok := byOk_iff.mp e2
      refine ⟨_, _, g3, .cons (.agg (.cons hx .nil)) (.cons hy .nil), ⟨⟨by rw [k2]; exact sN_scoped _, trivial⟩, okR_scoped hok.1, trivial⟩, 1001, ?_⟩
      have lp := radd_loop 1001 z z' (sR l) k1 (by rw [sR_length]; exact k3) b l.length 1001 0 (by rw [sR_length]; omega) (by omega)
      rw [← k2, Nat.zero_add, List.drop_zero] at lp
      rw [radd_run]
      have hA : rA l (nR b) = putI l ((freeK (sR l) : Nat) : Int) (nR b) := rfl
      cases hp : putI l ((freeK (sR l) : Nat) : Int) (nR b) with
      | none =>
        refine ⟨.tup [.nilsl, .int .i64 0, .bool false], ⟨[], []⟩, lp.trans ?_, ⟨trivial, trivial, trivial, trivial⟩, ?_⟩
        · rw [radd_out, branch_of h2, hp, oB_none, branch_of (by rfl)]
        · rw [rAV, rAK, opq_eq, hA, hp, oB_none, oR_none]; exact .tup (.cons .nil (.cons (.refl _) (.cons (.refl _) .nil)))
      | some c =>
        refine ⟨rAV l (nR b), ⟨[], []⟩, lp.trans ?_, ?_, ?_⟩
        · rw [radd_out, branch_of h2, hp, oB_some, branch_not (by rfl), rAV, rAK, opq_eq, hA, hp, oB_some]; rfl
        · rw [hard_id _ _ (rAV_scoped _ _)]; exact rAV_scoped _ _
        · rw [hard_id _ _ (rAV_scoped _ _)]; exact .refl _
    · cases h
theorem p32_nat : p32.Nat := by
  intro args k
  simp only [p32, Fun.farW]
  split
  · exact onNs_nat fun _ _ => onNs_nat fun _ _ => ifT_nat rfl
  · rfl
end Go.Proofs.Ytblliolkgkgppaa.V

/- The functions' pieces, as told by gen.py. -/
set_option linter.unusedVariables false
set_option maxRecDepth 20000
namespace Go.Proofs.Ytblliolkgkgppaa.V
open Go Go.V Go.RowKit


/-! ### 34: (interlock/interlockref06.Page).Room (53); results 2; slots: 0 p, 1 p, 3 n, 4 _, 5 _, 6 ok -/
/-- A loop's round; at its head live: 1 p, 3 n -/
noncomputable def f34_l0 : Sim Try.prog :=
  (.seq (.seq (.live [1, 3, 8] (.region 2 [
    ⟨(opMove (some 7) (.tmp 3) 3 "ref.go:128" #[]).op, none⟩,
    ⟨(opBin (some 8) .geq 3 (.tmp 7) (.const (Value.int IntKind.i64 0)) 3 4 "ref.go:128" #[{ on := 0, ground := Ground.data }]).op, none⟩
  ] (by kernel_rfl)))
  (.cond (.tmp 8)
    .skip
    (.live [] (.exit 0))))
  (.seq (.block 1 (.seq (.live [1, 3, 6] (.draw 4 [
      ⟨.qn (opLoadT (.agg [.any]) (some 12) 53 (.tmp 1) d53 ud53 1 sz53 (by kernel_rfl) 53 "ref.go:129" #[]) opLoadT_nat, none⟩,
      ⟨.p (opMove (some 13) (.tmp 3) 3 "ref.go:129" #[]), none⟩,
      ⟨.pn (opMakeF (some 14) 25 (.tmp 13) 5 1 1 (.int .u8 0) el25 [AV.int .u8 0] (by kernel_rfl) (by kernel_rfl) (by kernel_rfl) 25 "ref.go:129" #[{ on := 1, ground := Ground.data }, { on := 1, ground := Ground.data }]) opMakeF_nat, none⟩,
      ⟨.pn (opCallP p32 (some 15) [(.tmp 12), (.tmp 14)] #[53, 25] 33 "ref.go:129" #[{ on := 0, ground := Ground.data }, { on := 2, ground := Ground.data }]) (opCallP_nat p32_nat), none⟩,
      ⟨.p (opMove (some 11) (.tmp 15) 33 "ref.go:129" #[{ on := 3, ground := Ground.data }]), none⟩,
      ⟨.p (opExtract (some 16) (.tmp 11) 0 25 "ref.go:129" #[{ on := 4, ground := Ground.data }]), none⟩,
      ⟨.p (opExtract (some 17) (.tmp 11) 1 3 "ref.go:129" #[{ on := 4, ground := Ground.data }, { on := 8, ground := (Ground.gcOnly Departure.lateStores) }]), none⟩,
      ⟨.p (opExtract (some 18) (.tmp 11) 2 4 "ref.go:129" #[{ on := 4, ground := Ground.data }, { on := 9, ground := (Ground.gcOnly Departure.lateStores) }]), none⟩,
      ⟨.p (opAssign (some 4) (.tmp 16) 25 "ref.go:129" #[{ on := 5, ground := Ground.data }, { on := 3, ground := Ground.chain }, { on := 0, ground := Ground.phase }, { on := 1, ground := Ground.phase }, { on := 2, ground := Ground.phase }, { on := 3, ground := Ground.phase }, { on := 4, ground := Ground.phase }, { on := 5, ground := Ground.phase }, { on := 6, ground := (Ground.textOnly Departure.lateStores) }, { on := 7, ground := (Ground.textOnly Departure.lateStores) }]), none⟩,
      ⟨.p (opAssign (some 5) (.tmp 17) 3 "ref.go:129" #[{ on := 6, ground := Ground.data }, { on := 8, ground := Ground.chain }, { on := 0, ground := Ground.phase }, { on := 1, ground := Ground.phase }, { on := 2, ground := Ground.phase }, { on := 3, ground := Ground.phase }, { on := 4, ground := Ground.phase }, { on := 5, ground := Ground.phase }, { on := 6, ground := Ground.phase }, { on := 7, ground := (Ground.textOnly Departure.lateStores) }, { on := 8, ground := Ground.phase }]), none⟩,
      ⟨.p (opAssign (some 6) (.tmp 18) 4 "ref.go:129" #[{ on := 7, ground := Ground.data }, { on := 9, ground := Ground.chain }, { on := 0, ground := Ground.phase }, { on := 1, ground := Ground.phase }, { on := 2, ground := Ground.phase }, { on := 3, ground := Ground.phase }, { on := 4, ground := Ground.phase }, { on := 5, ground := Ground.phase }, { on := 6, ground := Ground.phase }, { on := 7, ground := Ground.phase }, { on := 8, ground := Ground.phase }, { on := 9, ground := Ground.phase }]), none⟩
    ] mixed (by kernel_rfl)))
    (.seq (.live [1, 3, 19] (.region 5 [
      ⟨(opMove (some 19) (.tmp 6) 4 "ref.go:130" #[]).op, none⟩
    ] (by kernel_rfl)))
    (.cond (.tmp 19)
      (.seq (.live [2] (.region 6 [
        ⟨(opMove (some 20) (.tmp 3) 3 "ref.go:131" #[]).op, none⟩,
        ⟨(opAssign (some 2) (.tmp 20) 3 "ref.go:131" #[{ on := 0, ground := Ground.data }, { on := 0, ground := Ground.phase }]).op, none⟩
      ] (by kernel_rfl)))
      (.live [2] .ret))
      .skip))))
  (.live [1, 3] (.region 3 [
    ⟨(opMove (some 9) (.tmp 3) 3 "ref.go:128" #[]).op, none⟩,
    ⟨(opBin (some 10) .sub 3 (.tmp 9) (.const (Value.int IntKind.i64 1)) 3 3 "ref.go:128" #[{ on := 0, ground := Ground.data }]).op, none⟩,
    ⟨(opAssign (some 3) (.tmp 10) 3 "ref.go:128" #[{ on := 1, ground := Ground.data }, { on := 0, ground := Ground.phase }, { on := 1, ground := Ground.phase }]).op, none⟩
  ] (by kernel_rfl)))))

/-- What follows a loop. -/
noncomputable def f34_r0 : Sim Try.prog :=
  (.seq (.live [2] (.region 7 [
    ⟨(opAssign (some 2) (.const (Value.int IntKind.i64 (-1))) 3 "ref.go:134" #[]).op, none⟩
  ] (by kernel_rfl)))
  (.live [2] .ret))

noncomputable def f34_b : Sim Try.prog :=
  (.seq (.live [1] (.region 0 [
    ⟨(opBoxF (some 1) 53 (.tmp 0) 0 "ref.go:127" #[]).op, none⟩,
    ⟨(opAssign (some 2) (.const (Value.int IntKind.i64 0)) 3 "ref.go:127" #[]).op, none⟩
  ] (by kernel_rfl)))
  (.seq (.seq (.live [1, 3] (.region 1 [
    ⟨(opAssign (some 3) (.const (Value.int IntKind.i64 200)) 3 "ref.go:128" #[]).op, none⟩
  ] (by kernel_rfl)))
  (.block 0 (.loop [1, 3] f34_l0)))
  f34_r0))

noncomputable def f34 : Fun Try.prog where
  id := 34
  fn := Try.f34
  hf := Try.func34
  hname := by kernel_rfl
  body := f34_b
  hbody := by kernel_rfl
  res := [rTmp 2]
  hres := by kernel_rfl
  n := 21
  hn := by kernel_rfl

/-! ### 29: interlock/interlockref06.Of (25); results 2, 3; slots: 0 b, 1 b, 4 p, 5 end, 6 i, 7 n, 8 s, 9 back, 10 ok -/
/-- A loop's round; at its head live: 0 b, 2 , 4 p, 5 end, 6 i -/
noncomputable def f29_l0 : Sim Try.prog :=
  (.seq (.seq (.live [0, 2, 4, 5, 6, 21] (.region 6 [
    ⟨(opMove (some 16) (.tmp 6) 3 "ref.go:50" #[]).op, none⟩,
    ⟨(opMove (some 17) (.tmp 0) 25 "ref.go:50" #[]).op, none⟩,
    ⟨(opIndexAddrT (some 18) 25 (.tmp 17) (.const (Value.int IntKind.i64 0)) 5 1 Try.underlying25 sz5 0 "ref.go:50" #[{ on := 1, ground := Ground.data }]).op, none⟩,
    ⟨(opLoadT (.one (.int .u8)) (some 19) 5 (.tmp 18) (.int .u8) Try.underlying5 1 sz5 (by kernel_rfl) 5 "ref.go:50" #[{ on := 2, ground := Ground.data }]).op, none⟩,
    ⟨(opConvInt (some 20) 5 3 (.tmp 19) (.int .u8) Try.underlying5 .i64 Try.underlying3 3 "ref.go:50" #[{ on := 3, ground := Ground.data }]).op, none⟩,
    ⟨(opBin (some 21) .lss 3 (.tmp 16) (.tmp 20) 3 4 "ref.go:50" #[{ on := 0, ground := Ground.data }, { on := 4, ground := Ground.data }]).op, none⟩
  ] (by kernel_rfl)))
  (.cond (.tmp 21)
    .skip
    (.live [0, 2, 4] (.exit 0))))
  (.seq (.block 1 (.seq (.seq (.live [0, 2, 4, 5, 6, 26] (.region 8 [
      ⟨(opMove (some 24) (.tmp 6) 3 "ref.go:51" #[]).op, none⟩,
      ⟨(opBin (some 25) .add 3 (.const (Value.int IntKind.i64 1)) (.tmp 24) 3 3 "ref.go:51" #[{ on := 0, ground := Ground.data }]).op, none⟩,
      ⟨(opBin (some 26) .geq 3 (.tmp 25) (.const (Value.int IntKind.i64 256)) 3 4 "ref.go:51" #[{ on := 1, ground := Ground.data }]).op, none⟩
    ] (by kernel_rfl)))
    (.cond (.tmp 26)
      (.seq (.live [2, 3] (.region 9 [
        ⟨(opBuild (some 27) 53 #[(.slice none 0 0)] [] ze53 (by kernel_rfl) 53 "ref.go:52" #[]).op, none⟩,
        ⟨(opStore none 53 (.tmp 2) (.tmp 27) 1 sz53 0 "ref.go:52" #[{ on := 0, ground := Ground.data }, { on := 0, ground := Ground.phase }]).op, none⟩,
        ⟨(opAssign (some 3) (.const (Value.bool false)) 4 "ref.go:52" #[{ on := 1, ground := Ground.chain }, { on := 0, ground := Ground.phase }, { on := 1, ground := Ground.phase }]).op, none⟩
      ] (by kernel_rfl)))
      (.live [2, 3] .ret))
      .skip))
    (.seq (.live [0, 2, 4, 5, 6, 7] (.region 10 [
      ⟨(opMove (some 28) (.tmp 0) 25 "ref.go:54" #[]).op, none⟩,
      ⟨(opMove (some 29) (.tmp 6) 3 "ref.go:54" #[]).op, none⟩,
      ⟨(opBin (some 30) .add 3 (.const (Value.int IntKind.i64 1)) (.tmp 29) 3 3 "ref.go:54" #[{ on := 1, ground := Ground.data }]).op, none⟩,
      ⟨(opIndexAddrT (some 31) 25 (.tmp 28) (.tmp 30) 5 1 Try.underlying25 sz5 0 "ref.go:54" #[{ on := 0, ground := Ground.data }, { on := 2, ground := Ground.data }]).op, none⟩,
      ⟨(opLoadT (.one (.int .u8)) (some 32) 5 (.tmp 31) (.int .u8) Try.underlying5 1 sz5 (by kernel_rfl) 5 "ref.go:54" #[{ on := 3, ground := Ground.data }]).op, none⟩,
      ⟨(opConvInt (some 33) 5 3 (.tmp 32) (.int .u8) Try.underlying5 .i64 Try.underlying3 3 "ref.go:54" #[{ on := 4, ground := Ground.data }]).op, none⟩,
      ⟨(opBin (some 34) .sub 3 (.tmp 33) (.const (Value.int IntKind.i64 1)) 3 3 "ref.go:54" #[{ on := 5, ground := Ground.data }]).op, none⟩,
      ⟨(opAssign (some 7) (.tmp 34) 3 "ref.go:54" #[{ on := 6, ground := Ground.data }, { on := 0, ground := Ground.phase }, { on := 1, ground := Ground.phase }, { on := 2, ground := Ground.phase }, { on := 3, ground := Ground.phase }, { on := 4, ground := Ground.phase }, { on := 5, ground := Ground.phase }, { on := 6, ground := Ground.phase }]).op, none⟩
    ] (by kernel_rfl)))
    (.seq (.seq (.live [0, 2, 4, 5, 6, 7, 36] (.region 11 [
      ⟨(opMove (some 35) (.tmp 7) 3 "ref.go:55" #[]).op, none⟩,
      ⟨(opBin (some 36) .lss 3 (.tmp 35) (.const (Value.int IntKind.i64 0)) 3 4 "ref.go:55" #[{ on := 0, ground := Ground.data }]).op, none⟩
    ] (by kernel_rfl)))
    (.cond (.tmp 36)
      (.seq (.live [0, 2, 4, 5, 6] (.region 12 [
        ⟨(opFieldAddr (some 37) 53 (.tmp 4) 0 0 1 false fl53_0 (by decide) 0 "ref.go:56" #[]).op, none⟩,
        ⟨(opLoadT (.one .any) (some 38) 43 (.tmp 37) (.slice 25) Try.underlying43 1 sz43 (by kernel_rfl) 43 "ref.go:56" #[{ on := 0, ground := Ground.data }]).op, none⟩,
        ⟨(opBuildSlice (some 39) 43 1 [(0, (.const (Value.slice none 0 0)))] 25 1 24 (.slice none 0 0) el43 (by kernel_rfl) (by decide) 43 "ref.go:56" #[]).op, none⟩,
        ⟨(opAppendR none 2 (some 40) (.tmp 38) (.tmp 39) 43 43 25 1 24 (.slice none 0 0) el43 (.slice 25) Try.underlying43 rfl 43 "ref.go:56" #[{ on := 1, ground := Ground.data }, { on := 2, ground := Ground.data }]).op, none⟩,
        ⟨(opFieldAddr (some 41) 53 (.tmp 4) 0 0 1 false fl53_0 (by decide) 0 "ref.go:56" #[{ on := 0, ground := Ground.phase }, { on := 1, ground := Ground.phase }, { on := 2, ground := Ground.phase }, { on := 3, ground := Ground.phase }]).op, none⟩,
        ⟨(opStore none 43 (.tmp 41) (.tmp 40) 1 sz43 0 "ref.go:56" #[{ on := 4, ground := Ground.data }, { on := 3, ground := Ground.data }, { on := 3, ground := Ground.chain }, { on := 0, ground := Ground.phase }, { on := 1, ground := Ground.phase }, { on := 2, ground := Ground.phase }, { on := 3, ground := Ground.phase }]).op, none⟩
      ] (by kernel_rfl)))
      (.live [0, 2, 4, 5, 6] (.exit 1)))
      .skip))
    (.seq (.seq (.live [0, 2, 4, 5, 6, 7, 48] (.region 13 [
      ⟨(opMove (some 42) (.tmp 7) 3 "ref.go:59" #[]).op, none⟩,
      ⟨(opBin (some 43) .gtr 3 (.tmp 42) (.const (Value.int IntKind.i64 200)) 3 4 "ref.go:59" #[{ on := 0, ground := Ground.data }]).op, none⟩,
      ⟨(opMove (some 44) (.tmp 43) 4 "ref.go:59" #[{ on := 1, ground := Ground.data }]).op, none⟩,
      ⟨(opMove (some 45) (.tmp 7) 3 "ref.go:59" #[{ on := 2, ground := Ground.guard }]).op, (some (2, 44, false))⟩,
      ⟨(opMove (some 46) (.tmp 5) 3 "ref.go:59" #[{ on := 2, ground := Ground.guard }]).op, (some (2, 44, false))⟩,
      ⟨(opBin (some 47) .gtr 3 (.tmp 45) (.tmp 46) 3 4 "ref.go:59" #[{ on := 3, ground := Ground.data }, { on := 4, ground := Ground.data }, { on := 2, ground := Ground.guard }]).op, (some (2, 44, false))⟩,
      ⟨(opPick (some 48) (.tmp 44) (.const (Value.bool true)) (.tmp 47) 4 "ref.go:59" #[{ on := 2, ground := Ground.data }, { on := 5, ground := Ground.data }]).op, none⟩
    ] (by kernel_rfl)))
    (.cond (.tmp 48)
      (.seq (.live [2, 3] (.region 14 [
        ⟨(opBuild (some 49) 53 #[(.slice none 0 0)] [] ze53 (by kernel_rfl) 53 "ref.go:60" #[]).op, none⟩,
        ⟨(opStore none 53 (.tmp 2) (.tmp 49) 1 sz53 0 "ref.go:60" #[{ on := 0, ground := Ground.data }, { on := 0, ground := Ground.phase }]).op, none⟩,
        ⟨(opAssign (some 3) (.const (Value.bool false)) 4 "ref.go:60" #[{ on := 1, ground := Ground.chain }, { on := 0, ground := Ground.phase }, { on := 1, ground := Ground.phase }]).op, none⟩
      ] (by kernel_rfl)))
      (.live [2, 3] .ret))
      .skip))
    (.seq (.live [0, 2, 4, 5, 6, 7] (.region 15 [
      ⟨(opMove (some 50) (.tmp 5) 3 "ref.go:62" #[]).op, none⟩,
      ⟨(opMove (some 51) (.tmp 7) 3 "ref.go:62" #[]).op, none⟩,
      ⟨(opBin (some 52) .sub 3 (.tmp 50) (.tmp 51) 3 3 "ref.go:62" #[{ on := 0, ground := Ground.data }, { on := 1, ground := Ground.data }]).op, none⟩,
      ⟨(opAssign (some 5) (.tmp 52) 3 "ref.go:62" #[{ on := 2, ground := Ground.data }, { on := 0, ground := Ground.phase }, { on := 1, ground := Ground.phase }, { on := 2, ground := Ground.phase }]).op, none⟩
    ] (by kernel_rfl)))
    (.seq (.live [0, 2, 4, 5, 6, 7, 8] (.region 16 [
      ⟨(opMove (some 53) (.tmp 7) 3 "ref.go:63" #[]).op, none⟩,
      ⟨(opMakeR none 3 (some 54) 25 (.tmp 53) 5 1 1 (.int .u8 0) el25 [AV.int .u8 0] (by kernel_rfl) (by kernel_rfl) 25 "ref.go:63" #[{ on := 0, ground := Ground.data }, { on := 0, ground := Ground.data }]).op, none⟩,
      ⟨(opAssign (some 8) (.tmp 54) 25 "ref.go:63" #[{ on := 1, ground := Ground.data }, { on := 0, ground := Ground.phase }, { on := 1, ground := Ground.phase }]).op, none⟩
    ] (by kernel_rfl)))
    (.seq (.live [0, 2, 4, 5, 6, 8] (.region 17 [
      ⟨(opMove (some 55) (.tmp 8) 25 "ref.go:64" #[]).op, none⟩,
      ⟨(opMove (some 56) (.tmp 0) 25 "ref.go:64" #[]).op, none⟩,
      ⟨(opMove (some 57) (.tmp 5) 3 "ref.go:64" #[]).op, none⟩,
      ⟨(opMove (some 58) (.tmp 5) 3 "ref.go:64" #[]).op, none⟩,
      ⟨(opMove (some 59) (.tmp 7) 3 "ref.go:64" #[]).op, none⟩,
      ⟨(opBin (some 60) .add 3 (.tmp 58) (.tmp 59) 3 3 "ref.go:64" #[{ on := 3, ground := Ground.data }, { on := 4, ground := Ground.data }]).op, none⟩,
      ⟨(opSlice (some 61) 25 (.tmp 56) (some (.tmp 57)) (some (.tmp 60)) none 5 1 Try.underlying25 sz5 25 "ref.go:64" #[{ on := 1, ground := Ground.data }, { on := 2, ground := Ground.data }, { on := 5, ground := Ground.data }]).op, none⟩,
      ⟨(opCopyV (some 62) (.tmp 55) (.tmp 61) 25 25 5 1 Try.underlying25 sz5 3 "ref.go:64" #[{ on := 0, ground := Ground.data }, { on := 6, ground := Ground.data }]).op, none⟩
    ] (by kernel_rfl)))
    (.live [0, 2, 4, 5, 6] (.region 18 [
      ⟨(opFieldAddr (some 63) 53 (.tmp 4) 0 0 1 false fl53_0 (by decide) 0 "ref.go:65" #[]).op, none⟩,
      ⟨(opLoadT (.one .any) (some 64) 43 (.tmp 63) (.slice 25) Try.underlying43 1 sz43 (by kernel_rfl) 43 "ref.go:65" #[{ on := 0, ground := Ground.data }]).op, none⟩,
      ⟨(opMoveZ (some 65) (.tmp 8) 25 "ref.go:65" #[]).op, none⟩,
      ⟨(opBuildSlice (some 66) 43 1 [(0, (.tmp 65))] 25 1 24 (.slice none 0 0) el43 (by kernel_rfl) (by decide) 43 "ref.go:65" #[{ on := 2, ground := Ground.data }]).op, none⟩,
      ⟨(opAppendR none 2 (some 67) (.tmp 64) (.tmp 66) 43 43 25 1 24 (.slice none 0 0) el43 (.slice 25) Try.underlying43 rfl 43 "ref.go:65" #[{ on := 1, ground := Ground.data }, { on := 3, ground := Ground.data }]).op, none⟩,
      ⟨(opFieldAddr (some 68) 53 (.tmp 4) 0 0 1 false fl53_0 (by decide) 0 "ref.go:65" #[{ on := 0, ground := Ground.phase }, { on := 1, ground := Ground.phase }, { on := 2, ground := Ground.phase }, { on := 3, ground := Ground.phase }, { on := 4, ground := Ground.phase }]).op, none⟩,
      ⟨(opStore none 43 (.tmp 68) (.tmp 67) 1 sz43 0 "ref.go:65" #[{ on := 5, ground := Ground.data }, { on := 4, ground := Ground.data }, { on := 4, ground := Ground.chain }, { on := 0, ground := Ground.phase }, { on := 1, ground := Ground.phase }, { on := 2, ground := Ground.phase }, { on := 3, ground := Ground.phase }, { on := 4, ground := Ground.phase }]).op, none⟩
    ] (by kernel_rfl)))))))))))
  (.live [0, 2, 4, 5, 6] (.region 7 [
    ⟨(opMove (some 22) (.tmp 6) 3 "ref.go:50" #[]).op, none⟩,
    ⟨(opBin (some 23) .add 3 (.tmp 22) (.const (Value.int IntKind.i64 1)) 3 3 "ref.go:50" #[{ on := 0, ground := Ground.data }]).op, none⟩,
    ⟨(opAssign (some 6) (.tmp 23) 3 "ref.go:50" #[{ on := 1, ground := Ground.data }, { on := 0, ground := Ground.phase }, { on := 1, ground := Ground.phase }]).op, none⟩
  ] (by kernel_rfl)))))

/-- What follows a loop. -/
noncomputable def f29_r0 : Sim Try.prog :=
  (.seq (.live [0, 2, 4, 9, 10] (.region 19 [
    ⟨(opLoadT (.agg [.any]) (some 70) 53 (.tmp 4) d53 ud53 1 sz53 (by kernel_rfl) 53 "ref.go:67" #[]).op, none⟩,
    ⟨(opCallQ q38 (some 71) [(.tmp 70)] #[53] 30 "ref.go:67" #[{ on := 0, ground := Ground.data }]).op, none⟩,
    ⟨(opMove (some 69) (.tmp 71) 30 "ref.go:67" #[{ on := 1, ground := Ground.data }]).op, none⟩,
    ⟨(opExtract (some 72) (.tmp 69) 0 25 "ref.go:67" #[{ on := 2, ground := Ground.data }]).op, none⟩,
    ⟨(opExtract (some 73) (.tmp 69) 1 4 "ref.go:67" #[{ on := 2, ground := Ground.data }, { on := 5, ground := (Ground.gcOnly Departure.lateStores) }]).op, none⟩,
    ⟨(opAssign (some 9) (.tmp 72) 25 "ref.go:67" #[{ on := 3, ground := Ground.data }, { on := 1, ground := Ground.chain }, { on := 0, ground := Ground.phase }, { on := 1, ground := Ground.phase }, { on := 2, ground := Ground.phase }, { on := 3, ground := Ground.phase }, { on := 4, ground := (Ground.textOnly Departure.lateStores) }]).op, none⟩,
    ⟨(opAssign (some 10) (.tmp 73) 4 "ref.go:67" #[{ on := 4, ground := Ground.data }, { on := 5, ground := Ground.chain }, { on := 0, ground := Ground.phase }, { on := 1, ground := Ground.phase }, { on := 2, ground := Ground.phase }, { on := 3, ground := Ground.phase }, { on := 4, ground := Ground.phase }, { on := 5, ground := Ground.phase }]).op, none⟩
  ] (by kernel_rfl)))
  (.seq (.seq (.live [2, 4, 91] (.draw 20 [
    ⟨.p (opMove (some 74) (.tmp 10) 4 "ref.go:68" #[]), none⟩,
    ⟨.p (opNot (some 75) 4 (.tmp 74) 4 "ref.go:68" #[{ on := 0, ground := Ground.data }]), none⟩,
    ⟨.p (opMove (some 76) (.tmp 75) 4 "ref.go:68" #[{ on := 1, ground := Ground.data }]), none⟩,
    ⟨.p (opMove (some 77) (.tmp 9) 25 "ref.go:68" #[{ on := 2, ground := Ground.guard }]), (some (2, 76, false))⟩,
    ⟨.p (opMove (some 78) (.tmp 0) 25 "ref.go:68" #[{ on := 2, ground := Ground.guard }]), (some (2, 76, false))⟩,
    ⟨.pn (opCallP p12 (some 79) [(.tmp 77), (.tmp 78)] #[25, 25] 4 "ref.go:68" #[{ on := 3, ground := Ground.data }, { on := 4, ground := Ground.data }, { on := 2, ground := Ground.chain }, { on := 2, ground := Ground.guard }]) (opCallP_nat p12_nat), (some (2, 76, false))⟩,
    ⟨.p (opNot (some 80) 4 (.tmp 79) 4 "ref.go:68" #[{ on := 5, ground := Ground.data }, { on := 2, ground := Ground.guard }]), (some (2, 76, false))⟩,
    ⟨.p (opPick (some 81) (.tmp 76) (.const (Value.bool true)) (.tmp 80) 4 "ref.go:68" #[{ on := 2, ground := Ground.data }, { on := 6, ground := Ground.data }]), none⟩,
    ⟨.p (opMove (some 82) (.tmp 81) 4 "ref.go:68" #[{ on := 7, ground := Ground.data }, { on := 5, ground := Ground.chain }]), none⟩,
    ⟨.pn (opFieldAddr (some 83) 53 (.tmp 4) 0 0 1 false fl53_0 (by decide) 0 "ref.go:68" #[{ on := 8, ground := Ground.guard }]) opFieldAddr_nat, (some (8, 82, false))⟩,
    ⟨.qn (opLoadT (.one .any) (some 84) 43 (.tmp 83) (.slice 25) Try.underlying43 1 sz43 (by kernel_rfl) 43 "ref.go:68" #[{ on := 9, ground := Ground.data }, { on := 8, ground := Ground.guard }]) opLoadT_nat, (some (8, 82, false))⟩,
    ⟨.qn (opCallQ q39 (some 85) [(.tmp 84)] #[43] 43 "ref.go:68" #[{ on := 10, ground := Ground.data }, { on := 8, ground := Ground.chain }, { on := 8, ground := Ground.guard }]) (opCallQ_nat q39_nat), (some (8, 82, false))⟩,
    ⟨.p (opLen (some 86) (.tmp 85) 43 (.slice 25) Try.underlying43 3 "ref.go:68" #[{ on := 11, ground := Ground.data }, { on := 8, ground := Ground.guard }]), (some (8, 82, false))⟩,
    ⟨.pn (opFieldAddr (some 87) 53 (.tmp 4) 0 0 1 false fl53_0 (by decide) 0 "ref.go:68" #[{ on := 8, ground := Ground.guard }]) opFieldAddr_nat, (some (8, 82, false))⟩,
    ⟨.qn (opLoadT (.one .any) (some 88) 43 (.tmp 87) (.slice 25) Try.underlying43 1 sz43 (by kernel_rfl) 43 "ref.go:68" #[{ on := 13, ground := Ground.data }, { on := 8, ground := Ground.guard }]) opLoadT_nat, (some (8, 82, false))⟩,
    ⟨.p (opLen (some 89) (.tmp 88) 43 (.slice 25) Try.underlying43 3 "ref.go:68" #[{ on := 14, ground := Ground.data }, { on := 8, ground := Ground.guard }]), (some (8, 82, false))⟩,
    ⟨.pn (opBin (some 90) .neq 3 (.tmp 86) (.tmp 89) 3 4 "ref.go:68" #[{ on := 12, ground := Ground.data }, { on := 15, ground := Ground.data }, { on := 8, ground := Ground.guard }]) opBin_nat, (some (8, 82, false))⟩,
    ⟨.p (opPick (some 91) (.tmp 82) (.const (Value.bool true)) (.tmp 90) 4 "ref.go:68" #[{ on := 8, ground := Ground.data }, { on := 16, ground := Ground.data }]), none⟩
  ] mixed (by kernel_rfl)))
  (.cond (.tmp 91)
    (.seq (.live [2, 3] (.region 21 [
      ⟨(opBuild (some 92) 53 #[(.slice none 0 0)] [] ze53 (by kernel_rfl) 53 "ref.go:69" #[]).op, none⟩,
      ⟨(opStore none 53 (.tmp 2) (.tmp 92) 1 sz53 0 "ref.go:69" #[{ on := 0, ground := Ground.data }, { on := 0, ground := Ground.phase }]).op, none⟩,
      ⟨(opAssign (some 3) (.const (Value.bool false)) 4 "ref.go:69" #[{ on := 1, ground := Ground.chain }, { on := 0, ground := Ground.phase }, { on := 1, ground := Ground.phase }]).op, none⟩
    ] (by kernel_rfl)))
    (.live [2, 3] .ret))
    .skip))
  (.seq (.live [2, 3] (.region 22 [
    ⟨(opLoadT (.agg [.any]) (some 93) 53 (.tmp 4) d53 ud53 1 sz53 (by kernel_rfl) 53 "ref.go:71" #[]).op, none⟩,
    ⟨(opStore none 53 (.tmp 2) (.tmp 93) 1 sz53 0 "ref.go:71" #[{ on := 0, ground := Ground.data }, { on := 0, ground := Ground.phase }]).op, none⟩,
    ⟨(opAssign (some 3) (.const (Value.bool true)) 4 "ref.go:71" #[{ on := 1, ground := Ground.chain }, { on := 0, ground := Ground.phase }, { on := 1, ground := Ground.phase }]).op, none⟩
  ] (by kernel_rfl)))
  (.live [2, 3] .ret))))

noncomputable def f29_b : Sim Try.prog :=
  (.seq (.live [0, 2] (.region 0 [
    ⟨(opAlloc (some 2) 53 (.agg #[(.slice none 0 0)]) ze53 0 "ref.go:44" #[]).op, none⟩,
    ⟨(opAssign (some 3) (.const (Value.bool false)) 4 "ref.go:44" #[]).op, none⟩
  ] (by kernel_rfl)))
  (.seq (.seq (.live [0, 2, 13] (.region 1 [
    ⟨(opMove (some 11) (.tmp 0) 25 "ref.go:45" #[]).op, none⟩,
    ⟨(opLen (some 12) (.tmp 11) 25 (.slice 5) Try.underlying25 3 "ref.go:45" #[{ on := 0, ground := Ground.data }]).op, none⟩,
    ⟨(opBin (some 13) .neq 3 (.tmp 12) (.const (Value.int IntKind.i64 256)) 3 4 "ref.go:45" #[{ on := 1, ground := Ground.data }]).op, none⟩
  ] (by kernel_rfl)))
  (.cond (.tmp 13)
    (.seq (.live [2, 3] (.region 2 [
      ⟨(opBuild (some 14) 53 #[(.slice none 0 0)] [] ze53 (by kernel_rfl) 53 "ref.go:46" #[]).op, none⟩,
      ⟨(opStore none 53 (.tmp 2) (.tmp 14) 1 sz53 0 "ref.go:46" #[{ on := 0, ground := Ground.data }, { on := 0, ground := Ground.phase }]).op, none⟩,
      ⟨(opAssign (some 3) (.const (Value.bool false)) 4 "ref.go:46" #[{ on := 1, ground := Ground.chain }, { on := 0, ground := Ground.phase }, { on := 1, ground := Ground.phase }]).op, none⟩
    ] (by kernel_rfl)))
    (.live [2, 3] .ret))
    .skip))
  (.seq (.live [0, 2, 4] (.region 3 [
    ⟨(opBuild (some 15) 53 #[(.slice none 0 0)] [] ze53 (by kernel_rfl) 53 "ref.go:48" #[]).op, none⟩,
    ⟨(MSim.ph (opAlloc (some 4) 53 (.agg #[(.slice none 0 0)]) ze53 0 "ref.go:48" #[]) 2).op, none⟩,
    ⟨(opStore none 53 (.tmp 4) (.tmp 15) 1 sz53 0 "ref.go:48" #[{ on := 1, ground := Ground.data }, { on := 0, ground := Ground.data }, { on := 0, ground := Ground.phase }, { on := 1, ground := Ground.phase }]).op, none⟩
  ] (by kernel_rfl)))
  (.seq (.live [0, 2, 4, 5] (.region 4 [
    ⟨(opAssign (some 5) (.const (Value.int IntKind.i64 256)) 3 "ref.go:49" #[]).op, none⟩
  ] (by kernel_rfl)))
  (.seq (.seq (.live [0, 2, 4, 5, 6] (.region 5 [
    ⟨(opAssign (some 6) (.const (Value.int IntKind.i64 0)) 3 "ref.go:50" #[]).op, none⟩
  ] (by kernel_rfl)))
  (.block 0 (.loop [0, 2, 4, 5, 6] f29_l0)))
  f29_r0)))))

noncomputable def f29 : Fun Try.prog where
  id := 29
  fn := Try.f29
  hf := Try.func29
  hname := by kernel_rfl
  body := f29_b
  hbody := by kernel_rfl
  res := [rCell 2 53 d53 ud53 1 sz53, rTmp 3]
  hres := by kernel_rfl
  n := 94
  hn := by kernel_rfl

end Go.Proofs.Ytblliolkgkgppaa.V

/- What the functions' runs come to; the right sides were printed by a tool, Lean checks them. -/
set_option linter.unusedVariables false
set_option maxRecDepth 100000
namespace Go.Proofs.Ytblliolkgkgppaa.V
open Go Go.V Go.RowKit

theorem rroom_run (F : Nat) (z : Bool) (l : List (List AV)) :
    (f34.run F [.agg [.ns z 1 l]] ⟨[], []⟩ : Ans) =
    loopRun (f34_l0.run F) [1, 3]
      (Cont.block 0 (Cont.then (f34_r0.run F (f34.leaveK Fun.done)) (f34.leaveK Fun.done))) F
      (Env.mk 21 [(1, AV.eptr [AV.ns z 1 l]), (3, AV.int IntKind.i64 (200 : Int))])
      (St.mk [] []) := by kernel_rfl

theorem rroom_round (F m : Nat) (K : Cont) (z : Bool) (l : List (List AV)) (i : Int) :
    (loopRun (f34_l0.run F) [1, 3] K m.succ (Env.mk 21 [(1, .eptr [.ns z 1 l]), (3, .int .i64 i)]) ⟨[], []⟩ : Ans) =
    branch (AV.bool (decide (i ≥ (0 : Int))))
      (branch
        (AV.bool
          (decide ((0 : Int) ≤ i) &&
            ((1 * i.toNat).ble 281474976710656 && i.toNat.ble 9223372036854775807)))
        (branch
          (AV.bool
            (isN l &&
              (byOk (List.replicate i.toNat [AV.int IntKind.u8 (0 : Int)]) &&
                cdec ((List.replicate i.toNat [AV.int IntKind.u8 (0 : Int)]).length ≤ 1000000))))
          (branch (AV.bool (oB (rA l (nR (List.replicate i.toNat [AV.int IntKind.u8 (0 : Int)])))))
            (K AX.ret (Env.mk 21 [(2, AV.int IntKind.i64 i)]) (St.mk [] []))
            (loopRun (f34_l0.run F) [1, 3] K m
              (Env.mk 21
                [(1, AV.eptr [AV.ns z 1 l]),
                  (3, AV.int IntKind.i64 (IntKind.i64.wrap (i - (1 : Int))))])
              (St.mk [] [])))
          none)
        none)
      (K (AX.exit 0) (Env.mk 21 []) (St.mk [] [])) := by kernel_rfl

theorem rof_run (F : Nat) (z : Bool) (l : List (List AV)) :
    (f29.run F [.ns z 1 l] ⟨[], []⟩ : Ans) =
    branch (AV.bool ((↑l.length : Int) != (256 : Int)))
      (some (Fin.ret (AV.tup [AV.agg [AV.nilsl], AV.bool false]), St.mk [Ob.cells [AV.nilsl]] []))
      (loopRun (f29_l0.run F) [0, 2, 4, 5, 6]
        (Cont.block 0 (Cont.then (f29_r0.run F (f29.leaveK Fun.done)) (f29.leaveK Fun.done))) F
        (Env.mk 94
          [(0, AV.ns z 1 l), (2, AV.ptr 0 0),
            (4, AV.ptr 1 0), (5, AV.int IntKind.i64 (256 : Int)),
            (6, AV.int IntKind.i64 (0 : Int))])
        (St.mk [Ob.cells [AV.nilsl], Ob.cells [AV.nilsl], Ob.nov 0, Ob.nov 0] [])) := by kernel_rfl

theorem rroom_out (F : Nat) (st : St) :
    ((Cont.block 0 (Cont.then (f34_r0.run F (f34.leaveK Fun.done)) (f34.leaveK Fun.done))) (.exit 0) (Env.mk 21 []) st : Ans) =
    some (Fin.ret (AV.int IntKind.i64 (-1 : Int)), st) := by kernel_rfl

theorem rroom_ret (F : Nat) (i : Int) (st : St) :
    ((Cont.block 0 (Cont.then (f34_r0.run F (f34.leaveK Fun.done)) (f34.leaveK Fun.done))) .ret (Env.mk 21 [(2, .int .i64 i)]) st : Ans) =
    some (Fin.ret (AV.int IntKind.i64 i), st) := by kernel_rfl

theorem rof_round0 (F m : Nat) (K : Cont) (z : Bool) (l : List (List AV)) (e i : Int) (u : Nat) :
    (loopRun (f29_l0.run F) [0, 2, 4, 5, 6] K m.succ (Env.mk 94 [(0, .ns z 1 l), (2, .ptr 0 0), (4, .ptr 1 0), (5, .int .i64 e), (6, .int .i64 i)]) ⟨[.cells [.nilsl], .cells [.nilsl], .nov 0, .nov u], []⟩ : Ans) =
    branch (AV.bool (inR l (0 : Int)))
      (branch (AV.bool ((LD.one (LT.int IntKind.u8)).is (V.rowAt l (0 : Int))))
        (branch (AV.bool (decide (i < IntKind.i64.wrap (hdI (V.rowAt l (0 : Int))))))
          (branch (AV.bool (decide (IntKind.i64.wrap ((1 : Int) + i) ≥ (256 : Int))))
            (K AX.ret (Env.mk 94 [(2, AV.ptr 0 0), (3, AV.bool false)])
              (St.mk [Ob.cells [AV.nilsl], Ob.cells [AV.nilsl], Ob.nov 0, Ob.nov u] []))
            (branch (AV.bool (inR l (IntKind.i64.wrap ((1 : Int) + i))))
              (branch (AV.bool ((LD.one (LT.int IntKind.u8)).is (V.rowAt l (IntKind.i64.wrap ((1 : Int) + i)))))
                (branch
                  (AV.bool
                    (decide
                      (IntKind.i64.wrap
                          (IntKind.i64.wrap (hdI (V.rowAt l (IntKind.i64.wrap ((1 : Int) + i)))) - (1 : Int)) <
                        (0 : Int))))
                  (branch (AV.bool (apOk 1 24))
                    (loopRun (f29_l0.run F) [0, 2, 4, 5, 6] K m
                      (Env.mk 94
                        [(0, AV.ns z 1 l), (2, AV.ptr 0 0),
                          (4, AV.ptr 1 0), (5, AV.int IntKind.i64 e),
                          (6, AV.int IntKind.i64 (IntKind.i64.wrap (i + (1 : Int))))])
                      (St.mk
                        [Ob.cells [AV.nilsl], Ob.cells [AV.vs 2 1 1 1],
                          Ob.vec 1 (catC [] 0 [[AV.nilsl]]), Ob.nov u]
                        []))
                    none)
                  (branch
                    (AV.bool
                      (decide
                        (IntKind.i64.wrap
                            (IntKind.i64.wrap (hdI (V.rowAt l (IntKind.i64.wrap ((1 : Int) + i)))) - (1 : Int)) >
                          (200 : Int))))
                    (K AX.ret (Env.mk 94 [(2, AV.ptr 0 0), (3, AV.bool false)])
                      (St.mk [Ob.cells [AV.nilsl], Ob.cells [AV.nilsl], Ob.nov 0, Ob.nov u] []))
                    (branch
                      (AV.bool
                        (decide
                          (IntKind.i64.wrap
                              (IntKind.i64.wrap (hdI (V.rowAt l (IntKind.i64.wrap ((1 : Int) + i)))) - (1 : Int)) >
                            e)))
                      (K AX.ret (Env.mk 94 [(2, AV.ptr 0 0), (3, AV.bool false)])
                        (St.mk [Ob.cells [AV.nilsl], Ob.cells [AV.nilsl], Ob.nov 0, Ob.nov u] []))
                      (branch
                        (AV.bool
                          (mkOk 1
                            (IntKind.i64.wrap
                              (IntKind.i64.wrap (hdI (V.rowAt l (IntKind.i64.wrap ((1 : Int) + i)))) - (1 : Int)))))
                        (if
                            (0 : Int) ≤
                                IntKind.i64.wrap
                                  (IntKind.i64.wrap
                                      (e -
                                        IntKind.i64.wrap
                                          (IntKind.i64.wrap (hdI (V.rowAt l (IntKind.i64.wrap ((1 : Int) + i)))) -
                                            (1 : Int))) +
                                    IntKind.i64.wrap
                                      (IntKind.i64.wrap (hdI (V.rowAt l (IntKind.i64.wrap ((1 : Int) + i)))) - (1 : Int))) ∧
                              IntKind.i64.wrap
                                  (IntKind.i64.wrap
                                      (e -
                                        IntKind.i64.wrap
                                          (IntKind.i64.wrap (hdI (V.rowAt l (IntKind.i64.wrap ((1 : Int) + i)))) -
                                            (1 : Int))) +
                                    IntKind.i64.wrap
                                      (IntKind.i64.wrap (hdI (V.rowAt l (IntKind.i64.wrap ((1 : Int) + i)))) - (1 : Int))) ≤
                                (↑l.length : Int) then
                          if
                              (0 : Int) ≤
                                  IntKind.i64.wrap
                                    (e -
                                      IntKind.i64.wrap
                                        (IntKind.i64.wrap (hdI (V.rowAt l (IntKind.i64.wrap ((1 : Int) + i)))) -
                                          (1 : Int))) ∧
                                IntKind.i64.wrap
                                    (e -
                                      IntKind.i64.wrap
                                        (IntKind.i64.wrap (hdI (V.rowAt l (IntKind.i64.wrap ((1 : Int) + i)))) -
                                          (1 : Int))) ≤
                                  (↑(IntKind.i64.wrap
                                          (IntKind.i64.wrap
                                              (e -
                                                IntKind.i64.wrap
                                                  (IntKind.i64.wrap (hdI (V.rowAt l (IntKind.i64.wrap ((1 : Int) + i)))) -
                                                    (1 : Int))) +
                                            IntKind.i64.wrap
                                              (IntKind.i64.wrap (hdI (V.rowAt l (IntKind.i64.wrap ((1 : Int) + i)))) -
                                                (1 : Int)))).toNat :
                                    Int) then
                            branch
                              (AV.bool
                                ((u + 1).beq (u + 1) &&
                                  inC
                                    (zerC
                                      (IntKind.i64.wrap
                                          (IntKind.i64.wrap (hdI (V.rowAt l (IntKind.i64.wrap ((1 : Int) + i)))) -
                                            (1 : Int))).toNat
                                      [AV.int IntKind.u8 (0 : Int)])
                                    0
                                    (mulN
                                      (minN
                                        (List.drop
                                            (IntKind.i64.wrap
                                                (e -
                                                  IntKind.i64.wrap
                                                    (IntKind.i64.wrap (hdI (V.rowAt l (IntKind.i64.wrap ((1 : Int) + i)))) -
                                                      (1 : Int)))).toNat
                                            (List.take
                                              (IntKind.i64.wrap
                                                  (IntKind.i64.wrap
                                                      (e -
                                                        IntKind.i64.wrap
                                                          (IntKind.i64.wrap
                                                              (hdI (V.rowAt l (IntKind.i64.wrap ((1 : Int) + i)))) -
                                                            (1 : Int))) +
                                                    IntKind.i64.wrap
                                                      (IntKind.i64.wrap
                                                          (hdI (V.rowAt l (IntKind.i64.wrap ((1 : Int) + i)))) -
                                                        (1 : Int)))).toNat
                                              l)).length
                                        (IntKind.i64.wrap
                                            (IntKind.i64.wrap (hdI (V.rowAt l (IntKind.i64.wrap ((1 : Int) + i)))) -
                                              (1 : Int))).toNat)
                                      1)))
                              (branch
                                (AV.bool
                                  ((u + 1).beq (u + 1) &&
                                    inC
                                      (setC
                                        (zerC
                                          (IntKind.i64.wrap
                                              (IntKind.i64.wrap (hdI (V.rowAt l (IntKind.i64.wrap ((1 : Int) + i)))) -
                                                (1 : Int))).toNat
                                          [AV.int IntKind.u8 (0 : Int)])
                                        0
                                        (flC
                                          (List.drop
                                            (IntKind.i64.wrap
                                                (e -
                                                  IntKind.i64.wrap
                                                    (IntKind.i64.wrap (hdI (V.rowAt l (IntKind.i64.wrap ((1 : Int) + i)))) -
                                                      (1 : Int)))).toNat
                                            (List.take
                                              (IntKind.i64.wrap
                                                  (IntKind.i64.wrap
                                                      (e -
                                                        IntKind.i64.wrap
                                                          (IntKind.i64.wrap
                                                              (hdI (V.rowAt l (IntKind.i64.wrap ((1 : Int) + i)))) -
                                                            (1 : Int))) +
                                                    IntKind.i64.wrap
                                                      (IntKind.i64.wrap
                                                          (hdI (V.rowAt l (IntKind.i64.wrap ((1 : Int) + i)))) -
                                                        (1 : Int)))).toNat
                                              l))
                                          (minN
                                            (List.drop
                                                (IntKind.i64.wrap
                                                    (e -
                                                      IntKind.i64.wrap
                                                        (IntKind.i64.wrap
                                                            (hdI (V.rowAt l (IntKind.i64.wrap ((1 : Int) + i)))) -
                                                          (1 : Int)))).toNat
                                                (List.take
                                                  (IntKind.i64.wrap
                                                      (IntKind.i64.wrap
                                                          (e -
                                                            IntKind.i64.wrap
                                                              (IntKind.i64.wrap
                                                                  (hdI (V.rowAt l (IntKind.i64.wrap ((1 : Int) + i)))) -
                                                                (1 : Int))) +
                                                        IntKind.i64.wrap
                                                          (IntKind.i64.wrap
                                                              (hdI (V.rowAt l (IntKind.i64.wrap ((1 : Int) + i)))) -
                                                            (1 : Int)))).toNat
                                                  l)).length
                                            (IntKind.i64.wrap
                                                (IntKind.i64.wrap (hdI (V.rowAt l (IntKind.i64.wrap ((1 : Int) + i)))) -
                                                  (1 : Int))).toNat)))
                                      0
                                      (mulN
                                        (IntKind.i64.wrap
                                            (IntKind.i64.wrap (hdI (V.rowAt l (IntKind.i64.wrap ((1 : Int) + i)))) -
                                              (1 : Int))).toNat
                                        1)))
                                (branch (AV.bool (apOk 1 24))
                                  (loopRun (f29_l0.run F) [0, 2, 4, 5, 6] K m
                                    (Env.mk 94
                                      [(0, AV.ns z 1 l), (2, AV.ptr 0 0),
                                        (4, AV.ptr 1 0),
                                        (5,
                                          AV.int IntKind.i64
                                            (IntKind.i64.wrap
                                              (e -
                                                IntKind.i64.wrap
                                                  (IntKind.i64.wrap (hdI (V.rowAt l (IntKind.i64.wrap ((1 : Int) + i)))) -
                                                    (1 : Int))))),
                                        (6, AV.int IntKind.i64 (IntKind.i64.wrap (i + (1 : Int))))])
                                    (St.mk
                                      [Ob.cells [AV.nilsl], Ob.cells [AV.vs 2 1 1 1],
                                        Ob.vec 1
                                          (catC [] 0
                                            [[AV.ns false 1
                                                  (rowsC 1
                                                    (IntKind.i64.wrap
                                                        (IntKind.i64.wrap
                                                            (hdI (V.rowAt l (IntKind.i64.wrap ((1 : Int) + i)))) -
                                                          (1 : Int))).toNat
                                                    (setC
                                                      (zerC
                                                        (IntKind.i64.wrap
                                                            (IntKind.i64.wrap
                                                                (hdI (V.rowAt l (IntKind.i64.wrap ((1 : Int) + i)))) -
                                                              (1 : Int))).toNat
                                                        [AV.int IntKind.u8 (0 : Int)])
                                                      0
                                                      (flC
                                                        (List.drop
                                                          (IntKind.i64.wrap
                                                              (e -
                                                                IntKind.i64.wrap
                                                                  (IntKind.i64.wrap
                                                                      (hdI (V.rowAt l (IntKind.i64.wrap ((1 : Int) + i)))) -
                                                                    (1 : Int)))).toNat
                                                          (List.take
                                                            (IntKind.i64.wrap
                                                                (IntKind.i64.wrap
                                                                    (e -
                                                                      IntKind.i64.wrap
                                                                        (IntKind.i64.wrap
                                                                            (hdI
                                                                              (V.rowAt l
                                                                                (IntKind.i64.wrap ((1 : Int) + i)))) -
                                                                          (1 : Int))) +
                                                                  IntKind.i64.wrap
                                                                    (IntKind.i64.wrap
                                                                        (hdI
                                                                          (V.rowAt l (IntKind.i64.wrap ((1 : Int) + i)))) -
                                                                      (1 : Int)))).toNat
                                                            l))
                                                        (minN
                                                          (List.drop
                                                              (IntKind.i64.wrap
                                                                  (e -
                                                                    IntKind.i64.wrap
                                                                      (IntKind.i64.wrap
                                                                          (hdI
                                                                            (V.rowAt l
                                                                              (IntKind.i64.wrap ((1 : Int) + i)))) -
                                                                        (1 : Int)))).toNat
                                                              (List.take
                                                                (IntKind.i64.wrap
                                                                    (IntKind.i64.wrap
                                                                        (e -
                                                                          IntKind.i64.wrap
                                                                            (IntKind.i64.wrap
                                                                                (hdI
                                                                                  (V.rowAt l
                                                                                    (IntKind.i64.wrap ((1 : Int) + i)))) -
                                                                              (1 : Int))) +
                                                                      IntKind.i64.wrap
                                                                        (IntKind.i64.wrap
                                                                            (hdI
                                                                              (V.rowAt l
                                                                                (IntKind.i64.wrap ((1 : Int) + i)))) -
                                                                          (1 : Int)))).toNat
                                                                l)).length
                                                          (IntKind.i64.wrap
                                                              (IntKind.i64.wrap
                                                                  (hdI (V.rowAt l (IntKind.i64.wrap ((1 : Int) + i)))) -
                                                                (1 : Int))).toNat)))
                                                    0)]]),
                                        Ob.nov (u + 1 + 1)]
                                      []))
                                  none)
                                none)
                              none
                          else none
                        else none)
                        none))))
                none)
              none))
          (K (AX.exit 0)
            (Env.mk 94
              [(0, AV.ns z 1 l), (2, AV.ptr 0 0),
                (4, AV.ptr 1 0)])
            (St.mk [Ob.cells [AV.nilsl], Ob.cells [AV.nilsl], Ob.nov 0, Ob.nov u] [])))
        none)
      none := by kernel_rfl

theorem rof_round (F m : Nat) (K : Cont) (z : Bool) (l : List (List AV)) (e i : Int) (v n u : Nat) (cs : List AV) :
    (loopRun (f29_l0.run F) [0, 2, 4, 5, 6] K m.succ (Env.mk 94 [(0, .ns z 1 l), (2, .ptr 0 0), (4, .ptr 1 0), (5, .int .i64 e), (6, .int .i64 i)]) ⟨[.cells [.nilsl], .cells [.vs 2 v 1 n], .vec v cs, .nov u], []⟩ : Ans) =
    branch (AV.bool (inR l (0 : Int)))
      (branch (AV.bool ((LD.one (LT.int IntKind.u8)).is (V.rowAt l (0 : Int))))
        (branch (AV.bool (decide (i < IntKind.i64.wrap (hdI (V.rowAt l (0 : Int))))))
          (branch (AV.bool (decide (IntKind.i64.wrap ((1 : Int) + i) ≥ (256 : Int))))
            (K AX.ret (Env.mk 94 [(2, AV.ptr 0 0), (3, AV.bool false)])
              (St.mk [Ob.cells [AV.nilsl], Ob.cells [AV.vs 2 v 1 n], Ob.vec v cs, Ob.nov u] []))
            (branch (AV.bool (inR l (IntKind.i64.wrap ((1 : Int) + i))))
              (branch (AV.bool ((LD.one (LT.int IntKind.u8)).is (V.rowAt l (IntKind.i64.wrap ((1 : Int) + i)))))
                (branch
                  (AV.bool
                    (decide
                      (IntKind.i64.wrap
                          (IntKind.i64.wrap (hdI (V.rowAt l (IntKind.i64.wrap ((1 : Int) + i)))) - (1 : Int)) <
                        (0 : Int))))
                  (branch (AV.bool (v.beq v && (inC cs 0 (mulN n 1) && apOk (n + 1) 24)))
                    (loopRun (f29_l0.run F) [0, 2, 4, 5, 6] K m
                      (Env.mk 94
                        [(0, AV.ns z 1 l), (2, AV.ptr 0 0),
                          (4, AV.ptr 1 0), (5, AV.int IntKind.i64 e),
                          (6, AV.int IntKind.i64 (IntKind.i64.wrap (i + (1 : Int))))])
                      (St.mk
                        [Ob.cells [AV.nilsl], Ob.cells [AV.vs 2 (v + 1) 1 (n + 1)],
                          Ob.vec (v + 1) (catC cs (mulN n 1) [[AV.nilsl]]), Ob.nov u]
                        []))
                    none)
                  (branch
                    (AV.bool
                      (decide
                        (IntKind.i64.wrap
                            (IntKind.i64.wrap (hdI (V.rowAt l (IntKind.i64.wrap ((1 : Int) + i)))) - (1 : Int)) >
                          (200 : Int))))
                    (K AX.ret (Env.mk 94 [(2, AV.ptr 0 0), (3, AV.bool false)])
                      (St.mk [Ob.cells [AV.nilsl], Ob.cells [AV.vs 2 v 1 n], Ob.vec v cs, Ob.nov u] []))
                    (branch
                      (AV.bool
                        (decide
                          (IntKind.i64.wrap
                              (IntKind.i64.wrap (hdI (V.rowAt l (IntKind.i64.wrap ((1 : Int) + i)))) - (1 : Int)) >
                            e)))
                      (K AX.ret (Env.mk 94 [(2, AV.ptr 0 0), (3, AV.bool false)])
                        (St.mk [Ob.cells [AV.nilsl], Ob.cells [AV.vs 2 v 1 n], Ob.vec v cs, Ob.nov u] []))
                      (branch
                        (AV.bool
                          (mkOk 1
                            (IntKind.i64.wrap
                              (IntKind.i64.wrap (hdI (V.rowAt l (IntKind.i64.wrap ((1 : Int) + i)))) - (1 : Int)))))
                        (if
                            (0 : Int) ≤
                                IntKind.i64.wrap
                                  (IntKind.i64.wrap
                                      (e -
                                        IntKind.i64.wrap
                                          (IntKind.i64.wrap (hdI (V.rowAt l (IntKind.i64.wrap ((1 : Int) + i)))) -
                                            (1 : Int))) +
                                    IntKind.i64.wrap
                                      (IntKind.i64.wrap (hdI (V.rowAt l (IntKind.i64.wrap ((1 : Int) + i)))) - (1 : Int))) ∧
                              IntKind.i64.wrap
                                  (IntKind.i64.wrap
                                      (e -
                                        IntKind.i64.wrap
                                          (IntKind.i64.wrap (hdI (V.rowAt l (IntKind.i64.wrap ((1 : Int) + i)))) -
                                            (1 : Int))) +
                                    IntKind.i64.wrap
                                      (IntKind.i64.wrap (hdI (V.rowAt l (IntKind.i64.wrap ((1 : Int) + i)))) - (1 : Int))) ≤
                                (↑l.length : Int) then
                          if
                              (0 : Int) ≤
                                  IntKind.i64.wrap
                                    (e -
                                      IntKind.i64.wrap
                                        (IntKind.i64.wrap (hdI (V.rowAt l (IntKind.i64.wrap ((1 : Int) + i)))) -
                                          (1 : Int))) ∧
                                IntKind.i64.wrap
                                    (e -
                                      IntKind.i64.wrap
                                        (IntKind.i64.wrap (hdI (V.rowAt l (IntKind.i64.wrap ((1 : Int) + i)))) -
                                          (1 : Int))) ≤
                                  (↑(IntKind.i64.wrap
                                          (IntKind.i64.wrap
                                              (e -
                                                IntKind.i64.wrap
                                                  (IntKind.i64.wrap (hdI (V.rowAt l (IntKind.i64.wrap ((1 : Int) + i)))) -
                                                    (1 : Int))) +
                                            IntKind.i64.wrap
                                              (IntKind.i64.wrap (hdI (V.rowAt l (IntKind.i64.wrap ((1 : Int) + i)))) -
                                                (1 : Int)))).toNat :
                                    Int) then
                            branch
                              (AV.bool
                                ((u + 1).beq (u + 1) &&
                                  inC
                                    (zerC
                                      (IntKind.i64.wrap
                                          (IntKind.i64.wrap (hdI (V.rowAt l (IntKind.i64.wrap ((1 : Int) + i)))) -
                                            (1 : Int))).toNat
                                      [AV.int IntKind.u8 (0 : Int)])
                                    0
                                    (mulN
                                      (minN
                                        (List.drop
                                            (IntKind.i64.wrap
                                                (e -
                                                  IntKind.i64.wrap
                                                    (IntKind.i64.wrap (hdI (V.rowAt l (IntKind.i64.wrap ((1 : Int) + i)))) -
                                                      (1 : Int)))).toNat
                                            (List.take
                                              (IntKind.i64.wrap
                                                  (IntKind.i64.wrap
                                                      (e -
                                                        IntKind.i64.wrap
                                                          (IntKind.i64.wrap
                                                              (hdI (V.rowAt l (IntKind.i64.wrap ((1 : Int) + i)))) -
                                                            (1 : Int))) +
                                                    IntKind.i64.wrap
                                                      (IntKind.i64.wrap
                                                          (hdI (V.rowAt l (IntKind.i64.wrap ((1 : Int) + i)))) -
                                                        (1 : Int)))).toNat
                                              l)).length
                                        (IntKind.i64.wrap
                                            (IntKind.i64.wrap (hdI (V.rowAt l (IntKind.i64.wrap ((1 : Int) + i)))) -
                                              (1 : Int))).toNat)
                                      1)))
                              (branch
                                (AV.bool
                                  ((u + 1).beq (u + 1) &&
                                    inC
                                      (setC
                                        (zerC
                                          (IntKind.i64.wrap
                                              (IntKind.i64.wrap (hdI (V.rowAt l (IntKind.i64.wrap ((1 : Int) + i)))) -
                                                (1 : Int))).toNat
                                          [AV.int IntKind.u8 (0 : Int)])
                                        0
                                        (flC
                                          (List.drop
                                            (IntKind.i64.wrap
                                                (e -
                                                  IntKind.i64.wrap
                                                    (IntKind.i64.wrap (hdI (V.rowAt l (IntKind.i64.wrap ((1 : Int) + i)))) -
                                                      (1 : Int)))).toNat
                                            (List.take
                                              (IntKind.i64.wrap
                                                  (IntKind.i64.wrap
                                                      (e -
                                                        IntKind.i64.wrap
                                                          (IntKind.i64.wrap
                                                              (hdI (V.rowAt l (IntKind.i64.wrap ((1 : Int) + i)))) -
                                                            (1 : Int))) +
                                                    IntKind.i64.wrap
                                                      (IntKind.i64.wrap
                                                          (hdI (V.rowAt l (IntKind.i64.wrap ((1 : Int) + i)))) -
                                                        (1 : Int)))).toNat
                                              l))
                                          (minN
                                            (List.drop
                                                (IntKind.i64.wrap
                                                    (e -
                                                      IntKind.i64.wrap
                                                        (IntKind.i64.wrap
                                                            (hdI (V.rowAt l (IntKind.i64.wrap ((1 : Int) + i)))) -
                                                          (1 : Int)))).toNat
                                                (List.take
                                                  (IntKind.i64.wrap
                                                      (IntKind.i64.wrap
                                                          (e -
                                                            IntKind.i64.wrap
                                                              (IntKind.i64.wrap
                                                                  (hdI (V.rowAt l (IntKind.i64.wrap ((1 : Int) + i)))) -
                                                                (1 : Int))) +
                                                        IntKind.i64.wrap
                                                          (IntKind.i64.wrap
                                                              (hdI (V.rowAt l (IntKind.i64.wrap ((1 : Int) + i)))) -
                                                            (1 : Int)))).toNat
                                                  l)).length
                                            (IntKind.i64.wrap
                                                (IntKind.i64.wrap (hdI (V.rowAt l (IntKind.i64.wrap ((1 : Int) + i)))) -
                                                  (1 : Int))).toNat)))
                                      0
                                      (mulN
                                        (IntKind.i64.wrap
                                            (IntKind.i64.wrap (hdI (V.rowAt l (IntKind.i64.wrap ((1 : Int) + i)))) -
                                              (1 : Int))).toNat
                                        1)))
                                (branch
                                  (AV.bool
                                    (v.beq v && (inC cs 0 (mulN n 1) && apOk (n + 1) 24)))
                                  (loopRun (f29_l0.run F) [0, 2, 4, 5, 6] K m
                                    (Env.mk 94
                                      [(0, AV.ns z 1 l), (2, AV.ptr 0 0),
                                        (4, AV.ptr 1 0),
                                        (5,
                                          AV.int IntKind.i64
                                            (IntKind.i64.wrap
                                              (e -
                                                IntKind.i64.wrap
                                                  (IntKind.i64.wrap (hdI (V.rowAt l (IntKind.i64.wrap ((1 : Int) + i)))) -
                                                    (1 : Int))))),
                                        (6, AV.int IntKind.i64 (IntKind.i64.wrap (i + (1 : Int))))])
                                    (St.mk
                                      [Ob.cells [AV.nilsl],
                                        Ob.cells [AV.vs 2 (v + 1) 1 (n + 1)],
                                        Ob.vec (v + 1)
                                          (catC cs (mulN n 1)
                                            [[AV.ns false 1
                                                  (rowsC 1
                                                    (IntKind.i64.wrap
                                                        (IntKind.i64.wrap
                                                            (hdI (V.rowAt l (IntKind.i64.wrap ((1 : Int) + i)))) -
                                                          (1 : Int))).toNat
                                                    (setC
                                                      (zerC
                                                        (IntKind.i64.wrap
                                                            (IntKind.i64.wrap
                                                                (hdI (V.rowAt l (IntKind.i64.wrap ((1 : Int) + i)))) -
                                                              (1 : Int))).toNat
                                                        [AV.int IntKind.u8 (0 : Int)])
                                                      0
                                                      (flC
                                                        (List.drop
                                                          (IntKind.i64.wrap
                                                              (e -
                                                                IntKind.i64.wrap
                                                                  (IntKind.i64.wrap
                                                                      (hdI (V.rowAt l (IntKind.i64.wrap ((1 : Int) + i)))) -
                                                                    (1 : Int)))).toNat
                                                          (List.take
                                                            (IntKind.i64.wrap
                                                                (IntKind.i64.wrap
                                                                    (e -
                                                                      IntKind.i64.wrap
                                                                        (IntKind.i64.wrap
                                                                            (hdI
                                                                              (V.rowAt l
                                                                                (IntKind.i64.wrap ((1 : Int) + i)))) -
                                                                          (1 : Int))) +
                                                                  IntKind.i64.wrap
                                                                    (IntKind.i64.wrap
                                                                        (hdI
                                                                          (V.rowAt l (IntKind.i64.wrap ((1 : Int) + i)))) -
                                                                      (1 : Int)))).toNat
                                                            l))
                                                        (minN
                                                          (List.drop
                                                              (IntKind.i64.wrap
                                                                  (e -
                                                                    IntKind.i64.wrap
                                                                      (IntKind.i64.wrap
                                                                          (hdI
                                                                            (V.rowAt l
                                                                              (IntKind.i64.wrap ((1 : Int) + i)))) -
                                                                        (1 : Int)))).toNat
                                                              (List.take
                                                                (IntKind.i64.wrap
                                                                    (IntKind.i64.wrap
                                                                        (e -
                                                                          IntKind.i64.wrap
                                                                            (IntKind.i64.wrap
                                                                                (hdI
                                                                                  (V.rowAt l
                                                                                    (IntKind.i64.wrap ((1 : Int) + i)))) -
                                                                              (1 : Int))) +
                                                                      IntKind.i64.wrap
                                                                        (IntKind.i64.wrap
                                                                            (hdI
                                                                              (V.rowAt l
                                                                                (IntKind.i64.wrap ((1 : Int) + i)))) -
                                                                          (1 : Int)))).toNat
                                                                l)).length
                                                          (IntKind.i64.wrap
                                                              (IntKind.i64.wrap
                                                                  (hdI (V.rowAt l (IntKind.i64.wrap ((1 : Int) + i)))) -
                                                                (1 : Int))).toNat)))
                                                    0)]]),
                                        Ob.nov (u + 1 + 1)]
                                      []))
                                  none)
                                none)
                              none
                          else none
                        else none)
                        none))))
                none)
              none))
          (K (AX.exit 0)
            (Env.mk 94
              [(0, AV.ns z 1 l), (2, AV.ptr 0 0),
                (4, AV.ptr 1 0)])
            (St.mk [Ob.cells [AV.nilsl], Ob.cells [AV.vs 2 v 1 n], Ob.vec v cs, Ob.nov u] [])))
        none)
      none := by kernel_rfl

theorem rof_out0 (F : Nat) (z : Bool) (l : List (List AV)) (u : Nat) :
    ((Cont.block 0 (Cont.then (f29_r0.run F (f29.leaveK Fun.done)) (f29.leaveK Fun.done))) (.exit 0) (Env.mk 94 [(0, .ns z 1 l), (2, .ptr 0 0), (4, .ptr 1 0)]) ⟨[.cells [.nilsl], .cells [.nilsl], .nov 0, .nov u], []⟩ : Ans) =
    branch (AV.bool (okS []))
      (branch (AV.bool (byOk (pgR []) && byOk l))
        (branch (AV.bool !nR (pgR []) == nR l)
          (some
            (Fin.ret (AV.tup [AV.agg [AV.nilsl], AV.bool false]),
              St.mk [Ob.cells [AV.nilsl], Ob.cells [AV.nilsl], Ob.nov 0, Ob.nov u] []))
          (some
            (Fin.ret (AV.tup [AV.agg [AV.nilsl], AV.bool true]),
              St.mk [Ob.cells [AV.nilsl], Ob.cells [AV.nilsl], Ob.nov 0, Ob.nov u] [])))
        none)
      none := by kernel_rfl

theorem rof_out (F : Nat) (z : Bool) (l : List (List AV)) (v n u : Nat) (cs : List AV) :
    ((Cont.block 0 (Cont.then (f29_r0.run F (f29.leaveK Fun.done)) (f29.leaveK Fun.done))) (.exit 0) (Env.mk 94 [(0, .ns z 1 l), (2, .ptr 0 0), (4, .ptr 1 0)]) ⟨[.cells [.nilsl], .cells [.vs 2 v 1 n], .vec v cs, .nov u], []⟩ : Ans) =
    branch (AV.bool (v.beq v && inC cs 0 (mulN n 1)))
      (branch (AV.bool (okS (rowsC 1 n cs 0)))
        (branch (AV.bool !pgOk (sR (rowsC 1 n cs 0)))
          (some
            (Fin.ret (AV.tup [AV.agg [AV.nilsl], AV.bool false]),
              St.mk [Ob.cells [AV.nilsl], Ob.cells [AV.vs 2 v 1 n], Ob.vec v cs, Ob.nov u] []))
          (branch (AV.bool (byOk (pgR (rowsC 1 n cs 0)) && byOk l))
            (branch (AV.bool !nR (pgR (rowsC 1 n cs 0)) == nR l)
              (some
                (Fin.ret (AV.tup [AV.agg [AV.nilsl], AV.bool false]),
                  St.mk [Ob.cells [AV.nilsl], Ob.cells [AV.vs 2 v 1 n], Ob.vec v cs, Ob.nov u] []))
              (branch (AV.bool (true && (v.beq v && (okS (cR cs) && (cs.all slC && cdec (n ≤ cs.length))))))
                (branch (AV.bool ((↑(trN n cs) : Int) != (↑n : Int)))
                  (some
                    (Fin.ret (AV.tup [AV.agg [AV.nilsl], AV.bool false]),
                      St.mk [Ob.cells [AV.nilsl], Ob.cells [AV.vs 2 v 1 n], Ob.vec v cs, Ob.nov u] []))
                  (some
                    (Fin.ret (AV.tup [AV.agg [AV.vs 2 v 1 n], AV.bool true]),
                      St.mk
                        [Ob.cells [AV.vs 2 v 1 n], Ob.cells [AV.vs 2 v 1 n], Ob.vec v cs,
                          Ob.nov u]
                        [])))
                none))
            none))
        none)
      none := by kernel_rfl

end Go.Proofs.Ytblliolkgkgppaa.V
