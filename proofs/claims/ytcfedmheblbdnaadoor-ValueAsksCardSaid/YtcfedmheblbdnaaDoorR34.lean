/- Merged out of 23 texts: what the claim's code comes to, and why. -/
import Derived.Test.YtcfedmheblbdnaaDoorR33
/- Values: a text in quotes. -/
set_option linter.unusedVariables false
namespace Go.Proofs.YtcfedmheblbdnaaDoor.V
open Go Go.V Go.RowKit

def hexD (n : Nat) : Nat := bif Nat.blt n 10 then 48 + n else 87 + n
def escB (x : Nat) : Bool := Nat.blt x 32 || (Nat.blt 126 x || (Nat.beq x 34 || Nat.beq x 92))
def encQ (x : Nat) : List Nat := bif escB x then [92, hexD (x / 16), hexD (x % 16)] else [x]
def qtL (l : List Nat) : List Nat := 34 :: (l.flatMap encQ ++ [34])
theorem encQ_len (x : Nat) : (encQ x).length ≤ 3 := by unfold encQ; cases escB x <;> simp
theorem flat_encQ_len : ∀ l : List Nat, (l.flatMap encQ).length ≤ 3 * l.length
  | [] => by simp
  | x :: l => by
    have := encQ_len x
    have := flat_encQ_len l
    simp only [List.flatMap_cons, List.length_append, List.length_cons]; omega
theorem hexD_lt {n : Nat} (h : n < 16) : hexD n < 256 := by unfold hexD; cases Nat.blt n 10 <;> simp <;> omega
theorem encQ_lt {x : Nat} (h : x < 256) : ∀ y ∈ encQ x, y < 256 := by
  intro y hy
  unfold encQ at hy
  cases hb : escB x <;> rw [hb] at hy <;> simp at hy
  · omega
  · rcases hy with rfl | rfl | rfl
    · omega
    · exact hexD_lt (by omega)
    · exact hexD_lt (by omega)
theorem fD_all : (List.range 256).all (fun x => decide ((x : Int).fdiv 16 = ((x / 16 : Nat) : Int)) && (decide (IntKind.u8.wrap (((x / 16 : Nat) : Int) + 1) = ((x / 16 + 1 : Nat) : Int)) && (decide (bitsI .and .u8 (x : Int) 15 = ((x % 16 : Nat) : Int)) && decide (IntKind.u8.wrap (((x % 16 : Nat) : Int) + 1) = ((x % 16 + 1 : Nat) : Int))))) = true := by kernel_rfl
theorem fD {x : Nat} (h : x < 256) : (x : Int).fdiv 16 = ((x / 16 : Nat) : Int) ∧ IntKind.u8.wrap (((x / 16 : Nat) : Int) + 1) = ((x / 16 + 1 : Nat) : Int) ∧ bitsI .and .u8 (x : Int) 15 = ((x % 16 : Nat) : Int) ∧ IntKind.u8.wrap (((x % 16 : Nat) : Int) + 1) = ((x % 16 + 1 : Nat) : Int) := by
  have := List.all_eq_true.mp fD_all x (List.mem_range.mpr h)
  simpa only [Bool.and_eq_true, decide_eq_true_eq] using this
theorem hexL : strL hexB = [48, 49, 50, 51, 52, 53, 54, 55, 56, 57, 97, 98, 99, 100, 101, 102] := by kernel_rfl
def bsB : ByteArray := ⟨#[92]⟩
theorem bsL : strL bsB = [92] := by kernel_rfl
theorem hex_at : (List.range 16).all (fun n => decide ((([48, 49, 50, 51, 52, 53, 54, 55, 56, 57, 97, 98, 99, 100, 101, 102] : List Nat).take (n + 1)).drop n = [hexD n])) = true := by kernel_rfl
theorem hex_sub {n : Nat} (h : n < 16) : strL (subT hexB (n : Int) ((n + 1 : Nat) : Int)) = [hexD n] := by
  rw [subT_list, hexL, Int.toNat_natCast, Int.toNat_natCast]
  have := List.all_eq_true.mp hex_at n (List.mem_range.mpr h)
  exact of_decide_eq_true this
theorem hex_in {n : Nat} (h : n < 16) : inSl hexB (n : Int) ((n + 1 : Nat) : Int) = true := by
  rw [inSl_iff, hexL]; simp; omega
/-- What a byte that is told by two digits looks like. -/
noncomputable def escT (x : Nat) : ByteArray := catT (catT bsB (subT hexB ((x / 16 : Nat) : Int) ((x / 16 + 1 : Nat) : Int))) (subT hexB ((x % 16 : Nat) : Int) ((x % 16 + 1 : Nat) : Int))
theorem escT_list {x : Nat} (h : x < 256) : strL (escT x) = [92, hexD (x / 16), hexD (x % 16)] := by
  rw [escT, catT_list, catT_list, bsL, hex_sub (by omega), hex_sub (by omega)]; rfl
theorem cat_ok1 {x : Nat} (h : x < 256) : catOk bsB (subT hexB ((x / 16 : Nat) : Int) ((x / 16 + 1 : Nat) : Int)) = true := by
  rw [catOk, cdec_iff, bsL, hex_sub (by omega)]; simp
theorem cat_ok2 {x : Nat} (h : x < 256) : catOk (catT bsB (subT hexB ((x / 16 : Nat) : Int) ((x / 16 + 1 : Nat) : Int))) (subT hexB ((x % 16 : Nat) : Int) ((x % 16 + 1 : Nat) : Int)) = true := by
  rw [catOk, cdec_iff, catT_list, bsL, hex_sub (by omega), hex_sub (by omega)]; simp
theorem bd_G {X : Bd} (h : X.Ok) : BdA.G 0 [BdA.ob 0 X 0, BdA.ob 0 X 1] = some X := ADT.G_obl BdA (x := X) h 0
theorem bd_G0 : BdA.G 0 [Ob.cells [AV.nilptr, AV.nilsl], Ob.nov 0] = some (.fresh 0) := by
  have h : (Bd.fresh 0).Ok := trivial
  have := ADT.G_obl BdA (x := .fresh 0) h 0
  rw [ADT.obl_zero BdA (x := .fresh 0) h] at this
  exact this
theorem obl0 {X : Bd} (h : X.Ok) : [BdA.ob 0 X 0, BdA.ob 0 X 1] = X.obs := ADT.obl_zero BdA (x := X) h
theorem onSome_some {α : Type} (x : α) (n : Ans) (f : α → Ans) : onSome (some x) n f = f x := rfl
theorem br_t (y n : Ans) : branch (.bool true) y n = y := rfl
theorem br_f (y n : Ans) : branch (.bool false) y n = n := rfl
theorem int_wrap {i : Nat} (h : i < 1000000000) : IntKind.i64.wrap ((i : Int) + 1) = ((i + 1 : Nat) : Int) := wrap_succ (by omega)

theorem q_loop (F : Nat) (K : Cont) (s : ByteArray) (hs : (strL s).length ≤ 100000000) : ∀ (r n i : Nat) (X : Bd), i + r = (strL s).length → r < n → X.Ok → X.live = true → X.bytes.length + 3 * r ≤ 900000000 →
    ∃ Y : Bd, Y.Ok ∧ Y.live = true ∧ Y.bytes = X.bytes ++ ((strL s).drop i).flatMap encQ ∧
      loopRun (f34_l0.run F) [0, 3, 8, 9] K n (Env.mk 50 [(0, .str s), (3, .tp 0 78 2), (8, .int .i64 (s.size : Int)), (9, .int .i64 (i : Int))]) ⟨[BdA.ob 0 X 0, BdA.ob 0 X 1], []⟩ = K (.exit 0) (Env.mk 50 [(3, .tp 0 78 2)]) ⟨[BdA.ob 0 Y 0, BdA.ob 0 Y 1], []⟩
  | 0, n + 1, i, X, hi, _, ho, hl, hb => by
    refine ⟨X, ho, hl, by rw [List.drop_eq_nil_of_le (by omega)]; simp, ?_⟩
    rw [q_round, strL_size, show decide ((i : Int) < (((strL s).length : Nat) : Int)) = false by simp; omega]
    rfl
  | r + 1, n + 1, i, X, hi, hn, ho, hl, hb => by
    have hil : i < (strL s).length := by omega
    obtain ⟨x, hx⟩ : ∃ x, x = (strL s)[i] := ⟨_, rfl⟩
    have hx256 : x < 256 := strL_lt s x (by rw [hx]; exact List.getElem_mem _)
    have hat : opq (atT s (i : Int)) = (x : Int) := by
      rw [opq_eq, atT, opq_eq, Int.toNat_natCast, List.getD_eq_getElem?_getD, List.getElem?_eq_getElem hil, hx]; rfl
    have hdrop : ((strL s).drop i).flatMap encQ = encQ x ++ ((strL s).drop (i + 1)).flatMap encQ := by
      rw [List.drop_eq_getElem_cons hil, List.flatMap_cons, hx]
    obtain ⟨d1, d2, d3, d4⟩ := fD hx256
    have e1 : opq ((x : Int).fdiv 16) = ((x / 16 : Nat) : Int) := by rw [opq_eq, d1]
    have e1' : opq ((x : Int).fdiv ((2 : Int) ^ min (Int.toNat (4 : Int)) IntKind.u8.bits)) = ((x / 16 : Nat) : Int) := e1
    have e2 : opq (IntKind.u8.wrap (((x / 16 : Nat) : Int) + 1)) = ((x / 16 + 1 : Nat) : Int) := by rw [opq_eq, d2]
    have e3 : opq (bitsI BinOp.and IntKind.u8 (x : Int) 15) = ((x % 16 : Nat) : Int) := by rw [opq_eq, d3]
    have e4 : opq (IntKind.u8.wrap (((x % 16 : Nat) : Int) + 1)) = ((x % 16 + 1 : Nat) : Int) := by rw [opq_eq, d4]
    have hw := int_wrap (i := i) (by omega)
    have fit : X.fits (strL (escT x)).length = true := by rw [Bd.fits_iff, escT_list hx256]; simp only [List.length_cons, List.length_nil]; exact ⟨hl, by omega⟩
    have fit1 : X.fits 1 = true := by rw [Bd.fits_iff]; exact ⟨hl, by omega⟩
    have hc : cdec ((0 : Int) ≤ (x : Int) ∧ (x : Int) < (256 : Int)) = true := by rw [cdec_iff]; omega
    have hin : inT s (i : Int) = true := by rw [inT_iff, Int.toNat_natCast]; exact ⟨by omega, hil⟩
    have hlt : decide ((i : Int) < (((strL s).length : Nat) : Int)) = true := by simp; omega
    have next : ∀ Z : Bd, Z = X.put (encQ x) → ∃ Y : Bd, Y.Ok ∧ Y.live = true ∧ Y.bytes = X.bytes ++ ((strL s).drop i).flatMap encQ ∧
        loopRun (f34_l0.run F) [0, 3, 8, 9] K n (Env.mk 50 [(0, .str s), (3, .tp 0 78 2), (8, .int .i64 (s.size : Int)), (9, .int .i64 ((i + 1 : Nat) : Int))]) ⟨[BdA.ob 0 Z 0, BdA.ob 0 Z 1], []⟩ = K (.exit 0) (Env.mk 50 [(3, .tp 0 78 2)]) ⟨[BdA.ob 0 Y 0, BdA.ob 0 Y 1], []⟩ := by
      intro Z hZ
      obtain ⟨z1, z2⟩ := Bd.put_bytes hl (encQ x)
      rw [← hZ] at z1 z2
      have := encQ_len x
      obtain ⟨Y, y1, y2, y3, y4⟩ := q_loop F K s hs r n (i + 1) Z (by omega) (by omega) (by rw [hZ]; exact ho.put (encQ_lt hx256)) z2 (by rw [z1, List.length_append]; omega)
      exact ⟨Y, y1, y2, by rw [y3, z1, hdrop, List.append_assoc], y4⟩
    by_cases he : escB x = true
    · have hq : encQ x = [92, hexD (x / 16), hexD (x % 16)] := by rw [encQ, he]; rfl
      obtain ⟨Y, y1, y2, y3, y4⟩ := next (X.put (strL (escT x))) (by rw [escT_list hx256, hq])
      refine ⟨Y, y1, y2, y3, ?_⟩
      rw [← y4, q_round, strL_size, hlt, br_t, hin, br_t, hat]
      change _ = _ at e1
      have h1 : inSl hexB ((x / 16 : Nat) : Int) ((x / 16 + 1 : Nat) : Int) = true := hex_in (by omega)
      have h2 : inSl hexB ((x % 16 : Nat) : Int) ((x % 16 + 1 : Nat) : Int) = true := hex_in (by omega)
      have h3 := cat_ok1 hx256
      have h4 := cat_ok2 hx256
      rw [show (ByteArray.mk #[(48 : UInt8), (49 : UInt8), (50 : UInt8), (51 : UInt8), (52 : UInt8), (53 : UInt8), (54 : UInt8), (55 : UInt8), (56 : UInt8), (57 : UInt8), (97 : UInt8), (98 : UInt8), (99 : UInt8), (100 : UInt8), (101 : UInt8), (102 : UInt8)]) = hexB from rfl, show (ByteArray.mk #[(92 : UInt8)]) = bsB from rfl]
      rw [e1, e1', e2, e3, e4, h1, h2, h3, h4, bd_G ho]
      simp only [br_t, onSome_some]
      rw [show catT (catT bsB (subT hexB ((x / 16 : Nat) : Int) ((x / 16 + 1 : Nat) : Int))) (subT hexB ((x % 16 : Nat) : Int) ((x % 16 + 1 : Nat) : Int)) = escT x from rfl, fit, hw]
      simp only [br_t]
      have hcase : ∀ {A B : Ans}, (branch (AV.bool (decide ((x : Int) < 32))) A (branch (AV.bool (decide ((x : Int) > 126))) A (branch (AV.bool ((x : Int) == 34)) A (branch (AV.bool ((x : Int) == 92)) A B)))) = A := by
        intro A B
        simp only [escB, Bool.or_eq_true, Nat.blt_eq, Nat.beq_eq] at he
        by_cases g1 : x < 32
        · rw [show decide ((x : Int) < 32) = true by simp; omega]; rfl
        · rw [show decide ((x : Int) < 32) = false by simp; omega, br_f]
          by_cases g2 : 126 < x
          · rw [show decide ((x : Int) > 126) = true by simp; omega]; rfl
          · rw [show decide ((x : Int) > 126) = false by simp; omega, br_f]
            by_cases g3 : x = 34
            · subst g3; rfl
            · rw [show ((x : Int) == 34) = false by simp; omega, br_f]
              have g4 : x = 92 := by omega
              subst g4; rfl
      rw [hcase]
    · have he : escB x = false := by simpa using he
      have hq : encQ x = [x] := by rw [encQ, he]; rfl
      obtain ⟨Y, y1, y2, y3, y4⟩ := next (X.put [x]) (by rw [hq])
      refine ⟨Y, y1, y2, y3, ?_⟩
      simp only [escB, Bool.or_eq_false_iff] at he
      obtain ⟨g1, g2, g3, g4⟩ := he
      have g1 : ¬ x < 32 := by intro h; rw [Nat.blt_eq.mpr h] at g1; cases g1
      have g2 : ¬ 126 < x := by intro h; rw [Nat.blt_eq.mpr h] at g2; cases g2
      have g3 : x ≠ 34 := by intro h; subst h; cases g3
      have g4 : x ≠ 92 := by intro h; subst h; cases g4
      rw [← y4, q_round, strL_size, hlt, br_t, hin, br_t, hat, show decide ((x : Int) < 32) = false by simp; omega, br_f, show decide ((x : Int) > 126) = false by simp; omega, br_f, show ((x : Int) == 34) = false by simp; omega, br_f, show ((x : Int) == 92) = false by simp; omega, br_f, bd_G ho, onSome_some, hc, fit1, hw, Int.toNat_natCast]
      rfl

theorem q_can {s : ByteArray} (hs : (strL s).length ≤ 100000000) : ∃ st', f34.run 100000001 [.str s] ⟨[], []⟩ = some (.ret (.str (strB (qtL (strL s)))), st') := by
  have h0 : ((Bd.fresh 0).put [Int.toNat 34]).Ok := Bd.Ok.put (X := .fresh 0) trivial (by intro x hx; simp at hx; omega)
  obtain ⟨Y, y1, y2, y3, y4⟩ := q_loop 100000001 (Cont.block 0 (Cont.then (f34_r0.run 100000001 (f34.leaveK Fun.done)) (f34.leaveK Fun.done))) s hs (strL s).length 100000001 0 ((Bd.fresh 0).put [Int.toNat 34]) (by omega) (by omega) h0 rfl (by show 1 + _ ≤ _; omega)
  have hlen := flat_encQ_len (strL s)
  rw [List.drop_zero] at y3
  have hyb : Y.bytes = 34 :: (strL s).flatMap encQ := y3
  have hyl : Y.bytes.length ≤ 300000001 := by rw [hyb, List.length_cons]; omega
  have q34 : strL (⟨#[34]⟩ : ByteArray) = [34] := by kernel_rfl
  have hbb : ∀ b ∈ Y.bytes, b < 256 := by
    cases Y with
    | has v l => exact y1.2
    | _ => intro b hb; cases hb
  refine ⟨⟨[BdA.ob 0 Y.out 0, BdA.ob 0 Y.out 1], []⟩, ?_⟩
  rw [q_run, bd_G0, onSome_some, show (true && (cdec ((0 : Int) ≤ (34 : Int) ∧ (34 : Int) < (256 : Int)) && (Bd.fresh 0).fits 1)) = true by
    rw [show cdec ((0 : Int) ≤ (34 : Int) ∧ (34 : Int) < (256 : Int)) = true by rw [cdec_iff]; omega, show (Bd.fresh 0).fits 1 = true by rw [Bd.fits_iff]; exact ⟨rfl, by show 0 + 1 < _; omega⟩]; rfl, br_t]
  refine Eq.trans y4 ?_
  rw [q_out, bd_G y1, onSome_some, show Y.fits 0 = true by rw [Bd.fits_iff]; exact ⟨y2, by omega⟩, br_t, show catOk (strB Y.bytes) (ByteArray.mk #[34]) = true by rw [catOk, cdec_iff, strL_strB hbb, q34, List.length_singleton]; omega, br_t]
  have : catT (strB Y.bytes) (ByteArray.mk #[34]) = strB (qtL (strL s)) := by
    have e : strL (catT (strB Y.bytes) (ByteArray.mk #[34])) = qtL (strL s) := by rw [catT_list, strL_strB hbb, q34, hyb]; rfl
    rw [← e, strB_strL]
  rw [this]
end Go.Proofs.YtcfedmheblbdnaaDoor.V

/- Values: what stands between quotes. -/
set_option linter.unusedVariables false
namespace Go.Proofs.YtcfedmheblbdnaaDoor.V
open Go Go.V Go.RowKit

def negI (i : Int) : Bool := decide (i < 0)
def unqF : Nat → List Nat → Option (List Nat)
  | 0, _ => none
  | n + 1, l => match l with
    | [] => some []
    | c :: s => bif Nat.beq c 92 then match s with
        | a :: b :: s' => bif negI (digH a) || negI (digH b) then none else (unqF n s').map fun r => (digH a * 16 + digH b).toNat :: r
        | _ => none
      else (unqF n s).map fun r => c :: r
theorem digH_or {a : Nat} : digH a < 0 ∨ ∃ u : Nat, u < 16 ∧ digH a = (u : Int) := by
  unfold digH
  cases h1 : Nat.ble 48 a && Nat.ble a 57
  · cases h2 : Nat.ble 97 a && Nat.ble a 102
    · exact .inl (by simp)
    · simp only [Bool.and_eq_true, Nat.ble_eq] at h2
      exact .inr ⟨a - 87, by omega, by simp; omega⟩
  · simp only [Bool.and_eq_true, Nat.ble_eq] at h1
    exact .inr ⟨a - 48, by omega, by simp; omega⟩
theorem or_all : (List.range 16).all (fun u => (List.range 16).all fun v => decide (IntKind.u8.wrap (bitsI .or .i64 (IntKind.i64.wrap ((u : Int) * 16)) (v : Int)) = ((u * 16 + v : Nat) : Int))) = true := by kernel_rfl
theorem or_eq {u v : Nat} (hu : u < 16) (hv : v < 16) : IntKind.u8.wrap (bitsI .or .i64 (IntKind.i64.wrap ((u : Int) * 16)) (v : Int)) = ((u * 16 + v : Nat) : Int) := by
  have h1 := List.all_eq_true.mp or_all u (List.mem_range.mpr hu)
  have h2 := List.all_eq_true.mp h1 v (List.mem_range.mpr hv)
  exact of_decide_eq_true h2
theorem at_eq {s : ByteArray} {i : Nat} {l : List Nat} {x : Nat} (h : strL s = l) (hx : l[i]? = some x) : opq (atT s (i : Int)) = (x : Int) ∧ inT s (i : Int) = true ∧ x < 256 := by
  subst h
  have hlt : i < (strL s).length := by
    rcases Nat.lt_or_ge i (strL s).length with h | h
    · exact h
    · rw [List.getElem?_eq_none h] at hx; cases hx
  refine ⟨?_, by rw [inT_iff, Int.toNat_natCast]; exact ⟨by omega, hlt⟩, strL_lt s x (List.mem_of_getElem? hx)⟩
  rw [opq_eq, atT, opq_eq, Int.toNat_natCast, List.getD_eq_getElem?_getD, hx]; rfl
theorem sub_end (s : ByteArray) (i : Nat) : strL (subT s (i : Int) (s.size : Int)) = (strL s).drop i := by
  rw [subT_list, Int.toNat_natCast, Int.toNat_natCast, strL_size, List.take_length]
theorem in_end {s : ByteArray} {i : Nat} (h : i ≤ (strL s).length) : inSl s (i : Int) (s.size : Int) = true := by rw [inSl_iff, strL_size]; omega

theorem u_loop (F : Nat) (K : Cont) : ∀ (n : Nat) (s : ByteArray) (X : Bd), (strL s).length < n → X.Ok → X.live = true → X.bytes.length + (strL s).length ≤ 900000000 →
    (∀ r, unqF n (strL s) = some r → (∀ x ∈ r, x < 256) ∧ r.length ≤ (strL s).length ∧ ∃ Y : Bd, Y.Ok ∧ Y.live = true ∧ Y.bytes = X.bytes ++ r ∧ loopRun (f52_l0.run F) [0, 4] K n (Env.mk 44 [(0, .str s), (4, .tp 0 78 2)]) ⟨[BdA.ob 0 X 0, BdA.ob 0 X 1], []⟩ = K (.exit 0) (Env.mk 44 [(4, .tp 0 78 2)]) ⟨[BdA.ob 0 Y 0, BdA.ob 0 Y 1], []⟩) ∧
    (unqF n (strL s) = none → ∃ Y : Bd, loopRun (f52_l0.run F) [0, 4] K n (Env.mk 44 [(0, .str s), (4, .tp 0 78 2)]) ⟨[BdA.ob 0 X 0, BdA.ob 0 X 1], []⟩ = K .ret (Env.mk 44 [(2, AV.str (ByteArray.mk #[])), (3, AV.bool false)]) ⟨[BdA.ob 0 Y 0, BdA.ob 0 Y 1], []⟩)
  | 0, s, X, hn, _, _, _ => absurd hn (Nat.not_lt_zero _)
  | n + 1, s, X, hn, ho, hl, hb => by
    rw [u_round]
    cases hs : strL s with
    | nil =>
      have h0 : decide ((s.size : Int) > 0) = false := by rw [strL_size, hs]; rfl
      rw [h0, br_f]
      refine ⟨fun r hr => ?_, fun hr => by cases hr⟩
      cases hr
      exact ⟨by simp, by simp, X, ho, hl, by simp, rfl⟩
    | cons c l =>
      have h0 : decide ((s.size : Int) > 0) = true := by rw [strL_size, hs]; simp
      obtain ⟨a1, a2, a3⟩ := at_eq (i := 0) (x := c) hs rfl
      have i1 : inSl s 1 (s.size : Int) = true := in_end (i := 1) (by rw [hs]; simp)
      have a1 : opq (atT s 0) = (c : Int) := a1
      have a2 : inT s 0 = true := a2
      have e1 : strL (subT s 1 (s.size : Int)) = l := by
        have := sub_end s 1
        rw [hs] at this
        exact this
      rw [h0, br_t, a2, br_t, i1, br_t, a1]
      have fit1 : X.fits 1 = true := by rw [Bd.fits_iff]; rw [hs] at hb; simp at hb; exact ⟨hl, by omega⟩
      by_cases hc : c = 92
      · subst hc
        rw [show (((92 : Nat) : Int) == 92) = true from rfl, br_t]
        generalize hs1 : subT s 1 (s.size : Int) = s1 at e1
        rw [hs] at hn hb
        match l, e1, hn, hb with
        | [], e1, hn, hb =>
          rw [show decide ((s1.size : Int) < 2) = true by rw [strL_size, e1]; rfl, br_t]
          exact ⟨fun r hr => (by cases hr), fun _ => ⟨X, rfl⟩⟩
        | [a], e1, hn, hb =>
          rw [show decide ((s1.size : Int) < 2) = true by rw [strL_size, e1]; rfl, br_t]
          exact ⟨fun r hr => (by cases hr), fun _ => ⟨X, rfl⟩⟩
        | a :: b :: l', e1, hn, hb =>
          obtain ⟨b1, b2, b3⟩ := at_eq (i := 0) (x := a) e1 rfl
          obtain ⟨c1, c2, c3⟩ := at_eq (i := 1) (x := b) e1 rfl
          have b1 : opq (atT s1 0) = (a : Int) := b1
          have b2 : inT s1 0 = true := b2
          have c1 : opq (atT s1 1) = (b : Int) := c1
          have c2 : inT s1 1 = true := c2
          have d1 : digO (a : Int) = digH a := by rw [digO, opq_eq, Int.toNat_natCast]
          have d2 : digO (b : Int) = digH b := by rw [digO, opq_eq, Int.toNat_natCast]
          have k1 : cdec ((0 : Int) ≤ (a : Int) ∧ (a : Int) < 256) = true := by rw [cdec_iff]; omega
          have k2 : cdec ((0 : Int) ≤ (b : Int) ∧ (b : Int) < 256) = true := by rw [cdec_iff]; omega
          have i2 : inSl s1 2 (s1.size : Int) = true := in_end (i := 2) (by rw [e1]; simp)
          have e2 : strL (subT s1 2 (s1.size : Int)) = l' := by
            have := sub_end s1 2
            rw [e1] at this
            exact this
          rw [show decide ((s1.size : Int) < 2) = false by rw [strL_size, e1]; simp; omega, br_f, b1, c1, b2, c2, br_t, k1, k2, br_t, d1, d2, i2]
          simp only [br_t]
          rcases digH_or (a := a) with ha | ⟨u, hu, ha⟩
          · have : unqF (n + 1) (92 :: a :: b :: l') = none := by
              show (bif negI (digH a) || negI (digH b) then none else _) = none
              rw [show negI (digH a) = true by simpa [negI] using ha]; rfl
            rw [this, show decide (digH a < 0) = true by simpa using ha, br_t]
            exact ⟨fun r hr => (by cases hr), fun _ => ⟨X, rfl⟩⟩
          · rw [show decide (digH a < 0) = false by rw [ha]; simp, br_f]
            rcases digH_or (a := b) with hb' | ⟨v, hv, hb'⟩
            · have : unqF (n + 1) (92 :: a :: b :: l') = none := by
                show (bif negI (digH a) || negI (digH b) then none else _) = none
                rw [show negI (digH b) = true by simpa [negI] using hb', Bool.or_true]; rfl
              rw [this, show decide (digH b < 0) = true by simpa using hb', br_t]
              exact ⟨fun r hr => (by cases hr), fun _ => ⟨X, rfl⟩⟩
            · have hun : unqF (n + 1) (92 :: a :: b :: l') = (unqF n l').map fun r => (u * 16 + v) :: r := by
                show (bif negI (digH a) || negI (digH b) then none else (unqF n l').map fun r => (digH a * 16 + digH b).toNat :: r) = _
                rw [show negI (digH a) = false by rw [ha]; simp [negI], show negI (digH b) = false by rw [hb']; simp [negI], ha, hb']
                show ((unqF n l').map fun r => ((u : Int) * 16 + (v : Int)).toNat :: r) = _
                rw [show ((u : Int) * 16 + (v : Int)).toNat = u * 16 + v by omega]
              have w1 : opq (IntKind.u8.wrap (opq (bitsI BinOp.or IntKind.i64 (opq (IntKind.i64.wrap (digH a * 16))) (digH b)))) = ((u * 16 + v : Nat) : Int) := by
                rw [opq_eq, opq_eq, opq_eq, ha, hb', or_eq hu hv]
              have w2 : opq (IntKind.u8.wrap (opq (bitsI BinOp.or IntKind.i64 (opq (IntKind.i64.wrap (digH a * (2 : Int) ^ min (Int.toNat (4 : Int)) IntKind.i64.bits))) (digH b)))) = ((u * 16 + v : Nat) : Int) := w1
              have k3 : cdec ((0 : Int) ≤ ((u * 16 + v : Nat) : Int) ∧ ((u * 16 + v : Nat) : Int) < 256) = true := by rw [cdec_iff]; omega
              rw [hun, show decide (digH b < 0) = false by rw [hb']; simp, br_f, bd_G ho, onSome_some, w1, w2, k3, fit1, Int.toNat_natCast, show (true && (true && true)) = true from rfl, br_t]
              obtain ⟨z1, z2⟩ := Bd.put_bytes hl [u * 16 + v]
              have ih := u_loop F K n (subT s1 2 (s1.size : Int)) (X.put [u * 16 + v]) (by rw [e2]; simp at hn; omega) (ho.put (by intro x hx; simp at hx; omega)) z2 (by rw [e2, z1]; simp at hb ⊢; omega)
              rw [e2] at ih
              refine ⟨fun r hr => ?_, fun hr => ?_⟩
              · cases hu' : unqF n l' with
                | none => rw [hu'] at hr; cases hr
                | some r' =>
                  rw [hu'] at hr
                  cases hr
                  obtain ⟨y0, yl, Y, y1, y2, y3, y4⟩ := ih.1 r' hu'
                  refine ⟨fun x hx => ?_, by simp; omega, Y, y1, y2, by rw [y3, z1]; simp, y4⟩
                  rcases List.mem_cons.mp hx with rfl | hx
                  · omega
                  · exact y0 x hx
              · cases hu' : unqF n l' with
                | none => exact ih.2 hu'
                | some r' => rw [hu'] at hr; cases hr
      · rw [show ((c : Int) == 92) = false by simp; omega, br_f, bd_G ho, onSome_some, show cdec ((0 : Int) ≤ (c : Int) ∧ (c : Int) < 256) = true by rw [cdec_iff]; omega, fit1, show (true && (true && true)) = true from rfl, br_t, Int.toNat_natCast]
        have hun : unqF (n + 1) (c :: l) = (unqF n l).map fun r => c :: r := by
          show (bif Nat.beq c 92 then _ else (unqF n l).map fun r => c :: r) = _
          rw [show Nat.beq c 92 = false by rw [Bool.eq_false_iff]; intro h; exact hc (Nat.eq_of_beq_eq_true h)]; rfl
        rw [hun]
        rw [hs] at hn hb
        obtain ⟨z1, z2⟩ := Bd.put_bytes hl [c]
        have ih := u_loop F K n (subT s 1 (s.size : Int)) (X.put [c]) (by rw [e1]; simp at hn; omega) (ho.put (by intro x hx; simp at hx; omega)) z2 (by rw [e1, z1]; simp at hb ⊢; omega)
        rw [e1] at ih
        refine ⟨fun r hr => ?_, fun hr => ?_⟩
        · cases hu' : unqF n l with
          | none => rw [hu'] at hr; cases hr
          | some r' =>
            rw [hu'] at hr
            cases hr
            obtain ⟨y0, yl, Y, y1, y2, y3, y4⟩ := ih.1 r' hu'
            refine ⟨fun x hx => ?_, by simp; omega, Y, y1, y2, by rw [y3, z1]; simp, y4⟩
            rcases List.mem_cons.mp hx with rfl | hx
            · exact a3
            · exact y0 x hx
        · cases hu' : unqF n l with
          | none => exact ih.2 hu'
          | some r' => rw [hu'] at hr; cases hr

def unqL (l : List Nat) : Option (List Nat) := unqF (l.length + 1) l
def unqS (s : ByteArray) : ByteArray := match unqL (strL s) with
  | some r => strB r
  | none => ⟨#[]⟩
theorem u_can {s : ByteArray} (hs : (strL s).length ≤ 100000000) : ∃ F st', f52.run F [.str s] ⟨[], []⟩ = some (.ret (.tup [.str (unqS s), .bool (unqL (strL s)).isSome]), st') := by
  have h0 : (Bd.fresh 0).Ok := trivial
  have hob : [Ob.cells [AV.nilptr, AV.nilsl], Ob.nov 0] = [BdA.ob 0 (.fresh 0) 0, BdA.ob 0 (.fresh 0) 1] := (obl0 h0).symm
  obtain ⟨k1, k2⟩ := u_loop ((strL s).length + 1) (Cont.block 0 (Cont.then (f52_r0.run ((strL s).length + 1) (f52.leaveK Fun.done)) (f52.leaveK Fun.done))) ((strL s).length + 1) s (.fresh 0) (by omega) h0 rfl (by show 0 + _ ≤ _; omega)
  cases hu : unqF ((strL s).length + 1) (strL s) with
  | some r =>
    obtain ⟨_, hrl, Y, y1, y2, y3, y4⟩ := k1 r hu
    have y3 : Y.bytes = r := y3
    refine ⟨(strL s).length + 1, ⟨[BdA.ob 0 Y.out 0, BdA.ob 0 Y.out 1], []⟩, ?_⟩
    rw [u_run, hob]
    refine Eq.trans y4 ?_
    rw [u_out, bd_G y1, onSome_some, show Y.fits 0 = true by rw [Bd.fits_iff, y3]; exact ⟨y2, by omega⟩, br_t, y3, unqS, unqL, hu]
    rfl
  | none =>
    obtain ⟨Y, y4⟩ := k2 hu
    refine ⟨(strL s).length + 1, ⟨[BdA.ob 0 Y 0, BdA.ob 0 Y 1], []⟩, ?_⟩
    rw [u_run, hob]
    refine Eq.trans y4 ?_
    rw [u_ret, unqS, unqL, hu]
    rfl
noncomputable def p34 : POrc Tryd.prog := f34.flatIf dec1s (fun s => [.str s]) dec1s_enc (fun s => cdec ((strL s).length ≤ 100000000)) (fun s => .str (strB (qtL (strL s)))) (fun _ => ⟨trivial, trivial⟩) (fun _ => trivial) fun s hs => ⟨_, q_can (cdec_iff.mp hs)⟩
noncomputable def p52 : POrc Tryd.prog := f52.flatD dec1s (fun s => [.str s]) dec1s_enc (fun s => cdec ((strL s).length ≤ 100000000)) (fun s => .tup [.str (unqS s), .bool (unqL (strL s)).isSome]) (fun _ => ⟨trivial, trivial⟩) (fun _ => ⟨trivial, trivial, trivial⟩) fun s hs => u_can (cdec_iff.mp hs)
end Go.Proofs.YtcfedmheblbdnaaDoor.V

/- The functions' pieces, as told by gen.py. -/
set_option linter.unusedVariables false
set_option maxRecDepth 20000
namespace Go.Proofs.YtcfedmheblbdnaaDoor.V
open Go Go.V Go.RowKit

theorem fl24_0 : fieldB Tryd.prog 24 0 0 1 false = true := by kernel_rfl
theorem sz3 : (Tryd.prog.info? 3).map (·.size) = some 1 := by kernel_rfl
noncomputable abbrev d24 : TypeDesc := (Tryd.prog.underlying 24).getD .bool
theorem ud24 : Tryd.prog.underlying 24 = some d24 := by kernel_rfl
theorem sz24 : (Tryd.prog.info? 24).map (·.size) = some 3 := by kernel_rfl
theorem ze24 : (Tryd.prog.info? 24).bind (·.zero) = some (.agg #[(.int .i64 0), (.int .i64 0), (.string ⟨#[]⟩)]) := by kernel_rfl
theorem eq24 : eqFlatB Tryd.prog 24 [(0, 0), (1, 0), (2, 2)] = true := by kernel_rfl
theorem fl24_2 : fieldB Tryd.prog 24 2 2 1 false = true := by kernel_rfl
theorem sz9 : (Tryd.prog.info? 9).map (·.size) = some 1 := by kernel_rfl
theorem fl24_1 : fieldB Tryd.prog 24 1 1 1 false = true := by kernel_rfl

/-! ### 13: interlock/value.Right (24); results 2; slots: 0 v, 1 v -/
noncomputable def f13_b : Sim Tryd.prog :=
 (.seq (.live [1] (.region 0 [
 ⟨(opBoxF (some 1) 24 (.tmp 0) 0 "value.go:17" #[]).op, none⟩,
 ⟨(opAssign (some 2) (.const (Value.bool false)) 4 "value.go:17" #[]).op, none⟩
 ] (by kernel_rfl)))
 (.seq (.seq (.live [1, 4] (.region 1 [
 ⟨(opFieldAddr (some 3) 24 (.tmp 1) 0 0 1 false fl24_0 (by decide) 0 "value.go:18" #[]).op, none⟩,
 ⟨(opLoadT (.one (.int .i64)) (some 4) 3 (.tmp 3) (.int .i64) Tryd.underlying3 1 sz3 (by kernel_rfl) 3 "value.go:18" #[{ on := 0, ground := Ground.data }]).op, none⟩
 ] (by kernel_rfl)))
 (.block 0 (.seq (.live [1, 4, 5] (.region 2 [
 ⟨(opBin (some 6) .eql 3 (.tmp 4) (.const (Value.int IntKind.i64 0)) 3 4 "value.go:19" #[]).op, none⟩,
 ⟨(opAssign (some 5) (.tmp 6) 4 "value.go:19" #[{ on := 0, ground := Ground.data }]).op, none⟩
 ] (by kernel_rfl)))
 (.cond (.tmp 5)
 (.seq (.live [2] (.region 3 [
 ⟨(opLoadT (.agg [(.int .i64), (.int .i64), .str]) (some 7) 24 (.tmp 1) d24 ud24 3 sz24 (by kernel_rfl) 24 "value.go:20" #[]).op, none⟩,
 ⟨(opBuild (some 8) 24 #[(.int .i64 0), (.int .i64 0), (.string ⟨#[]⟩)] [] ze24 (by kernel_rfl) 24 "value.go:20" #[]).op, none⟩,
 ⟨(opEqS (some 9) 24 [(0, 0), (1, 0), (2, 2)] eq24 (.tmp 7) (.tmp 8) 24 4 "value.go:20" #[{ on := 0, ground := Ground.data }, { on := 1, ground := Ground.data }]).op, none⟩,
 ⟨(opAssign (some 2) (.tmp 9) 4 "value.go:20" #[{ on := 2, ground := Ground.data }, { on := 0, ground := Ground.phase }, { on := 1, ground := Ground.phase }, { on := 2, ground := Ground.phase }]).op, none⟩
 ] (by kernel_rfl)))
 (.live [2] .ret))
 (.seq (.live [1, 4, 10] (.region 4 [
 ⟨(opBin (some 11) .eql 3 (.tmp 4) (.const (Value.int IntKind.i64 1)) 3 4 "value.go:21" #[]).op, none⟩,
 ⟨(opAssign (some 10) (.tmp 11) 4 "value.go:21" #[{ on := 0, ground := Ground.data }]).op, none⟩
 ] (by kernel_rfl)))
 (.cond (.tmp 10)
 (.seq (.live [2] (.region 5 [
 ⟨(opFieldAddr (some 12) 24 (.tmp 1) 2 2 1 false fl24_2 (by decide) 0 "value.go:22" #[]).op, none⟩,
 ⟨(opLoadT (.one .str) (some 13) 9 (.tmp 12) .string Tryd.underlying9 1 sz9 (by kernel_rfl) 9 "value.go:22" #[{ on := 0, ground := Ground.data }]).op, none⟩,
 ⟨(opBinS (some 14) .eql 9 (.tmp 13) (.const (Value.string { data := #[] })) 9 4 "value.go:22" #[{ on := 1, ground := Ground.data }]).op, none⟩,
 ⟨(opAssign (some 2) (.tmp 14) 4 "value.go:22" #[{ on := 2, ground := Ground.data }, { on := 0, ground := Ground.phase }, { on := 1, ground := Ground.phase }, { on := 2, ground := Ground.phase }]).op, none⟩
 ] (by kernel_rfl)))
 (.live [2] .ret))
 (.seq (.live [1, 4, 15] (.region 6 [
 ⟨(opBin (some 16) .eql 3 (.tmp 4) (.const (Value.int IntKind.i64 2)) 3 4 "value.go:23" #[]).op, none⟩,
 ⟨(opAssign (some 15) (.tmp 16) 4 "value.go:23" #[{ on := 0, ground := Ground.data }]).op, none⟩
 ] (by kernel_rfl)))
 (.cond (.tmp 15)
 (.seq (.live [2] (.region 7 [
 ⟨(opFieldAddr (some 17) 24 (.tmp 1) 2 2 1 false fl24_2 (by decide) 0 "value.go:24" #[]).op, none⟩,
 ⟨(opLoadT (.one .str) (some 18) 9 (.tmp 17) .string Tryd.underlying9 1 sz9 (by kernel_rfl) 9 "value.go:24" #[{ on := 0, ground := Ground.data }]).op, none⟩,
 ⟨(opBinS (some 19) .eql 9 (.tmp 18) (.const (Value.string { data := #[] })) 9 4 "value.go:24" #[{ on := 1, ground := Ground.data }]).op, none⟩,
 ⟨(opMove (some 20) (.tmp 19) 4 "value.go:24" #[{ on := 2, ground := Ground.data }]).op, none⟩,
 ⟨(opFieldAddr (some 21) 24 (.tmp 1) 1 1 1 false fl24_1 (by decide) 0 "value.go:24" #[{ on := 3, ground := Ground.guard }]).op, (some (3, 20, true))⟩,
 ⟨(opLoadT (.one (.int .i64)) (some 22) 3 (.tmp 21) (.int .i64) Tryd.underlying3 1 sz3 (by kernel_rfl) 3 "value.go:24" #[{ on := 4, ground := Ground.data }, { on := 3, ground := Ground.guard }]).op, (some (3, 20, true))⟩,
 ⟨(opBin (some 23) .eql 3 (.tmp 22) (.const (Value.int IntKind.i64 0)) 3 4 "value.go:24" #[{ on := 5, ground := Ground.data }, { on := 3, ground := Ground.guard }]).op, (some (3, 20, true))⟩,
 ⟨(opMove (some 24) (.tmp 23) 4 "value.go:24" #[{ on := 6, ground := Ground.data }, { on := 3, ground := Ground.chain }, { on := 3, ground := Ground.guard }]).op, (some (3, 20, true))⟩,
 ⟨(opFieldAddr (some 25) 24 (.tmp 1) 1 1 1 false fl24_1 (by decide) 0 "value.go:24" #[{ on := 7, ground := Ground.guard }]).op, (some (7, 24, false))⟩,
 ⟨(opLoadT (.one (.int .i64)) (some 26) 3 (.tmp 25) (.int .i64) Tryd.underlying3 1 sz3 (by kernel_rfl) 3 "value.go:24" #[{ on := 8, ground := Ground.data }, { on := 7, ground := Ground.guard }]).op, (some (7, 24, false))⟩,
 ⟨(opBin (some 27) .eql 3 (.tmp 26) (.const (Value.int IntKind.i64 1)) 3 4 "value.go:24" #[{ on := 9, ground := Ground.data }, { on := 7, ground := Ground.guard }]).op, (some (7, 24, false))⟩,
 ⟨(opPick (some 28) (.tmp 24) (.const (Value.bool true)) (.tmp 27) 4 "value.go:24" #[{ on := 7, ground := Ground.data }, { on := 10, ground := Ground.data }, { on := 3, ground := Ground.guard }]).op, (some (3, 20, true))⟩,
 ⟨(opPick (some 29) (.tmp 20) (.tmp 28) (.const (Value.bool false)) 4 "value.go:24" #[{ on := 3, ground := Ground.data }, { on := 11, ground := Ground.data }]).op, none⟩,
 ⟨(opAssign (some 2) (.tmp 29) 4 "value.go:24" #[{ on := 12, ground := Ground.data }, { on := 7, ground := Ground.chain }, { on := 0, ground := Ground.phase }, { on := 1, ground := Ground.phase }, { on := 2, ground := Ground.phase }, { on := 3, ground := Ground.phase }, { on := 4, ground := Ground.phase }, { on := 5, ground := Ground.phase }, { on := 6, ground := Ground.phase }, { on := 7, ground := Ground.phase }, { on := 8, ground := Ground.phase }, { on := 9, ground := Ground.phase }, { on := 10, ground := Ground.phase }, { on := 11, ground := Ground.phase }, { on := 12, ground := Ground.phase }]).op, none⟩
 ] (by kernel_rfl)))
 (.live [2] .ret))
 (.seq (.live [1, 30] (.region 8 [
 ⟨(opBin (some 31) .eql 3 (.tmp 4) (.const (Value.int IntKind.i64 3)) 3 4 "value.go:25" #[]).op, none⟩,
 ⟨(opAssign (some 30) (.tmp 31) 4 "value.go:25" #[{ on := 0, ground := Ground.data }]).op, none⟩
 ] (by kernel_rfl)))
 (.cond (.tmp 30)
 (.seq (.live [2] (.region 9 [
 ⟨(opFieldAddr (some 32) 24 (.tmp 1) 1 1 1 false fl24_1 (by decide) 0 "value.go:26" #[]).op, none⟩,
 ⟨(opLoadT (.one (.int .i64)) (some 33) 3 (.tmp 32) (.int .i64) Tryd.underlying3 1 sz3 (by kernel_rfl) 3 "value.go:26" #[{ on := 0, ground := Ground.data }]).op, none⟩,
 ⟨(opBin (some 34) .eql 3 (.tmp 33) (.const (Value.int IntKind.i64 0)) 3 4 "value.go:26" #[{ on := 1, ground := Ground.data }]).op, none⟩,
 ⟨(opMove (some 35) (.tmp 34) 4 "value.go:26" #[{ on := 2, ground := Ground.data }]).op, none⟩,
 ⟨(opFieldAddr (some 36) 24 (.tmp 1) 2 2 1 false fl24_2 (by decide) 0 "value.go:26" #[{ on := 3, ground := Ground.guard }]).op, (some (3, 35, true))⟩,
 ⟨(opLoadT (.one .str) (some 37) 9 (.tmp 36) .string Tryd.underlying9 1 sz9 (by kernel_rfl) 9 "value.go:26" #[{ on := 4, ground := Ground.data }, { on := 3, ground := Ground.guard }]).op, (some (3, 35, true))⟩,
 ⟨(opLen (some 38) (.tmp 37) 9 .string Tryd.underlying9 3 "value.go:26" #[{ on := 5, ground := Ground.data }, { on := 3, ground := Ground.guard }]).op, (some (3, 35, true))⟩,
 ⟨(opBin (some 39) .leq 3 (.tmp 38) (.const (Value.int IntKind.i64 16)) 3 4 "value.go:26" #[{ on := 6, ground := Ground.data }, { on := 3, ground := Ground.guard }]).op, (some (3, 35, true))⟩,
 ⟨(opPick (some 40) (.tmp 35) (.tmp 39) (.const (Value.bool false)) 4 "value.go:26" #[{ on := 3, ground := Ground.data }, { on := 7, ground := Ground.data }]).op, none⟩,
 ⟨(opAssign (some 2) (.tmp 40) 4 "value.go:26" #[{ on := 8, ground := Ground.data }, { on := 3, ground := Ground.chain }, { on := 0, ground := Ground.phase }, { on := 1, ground := Ground.phase }, { on := 2, ground := Ground.phase }, { on := 3, ground := Ground.phase }, { on := 4, ground := Ground.phase }, { on := 5, ground := Ground.phase }, { on := 6, ground := Ground.phase }, { on := 7, ground := Ground.phase }, { on := 8, ground := Ground.phase }]).op, none⟩
 ] (by kernel_rfl)))
 (.live [2] .ret))
 .skip))))))))))
 (.seq (.live [2] (.region 10 [
 ⟨(opAssign (some 2) (.const (Value.bool false)) 4 "value.go:28" #[]).op, none⟩
 ] (by kernel_rfl)))
 (.live [2] .ret))))

noncomputable def f13 : Fun Tryd.prog where
 id := 13
 fn := Tryd.f13
 hf := Tryd.func13
 hname := by kernel_rfl
 body := f13_b
 hbody := by kernel_rfl
 res := [rTmp 2]
 hres := by kernel_rfl
 n := 41
 hn := by kernel_rfl

/-! ### 59: cmp.isNaN[int] (3); results 2; slots: 0 x, 1 x -/
noncomputable def f59_b : Sim Tryd.prog :=
 (.seq (.live [0] (.region 0 [
 ⟨(opAssign (some 2) (.const (Value.bool false)) 4 "cmp.go:63" #[]).op, none⟩
 ] (by kernel_rfl)))
 (.seq (.live [2] (.region 1 [
 ⟨(opMove (some 3) (.tmp 0) 3 "cmp.go:64" #[]).op, none⟩,
 ⟨(opMove (some 4) (.tmp 0) 3 "cmp.go:64" #[]).op, none⟩,
 ⟨(opBin (some 5) .neq 3 (.tmp 3) (.tmp 4) 3 4 "cmp.go:64" #[{ on := 0, ground := Ground.data }, { on := 1, ground := Ground.data }]).op, none⟩,
 ⟨(opAssign (some 2) (.tmp 5) 4 "cmp.go:64" #[{ on := 2, ground := Ground.data }, { on := 0, ground := Ground.phase }, { on := 1, ground := Ground.phase }, { on := 2, ground := Ground.phase }]).op, none⟩
 ] (by kernel_rfl)))
 (.live [2] .ret)))

noncomputable def f59 : Fun Tryd.prog where
 id := 59
 fn := Tryd.f59
 hf := Tryd.func59
 hname := by kernel_rfl
 body := f59_b
 hbody := by kernel_rfl
 res := [rTmp 2]
 hres := by kernel_rfl
 n := 6
 hn := by kernel_rfl

/-! ### 60: cmp.isNaN[string] (9); results 2; slots: 0 x, 1 x -/
noncomputable def f60_b : Sim Tryd.prog :=
 (.seq (.live [0] (.region 0 [
 ⟨(opAssign (some 2) (.const (Value.bool false)) 4 "cmp.go:63" #[]).op, none⟩
 ] (by kernel_rfl)))
 (.seq (.live [2] (.region 1 [
 ⟨(opMove (some 3) (.tmp 0) 9 "cmp.go:64" #[]).op, none⟩,
 ⟨(opMove (some 4) (.tmp 0) 9 "cmp.go:64" #[]).op, none⟩,
 ⟨(opBinS (some 5) .neq 9 (.tmp 3) (.tmp 4) 9 4 "cmp.go:64" #[{ on := 0, ground := Ground.data }, { on := 1, ground := Ground.data }]).op, none⟩,
 ⟨(opAssign (some 2) (.tmp 5) 4 "cmp.go:64" #[{ on := 2, ground := Ground.data }, { on := 0, ground := Ground.phase }, { on := 1, ground := Ground.phase }, { on := 2, ground := Ground.phase }]).op, none⟩
 ] (by kernel_rfl)))
 (.live [2] .ret)))

noncomputable def f60 : Fun Tryd.prog where
 id := 60
 fn := Tryd.f60
 hf := Tryd.func60
 hname := by kernel_rfl
 body := f60_b
 hbody := by kernel_rfl
 res := [rTmp 2]
 hres := by kernel_rfl
 n := 6
 hn := by kernel_rfl

/-! ### 37: cmp.Compare[int] (3, 3); results 4; slots: 0 x, 1 y, 2 x, 3 y, 5 xNaN, 6 yNaN -/
noncomputable def f37_b : Sim Tryd.prog :=
 (.seq (.live [0, 1] (.region 0 [
 ⟨(opAssign (some 4) (.const (Value.int IntKind.i64 0)) 3 "cmp.go:40" #[]).op, none⟩
 ] (by kernel_rfl)))
 (.seq (.live [0, 1, 5] (.region 1 [
 ⟨(opMove (some 7) (.tmp 0) 3 "cmp.go:41" #[]).op, none⟩,
 ⟨opCall (f59.orc 0) (some 8) [(.tmp 7)] #[3] 4 "cmp.go:41" #[{ on := 0, ground := Ground.data }], none⟩,
 ⟨(opAssign (some 5) (.tmp 8) 4 "cmp.go:41" #[{ on := 1, ground := Ground.data }, { on := 1, ground := Ground.chain }, { on := 0, ground := Ground.phase }, { on := 1, ground := Ground.phase }]).op, none⟩
 ] (by kernel_rfl)))
 (.seq (.live [0, 1, 5, 6] (.region 2 [
 ⟨(opMove (some 9) (.tmp 1) 3 "cmp.go:42" #[]).op, none⟩,
 ⟨opCall (f59.orc 0) (some 10) [(.tmp 9)] #[3] 4 "cmp.go:42" #[{ on := 0, ground := Ground.data }], none⟩,
 ⟨(opAssign (some 6) (.tmp 10) 4 "cmp.go:42" #[{ on := 1, ground := Ground.data }, { on := 1, ground := Ground.chain }, { on := 0, ground := Ground.phase }, { on := 1, ground := Ground.phase }]).op, none⟩
 ] (by kernel_rfl)))
 (.seq (.seq (.live [0, 1, 6, 11] (.region 3 [
 ⟨(opMove (some 11) (.tmp 5) 4 "cmp.go:43" #[]).op, none⟩
 ] (by kernel_rfl)))
 (.cond (.tmp 11)
 (.seq (.seq (.live [12] (.region 4 [
 ⟨(opMove (some 12) (.tmp 6) 4 "cmp.go:44" #[]).op, none⟩
 ] (by kernel_rfl)))
 (.cond (.tmp 12)
 (.seq (.live [4] (.region 5 [
 ⟨(opAssign (some 4) (.const (Value.int IntKind.i64 0)) 3 "cmp.go:45" #[]).op, none⟩
 ] (by kernel_rfl)))
 (.live [4] .ret))
 .skip))
 (.seq (.live [4] (.region 6 [
 ⟨(opAssign (some 4) (.const (Value.int IntKind.i64 (-1))) 3 "cmp.go:47" #[]).op, none⟩
 ] (by kernel_rfl)))
 (.live [4] .ret)))
 .skip))
 (.seq (.seq (.live [0, 1, 13] (.region 7 [
 ⟨(opMove (some 13) (.tmp 6) 4 "cmp.go:49" #[]).op, none⟩
 ] (by kernel_rfl)))
 (.cond (.tmp 13)
 (.seq (.live [4] (.region 8 [
 ⟨(opAssign (some 4) (.const (Value.int IntKind.i64 1)) 3 "cmp.go:50" #[]).op, none⟩
 ] (by kernel_rfl)))
 (.live [4] .ret))
 .skip))
 (.seq (.seq (.live [0, 1, 16] (.region 9 [
 ⟨(opMove (some 14) (.tmp 0) 3 "cmp.go:52" #[]).op, none⟩,
 ⟨(opMove (some 15) (.tmp 1) 3 "cmp.go:52" #[]).op, none⟩,
 ⟨(opBin (some 16) .lss 3 (.tmp 14) (.tmp 15) 3 4 "cmp.go:52" #[{ on := 0, ground := Ground.data }, { on := 1, ground := Ground.data }]).op, none⟩
 ] (by kernel_rfl)))
 (.cond (.tmp 16)
 (.seq (.live [4] (.region 10 [
 ⟨(opAssign (some 4) (.const (Value.int IntKind.i64 (-1))) 3 "cmp.go:53" #[]).op, none⟩
 ] (by kernel_rfl)))
 (.live [4] .ret))
 .skip))
 (.seq (.seq (.live [19] (.region 11 [
 ⟨(opMove (some 17) (.tmp 0) 3 "cmp.go:55" #[]).op, none⟩,
 ⟨(opMove (some 18) (.tmp 1) 3 "cmp.go:55" #[]).op, none⟩,
 ⟨(opBin (some 19) .gtr 3 (.tmp 17) (.tmp 18) 3 4 "cmp.go:55" #[{ on := 0, ground := Ground.data }, { on := 1, ground := Ground.data }]).op, none⟩
 ] (by kernel_rfl)))
 (.cond (.tmp 19)
 (.seq (.live [4] (.region 12 [
 ⟨(opAssign (some 4) (.const (Value.int IntKind.i64 1)) 3 "cmp.go:56" #[]).op, none⟩
 ] (by kernel_rfl)))
 (.live [4] .ret))
 .skip))
 (.seq (.live [4] (.region 13 [
 ⟨(opAssign (some 4) (.const (Value.int IntKind.i64 0)) 3 "cmp.go:58" #[]).op, none⟩
 ] (by kernel_rfl)))
 (.live [4] .ret)))))))))

noncomputable def f37 : Fun Tryd.prog where
 id := 37
 fn := Tryd.f37
 hf := Tryd.func37
 hname := by kernel_rfl
 body := f37_b
 hbody := by kernel_rfl
 res := [rTmp 4]
 hres := by kernel_rfl
 n := 20
 hn := by kernel_rfl

/-! ### 38: cmp.Compare[string] (9, 9); results 4; slots: 0 x, 1 y, 2 x, 3 y, 5 xNaN, 6 yNaN -/
noncomputable def f38_b : Sim Tryd.prog :=
 (.seq (.live [0, 1] (.region 0 [
 ⟨(opAssign (some 4) (.const (Value.int IntKind.i64 0)) 3 "cmp.go:40" #[]).op, none⟩
 ] (by kernel_rfl)))
 (.seq (.live [0, 1, 5] (.region 1 [
 ⟨(opMove (some 7) (.tmp 0) 9 "cmp.go:41" #[]).op, none⟩,
 ⟨opCall (f60.orc 0) (some 8) [(.tmp 7)] #[9] 4 "cmp.go:41" #[{ on := 0, ground := Ground.data }], none⟩,
 ⟨(opAssign (some 5) (.tmp 8) 4 "cmp.go:41" #[{ on := 1, ground := Ground.data }, { on := 1, ground := Ground.chain }, { on := 0, ground := Ground.phase }, { on := 1, ground := Ground.phase }]).op, none⟩
 ] (by kernel_rfl)))
 (.seq (.live [0, 1, 5, 6] (.region 2 [
 ⟨(opMove (some 9) (.tmp 1) 9 "cmp.go:42" #[]).op, none⟩,
 ⟨opCall (f60.orc 0) (some 10) [(.tmp 9)] #[9] 4 "cmp.go:42" #[{ on := 0, ground := Ground.data }], none⟩,
 ⟨(opAssign (some 6) (.tmp 10) 4 "cmp.go:42" #[{ on := 1, ground := Ground.data }, { on := 1, ground := Ground.chain }, { on := 0, ground := Ground.phase }, { on := 1, ground := Ground.phase }]).op, none⟩
 ] (by kernel_rfl)))
 (.seq (.seq (.live [0, 1, 6, 11] (.region 3 [
 ⟨(opMove (some 11) (.tmp 5) 4 "cmp.go:43" #[]).op, none⟩
 ] (by kernel_rfl)))
 (.cond (.tmp 11)
 (.seq (.seq (.live [12] (.region 4 [
 ⟨(opMove (some 12) (.tmp 6) 4 "cmp.go:44" #[]).op, none⟩
 ] (by kernel_rfl)))
 (.cond (.tmp 12)
 (.seq (.live [4] (.region 5 [
 ⟨(opAssign (some 4) (.const (Value.int IntKind.i64 0)) 3 "cmp.go:45" #[]).op, none⟩
 ] (by kernel_rfl)))
 (.live [4] .ret))
 .skip))
 (.seq (.live [4] (.region 6 [
 ⟨(opAssign (some 4) (.const (Value.int IntKind.i64 (-1))) 3 "cmp.go:47" #[]).op, none⟩
 ] (by kernel_rfl)))
 (.live [4] .ret)))
 .skip))
 (.seq (.seq (.live [0, 1, 13] (.region 7 [
 ⟨(opMove (some 13) (.tmp 6) 4 "cmp.go:49" #[]).op, none⟩
 ] (by kernel_rfl)))
 (.cond (.tmp 13)
 (.seq (.live [4] (.region 8 [
 ⟨(opAssign (some 4) (.const (Value.int IntKind.i64 1)) 3 "cmp.go:50" #[]).op, none⟩
 ] (by kernel_rfl)))
 (.live [4] .ret))
 .skip))
 (.seq (.seq (.live [0, 1, 16] (.region 9 [
 ⟨(opMove (some 14) (.tmp 0) 9 "cmp.go:52" #[]).op, none⟩,
 ⟨(opMove (some 15) (.tmp 1) 9 "cmp.go:52" #[]).op, none⟩,
 ⟨(opBinS (some 16) .lss 9 (.tmp 14) (.tmp 15) 9 4 "cmp.go:52" #[{ on := 0, ground := Ground.data }, { on := 1, ground := Ground.data }]).op, none⟩
 ] (by kernel_rfl)))
 (.cond (.tmp 16)
 (.seq (.live [4] (.region 10 [
 ⟨(opAssign (some 4) (.const (Value.int IntKind.i64 (-1))) 3 "cmp.go:53" #[]).op, none⟩
 ] (by kernel_rfl)))
 (.live [4] .ret))
 .skip))
 (.seq (.seq (.live [19] (.region 11 [
 ⟨(opMove (some 17) (.tmp 0) 9 "cmp.go:55" #[]).op, none⟩,
 ⟨(opMove (some 18) (.tmp 1) 9 "cmp.go:55" #[]).op, none⟩,
 ⟨(opBinS (some 19) .gtr 9 (.tmp 17) (.tmp 18) 9 4 "cmp.go:55" #[{ on := 0, ground := Ground.data }, { on := 1, ground := Ground.data }]).op, none⟩
 ] (by kernel_rfl)))
 (.cond (.tmp 19)
 (.seq (.live [4] (.region 12 [
 ⟨(opAssign (some 4) (.const (Value.int IntKind.i64 1)) 3 "cmp.go:56" #[]).op, none⟩
 ] (by kernel_rfl)))
 (.live [4] .ret))
 .skip))
 (.seq (.live [4] (.region 13 [
 ⟨(opAssign (some 4) (.const (Value.int IntKind.i64 0)) 3 "cmp.go:58" #[]).op, none⟩
 ] (by kernel_rfl)))
 (.live [4] .ret)))))))))

noncomputable def f38 : Fun Tryd.prog where
 id := 38
 fn := Tryd.f38
 hf := Tryd.func38
 hname := by kernel_rfl
 body := f38_b
 hbody := by kernel_rfl
 res := [rTmp 4]
 hres := by kernel_rfl
 n := 20
 hn := by kernel_rfl

/-! ### 36: cmp.Or[int] (82); results 2; slots: 0 vals, 1 vals, 3 zero, 4 _, 5 val -/
/-- A loop's round; at its head live: 3 zero, 6 , 7 , 8  -/
noncomputable def f36_l0 : Sim Tryd.prog :=
 (.seq (.live [3, 6, 7, 8, 9] (.region 3 [
 ⟨(opBin (some 9) .lss 3 (.tmp 8) (.tmp 7) 3 0 "cmp.go:71" #[]).op, none⟩
 ] (by kernel_rfl)))
 (.seq (.cond (.tmp 9)
 .skip
 (.live [3] (.exit 0)))
 (.seq (.block 1 (.seq (.live [3, 5, 6, 7, 8] (.region 4 [
 ⟨(opIndexAddrT (some 10) 82 (.tmp 6) (.tmp 8) 3 1 Tryd.underlying82 sz3 0 "cmp.go:71" #[]).op, none⟩,
 ⟨(opLoadT (.one (.int .i64)) (some 11) 3 (.tmp 10) (.int .i64) Tryd.underlying3 1 sz3 (by kernel_rfl) 3 "cmp.go:71" #[{ on := 0, ground := Ground.data }]).op, none⟩,
 ⟨(opAssign (some 5) (.tmp 11) 3 "cmp.go:71" #[{ on := 1, ground := Ground.data }, { on := 0, ground := Ground.phase }, { on := 1, ground := Ground.phase }]).op, none⟩
 ] (by kernel_rfl)))
 (.seq (.live [3, 5, 6, 7, 8, 14] (.region 5 [
 ⟨(opMove (some 12) (.tmp 5) 3 "cmp.go:72" #[]).op, none⟩,
 ⟨(opMove (some 13) (.tmp 3) 3 "cmp.go:72" #[]).op, none⟩,
 ⟨(opBin (some 14) .neq 3 (.tmp 12) (.tmp 13) 3 4 "cmp.go:72" #[{ on := 0, ground := Ground.data }, { on := 1, ground := Ground.data }]).op, none⟩
 ] (by kernel_rfl)))
 (.cond (.tmp 14)
 (.seq (.live [2] (.region 6 [
 ⟨(opMove (some 15) (.tmp 5) 3 "cmp.go:73" #[]).op, none⟩,
 ⟨(opAssign (some 2) (.tmp 15) 3 "cmp.go:73" #[{ on := 0, ground := Ground.data }, { on := 0, ground := Ground.phase }]).op, none⟩
 ] (by kernel_rfl)))
 (.live [2] .ret))
 .skip))))
 (.live [3, 6, 7, 8] (.region 7 [
 ⟨(opBin (some 16) .add 3 (.tmp 8) (.const (Value.int IntKind.i64 1)) 3 3 "cmp.go:71" #[]).op, none⟩,
 ⟨(opMove (some 8) (.tmp 16) 3 "cmp.go:71" #[{ on := 0, ground := Ground.data }]).op, none⟩
 ] (by kernel_rfl))))))

/-- What follows a loop. -/
noncomputable def f36_r0 : Sim Tryd.prog :=
 (.seq (.live [2] (.region 8 [
 ⟨(opMove (some 17) (.tmp 3) 3 "cmp.go:76" #[]).op, none⟩,
 ⟨(opAssign (some 2) (.tmp 17) 3 "cmp.go:76" #[{ on := 0, ground := Ground.data }, { on := 0, ground := Ground.phase }]).op, none⟩
 ] (by kernel_rfl)))
 (.live [2] .ret))

noncomputable def f36_b : Sim Tryd.prog :=
 (.seq (.live [0] (.region 0 [
 ⟨(opAssign (some 2) (.const (Value.int IntKind.i64 0)) 3 "cmp.go:69" #[]).op, none⟩
 ] (by kernel_rfl)))
 (.seq (.live [0, 3] (.region 1 [
 ⟨(opAssign (some 3) (.const (Value.int IntKind.i64 0)) 3 "cmp.go:70" #[]).op, none⟩
 ] (by kernel_rfl)))
 (.seq (.seq (.live [3, 6, 7, 8] (.region 2 [
 ⟨(opMove (some 6) (.tmp 0) 82 "cmp.go:71" #[]).op, none⟩,
 ⟨(opLen (some 7) (.tmp 6) 82 (.slice 3) Tryd.underlying82 3 "cmp.go:71" #[{ on := 0, ground := Ground.data }]).op, none⟩,
 ⟨(opMove (some 8) (.const (Value.int IntKind.i64 0)) 3 "cmp.go:71" #[]).op, none⟩
 ] (by kernel_rfl)))
 (.block 0 (.loop [3, 6, 7, 8] f36_l0)))
 f36_r0)))

noncomputable def f36 : Fun Tryd.prog where
 id := 36
 fn := Tryd.f36
 hf := Tryd.func36
 hname := by kernel_rfl
 body := f36_b
 hbody := by kernel_rfl
 res := [rTmp 2]
 hres := by kernel_rfl
 n := 18
 hn := by kernel_rfl

/-! ### 61: interlock/bits.fold (3); results 2; slots: 0 n, 1 n -/
noncomputable def f61_b : Sim Tryd.prog :=
 (.seq (.live [0] (.region 0 [
 ⟨(opAssign (some 2) (.const (Value.int IntKind.u64 0)) 84 "bits.go:13" #[]).op, none⟩
 ] (by kernel_rfl)))
 (.seq (.live [2] (.region 1 [
 ⟨(opMove (some 3) (.tmp 0) 3 "bits.go:13" #[]).op, none⟩,
 ⟨(opConvInt (some 4) 3 84 (.tmp 3) (.int .i64) Tryd.underlying3 .u64 Tryd.underlying84 84 "bits.go:13" #[{ on := 0, ground := Ground.data }]).op, none⟩,
 ⟨(opBin (some 5) .shl 84 (.tmp 4) (.const (Value.int IntKind.u64 1)) 80 84 "bits.go:13" #[{ on := 1, ground := Ground.data }]).op, none⟩,
 ⟨(opMove (some 6) (.tmp 0) 3 "bits.go:13" #[]).op, none⟩,
 ⟨(opBin (some 7) .shr 3 (.tmp 6) (.const (Value.int IntKind.u64 63)) 80 3 "bits.go:13" #[{ on := 3, ground := Ground.data }]).op, none⟩,
 ⟨(opConvInt (some 8) 3 84 (.tmp 7) (.int .i64) Tryd.underlying3 .u64 Tryd.underlying84 84 "bits.go:13" #[{ on := 4, ground := Ground.data }]).op, none⟩,
 ⟨(opBin (some 9) .xor 84 (.tmp 5) (.tmp 8) 84 84 "bits.go:13" #[{ on := 2, ground := Ground.data }, { on := 5, ground := Ground.data }]).op, none⟩,
 ⟨(opAssign (some 2) (.tmp 9) 84 "bits.go:13" #[{ on := 6, ground := Ground.data }, { on := 0, ground := Ground.phase }, { on := 1, ground := Ground.phase }, { on := 2, ground := Ground.phase }, { on := 3, ground := Ground.phase }, { on := 4, ground := Ground.phase }, { on := 5, ground := Ground.phase }, { on := 6, ground := Ground.phase }]).op, none⟩
 ] (by kernel_rfl)))
 (.live [2] .ret)))

noncomputable def f61 : Fun Tryd.prog where
 id := 61
 fn := Tryd.f61
 hf := Tryd.func61
 hname := by kernel_rfl
 body := f61_b
 hbody := by kernel_rfl
 res := [rTmp 2]
 hres := by kernel_rfl
 n := 10
 hn := by kernel_rfl

end Go.Proofs.YtcfedmheblbdnaaDoor.V

/- What the functions' runs come to; the right sides were printed by a tool, Lean checks them. -/
set_option linter.unusedVariables false
set_option maxRecDepth 100000
namespace Go.Proofs.YtcfedmheblbdnaaDoor.V
open Go Go.V Go.RowKit

theorem right_run (F : Nat) (k n : Int) (s : ByteArray) (st : St) :
 (f13.run F [.agg [.int .i64 k, .int .i64 n, .str s]] st : Ans) =
 branch (AV.bool (k == (0 : Int)))
 (some (Fin.ret (AV.bool (k == (0 : Int) && (n == (0 : Int) && (s.toList == [] && true)))), st))
 (branch (AV.bool (k == (1 : Int))) (some (Fin.ret (AV.bool (s.toList == [])), st))
 (branch (AV.bool (k == (2 : Int)))
 (branch (AV.bool (s.toList == []))
 (branch (AV.bool (n == (0 : Int))) (some (Fin.ret (AV.bool true), st))
 (some (Fin.ret (AV.bool (n == (1 : Int))), st)))
 (some (Fin.ret (AV.bool false), st)))
 (branch (AV.bool (k == (3 : Int)))
 (branch (AV.bool (n == (0 : Int))) (some (Fin.ret (AV.bool (decide ((↑s.size : Int) ≤ (16 : Int)))), st))
 (some (Fin.ret (AV.bool false), st)))
 (some (Fin.ret (AV.bool false), st))))) := by kernel_rfl

theorem cmpi_run (F : Nat) (a b : Int) (st : St) :
 (f37.run F [.int .i64 a, .int .i64 b] st : Ans) =
 branch (AV.bool (a != a))
 (branch (AV.bool (b != b)) (some (Fin.ret (AV.int IntKind.i64 (0 : Int)), st))
 (some (Fin.ret (AV.int IntKind.i64 (-1 : Int)), st)))
 (branch (AV.bool (b != b)) (some (Fin.ret (AV.int IntKind.i64 (1 : Int)), st))
 (branch (AV.bool (decide (a < b))) (some (Fin.ret (AV.int IntKind.i64 (-1 : Int)), st))
 (branch (AV.bool (decide (a > b))) (some (Fin.ret (AV.int IntKind.i64 (1 : Int)), st))
 (some (Fin.ret (AV.int IntKind.i64 (0 : Int)), st))))) := by kernel_rfl

theorem cmps_run (F : Nat) (a b : ByteArray) (st : St) :
 (f38.run F [.str a, .str b] st : Ans) =
 branch (AV.bool !a.toList == a.toList)
 (branch (AV.bool !b.toList == b.toList) (some (Fin.ret (AV.int IntKind.i64 (0 : Int)), st))
 (some (Fin.ret (AV.int IntKind.i64 (-1 : Int)), st)))
 (branch (AV.bool !b.toList == b.toList) (some (Fin.ret (AV.int IntKind.i64 (1 : Int)), st))
 (branch (AV.bool (Op.bytesLess a.toList b.toList)) (some (Fin.ret (AV.int IntKind.i64 (-1 : Int)), st))
 (branch (AV.bool !(Op.bytesLess a.toList b.toList || a.toList == b.toList))
 (some (Fin.ret (AV.int IntKind.i64 (1 : Int)), st)) (some (Fin.ret (AV.int IntKind.i64 (0 : Int)), st))))) := by kernel_rfl

theorem or_run (F : Nat) (a b c : Int) (st : St) :
 (f36.run (F + 4) [.sl 1 true [[.int .i64 a], [.int .i64 b], [.int .i64 c]]] st : Ans) =
 branch (AV.bool (a != (0 : Int))) (some (Fin.ret (AV.int IntKind.i64 a), st))
 (branch (AV.bool (b != (0 : Int))) (some (Fin.ret (AV.int IntKind.i64 b), st))
 (branch (AV.bool (c != (0 : Int))) (some (Fin.ret (AV.int IntKind.i64 c), st))
 (some (Fin.ret (AV.int IntKind.i64 (0 : Int)), st)))) := by kernel_rfl

end Go.Proofs.YtcfedmheblbdnaaDoor.V

/- Values: Right, cmp's functions. -/
set_option linter.unusedVariables false
namespace Go.Proofs.YtcfedmheblbdnaaDoor.V
open Go Go.V Go.RowKit

/-- A value: its kind, number, text. -/
structure Va where
  k : Int
  n : Int
  s : ByteArray
def Va.cells (v : Va) : List AV := [.int .i64 v.k, .int .i64 v.n, .str v.s]
def Va.av (v : Va) : AV := .agg v.cells
def rightV (v : Va) : Bool := bif v.k == 0 then v.n == 0 && v.s.toList == [] else bif v.k == 1 then v.s.toList == [] else bif v.k == 2 then v.s.toList == [] && (v.n == 0 || v.n == 1) else bif v.k == 3 then v.n == 0 && decide ((v.s.size : Int) ≤ 16) else false
def decVa : AV → Option Va
  | .agg [k, n, s] => match k with
    | .int .i64 k => match n with
      | .int .i64 n => match s with
        | .str s => some ⟨k, n, s⟩
        | _ => none
      | _ => none
    | _ => none
  | _ => none
theorem decVa_some {x : AV} {v : Va} (h : decVa x = some v) : x = v.av := by
  unfold decVa at h
  split at h
  · split at h
    · split at h
      · split at h
        · cases h; rfl
        · cases h
      · cases h
    · cases h
  · cases h
def dec1v : List AV → Option Va
  | [x] => decVa x
  | _ => none
theorem dec1v_enc : ∀ l a, dec1v l = some a → l = [Va.av a] := by
  intro l a h
  unfold dec1v at h
  split at h
  · rw [decVa_some h]
  · cases h
def dec2v : List AV → Option (Va × Va)
  | [x, y] => match decVa x with
    | some a => match decVa y with
      | some b => some (a, b)
      | none => none
    | none => none
  | _ => none
theorem dec2v_enc : ∀ l a, dec2v l = some a → l = [Va.av a.1, Va.av a.2] := by
  intro l a h
  unfold dec2v at h
  split at h
  · split at h
    · rename_i h1
      split at h
      · rename_i h2
        cases h
        rw [decVa_some h1, decVa_some h2]
      · cases h
    · cases h
  · cases h
theorem right_eq {F : Nat} (v : Va) (st : St) : f13.run F [v.av] st = some (.ret (.bool (rightV v)), st) := by
  obtain ⟨k, n, s⟩ := v
  show f13.run F [.agg [.int .i64 k, .int .i64 n, .str s]] st = _
  rw [right_run]
  simp only [rightV]
  cases h0 : k == 0
  · rw [show ∀ a b : Ans, branch (.bool false) a b = b from fun _ _ => rfl]
    cases h1 : k == 1
    · cases h2 : k == 2
      · cases h3 : k == 3
        · rfl
        · cases n == 0 <;> rfl
      · cases s.toList == []
        · rfl
        · cases h5 : n == 0
          · cases n == 1 <;> rfl
          · rfl
    · rfl
  · simp [branch]
noncomputable def p13 : POrc Tryd.prog := f13.flatIf dec1v (fun v => [v.av]) dec1v_enc (fun _ => true) (fun v => .bool (rightV v)) (fun _ => ⟨⟨trivial, trivial, trivial, trivial⟩, trivial⟩) (fun _ => trivial) fun v _ => ⟨0, _, right_eq v _⟩
theorem p13_nat : p13.Nat := flatIf_nat
def cmpI (a b : Int) : Int := bif decide (a < b) then -1 else bif decide (b < a) then 1 else 0
def cmpS (a b : ByteArray) : Int := bif Op.bytesLess a.toList b.toList then -1 else bif a.toList == b.toList then 0 else 1
def orI (a b c : Int) : Int := bif a != 0 then a else bif b != 0 then b else c
def dec2i : List AV → Option (Int × Int)
  | [x, y] => match x with
    | .int .i64 a => match y with
      | .int .i64 b => some (a, b)
      | _ => none
    | _ => none
  | _ => none
theorem dec2i_enc : ∀ l a, dec2i l = some a → l = [.int .i64 a.1, .int .i64 a.2] := by
  intro l a h
  unfold dec2i at h
  split at h
  · split at h
    · split at h
      · cases h; rfl
      · cases h
    · cases h
  · cases h
def dec2s : List AV → Option (ByteArray × ByteArray)
  | [x, y] => match x with
    | .str a => match y with
      | .str b => some (a, b)
      | _ => none
    | _ => none
  | _ => none
theorem dec2s_enc : ∀ l a, dec2s l = some a → l = [.str a.1, .str a.2] := by
  intro l a h
  unfold dec2s at h
  split at h
  · split at h
    · split at h
      · cases h; rfl
      · cases h
    · cases h
  · cases h
noncomputable def p37 : POrc Tryd.prog := f37.flatIf dec2i (fun a => [.int .i64 a.1, .int .i64 a.2]) dec2i_enc (fun _ => true) (fun a => .int .i64 (cmpI a.1 a.2)) (fun _ => ⟨trivial, trivial, trivial⟩) (fun _ => trivial) fun a _ => ⟨0, ⟨[], []⟩, by
  obtain ⟨a, b⟩ := a
  rw [cmpi_run, show (a != a) = false by simp, show (b != b) = false by simp]
  simp only [cmpI]
  show branch (.bool (decide (a < b))) _ (branch (.bool (decide (b < a))) _ _) = _
  cases decide (a < b) <;> cases decide (b < a) <;> rfl⟩
theorem p37_nat : p37.Nat := flatIf_nat
noncomputable def p38 : POrc Tryd.prog := f38.flatIf dec2s (fun a => [.str a.1, .str a.2]) dec2s_enc (fun _ => true) (fun a => .int .i64 (cmpS a.1 a.2)) (fun _ => ⟨trivial, trivial, trivial⟩) (fun _ => trivial) fun a _ => ⟨0, ⟨[], []⟩, by
  obtain ⟨a, b⟩ := a
  rw [cmps_run, show (!a.toList == a.toList) = false by simp, show (!b.toList == b.toList) = false by simp]
  simp only [cmpS]
  show branch (.bool (Op.bytesLess a.toList b.toList)) _ (branch (.bool (!(Op.bytesLess a.toList b.toList || a.toList == b.toList))) _ _) = _
  cases Op.bytesLess a.toList b.toList <;> cases a.toList == b.toList <;> rfl⟩
theorem p38_nat : p38.Nat := flatIf_nat
def dec3i : List AV → Option (Int × Int × Int)
  | [x] => match x with
    | .sl 1 true [[x], [y], [z]] => match x with
      | .int .i64 a => match y with
        | .int .i64 b => match z with
          | .int .i64 c => some (a, b, c)
          | _ => none
        | _ => none
      | _ => none
    | _ => none
  | _ => none
theorem dec3i_enc : ∀ l a, dec3i l = some a → l = [.sl 1 true [[.int .i64 a.1], [.int .i64 a.2.1], [.int .i64 a.2.2]]] := by
  intro l a h
  unfold dec3i at h
  split at h
  · split at h
    · split at h
      · split at h
        · split at h
          · cases h; rfl
          · cases h
        · cases h
      · cases h
    · cases h
  · cases h
noncomputable def p36 : POrc Tryd.prog := f36.flatIf dec3i (fun a => [.sl 1 true [[.int .i64 a.1], [.int .i64 a.2.1], [.int .i64 a.2.2]]]) dec3i_enc (fun _ => true) (fun a => .int .i64 (orI a.1 a.2.1 a.2.2))
  (fun _ => ⟨⟨⟨trivial, trivial⟩, ⟨trivial, trivial⟩, ⟨trivial, trivial⟩, trivial⟩, trivial⟩) (fun _ => trivial) fun a _ => ⟨0 + 4, ⟨[], []⟩, by
  obtain ⟨a, b, c⟩ := a
  rw [or_run]
  simp only [orI]
  cases h1 : a != 0
  · cases h2 : b != 0
    · cases h3 : c != 0
      · have : c = 0 := by simpa using h3
        subst this; rfl
      · rfl
    · rfl
  · rfl⟩
theorem p36_nat : p36.Nat := flatIf_nat
end Go.Proofs.YtcfedmheblbdnaaDoor.V

/- The functions' pieces, as told by gen.py. -/
set_option linter.unusedVariables false
set_option maxRecDepth 20000
namespace Go.Proofs.YtcfedmheblbdnaaDoor.V
open Go Go.V Go.RowKit

theorem ze3 : (Tryd.prog.info? 3).bind (·.zero) = some (.int .i64 0) := by kernel_rfl
theorem by3 : (Tryd.prog.info? 3).map (·.bytes) = some 8 := by kernel_rfl
theorem el82 : ElemOf Tryd.prog 82 3 1 8 (.int .i64 0) := ⟨Tryd.underlying82, sz3, by3, ze3, by kernel_rfl, by decide⟩
noncomputable abbrev d73 : TypeDesc := (Tryd.prog.underlying 73).getD .bool
theorem ud73 : Tryd.prog.underlying 73 = some d73 := by kernel_rfl
theorem by24 : (Tryd.prog.info? 24).map (·.bytes) = some 32 := by kernel_rfl
theorem el37 : ElemOf Tryd.prog 37 24 3 32 (.agg #[(.int .i64 0), (.int .i64 0), (.string ⟨#[]⟩)]) := ⟨Tryd.underlying37, sz24, by24, ze24, by kernel_rfl, by decide⟩

/-! ### 45: interlock/value.RightRow$1 (24); results 2; slots: 0 v, 1 v -/
noncomputable def f45_b : Sim Tryd.prog :=
 (.seq (.live [1] (.region 0 [
 ⟨(opBoxF (some 1) 24 (.tmp 0) 0 "value.go:33" #[]).op, none⟩,
 ⟨(opAssign (some 2) (.const (Value.bool false)) 4 "value.go:33" #[]).op, none⟩
 ] (by kernel_rfl)))
 (.seq (.live [2] (.region 1 [
 ⟨(opLoadT (.agg [(.int .i64), (.int .i64), .str]) (some 3) 24 (.tmp 1) d24 ud24 3 sz24 (by kernel_rfl) 24 "value.go:33" #[]).op, none⟩,
 ⟨(opCallP p13 (some 4) [(.tmp 3)] #[24] 4 "value.go:33" #[{ on := 0, ground := Ground.data }]).op, none⟩,
 ⟨(opNot (some 5) 4 (.tmp 4) 4 "value.go:33" #[{ on := 1, ground := Ground.data }]).op, none⟩,
 ⟨(opAssign (some 2) (.tmp 5) 4 "value.go:33" #[{ on := 2, ground := Ground.data }, { on := 1, ground := Ground.chain }, { on := 0, ground := Ground.phase }, { on := 1, ground := Ground.phase }, { on := 2, ground := Ground.phase }]).op, none⟩
 ] (by kernel_rfl)))
 (.live [2] .ret)))

noncomputable def f45 : Fun Tryd.prog where
 id := 45
 fn := Tryd.f45
 hf := Tryd.func45
 hname := by kernel_rfl
 body := f45_b
 hbody := by kernel_rfl
 res := [rTmp 2]
 hres := by kernel_rfl
 n := 6
 hn := by kernel_rfl

/-! ### 62: slices.IndexFunc[interlock/api.Row,interlock/api.Value] (37, 29); results 4; slots: 0 s, 1 f, 2 s, 3 f, 5 i -/
/-- A loop's round; at its head live: 0 s, 1 f, 7 , 8  -/
noncomputable def f62_l0 (Os : List (Orc Tryd.prog)) : Sim Tryd.prog :=
 (.seq (.live [0, 1, 7, 8, 9] (.region 2 [
 ⟨(opBin (some 9) .lss 3 (.tmp 8) (.tmp 7) 3 0 "slices.go:108" #[]).op, none⟩
 ] (by kernel_rfl)))
 (.seq (.cond (.tmp 9)
 .skip
 (.live [] (.exit 0)))
 (.seq (.block 1 (.seq (.live [0, 1, 5, 7, 8] (.region 3 [
 ⟨(opMove (some 10) (.tmp 8) 3 "slices.go:108" #[]).op, none⟩,
 ⟨(opAssign (some 5) (.tmp 10) 3 "slices.go:108" #[{ on := 0, ground := Ground.data }, { on := 0, ground := Ground.phase }]).op, none⟩
 ] (by kernel_rfl)))
 (.seq (.live [0, 1, 5, 7, 8, 16] (.region 4 [
 ⟨(opMove (some 11) (.tmp 1) 29 "slices.go:109" #[]).op, none⟩,
 ⟨(opMove (some 12) (.tmp 0) 37 "slices.go:109" #[]).op, none⟩,
 ⟨(opMove (some 13) (.tmp 5) 3 "slices.go:109" #[]).op, none⟩,
 ⟨(opIndexAddrT (some 14) 37 (.tmp 12) (.tmp 13) 24 3 Tryd.underlying37 sz24 0 "slices.go:109" #[{ on := 1, ground := Ground.data }, { on := 2, ground := Ground.data }]).op, none⟩,
 ⟨(opLoadT (.agg [(.int .i64), (.int .i64), .str]) (some 15) 24 (.tmp 14) d24 ud24 3 sz24 (by kernel_rfl) 24 "slices.go:109" #[{ on := 3, ground := Ground.data }]).op, none⟩,
 ⟨opCallDyn Os (some 16) 11 [(.tmp 15)] #[24] 4 "slices.go:109" #[{ on := 0, ground := Ground.data }, { on := 4, ground := Ground.data }], none⟩
 ] (by kernel_rfl)))
 (.cond (.tmp 16)
 (.seq (.live [4] (.region 5 [
 ⟨(opMove (some 17) (.tmp 5) 3 "slices.go:110" #[]).op, none⟩,
 ⟨(opAssign (some 4) (.tmp 17) 3 "slices.go:110" #[{ on := 0, ground := Ground.data }, { on := 0, ground := Ground.phase }]).op, none⟩
 ] (by kernel_rfl)))
 (.live [4] .ret))
 .skip))))
 (.live [0, 1, 7, 8] (.region 6 [
 ⟨(opBin (some 18) .add 3 (.tmp 8) (.const (Value.int IntKind.i64 1)) 3 3 "slices.go:108" #[]).op, none⟩,
 ⟨(opMove (some 8) (.tmp 18) 3 "slices.go:108" #[{ on := 0, ground := Ground.data }]).op, none⟩
 ] (by kernel_rfl))))))

/-- What follows a loop. -/
noncomputable def f62_r0 (Os : List (Orc Tryd.prog)) : Sim Tryd.prog :=
 (.seq (.live [4] (.region 7 [
 ⟨(opAssign (some 4) (.const (Value.int IntKind.i64 (-1))) 3 "slices.go:113" #[]).op, none⟩
 ] (by kernel_rfl)))
 (.live [4] .ret))

noncomputable def f62_b (Os : List (Orc Tryd.prog)) : Sim Tryd.prog :=
 (.seq (.live [0, 1] (.region 0 [
 ⟨(opAssign (some 4) (.const (Value.int IntKind.i64 0)) 3 "slices.go:107" #[]).op, none⟩
 ] (by kernel_rfl)))
 (.seq (.seq (.live [0, 1, 7, 8] (.region 1 [
 ⟨(opMove (some 6) (.tmp 0) 37 "slices.go:108" #[]).op, none⟩,
 ⟨(opLen (some 7) (.tmp 6) 37 (.slice 24) Tryd.underlying37 3 "slices.go:108" #[{ on := 0, ground := Ground.data }]).op, none⟩,
 ⟨(opMove (some 8) (.const (Value.int IntKind.i64 0)) 3 "slices.go:108" #[]).op, none⟩
 ] (by kernel_rfl)))
 (.block 0 (.loop [0, 1, 7, 8] (f62_l0 Os))))
 (f62_r0 Os)))

noncomputable def f62 (Os : List (Orc Tryd.prog)) : Fun Tryd.prog where
 id := 62
 fn := Tryd.f62
 hf := Tryd.func62
 hname := by kernel_rfl
 body := f62_b Os
 hbody := by kernel_rfl
 res := [rTmp 4]
 hres := by kernel_rfl
 n := 19
 hn := by kernel_rfl

/-! ### 44: slices.ContainsFunc[interlock/api.Row,interlock/api.Value] (37, 29); results 4; slots: 0 s, 1 f, 2 s, 3 f -/
noncomputable def f44_b : Sim Tryd.prog :=
 (.seq (.live [0, 1] (.region 0 [
 ⟨(opAssign (some 4) (.const (Value.bool false)) 4 "slices.go:124" #[]).op, none⟩
 ] (by kernel_rfl)))
 (.seq (.live [4] (.region 1 [
 ⟨(opMove (some 5) (.tmp 0) 37 "slices.go:125" #[]).op, none⟩,
 ⟨(opMove (some 6) (.tmp 1) 29 "slices.go:125" #[]).op, none⟩,
 ⟨opCall ((f62 [f45.orc 0]).orc 12) (some 7) [(.tmp 5), (.tmp 6)] #[37, 29] 3 "slices.go:125" #[{ on := 0, ground := Ground.data }, { on := 1, ground := Ground.data }], none⟩,
 ⟨(opBin (some 8) .geq 3 (.tmp 7) (.const (Value.int IntKind.i64 0)) 3 4 "slices.go:125" #[{ on := 2, ground := Ground.data }]).op, none⟩,
 ⟨(opAssign (some 4) (.tmp 8) 4 "slices.go:125" #[{ on := 3, ground := Ground.data }, { on := 2, ground := Ground.chain }, { on := 0, ground := Ground.phase }, { on := 1, ground := Ground.phase }, { on := 2, ground := Ground.phase }, { on := 3, ground := Ground.phase }]).op, none⟩
 ] (by kernel_rfl)))
 (.live [4] .ret)))

noncomputable def f44 : Fun Tryd.prog where
 id := 44
 fn := Tryd.f44
 hf := Tryd.func44
 hname := by kernel_rfl
 body := f44_b
 hbody := by kernel_rfl
 res := [rTmp 4]
 hres := by kernel_rfl
 n := 9
 hn := by kernel_rfl

/-! ### 26: interlock/value.RightRow (37); results 2; slots: 0 r, 1 r -/
noncomputable def f26_b : Sim Tryd.prog :=
 (.seq (.live [0] (.region 0 [
 ⟨(opAssign (some 2) (.const (Value.bool false)) 4 "value.go:32" #[]).op, none⟩
 ] (by kernel_rfl)))
 (.seq (.live [2] (.region 1 [
 ⟨(opMove (some 3) (.tmp 0) 37 "value.go:33" #[]).op, none⟩,
 ⟨(opLen (some 4) (.tmp 3) 37 (.slice 24) Tryd.underlying37 3 "value.go:33" #[{ on := 0, ground := Ground.data }]).op, none⟩,
 ⟨(opBin (some 5) .leq 3 (.tmp 4) (.const (Value.int IntKind.i64 8)) 3 4 "value.go:33" #[{ on := 1, ground := Ground.data }]).op, none⟩,
 ⟨(opMove (some 6) (.tmp 5) 4 "value.go:33" #[{ on := 2, ground := Ground.data }]).op, none⟩,
 ⟨(opMove (some 7) (.tmp 0) 37 "value.go:33" #[{ on := 3, ground := Ground.guard }]).op, (some (3, 6, true))⟩,
 ⟨opCall (f44.orc 0) (some 8) [(.tmp 7), (.func 45)] #[37, 29] 4 "value.go:33" #[{ on := 4, ground := Ground.data }, { on := 3, ground := Ground.chain }, { on := 3, ground := Ground.guard }], (some (3, 6, true))⟩,
 ⟨(opNot (some 9) 4 (.tmp 8) 4 "value.go:33" #[{ on := 5, ground := Ground.data }, { on := 3, ground := Ground.guard }]).op, (some (3, 6, true))⟩,
 ⟨(opPick (some 10) (.tmp 6) (.tmp 9) (.const (Value.bool false)) 4 "value.go:33" #[{ on := 3, ground := Ground.data }, { on := 6, ground := Ground.data }]).op, none⟩,
 ⟨(opAssign (some 2) (.tmp 10) 4 "value.go:33" #[{ on := 7, ground := Ground.data }, { on := 5, ground := Ground.chain }, { on := 0, ground := Ground.phase }, { on := 1, ground := Ground.phase }, { on := 2, ground := Ground.phase }, { on := 3, ground := Ground.phase }, { on := 4, ground := Ground.phase }, { on := 5, ground := Ground.phase }, { on := 6, ground := Ground.phase }, { on := 7, ground := Ground.phase }]).op, none⟩
 ] (by kernel_rfl)))
 (.live [2] .ret)))

noncomputable def f26 : Fun Tryd.prog where
 id := 26
 fn := Tryd.f26
 hf := Tryd.func26
 hname := by kernel_rfl
 body := f26_b
 hbody := by kernel_rfl
 res := [rTmp 2]
 hres := by kernel_rfl
 n := 11
 hn := by kernel_rfl

/-! ### 42: interlock/bits.Int (3); results 2; slots: 0 n, 1 n, 3 out, 4 u -/
/-- A loop's round; at its head live: 3 out, 4 u -/
noncomputable def f42_l0 : Sim Tryd.prog :=
 (.seq (.seq (.live [3, 4, 8] (.region 3 [
 ⟨(opMove (some 7) (.tmp 4) 84 "bits.go:22" #[]).op, none⟩,
 ⟨(opBin (some 8) .geq 84 (.tmp 7) (.const (Value.int IntKind.u64 128)) 84 4 "bits.go:22" #[{ on := 0, ground := Ground.data }]).op, none⟩
 ] (by kernel_rfl)))
 (.cond (.tmp 8)
 .skip
 (.live [3, 4] (.exit 0))))
 (.seq (.block 1 (.live [3, 4] (.region 5 [
 ⟨(opMove (some 11) (.tmp 3) 46 "bits.go:23" #[]).op, none⟩,
 ⟨(opMove (some 12) (.tmp 4) 84 "bits.go:23" #[]).op, none⟩,
 ⟨(opConvInt (some 13) 84 5 (.tmp 12) (.int .u64) Tryd.underlying84 .u8 Tryd.underlying5 5 "bits.go:23" #[{ on := 1, ground := Ground.data }]).op, none⟩,
 ⟨(opBin (some 14) .or 5 (.tmp 13) (.const (Value.int IntKind.u8 128)) 5 5 "bits.go:23" #[{ on := 2, ground := Ground.data }]).op, none⟩,
 ⟨(opBuildSlice (some 15) 46 1 [(0, (.tmp 14))] 5 1 1 (.int .u8 0) el46 (by kernel_rfl) (by decide) 46 "bits.go:23" #[{ on := 3, ground := Ground.data }]).op, none⟩,
 ⟨(opAppend (some 16) (.tmp 11) (.tmp 15) 46 46 5 1 1 (.int .u8 0) el46 (.slice 5) Tryd.underlying46 rfl 46 "bits.go:23" #[{ on := 0, ground := Ground.data }, { on := 4, ground := Ground.data }]).op, none⟩,
 ⟨(opAssign (some 3) (.tmp 16) 46 "bits.go:23" #[{ on := 5, ground := Ground.data }, { on := 5, ground := Ground.chain }, { on := 0, ground := Ground.phase }, { on := 1, ground := Ground.phase }, { on := 2, ground := Ground.phase }, { on := 3, ground := Ground.phase }, { on := 4, ground := Ground.phase }, { on := 5, ground := Ground.phase }]).op, none⟩
 ] (by kernel_rfl))))
 (.live [3, 4] (.region 4 [
 ⟨(opMove (some 9) (.tmp 4) 84 "bits.go:22" #[]).op, none⟩,
 ⟨(opBin (some 10) .shr 84 (.tmp 9) (.const (Value.int IntKind.u64 7)) 80 84 "bits.go:22" #[{ on := 0, ground := Ground.data }]).op, none⟩,
 ⟨(opAssign (some 4) (.tmp 10) 84 "bits.go:22" #[{ on := 1, ground := Ground.data }, { on := 0, ground := Ground.phase }, { on := 1, ground := Ground.phase }]).op, none⟩
 ] (by kernel_rfl)))))

/-- What follows a loop. -/
noncomputable def f42_r0 : Sim Tryd.prog :=
 (.seq (.live [2] (.region 6 [
 ⟨(opMove (some 17) (.tmp 3) 46 "bits.go:25" #[]).op, none⟩,
 ⟨(opMove (some 18) (.tmp 4) 84 "bits.go:25" #[]).op, none⟩,
 ⟨(opConvInt (some 19) 84 5 (.tmp 18) (.int .u64) Tryd.underlying84 .u8 Tryd.underlying5 5 "bits.go:25" #[{ on := 1, ground := Ground.data }]).op, none⟩,
 ⟨(opBuildSlice (some 20) 46 1 [(0, (.tmp 19))] 5 1 1 (.int .u8 0) el46 (by kernel_rfl) (by decide) 46 "bits.go:25" #[{ on := 2, ground := Ground.data }]).op, none⟩,
 ⟨(opAppend (some 21) (.tmp 17) (.tmp 20) 46 46 5 1 1 (.int .u8 0) el46 (.slice 5) Tryd.underlying46 rfl 46 "bits.go:25" #[{ on := 0, ground := Ground.data }, { on := 3, ground := Ground.data }]).op, none⟩,
 ⟨(opAssign (some 2) (.tmp 21) 46 "bits.go:25" #[{ on := 4, ground := Ground.data }, { on := 4, ground := Ground.chain }, { on := 0, ground := Ground.phase }, { on := 1, ground := Ground.phase }, { on := 2, ground := Ground.phase }, { on := 3, ground := Ground.phase }, { on := 4, ground := Ground.phase }]).op, none⟩
 ] (by kernel_rfl)))
 (.live [2] .ret))

noncomputable def f42_b : Sim Tryd.prog :=
 (.seq (.live [0] (.region 0 [
 ⟨(opAssign (some 2) (.const (Value.slice none 0 0)) 46 "bits.go:19" #[]).op, none⟩
 ] (by kernel_rfl)))
 (.seq (.live [0, 3] (.region 1 [
 ⟨(opAssign (some 3) (.const (Value.slice none 0 0)) 46 "bits.go:20" #[]).op, none⟩
 ] (by kernel_rfl)))
 (.seq (.live [3, 4] (.region 2 [
 ⟨(opMove (some 5) (.tmp 0) 3 "bits.go:21" #[]).op, none⟩,
 ⟨opCall (f61.orc 0) (some 6) [(.tmp 5)] #[3] 84 "bits.go:21" #[{ on := 0, ground := Ground.data }], none⟩,
 ⟨(opAssign (some 4) (.tmp 6) 84 "bits.go:21" #[{ on := 1, ground := Ground.data }, { on := 1, ground := Ground.chain }, { on := 0, ground := Ground.phase }, { on := 1, ground := Ground.phase }]).op, none⟩
 ] (by kernel_rfl)))
 (.seq (.block 0 (.loop [3, 4] f42_l0))
 f42_r0))))

noncomputable def f42 : Fun Tryd.prog where
 id := 42
 fn := Tryd.f42
 hf := Tryd.func42
 hname := by kernel_rfl
 body := f42_b
 hbody := by kernel_rfl
 res := [rTmp 2]
 hres := by kernel_rfl
 n := 22
 hn := by kernel_rfl

/-! ### 25: interlock/value.Encode (37); results 2, 3; slots: 0 r, 1 r, 4 out, 5 _, 6 v -/
/-- A loop's round; at its head live: 4 out, 13 , 14 , 15  -/
noncomputable def f25_l0 : Sim Tryd.prog :=
 (.seq (.live [4, 13, 14, 15, 16] (.region 5 [
 ⟨(opBin (some 16) .lss 3 (.tmp 15) (.tmp 14) 3 0 "value.go:84" #[]).op, none⟩
 ] (by kernel_rfl)))
 (.seq (.cond (.tmp 16)
 .skip
 (.live [4] (.exit 0)))
 (.seq (.block 1 (.seq (.live [4, 6, 13, 14, 15] (.region 6 [
 ⟨(opIndexAddrT (some 17) 37 (.tmp 13) (.tmp 15) 24 3 Tryd.underlying37 sz24 0 "value.go:84" #[]).op, none⟩,
 ⟨(opLoadT (.agg [(.int .i64), (.int .i64), .str]) (some 18) 24 (.tmp 17) d24 ud24 3 sz24 (by kernel_rfl) 24 "value.go:84" #[{ on := 0, ground := Ground.data }]).op, none⟩,
 ⟨(opAlloc (some 6) 24 (.agg #[(.int .i64 0), (.int .i64 0), (.string ⟨#[]⟩)]) ze24 0 "value.go:84" #[]).op, none⟩,
 ⟨(opStore none 24 (.tmp 6) (.tmp 18) 3 sz24 0 "value.go:84" #[{ on := 2, ground := Ground.data }, { on := 1, ground := Ground.data }, { on := 0, ground := Ground.phase }, { on := 1, ground := Ground.phase }, { on := 2, ground := Ground.phase }]).op, none⟩
 ] (by kernel_rfl)))
 (.seq (.live [4, 6, 13, 14, 15] (.region 7 [
 ⟨(opMove (some 19) (.tmp 4) 46 "value.go:85" #[]).op, none⟩,
 ⟨(opFieldAddr (some 20) 24 (.tmp 6) 0 0 1 false fl24_0 (by decide) 0 "value.go:85" #[]).op, none⟩,
 ⟨(opLoadT (.one (.int .i64)) (some 21) 3 (.tmp 20) (.int .i64) Tryd.underlying3 1 sz3 (by kernel_rfl) 3 "value.go:85" #[{ on := 1, ground := Ground.data }]).op, none⟩,
 ⟨opCall (f42.orc 20) (some 22) [(.tmp 21)] #[3] 46 "value.go:85" #[{ on := 2, ground := Ground.data }], none⟩,
 ⟨(opAppend (some 23) (.tmp 19) (.tmp 22) 46 46 5 1 1 (.int .u8 0) el46 (.slice 5) Tryd.underlying46 rfl 46 "value.go:85" #[{ on := 0, ground := Ground.data }, { on := 3, ground := Ground.data }, { on := 3, ground := Ground.chain }]).op, none⟩,
 ⟨(opAssign (some 4) (.tmp 23) 46 "value.go:85" #[{ on := 4, ground := Ground.data }, { on := 4, ground := Ground.chain }, { on := 0, ground := Ground.phase }, { on := 1, ground := Ground.phase }, { on := 2, ground := Ground.phase }, { on := 3, ground := Ground.phase }, { on := 4, ground := Ground.phase }]).op, none⟩
 ] (by kernel_rfl)))
 (.seq (.live [4, 6, 13, 14, 15, 25] (.region 8 [
 ⟨(opFieldAddr (some 24) 24 (.tmp 6) 0 0 1 false fl24_0 (by decide) 0 "value.go:86" #[]).op, none⟩,
 ⟨(opLoadT (.one (.int .i64)) (some 25) 3 (.tmp 24) (.int .i64) Tryd.underlying3 1 sz3 (by kernel_rfl) 3 "value.go:86" #[{ on := 0, ground := Ground.data }]).op, none⟩
 ] (by kernel_rfl)))
 (.block 2 (.seq (.seq (.live [4, 6, 13, 14, 15, 25, 26] (.region 9 [
 ⟨(opBin (some 27) .eql 3 (.tmp 25) (.const (Value.int IntKind.i64 1)) 3 4 "value.go:87" #[]).op, none⟩,
 ⟨(opAssign (some 26) (.tmp 27) 4 "value.go:87" #[{ on := 0, ground := Ground.data }]).op, none⟩
 ] (by kernel_rfl)))
 (.cond (.tmp 26)
 .skip
 (.live [4, 6, 13, 14, 15, 25, 26] (.region 10 [
 ⟨(opBin (some 28) .eql 3 (.tmp 25) (.const (Value.int IntKind.i64 2)) 3 4 "value.go:87" #[]).op, none⟩,
 ⟨(opAssign (some 26) (.tmp 28) 4 "value.go:87" #[{ on := 0, ground := Ground.data }]).op, none⟩
 ] (by kernel_rfl)))))
 (.cond (.tmp 26)
 (.live [4, 13, 14, 15] (.region 11 [
 ⟨(opMove (some 29) (.tmp 4) 46 "value.go:88" #[]).op, none⟩,
 ⟨(opFieldAddr (some 30) 24 (.tmp 6) 1 1 1 false fl24_1 (by decide) 0 "value.go:88" #[]).op, none⟩,
 ⟨(opLoadT (.one (.int .i64)) (some 31) 3 (.tmp 30) (.int .i64) Tryd.underlying3 1 sz3 (by kernel_rfl) 3 "value.go:88" #[{ on := 1, ground := Ground.data }]).op, none⟩,
 ⟨opCall (f42.orc 20) (some 32) [(.tmp 31)] #[3] 46 "value.go:88" #[{ on := 2, ground := Ground.data }], none⟩,
 ⟨(opAppend (some 33) (.tmp 29) (.tmp 32) 46 46 5 1 1 (.int .u8 0) el46 (.slice 5) Tryd.underlying46 rfl 46 "value.go:88" #[{ on := 0, ground := Ground.data }, { on := 3, ground := Ground.data }, { on := 3, ground := Ground.chain }]).op, none⟩,
 ⟨(opAssign (some 4) (.tmp 33) 46 "value.go:88" #[{ on := 4, ground := Ground.data }, { on := 4, ground := Ground.chain }, { on := 0, ground := Ground.phase }, { on := 1, ground := Ground.phase }, { on := 2, ground := Ground.phase }, { on := 3, ground := Ground.phase }, { on := 4, ground := Ground.phase }]).op, none⟩
 ] (by kernel_rfl)))
 (.seq (.live [4, 6, 13, 14, 15, 34] (.region 12 [
 ⟨(opBin (some 35) .eql 3 (.tmp 25) (.const (Value.int IntKind.i64 3)) 3 4 "value.go:89" #[]).op, none⟩,
 ⟨(opAssign (some 34) (.tmp 35) 4 "value.go:89" #[{ on := 0, ground := Ground.data }]).op, none⟩
 ] (by kernel_rfl)))
 (.cond (.tmp 34)
 (.live [4, 13, 14, 15] (.region 13 [
 ⟨(opMove (some 36) (.tmp 4) 46 "value.go:90" #[]).op, none⟩,
 ⟨(opFieldAddr (some 37) 24 (.tmp 6) 2 2 1 false fl24_2 (by decide) 0 "value.go:90" #[]).op, none⟩,
 ⟨(opLoadT (.one .str) (some 38) 9 (.tmp 37) .string Tryd.underlying9 1 sz9 (by kernel_rfl) 9 "value.go:90" #[{ on := 1, ground := Ground.data }]).op, none⟩,
 ⟨opCall (Orc.dead 43 Tryd.f43 Tryd.func43 (by kernel_rfl) (by kernel_rfl)) (some 39) [(.tmp 38)] #[9] 46 "value.go:90" #[{ on := 2, ground := Ground.data }], none⟩,
 ⟨(opAppend (some 40) (.tmp 36) (.tmp 39) 46 46 5 1 1 (.int .u8 0) el46 (.slice 5) Tryd.underlying46 rfl 46 "value.go:90" #[{ on := 0, ground := Ground.data }, { on := 3, ground := Ground.data }, { on := 3, ground := Ground.chain }]).op, none⟩,
 ⟨(opAssign (some 4) (.tmp 40) 46 "value.go:90" #[{ on := 4, ground := Ground.data }, { on := 4, ground := Ground.chain }, { on := 0, ground := Ground.phase }, { on := 1, ground := Ground.phase }, { on := 2, ground := Ground.phase }, { on := 3, ground := Ground.phase }, { on := 4, ground := Ground.phase }]).op, none⟩
 ] (by kernel_rfl)))
 .skip)))))))))
 (.live [4, 13, 14, 15] (.region 14 [
 ⟨(opBin (some 41) .add 3 (.tmp 15) (.const (Value.int IntKind.i64 1)) 3 3 "value.go:84" #[]).op, none⟩,
 ⟨(opMove (some 15) (.tmp 41) 3 "value.go:84" #[{ on := 0, ground := Ground.data }]).op, none⟩
 ] (by kernel_rfl))))))

/-- What follows a loop. -/
noncomputable def f25_r0 : Sim Tryd.prog :=
 (.seq (.live [2, 3] (.region 15 [
 ⟨(opMove (some 42) (.tmp 4) 46 "value.go:93" #[]).op, none⟩,
 ⟨(opAssign (some 2) (.tmp 42) 46 "value.go:93" #[{ on := 0, ground := Ground.data }, { on := 0, ground := Ground.phase }]).op, none⟩,
 ⟨(opAssign (some 3) (.const (Value.bool true)) 4 "value.go:93" #[{ on := 1, ground := Ground.chain }, { on := 0, ground := Ground.phase }, { on := 1, ground := Ground.phase }]).op, none⟩
 ] (by kernel_rfl)))
 (.live [2, 3] .ret))

noncomputable def f25_b : Sim Tryd.prog :=
 (.seq (.live [0] (.region 0 [
 ⟨(opAssign (some 2) (.const (Value.slice none 0 0)) 46 "value.go:79" #[]).op, none⟩,
 ⟨(opAssign (some 3) (.const (Value.bool false)) 4 "value.go:79" #[{ on := 0, ground := Ground.chain }]).op, none⟩
 ] (by kernel_rfl)))
 (.seq (.seq (.live [0, 9] (.region 1 [
 ⟨(opMove (some 7) (.tmp 0) 37 "value.go:80" #[]).op, none⟩,
 ⟨opCall (f26.orc 0) (some 8) [(.tmp 7)] #[37] 4 "value.go:80" #[{ on := 0, ground := Ground.data }], none⟩,
 ⟨(opNot (some 9) 4 (.tmp 8) 4 "value.go:80" #[{ on := 1, ground := Ground.data }]).op, none⟩
 ] (by kernel_rfl)))
 (.cond (.tmp 9)
 (.seq (.live [2, 3] (.region 2 [
 ⟨(opAssign (some 2) (.const (Value.slice none 0 0)) 46 "value.go:81" #[]).op, none⟩,
 ⟨(opAssign (some 3) (.const (Value.bool false)) 4 "value.go:81" #[{ on := 0, ground := Ground.chain }, { on := 0, ground := Ground.phase }]).op, none⟩
 ] (by kernel_rfl)))
 (.live [2, 3] .ret))
 .skip))
 (.seq (.live [0, 4] (.region 3 [
 ⟨(opMove (some 10) (.tmp 0) 37 "value.go:83" #[]).op, none⟩,
 ⟨(opLen (some 11) (.tmp 10) 37 (.slice 24) Tryd.underlying37 3 "value.go:83" #[{ on := 0, ground := Ground.data }]).op, none⟩,
 ⟨opCall (f42.orc 20) (some 12) [(.tmp 11)] #[3] 46 "value.go:83" #[{ on := 1, ground := Ground.data }], none⟩,
 ⟨(opAssign (some 4) (.tmp 12) 46 "value.go:83" #[{ on := 2, ground := Ground.data }, { on := 2, ground := Ground.chain }, { on := 0, ground := Ground.phase }, { on := 1, ground := Ground.phase }, { on := 2, ground := Ground.phase }]).op, none⟩
 ] (by kernel_rfl)))
 (.seq (.seq (.live [4, 13, 14, 15] (.region 4 [
 ⟨(opMove (some 13) (.tmp 0) 37 "value.go:84" #[]).op, none⟩,
 ⟨(opLen (some 14) (.tmp 13) 37 (.slice 24) Tryd.underlying37 3 "value.go:84" #[{ on := 0, ground := Ground.data }]).op, none⟩,
 ⟨(opMove (some 15) (.const (Value.int IntKind.i64 0)) 3 "value.go:84" #[]).op, none⟩
 ] (by kernel_rfl)))
 (.block 0 (.loop [4, 13, 14, 15] f25_l0)))
 f25_r0))))

noncomputable def f25 : Fun Tryd.prog where
 id := 25
 fn := Tryd.f25
 hf := Tryd.func25
 hname := by kernel_rfl
 body := f25_b
 hbody := by kernel_rfl
 res := [rTmp 2, rTmp 3]
 hres := by kernel_rfl
 n := 43
 hn := by kernel_rfl

/-! ### 28: interlock/interlockref00.SameBytes (46, 46); results 4; slots: 0 a, 1 b, 2 a, 3 b, 5 i -/
/-- A loop's round; at its head live: 0 a, 1 b, 5 i -/
noncomputable def f28_l0 : Sim Tryd.prog :=
 (.seq (.seq (.live [0, 1, 5, 14] (.region 4 [
 ⟨(opMove (some 11) (.tmp 5) 3 "ref.go:18" #[]).op, none⟩,
 ⟨(opMove (some 12) (.tmp 0) 46 "ref.go:18" #[]).op, none⟩,
 ⟨(opLen (some 13) (.tmp 12) 46 (.slice 5) Tryd.underlying46 3 "ref.go:18" #[{ on := 1, ground := Ground.data }]).op, none⟩,
 ⟨(opBin (some 14) .lss 3 (.tmp 11) (.tmp 13) 3 4 "ref.go:18" #[{ on := 0, ground := Ground.data }, { on := 2, ground := Ground.data }]).op, none⟩
 ] (by kernel_rfl)))
 (.cond (.tmp 14)
 .skip
 (.live [] (.exit 0))))
 (.seq (.block 1 (.seq (.live [0, 1, 5, 25] (.draw 6 [
 ⟨.p (opMove (some 17) (.tmp 0) 46 "ref.go:19" #[]), none⟩,
 ⟨.p (opMove (some 18) (.tmp 5) 3 "ref.go:19" #[]), none⟩,
 ⟨.pn (opIndexAddrT (some 19) 46 (.tmp 17) (.tmp 18) 5 1 Tryd.underlying46 sz5 0 "ref.go:19" #[{ on := 0, ground := Ground.data }, { on := 1, ground := Ground.data }]) opIndexAddrT_nat, none⟩,
 ⟨.qn (opLoadT (.one (.int .u8)) (some 20) 5 (.tmp 19) (.int .u8) Tryd.underlying5 1 sz5 (by kernel_rfl) 5 "ref.go:19" #[{ on := 2, ground := Ground.data }]) opLoadT_nat, none⟩,
 ⟨.p (opMove (some 21) (.tmp 1) 46 "ref.go:19" #[]), none⟩,
 ⟨.p (opMove (some 22) (.tmp 5) 3 "ref.go:19" #[]), none⟩,
 ⟨.pn (opIndexAddrT (some 23) 46 (.tmp 21) (.tmp 22) 5 1 Tryd.underlying46 sz5 0 "ref.go:19" #[{ on := 4, ground := Ground.data }, { on := 5, ground := Ground.data }]) opIndexAddrT_nat, none⟩,
 ⟨.qn (opLoadT (.one (.int .u8)) (some 24) 5 (.tmp 23) (.int .u8) Tryd.underlying5 1 sz5 (by kernel_rfl) 5 "ref.go:19" #[{ on := 6, ground := Ground.data }]) opLoadT_nat, none⟩,
 ⟨.pn (opBin (some 25) .neq 5 (.tmp 20) (.tmp 24) 5 4 "ref.go:19" #[{ on := 3, ground := Ground.data }, { on := 7, ground := Ground.data }]) opBin_nat, none⟩
 ] mixed (by kernel_rfl)))
 (.cond (.tmp 25)
 (.seq (.live [4] (.region 7 [
 ⟨(opAssign (some 4) (.const (Value.bool false)) 4 "ref.go:20" #[]).op, none⟩
 ] (by kernel_rfl)))
 (.live [4] .ret))
 .skip)))
 (.live [0, 1, 5] (.region 5 [
 ⟨(opMove (some 15) (.tmp 5) 3 "ref.go:18" #[]).op, none⟩,
 ⟨(opBin (some 16) .add 3 (.tmp 15) (.const (Value.int IntKind.i64 1)) 3 3 "ref.go:18" #[{ on := 0, ground := Ground.data }]).op, none⟩,
 ⟨(opAssign (some 5) (.tmp 16) 3 "ref.go:18" #[{ on := 1, ground := Ground.data }, { on := 0, ground := Ground.phase }, { on := 1, ground := Ground.phase }]).op, none⟩
 ] (by kernel_rfl)))))

/-- What follows a loop. -/
noncomputable def f28_r0 : Sim Tryd.prog :=
 (.seq (.live [4] (.region 8 [
 ⟨(opAssign (some 4) (.const (Value.bool true)) 4 "ref.go:23" #[]).op, none⟩
 ] (by kernel_rfl)))
 (.live [4] .ret))

noncomputable def f28_b : Sim Tryd.prog :=
 (.seq (.live [0, 1] (.region 0 [
 ⟨(opAssign (some 4) (.const (Value.bool false)) 4 "ref.go:14" #[]).op, none⟩
 ] (by kernel_rfl)))
 (.seq (.seq (.live [0, 1, 10] (.region 1 [
 ⟨(opMove (some 6) (.tmp 0) 46 "ref.go:15" #[]).op, none⟩,
 ⟨(opLen (some 7) (.tmp 6) 46 (.slice 5) Tryd.underlying46 3 "ref.go:15" #[{ on := 0, ground := Ground.data }]).op, none⟩,
 ⟨(opMove (some 8) (.tmp 1) 46 "ref.go:15" #[]).op, none⟩,
 ⟨(opLen (some 9) (.tmp 8) 46 (.slice 5) Tryd.underlying46 3 "ref.go:15" #[{ on := 2, ground := Ground.data }]).op, none⟩,
 ⟨(opBin (some 10) .neq 3 (.tmp 7) (.tmp 9) 3 4 "ref.go:15" #[{ on := 1, ground := Ground.data }, { on := 3, ground := Ground.data }]).op, none⟩
 ] (by kernel_rfl)))
 (.cond (.tmp 10)
 (.seq (.live [4] (.region 2 [
 ⟨(opAssign (some 4) (.const (Value.bool false)) 4 "ref.go:16" #[]).op, none⟩
 ] (by kernel_rfl)))
 (.live [4] .ret))
 .skip))
 (.seq (.seq (.live [0, 1, 5] (.region 3 [
 ⟨(opAssign (some 5) (.const (Value.int IntKind.i64 0)) 3 "ref.go:18" #[]).op, none⟩
 ] (by kernel_rfl)))
 (.block 0 (.loop [0, 1, 5] f28_l0)))
 f28_r0)))

noncomputable def f28 : Fun Tryd.prog where
 id := 28
 fn := Tryd.f28
 hf := Tryd.func28
 hname := by kernel_rfl
 body := f28_b
 hbody := by kernel_rfl
 res := [rTmp 4]
 hres := by kernel_rfl
 n := 26
 hn := by kernel_rfl

/-! ### 21: interlock/value.Order (24, 24); results 4; slots: 0 a, 1 b, 2 a, 3 b -/
noncomputable def f21_b : Sim Tryd.prog :=
 (.seq (.live [2, 3] (.region 0 [
 ⟨(opBoxF (some 2) 24 (.tmp 0) 0 "value.go:37" #[]).op, none⟩,
 ⟨(opBoxF (some 3) 24 (.tmp 1) 0 "value.go:37" #[]).op, none⟩,
 ⟨(opAssign (some 4) (.const (Value.int IntKind.i64 0)) 3 "value.go:37" #[]).op, none⟩
 ] (by kernel_rfl)))
 (.seq (.live [4] (.draw 1 [
 ⟨.pn (opFieldAddr (some 5) 24 (.tmp 2) 0 0 1 false fl24_0 (by decide) 0 "value.go:38" #[]) opFieldAddr_nat, none⟩,
 ⟨.qn (opLoadT (.one (.int .i64)) (some 6) 3 (.tmp 5) (.int .i64) Tryd.underlying3 1 sz3 (by kernel_rfl) 3 "value.go:38" #[{ on := 0, ground := Ground.data }]) opLoadT_nat, none⟩,
 ⟨.pn (opFieldAddr (some 7) 24 (.tmp 3) 0 0 1 false fl24_0 (by decide) 0 "value.go:38" #[]) opFieldAddr_nat, none⟩,
 ⟨.qn (opLoadT (.one (.int .i64)) (some 8) 3 (.tmp 7) (.int .i64) Tryd.underlying3 1 sz3 (by kernel_rfl) 3 "value.go:38" #[{ on := 2, ground := Ground.data }]) opLoadT_nat, none⟩,
 ⟨.pn (opCallP p37 (some 9) [(.tmp 6), (.tmp 8)] #[3, 3] 3 "value.go:38" #[{ on := 1, ground := Ground.data }, { on := 3, ground := Ground.data }]) (opCallP_nat p37_nat), none⟩,
 ⟨.pn (opFieldAddr (some 10) 24 (.tmp 2) 1 1 1 false fl24_1 (by decide) 0 "value.go:38" #[]) opFieldAddr_nat, none⟩,
 ⟨.qn (opLoadT (.one (.int .i64)) (some 11) 3 (.tmp 10) (.int .i64) Tryd.underlying3 1 sz3 (by kernel_rfl) 3 "value.go:38" #[{ on := 5, ground := Ground.data }]) opLoadT_nat, none⟩,
 ⟨.pn (opFieldAddr (some 12) 24 (.tmp 3) 1 1 1 false fl24_1 (by decide) 0 "value.go:38" #[]) opFieldAddr_nat, none⟩,
 ⟨.qn (opLoadT (.one (.int .i64)) (some 13) 3 (.tmp 12) (.int .i64) Tryd.underlying3 1 sz3 (by kernel_rfl) 3 "value.go:38" #[{ on := 7, ground := Ground.data }]) opLoadT_nat, none⟩,
 ⟨.pn (opCallP p37 (some 14) [(.tmp 11), (.tmp 13)] #[3, 3] 3 "value.go:38" #[{ on := 6, ground := Ground.data }, { on := 8, ground := Ground.data }, { on := 4, ground := Ground.chain }]) (opCallP_nat p37_nat), none⟩,
 ⟨.pn (opFieldAddr (some 15) 24 (.tmp 2) 2 2 1 false fl24_2 (by decide) 0 "value.go:38" #[]) opFieldAddr_nat, none⟩,
 ⟨.qn (opLoadT (.one .str) (some 16) 9 (.tmp 15) .string Tryd.underlying9 1 sz9 (by kernel_rfl) 9 "value.go:38" #[{ on := 10, ground := Ground.data }]) opLoadT_nat, none⟩,
 ⟨.pn (opFieldAddr (some 17) 24 (.tmp 3) 2 2 1 false fl24_2 (by decide) 0 "value.go:38" #[]) opFieldAddr_nat, none⟩,
 ⟨.qn (opLoadT (.one .str) (some 18) 9 (.tmp 17) .string Tryd.underlying9 1 sz9 (by kernel_rfl) 9 "value.go:38" #[{ on := 12, ground := Ground.data }]) opLoadT_nat, none⟩,
 ⟨.pn (opCallP p38 (some 19) [(.tmp 16), (.tmp 18)] #[9, 9] 3 "value.go:38" #[{ on := 11, ground := Ground.data }, { on := 13, ground := Ground.data }, { on := 9, ground := Ground.chain }]) (opCallP_nat p38_nat), none⟩,
 ⟨.p (opBuildSlice (some 20) 82 3 [(0, (.tmp 9)), (1, (.tmp 14)), (2, (.tmp 19))] 3 1 8 (.int .i64 0) el82 (by kernel_rfl) (by decide) 82 "value.go:38" #[{ on := 4, ground := Ground.data }, { on := 9, ground := Ground.data }, { on := 14, ground := Ground.data }]), none⟩,
 ⟨.pn (opCallP p36 (some 21) [(.tmp 20)] #[82] 3 "value.go:38" #[{ on := 15, ground := Ground.data }, { on := 14, ground := Ground.chain }]) (opCallP_nat p36_nat), none⟩,
 ⟨.p (opAssign (some 4) (.tmp 21) 3 "value.go:38" #[{ on := 16, ground := Ground.data }, { on := 16, ground := Ground.chain }, { on := 0, ground := Ground.phase }, { on := 1, ground := Ground.phase }, { on := 2, ground := Ground.phase }, { on := 3, ground := Ground.phase }, { on := 4, ground := Ground.phase }, { on := 5, ground := Ground.phase }, { on := 6, ground := Ground.phase }, { on := 7, ground := Ground.phase }, { on := 8, ground := Ground.phase }, { on := 9, ground := Ground.phase }, { on := 10, ground := Ground.phase }, { on := 11, ground := Ground.phase }, { on := 12, ground := Ground.phase }, { on := 13, ground := Ground.phase }, { on := 14, ground := Ground.phase }, { on := 15, ground := Ground.phase }, { on := 16, ground := Ground.phase }]), none⟩
 ] mixed (by kernel_rfl)))
 (.live [4] .ret)))

noncomputable def f21 : Fun Tryd.prog where
 id := 21
 fn := Tryd.f21
 hf := Tryd.func21
 hname := by kernel_rfl
 body := f21_b
 hbody := by kernel_rfl
 res := [rTmp 4]
 hres := by kernel_rfl
 n := 22
 hn := by kernel_rfl

/-! ### 76: internal/stringslite.HasPrefix (9, 9); results 4; slots: 0 s, 1 prefix, 2 s, 3 prefix -/
noncomputable def f76_b : Sim Tryd.prog :=
 (.seq (.live [0, 1] (.region 0 [
 ⟨(opAssign (some 4) (.const (Value.bool false)) 4 "strings.go:16" #[]).op, none⟩
 ] (by kernel_rfl)))
 (.seq (.live [4] (.region 1 [
 ⟨(opMove (some 5) (.tmp 0) 9 "strings.go:17" #[]).op, none⟩,
 ⟨(opLen (some 6) (.tmp 5) 9 .string Tryd.underlying9 3 "strings.go:17" #[{ on := 0, ground := Ground.data }]).op, none⟩,
 ⟨(opMove (some 7) (.tmp 1) 9 "strings.go:17" #[]).op, none⟩,
 ⟨(opLen (some 8) (.tmp 7) 9 .string Tryd.underlying9 3 "strings.go:17" #[{ on := 2, ground := Ground.data }]).op, none⟩,
 ⟨(opBin (some 9) .geq 3 (.tmp 6) (.tmp 8) 3 4 "strings.go:17" #[{ on := 1, ground := Ground.data }, { on := 3, ground := Ground.data }]).op, none⟩,
 ⟨(opMove (some 10) (.tmp 9) 4 "strings.go:17" #[{ on := 4, ground := Ground.data }]).op, none⟩,
 ⟨(opMove (some 11) (.tmp 0) 9 "strings.go:17" #[{ on := 5, ground := Ground.guard }]).op, (some (5, 10, true))⟩,
 ⟨(opMove (some 12) (.tmp 1) 9 "strings.go:17" #[{ on := 5, ground := Ground.guard }]).op, (some (5, 10, true))⟩,
 ⟨(opLen (some 13) (.tmp 12) 9 .string Tryd.underlying9 3 "strings.go:17" #[{ on := 7, ground := Ground.data }, { on := 5, ground := Ground.guard }]).op, (some (5, 10, true))⟩,
 ⟨(opSliceStr (some 14) 9 (.tmp 11) none (some (.tmp 13)) Tryd.underlying9 9 "strings.go:17" #[{ on := 6, ground := Ground.data }, { on := 8, ground := Ground.data }, { on := 5, ground := Ground.guard }]).op, (some (5, 10, true))⟩,
 ⟨(opMove (some 15) (.tmp 1) 9 "strings.go:17" #[{ on := 5, ground := Ground.guard }]).op, (some (5, 10, true))⟩,
 ⟨(opBinS (some 16) .eql 9 (.tmp 14) (.tmp 15) 9 4 "strings.go:17" #[{ on := 9, ground := Ground.data }, { on := 10, ground := Ground.data }, { on := 5, ground := Ground.guard }]).op, (some (5, 10, true))⟩,
 ⟨(opPick (some 17) (.tmp 10) (.tmp 16) (.const (Value.bool false)) 4 "strings.go:17" #[{ on := 5, ground := Ground.data }, { on := 11, ground := Ground.data }]).op, none⟩,
 ⟨(opAssign (some 4) (.tmp 17) 4 "strings.go:17" #[{ on := 12, ground := Ground.data }, { on := 5, ground := Ground.chain }, { on := 0, ground := Ground.phase }, { on := 1, ground := Ground.phase }, { on := 2, ground := Ground.phase }, { on := 3, ground := Ground.phase }, { on := 4, ground := Ground.phase }, { on := 5, ground := Ground.phase }, { on := 6, ground := Ground.phase }, { on := 7, ground := Ground.phase }, { on := 8, ground := Ground.phase }, { on := 9, ground := Ground.phase }, { on := 10, ground := Ground.phase }, { on := 11, ground := Ground.phase }, { on := 12, ground := Ground.phase }]).op, none⟩
 ] (by kernel_rfl)))
 (.live [4] .ret)))

noncomputable def f76 : Fun Tryd.prog where
 id := 76
 fn := Tryd.f76
 hf := Tryd.func76
 hname := by kernel_rfl
 body := f76_b
 hbody := by kernel_rfl
 res := [rTmp 4]
 hres := by kernel_rfl
 n := 18
 hn := by kernel_rfl

/-! ### 67: internal/stringslite.CutPrefix (9, 9); results 4, 5; slots: 0 s, 1 prefix, 2 s, 3 prefix, 4 after, 5 found -/
noncomputable def f67_b : Sim Tryd.prog :=
 (.seq (.live [0, 1] (.region 0 [
 ⟨(opAssign (some 4) (.const (Value.string { data := #[] })) 9 "strings.go:87" #[]).op, none⟩,
 ⟨(opAssign (some 5) (.const (Value.bool false)) 4 "strings.go:87" #[{ on := 0, ground := Ground.chain }]).op, none⟩
 ] (by kernel_rfl)))
 (.seq (.seq (.live [0, 1, 9] (.region 1 [
 ⟨(opMove (some 6) (.tmp 0) 9 "strings.go:88" #[]).op, none⟩,
 ⟨(opMove (some 7) (.tmp 1) 9 "strings.go:88" #[]).op, none⟩,
 ⟨opCall (f76.orc 0) (some 8) [(.tmp 6), (.tmp 7)] #[9, 9] 4 "strings.go:88" #[{ on := 0, ground := Ground.data }, { on := 1, ground := Ground.data }], none⟩,
 ⟨(opNot (some 9) 4 (.tmp 8) 4 "strings.go:88" #[{ on := 2, ground := Ground.data }]).op, none⟩
 ] (by kernel_rfl)))
 (.cond (.tmp 9)
 (.seq (.live [4, 5] (.region 2 [
 ⟨(opMove (some 10) (.tmp 0) 9 "strings.go:89" #[]).op, none⟩,
 ⟨(opAssign (some 4) (.tmp 10) 9 "strings.go:89" #[{ on := 0, ground := Ground.data }, { on := 0, ground := Ground.phase }]).op, none⟩,
 ⟨(opAssign (some 5) (.const (Value.bool false)) 4 "strings.go:89" #[{ on := 1, ground := Ground.chain }, { on := 0, ground := Ground.phase }, { on := 1, ground := Ground.phase }]).op, none⟩
 ] (by kernel_rfl)))
 (.live [4, 5] .ret))
 .skip))
 (.seq (.live [4, 5] (.region 3 [
 ⟨(opMove (some 11) (.tmp 0) 9 "strings.go:91" #[]).op, none⟩,
 ⟨(opMove (some 12) (.tmp 1) 9 "strings.go:91" #[]).op, none⟩,
 ⟨(opLen (some 13) (.tmp 12) 9 .string Tryd.underlying9 3 "strings.go:91" #[{ on := 1, ground := Ground.data }]).op, none⟩,
 ⟨(opSliceStr (some 14) 9 (.tmp 11) (some (.tmp 13)) none Tryd.underlying9 9 "strings.go:91" #[{ on := 0, ground := Ground.data }, { on := 2, ground := Ground.data }]).op, none⟩,
 ⟨(opAssign (some 4) (.tmp 14) 9 "strings.go:91" #[{ on := 3, ground := Ground.data }, { on := 0, ground := Ground.phase }, { on := 1, ground := Ground.phase }, { on := 2, ground := Ground.phase }, { on := 3, ground := Ground.phase }]).op, none⟩,
 ⟨(opAssign (some 5) (.const (Value.bool true)) 4 "strings.go:91" #[{ on := 4, ground := Ground.chain }, { on := 0, ground := Ground.phase }, { on := 1, ground := Ground.phase }, { on := 2, ground := Ground.phase }, { on := 3, ground := Ground.phase }, { on := 4, ground := Ground.phase }]).op, none⟩
 ] (by kernel_rfl)))
 (.live [4, 5] .ret))))

noncomputable def f67 : Fun Tryd.prog where
 id := 67
 fn := Tryd.f67
 hf := Tryd.func67
 hname := by kernel_rfl
 body := f67_b
 hbody := by kernel_rfl
 res := [rTmp 4, rTmp 5]
 hres := by kernel_rfl
 n := 15
 hn := by kernel_rfl

/-! ### 50: strings.CutPrefix (9, 9); results 4, 5; slots: 0 s, 1 prefix, 2 s, 3 prefix, 4 after, 5 found -/
noncomputable def f50_b : Sim Tryd.prog :=
 (.seq (.live [0, 1] (.region 0 [
 ⟨(opAssign (some 4) (.const (Value.string { data := #[] })) 9 "strings.go:1279" #[]).op, none⟩,
 ⟨(opAssign (some 5) (.const (Value.bool false)) 4 "strings.go:1279" #[{ on := 0, ground := Ground.chain }]).op, none⟩
 ] (by kernel_rfl)))
 (.seq (.live [4, 5] (.region 1 [
 ⟨(opMove (some 6) (.tmp 0) 9 "strings.go:1280" #[]).op, none⟩,
 ⟨(opMove (some 7) (.tmp 1) 9 "strings.go:1280" #[]).op, none⟩,
 ⟨opCall (f67.orc 0) (some 8) [(.tmp 6), (.tmp 7)] #[9, 9] 69 "strings.go:1280" #[{ on := 0, ground := Ground.data }, { on := 1, ground := Ground.data }], none⟩,
 ⟨(opExtract (some 9) (.tmp 8) 0 9 "strings.go:1280" #[{ on := 2, ground := Ground.data }]).op, none⟩,
 ⟨(opExtract (some 10) (.tmp 8) 1 4 "strings.go:1280" #[{ on := 2, ground := Ground.data }]).op, none⟩,
 ⟨(opAssign (some 4) (.tmp 9) 9 "strings.go:1280" #[{ on := 3, ground := Ground.data }, { on := 2, ground := Ground.chain }, { on := 0, ground := Ground.phase }, { on := 1, ground := Ground.phase }, { on := 2, ground := Ground.phase }, { on := 3, ground := Ground.phase }, { on := 4, ground := Ground.phase }]).op, none⟩,
 ⟨(opAssign (some 5) (.tmp 10) 4 "strings.go:1280" #[{ on := 4, ground := Ground.data }, { on := 5, ground := Ground.chain }, { on := 0, ground := Ground.phase }, { on := 1, ground := Ground.phase }, { on := 2, ground := Ground.phase }, { on := 3, ground := Ground.phase }, { on := 4, ground := Ground.phase }, { on := 5, ground := Ground.phase }]).op, none⟩
 ] (by kernel_rfl)))
 (.live [4, 5] .ret)))

noncomputable def f50 : Fun Tryd.prog where
 id := 50
 fn := Tryd.f50
 hf := Tryd.func50
 hname := by kernel_rfl
 body := f50_b
 hbody := by kernel_rfl
 res := [rTmp 4, rTmp 5]
 hres := by kernel_rfl
 n := 11
 hn := by kernel_rfl

/-! ### 77: internal/stringslite.HasSuffix (9, 9); results 4; slots: 0 s, 1 suffix, 2 s, 3 suffix -/
noncomputable def f77_b : Sim Tryd.prog :=
 (.seq (.live [0, 1] (.region 0 [
 ⟨(opAssign (some 4) (.const (Value.bool false)) 4 "strings.go:20" #[]).op, none⟩
 ] (by kernel_rfl)))
 (.seq (.live [4] (.region 1 [
 ⟨(opMove (some 5) (.tmp 0) 9 "strings.go:21" #[]).op, none⟩,
 ⟨(opLen (some 6) (.tmp 5) 9 .string Tryd.underlying9 3 "strings.go:21" #[{ on := 0, ground := Ground.data }]).op, none⟩,
 ⟨(opMove (some 7) (.tmp 1) 9 "strings.go:21" #[]).op, none⟩,
 ⟨(opLen (some 8) (.tmp 7) 9 .string Tryd.underlying9 3 "strings.go:21" #[{ on := 2, ground := Ground.data }]).op, none⟩,
 ⟨(opBin (some 9) .geq 3 (.tmp 6) (.tmp 8) 3 4 "strings.go:21" #[{ on := 1, ground := Ground.data }, { on := 3, ground := Ground.data }]).op, none⟩,
 ⟨(opMove (some 10) (.tmp 9) 4 "strings.go:21" #[{ on := 4, ground := Ground.data }]).op, none⟩,
 ⟨(opMove (some 11) (.tmp 0) 9 "strings.go:21" #[{ on := 5, ground := Ground.guard }]).op, (some (5, 10, true))⟩,
 ⟨(opMove (some 12) (.tmp 0) 9 "strings.go:21" #[{ on := 5, ground := Ground.guard }]).op, (some (5, 10, true))⟩,
 ⟨(opLen (some 13) (.tmp 12) 9 .string Tryd.underlying9 3 "strings.go:21" #[{ on := 7, ground := Ground.data }, { on := 5, ground := Ground.guard }]).op, (some (5, 10, true))⟩,
 ⟨(opMove (some 14) (.tmp 1) 9 "strings.go:21" #[{ on := 5, ground := Ground.guard }]).op, (some (5, 10, true))⟩,
 ⟨(opLen (some 15) (.tmp 14) 9 .string Tryd.underlying9 3 "strings.go:21" #[{ on := 9, ground := Ground.data }, { on := 5, ground := Ground.guard }]).op, (some (5, 10, true))⟩,
 ⟨(opBin (some 16) .sub 3 (.tmp 13) (.tmp 15) 3 3 "strings.go:21" #[{ on := 8, ground := Ground.data }, { on := 10, ground := Ground.data }, { on := 5, ground := Ground.guard }]).op, (some (5, 10, true))⟩,
 ⟨(opSliceStr (some 17) 9 (.tmp 11) (some (.tmp 16)) none Tryd.underlying9 9 "strings.go:21" #[{ on := 6, ground := Ground.data }, { on := 11, ground := Ground.data }, { on := 5, ground := Ground.guard }]).op, (some (5, 10, true))⟩,
 ⟨(opMove (some 18) (.tmp 1) 9 "strings.go:21" #[{ on := 5, ground := Ground.guard }]).op, (some (5, 10, true))⟩,
 ⟨(opBinS (some 19) .eql 9 (.tmp 17) (.tmp 18) 9 4 "strings.go:21" #[{ on := 12, ground := Ground.data }, { on := 13, ground := Ground.data }, { on := 5, ground := Ground.guard }]).op, (some (5, 10, true))⟩,
 ⟨(opPick (some 20) (.tmp 10) (.tmp 19) (.const (Value.bool false)) 4 "strings.go:21" #[{ on := 5, ground := Ground.data }, { on := 14, ground := Ground.data }]).op, none⟩,
 ⟨(opAssign (some 4) (.tmp 20) 4 "strings.go:21" #[{ on := 15, ground := Ground.data }, { on := 5, ground := Ground.chain }, { on := 0, ground := Ground.phase }, { on := 1, ground := Ground.phase }, { on := 2, ground := Ground.phase }, { on := 3, ground := Ground.phase }, { on := 4, ground := Ground.phase }, { on := 5, ground := Ground.phase }, { on := 6, ground := Ground.phase }, { on := 7, ground := Ground.phase }, { on := 8, ground := Ground.phase }, { on := 9, ground := Ground.phase }, { on := 10, ground := Ground.phase }, { on := 11, ground := Ground.phase }, { on := 12, ground := Ground.phase }, { on := 13, ground := Ground.phase }, { on := 14, ground := Ground.phase }, { on := 15, ground := Ground.phase }]).op, none⟩
 ] (by kernel_rfl)))
 (.live [4] .ret)))

noncomputable def f77 : Fun Tryd.prog where
 id := 77
 fn := Tryd.f77
 hf := Tryd.func77
 hname := by kernel_rfl
 body := f77_b
 hbody := by kernel_rfl
 res := [rTmp 4]
 hres := by kernel_rfl
 n := 21
 hn := by kernel_rfl

/-! ### 68: internal/stringslite.CutSuffix (9, 9); results 4, 5; slots: 0 s, 1 suffix, 2 s, 3 suffix, 4 before, 5 found -/
noncomputable def f68_b : Sim Tryd.prog :=
 (.seq (.live [0, 1] (.region 0 [
 ⟨(opAssign (some 4) (.const (Value.string { data := #[] })) 9 "strings.go:94" #[]).op, none⟩,
 ⟨(opAssign (some 5) (.const (Value.bool false)) 4 "strings.go:94" #[{ on := 0, ground := Ground.chain }]).op, none⟩
 ] (by kernel_rfl)))
 (.seq (.seq (.live [0, 1, 9] (.region 1 [
 ⟨(opMove (some 6) (.tmp 0) 9 "strings.go:95" #[]).op, none⟩,
 ⟨(opMove (some 7) (.tmp 1) 9 "strings.go:95" #[]).op, none⟩,
 ⟨opCall (f77.orc 0) (some 8) [(.tmp 6), (.tmp 7)] #[9, 9] 4 "strings.go:95" #[{ on := 0, ground := Ground.data }, { on := 1, ground := Ground.data }], none⟩,
 ⟨(opNot (some 9) 4 (.tmp 8) 4 "strings.go:95" #[{ on := 2, ground := Ground.data }]).op, none⟩
 ] (by kernel_rfl)))
 (.cond (.tmp 9)
 (.seq (.live [4, 5] (.region 2 [
 ⟨(opMove (some 10) (.tmp 0) 9 "strings.go:96" #[]).op, none⟩,
 ⟨(opAssign (some 4) (.tmp 10) 9 "strings.go:96" #[{ on := 0, ground := Ground.data }, { on := 0, ground := Ground.phase }]).op, none⟩,
 ⟨(opAssign (some 5) (.const (Value.bool false)) 4 "strings.go:96" #[{ on := 1, ground := Ground.chain }, { on := 0, ground := Ground.phase }, { on := 1, ground := Ground.phase }]).op, none⟩
 ] (by kernel_rfl)))
 (.live [4, 5] .ret))
 .skip))
 (.seq (.live [4, 5] (.region 3 [
 ⟨(opMove (some 11) (.tmp 0) 9 "strings.go:98" #[]).op, none⟩,
 ⟨(opMove (some 12) (.tmp 0) 9 "strings.go:98" #[]).op, none⟩,
 ⟨(opLen (some 13) (.tmp 12) 9 .string Tryd.underlying9 3 "strings.go:98" #[{ on := 1, ground := Ground.data }]).op, none⟩,
 ⟨(opMove (some 14) (.tmp 1) 9 "strings.go:98" #[]).op, none⟩,
 ⟨(opLen (some 15) (.tmp 14) 9 .string Tryd.underlying9 3 "strings.go:98" #[{ on := 3, ground := Ground.data }]).op, none⟩,
 ⟨(opBin (some 16) .sub 3 (.tmp 13) (.tmp 15) 3 3 "strings.go:98" #[{ on := 2, ground := Ground.data }, { on := 4, ground := Ground.data }]).op, none⟩,
 ⟨(opSliceStr (some 17) 9 (.tmp 11) none (some (.tmp 16)) Tryd.underlying9 9 "strings.go:98" #[{ on := 0, ground := Ground.data }, { on := 5, ground := Ground.data }]).op, none⟩,
 ⟨(opAssign (some 4) (.tmp 17) 9 "strings.go:98" #[{ on := 6, ground := Ground.data }, { on := 0, ground := Ground.phase }, { on := 1, ground := Ground.phase }, { on := 2, ground := Ground.phase }, { on := 3, ground := Ground.phase }, { on := 4, ground := Ground.phase }, { on := 5, ground := Ground.phase }, { on := 6, ground := Ground.phase }]).op, none⟩,
 ⟨(opAssign (some 5) (.const (Value.bool true)) 4 "strings.go:98" #[{ on := 7, ground := Ground.chain }, { on := 0, ground := Ground.phase }, { on := 1, ground := Ground.phase }, { on := 2, ground := Ground.phase }, { on := 3, ground := Ground.phase }, { on := 4, ground := Ground.phase }, { on := 5, ground := Ground.phase }, { on := 6, ground := Ground.phase }, { on := 7, ground := Ground.phase }]).op, none⟩
 ] (by kernel_rfl)))
 (.live [4, 5] .ret))))

noncomputable def f68 : Fun Tryd.prog where
 id := 68
 fn := Tryd.f68
 hf := Tryd.func68
 hname := by kernel_rfl
 body := f68_b
 hbody := by kernel_rfl
 res := [rTmp 4, rTmp 5]
 hres := by kernel_rfl
 n := 18
 hn := by kernel_rfl

/-! ### 51: strings.CutSuffix (9, 9); results 4, 5; slots: 0 s, 1 suffix, 2 s, 3 suffix, 4 before, 5 found -/
noncomputable def f51_b : Sim Tryd.prog :=
 (.seq (.live [0, 1] (.region 0 [
 ⟨(opAssign (some 4) (.const (Value.string { data := #[] })) 9 "strings.go:1287" #[]).op, none⟩,
 ⟨(opAssign (some 5) (.const (Value.bool false)) 4 "strings.go:1287" #[{ on := 0, ground := Ground.chain }]).op, none⟩
 ] (by kernel_rfl)))
 (.seq (.live [4, 5] (.region 1 [
 ⟨(opMove (some 6) (.tmp 0) 9 "strings.go:1288" #[]).op, none⟩,
 ⟨(opMove (some 7) (.tmp 1) 9 "strings.go:1288" #[]).op, none⟩,
 ⟨opCall (f68.orc 0) (some 8) [(.tmp 6), (.tmp 7)] #[9, 9] 69 "strings.go:1288" #[{ on := 0, ground := Ground.data }, { on := 1, ground := Ground.data }], none⟩,
 ⟨(opExtract (some 9) (.tmp 8) 0 9 "strings.go:1288" #[{ on := 2, ground := Ground.data }]).op, none⟩,
 ⟨(opExtract (some 10) (.tmp 8) 1 4 "strings.go:1288" #[{ on := 2, ground := Ground.data }]).op, none⟩,
 ⟨(opAssign (some 4) (.tmp 9) 9 "strings.go:1288" #[{ on := 3, ground := Ground.data }, { on := 2, ground := Ground.chain }, { on := 0, ground := Ground.phase }, { on := 1, ground := Ground.phase }, { on := 2, ground := Ground.phase }, { on := 3, ground := Ground.phase }, { on := 4, ground := Ground.phase }]).op, none⟩,
 ⟨(opAssign (some 5) (.tmp 10) 4 "strings.go:1288" #[{ on := 4, ground := Ground.data }, { on := 5, ground := Ground.chain }, { on := 0, ground := Ground.phase }, { on := 1, ground := Ground.phase }, { on := 2, ground := Ground.phase }, { on := 3, ground := Ground.phase }, { on := 4, ground := Ground.phase }, { on := 5, ground := Ground.phase }]).op, none⟩
 ] (by kernel_rfl)))
 (.live [4, 5] .ret)))

noncomputable def f51 : Fun Tryd.prog where
 id := 51
 fn := Tryd.f51
 hf := Tryd.func51
 hname := by kernel_rfl
 body := f51_b
 hbody := by kernel_rfl
 res := [rTmp 4, rTmp 5]
 hres := by kernel_rfl
 n := 11
 hn := by kernel_rfl

/-! ### 29: interlock/value.parse (9); results 2, 3; slots: 0 s, 1 s, 4 inner, 5 ok, 6 inner, 7 ok, 8 text, 9 n, 10 e -/
noncomputable def f29_b : Sim Tryd.prog :=
 (.seq (.live [0, 2] (.region 0 [
 ⟨(opAlloc (some 2) 24 (.agg #[(.int .i64 0), (.int .i64 0), (.string ⟨#[]⟩)]) ze24 0 "value.go:174" #[]).op, none⟩,
 ⟨(opAssign (some 3) (.const (Value.bool false)) 4 "value.go:174" #[]).op, none⟩
 ] (by kernel_rfl)))
 (.seq (.seq (.live [0, 2, 4, 5] (.region 1 [
 ⟨(opMove (some 12) (.tmp 0) 9 "value.go:175" #[]).op, none⟩,
 ⟨opCall (f50.orc 0) (some 13) [(.tmp 12), (.const (Value.string { data := #[34] }))] #[9, 9] 69 "value.go:175" #[{ on := 0, ground := Ground.data }], none⟩,
 ⟨(opMove (some 11) (.tmp 13) 69 "value.go:175" #[{ on := 1, ground := Ground.data }]).op, none⟩,
 ⟨(opExtract (some 14) (.tmp 11) 0 9 "value.go:175" #[{ on := 2, ground := Ground.data }]).op, none⟩,
 ⟨(opExtract (some 15) (.tmp 11) 1 4 "value.go:175" #[{ on := 2, ground := Ground.data }, { on := 5, ground := (Ground.gcOnly Departure.lateStores) }]).op, none⟩,
 ⟨(opAssign (some 4) (.tmp 14) 9 "value.go:175" #[{ on := 3, ground := Ground.data }, { on := 1, ground := Ground.chain }, { on := 0, ground := Ground.phase }, { on := 1, ground := Ground.phase }, { on := 2, ground := Ground.phase }, { on := 3, ground := Ground.phase }, { on := 4, ground := (Ground.textOnly Departure.lateStores) }]).op, none⟩,
 ⟨(opAssign (some 5) (.tmp 15) 4 "value.go:175" #[{ on := 4, ground := Ground.data }, { on := 5, ground := Ground.chain }, { on := 0, ground := Ground.phase }, { on := 1, ground := Ground.phase }, { on := 2, ground := Ground.phase }, { on := 3, ground := Ground.phase }, { on := 4, ground := Ground.phase }, { on := 5, ground := Ground.phase }]).op, none⟩
 ] (by kernel_rfl)))
 (.seq (.live [0, 2, 4, 16] (.region 2 [
 ⟨(opMove (some 16) (.tmp 5) 4 "value.go:175" #[]).op, none⟩
 ] (by kernel_rfl)))
 (.cond (.tmp 16)
 (.seq (.live [2, 6, 7] (.region 3 [
 ⟨(opMove (some 18) (.tmp 4) 9 "value.go:176" #[]).op, none⟩,
 ⟨opCall (f51.orc 0) (some 19) [(.tmp 18), (.const (Value.string { data := #[34] }))] #[9, 9] 69 "value.go:176" #[{ on := 0, ground := Ground.data }], none⟩,
 ⟨(opMove (some 17) (.tmp 19) 69 "value.go:176" #[{ on := 1, ground := Ground.data }]).op, none⟩,
 ⟨(opExtract (some 20) (.tmp 17) 0 9 "value.go:176" #[{ on := 2, ground := Ground.data }]).op, none⟩,
 ⟨(opExtract (some 21) (.tmp 17) 1 4 "value.go:176" #[{ on := 2, ground := Ground.data }, { on := 5, ground := (Ground.gcOnly Departure.lateStores) }]).op, none⟩,
 ⟨(opAssign (some 6) (.tmp 20) 9 "value.go:176" #[{ on := 3, ground := Ground.data }, { on := 1, ground := Ground.chain }, { on := 0, ground := Ground.phase }, { on := 1, ground := Ground.phase }, { on := 2, ground := Ground.phase }, { on := 3, ground := Ground.phase }, { on := 4, ground := (Ground.textOnly Departure.lateStores) }]).op, none⟩,
 ⟨(opAssign (some 7) (.tmp 21) 4 "value.go:176" #[{ on := 4, ground := Ground.data }, { on := 5, ground := Ground.chain }, { on := 0, ground := Ground.phase }, { on := 1, ground := Ground.phase }, { on := 2, ground := Ground.phase }, { on := 3, ground := Ground.phase }, { on := 4, ground := Ground.phase }, { on := 5, ground := Ground.phase }]).op, none⟩
 ] (by kernel_rfl)))
 (.seq (.seq (.live [2, 6, 23] (.region 4 [
 ⟨(opMove (some 22) (.tmp 7) 4 "value.go:177" #[]).op, none⟩,
 ⟨(opNot (some 23) 4 (.tmp 22) 4 "value.go:177" #[{ on := 0, ground := Ground.data }]).op, none⟩
 ] (by kernel_rfl)))
 (.cond (.tmp 23)
 (.seq (.live [2, 3] (.region 5 [
 ⟨(opBuild (some 24) 24 #[(.int .i64 0), (.int .i64 0), (.string ⟨#[]⟩)] [] ze24 (by kernel_rfl) 24 "value.go:178" #[]).op, none⟩,
 ⟨(opStore none 24 (.tmp 2) (.tmp 24) 3 sz24 0 "value.go:178" #[{ on := 0, ground := Ground.data }, { on := 0, ground := Ground.phase }]).op, none⟩,
 ⟨(opAssign (some 3) (.const (Value.bool false)) 4 "value.go:178" #[{ on := 1, ground := Ground.chain }, { on := 0, ground := Ground.phase }, { on := 1, ground := Ground.phase }]).op, none⟩
 ] (by kernel_rfl)))
 (.live [2, 3] .ret))
 .skip))
 (.seq (.live [2, 7, 8] (.region 6 [
 ⟨(opMove (some 26) (.tmp 6) 9 "value.go:180" #[]).op, none⟩,
 ⟨(opCallP p52 (some 27) [(.tmp 26)] #[9] 69 "value.go:180" #[{ on := 0, ground := Ground.data }]).op, none⟩,
 ⟨(opMove (some 25) (.tmp 27) 69 "value.go:180" #[{ on := 1, ground := Ground.data }]).op, none⟩,
 ⟨(opExtract (some 28) (.tmp 25) 0 9 "value.go:180" #[{ on := 2, ground := Ground.data }]).op, none⟩,
 ⟨(opExtract (some 29) (.tmp 25) 1 4 "value.go:180" #[{ on := 2, ground := Ground.data }, { on := 5, ground := (Ground.gcOnly Departure.lateStores) }]).op, none⟩,
 ⟨(opAssign (some 8) (.tmp 28) 9 "value.go:180" #[{ on := 3, ground := Ground.data }, { on := 1, ground := Ground.chain }, { on := 0, ground := Ground.phase }, { on := 1, ground := Ground.phase }, { on := 2, ground := Ground.phase }, { on := 3, ground := Ground.phase }, { on := 4, ground := (Ground.textOnly Departure.lateStores) }]).op, none⟩,
 ⟨(opAssign (some 7) (.tmp 29) 4 "value.go:180" #[{ on := 4, ground := Ground.data }, { on := 5, ground := Ground.chain }, { on := 0, ground := Ground.phase }, { on := 1, ground := Ground.phase }, { on := 2, ground := Ground.phase }, { on := 3, ground := Ground.phase }, { on := 4, ground := Ground.phase }, { on := 5, ground := Ground.phase }]).op, none⟩
 ] (by kernel_rfl)))
 (.seq (.live [2, 3] (.region 7 [
 ⟨(opMove (some 30) (.tmp 8) 9 "value.go:181" #[]).op, none⟩,
 ⟨(opBuild (some 31) 24 #[(.int .i64 0), (.int .i64 0), (.string ⟨#[]⟩)] [(0, 0, 1, (.const (Value.int IntKind.i64 3))), (2, 2, 1, (.tmp 30))] ze24 (by kernel_rfl) 24 "value.go:181" #[{ on := 0, ground := Ground.data }]).op, none⟩,
 ⟨(opMove (some 32) (.tmp 7) 4 "value.go:181" #[{ on := 3, ground := (Ground.gcOnly Departure.lateStores) }]).op, none⟩,
 ⟨(opStore none 24 (.tmp 2) (.tmp 31) 3 sz24 0 "value.go:181" #[{ on := 1, ground := Ground.data }, { on := 0, ground := Ground.phase }, { on := 1, ground := Ground.phase }, { on := 2, ground := (Ground.textOnly Departure.lateStores) }]).op, none⟩,
 ⟨(opAssign (some 3) (.tmp 32) 4 "value.go:181" #[{ on := 2, ground := Ground.data }, { on := 3, ground := Ground.chain }, { on := 0, ground := Ground.phase }, { on := 1, ground := Ground.phase }, { on := 2, ground := Ground.phase }, { on := 3, ground := Ground.phase }]).op, none⟩
 ] (by kernel_rfl)))
 (.live [2, 3] .ret)))))
 .skip)))
 (.seq (.seq (.live [0, 2, 33] (.region 8 [
 ⟨(opMove (some 33) (.tmp 0) 9 "value.go:183" #[]).op, none⟩
 ] (by kernel_rfl)))
 (.block 0 (.seq (.live [0, 2, 33, 34] (.region 9 [
 ⟨(opBinS (some 35) .eql 9 (.tmp 33) (.const (Value.string { data := #[110, 117, 108, 108] })) 9 4 "value.go:184" #[]).op, none⟩,
 ⟨(opAssign (some 34) (.tmp 35) 4 "value.go:184" #[{ on := 0, ground := Ground.data }]).op, none⟩
 ] (by kernel_rfl)))
 (.cond (.tmp 34)
 (.seq (.live [2, 3] (.region 10 [
 ⟨(opBuild (some 36) 24 #[(.int .i64 0), (.int .i64 0), (.string ⟨#[]⟩)] [] ze24 (by kernel_rfl) 24 "value.go:185" #[]).op, none⟩,
 ⟨(opStore none 24 (.tmp 2) (.tmp 36) 3 sz24 0 "value.go:185" #[{ on := 0, ground := Ground.data }, { on := 0, ground := Ground.phase }]).op, none⟩,
 ⟨(opAssign (some 3) (.const (Value.bool true)) 4 "value.go:185" #[{ on := 1, ground := Ground.chain }, { on := 0, ground := Ground.phase }, { on := 1, ground := Ground.phase }]).op, none⟩
 ] (by kernel_rfl)))
 (.live [2, 3] .ret))
 (.seq (.live [0, 2, 33, 37] (.region 11 [
 ⟨(opBinS (some 38) .eql 9 (.tmp 33) (.const (Value.string { data := #[102, 97, 108, 115, 101] })) 9 4 "value.go:186" #[]).op, none⟩,
 ⟨(opAssign (some 37) (.tmp 38) 4 "value.go:186" #[{ on := 0, ground := Ground.data }]).op, none⟩
 ] (by kernel_rfl)))
 (.cond (.tmp 37)
 (.seq (.live [2, 3] (.region 12 [
 ⟨(opBuild (some 39) 24 #[(.int .i64 0), (.int .i64 0), (.string ⟨#[]⟩)] [(0, 0, 1, (.const (Value.int IntKind.i64 2)))] ze24 (by kernel_rfl) 24 "value.go:187" #[]).op, none⟩,
 ⟨(opStore none 24 (.tmp 2) (.tmp 39) 3 sz24 0 "value.go:187" #[{ on := 0, ground := Ground.data }, { on := 0, ground := Ground.phase }]).op, none⟩,
 ⟨(opAssign (some 3) (.const (Value.bool true)) 4 "value.go:187" #[{ on := 1, ground := Ground.chain }, { on := 0, ground := Ground.phase }, { on := 1, ground := Ground.phase }]).op, none⟩
 ] (by kernel_rfl)))
 (.live [2, 3] .ret))
 (.seq (.live [0, 2, 40] (.region 13 [
 ⟨(opBinS (some 41) .eql 9 (.tmp 33) (.const (Value.string { data := #[116, 114, 117, 101] })) 9 4 "value.go:188" #[]).op, none⟩,
 ⟨(opAssign (some 40) (.tmp 41) 4 "value.go:188" #[{ on := 0, ground := Ground.data }]).op, none⟩
 ] (by kernel_rfl)))
 (.cond (.tmp 40)
 (.seq (.live [2, 3] (.region 14 [
 ⟨(opBuild (some 42) 24 #[(.int .i64 0), (.int .i64 0), (.string ⟨#[]⟩)] [(0, 0, 1, (.const (Value.int IntKind.i64 2))), (1, 1, 1, (.const (Value.int IntKind.i64 1)))] ze24 (by kernel_rfl) 24 "value.go:189" #[]).op, none⟩,
 ⟨(opStore none 24 (.tmp 2) (.tmp 42) 3 sz24 0 "value.go:189" #[{ on := 0, ground := Ground.data }, { on := 0, ground := Ground.phase }]).op, none⟩,
 ⟨(opAssign (some 3) (.const (Value.bool true)) 4 "value.go:189" #[{ on := 1, ground := Ground.chain }, { on := 0, ground := Ground.phase }, { on := 1, ground := Ground.phase }]).op, none⟩
 ] (by kernel_rfl)))
 (.live [2, 3] .ret))
 .skip))))))))
 (.seq (.live [2, 9, 10] (.region 15 [
 ⟨(opMove (some 44) (.tmp 0) 9 "value.go:191" #[]).op, none⟩,
 ⟨opCall (Orc.dead 53 Tryd.f53 Tryd.func53 (by kernel_rfl) (by kernel_rfl)) (some 45) [(.tmp 44)] #[9] 74 "value.go:191" #[{ on := 0, ground := Ground.data }], none⟩,
 ⟨(opMove (some 43) (.tmp 45) 74 "value.go:191" #[{ on := 1, ground := Ground.data }]).op, none⟩,
 ⟨(opExtract (some 46) (.tmp 43) 0 3 "value.go:191" #[{ on := 2, ground := Ground.data }]).op, none⟩,
 ⟨(opExtract (some 47) (.tmp 43) 1 73 "value.go:191" #[{ on := 2, ground := Ground.data }, { on := 5, ground := (Ground.gcOnly Departure.lateStores) }]).op, none⟩,
 ⟨(opAssign (some 9) (.tmp 46) 3 "value.go:191" #[{ on := 3, ground := Ground.data }, { on := 1, ground := Ground.chain }, { on := 0, ground := Ground.phase }, { on := 1, ground := Ground.phase }, { on := 2, ground := Ground.phase }, { on := 3, ground := Ground.phase }, { on := 4, ground := (Ground.textOnly Departure.lateStores) }]).op, none⟩,
 ⟨(opAssign (some 10) (.tmp 47) 73 "value.go:191" #[{ on := 4, ground := Ground.data }, { on := 5, ground := Ground.chain }, { on := 0, ground := Ground.phase }, { on := 1, ground := Ground.phase }, { on := 2, ground := Ground.phase }, { on := 3, ground := Ground.phase }, { on := 4, ground := Ground.phase }, { on := 5, ground := Ground.phase }]).op, none⟩
 ] (by kernel_rfl)))
 (.seq (.seq (.live [2, 9, 49] (.region 16 [
 ⟨(opMove (some 48) (.tmp 10) 73 "value.go:192" #[]).op, none⟩,
 ⟨(opNe (some 49) 73 d73 ud73 (.tmp 48) (.const Value.nilIface) (.inl rfl) 73 4 "value.go:192" #[{ on := 0, ground := Ground.data }]).op, none⟩
 ] (by kernel_rfl)))
 (.cond (.tmp 49)
 (.seq (.live [2, 3] (.region 17 [
 ⟨(opBuild (some 50) 24 #[(.int .i64 0), (.int .i64 0), (.string ⟨#[]⟩)] [] ze24 (by kernel_rfl) 24 "value.go:193" #[]).op, none⟩,
 ⟨(opStore none 24 (.tmp 2) (.tmp 50) 3 sz24 0 "value.go:193" #[{ on := 0, ground := Ground.data }, { on := 0, ground := Ground.phase }]).op, none⟩,
 ⟨(opAssign (some 3) (.const (Value.bool false)) 4 "value.go:193" #[{ on := 1, ground := Ground.chain }, { on := 0, ground := Ground.phase }, { on := 1, ground := Ground.phase }]).op, none⟩
 ] (by kernel_rfl)))
 (.live [2, 3] .ret))
 .skip))
 (.seq (.live [2, 3] (.region 18 [
 ⟨(opMove (some 51) (.tmp 9) 3 "value.go:195" #[]).op, none⟩,
 ⟨(opBuild (some 52) 24 #[(.int .i64 0), (.int .i64 0), (.string ⟨#[]⟩)] [(0, 0, 1, (.const (Value.int IntKind.i64 1))), (1, 1, 1, (.tmp 51))] ze24 (by kernel_rfl) 24 "value.go:195" #[{ on := 0, ground := Ground.data }]).op, none⟩,
 ⟨(opStore none 24 (.tmp 2) (.tmp 52) 3 sz24 0 "value.go:195" #[{ on := 1, ground := Ground.data }, { on := 0, ground := Ground.phase }, { on := 1, ground := Ground.phase }]).op, none⟩,
 ⟨(opAssign (some 3) (.const (Value.bool true)) 4 "value.go:195" #[{ on := 2, ground := Ground.chain }, { on := 0, ground := Ground.phase }, { on := 1, ground := Ground.phase }, { on := 2, ground := Ground.phase }]).op, none⟩
 ] (by kernel_rfl)))
 (.live [2, 3] .ret)))))))

noncomputable def f29 : Fun Tryd.prog where
 id := 29
 fn := Tryd.f29
 hf := Tryd.func29
 hname := by kernel_rfl
 body := f29_b
 hbody := by kernel_rfl
 res := [rCell 2 24 d24 ud24 3 sz24, rTmp 3]
 hres := by kernel_rfl
 n := 53
 hn := by kernel_rfl

/-! ### 12: interlock/value.Show (24); results 2; slots: 0 v, 1 v -/
noncomputable def f12_b : Sim Tryd.prog :=
 (.seq (.live [1] (.region 0 [
 ⟨(opBoxF (some 1) 24 (.tmp 0) 0 "value.go:138" #[]).op, none⟩,
 ⟨(opAssign (some 2) (.const (Value.string { data := #[] })) 9 "value.go:138" #[]).op, none⟩
 ] (by kernel_rfl)))
 (.seq (.block 0 (.seq (.live [1, 3] (.region 1 [
 ⟨(opLoadT (.agg [(.int .i64), (.int .i64), .str]) (some 4) 24 (.tmp 1) d24 ud24 3 sz24 (by kernel_rfl) 24 "value.go:140" #[]).op, none⟩,
 ⟨(opCallP p13 (some 5) [(.tmp 4)] #[24] 4 "value.go:140" #[{ on := 0, ground := Ground.data }]).op, none⟩,
 ⟨(opNot (some 6) 4 (.tmp 5) 4 "value.go:140" #[{ on := 1, ground := Ground.data }]).op, none⟩,
 ⟨(opAssign (some 3) (.tmp 6) 4 "value.go:140" #[{ on := 2, ground := Ground.data }, { on := 1, ground := Ground.chain }]).op, none⟩
 ] (by kernel_rfl)))
 (.cond (.tmp 3)
 (.seq (.live [2] (.region 2 [
 ⟨(opAssign (some 2) (.const (Value.string { data := #[63] })) 9 "value.go:141" #[]).op, none⟩
 ] (by kernel_rfl)))
 (.live [2] .ret))
 (.seq (.live [1, 7] (.region 3 [
 ⟨(opFieldAddr (some 8) 24 (.tmp 1) 0 0 1 false fl24_0 (by decide) 0 "value.go:142" #[]).op, none⟩,
 ⟨(opLoadT (.one (.int .i64)) (some 9) 3 (.tmp 8) (.int .i64) Tryd.underlying3 1 sz3 (by kernel_rfl) 3 "value.go:142" #[{ on := 0, ground := Ground.data }]).op, none⟩,
 ⟨(opBin (some 10) .eql 3 (.tmp 9) (.const (Value.int IntKind.i64 1)) 3 4 "value.go:142" #[{ on := 1, ground := Ground.data }]).op, none⟩,
 ⟨(opAssign (some 7) (.tmp 10) 4 "value.go:142" #[{ on := 2, ground := Ground.data }]).op, none⟩
 ] (by kernel_rfl)))
 (.cond (.tmp 7)
 (.seq (.live [2] (.region 4 [
 ⟨(opFieldAddr (some 11) 24 (.tmp 1) 1 1 1 false fl24_1 (by decide) 0 "value.go:143" #[]).op, none⟩,
 ⟨(opLoadT (.one (.int .i64)) (some 12) 3 (.tmp 11) (.int .i64) Tryd.underlying3 1 sz3 (by kernel_rfl) 3 "value.go:143" #[{ on := 0, ground := Ground.data }]).op, none⟩,
 ⟨opCall (Orc.dead 32 Tryd.f32 Tryd.func32 (by kernel_rfl) (by kernel_rfl)) (some 13) [(.tmp 12)] #[3] 9 "value.go:143" #[{ on := 1, ground := Ground.data }], none⟩,
 ⟨(opAssign (some 2) (.tmp 13) 9 "value.go:143" #[{ on := 2, ground := Ground.data }, { on := 2, ground := Ground.chain }, { on := 0, ground := Ground.phase }, { on := 1, ground := Ground.phase }, { on := 2, ground := Ground.phase }]).op, none⟩
 ] (by kernel_rfl)))
 (.live [2] .ret))
 (.seq (.live [1, 14] (.region 5 [
 ⟨(opFieldAddr (some 15) 24 (.tmp 1) 0 0 1 false fl24_0 (by decide) 0 "value.go:144" #[]).op, none⟩,
 ⟨(opLoadT (.one (.int .i64)) (some 16) 3 (.tmp 15) (.int .i64) Tryd.underlying3 1 sz3 (by kernel_rfl) 3 "value.go:144" #[{ on := 0, ground := Ground.data }]).op, none⟩,
 ⟨(opBin (some 17) .eql 3 (.tmp 16) (.const (Value.int IntKind.i64 2)) 3 4 "value.go:144" #[{ on := 1, ground := Ground.data }]).op, none⟩,
 ⟨(opAssign (some 14) (.tmp 17) 4 "value.go:144" #[{ on := 2, ground := Ground.data }]).op, none⟩
 ] (by kernel_rfl)))
 (.cond (.tmp 14)
 (.seq (.live [2] (.region 6 [
 ⟨(opFieldAddr (some 18) 24 (.tmp 1) 1 1 1 false fl24_1 (by decide) 0 "value.go:145" #[]).op, none⟩,
 ⟨(opLoadT (.one (.int .i64)) (some 19) 3 (.tmp 18) (.int .i64) Tryd.underlying3 1 sz3 (by kernel_rfl) 3 "value.go:145" #[{ on := 0, ground := Ground.data }]).op, none⟩,
 ⟨(opBin (some 20) .eql 3 (.tmp 19) (.const (Value.int IntKind.i64 1)) 3 4 "value.go:145" #[{ on := 1, ground := Ground.data }]).op, none⟩,
 ⟨opCall (Orc.dead 33 Tryd.f33 Tryd.func33 (by kernel_rfl) (by kernel_rfl)) (some 21) [(.tmp 20)] #[4] 9 "value.go:145" #[{ on := 2, ground := Ground.data }], none⟩,
 ⟨(opAssign (some 2) (.tmp 21) 9 "value.go:145" #[{ on := 3, ground := Ground.data }, { on := 3, ground := Ground.chain }, { on := 0, ground := Ground.phase }, { on := 1, ground := Ground.phase }, { on := 2, ground := Ground.phase }, { on := 3, ground := Ground.phase }]).op, none⟩
 ] (by kernel_rfl)))
 (.live [2] .ret))
 (.seq (.live [1, 22] (.region 7 [
 ⟨(opFieldAddr (some 23) 24 (.tmp 1) 0 0 1 false fl24_0 (by decide) 0 "value.go:146" #[]).op, none⟩,
 ⟨(opLoadT (.one (.int .i64)) (some 24) 3 (.tmp 23) (.int .i64) Tryd.underlying3 1 sz3 (by kernel_rfl) 3 "value.go:146" #[{ on := 0, ground := Ground.data }]).op, none⟩,
 ⟨(opBin (some 25) .eql 3 (.tmp 24) (.const (Value.int IntKind.i64 3)) 3 4 "value.go:146" #[{ on := 1, ground := Ground.data }]).op, none⟩,
 ⟨(opAssign (some 22) (.tmp 25) 4 "value.go:146" #[{ on := 2, ground := Ground.data }]).op, none⟩
 ] (by kernel_rfl)))
 (.cond (.tmp 22)
 (.seq (.live [2] (.region 8 [
 ⟨(opFieldAddr (some 26) 24 (.tmp 1) 2 2 1 false fl24_2 (by decide) 0 "value.go:147" #[]).op, none⟩,
 ⟨(opLoadT (.one .str) (some 27) 9 (.tmp 26) .string Tryd.underlying9 1 sz9 (by kernel_rfl) 9 "value.go:147" #[{ on := 0, ground := Ground.data }]).op, none⟩,
 ⟨(opCallP p34 (some 28) [(.tmp 27)] #[9] 9 "value.go:147" #[{ on := 1, ground := Ground.data }]).op, none⟩,
 ⟨(opAssign (some 2) (.tmp 28) 9 "value.go:147" #[{ on := 2, ground := Ground.data }, { on := 2, ground := Ground.chain }, { on := 0, ground := Ground.phase }, { on := 1, ground := Ground.phase }, { on := 2, ground := Ground.phase }]).op, none⟩
 ] (by kernel_rfl)))
 (.live [2] .ret))
 .skip)))))))))
 (.seq (.live [2] (.region 9 [
 ⟨(opAssign (some 2) (.const (Value.string { data := #[110, 117, 108, 108] })) 9 "value.go:149" #[]).op, none⟩
 ] (by kernel_rfl)))
 (.live [2] .ret))))

noncomputable def f12 : Fun Tryd.prog where
 id := 12
 fn := Tryd.f12
 hf := Tryd.func12
 hname := by kernel_rfl
 body := f12_b
 hbody := by kernel_rfl
 res := [rTmp 2]
 hres := by kernel_rfl
 n := 29
 hn := by kernel_rfl

/-! ### 10: interlock/value.Read (9); results 2, 3; slots: 0 s, 1 s, 4 v, 5 ok -/
noncomputable def f10_b : Sim Tryd.prog :=
 (.seq (.live [0, 2] (.region 0 [
 ⟨(opAlloc (some 2) 24 (.agg #[(.int .i64 0), (.int .i64 0), (.string ⟨#[]⟩)]) ze24 0 "value.go:199" #[]).op, none⟩,
 ⟨(opAssign (some 3) (.const (Value.bool false)) 4 "value.go:199" #[]).op, none⟩
 ] (by kernel_rfl)))
 (.seq (.live [0, 2, 4, 5] (.region 1 [
 ⟨(opMove (some 7) (.tmp 0) 9 "value.go:200" #[]).op, none⟩,
 ⟨opCall (f29.orc 0) (some 8) [(.tmp 7)] #[9] 25 "value.go:200" #[{ on := 0, ground := Ground.data }], none⟩,
 ⟨(opMove (some 6) (.tmp 8) 25 "value.go:200" #[{ on := 1, ground := Ground.data }]).op, none⟩,
 ⟨(opExtract (some 9) (.tmp 6) 0 24 "value.go:200" #[{ on := 2, ground := Ground.data }]).op, none⟩,
 ⟨(opExtract (some 10) (.tmp 6) 1 4 "value.go:200" #[{ on := 2, ground := Ground.data }, { on := 6, ground := (Ground.gcOnly Departure.lateStores) }]).op, none⟩,
 ⟨(opAlloc (some 4) 24 (.agg #[(.int .i64 0), (.int .i64 0), (.string ⟨#[]⟩)]) ze24 0 "value.go:200" #[]).op, none⟩,
 ⟨(opStore none 24 (.tmp 4) (.tmp 9) 3 sz24 0 "value.go:200" #[{ on := 5, ground := Ground.data }, { on := 3, ground := Ground.data }, { on := 1, ground := Ground.chain }, { on := 0, ground := Ground.phase }, { on := 1, ground := Ground.phase }, { on := 2, ground := Ground.phase }, { on := 3, ground := Ground.phase }, { on := 4, ground := (Ground.textOnly Departure.lateStores) }, { on := 5, ground := Ground.phase }]).op, none⟩,
 ⟨(opAssign (some 5) (.tmp 10) 4 "value.go:200" #[{ on := 4, ground := Ground.data }, { on := 6, ground := Ground.chain }, { on := 0, ground := Ground.phase }, { on := 1, ground := Ground.phase }, { on := 2, ground := Ground.phase }, { on := 3, ground := Ground.phase }, { on := 4, ground := Ground.phase }, { on := 5, ground := Ground.phase }, { on := 6, ground := Ground.phase }]).op, none⟩
 ] (by kernel_rfl)))
 (.seq (.seq (.live [2, 4, 23] (.region 2 [
 ⟨(opMove (some 11) (.tmp 5) 4 "value.go:201" #[]).op, none⟩,
 ⟨(opNot (some 12) 4 (.tmp 11) 4 "value.go:201" #[{ on := 0, ground := Ground.data }]).op, none⟩,
 ⟨(opMove (some 13) (.tmp 12) 4 "value.go:201" #[{ on := 1, ground := Ground.data }]).op, none⟩,
 ⟨(opLoadT (.agg [(.int .i64), (.int .i64), .str]) (some 14) 24 (.tmp 4) d24 ud24 3 sz24 (by kernel_rfl) 24 "value.go:201" #[{ on := 2, ground := Ground.guard }]).op, (some (2, 13, false))⟩,
 ⟨(opCallP p13 (some 15) [(.tmp 14)] #[24] 4 "value.go:201" #[{ on := 3, ground := Ground.data }, { on := 2, ground := Ground.chain }, { on := 2, ground := Ground.guard }]).op, (some (2, 13, false))⟩,
 ⟨(opNot (some 16) 4 (.tmp 15) 4 "value.go:201" #[{ on := 4, ground := Ground.data }, { on := 2, ground := Ground.guard }]).op, (some (2, 13, false))⟩,
 ⟨(opPick (some 17) (.tmp 13) (.const (Value.bool true)) (.tmp 16) 4 "value.go:201" #[{ on := 2, ground := Ground.data }, { on := 5, ground := Ground.data }]).op, none⟩,
 ⟨(opMove (some 18) (.tmp 17) 4 "value.go:201" #[{ on := 6, ground := Ground.data }, { on := 4, ground := Ground.chain }]).op, none⟩,
 ⟨(opLoadT (.agg [(.int .i64), (.int .i64), .str]) (some 19) 24 (.tmp 4) d24 ud24 3 sz24 (by kernel_rfl) 24 "value.go:201" #[{ on := 7, ground := Ground.guard }]).op, (some (7, 18, false))⟩,
 ⟨opCall (f12.orc 0) (some 20) [(.tmp 19)] #[24] 9 "value.go:201" #[{ on := 8, ground := Ground.data }, { on := 7, ground := Ground.chain }, { on := 7, ground := Ground.guard }], (some (7, 18, false))⟩,
 ⟨(opMove (some 21) (.tmp 0) 9 "value.go:201" #[{ on := 7, ground := Ground.guard }]).op, (some (7, 18, false))⟩,
 ⟨(opBinS (some 22) .neq 9 (.tmp 20) (.tmp 21) 9 4 "value.go:201" #[{ on := 9, ground := Ground.data }, { on := 10, ground := Ground.data }, { on := 7, ground := Ground.guard }]).op, (some (7, 18, false))⟩,
 ⟨(opPick (some 23) (.tmp 18) (.const (Value.bool true)) (.tmp 22) 4 "value.go:201" #[{ on := 7, ground := Ground.data }, { on := 11, ground := Ground.data }]).op, none⟩
 ] (by kernel_rfl)))
 (.cond (.tmp 23)
 (.seq (.live [2, 3] (.region 3 [
 ⟨(opBuild (some 24) 24 #[(.int .i64 0), (.int .i64 0), (.string ⟨#[]⟩)] [] ze24 (by kernel_rfl) 24 "value.go:202" #[]).op, none⟩,
 ⟨(opStore none 24 (.tmp 2) (.tmp 24) 3 sz24 0 "value.go:202" #[{ on := 0, ground := Ground.data }, { on := 0, ground := Ground.phase }]).op, none⟩,
 ⟨(opAssign (some 3) (.const (Value.bool false)) 4 "value.go:202" #[{ on := 1, ground := Ground.chain }, { on := 0, ground := Ground.phase }, { on := 1, ground := Ground.phase }]).op, none⟩
 ] (by kernel_rfl)))
 (.live [2, 3] .ret))
 .skip))
 (.seq (.live [2, 3] (.region 4 [
 ⟨(opLoadT (.agg [(.int .i64), (.int .i64), .str]) (some 25) 24 (.tmp 4) d24 ud24 3 sz24 (by kernel_rfl) 24 "value.go:204" #[]).op, none⟩,
 ⟨(opStore none 24 (.tmp 2) (.tmp 25) 3 sz24 0 "value.go:204" #[{ on := 0, ground := Ground.data }, { on := 0, ground := Ground.phase }]).op, none⟩,
 ⟨(opAssign (some 3) (.const (Value.bool true)) 4 "value.go:204" #[{ on := 1, ground := Ground.chain }, { on := 0, ground := Ground.phase }, { on := 1, ground := Ground.phase }]).op, none⟩
 ] (by kernel_rfl)))
 (.live [2, 3] .ret)))))

noncomputable def f10 : Fun Tryd.prog where
 id := 10
 fn := Tryd.f10
 hf := Tryd.func10
 hname := by kernel_rfl
 body := f10_b
 hbody := by kernel_rfl
 res := [rCell 2 24 d24 ud24 3 sz24, rTmp 3]
 hres := by kernel_rfl
 n := 26
 hn := by kernel_rfl

/-! ### 9: interlock/interlocklaw04.alive (); results 0; slots: 1 v, 2 ok, 3 b, 4 is -/
noncomputable def f9_b : Sim Tryd.prog :=
 (.seq (.live [] (.region 0 [
 ⟨(opAssign (some 0) (.const (Value.bool false)) 4 "law.go:12" #[]).op, none⟩
 ] (by kernel_rfl)))
 (.seq (.live [1, 2] (.region 1 [
 ⟨opCall (f10.orc 0) (some 6) [(.const (Value.string { data := #[34, 97, 92, 50, 50, 98, 34] }))] #[9] 25 "law.go:13" #[], none⟩,
 ⟨(opMove (some 5) (.tmp 6) 25 "law.go:13" #[{ on := 0, ground := Ground.data }]).op, none⟩,
 ⟨(opExtract (some 7) (.tmp 5) 0 24 "law.go:13" #[{ on := 1, ground := Ground.data }]).op, none⟩,
 ⟨(opExtract (some 8) (.tmp 5) 1 4 "law.go:13" #[{ on := 1, ground := Ground.data }, { on := 5, ground := (Ground.gcOnly Departure.lateStores) }]).op, none⟩,
 ⟨(opAlloc (some 1) 24 (.agg #[(.int .i64 0), (.int .i64 0), (.string ⟨#[]⟩)]) ze24 0 "law.go:13" #[]).op, none⟩,
 ⟨(opStore none 24 (.tmp 1) (.tmp 7) 3 sz24 0 "law.go:13" #[{ on := 4, ground := Ground.data }, { on := 2, ground := Ground.data }, { on := 0, ground := Ground.chain }, { on := 0, ground := Ground.phase }, { on := 1, ground := Ground.phase }, { on := 2, ground := Ground.phase }, { on := 3, ground := (Ground.textOnly Departure.lateStores) }, { on := 4, ground := Ground.phase }]).op, none⟩,
 ⟨(opAssign (some 2) (.tmp 8) 4 "law.go:13" #[{ on := 3, ground := Ground.data }, { on := 5, ground := Ground.chain }, { on := 0, ground := Ground.phase }, { on := 1, ground := Ground.phase }, { on := 2, ground := Ground.phase }, { on := 3, ground := Ground.phase }, { on := 4, ground := Ground.phase }, { on := 5, ground := Ground.phase }]).op, none⟩
 ] (by kernel_rfl)))
 (.seq (.live [1, 2, 3, 4] (.region 2 [
 ⟨(opBuild (some 10) 24 #[(.int .i64 0), (.int .i64 0), (.string ⟨#[]⟩)] [(0, 0, 1, (.const (Value.int IntKind.i64 1))), (1, 1, 1, (.const (Value.int IntKind.i64 (-1))))] ze24 (by kernel_rfl) 24 "law.go:14" #[]).op, none⟩,
 ⟨(opBuildSlice (some 11) 37 1 [(0, (.tmp 10))] 24 3 32 (.agg #[(.int .i64 0), (.int .i64 0), (.string ⟨#[]⟩)]) el37 (by kernel_rfl) (by decide) 37 "law.go:14" #[{ on := 0, ground := Ground.data }]).op, none⟩,
 ⟨opCall (f25.orc 20) (some 12) [(.tmp 11)] #[37] 47 "law.go:14" #[{ on := 1, ground := Ground.data }], none⟩,
 ⟨(opMove (some 9) (.tmp 12) 47 "law.go:14" #[{ on := 2, ground := Ground.data }]).op, none⟩,
 ⟨(opExtract (some 13) (.tmp 9) 0 46 "law.go:14" #[{ on := 3, ground := Ground.data }]).op, none⟩,
 ⟨(opExtract (some 14) (.tmp 9) 1 4 "law.go:14" #[{ on := 3, ground := Ground.data }, { on := 6, ground := (Ground.gcOnly Departure.lateStores) }]).op, none⟩,
 ⟨(opAssign (some 3) (.tmp 13) 46 "law.go:14" #[{ on := 4, ground := Ground.data }, { on := 2, ground := Ground.chain }, { on := 0, ground := Ground.phase }, { on := 1, ground := Ground.phase }, { on := 2, ground := Ground.phase }, { on := 3, ground := Ground.phase }, { on := 4, ground := Ground.phase }, { on := 5, ground := (Ground.textOnly Departure.lateStores) }]).op, none⟩,
 ⟨(opAssign (some 4) (.tmp 14) 4 "law.go:14" #[{ on := 5, ground := Ground.data }, { on := 6, ground := Ground.chain }, { on := 0, ground := Ground.phase }, { on := 1, ground := Ground.phase }, { on := 2, ground := Ground.phase }, { on := 3, ground := Ground.phase }, { on := 4, ground := Ground.phase }, { on := 5, ground := Ground.phase }, { on := 6, ground := Ground.phase }]).op, none⟩
 ] (by kernel_rfl)))
 (.seq (.live [0] (.region 3 [
 ⟨(opMove (some 15) (.tmp 2) 4 "law.go:15" #[]).op, none⟩,
 ⟨(opMove (some 16) (.tmp 15) 4 "law.go:15" #[{ on := 0, ground := Ground.data }]).op, none⟩,
 ⟨(opLoadT (.agg [(.int .i64), (.int .i64), .str]) (some 17) 24 (.tmp 1) d24 ud24 3 sz24 (by kernel_rfl) 24 "law.go:15" #[{ on := 1, ground := Ground.guard }]).op, (some (1, 16, true))⟩,
 ⟨(opBuild (some 18) 24 #[(.int .i64 0), (.int .i64 0), (.string ⟨#[]⟩)] [(0, 0, 1, (.const (Value.int IntKind.i64 3))), (2, 2, 1, (.const (Value.string { data := #[97, 34, 98] })))] ze24 (by kernel_rfl) 24 "law.go:15" #[{ on := 1, ground := Ground.guard }]).op, (some (1, 16, true))⟩,
 ⟨(opEqS (some 19) 24 [(0, 0), (1, 0), (2, 2)] eq24 (.tmp 17) (.tmp 18) 24 4 "law.go:15" #[{ on := 2, ground := Ground.data }, { on := 3, ground := Ground.data }, { on := 1, ground := Ground.guard }]).op, (some (1, 16, true))⟩,
 ⟨(opPick (some 20) (.tmp 16) (.tmp 19) (.const (Value.bool false)) 4 "law.go:15" #[{ on := 1, ground := Ground.data }, { on := 4, ground := Ground.data }]).op, none⟩,
 ⟨(opMove (some 21) (.tmp 20) 4 "law.go:15" #[{ on := 5, ground := Ground.data }, { on := 1, ground := Ground.chain }]).op, none⟩,
 ⟨(opMove (some 22) (.tmp 4) 4 "law.go:15" #[{ on := 6, ground := Ground.guard }]).op, (some (6, 21, true))⟩,
 ⟨(opPick (some 23) (.tmp 21) (.tmp 22) (.const (Value.bool false)) 4 "law.go:15" #[{ on := 6, ground := Ground.data }, { on := 7, ground := Ground.data }]).op, none⟩,
 ⟨(opMove (some 24) (.tmp 23) 4 "law.go:15" #[{ on := 8, ground := Ground.data }, { on := 6, ground := Ground.chain }]).op, none⟩,
 ⟨(opMove (some 25) (.tmp 3) 46 "law.go:15" #[{ on := 9, ground := Ground.guard }]).op, (some (9, 24, true))⟩,
 ⟨(opBuildSlice (some 26) 46 3 [(0, (.const (Value.int IntKind.u8 2))), (1, (.const (Value.int IntKind.u8 2))), (2, (.const (Value.int IntKind.u8 1)))] 5 1 1 (.int .u8 0) el46 (by kernel_rfl) (by decide) 46 "law.go:15" #[{ on := 9, ground := Ground.guard }]).op, (some (9, 24, true))⟩,
 ⟨opCall (f28.orc 20) (some 27) [(.tmp 25), (.tmp 26)] #[46, 46] 4 "law.go:15" #[{ on := 10, ground := Ground.data }, { on := 11, ground := Ground.data }, { on := 9, ground := Ground.chain }, { on := 9, ground := Ground.guard }], (some (9, 24, true))⟩,
 ⟨(opPick (some 28) (.tmp 24) (.tmp 27) (.const (Value.bool false)) 4 "law.go:15" #[{ on := 9, ground := Ground.data }, { on := 12, ground := Ground.data }]).op, none⟩,
 ⟨(opMove (some 29) (.tmp 28) 4 "law.go:15" #[{ on := 13, ground := Ground.data }, { on := 12, ground := Ground.chain }]).op, none⟩,
 ⟨(opBuild (some 30) 24 #[(.int .i64 0), (.int .i64 0), (.string ⟨#[]⟩)] [] ze24 (by kernel_rfl) 24 "law.go:15" #[{ on := 14, ground := Ground.guard }]).op, (some (14, 29, true))⟩,
 ⟨(opBuild (some 31) 24 #[(.int .i64 0), (.int .i64 0), (.string ⟨#[]⟩)] [(0, 0, 1, (.const (Value.int IntKind.i64 1)))] ze24 (by kernel_rfl) 24 "law.go:15" #[{ on := 14, ground := Ground.guard }]).op, (some (14, 29, true))⟩,
 ⟨opCall (f21.orc 0) (some 32) [(.tmp 30), (.tmp 31)] #[24, 24] 3 "law.go:15" #[{ on := 15, ground := Ground.data }, { on := 16, ground := Ground.data }, { on := 14, ground := Ground.chain }, { on := 14, ground := Ground.guard }], (some (14, 29, true))⟩,
 ⟨(opBin (some 33) .eql 3 (.tmp 32) (.const (Value.int IntKind.i64 (-1))) 3 4 "law.go:15" #[{ on := 17, ground := Ground.data }, { on := 14, ground := Ground.guard }]).op, (some (14, 29, true))⟩,
 ⟨(opPick (some 34) (.tmp 29) (.tmp 33) (.const (Value.bool false)) 4 "law.go:15" #[{ on := 14, ground := Ground.data }, { on := 18, ground := Ground.data }]).op, none⟩,
 ⟨(opMove (some 35) (.tmp 34) 4 "law.go:15" #[{ on := 19, ground := Ground.data }, { on := 17, ground := Ground.chain }]).op, none⟩,
 ⟨(opLoadT (.agg [(.int .i64), (.int .i64), .str]) (some 36) 24 (.tmp 1) d24 ud24 3 sz24 (by kernel_rfl) 24 "law.go:15" #[{ on := 20, ground := Ground.guard }]).op, (some (20, 35, true))⟩,
 ⟨opCall (f12.orc 0) (some 37) [(.tmp 36)] #[24] 9 "law.go:15" #[{ on := 21, ground := Ground.data }, { on := 20, ground := Ground.chain }, { on := 20, ground := Ground.guard }], (some (20, 35, true))⟩,
 ⟨(opBinS (some 38) .eql 9 (.tmp 37) (.const (Value.string { data := #[34, 97, 92, 50, 50, 98, 34] })) 9 4 "law.go:15" #[{ on := 22, ground := Ground.data }, { on := 20, ground := Ground.guard }]).op, (some (20, 35, true))⟩,
 ⟨(opPick (some 39) (.tmp 35) (.tmp 38) (.const (Value.bool false)) 4 "law.go:15" #[{ on := 20, ground := Ground.data }, { on := 23, ground := Ground.data }]).op, none⟩,
 ⟨(opAssign (some 0) (.tmp 39) 4 "law.go:15" #[{ on := 24, ground := Ground.data }, { on := 22, ground := Ground.chain }, { on := 0, ground := Ground.phase }, { on := 1, ground := Ground.phase }, { on := 2, ground := Ground.phase }, { on := 3, ground := Ground.phase }, { on := 4, ground := Ground.phase }, { on := 5, ground := Ground.phase }, { on := 6, ground := Ground.phase }, { on := 7, ground := Ground.phase }, { on := 8, ground := Ground.phase }, { on := 9, ground := Ground.phase }, { on := 10, ground := Ground.phase }, { on := 11, ground := Ground.phase }, { on := 12, ground := Ground.phase }, { on := 13, ground := Ground.phase }, { on := 14, ground := Ground.phase }, { on := 15, ground := Ground.phase }, { on := 16, ground := Ground.phase }, { on := 17, ground := Ground.phase }, { on := 18, ground := Ground.phase }, { on := 19, ground := Ground.phase }, { on := 20, ground := Ground.phase }, { on := 21, ground := Ground.phase }, { on := 22, ground := Ground.phase }, { on := 23, ground := Ground.phase }, { on := 24, ground := Ground.phase }]).op, none⟩
 ] (by kernel_rfl)))
 (.live [0] .ret)))))

noncomputable def f9 : Fun Tryd.prog where
 id := 9
 fn := Tryd.f9
 hf := Tryd.func9
 hname := by kernel_rfl
 body := f9_b
 hbody := by kernel_rfl
 res := [rTmp 0]
 hres := by kernel_rfl
 n := 40
 hn := by kernel_rfl

end Go.Proofs.YtcfedmheblbdnaaDoor.V

/- What the functions' runs come to; the right sides were printed by a tool, Lean checks them. -/
set_option linter.unusedVariables false
set_option maxRecDepth 100000
namespace Go.Proofs.YtcfedmheblbdnaaDoor.V
open Go Go.V Go.RowKit

theorem alive_run  :
 (f9.run 20 [] ⟨[], []⟩ : Ans) =
 branch (AV.bool (cdec (5 ≤ 100000000)))
 (branch (AV.bool (cdec (3 ≤ 100000000)))
 (branch (AV.bool (cdec (3 ≤ 100000000)))
 (some
 (Fin.ret (AV.bool true),
 St.mk
 [Ob.cells
 [AV.int IntKind.i64 (3 : Int), AV.int IntKind.i64 (0 : Int),
 AV.str
 (unqS
 (((ByteArray.mk
 #[(34 : UInt8), (97 : UInt8), (92 : UInt8), (50 : UInt8), (50 : UInt8), (98 : UInt8),
 (34 : UInt8)]).extract
 1 7).extract
 0 5))],
 Ob.cells
 [AV.int IntKind.i64 (3 : Int), AV.int IntKind.i64 (0 : Int),
 AV.str
 (unqS
 (((ByteArray.mk
 #[(34 : UInt8), (97 : UInt8), (92 : UInt8), (50 : UInt8), (50 : UInt8), (98 : UInt8),
 (34 : UInt8)]).extract
 1 7).extract
 0 5))],
 Ob.cells
 [AV.int IntKind.i64 (3 : Int), AV.int IntKind.i64 (0 : Int),
 AV.str
 (unqS
 (((ByteArray.mk
 #[(34 : UInt8), (97 : UInt8), (92 : UInt8), (50 : UInt8), (50 : UInt8), (98 : UInt8),
 (34 : UInt8)]).extract
 1 7).extract
 0 5))],
 Ob.cells
 [AV.int IntKind.i64 (3 : Int), AV.int IntKind.i64 (0 : Int),
 AV.str
 (unqS
 (((ByteArray.mk
 #[(34 : UInt8), (97 : UInt8), (92 : UInt8), (50 : UInt8), (50 : UInt8), (98 : UInt8),
 (34 : UInt8)]).extract
 1 7).extract
 0 5))],
 Ob.cells [AV.int IntKind.i64 (1 : Int), AV.int IntKind.i64 (-1 : Int), AV.str (ByteArray.mk #[])]]
 [(1, 3), (1, 1), (1, 1)]))
 none)
 none)
 none := by kernel_rfl

end Go.Proofs.YtcfedmheblbdnaaDoor.V

/- Values: alive. -/
set_option linter.unusedVariables false
namespace Go.Proofs.YtcfedmheblbdnaaDoor.V
open Go Go.V Go.RowKit

theorem alive_can : ∃ F st', f9.run F [] ⟨[], []⟩ = some (.ret (.bool true), st') := by
  have h5 : cdec (5 ≤ 100000000) = true := by rw [cdec_iff]; omega
  have h3 : cdec (3 ≤ 100000000) = true := by rw [cdec_iff]; omega
  have h := alive_run
  rw [h5, h3, br_t, br_t, br_t] at h
  exact ⟨20, _, h⟩
noncomputable def p9 : POrc Tryd.prog := f9.flatIf dec0 (fun _ => []) dec0_enc (fun _ => true) (fun _ => .bool true) (fun _ => trivial) (fun _ => trivial) fun _ _ => alive_can
end Go.Proofs.YtcfedmheblbdnaaDoor.V

/- The functions' pieces, as told by gen.py. -/
set_option linter.unusedVariables false
set_option maxRecDepth 20000
namespace Go.Proofs.YtcfedmheblbdnaaDoor.V
open Go Go.V Go.RowKit

theorem fl32_2 : fieldB Tryd.prog 32 2 2 1 false = true := by kernel_rfl
theorem sz4 : (Tryd.prog.info? 4).map (·.size) = some 1 := by kernel_rfl
theorem fl32_1 : fieldB Tryd.prog 32 1 1 1 false = true := by kernel_rfl
noncomputable abbrev d32 : TypeDesc := (Tryd.prog.underlying 32).getD .bool
theorem ud32 : Tryd.prog.underlying 32 = some d32 := by kernel_rfl
theorem sz32 : (Tryd.prog.info? 32).map (·.size) = some 3 := by kernel_rfl
theorem ze32 : (Tryd.prog.info? 32).bind (·.zero) = some (.agg #[(.string ⟨#[]⟩), (.int .i64 0), (.bool false)]) := by kernel_rfl

/-! ### 14: interlock/value.Fits (24, 32); results 4; slots: 0 v, 1 c, 2 v, 3 c -/
noncomputable def f14_b : Sim Tryd.prog :=
 (.seq (.live [2, 3] (.region 0 [
 ⟨(opBoxF (some 2) 24 (.tmp 0) 0 "value.go:53" #[]).op, none⟩,
 ⟨(opBoxF (some 3) 32 (.tmp 1) 0 "value.go:53" #[]).op, none⟩,
 ⟨(opAssign (some 4) (.const (Value.int IntKind.i64 0)) 33 "value.go:53" #[]).op, none⟩
 ] (by kernel_rfl)))
 (.seq (.block 0 (.seq (.live [2, 3, 5] (.region 1 [
 ⟨(opLoadT (.agg [(.int .i64), (.int .i64), .str]) (some 6) 24 (.tmp 2) d24 ud24 3 sz24 (by kernel_rfl) 24 "value.go:55" #[]).op, none⟩,
 ⟨(opCallP p13 (some 7) [(.tmp 6)] #[24] 4 "value.go:55" #[{ on := 0, ground := Ground.data }]).op, none⟩,
 ⟨(opNot (some 8) 4 (.tmp 7) 4 "value.go:55" #[{ on := 1, ground := Ground.data }]).op, none⟩,
 ⟨(opAssign (some 5) (.tmp 8) 4 "value.go:55" #[{ on := 2, ground := Ground.data }, { on := 1, ground := Ground.chain }]).op, none⟩
 ] (by kernel_rfl)))
 (.cond (.tmp 5)
 (.seq (.live [4] (.region 2 [
 ⟨(opAssign (some 4) (.const (Value.int IntKind.i64 10)) 33 "value.go:56" #[]).op, none⟩
 ] (by kernel_rfl)))
 (.live [4] .ret))
 (.seq (.live [2, 3, 9] (.region 3 [
 ⟨(opFieldAddr (some 10) 24 (.tmp 2) 0 0 1 false fl24_0 (by decide) 0 "value.go:57" #[]).op, none⟩,
 ⟨(opLoadT (.one (.int .i64)) (some 11) 3 (.tmp 10) (.int .i64) Tryd.underlying3 1 sz3 (by kernel_rfl) 3 "value.go:57" #[{ on := 0, ground := Ground.data }]).op, none⟩,
 ⟨(opBin (some 12) .eql 3 (.tmp 11) (.const (Value.int IntKind.i64 0)) 3 4 "value.go:57" #[{ on := 1, ground := Ground.data }]).op, none⟩,
 ⟨(opMove (some 13) (.tmp 12) 4 "value.go:57" #[{ on := 2, ground := Ground.data }]).op, none⟩,
 ⟨(opFieldAddr (some 14) 32 (.tmp 3) 2 2 1 false fl32_2 (by decide) 0 "value.go:57" #[{ on := 3, ground := Ground.guard }]).op, (some (3, 13, true))⟩,
 ⟨(opLoadT (.one .bool) (some 15) 4 (.tmp 14) .bool Tryd.underlying4 1 sz4 (by kernel_rfl) 4 "value.go:57" #[{ on := 4, ground := Ground.data }, { on := 3, ground := Ground.guard }]).op, (some (3, 13, true))⟩,
 ⟨(opPick (some 16) (.tmp 13) (.tmp 15) (.const (Value.bool false)) 4 "value.go:57" #[{ on := 3, ground := Ground.data }, { on := 5, ground := Ground.data }]).op, none⟩,
 ⟨(opAssign (some 9) (.tmp 16) 4 "value.go:57" #[{ on := 6, ground := Ground.data }, { on := 3, ground := Ground.chain }]).op, none⟩
 ] (by kernel_rfl)))
 (.cond (.tmp 9)
 (.seq (.live [4] (.region 4 [
 ⟨(opAssign (some 4) (.const (Value.int IntKind.i64 16)) 33 "value.go:58" #[]).op, none⟩
 ] (by kernel_rfl)))
 (.live [4] .ret))
 (.seq (.live [17] (.region 5 [
 ⟨(opFieldAddr (some 18) 24 (.tmp 2) 0 0 1 false fl24_0 (by decide) 0 "value.go:59" #[]).op, none⟩,
 ⟨(opLoadT (.one (.int .i64)) (some 19) 3 (.tmp 18) (.int .i64) Tryd.underlying3 1 sz3 (by kernel_rfl) 3 "value.go:59" #[{ on := 0, ground := Ground.data }]).op, none⟩,
 ⟨(opBin (some 20) .neq 3 (.tmp 19) (.const (Value.int IntKind.i64 0)) 3 4 "value.go:59" #[{ on := 1, ground := Ground.data }]).op, none⟩,
 ⟨(opMove (some 21) (.tmp 20) 4 "value.go:59" #[{ on := 2, ground := Ground.data }]).op, none⟩,
 ⟨(opFieldAddr (some 22) 24 (.tmp 2) 0 0 1 false fl24_0 (by decide) 0 "value.go:59" #[{ on := 3, ground := Ground.guard }]).op, (some (3, 21, true))⟩,
 ⟨(opLoadT (.one (.int .i64)) (some 23) 3 (.tmp 22) (.int .i64) Tryd.underlying3 1 sz3 (by kernel_rfl) 3 "value.go:59" #[{ on := 4, ground := Ground.data }, { on := 3, ground := Ground.guard }]).op, (some (3, 21, true))⟩,
 ⟨(opFieldAddr (some 24) 32 (.tmp 3) 1 1 1 false fl32_1 (by decide) 0 "value.go:59" #[{ on := 3, ground := Ground.guard }]).op, (some (3, 21, true))⟩,
 ⟨(opLoadT (.one (.int .i64)) (some 25) 3 (.tmp 24) (.int .i64) Tryd.underlying3 1 sz3 (by kernel_rfl) 3 "value.go:59" #[{ on := 6, ground := Ground.data }, { on := 3, ground := Ground.guard }]).op, (some (3, 21, true))⟩,
 ⟨(opBin (some 26) .neq 3 (.tmp 23) (.tmp 25) 3 4 "value.go:59" #[{ on := 5, ground := Ground.data }, { on := 7, ground := Ground.data }, { on := 3, ground := Ground.guard }]).op, (some (3, 21, true))⟩,
 ⟨(opPick (some 27) (.tmp 21) (.tmp 26) (.const (Value.bool false)) 4 "value.go:59" #[{ on := 3, ground := Ground.data }, { on := 8, ground := Ground.data }]).op, none⟩,
 ⟨(opAssign (some 17) (.tmp 27) 4 "value.go:59" #[{ on := 9, ground := Ground.data }, { on := 3, ground := Ground.chain }]).op, none⟩
 ] (by kernel_rfl)))
 (.cond (.tmp 17)
 (.seq (.live [4] (.region 6 [
 ⟨(opAssign (some 4) (.const (Value.int IntKind.i64 14)) 33 "value.go:60" #[]).op, none⟩
 ] (by kernel_rfl)))
 (.live [4] .ret))
 .skip)))))))
 (.seq (.live [4] (.region 7 [
 ⟨(opAssign (some 4) (.const (Value.int IntKind.i64 0)) 33 "value.go:62" #[]).op, none⟩
 ] (by kernel_rfl)))
 (.live [4] .ret))))

noncomputable def f14 : Fun Tryd.prog where
 id := 14
 fn := Tryd.f14
 hf := Tryd.func14
 hname := by kernel_rfl
 body := f14_b
 hbody := by kernel_rfl
 res := [rTmp 4]
 hres := by kernel_rfl
 n := 28
 hn := by kernel_rfl

/-! ### 5: interlock/interlocklaw04.ValueFits (24, 32); results 4; slots: 0 v, 1 c, 2 v, 3 c, 5 e, 6 wide, 7 f -/
noncomputable def f5_b : Sim Tryd.prog :=
 (.seq (.live [2, 3] (.region 0 [
 ⟨(opBoxF (some 2) 24 (.tmp 0) 0 "law.go:121" #[]).op, none⟩,
 ⟨(opBoxF (some 3) 32 (.tmp 1) 0 "law.go:121" #[]).op, none⟩,
 ⟨(opAssign (some 4) (.const (Value.bool false)) 4 "law.go:121" #[]).op, none⟩
 ] (by kernel_rfl)))
 (.seq (.seq (.live [2, 3, 9] (.region 1 [
 ⟨(opCallP p9 (some 8) [] #[] 4 "law.go:122" #[]).op, none⟩,
 ⟨(opNot (some 9) 4 (.tmp 8) 4 "law.go:122" #[{ on := 0, ground := Ground.data }]).op, none⟩
 ] (by kernel_rfl)))
 (.cond (.tmp 9)
 (.seq (.live [4] (.region 2 [
 ⟨(opAssign (some 4) (.const (Value.bool false)) 4 "law.go:123" #[]).op, none⟩
 ] (by kernel_rfl)))
 (.live [4] .ret))
 .skip))
 (.seq (.live [2, 3, 5] (.region 3 [
 ⟨(opLoadT (.agg [(.int .i64), (.int .i64), .str]) (some 10) 24 (.tmp 2) d24 ud24 3 sz24 (by kernel_rfl) 24 "law.go:125" #[]).op, none⟩,
 ⟨(opLoadT (.agg [.str, (.int .i64), .bool]) (some 11) 32 (.tmp 3) d32 ud32 3 sz32 (by kernel_rfl) 32 "law.go:125" #[]).op, none⟩,
 ⟨opCall (f14.orc 0) (some 12) [(.tmp 10), (.tmp 11)] #[24, 32] 33 "law.go:125" #[{ on := 0, ground := Ground.data }, { on := 1, ground := Ground.data }], none⟩,
 ⟨(opAssign (some 5) (.tmp 12) 33 "law.go:125" #[{ on := 2, ground := Ground.data }, { on := 2, ground := Ground.chain }, { on := 0, ground := Ground.phase }, { on := 1, ground := Ground.phase }, { on := 2, ground := Ground.phase }]).op, none⟩
 ] (by kernel_rfl)))
 (.seq (.live [2, 3, 5, 6] (.region 4 [
 ⟨(opLoadT (.agg [.str, (.int .i64), .bool]) (some 13) 32 (.tmp 3) d32 ud32 3 sz32 (by kernel_rfl) 32 "law.go:126" #[]).op, none⟩,
 ⟨(opAlloc (some 6) 32 (.agg #[(.string ⟨#[]⟩), (.int .i64 0), (.bool false)]) ze32 0 "law.go:126" #[]).op, none⟩,
 ⟨(opStore none 32 (.tmp 6) (.tmp 13) 3 sz32 0 "law.go:126" #[{ on := 1, ground := Ground.data }, { on := 0, ground := Ground.data }, { on := 0, ground := Ground.phase }, { on := 1, ground := Ground.phase }]).op, none⟩
 ] (by kernel_rfl)))
 (.seq (.live [2, 3, 5, 6] (.region 5 [
 ⟨(opFieldAddr (some 14) 32 (.tmp 6) 2 2 1 false fl32_2 (by decide) 0 "law.go:127" #[]).op, none⟩,
 ⟨(opStore none 4 (.tmp 14) (.const (Value.bool false)) 1 sz4 0 "law.go:127" #[{ on := 0, ground := Ground.data }]).op, none⟩
 ] (by kernel_rfl)))
 (.seq (.live [2, 3, 5, 7] (.region 6 [
 ⟨(opLoadT (.agg [(.int .i64), (.int .i64), .str]) (some 15) 24 (.tmp 2) d24 ud24 3 sz24 (by kernel_rfl) 24 "law.go:128" #[]).op, none⟩,
 ⟨(opLoadT (.agg [.str, (.int .i64), .bool]) (some 16) 32 (.tmp 6) d32 ud32 3 sz32 (by kernel_rfl) 32 "law.go:128" #[]).op, none⟩,
 ⟨opCall (f14.orc 0) (some 17) [(.tmp 15), (.tmp 16)] #[24, 32] 33 "law.go:128" #[{ on := 0, ground := Ground.data }, { on := 1, ground := Ground.data }], none⟩,
 ⟨(opAssign (some 7) (.tmp 17) 33 "law.go:128" #[{ on := 2, ground := Ground.data }, { on := 2, ground := Ground.chain }, { on := 0, ground := Ground.phase }, { on := 1, ground := Ground.phase }, { on := 2, ground := Ground.phase }]).op, none⟩
 ] (by kernel_rfl)))
 (.seq (.seq (.live [2, 3, 5, 7, 19] (.region 7 [
 ⟨(opMove (some 18) (.tmp 5) 33 "law.go:129" #[]).op, none⟩,
 ⟨(opBin (some 19) .eql 33 (.tmp 18) (.const (Value.int IntKind.i64 0)) 33 4 "law.go:129" #[{ on := 0, ground := Ground.data }]).op, none⟩
 ] (by kernel_rfl)))
 (.cond (.tmp 19)
 (.seq (.live [4] (.region 8 [
 ⟨(opMove (some 20) (.tmp 7) 33 "law.go:130" #[]).op, none⟩,
 ⟨(opBin (some 21) .eql 33 (.tmp 20) (.const (Value.int IntKind.i64 0)) 33 4 "law.go:130" #[{ on := 0, ground := Ground.data }]).op, none⟩,
 ⟨(opMove (some 22) (.tmp 21) 4 "law.go:130" #[{ on := 1, ground := Ground.data }]).op, none⟩,
 ⟨(opLoadT (.agg [(.int .i64), (.int .i64), .str]) (some 23) 24 (.tmp 2) d24 ud24 3 sz24 (by kernel_rfl) 24 "law.go:130" #[{ on := 2, ground := Ground.guard }]).op, (some (2, 22, true))⟩,
 ⟨(opCallP p13 (some 24) [(.tmp 23)] #[24] 4 "law.go:130" #[{ on := 3, ground := Ground.data }, { on := 2, ground := Ground.chain }, { on := 2, ground := Ground.guard }]).op, (some (2, 22, true))⟩,
 ⟨(opPick (some 25) (.tmp 22) (.tmp 24) (.const (Value.bool false)) 4 "law.go:130" #[{ on := 2, ground := Ground.data }, { on := 4, ground := Ground.data }]).op, none⟩,
 ⟨(opMove (some 26) (.tmp 25) 4 "law.go:130" #[{ on := 5, ground := Ground.data }, { on := 4, ground := Ground.chain }]).op, none⟩,
 ⟨(opFieldAddr (some 27) 24 (.tmp 2) 0 0 1 false fl24_0 (by decide) 0 "law.go:130" #[{ on := 6, ground := Ground.guard }]).op, (some (6, 26, true))⟩,
 ⟨(opLoadT (.one (.int .i64)) (some 28) 3 (.tmp 27) (.int .i64) Tryd.underlying3 1 sz3 (by kernel_rfl) 3 "law.go:130" #[{ on := 7, ground := Ground.data }, { on := 6, ground := Ground.guard }]).op, (some (6, 26, true))⟩,
 ⟨(opFieldAddr (some 29) 32 (.tmp 3) 1 1 1 false fl32_1 (by decide) 0 "law.go:130" #[{ on := 6, ground := Ground.guard }]).op, (some (6, 26, true))⟩,
 ⟨(opLoadT (.one (.int .i64)) (some 30) 3 (.tmp 29) (.int .i64) Tryd.underlying3 1 sz3 (by kernel_rfl) 3 "law.go:130" #[{ on := 9, ground := Ground.data }, { on := 6, ground := Ground.guard }]).op, (some (6, 26, true))⟩,
 ⟨(opBin (some 31) .eql 3 (.tmp 28) (.tmp 30) 3 4 "law.go:130" #[{ on := 8, ground := Ground.data }, { on := 10, ground := Ground.data }, { on := 6, ground := Ground.guard }]).op, (some (6, 26, true))⟩,
 ⟨(opMove (some 32) (.tmp 31) 4 "law.go:130" #[{ on := 11, ground := Ground.data }, { on := 6, ground := Ground.chain }, { on := 6, ground := Ground.guard }]).op, (some (6, 26, true))⟩,
 ⟨(opFieldAddr (some 33) 24 (.tmp 2) 0 0 1 false fl24_0 (by decide) 0 "law.go:130" #[{ on := 12, ground := Ground.guard }]).op, (some (12, 32, false))⟩,
 ⟨(opLoadT (.one (.int .i64)) (some 34) 3 (.tmp 33) (.int .i64) Tryd.underlying3 1 sz3 (by kernel_rfl) 3 "law.go:130" #[{ on := 13, ground := Ground.data }, { on := 12, ground := Ground.guard }]).op, (some (12, 32, false))⟩,
 ⟨(opBin (some 35) .eql 3 (.tmp 34) (.const (Value.int IntKind.i64 0)) 3 4 "law.go:130" #[{ on := 14, ground := Ground.data }, { on := 12, ground := Ground.guard }]).op, (some (12, 32, false))⟩,
 ⟨(opMove (some 36) (.tmp 35) 4 "law.go:130" #[{ on := 15, ground := Ground.data }, { on := 12, ground := Ground.chain }, { on := 12, ground := Ground.guard }]).op, (some (12, 32, false))⟩,
 ⟨(opFieldAddr (some 37) 32 (.tmp 3) 2 2 1 false fl32_2 (by decide) 0 "law.go:130" #[{ on := 16, ground := Ground.guard }]).op, (some (16, 36, true))⟩,
 ⟨(opLoadT (.one .bool) (some 38) 4 (.tmp 37) .bool Tryd.underlying4 1 sz4 (by kernel_rfl) 4 "law.go:130" #[{ on := 17, ground := Ground.data }, { on := 16, ground := Ground.guard }]).op, (some (16, 36, true))⟩,
 ⟨(opNot (some 39) 4 (.tmp 38) 4 "law.go:130" #[{ on := 18, ground := Ground.data }, { on := 16, ground := Ground.guard }]).op, (some (16, 36, true))⟩,
 ⟨(opPick (some 40) (.tmp 36) (.tmp 39) (.const (Value.bool false)) 4 "law.go:130" #[{ on := 16, ground := Ground.data }, { on := 19, ground := Ground.data }, { on := 12, ground := Ground.guard }]).op, (some (12, 32, false))⟩,
 ⟨(opPick (some 41) (.tmp 32) (.const (Value.bool true)) (.tmp 40) 4 "law.go:130" #[{ on := 12, ground := Ground.data }, { on := 20, ground := Ground.data }, { on := 6, ground := Ground.guard }]).op, (some (6, 26, true))⟩,
 ⟨(opPick (some 42) (.tmp 26) (.tmp 41) (.const (Value.bool false)) 4 "law.go:130" #[{ on := 6, ground := Ground.data }, { on := 21, ground := Ground.data }]).op, none⟩,
 ⟨(opAssign (some 4) (.tmp 42) 4 "law.go:130" #[{ on := 22, ground := Ground.data }, { on := 16, ground := Ground.chain }, { on := 0, ground := Ground.phase }, { on := 1, ground := Ground.phase }, { on := 2, ground := Ground.phase }, { on := 3, ground := Ground.phase }, { on := 4, ground := Ground.phase }, { on := 5, ground := Ground.phase }, { on := 6, ground := Ground.phase }, { on := 7, ground := Ground.phase }, { on := 8, ground := Ground.phase }, { on := 9, ground := Ground.phase }, { on := 10, ground := Ground.phase }, { on := 11, ground := Ground.phase }, { on := 12, ground := Ground.phase }, { on := 13, ground := Ground.phase }, { on := 14, ground := Ground.phase }, { on := 15, ground := Ground.phase }, { on := 16, ground := Ground.phase }, { on := 17, ground := Ground.phase }, { on := 18, ground := Ground.phase }, { on := 19, ground := Ground.phase }, { on := 20, ground := Ground.phase }, { on := 21, ground := Ground.phase }, { on := 22, ground := Ground.phase }]).op, none⟩
 ] (by kernel_rfl)))
 (.live [4] .ret))
 .skip))
 (.seq (.live [4] (.region 9 [
 ⟨(opMove (some 43) (.tmp 5) 33 "law.go:132" #[]).op, none⟩,
 ⟨(opMove (some 44) (.tmp 7) 33 "law.go:132" #[]).op, none⟩,
 ⟨(opBin (some 45) .eql 33 (.tmp 43) (.tmp 44) 33 4 "law.go:132" #[{ on := 0, ground := Ground.data }, { on := 1, ground := Ground.data }]).op, none⟩,
 ⟨(opMove (some 46) (.tmp 45) 4 "law.go:132" #[{ on := 2, ground := Ground.data }]).op, none⟩,
 ⟨(opMove (some 47) (.tmp 5) 33 "law.go:132" #[{ on := 3, ground := Ground.guard }]).op, (some (3, 46, false))⟩,
 ⟨(opBin (some 48) .eql 33 (.tmp 47) (.const (Value.int IntKind.i64 16)) 33 4 "law.go:132" #[{ on := 4, ground := Ground.data }, { on := 3, ground := Ground.guard }]).op, (some (3, 46, false))⟩,
 ⟨(opMove (some 49) (.tmp 48) 4 "law.go:132" #[{ on := 5, ground := Ground.data }, { on := 3, ground := Ground.chain }, { on := 3, ground := Ground.guard }]).op, (some (3, 46, false))⟩,
 ⟨(opMove (some 50) (.tmp 7) 33 "law.go:132" #[{ on := 6, ground := Ground.guard }]).op, (some (6, 49, true))⟩,
 ⟨(opBin (some 51) .eql 33 (.tmp 50) (.const (Value.int IntKind.i64 0)) 33 4 "law.go:132" #[{ on := 7, ground := Ground.data }, { on := 6, ground := Ground.guard }]).op, (some (6, 49, true))⟩,
 ⟨(opPick (some 52) (.tmp 49) (.tmp 51) (.const (Value.bool false)) 4 "law.go:132" #[{ on := 6, ground := Ground.data }, { on := 8, ground := Ground.data }, { on := 3, ground := Ground.guard }]).op, (some (3, 46, false))⟩,
 ⟨(opMove (some 53) (.tmp 52) 4 "law.go:132" #[{ on := 9, ground := Ground.data }, { on := 6, ground := Ground.chain }, { on := 3, ground := Ground.guard }]).op, (some (3, 46, false))⟩,
 ⟨(opFieldAddr (some 54) 24 (.tmp 2) 0 0 1 false fl24_0 (by decide) 0 "law.go:132" #[{ on := 10, ground := Ground.guard }]).op, (some (10, 53, true))⟩,
 ⟨(opLoadT (.one (.int .i64)) (some 55) 3 (.tmp 54) (.int .i64) Tryd.underlying3 1 sz3 (by kernel_rfl) 3 "law.go:132" #[{ on := 11, ground := Ground.data }, { on := 10, ground := Ground.guard }]).op, (some (10, 53, true))⟩,
 ⟨(opBin (some 56) .eql 3 (.tmp 55) (.const (Value.int IntKind.i64 0)) 3 4 "law.go:132" #[{ on := 12, ground := Ground.data }, { on := 10, ground := Ground.guard }]).op, (some (10, 53, true))⟩,
 ⟨(opPick (some 57) (.tmp 53) (.tmp 56) (.const (Value.bool false)) 4 "law.go:132" #[{ on := 10, ground := Ground.data }, { on := 13, ground := Ground.data }, { on := 3, ground := Ground.guard }]).op, (some (3, 46, false))⟩,
 ⟨(opPick (some 58) (.tmp 46) (.const (Value.bool true)) (.tmp 57) 4 "law.go:132" #[{ on := 3, ground := Ground.data }, { on := 14, ground := Ground.data }]).op, none⟩,
 ⟨(opAssign (some 4) (.tmp 58) 4 "law.go:132" #[{ on := 15, ground := Ground.data }, { on := 10, ground := Ground.chain }, { on := 0, ground := Ground.phase }, { on := 1, ground := Ground.phase }, { on := 2, ground := Ground.phase }, { on := 3, ground := Ground.phase }, { on := 4, ground := Ground.phase }, { on := 5, ground := Ground.phase }, { on := 6, ground := Ground.phase }, { on := 7, ground := Ground.phase }, { on := 8, ground := Ground.phase }, { on := 9, ground := Ground.phase }, { on := 10, ground := Ground.phase }, { on := 11, ground := Ground.phase }, { on := 12, ground := Ground.phase }, { on := 13, ground := Ground.phase }, { on := 14, ground := Ground.phase }, { on := 15, ground := Ground.phase }]).op, none⟩
 ] (by kernel_rfl)))
 (.live [4] .ret)))))))))

noncomputable def f5 : Fun Tryd.prog where
 id := 5
 fn := Tryd.f5
 hf := Tryd.func5
 hname := by kernel_rfl
 body := f5_b
 hbody := by kernel_rfl
 res := [rTmp 4]
 hres := by kernel_rfl
 n := 59
 hn := by kernel_rfl

end Go.Proofs.YtcfedmheblbdnaaDoor.V

/- What the functions' runs come to; the right sides were printed by a tool, Lean checks them. -/
set_option linter.unusedVariables false
set_option maxRecDepth 100000
namespace Go.Proofs.YtcfedmheblbdnaaDoor.V
open Go Go.V Go.RowKit

theorem fits_run (F : Nat) (v : Va) (nm : ByteArray) (k : Int) (nn : Bool) (st : St) :
 (f14.run F [v.av, .agg [.str nm, .int .i64 k, .bool nn]] st : Ans) =
 branch (AV.bool !rightV (Va.mk (hdI v.cells) (hdI v.cells.tail) (hdS v.cells.tail.tail)))
 (some (Fin.ret (AV.int IntKind.i64 (10 : Int)), st))
 (branch (AV.bool (v.k == (0 : Int)))
 (branch (AV.bool nn) (some (Fin.ret (AV.int IntKind.i64 (16 : Int)), st))
 (branch (AV.bool (v.k != (0 : Int)))
 (branch (AV.bool (v.k != k)) (some (Fin.ret (AV.int IntKind.i64 (14 : Int)), st))
 (some (Fin.ret (AV.int IntKind.i64 (0 : Int)), st)))
 (some (Fin.ret (AV.int IntKind.i64 (0 : Int)), st))))
 (branch (AV.bool (v.k != (0 : Int)))
 (branch (AV.bool (v.k != k)) (some (Fin.ret (AV.int IntKind.i64 (14 : Int)), st))
 (some (Fin.ret (AV.int IntKind.i64 (0 : Int)), st)))
 (some (Fin.ret (AV.int IntKind.i64 (0 : Int)), st)))) := by kernel_rfl

end Go.Proofs.YtcfedmheblbdnaaDoor.V

/- Values: ValueFits is true. -/
set_option linter.unusedVariables false
namespace Go.Proofs.YtcfedmheblbdnaaDoor.V
open Go Go.V Go.RowKit

def tyVa : Ty := .st [.int .i64, .int .i64, .str]
def tyCo : Ty := .st [.str, .int .i64, .bool]
theorem co_shape {xs : List AV} (h : Ty.Shape tyCo xs) : ∃ (nm : ByteArray) (k : Int) (nn : Bool), xs = [.str nm, .int .i64 k, .bool nn] := by
  obtain ⟨a, b, rfl, ⟨s, rfl, hs⟩, h⟩ := h
  obtain ⟨a, b, rfl, ⟨n, rfl, _⟩, h⟩ := h
  obtain ⟨a, b, rfl, ⟨k, rfl⟩, h⟩ := h
  obtain rfl : b = [] := h
  exact ⟨s, n, k, rfl⟩
end Go.Proofs.YtcfedmheblbdnaaDoor.V

/- Values: orders. -/
set_option linter.unusedVariables false
namespace Go.Proofs.YtcfedmheblbdnaaDoor.V
open Go Go.V Go.RowKit

/-- A comparison is an order. -/
structure Lin {α : Type} (c : α → α → Int) : Prop where
  neg : ∀ a b, c a b = -c b a
  eq : ∀ a b, c a b = 0 → a = b
  tr : ∀ a b d, c a b < 0 → c b d < 0 → c a d < 0
theorem Lin.self {α : Type} {c : α → α → Int} (h : Lin c) (a : α) : c a a = 0 := by have := h.neg a a; omega
def lexL {α : Type} (c : α → α → Int) : List α → List α → Int
  | [], [] => 0
  | [], _ :: _ => -1
  | _ :: _, [] => 1
  | a :: l, b :: r => bif c a b != 0 then c a b else lexL c l r
theorem lin_int : Lin cmpI := by
  have hd : ∀ a b, (a < b ∧ cmpI a b = -1) ∨ (b < a ∧ cmpI a b = 1) ∨ (a = b ∧ cmpI a b = 0) := by
    intro a b
    unfold cmpI
    by_cases h1 : a < b
    · left; simp [h1]
    · by_cases h2 : b < a
      · right; left; simp [h1, h2]
      · right; right; simp [h1, h2]; omega
  refine ⟨fun a b => ?_, fun a b hz => ?_, fun a b d h1 h2 => ?_⟩
  · have := hd a b; have := hd b a; omega
  · have := hd a b; omega
  · have := hd a b; have := hd b d; have := hd a d; omega
def cmpB (a b : List UInt8) : Int := bif Op.bytesLess a b then -1 else bif a == b then 0 else 1
theorem cmpB_lex : ∀ a b, cmpB a b = lexL (fun (x y : UInt8) => cmpI x.toNat y.toNat) a b
  | [], [] => rfl
  | [], _ :: _ => rfl
  | _ :: _, [] => rfl
  | x :: l, y :: r => by
    have ih := cmpB_lex l r
    rw [lexL, ← ih]
    unfold cmpB
    rw [Op.bytesLess]
    have e1 : (decide (x < y)) = decide ((x.toNat : Int) < y.toNat) := decide_eq_decide.mpr (by rw [UInt8.lt_iff_toNat_lt]; omega)
    have e2 : (x == y) = decide ((x.toNat : Int) = y.toNat) := by
      rw [Bool.eq_iff_iff]; simp only [beq_iff_eq, decide_eq_true_eq]
      constructor
      · intro h; rw [h]
      · intro h; exact UInt8.toNat_inj.mp (by omega)
    rw [List.cons_beq_cons, e1, e2]
    unfold cmpI
    by_cases h1 : (x.toNat : Int) < y.toNat
    · have : ¬ (x.toNat : Int) = y.toNat := by omega
      simp [h1]
    · by_cases h2 : (y.toNat : Int) < x.toNat
      · have : ¬ (x.toNat : Int) = y.toNat := by omega
        simp [h1, h2, this]
      · have : (x.toNat : Int) = y.toNat := by omega
        simp [this]
theorem Lin.law {α : Type} {c : α → α → Int} (h : Lin c) (x y z : α) : ¬ (c x y ≤ 0 ∧ c y z ≤ 0 ∧ 0 < c x z) ∧ ¬ (c x y < 0 ∧ c y z ≤ 0 ∧ 0 ≤ c x z) ∧ ¬ (0 ≤ c x y ∧ 0 ≤ c y z ∧ c x z < 0) := by
  have n1 := h.neg x y
  have n2 := h.neg y z
  have n3 := h.neg x z
  have t1 : c x y < 0 → c y z < 0 → c x z < 0 := h.tr x y z
  have t2 : c z y < 0 → c y x < 0 → c z x < 0 := h.tr z y x
  have e1 : c x y = 0 → c x z = c y z := fun e => by rw [h.eq _ _ e]
  have e2 : c y z = 0 → c x z = c x y := fun e => by rw [h.eq _ _ e]
  refine ⟨?_, ?_, ?_⟩ <;> omega
def cmpV (a b : Va) : Int := orI (cmpI a.k b.k) (cmpI a.n b.n) (cmpS a.s b.s)
theorem bytes_inj {s t : ByteArray} (h : s.toList = t.toList) : s = t := by
  rw [ByteArray.toList_eq, ByteArray.toList_eq] at h
  have := Array.toList_inj.mp h
  cases s; cases t; simp only at this; rw [this]
end Go.Proofs.YtcfedmheblbdnaaDoor.V

/- What the functions' runs come to; the right sides were printed by a tool, Lean checks them. -/
set_option linter.unusedVariables false
set_option maxRecDepth 100000
namespace Go.Proofs.YtcfedmheblbdnaaDoor.V
open Go Go.V Go.RowKit

theorem order_run (F : Nat) (k n k' n' : Int) (s s' : ByteArray) (st : St) :
 (f21.run F [.agg [.int .i64 k, .int .i64 n, .str s], .agg [.int .i64 k', .int .i64 n', .str s']] st : Ans) =
 some (Fin.ret (AV.int IntKind.i64 (orI (cmpI k k') (cmpI n n') (cmpS s s'))), st) := by kernel_rfl

end Go.Proofs.YtcfedmheblbdnaaDoor.V

/- Values: the order of values as a callee; rows. -/
set_option linter.unusedVariables false
namespace Go.Proofs.YtcfedmheblbdnaaDoor.V
open Go Go.V Go.RowKit

noncomputable def p21 : POrc Tryd.prog := f21.pureIf dec2v (fun a => [a.1.av, a.2.av]) dec2v_enc (fun _ => true) (fun a => .int .i64 (cmpV a.1 a.2)) (fun a _ => ⟨rfl, fun _ _ => trivial⟩) fun a _ => ⟨0, fun st => order_run 0 a.1.k a.1.n a.2.k a.2.n a.1.s a.2.s st⟩
theorem p21_nat : p21.Nat := pureIf_nat
/-- A value's cells, and what they say. -/
def tVa : List LT := [.int .i64, .int .i64, .str]
def vaR (r : List AV) : Va := ⟨hdI r, hdI r.tail, hdS r.tail.tail⟩
def rowsV (l : List (List AV)) : List Va := l.map vaR
def okV (l : List (List AV)) : Bool := l.all (isRow tVa)
def ordV (l r : List (List AV)) : Int := lexL cmpV (rowsV l) (rowsV r)
def longV (l : List (List AV)) : Bool := decide ((l.length : Int) > 100) || l.any fun r => decide (((vaR r).s.size : Int) > 1000)
noncomputable def sameV (l r : List (List AV)) : Bool := cdec (rowsV l = rowsV r)
/-- A row, read no deeper than it must. -/
def nsR (x : AV) : Option (Bool × List (List AV)) :=
  match x with
  | .ns z s l => match Nat.beq s 3 with
    | true => some (z, l)
    | false => none
  | _ => none
def nsA (a : Bool × List (List AV)) : AV := .ns a.1 3 a.2
theorem nsR_some {x : AV} {a : Bool × List (List AV)} (h : nsR x = some a) : x = nsA a := by
  unfold nsR at h
  split at h
  · split at h
    · rename_i h1; cases h; rw [Nat.eq_of_beq_eq_true h1]; rfl
    · cases h
  · cases h
def dec1r : List AV → Option (Bool × List (List AV))
  | [x] => nsR x
  | _ => none
theorem dec1r_enc : ∀ l a, dec1r l = some a → l = [nsA a] := by
  intro l a h
  unfold dec1r at h
  split at h
  · rw [nsR_some h]
  · cases h
abbrev Ro2 := (Bool × List (List AV)) × (Bool × List (List AV))
def dec2r : List AV → Option Ro2
  | [x, y] => match nsR x with
    | some a => match nsR y with
      | some b => some (a, b)
      | none => none
    | none => none
  | _ => none
theorem dec2r_enc : ∀ l a, dec2r l = some a → l = [nsA a.1, nsA a.2] := by
  intro l a h
  unfold dec2r at h
  split at h
  · split at h
    · rename_i h1
      split at h
      · rename_i h2; cases h; rw [nsR_some h1, nsR_some h2]
      · cases h
    · cases h
  · cases h
def dec2f : List AV → Option Ro2
  | [x, y, z] => match z with
    | .fn f a b => match f with
      | .func n => match Nat.beq n 21 with
        | true => match a with
          | [] => match b with
            | [] => dec2r [x, y]
            | _ => none
          | _ => none
        | false => none
      | _ => none
    | _ => none
  | _ => none
theorem dec2f_enc : ∀ l a, dec2f l = some a → l = [nsA a.1, nsA a.2, .fn (.func 21) [] []] := by
  intro l a h
  unfold dec2f at h
  split at h
  · split at h
    · split at h
      · split at h
        · rename_i h1
          split at h
          · split at h
            · have := dec2r_enc _ _ h
              simp only [List.cons.injEq, and_true] at this
              rw [this.1, this.2, Nat.eq_of_beq_eq_true h1]
            · cases h
          · cases h
        · cases h
      · cases h
    · cases h
  · cases h
noncomputable def OsO : List (Orc Tryd.prog) := [p21.orcS.orc]
theorem isRow_va {r : List AV} (h : isRow tVa r = true) : r = (vaR r).cells := (isRow_eq h).trans rfl
theorem isVa {r : List AV} (h : isRow tVa r = true) : (LD.agg tVa).is r = true := by
  simp only [isRow, Bool.and_eq_true] at h; exact h.1
theorem isVaS {r : List AV} (h : isRow tVa r = true) : (LD.one LT.str).is (List.drop 2 r) = true := by
  rw [isRow_eq h]; rfl
end Go.Proofs.YtcfedmheblbdnaaDoor.V

/- The functions' pieces, as told by gen.py. -/
set_option linter.unusedVariables false
set_option maxRecDepth 20000
namespace Go.Proofs.YtcfedmheblbdnaaDoor.V
open Go Go.V Go.RowKit


/-! ### 35: slices.CompareFunc[interlock/api.Row,interlock/api.Row,interlock/api.Value,interlock/api.Value] (37, 37, 44); results 6; slots: 0 s1, 1 s2, 2 cmp, 3 s1, 4 s2, 5 cmp, 7 i, 8 v1, 9 v2, 10 c -/
/-- A loop's round; at its head live: 0 s1, 1 s2, 2 cmp, 11 , 12 , 13  -/
noncomputable def f35_l0 (Os : List (Orc Tryd.prog)) : Sim Tryd.prog :=
 (.seq (.live [0, 1, 2, 11, 12, 13, 14] (.region 2 [
 ⟨(opBin (some 14) .lss 3 (.tmp 13) (.tmp 12) 3 0 "slices.go:79" #[]).op, none⟩
 ] (by kernel_rfl)))
 (.seq (.cond (.tmp 14)
 .skip
 (.live [0, 1] (.exit 0)))
 (.seq (.block 1 (.seq (.live [0, 1, 2, 7, 8, 11, 12, 13] (.items 3 [
 .one ((opMove (some 15) (.tmp 13) 3 "slices.go:79" #[]).op),
 .one ((opIndexAddrT (some 16) 37 (.tmp 11) (.tmp 13) 24 3 Tryd.underlying37 sz24 0 "slices.go:79" #[]).op),
 .one ((opLoadT (.agg [(.int .i64), (.int .i64), .str]) (some 17) 24 (.tmp 16) d24 ud24 3 sz24 (by kernel_rfl) 24 "slices.go:79" #[{ on := 1, ground := Ground.data }]).op),
 .three (op3Box 8 24 (.agg #[(.int .i64 0), (.int .i64 0), (.string ⟨#[]⟩)]) ze24 (.tmp 17) (by rfl) 3 sz24 (by kernel_rfl) 39 (by rfl) 7 (.tmp 15) (by rfl) (by rfl) (by rfl) 0 0 3 "slices.go:79" "slices.go:79" "slices.go:79" #[] #[{ on := 3, ground := Ground.data }, { on := 2, ground := Ground.data }, { on := 4, ground := Ground.chain }, { on := 0, ground := Ground.phase }, { on := 1, ground := Ground.phase }, { on := 2, ground := Ground.phase }, { on := 3, ground := Ground.phase }, { on := 4, ground := Ground.phase }] #[{ on := 0, ground := Ground.data }, { on := 0, ground := Ground.phase }, { on := 1, ground := Ground.phase }, { on := 2, ground := Ground.phase }, { on := 3, ground := Ground.phase }])
 ]))
 (.seq (.seq (.live [0, 1, 2, 7, 8, 11, 12, 13, 21] (.region 4 [
 ⟨(opMove (some 18) (.tmp 7) 3 "slices.go:80" #[]).op, none⟩,
 ⟨(opMove (some 19) (.tmp 1) 37 "slices.go:80" #[]).op, none⟩,
 ⟨(opLen (some 20) (.tmp 19) 37 (.slice 24) Tryd.underlying37 3 "slices.go:80" #[{ on := 1, ground := Ground.data }]).op, none⟩,
 ⟨(opBin (some 21) .geq 3 (.tmp 18) (.tmp 20) 3 4 "slices.go:80" #[{ on := 0, ground := Ground.data }, { on := 2, ground := Ground.data }]).op, none⟩
 ] (by kernel_rfl)))
 (.cond (.tmp 21)
 (.seq (.live [6] (.region 5 [
 ⟨(opAssign (some 6) (.const (Value.int IntKind.i64 1)) 3 "slices.go:81" #[]).op, none⟩
 ] (by kernel_rfl)))
 (.live [6] .ret))
 .skip))
 (.seq (.live [0, 1, 2, 8, 9, 11, 12, 13] (.items 6 [
 .one ((opMove (some 22) (.tmp 1) 37 "slices.go:83" #[]).op),
 .one ((opMove (some 23) (.tmp 7) 3 "slices.go:83" #[]).op),
 .one ((opIndexAddrT (some 24) 37 (.tmp 22) (.tmp 23) 24 3 Tryd.underlying37 sz24 0 "slices.go:83" #[{ on := 0, ground := Ground.data }, { on := 1, ground := Ground.data }]).op),
 .one ((opLoadT (.agg [(.int .i64), (.int .i64), .str]) (some 25) 24 (.tmp 24) d24 ud24 3 sz24 (by kernel_rfl) 24 "slices.go:83" #[{ on := 2, ground := Ground.data }]).op),
 .two (op2Box 9 24 (.agg #[(.int .i64 0), (.int .i64 0), (.string ⟨#[]⟩)]) ze24 (.tmp 25) (by rfl) 3 sz24 (by kernel_rfl) 39 (by rfl) 0 0 "slices.go:83" "slices.go:83" #[] #[{ on := 4, ground := Ground.data }, { on := 3, ground := Ground.data }, { on := 0, ground := Ground.phase }, { on := 1, ground := Ground.phase }, { on := 2, ground := Ground.phase }, { on := 3, ground := Ground.phase }, { on := 4, ground := Ground.phase }])
 ]))
 (.seq (.live [0, 1, 2, 10, 11, 12, 13] (.region 7 [
 ⟨(opMove (some 26) (.tmp 2) 44 "slices.go:84" #[]).op, none⟩,
 ⟨(opLoadT (.agg [(.int .i64), (.int .i64), .str]) (some 27) 24 (.tmp 8) d24 ud24 3 sz24 (by kernel_rfl) 24 "slices.go:84" #[]).op, none⟩,
 ⟨(opLoadT (.agg [(.int .i64), (.int .i64), .str]) (some 28) 24 (.tmp 9) d24 ud24 3 sz24 (by kernel_rfl) 24 "slices.go:84" #[]).op, none⟩,
 ⟨opCallDyn Os (some 29) 26 [(.tmp 27), (.tmp 28)] #[24, 24] 3 "slices.go:84" #[{ on := 0, ground := Ground.data }, { on := 1, ground := Ground.data }, { on := 2, ground := Ground.data }], none⟩,
 ⟨(opAssign (some 10) (.tmp 29) 3 "slices.go:84" #[{ on := 3, ground := Ground.data }, { on := 3, ground := Ground.chain }, { on := 0, ground := Ground.phase }, { on := 1, ground := Ground.phase }, { on := 2, ground := Ground.phase }, { on := 3, ground := Ground.phase }]).op, none⟩
 ] (by kernel_rfl)))
 (.seq (.live [0, 1, 2, 10, 11, 12, 13, 31] (.region 8 [
 ⟨(opMove (some 30) (.tmp 10) 3 "slices.go:84" #[]).op, none⟩,
 ⟨(opBin (some 31) .neq 3 (.tmp 30) (.const (Value.int IntKind.i64 0)) 3 4 "slices.go:84" #[{ on := 0, ground := Ground.data }]).op, none⟩
 ] (by kernel_rfl)))
 (.cond (.tmp 31)
 (.seq (.live [6] (.region 9 [
 ⟨(opMove (some 32) (.tmp 10) 3 "slices.go:85" #[]).op, none⟩,
 ⟨(opAssign (some 6) (.tmp 32) 3 "slices.go:85" #[{ on := 0, ground := Ground.data }, { on := 0, ground := Ground.phase }]).op, none⟩
 ] (by kernel_rfl)))
 (.live [6] .ret))
 .skip)))))))
 (.live [0, 1, 2, 11, 12, 13] (.region 10 [
 ⟨(opBin (some 33) .add 3 (.tmp 13) (.const (Value.int IntKind.i64 1)) 3 3 "slices.go:79" #[]).op, none⟩,
 ⟨(opMove (some 13) (.tmp 33) 3 "slices.go:79" #[{ on := 0, ground := Ground.data }]).op, none⟩
 ] (by kernel_rfl))))))

/-- What follows a loop. -/
noncomputable def f35_r0 (Os : List (Orc Tryd.prog)) : Sim Tryd.prog :=
 (.seq (.seq (.live [38] (.region 11 [
 ⟨(opMove (some 34) (.tmp 0) 37 "slices.go:88" #[]).op, none⟩,
 ⟨(opLen (some 35) (.tmp 34) 37 (.slice 24) Tryd.underlying37 3 "slices.go:88" #[{ on := 0, ground := Ground.data }]).op, none⟩,
 ⟨(opMove (some 36) (.tmp 1) 37 "slices.go:88" #[]).op, none⟩,
 ⟨(opLen (some 37) (.tmp 36) 37 (.slice 24) Tryd.underlying37 3 "slices.go:88" #[{ on := 2, ground := Ground.data }]).op, none⟩,
 ⟨(opBin (some 38) .lss 3 (.tmp 35) (.tmp 37) 3 4 "slices.go:88" #[{ on := 1, ground := Ground.data }, { on := 3, ground := Ground.data }]).op, none⟩
 ] (by kernel_rfl)))
 (.cond (.tmp 38)
 (.seq (.live [6] (.region 12 [
 ⟨(opAssign (some 6) (.const (Value.int IntKind.i64 (-1))) 3 "slices.go:89" #[]).op, none⟩
 ] (by kernel_rfl)))
 (.live [6] .ret))
 .skip))
 (.seq (.live [6] (.region 13 [
 ⟨(opAssign (some 6) (.const (Value.int IntKind.i64 0)) 3 "slices.go:91" #[]).op, none⟩
 ] (by kernel_rfl)))
 (.live [6] .ret)))

noncomputable def f35_b (Os : List (Orc Tryd.prog)) : Sim Tryd.prog :=
 (.seq (.live [0, 1, 2] (.region 0 [
 ⟨(opAssign (some 6) (.const (Value.int IntKind.i64 0)) 3 "slices.go:78" #[]).op, none⟩
 ] (by kernel_rfl)))
 (.seq (.seq (.live [0, 1, 2, 11, 12, 13] (.region 1 [
 ⟨(opMove (some 11) (.tmp 0) 37 "slices.go:79" #[]).op, none⟩,
 ⟨(opLen (some 12) (.tmp 11) 37 (.slice 24) Tryd.underlying37 3 "slices.go:79" #[{ on := 0, ground := Ground.data }]).op, none⟩,
 ⟨(opMove (some 13) (.const (Value.int IntKind.i64 0)) 3 "slices.go:79" #[]).op, none⟩
 ] (by kernel_rfl)))
 (.block 0 (.loop [0, 1, 2, 11, 12, 13] (f35_l0 Os))))
 (f35_r0 Os)))

noncomputable def f35 (Os : List (Orc Tryd.prog)) : Fun Tryd.prog where
 id := 35
 fn := Tryd.f35
 hf := Tryd.func35
 hname := by kernel_rfl
 body := f35_b Os
 hbody := by kernel_rfl
 res := [rTmp 6]
 hres := by kernel_rfl
 n := 39
 hn := by kernel_rfl

/-! ### 15: interlock/interlocklaw04.long (37); results 2; slots: 0 r, 1 r, 3 i -/
/-- A loop's round; at its head live: 0 r, 3 i -/
noncomputable def f15_l0 : Sim Tryd.prog :=
 (.seq (.seq (.live [0, 3, 10] (.region 4 [
 ⟨(opMove (some 7) (.tmp 3) 3 "law.go:22" #[]).op, none⟩,
 ⟨(opMove (some 8) (.tmp 0) 37 "law.go:22" #[]).op, none⟩,
 ⟨(opLen (some 9) (.tmp 8) 37 (.slice 24) Tryd.underlying37 3 "law.go:22" #[{ on := 1, ground := Ground.data }]).op, none⟩,
 ⟨(opBin (some 10) .lss 3 (.tmp 7) (.tmp 9) 3 4 "law.go:22" #[{ on := 0, ground := Ground.data }, { on := 2, ground := Ground.data }]).op, none⟩
 ] (by kernel_rfl)))
 (.cond (.tmp 10)
 .skip
 (.live [] (.exit 0))))
 (.seq (.block 1 (.seq (.live [0, 3, 19] (.region 6 [
 ⟨(opMove (some 13) (.tmp 0) 37 "law.go:23" #[]).op, none⟩,
 ⟨(opMove (some 14) (.tmp 3) 3 "law.go:23" #[]).op, none⟩,
 ⟨(opIndexAddrT (some 15) 37 (.tmp 13) (.tmp 14) 24 3 Tryd.underlying37 sz24 0 "law.go:23" #[{ on := 0, ground := Ground.data }, { on := 1, ground := Ground.data }]).op, none⟩,
 ⟨(opFieldAddr (some 16) 24 (.tmp 15) 2 2 1 false fl24_2 (by decide) 0 "law.go:23" #[{ on := 2, ground := Ground.data }]).op, none⟩,
 ⟨(opLoadT (.one .str) (some 17) 9 (.tmp 16) .string Tryd.underlying9 1 sz9 (by kernel_rfl) 9 "law.go:23" #[{ on := 3, ground := Ground.data }]).op, none⟩,
 ⟨(opLen (some 18) (.tmp 17) 9 .string Tryd.underlying9 3 "law.go:23" #[{ on := 4, ground := Ground.data }]).op, none⟩,
 ⟨(opBin (some 19) .gtr 3 (.tmp 18) (.const (Value.int IntKind.i64 1000)) 3 4 "law.go:23" #[{ on := 5, ground := Ground.data }]).op, none⟩
 ] (by kernel_rfl)))
 (.cond (.tmp 19)
 (.seq (.live [2] (.region 7 [
 ⟨(opAssign (some 2) (.const (Value.bool true)) 4 "law.go:24" #[]).op, none⟩
 ] (by kernel_rfl)))
 (.live [2] .ret))
 .skip)))
 (.live [0, 3] (.region 5 [
 ⟨(opMove (some 11) (.tmp 3) 3 "law.go:22" #[]).op, none⟩,
 ⟨(opBin (some 12) .add 3 (.tmp 11) (.const (Value.int IntKind.i64 1)) 3 3 "law.go:22" #[{ on := 0, ground := Ground.data }]).op, none⟩,
 ⟨(opAssign (some 3) (.tmp 12) 3 "law.go:22" #[{ on := 1, ground := Ground.data }, { on := 0, ground := Ground.phase }, { on := 1, ground := Ground.phase }]).op, none⟩
 ] (by kernel_rfl)))))

/-- What follows a loop. -/
noncomputable def f15_r0 : Sim Tryd.prog :=
 (.seq (.live [2] (.region 8 [
 ⟨(opAssign (some 2) (.const (Value.bool false)) 4 "law.go:27" #[]).op, none⟩
 ] (by kernel_rfl)))
 (.live [2] .ret))

noncomputable def f15_b : Sim Tryd.prog :=
 (.seq (.live [0] (.region 0 [
 ⟨(opAssign (some 2) (.const (Value.bool false)) 4 "law.go:18" #[]).op, none⟩
 ] (by kernel_rfl)))
 (.seq (.seq (.live [0, 6] (.region 1 [
 ⟨(opMove (some 4) (.tmp 0) 37 "law.go:19" #[]).op, none⟩,
 ⟨(opLen (some 5) (.tmp 4) 37 (.slice 24) Tryd.underlying37 3 "law.go:19" #[{ on := 0, ground := Ground.data }]).op, none⟩,
 ⟨(opBin (some 6) .gtr 3 (.tmp 5) (.const (Value.int IntKind.i64 100)) 3 4 "law.go:19" #[{ on := 1, ground := Ground.data }]).op, none⟩
 ] (by kernel_rfl)))
 (.cond (.tmp 6)
 (.seq (.live [2] (.region 2 [
 ⟨(opAssign (some 2) (.const (Value.bool true)) 4 "law.go:20" #[]).op, none⟩
 ] (by kernel_rfl)))
 (.live [2] .ret))
 .skip))
 (.seq (.seq (.live [0, 3] (.region 3 [
 ⟨(opAssign (some 3) (.const (Value.int IntKind.i64 0)) 3 "law.go:22" #[]).op, none⟩
 ] (by kernel_rfl)))
 (.block 0 (.loop [0, 3] f15_l0)))
 f15_r0)))

noncomputable def f15 : Fun Tryd.prog where
 id := 15
 fn := Tryd.f15
 hf := Tryd.func15
 hname := by kernel_rfl
 body := f15_b
 hbody := by kernel_rfl
 res := [rTmp 2]
 hres := by kernel_rfl
 n := 20
 hn := by kernel_rfl

/-! ### 17: interlock/interlockref00.SameRow (37, 37); results 4; slots: 0 a, 1 b, 2 a, 3 b, 5 i -/
/-- A loop's round; at its head live: 0 a, 1 b, 5 i -/
noncomputable def f17_l0 : Sim Tryd.prog :=
 (.seq (.seq (.live [0, 1, 5, 14] (.region 4 [
 ⟨(opMove (some 11) (.tmp 5) 3 "ref.go:136" #[]).op, none⟩,
 ⟨(opMove (some 12) (.tmp 0) 37 "ref.go:136" #[]).op, none⟩,
 ⟨(opLen (some 13) (.tmp 12) 37 (.slice 24) Tryd.underlying37 3 "ref.go:136" #[{ on := 1, ground := Ground.data }]).op, none⟩,
 ⟨(opBin (some 14) .lss 3 (.tmp 11) (.tmp 13) 3 4 "ref.go:136" #[{ on := 0, ground := Ground.data }, { on := 2, ground := Ground.data }]).op, none⟩
 ] (by kernel_rfl)))
 (.cond (.tmp 14)
 .skip
 (.live [] (.exit 0))))
 (.seq (.block 1 (.seq (.live [0, 1, 5, 25] (.draw 6 [
 ⟨.p (opMove (some 17) (.tmp 0) 37 "ref.go:137" #[]), none⟩,
 ⟨.p (opMove (some 18) (.tmp 5) 3 "ref.go:137" #[]), none⟩,
 ⟨.pn (opIndexAddrT (some 19) 37 (.tmp 17) (.tmp 18) 24 3 Tryd.underlying37 sz24 0 "ref.go:137" #[{ on := 0, ground := Ground.data }, { on := 1, ground := Ground.data }]) opIndexAddrT_nat, none⟩,
 ⟨.qn (opLoadT (.agg [(.int .i64), (.int .i64), .str]) (some 20) 24 (.tmp 19) d24 ud24 3 sz24 (by kernel_rfl) 24 "ref.go:137" #[{ on := 2, ground := Ground.data }]) opLoadT_nat, none⟩,
 ⟨.p (opMove (some 21) (.tmp 1) 37 "ref.go:137" #[]), none⟩,
 ⟨.p (opMove (some 22) (.tmp 5) 3 "ref.go:137" #[]), none⟩,
 ⟨.pn (opIndexAddrT (some 23) 37 (.tmp 21) (.tmp 22) 24 3 Tryd.underlying37 sz24 0 "ref.go:137" #[{ on := 4, ground := Ground.data }, { on := 5, ground := Ground.data }]) opIndexAddrT_nat, none⟩,
 ⟨.qn (opLoadT (.agg [(.int .i64), (.int .i64), .str]) (some 24) 24 (.tmp 23) d24 ud24 3 sz24 (by kernel_rfl) 24 "ref.go:137" #[{ on := 6, ground := Ground.data }]) opLoadT_nat, none⟩,
 ⟨.pn (opNeS (some 25) 24 [(0, 0), (1, 0), (2, 2)] eq24 (.tmp 20) (.tmp 24) 24 4 "ref.go:137" #[{ on := 3, ground := Ground.data }, { on := 7, ground := Ground.data }]) opNeS_nat, none⟩
 ] mixed (by kernel_rfl)))
 (.cond (.tmp 25)
 (.seq (.live [4] (.region 7 [
 ⟨(opAssign (some 4) (.const (Value.bool false)) 4 "ref.go:138" #[]).op, none⟩
 ] (by kernel_rfl)))
 (.live [4] .ret))
 .skip)))
 (.live [0, 1, 5] (.region 5 [
 ⟨(opMove (some 15) (.tmp 5) 3 "ref.go:136" #[]).op, none⟩,
 ⟨(opBin (some 16) .add 3 (.tmp 15) (.const (Value.int IntKind.i64 1)) 3 3 "ref.go:136" #[{ on := 0, ground := Ground.data }]).op, none⟩,
 ⟨(opAssign (some 5) (.tmp 16) 3 "ref.go:136" #[{ on := 1, ground := Ground.data }, { on := 0, ground := Ground.phase }, { on := 1, ground := Ground.phase }]).op, none⟩
 ] (by kernel_rfl)))))

/-- What follows a loop. -/
noncomputable def f17_r0 : Sim Tryd.prog :=
 (.seq (.live [4] (.region 8 [
 ⟨(opAssign (some 4) (.const (Value.bool true)) 4 "ref.go:141" #[]).op, none⟩
 ] (by kernel_rfl)))
 (.live [4] .ret))

noncomputable def f17_b : Sim Tryd.prog :=
 (.seq (.live [0, 1] (.region 0 [
 ⟨(opAssign (some 4) (.const (Value.bool false)) 4 "ref.go:132" #[]).op, none⟩
 ] (by kernel_rfl)))
 (.seq (.seq (.live [0, 1, 10] (.region 1 [
 ⟨(opMove (some 6) (.tmp 0) 37 "ref.go:133" #[]).op, none⟩,
 ⟨(opLen (some 7) (.tmp 6) 37 (.slice 24) Tryd.underlying37 3 "ref.go:133" #[{ on := 0, ground := Ground.data }]).op, none⟩,
 ⟨(opMove (some 8) (.tmp 1) 37 "ref.go:133" #[]).op, none⟩,
 ⟨(opLen (some 9) (.tmp 8) 37 (.slice 24) Tryd.underlying37 3 "ref.go:133" #[{ on := 2, ground := Ground.data }]).op, none⟩,
 ⟨(opBin (some 10) .neq 3 (.tmp 7) (.tmp 9) 3 4 "ref.go:133" #[{ on := 1, ground := Ground.data }, { on := 3, ground := Ground.data }]).op, none⟩
 ] (by kernel_rfl)))
 (.cond (.tmp 10)
 (.seq (.live [4] (.region 2 [
 ⟨(opAssign (some 4) (.const (Value.bool false)) 4 "ref.go:134" #[]).op, none⟩
 ] (by kernel_rfl)))
 (.live [4] .ret))
 .skip))
 (.seq (.seq (.live [0, 1, 5] (.region 3 [
 ⟨(opAssign (some 5) (.const (Value.int IntKind.i64 0)) 3 "ref.go:136" #[]).op, none⟩
 ] (by kernel_rfl)))
 (.block 0 (.loop [0, 1, 5] f17_l0)))
 f17_r0)))

noncomputable def f17 : Fun Tryd.prog where
 id := 17
 fn := Tryd.f17
 hf := Tryd.func17
 hname := by kernel_rfl
 body := f17_b
 hbody := by kernel_rfl
 res := [rTmp 4]
 hres := by kernel_rfl
 n := 26
 hn := by kernel_rfl

end Go.Proofs.YtcfedmheblbdnaaDoor.V

/- What the functions' runs come to; the right sides were printed by a tool, Lean checks them. -/
set_option linter.unusedVariables false
set_option maxRecDepth 100000
namespace Go.Proofs.YtcfedmheblbdnaaDoor.V
open Go Go.V Go.RowKit

theorem cf_run (F : Nat) (z y : Bool) (l r : List (List AV)) (st : St) :
 ((f35 OsO).run F [.ns z 3 l, .ns y 3 r, .fn (.func 21) [] []] st : Ans) =
 loopRun ((f35_l0 OsO).run F) [0, 1, 2, 11, 12, 13]
 (Cont.block 0 (Cont.then ((f35_r0 OsO).run F ((f35 OsO).leaveK Fun.done)) ((f35 OsO).leaveK Fun.done))) F
 (Env.mk 39
 [(0, AV.ns z 3 l), (1, AV.ns y 3 r),
 (2, AV.fn (Fn.func (21 : FuncId)) [] []), (11, AV.ns z 3 l),
 (12, AV.int IntKind.i64 (↑l.length : Int)), (13, AV.int IntKind.i64 (0 : Int))])
 st := by kernel_rfl

theorem long_run (F : Nat) (z : Bool) (l : List (List AV)) (st : St) :
 (f15.run F [.ns z 3 l] st : Ans) =
 branch (AV.bool (decide ((↑l.length : Int) > (100 : Int)))) (some (Fin.ret (AV.bool true), st))
 (loopRun (f15_l0.run F) [0, 3]
 (Cont.block 0 (Cont.then (f15_r0.run F (f15.leaveK Fun.done)) (f15.leaveK Fun.done))) F
 (Env.mk 20 [(0, AV.ns z 3 l), (3, AV.int IntKind.i64 (0 : Int))]) st) := by kernel_rfl

theorem same_run (F : Nat) (z y : Bool) (l r : List (List AV)) (st : St) :
 (f17.run F [.ns z 3 l, .ns y 3 r] st : Ans) =
 branch (AV.bool ((↑l.length : Int) != (↑r.length : Int))) (some (Fin.ret (AV.bool false), st))
 (loopRun (f17_l0.run F) [0, 1, 5]
 (Cont.block 0 (Cont.then (f17_r0.run F (f17.leaveK Fun.done)) (f17.leaveK Fun.done))) F
 (Env.mk 26
 [(0, AV.ns z 3 l), (1, AV.ns y 3 r), (5, AV.int IntKind.i64 (0 : Int))])
 st) := by kernel_rfl

theorem cf_round (F m : Nat) (K : Cont) (z y : Bool) (l r : List (List AV)) (i : Int) (st : St) :
 (loopRun ((f35_l0 OsO).run F) [0, 1, 2, 11, 12, 13] K m.succ (Env.mk 39 [(0, .ns z 3 l), (1, .ns y 3 r), (2, AV.fn (Fn.func (21 : FuncId)) [] []), (11, .ns z 3 l), (12, .int .i64 (l.length : Int)), (13, .int .i64 i)]) st : Ans) =
 branch (AV.bool (decide (i < (↑l.length : Int))))
 (branch (AV.bool (inR l i))
 (branch (AV.bool ((LD.agg [LT.int IntKind.i64, LT.int IntKind.i64, LT.str]).is (V.rowAt l i)))
 (branch (AV.bool (decide (i ≥ (↑r.length : Int))))
 (K AX.ret (Env.mk 39 [(6, AV.int IntKind.i64 (1 : Int))]) st)
 (branch (AV.bool (inR r i))
 (branch (AV.bool ((LD.agg [LT.int IntKind.i64, LT.int IntKind.i64, LT.str]).is (V.rowAt r i)))
 (branch
 (AV.bool
 (cmpV
 (Va.mk (hdI (valLTs [LT.int IntKind.i64, LT.int IntKind.i64, LT.str] (V.rowAt l i)))
 (hdI (valLTs [LT.int IntKind.i64, LT.int IntKind.i64, LT.str] (V.rowAt l i)).tail)
 (hdS (valLTs [LT.int IntKind.i64, LT.int IntKind.i64, LT.str] (V.rowAt l i)).tail.tail),
 Va.mk (hdI (valLTs [LT.int IntKind.i64, LT.int IntKind.i64, LT.str] (V.rowAt r i)))
 (hdI (valLTs [LT.int IntKind.i64, LT.int IntKind.i64, LT.str] (V.rowAt r i)).tail)
 (hdS (valLTs [LT.int IntKind.i64, LT.int IntKind.i64, LT.str] (V.rowAt r i)).tail.tail)).fst
 (Va.mk (hdI (valLTs [LT.int IntKind.i64, LT.int IntKind.i64, LT.str] (V.rowAt l i)))
 (hdI (valLTs [LT.int IntKind.i64, LT.int IntKind.i64, LT.str] (V.rowAt l i)).tail)
 (hdS (valLTs [LT.int IntKind.i64, LT.int IntKind.i64, LT.str] (V.rowAt l i)).tail.tail),
 Va.mk (hdI (valLTs [LT.int IntKind.i64, LT.int IntKind.i64, LT.str] (V.rowAt r i)))
 (hdI (valLTs [LT.int IntKind.i64, LT.int IntKind.i64, LT.str] (V.rowAt r i)).tail)
 (hdS
 (valLTs [LT.int IntKind.i64, LT.int IntKind.i64, LT.str] (V.rowAt r i)).tail.tail)).snd !=
 (0 : Int)))
 (K AX.ret
 (Env.mk 39
 [(6,
 AV.int IntKind.i64
 (cmpV
 (Va.mk (hdI (valLTs [LT.int IntKind.i64, LT.int IntKind.i64, LT.str] (V.rowAt l i)))
 (hdI (valLTs [LT.int IntKind.i64, LT.int IntKind.i64, LT.str] (V.rowAt l i)).tail)
 (hdS (valLTs [LT.int IntKind.i64, LT.int IntKind.i64, LT.str] (V.rowAt l i)).tail.tail),
 Va.mk (hdI (valLTs [LT.int IntKind.i64, LT.int IntKind.i64, LT.str] (V.rowAt r i)))
 (hdI (valLTs [LT.int IntKind.i64, LT.int IntKind.i64, LT.str] (V.rowAt r i)).tail)
 (hdS
 (valLTs [LT.int IntKind.i64, LT.int IntKind.i64, LT.str]
 (V.rowAt r i)).tail.tail)).fst
 (Va.mk (hdI (valLTs [LT.int IntKind.i64, LT.int IntKind.i64, LT.str] (V.rowAt l i)))
 (hdI (valLTs [LT.int IntKind.i64, LT.int IntKind.i64, LT.str] (V.rowAt l i)).tail)
 (hdS (valLTs [LT.int IntKind.i64, LT.int IntKind.i64, LT.str] (V.rowAt l i)).tail.tail),
 Va.mk (hdI (valLTs [LT.int IntKind.i64, LT.int IntKind.i64, LT.str] (V.rowAt r i)))
 (hdI (valLTs [LT.int IntKind.i64, LT.int IntKind.i64, LT.str] (V.rowAt r i)).tail)
 (hdS
 (valLTs [LT.int IntKind.i64, LT.int IntKind.i64, LT.str]
 (V.rowAt r i)).tail.tail)).snd))])
 st)
 (loopRun ((f35_l0 OsO).run F) [0, 1, 2, 11, 12, 13] K m
 (Env.mk 39
 [(0, AV.ns z 3 l), (1, AV.ns y 3 r),
 (2, AV.fn (Fn.func (21 : FuncId)) [] []), (11, AV.ns z 3 l),
 (12, AV.int IntKind.i64 (↑l.length : Int)),
 (13, AV.int IntKind.i64 (IntKind.i64.wrap (i + (1 : Int))))])
 st))
 none)
 none))
 none)
 none)
 (K (AX.exit 0) (Env.mk 39 [(0, AV.ns z 3 l), (1, AV.ns y 3 r)]) st) := by kernel_rfl

theorem cf_out (F : Nat) (z y : Bool) (l r : List (List AV)) (st : St) :
 ((Cont.block 0 (Cont.then ((f35_r0 OsO).run F ((f35 OsO).leaveK Fun.done)) ((f35 OsO).leaveK Fun.done))) (.exit 0) (Env.mk 39 [(0, .ns z 3 l), (1, .ns y 3 r)]) st : Ans) =
 branch (AV.bool (decide ((↑l.length : Int) < (↑r.length : Int)))) (some (Fin.ret (AV.int IntKind.i64 (-1 : Int)), st))
 (some (Fin.ret (AV.int IntKind.i64 (0 : Int)), st)) := by kernel_rfl

theorem long_round (F m : Nat) (K : Cont) (z : Bool) (l : List (List AV)) (i : Int) (st : St) :
 (loopRun (f15_l0.run F) [0, 3] K m.succ (Env.mk 20 [(0, .ns z 3 l), (3, .int .i64 i)]) st : Ans) =
 branch (AV.bool (decide (i < (↑l.length : Int))))
 (branch (AV.bool (inR l i))
 (branch (AV.bool ((LD.one LT.str).is (List.drop 2 (V.rowAt l i))))
 (branch (AV.bool (decide ((↑(hdS (List.drop 2 (V.rowAt l i))).size : Int) > (1000 : Int))))
 (K AX.ret (Env.mk 20 [(2, AV.bool true)]) st)
 (loopRun (f15_l0.run F) [0, 3] K m
 (Env.mk 20
 [(0, AV.ns z 3 l), (3, AV.int IntKind.i64 (IntKind.i64.wrap (i + (1 : Int))))])
 st))
 none)
 none)
 (K (AX.exit 0) (Env.mk 20 []) st) := by kernel_rfl

theorem same_round (F m : Nat) (K : Cont) (z y : Bool) (l r : List (List AV)) (i : Int) (st : St) :
 (loopRun (f17_l0.run F) [0, 1, 5] K m.succ (Env.mk 26 [(0, .ns z 3 l), (1, .ns y 3 r), (5, .int .i64 i)]) st : Ans) =
 branch (AV.bool (decide (i < (↑l.length : Int))))
 (branch (AV.bool (inR l i))
 (branch (AV.bool ((LD.agg [LT.int IntKind.i64, LT.int IntKind.i64, LT.str]).is (V.rowAt l i)))
 (branch (AV.bool (inR r i))
 (branch (AV.bool ((LD.agg [LT.int IntKind.i64, LT.int IntKind.i64, LT.str]).is (V.rowAt r i)))
 (branch
 (AV.bool
 !(hdI (V.rowAt l i) == hdI (V.rowAt r i) &&
 (hdI (V.rowAt l i).tail == hdI (V.rowAt r i).tail &&
 ((hdS (V.rowAt l i).tail.tail).toList == (hdS (V.rowAt r i).tail.tail).toList && true))))
 (K AX.ret (Env.mk 26 [(4, AV.bool false)]) st)
 (loopRun (f17_l0.run F) [0, 1, 5] K m
 (Env.mk 26
 [(0, AV.ns z 3 l), (1, AV.ns y 3 r),
 (5, AV.int IntKind.i64 (IntKind.i64.wrap (i + (1 : Int))))])
 st))
 none)
 none)
 none)
 none)
 (K (AX.exit 0) (Env.mk 26 []) st) := by kernel_rfl

theorem cf_ret (F : Nat) (n : Int) (st : St) :
 ((Cont.block 0 (Cont.then ((f35_r0 OsO).run F ((f35 OsO).leaveK Fun.done)) ((f35 OsO).leaveK Fun.done))) .ret (Env.mk 39 [(6, .int .i64 n)]) st : Ans) =
 some (Fin.ret (AV.int IntKind.i64 n), st) := by kernel_rfl

theorem long_out (F : Nat) (st : St) :
 ((Cont.block 0 (Cont.then (f15_r0.run F (f15.leaveK Fun.done)) (f15.leaveK Fun.done))) (.exit 0) (Env.mk 20 []) st : Ans) =
 some (Fin.ret (AV.bool false), st) := by kernel_rfl

theorem long_ret (F : Nat) (st : St) :
 ((Cont.block 0 (Cont.then (f15_r0.run F (f15.leaveK Fun.done)) (f15.leaveK Fun.done))) .ret (Env.mk 20 [(2, .bool true)]) st : Ans) =
 some (Fin.ret (AV.bool true), st) := by kernel_rfl

theorem same_out (F : Nat) (st : St) :
 ((Cont.block 0 (Cont.then (f17_r0.run F (f17.leaveK Fun.done)) (f17.leaveK Fun.done))) (.exit 0) (Env.mk 26 []) st : Ans) =
 some (Fin.ret (AV.bool true), st) := by kernel_rfl

theorem same_ret (F : Nat) (st : St) :
 ((Cont.block 0 (Cont.then (f17_r0.run F (f17.leaveK Fun.done)) (f17.leaveK Fun.done))) .ret (Env.mk 26 [(4, .bool false)]) st : Ans) =
 some (Fin.ret (AV.bool false), st) := by kernel_rfl

end Go.Proofs.YtcfedmheblbdnaaDoor.V

/- Values: rows' order, length and likeness, as callees. -/
set_option linter.unusedVariables false
namespace Go.Proofs.YtcfedmheblbdnaaDoor.V
open Go Go.V Go.RowKit

theorem wrap_n {i n : Nat} (h : i < n) (hn : n ≤ 1000) : IntKind.i64.wrap ((i : Int) + 1) = ((i + 1 : Nat) : Int) := by rw [wrapS (by omega) (by omega)]; omega
theorem rowsV_drop {l : List (List AV)} {i : Nat} (h : i < l.length) : rowsV (l.drop i) = vaR l[i] :: rowsV (l.drop (i + 1)) := by
  rw [List.drop_eq_getElem_cons h]; rfl
theorem rowsV_end {l : List (List AV)} {i : Nat} (h : l.length ≤ i) : rowsV (l.drop i) = [] := by
  rw [List.drop_eq_nil_of_le h]; rfl
theorem lexL_nil_cons {α : Type} {c : α → α → Int} {l : List α} (h : l ≠ []) : lexL c [] l = -1 := by
  cases l with
  | nil => exact absurd rfl h
  | cons => rfl
theorem rowsV_ne {l : List (List AV)} {i : Nat} (h : i < l.length) : rowsV (l.drop i) ≠ [] := by rw [rowsV_drop h]; exact fun e => by cases e
theorem okV_at {l : List (List AV)} (h : okV l = true) {i : Nat} (hi : i < l.length) : isRow tVa l[i] = true := List.all_eq_true.mp h _ (List.getElem_mem hi)
theorem cf_all (F : Nat) (z y : Bool) (l r : List (List AV)) (st : St) (hl : okV l = true) (hr : okV r = true) (hn : l.length ≤ 1000) : ∀ (k i m : Nat), i + k = l.length → i ≤ r.length → k < m →
    loopRun ((f35_l0 OsO).run F) [0, 1, 2, 11, 12, 13] (Cont.block 0 (Cont.then ((f35_r0 OsO).run F ((f35 OsO).leaveK Fun.done)) ((f35 OsO).leaveK Fun.done))) m
      (Env.mk 39 [(0, .ns z 3 l), (1, .ns y 3 r), (2, AV.fn (Fn.func (21 : FuncId)) [] []), (11, .ns z 3 l), (12, .int .i64 (l.length : Int)), (13, .int .i64 (i : Nat))]) st = some (.ret (.int .i64 (ordV (l.drop i) (r.drop i))), st)
  | k, i, 0, _, _, h => by omega
  | 0, i, m + 1, h1, h2, h3 => by
    rw [show m + 1 = m.succ from rfl, cf_round, branch_not (decide_eq_false (by omega)), cf_out]
    unfold ordV
    rw [rowsV_end (l := l) (by omega)]
    by_cases hc : i < r.length
    · rw [branch_of (decide_eq_true (by omega)), lexL_nil_cons (rowsV_ne hc)]
    · rw [branch_not (decide_eq_false (by omega)), rowsV_end (l := r) (by omega)]; rfl
  | k + 1, i, m + 1, h1, h2, h3 => by
    have hi : i < l.length := by omega
    have hv := okV_at hl hi
    rw [show m + 1 = m.succ from rfl, cf_round, branch_of (decide_eq_true (by omega)), branch_of (inR_nat hi), rowAt_nat hi, branch_of (show (LD.agg [LT.int IntKind.i64, LT.int IntKind.i64, LT.str]).is l[i] = true from isVa hv)]
    unfold ordV
    rw [rowsV_drop hi]
    by_cases hc : i < r.length
    · have hw := okV_at hr hc
      rw [branch_not (decide_eq_false (by omega)), branch_of (inR_nat hc), rowAt_nat hc, branch_of (show (LD.agg [LT.int IntKind.i64, LT.int IntKind.i64, LT.str]).is r[i] = true from isVa hw), rowsV_drop hc, lexL]
      show branch (.bool (cmpV (vaR l[i]) (vaR r[i]) != 0)) _ _ = _
      cases hq : cmpV (vaR l[i]) (vaR r[i]) != 0 with
      | true => rw [branch_true]; exact cf_ret F (cmpV (vaR l[i]) (vaR r[i])) st
      | false =>
        rw [branch_false, wrap_n hi hn]
        exact cf_all F z y l r st hl hr hn k (i + 1) m (by omega) (by omega) (by omega)
    · rw [branch_of (decide_eq_true (by omega)), cf_ret, rowsV_end (l := r) (by omega)]; rfl
theorem cf_spec (z y : Bool) (l r : List (List AV)) (st : St) (hl : okV l = true) (hr : okV r = true) (hn : l.length ≤ 1000) : (f35 OsO).run 1001 [.ns z 3 l, .ns y 3 r, .fn (.func 21) [] []] st = some (.ret (.int .i64 (ordV l r)), st) := by
  rw [cf_run]
  exact cf_all 1001 z y l r st hl hr hn l.length 0 1001 (by omega) (by omega) (by omega)
noncomputable def ok2 (a : Ro2) : Bool := okV a.1.2 && (okV a.2.2 && cdec (a.1.2.length ≤ 1000))
theorem ok2_iff {a : Ro2} : ok2 a = true ↔ okV a.1.2 = true ∧ okV a.2.2 = true ∧ a.1.2.length ≤ 1000 := by
  simp only [ok2, Bool.and_eq_true, cdec_iff]
noncomputable def p35 : POrc Tryd.prog := (f35 OsO).pureIf dec2f (fun a => [nsA a.1, nsA a.2, .fn (.func 21) [] []]) dec2f_enc ok2 (fun a => .int .i64 (ordV a.1.2 a.2.2)) (fun a _ => ⟨rfl, fun _ _ => trivial⟩) fun a h => ⟨1001, fun st => by
  obtain ⟨h1, h2, h3⟩ := ok2_iff.mp h
  exact cf_spec a.1.1 a.2.1 a.1.2 a.2.2 st h1 h2 h3⟩
theorem long_all (F : Nat) (z : Bool) (l : List (List AV)) (st : St) (hl : okV l = true) (hn : l.length ≤ 1000) : ∀ (k i m : Nat), i + k = l.length → k < m →
    loopRun (f15_l0.run F) [0, 3] (Cont.block 0 (Cont.then (f15_r0.run F (f15.leaveK Fun.done)) (f15.leaveK Fun.done))) m (Env.mk 20 [(0, .ns z 3 l), (3, .int .i64 (i : Nat))]) st = some (.ret (.bool ((l.drop i).any fun r => decide (((vaR r).s.size : Int) > 1000))), st)
  | k, i, 0, _, h => by omega
  | 0, i, m + 1, h1, h3 => by
    rw [show m + 1 = m.succ from rfl, long_round, branch_not (decide_eq_false (by omega)), long_out, List.drop_eq_nil_of_le (by omega)]; rfl
  | k + 1, i, m + 1, h1, h3 => by
    have hi : i < l.length := by omega
    have hv := okV_at hl hi
    rw [show m + 1 = m.succ from rfl, long_round, branch_of (decide_eq_true (by omega)), branch_of (inR_nat hi), rowAt_nat hi, branch_of (isVaS hv), List.drop_eq_getElem_cons hi, List.any_cons]
    have e : hdS (List.drop 2 l[i]) = (vaR l[i]).s := by rw [isRow_va hv]; rfl
    rw [e]
    cases hq : decide (((vaR l[i]).s.size : Int) > 1000) with
    | true => rw [branch_true]; exact long_ret F st
    | false => rw [branch_false, wrap_n hi hn, Bool.false_or]; exact long_all F z l st hl hn k (i + 1) m (by omega) (by omega)
noncomputable def p15 : POrc Tryd.prog := f15.pureIf dec1r (fun a => [nsA a]) dec1r_enc (fun a => okV a.2) (fun a => .bool (longV a.2)) (fun a _ => ⟨rfl, fun _ _ => trivial⟩) fun a h => ⟨1001, fun st => by
  obtain ⟨z, l⟩ := a
  show f15.run 1001 [.ns z 3 l] st = _
  rw [long_run]
  unfold longV
  by_cases hl : (l.length : Int) > 100
  · rw [branch_of (decide_eq_true hl), decide_eq_true hl]; rfl
  · rw [branch_not (decide_eq_false hl), decide_eq_false hl, Bool.false_or]
    exact long_all 1001 z l st h (by omega) l.length 0 1001 (by omega) (by omega)⟩
def eqVa (a b : Va) : Bool := a.k == b.k && (a.n == b.n && (a.s.toList == b.s.toList && true))
theorem eqVa_iff {a b : Va} : eqVa a b = true ↔ a = b := by
  obtain ⟨k, n, s⟩ := a
  obtain ⟨k', n', s'⟩ := b
  simp only [eqVa, Bool.and_eq_true, beq_iff_eq, and_true, Va.mk.injEq]
  constructor
  · exact fun ⟨h1, h2, h3⟩ => ⟨h1, h2, bytes_inj h3⟩
  · exact fun ⟨h1, h2, h3⟩ => ⟨h1, h2, by rw [h3]⟩
theorem same_all (F : Nat) (z y : Bool) (l r : List (List AV)) (st : St) (hl : okV l = true) (hr : okV r = true) (hn : l.length ≤ 1000) (he : l.length = r.length) : ∀ (k i m : Nat), i + k = l.length → k < m →
    loopRun (f17_l0.run F) [0, 1, 5] (Cont.block 0 (Cont.then (f17_r0.run F (f17.leaveK Fun.done)) (f17.leaveK Fun.done))) m (Env.mk 26 [(0, .ns z 3 l), (1, .ns y 3 r), (5, .int .i64 (i : Nat))]) st = some (.ret (.bool (sameV (l.drop i) (r.drop i))), st)
  | k, i, 0, _, h => by omega
  | 0, i, m + 1, h1, h3 => by
    rw [show m + 1 = m.succ from rfl, same_round, branch_not (decide_eq_false (by omega)), same_out, List.drop_eq_nil_of_le (by omega), List.drop_eq_nil_of_le (by omega), show sameV [] [] = true by rw [sameV, cdec_iff]]
  | k + 1, i, m + 1, h1, h3 => by
    have hi : i < l.length := by omega
    have hc : i < r.length := by omega
    have hv := okV_at hl hi
    have hw := okV_at hr hc
    rw [show m + 1 = m.succ from rfl, same_round, branch_of (decide_eq_true (by omega)), branch_of (inR_nat hi), rowAt_nat hi, branch_of (show (LD.agg [LT.int IntKind.i64, LT.int IntKind.i64, LT.str]).is l[i] = true from isVa hv),
      branch_of (inR_nat hc), rowAt_nat hc, branch_of (show (LD.agg [LT.int IntKind.i64, LT.int IntKind.i64, LT.str]).is r[i] = true from isVa hw)]
    show branch (.bool (!eqVa (vaR l[i]) (vaR r[i]))) _ _ = _
    have e : sameV (l.drop i) (r.drop i) = (eqVa (vaR l[i]) (vaR r[i]) && sameV (l.drop (i + 1)) (r.drop (i + 1))) := by
      rw [Bool.eq_iff_iff, Bool.and_eq_true, sameV, sameV, cdec_iff, cdec_iff, eqVa_iff, rowsV_drop hi, rowsV_drop hc, List.cons.injEq]
    rw [e]
    cases hq : eqVa (vaR l[i]) (vaR r[i]) with
    | false => exact same_ret F st
    | true => rw [Bool.not_true, branch_false, wrap_n hi hn, Bool.true_and]; exact same_all F z y l r st hl hr hn he k (i + 1) m (by omega) (by omega)
noncomputable def p17 : POrc Tryd.prog := f17.pureIf dec2r (fun a => [nsA a.1, nsA a.2]) dec2r_enc ok2 (fun a => .bool (sameV a.1.2 a.2.2)) (fun a _ => ⟨rfl, fun _ _ => trivial⟩) fun a h => ⟨1001, fun st => by
  obtain ⟨⟨z, l⟩, ⟨y, r⟩⟩ := a
  obtain ⟨h1, h2, h3⟩ := ok2_iff.mp h
  show f17.run 1001 [.ns z 3 l, .ns y 3 r] st = some (.ret (.bool (sameV l r)), st)
  rw [same_run]
  by_cases he : l.length = r.length
  · rw [branch_not (by simp [he])]
    exact same_all 1001 z y l r st h1 h2 h3 he l.length 0 1001 (by omega) (by have : l.length ≤ 1000 := h3; omega)
  · have : ¬ (l.length : Int) = r.length := by omega
    rw [branch_of (by simpa using this), show sameV l r = false by
      rw [Bool.eq_false_iff, ne_eq, sameV, cdec_iff]
      intro e
      exact he (by have := congrArg List.length e; simpa [rowsV] using this)]⟩
end Go.Proofs.YtcfedmheblbdnaaDoor.V

/- The functions' pieces, as told by gen.py. -/
set_option linter.unusedVariables false
set_option maxRecDepth 20000
namespace Go.Proofs.YtcfedmheblbdnaaDoor.V
open Go Go.V Go.RowKit


/-! ### 16: interlock/value.OrderRows (37, 37); results 4; slots: 0 a, 1 b, 2 a, 3 b -/
noncomputable def f16_b : Sim Tryd.prog :=
 (.seq (.live [0, 1] (.region 0 [
 ⟨(opAssign (some 4) (.const (Value.int IntKind.i64 0)) 3 "value.go:50" #[]).op, none⟩
 ] (by kernel_rfl)))
 (.seq (.live [4] (.region 1 [
 ⟨(opMove (some 5) (.tmp 0) 37 "value.go:50" #[]).op, none⟩,
 ⟨(opMove (some 6) (.tmp 1) 37 "value.go:50" #[]).op, none⟩,
 ⟨(opCallP p35 (some 7) [(.tmp 5), (.tmp 6), (.func 21)] #[37, 37, 44] 3 "value.go:50" #[{ on := 0, ground := Ground.data }, { on := 1, ground := Ground.data }]).op, none⟩,
 ⟨(opAssign (some 4) (.tmp 7) 3 "value.go:50" #[{ on := 2, ground := Ground.data }, { on := 2, ground := Ground.chain }, { on := 0, ground := Ground.phase }, { on := 1, ground := Ground.phase }, { on := 2, ground := Ground.phase }]).op, none⟩
 ] (by kernel_rfl)))
 (.live [4] .ret)))

noncomputable def f16 : Fun Tryd.prog where
 id := 16
 fn := Tryd.f16
 hf := Tryd.func16
 hname := by kernel_rfl
 body := f16_b
 hbody := by kernel_rfl
 res := [rTmp 4]
 hres := by kernel_rfl
 n := 8
 hn := by kernel_rfl

end Go.Proofs.YtcfedmheblbdnaaDoor.V

/- What the functions' runs come to; the right sides were printed by a tool, Lean checks them. -/
set_option linter.unusedVariables false
set_option maxRecDepth 100000
namespace Go.Proofs.YtcfedmheblbdnaaDoor.V
open Go Go.V Go.RowKit

theorem rows_run (F : Nat) (z y : Bool) (l r : List (List AV)) (st : St) :
 (f16.run F [.ns z 3 l, .ns y 3 r] st : Ans) =
 branch (AV.bool (ok2 ((z, l), y, r))) (some (Fin.ret (AV.int IntKind.i64 (ordV l r)), st)) none := by kernel_rfl

end Go.Proofs.YtcfedmheblbdnaaDoor.V

/- Values: OrderRows, as a callee. -/
set_option linter.unusedVariables false
namespace Go.Proofs.YtcfedmheblbdnaaDoor.V
open Go Go.V Go.RowKit

noncomputable def p16 : POrc Tryd.prog := f16.pureIf dec2r (fun a => [nsA a.1, nsA a.2]) dec2r_enc ok2 (fun a => .int .i64 (ordV a.1.2 a.2.2)) (fun a _ => ⟨rfl, fun _ _ => trivial⟩) fun a h => ⟨0, fun st => by
  obtain ⟨⟨z, l⟩, ⟨y, r⟩⟩ := a
  exact (rows_run 0 z y l r st).trans (branch_of h)⟩
end Go.Proofs.YtcfedmheblbdnaaDoor.V

/- The functions' pieces, as told by gen.py. -/
set_option linter.unusedVariables false
set_option maxRecDepth 20000
namespace Go.Proofs.YtcfedmheblbdnaaDoor.V
open Go Go.V Go.RowKit


/-! ### 6: interlock/interlocklaw04.ValueOrder (37, 37, 37); results 6; slots: 0 a, 1 b, 2 c, 3 a, 4 b, 5 c, 7 x, 8 y, 9 z -/
noncomputable def f6_b : Sim Tryd.prog :=
 (.seq (.live [0, 1, 2] (.region 0 [
 ⟨(opAssign (some 6) (.const (Value.bool false)) 4 "law.go:104" #[]).op, none⟩
 ] (by kernel_rfl)))
 (.seq (.seq (.live [0, 1, 2, 11] (.region 1 [
 ⟨(opCallP p9 (some 10) [] #[] 4 "law.go:105" #[]).op, none⟩,
 ⟨(opNot (some 11) 4 (.tmp 10) 4 "law.go:105" #[{ on := 0, ground := Ground.data }]).op, none⟩
 ] (by kernel_rfl)))
 (.cond (.tmp 11)
 (.seq (.live [6] (.region 2 [
 ⟨(opAssign (some 6) (.const (Value.bool false)) 4 "law.go:106" #[]).op, none⟩
 ] (by kernel_rfl)))
 (.live [6] .ret))
 .skip))
 (.seq (.seq (.live [0, 1, 2, 21] (.region 3 [
 ⟨(opMove (some 12) (.tmp 0) 37 "law.go:108" #[]).op, none⟩,
 ⟨(opCallP p15 (some 13) [(.tmp 12)] #[37] 4 "law.go:108" #[{ on := 0, ground := Ground.data }]).op, none⟩,
 ⟨(opMove (some 14) (.tmp 13) 4 "law.go:108" #[{ on := 1, ground := Ground.data }, { on := 1, ground := Ground.chain }]).op, none⟩,
 ⟨(opMove (some 15) (.tmp 1) 37 "law.go:108" #[{ on := 2, ground := Ground.guard }]).op, (some (2, 14, false))⟩,
 ⟨(opCallP p15 (some 16) [(.tmp 15)] #[37] 4 "law.go:108" #[{ on := 3, ground := Ground.data }, { on := 2, ground := Ground.chain }, { on := 2, ground := Ground.guard }]).op, (some (2, 14, false))⟩,
 ⟨(opPick (some 17) (.tmp 14) (.const (Value.bool true)) (.tmp 16) 4 "law.go:108" #[{ on := 2, ground := Ground.data }, { on := 4, ground := Ground.data }]).op, none⟩,
 ⟨(opMove (some 18) (.tmp 17) 4 "law.go:108" #[{ on := 5, ground := Ground.data }, { on := 4, ground := Ground.chain }]).op, none⟩,
 ⟨(opMove (some 19) (.tmp 2) 37 "law.go:108" #[{ on := 6, ground := Ground.guard }]).op, (some (6, 18, false))⟩,
 ⟨(opCallP p15 (some 20) [(.tmp 19)] #[37] 4 "law.go:108" #[{ on := 7, ground := Ground.data }, { on := 6, ground := Ground.chain }, { on := 6, ground := Ground.guard }]).op, (some (6, 18, false))⟩,
 ⟨(opPick (some 21) (.tmp 18) (.const (Value.bool true)) (.tmp 20) 4 "law.go:108" #[{ on := 6, ground := Ground.data }, { on := 8, ground := Ground.data }]).op, none⟩
 ] (by kernel_rfl)))
 (.cond (.tmp 21)
 (.seq (.live [6] (.region 4 [
 ⟨(opAssign (some 6) (.const (Value.bool true)) 4 "law.go:109" #[]).op, none⟩
 ] (by kernel_rfl)))
 (.live [6] .ret))
 .skip))
 (.seq (.live [0, 1, 2, 7] (.region 5 [
 ⟨(opMove (some 22) (.tmp 0) 37 "law.go:111" #[]).op, none⟩,
 ⟨(opMove (some 23) (.tmp 1) 37 "law.go:111" #[]).op, none⟩,
 ⟨(opCallP p16 (some 24) [(.tmp 22), (.tmp 23)] #[37, 37] 3 "law.go:111" #[{ on := 0, ground := Ground.data }, { on := 1, ground := Ground.data }]).op, none⟩,
 ⟨(opAssign (some 7) (.tmp 24) 3 "law.go:111" #[{ on := 2, ground := Ground.data }, { on := 2, ground := Ground.chain }, { on := 0, ground := Ground.phase }, { on := 1, ground := Ground.phase }, { on := 2, ground := Ground.phase }]).op, none⟩
 ] (by kernel_rfl)))
 (.seq (.live [0, 1, 2, 7, 8] (.region 6 [
 ⟨(opMove (some 25) (.tmp 1) 37 "law.go:112" #[]).op, none⟩,
 ⟨(opMove (some 26) (.tmp 2) 37 "law.go:112" #[]).op, none⟩,
 ⟨(opCallP p16 (some 27) [(.tmp 25), (.tmp 26)] #[37, 37] 3 "law.go:112" #[{ on := 0, ground := Ground.data }, { on := 1, ground := Ground.data }]).op, none⟩,
 ⟨(opAssign (some 8) (.tmp 27) 3 "law.go:112" #[{ on := 2, ground := Ground.data }, { on := 2, ground := Ground.chain }, { on := 0, ground := Ground.phase }, { on := 1, ground := Ground.phase }, { on := 2, ground := Ground.phase }]).op, none⟩
 ] (by kernel_rfl)))
 (.seq (.live [0, 1, 7, 8, 9] (.region 7 [
 ⟨(opMove (some 28) (.tmp 0) 37 "law.go:113" #[]).op, none⟩,
 ⟨(opMove (some 29) (.tmp 2) 37 "law.go:113" #[]).op, none⟩,
 ⟨(opCallP p16 (some 30) [(.tmp 28), (.tmp 29)] #[37, 37] 3 "law.go:113" #[{ on := 0, ground := Ground.data }, { on := 1, ground := Ground.data }]).op, none⟩,
 ⟨(opAssign (some 9) (.tmp 30) 3 "law.go:113" #[{ on := 2, ground := Ground.data }, { on := 2, ground := Ground.chain }, { on := 0, ground := Ground.phase }, { on := 1, ground := Ground.phase }, { on := 2, ground := Ground.phase }]).op, none⟩
 ] (by kernel_rfl)))
 (.seq (.seq (.live [7, 8, 9, 44] (.region 8 [
 ⟨(opMove (some 31) (.tmp 7) 3 "law.go:114" #[]).op, none⟩,
 ⟨(opMove (some 32) (.tmp 1) 37 "law.go:114" #[]).op, none⟩,
 ⟨(opMove (some 33) (.tmp 0) 37 "law.go:114" #[]).op, none⟩,
 ⟨(opCallP p16 (some 34) [(.tmp 32), (.tmp 33)] #[37, 37] 3 "law.go:114" #[{ on := 1, ground := Ground.data }, { on := 2, ground := Ground.data }]).op, none⟩,
 ⟨(opNeg (some 35) 3 (.tmp 34) 3 "law.go:114" #[{ on := 3, ground := Ground.data }]).op, none⟩,
 ⟨(opBin (some 36) .neq 3 (.tmp 31) (.tmp 35) 3 4 "law.go:114" #[{ on := 0, ground := Ground.data }, { on := 4, ground := Ground.data }]).op, none⟩,
 ⟨(opMove (some 37) (.tmp 36) 4 "law.go:114" #[{ on := 5, ground := Ground.data }, { on := 3, ground := Ground.chain }]).op, none⟩,
 ⟨(opMove (some 38) (.tmp 7) 3 "law.go:114" #[{ on := 6, ground := Ground.guard }]).op, (some (6, 37, false))⟩,
 ⟨(opBin (some 39) .eql 3 (.tmp 38) (.const (Value.int IntKind.i64 0)) 3 4 "law.go:114" #[{ on := 7, ground := Ground.data }, { on := 6, ground := Ground.guard }]).op, (some (6, 37, false))⟩,
 ⟨(opMove (some 40) (.tmp 0) 37 "law.go:114" #[{ on := 6, ground := Ground.guard }]).op, (some (6, 37, false))⟩,
 ⟨(opMove (some 41) (.tmp 1) 37 "law.go:114" #[{ on := 6, ground := Ground.guard }]).op, (some (6, 37, false))⟩,
 ⟨(opCallP p17 (some 42) [(.tmp 40), (.tmp 41)] #[37, 37] 4 "law.go:114" #[{ on := 9, ground := Ground.data }, { on := 10, ground := Ground.data }, { on := 6, ground := Ground.chain }, { on := 6, ground := Ground.guard }]).op, (some (6, 37, false))⟩,
 ⟨(opNe (some 43) 4 .bool Tryd.underlying4 (.tmp 39) (.tmp 42) (.inr rfl) 4 4 "law.go:114" #[{ on := 8, ground := Ground.data }, { on := 11, ground := Ground.data }, { on := 6, ground := Ground.guard }]).op, (some (6, 37, false))⟩,
 ⟨(opPick (some 44) (.tmp 37) (.const (Value.bool true)) (.tmp 43) 4 "law.go:114" #[{ on := 6, ground := Ground.data }, { on := 12, ground := Ground.data }]).op, none⟩
 ] (by kernel_rfl)))
 (.cond (.tmp 44)
 (.seq (.live [6] (.region 9 [
 ⟨(opAssign (some 6) (.const (Value.bool false)) 4 "law.go:115" #[]).op, none⟩
 ] (by kernel_rfl)))
 (.live [6] .ret))
 .skip))
 (.seq (.live [6] (.region 10 [
 ⟨(opMove (some 45) (.tmp 7) 3 "law.go:117" #[]).op, none⟩,
 ⟨(opBin (some 46) .leq 3 (.tmp 45) (.const (Value.int IntKind.i64 0)) 3 4 "law.go:117" #[{ on := 0, ground := Ground.data }]).op, none⟩,
 ⟨(opMove (some 47) (.tmp 46) 4 "law.go:117" #[{ on := 1, ground := Ground.data }]).op, none⟩,
 ⟨(opMove (some 48) (.tmp 8) 3 "law.go:117" #[{ on := 2, ground := Ground.guard }]).op, (some (2, 47, true))⟩,
 ⟨(opBin (some 49) .leq 3 (.tmp 48) (.const (Value.int IntKind.i64 0)) 3 4 "law.go:117" #[{ on := 3, ground := Ground.data }, { on := 2, ground := Ground.guard }]).op, (some (2, 47, true))⟩,
 ⟨(opPick (some 50) (.tmp 47) (.tmp 49) (.const (Value.bool false)) 4 "law.go:117" #[{ on := 2, ground := Ground.data }, { on := 4, ground := Ground.data }]).op, none⟩,
 ⟨(opMove (some 51) (.tmp 50) 4 "law.go:117" #[{ on := 5, ground := Ground.data }, { on := 2, ground := Ground.chain }]).op, none⟩,
 ⟨(opMove (some 52) (.tmp 9) 3 "law.go:117" #[{ on := 6, ground := Ground.guard }]).op, (some (6, 51, true))⟩,
 ⟨(opBin (some 53) .gtr 3 (.tmp 52) (.const (Value.int IntKind.i64 0)) 3 4 "law.go:117" #[{ on := 7, ground := Ground.data }, { on := 6, ground := Ground.guard }]).op, (some (6, 51, true))⟩,
 ⟨(opPick (some 54) (.tmp 51) (.tmp 53) (.const (Value.bool false)) 4 "law.go:117" #[{ on := 6, ground := Ground.data }, { on := 8, ground := Ground.data }]).op, none⟩,
 ⟨(opNot (some 55) 4 (.tmp 54) 4 "law.go:117" #[{ on := 9, ground := Ground.data }]).op, none⟩,
 ⟨(opMove (some 56) (.tmp 55) 4 "law.go:117" #[{ on := 10, ground := Ground.data }, { on := 6, ground := Ground.chain }]).op, none⟩,
 ⟨(opMove (some 57) (.tmp 7) 3 "law.go:117" #[{ on := 11, ground := Ground.guard }]).op, (some (11, 56, true))⟩,
 ⟨(opBin (some 58) .lss 3 (.tmp 57) (.const (Value.int IntKind.i64 0)) 3 4 "law.go:117" #[{ on := 12, ground := Ground.data }, { on := 11, ground := Ground.guard }]).op, (some (11, 56, true))⟩,
 ⟨(opMove (some 59) (.tmp 58) 4 "law.go:117" #[{ on := 13, ground := Ground.data }, { on := 11, ground := Ground.chain }, { on := 11, ground := Ground.guard }]).op, (some (11, 56, true))⟩,
 ⟨(opMove (some 60) (.tmp 8) 3 "law.go:117" #[{ on := 14, ground := Ground.guard }]).op, (some (14, 59, true))⟩,
 ⟨(opBin (some 61) .leq 3 (.tmp 60) (.const (Value.int IntKind.i64 0)) 3 4 "law.go:117" #[{ on := 15, ground := Ground.data }, { on := 14, ground := Ground.guard }]).op, (some (14, 59, true))⟩,
 ⟨(opPick (some 62) (.tmp 59) (.tmp 61) (.const (Value.bool false)) 4 "law.go:117" #[{ on := 14, ground := Ground.data }, { on := 16, ground := Ground.data }, { on := 11, ground := Ground.guard }]).op, (some (11, 56, true))⟩,
 ⟨(opMove (some 63) (.tmp 62) 4 "law.go:117" #[{ on := 17, ground := Ground.data }, { on := 14, ground := Ground.chain }, { on := 11, ground := Ground.guard }]).op, (some (11, 56, true))⟩,
 ⟨(opMove (some 64) (.tmp 9) 3 "law.go:117" #[{ on := 18, ground := Ground.guard }]).op, (some (18, 63, true))⟩,
 ⟨(opBin (some 65) .geq 3 (.tmp 64) (.const (Value.int IntKind.i64 0)) 3 4 "law.go:117" #[{ on := 19, ground := Ground.data }, { on := 18, ground := Ground.guard }]).op, (some (18, 63, true))⟩,
 ⟨(opPick (some 66) (.tmp 63) (.tmp 65) (.const (Value.bool false)) 4 "law.go:117" #[{ on := 18, ground := Ground.data }, { on := 20, ground := Ground.data }, { on := 11, ground := Ground.guard }]).op, (some (11, 56, true))⟩,
 ⟨(opNot (some 67) 4 (.tmp 66) 4 "law.go:117" #[{ on := 21, ground := Ground.data }, { on := 11, ground := Ground.guard }]).op, (some (11, 56, true))⟩,
 ⟨(opPick (some 68) (.tmp 56) (.tmp 67) (.const (Value.bool false)) 4 "law.go:117" #[{ on := 11, ground := Ground.data }, { on := 22, ground := Ground.data }]).op, none⟩,
 ⟨(opMove (some 69) (.tmp 68) 4 "law.go:117" #[{ on := 23, ground := Ground.data }, { on := 18, ground := Ground.chain }]).op, none⟩,
 ⟨(opMove (some 70) (.tmp 7) 3 "law.go:117" #[{ on := 24, ground := Ground.guard }]).op, (some (24, 69, true))⟩,
 ⟨(opBin (some 71) .geq 3 (.tmp 70) (.const (Value.int IntKind.i64 0)) 3 4 "law.go:117" #[{ on := 25, ground := Ground.data }, { on := 24, ground := Ground.guard }]).op, (some (24, 69, true))⟩,
 ⟨(opMove (some 72) (.tmp 71) 4 "law.go:117" #[{ on := 26, ground := Ground.data }, { on := 24, ground := Ground.chain }, { on := 24, ground := Ground.guard }]).op, (some (24, 69, true))⟩,
 ⟨(opMove (some 73) (.tmp 8) 3 "law.go:117" #[{ on := 27, ground := Ground.guard }]).op, (some (27, 72, true))⟩,
 ⟨(opBin (some 74) .geq 3 (.tmp 73) (.const (Value.int IntKind.i64 0)) 3 4 "law.go:117" #[{ on := 28, ground := Ground.data }, { on := 27, ground := Ground.guard }]).op, (some (27, 72, true))⟩,
 ⟨(opPick (some 75) (.tmp 72) (.tmp 74) (.const (Value.bool false)) 4 "law.go:117" #[{ on := 27, ground := Ground.data }, { on := 29, ground := Ground.data }, { on := 24, ground := Ground.guard }]).op, (some (24, 69, true))⟩,
 ⟨(opMove (some 76) (.tmp 75) 4 "law.go:117" #[{ on := 30, ground := Ground.data }, { on := 27, ground := Ground.chain }, { on := 24, ground := Ground.guard }]).op, (some (24, 69, true))⟩,
 ⟨(opMove (some 77) (.tmp 9) 3 "law.go:117" #[{ on := 31, ground := Ground.guard }]).op, (some (31, 76, true))⟩,
 ⟨(opBin (some 78) .lss 3 (.tmp 77) (.const (Value.int IntKind.i64 0)) 3 4 "law.go:117" #[{ on := 32, ground := Ground.data }, { on := 31, ground := Ground.guard }]).op, (some (31, 76, true))⟩,
 ⟨(opPick (some 79) (.tmp 76) (.tmp 78) (.const (Value.bool false)) 4 "law.go:117" #[{ on := 31, ground := Ground.data }, { on := 33, ground := Ground.data }, { on := 24, ground := Ground.guard }]).op, (some (24, 69, true))⟩,
 ⟨(opNot (some 80) 4 (.tmp 79) 4 "law.go:117" #[{ on := 34, ground := Ground.data }, { on := 24, ground := Ground.guard }]).op, (some (24, 69, true))⟩,
 ⟨(opPick (some 81) (.tmp 69) (.tmp 80) (.const (Value.bool false)) 4 "law.go:117" #[{ on := 24, ground := Ground.data }, { on := 35, ground := Ground.data }]).op, none⟩,
 ⟨(opAssign (some 6) (.tmp 81) 4 "law.go:117" #[{ on := 36, ground := Ground.data }, { on := 31, ground := Ground.chain }, { on := 0, ground := Ground.phase }, { on := 1, ground := Ground.phase }, { on := 2, ground := Ground.phase }, { on := 3, ground := Ground.phase }, { on := 4, ground := Ground.phase }, { on := 5, ground := Ground.phase }, { on := 6, ground := Ground.phase }, { on := 7, ground := Ground.phase }, { on := 8, ground := Ground.phase }, { on := 9, ground := Ground.phase }, { on := 10, ground := Ground.phase }, { on := 11, ground := Ground.phase }, { on := 12, ground := Ground.phase }, { on := 13, ground := Ground.phase }, { on := 14, ground := Ground.phase }, { on := 15, ground := Ground.phase }, { on := 16, ground := Ground.phase }, { on := 17, ground := Ground.phase }, { on := 18, ground := Ground.phase }, { on := 19, ground := Ground.phase }, { on := 20, ground := Ground.phase }, { on := 21, ground := Ground.phase }, { on := 22, ground := Ground.phase }, { on := 23, ground := Ground.phase }, { on := 24, ground := Ground.phase }, { on := 25, ground := Ground.phase }, { on := 26, ground := Ground.phase }, { on := 27, ground := Ground.phase }, { on := 28, ground := Ground.phase }, { on := 29, ground := Ground.phase }, { on := 30, ground := Ground.phase }, { on := 31, ground := Ground.phase }, { on := 32, ground := Ground.phase }, { on := 33, ground := Ground.phase }, { on := 34, ground := Ground.phase }, { on := 35, ground := Ground.phase }, { on := 36, ground := Ground.phase }]).op, none⟩
 ] (by kernel_rfl)))
 (.live [6] .ret)))))))))

noncomputable def f6 : Fun Tryd.prog where
 id := 6
 fn := Tryd.f6
 hf := Tryd.func6
 hname := by kernel_rfl
 body := f6_b
 hbody := by kernel_rfl
 res := [rTmp 6]
 hres := by kernel_rfl
 n := 82
 hn := by kernel_rfl

end Go.Proofs.YtcfedmheblbdnaaDoor.V

/- What the functions' runs come to; the right sides were printed by a tool, Lean checks them. -/
set_option linter.unusedVariables false
set_option maxRecDepth 100000
namespace Go.Proofs.YtcfedmheblbdnaaDoor.V
open Go Go.V Go.RowKit

end Go.Proofs.YtcfedmheblbdnaaDoor.V

/- Values: ValueOrder is true. -/
set_option linter.unusedVariables false
namespace Go.Proofs.YtcfedmheblbdnaaDoor.V
open Go Go.V Go.RowKit

end Go.Proofs.YtcfedmheblbdnaaDoor.V
