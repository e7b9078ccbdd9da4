/- Merged out of 29 texts: what the claim's code comes to, and why. -/
import Derived.Test.YtnhdjhcpbjggmaaR45
set_option linter.unusedVariables false
set_option linter.unusedSimpArgs false
set_option maxRecDepth 100000
namespace Go.Proofs.Ytnhdjhcpbjggmaa.V
open Go Go.V Go.RowKit
def secL (ls : List Nat) (j : Nat) : List Nat := (ls.drop (j * 64)).take 64
theorem sector_eq (X : Dk) (j : Nat) : X.sector j = (lastW X.ws j).getD (secL X.ls j) := rfl
theorem secL_len {ls : List Nat} {n j : Nat} (h : ls.length = n * 64) (hj : j < n) : (secL ls j).length = 64 := by simp [secL, h]; omega
theorem getElem_secL {ls : List Nat} {j i : Nat} (hi : i < 64) : (secL ls j)[i]? = ls[j * 64 + i]? := by rw [secL, List.getElem?_take, if_pos hi, List.getElem?_drop]
theorem getElem_putN {b xs : List Nat} {o i : Nat} (h : o + xs.length ≤ b.length) : (putN b o xs)[i]? = if o ≤ i ∧ i < o + xs.length then xs[i - o]? else b[i]? := by
 have ht : (b.take o).length = o := by rw [List.length_take]; omega
 rw [putN, List.append_assoc]
 by_cases h1 : i < o
 ·rw [List.getElem?_append_left (by omega), List.getElem?_take, if_pos h1, if_neg (by omega)]
 ·rw [List.getElem?_append_right (by omega), ht]
  by_cases h2 : i < o + xs.length
  ·rw [List.getElem?_append_left (by omega), if_pos ⟨by omega, h2⟩]
  ·rw [List.getElem?_append_right (by omega), List.getElem?_drop, if_neg (by omega)]
   congr 1; omega
theorem secL_putN {ls : List Nat} {n k j : Nat} {xs : List Nat} (h : ls.length = n * 64) (hk : k < n) (hx : xs.length ≤ 64) (hj : j < n) : secL (putN ls (k * 64) xs) j = if j = k then xs ++ (secL ls j).drop xs.length else secL ls j := by
 have hlen : k * 64 + xs.length ≤ ls.length := by omega
 apply List.ext_getElem?
 intro i
 by_cases hi : i < 64
 ·rw [getElem_secL hi, getElem_putN hlen]
  by_cases hjk : j = k
  ·subst hjk
   rw [if_pos rfl]
   by_cases h2 : i < xs.length
   ·rw [if_pos ⟨by omega, by omega⟩, List.getElem?_append_left h2]
    congr 1; omega
   ·rw [if_neg (by omega), List.getElem?_append_right (by omega), List.getElem?_drop, getElem_secL (by omega)]
    congr 1; omega
  ·rw [if_neg hjk, if_neg (by omega), getElem_secL hi]
 ·have e1 : (secL (putN ls (k * 64) xs) j).length ≤ 64 := by simp [secL]; omega
  rw [List.getElem?_eq_none (by omega)]
  split
  ·have := secL_len h hj
   rw [List.getElem?_eq_none (by rw [List.length_append, List.length_drop, this]; omega)]
  ·rw [List.getElem?_eq_none (by have := secL_len h hj; omega)]
theorem lastW_cons (w : Nat × List Nat) (ws : List (Nat × List Nat)) (k : Nat) : lastW (w :: ws) k = (lastW ws k).or (if w.1 = k then some w.2 else none) := by
 rw [lastW, List.reverse_cons, List.find?_append, lastW]
 cases h : List.find? (fun w => w.1 == k) ws.reverse with
 | some x => rfl
 | none =>
  simp only [Option.or, Option.map_none]
  by_cases h2 : w.1 = k
  ·simp [h2]
  ·simp [h2]
theorem secL_appW {n j : Nat} (hj : j < n) : ∀ (ws : List (Nat × List Nat)) (ls : List Nat), ls.length = n * 64 → (∀ w ∈ ws, w.1 < n ∧ w.2.length = 64) → secL (appW ls ws) j = (lastW ws j).getD (secL ls j)
 | [], ls, _, _ => rfl
 | w :: ws, ls, hl, hw => by
  obtain ⟨w1, w2⟩ := hw w (by simp)
  have e : (app1 ls w).length = n * 64 := by rw [app1, putN_length (by omega), hl]
  have ih := secL_appW hj ws (app1 ls w) e fun x hx => hw x (by simp [hx])
  rw [show appW ls (w :: ws) = appW (app1 ls w) ws from rfl, ih, app1, secL_putN hl w1 (by omega) hj, lastW_cons]
  cases lastW ws j with
  | some b => rfl
  | none =>
   simp only [Option.or, Option.getD_none]
   by_cases h : w.1 = j
   ·rw [if_pos h.symm, if_pos h, List.drop_eq_nil_of_le (by rw [secL_len hl hj]; omega), List.append_nil]; rfl
   ·rw [if_neg (fun e => h e.symm), if_neg h]; rfl
theorem flush_sector {X : Dk} (h : X.Ok) {j : Nat} (hj : j < X.n) : X.flush.sector j = X.sector j := by
 have hw : ∀ w ∈ X.ws, w.1 < X.n ∧ w.2.length = 64 := fun w hw => ⟨(h.ws w hw).1, (h.ws w hw).2.1⟩
 show secL (tornL (appW X.ls (X.ws.take X.ws.length)) X.ws[X.ws.length]? 0) j = _
 rw [List.getElem?_eq_none (Nat.le_refl _), List.take_length, tornL, secL_appW hj _ _ h.len hw, sector_eq]
theorem wrX_sector {X : Dk} {k : Nat} {b : List Nat} (hk : k < X.n) (hb : b.length = 64) (j : Nat) : (X.wrX (k : Int) b).sector j = if j = k then b else X.sector j := by
 have e : X.wrX (k : Int) b = X.put k b := by rw [Dk.wrX, if_pos ⟨by omega, by omega, hb⟩, Int.toNat_natCast]
 rw [e, sector_eq, sector_eq]
 show (lastW (X.ws ++ [(k, b)]) j).getD (secL X.ls j) = _
 rw [lastW_append]
 by_cases h : k = j
 ·rw [if_pos h, if_pos h.symm]; rfl
 ·rw [if_neg h, if_neg (fun e => h e.symm)]
theorem wrX_ws {X : Dk} {k : Nat} {b : List Nat} (hk : k < X.n) (hb : b.length = 64) : (X.wrX (k : Int) b).ws = X.ws ++ [(k, b)] ∧ (X.wrX (k : Int) b).ls = X.ls := by
 have e : X.wrX (k : Int) b = X.put k b := by rw [Dk.wrX, if_pos ⟨by omega, by omega, hb⟩, Int.toNat_natCast]
 rw [e]; exact ⟨rfl, rfl⟩
def pieceB (r : List Nat) (s i : Nat) : List Nat := recB (s + i) (((recAll r).drop (56 * i)).take 56)
theorem wrRec_sector : ∀ (n : Nat) (X : Dk) (k s : Nat) (l : List Nat), k + n ≤ X.n → ∀ j, (X.wrRec k s n l).sector j = if k ≤ j ∧ j < k + n then recB (s + (j - k)) ((l.drop (56 * (j - k))).take 56) else X.sector j
 | 0, X, k, s, l, _, j => by rw [Dk.wrRec, if_neg (by omega)]
 | n + 1, X, k, s, l, hk, j => by
  rw [Dk.wrRec, wrRec_sector n _ _ _ _ (by rw [wrX_n]; omega), wrX_sector (by omega) (recB_len (by rw [List.length_take]; omega))]
  by_cases h1 : j = k
  ·subst h1
   rw [if_neg (by omega), if_pos rfl, if_pos ⟨by omega, by omega⟩, Nat.sub_self]; rfl
  ·by_cases h2 : k ≤ j ∧ j < k + (n + 1)
   ·rw [if_pos ⟨by omega, by omega⟩, if_pos h2, List.drop_drop, show s + 1 + (j - (k + 1)) = s + (j - k) by omega, show 56 + 56 * (j - (k + 1)) = 56 * (j - k) by omega]
   ·rw [if_neg (by omega), if_neg h1, if_neg h2]
theorem wrRec_ws : ∀ (n : Nat) (X : Dk) (k s : Nat) (l : List Nat), k + n ≤ X.n → (X.wrRec k s n l).ws = X.ws ++ (List.range n).map (fun i => (k + i, recB (s + i) ((l.drop (56 * i)).take 56))) ∧ (X.wrRec k s n l).ls = X.ls
 | 0, X, k, s, l, _ => ⟨by simp [Dk.wrRec], rfl⟩
 | n + 1, X, k, s, l, hk => by
  obtain ⟨h1, h2⟩ := wrRec_ws n (X.wrX (k : Int) (recB s (l.take 56))) (k + 1) (s + 1) (l.drop 56) (by rw [wrX_n]; omega)
  obtain ⟨e1, e2⟩ := wrX_ws (X := X) (k := k) (b := recB s (l.take 56)) (by omega) (recB_len (by rw [List.length_take]; omega))
  refine ⟨?_, by rw [Dk.wrRec, h2, e2]⟩
  rw [Dk.wrRec, h1, e1, List.range_succ_eq_map, List.map_cons, List.append_assoc, List.map_map]
  congr 1
  refine List.cons_eq_cons.mpr ⟨by simp, List.map_congr_left fun i _ => ?_⟩
  simp only [Function.comp_apply, List.drop_drop]
  rw [show k + 1 + i = k + (i + 1) by omega, show s + 1 + i = s + (i + 1) by omega, show 56 + 56 * i = 56 * (i + 1) by omega]
theorem num_le4 (s : Nat) (h : s < 4294967296) : num4 (s % 256) (s / 256 % 256) (s / 65536 % 256) (s / 16777216 % 256) = s := by unfold num4; omega
theorem recB_get (s : Nat) (d : List Nat) (i : Nat) (hi : i < 4) : (recB s d).getD i 0 = (le4 s).getD i 0 := by
 rw [recB, List.append_assoc, List.append_assoc, List.getD_eq_getElem?_getD, List.getElem?_append_left (by simp [le4]; omega), ← List.getD_eq_getElem?_getD]
theorem recB_end (s : Nat) {d : List Nat} (hd : d.length ≤ 56) (i : Nat) (hi : i < 4) : (recB s d).getD (60 + i) 0 = (le4 s).getD i 0 := by
 have : (le4 s ++ d ++ List.replicate (56 - d.length) 0).length = 60 := by simp [le4]; omega
 rw [recB, List.getD_eq_getElem?_getD, List.getElem?_append_right (by omega), this, ← List.getD_eq_getElem?_getD, Nat.add_sub_cancel_left]
theorem recB_num (s : Nat) {d : List Nat} (hd : d.length ≤ 56) (hs : s < 4294967296) : numB (recB s d) 0 = s ∧ numB (recB s d) 60 = s := by
 have h := num_le4 s hs
 refine ⟨?_, ?_⟩
 ·rw [numB, recB_get _ _ 0 (by omega), recB_get _ _ (0 + 1) (by omega), recB_get _ _ (0 + 2) (by omega), recB_get _ _ (0 + 3) (by omega)]; exact h
 ·rw [numB, show (recB s d).getD 60 0 = _ from recB_end s hd 0 (by omega), recB_end s hd 1 (by omega), recB_end s hd 2 (by omega), recB_end s hd 3 (by omega)]; exact h
theorem recB_stamp {s : Nat} {d : List Nat} (hd : d.length ≤ 56) (hs : s < 2147483648) : stampB (recB s d) = s := by
 obtain ⟨h1, h2⟩ := recB_num s hd (by omega)
 rw [stampB, h1, h2, if_neg (by omega)]
theorem recB_pay (s : Nat) {d : List Nat} (hd : d.length ≤ 56) : payB (recB s d) = d ++ List.replicate (56 - d.length) 0 := by
 have h1 : (le4 s ++ (d ++ List.replicate (56 - d.length) 0)).length = 60 := by simp [le4]; omega
 rw [payB, recB, List.append_assoc (le4 s) d, ← h1, List.take_left, show 4 = (le4 s).length from rfl, List.drop_left]
theorem piece_stamp {r : List Nat} {s i : Nat} (hs : s + i < 2147483648) : stampB (pieceB r s i) = s + i := recB_stamp (by rw [List.length_take]; omega) hs
theorem piece_size {r : List Nat} (s : Nat) (hr : r.length < 65536) : sizeB (pieceB r s 0) = r.length := by
 have h0 : ((recAll r).drop (56 * 0)).take 56 = r.length % 256 :: r.length / 256 % 256 :: r.take 54 := rfl
 rw [sizeB, pieceB, h0]
 have e : recB (s + 0) (r.length % 256 :: r.length / 256 % 256 :: r.take 54) = [(s + 0) % 256, (s + 0) / 256 % 256, (s + 0) / 65536 % 256, (s + 0) / 16777216 % 256, r.length % 256, r.length / 256 % 256] ++ (r.take 54 ++ List.replicate (56 - (r.take 54).length - 2) 0 ++ le4 (s + 0)) := by
  simp [recB, le4]; omega
 rw [e]
 simp only [List.getD_eq_getElem?_getD, List.cons_append, List.getElem?_cons_succ, List.getElem?_cons_zero, Option.getD_some]
 omega
theorem recGo_pieces {X : Dk} {k s : Nat} {r : List Nat} (n : Nat) (hs : s + n ≤ 2147483648) (h : ∀ i, i < n → X.sector (k + i) = pieceB r s i) : ∀ (m i : Nat), i + m = n → ((recAll r).drop (56 * i)).length ≤ 56 * m →
  ∃ d, X.recGo (k + i) (s + i) m = some d ∧ d.take ((recAll r).drop (56 * i)).length = (recAll r).drop (56 * i)
 | 0, i, _, hl => ⟨[], rfl, by rw [List.length_eq_zero_iff.mp (show ((recAll r).drop (56 * i)).length = 0 by omega)]; rfl⟩
 | m + 1, i, hi, hl => by
  have e := h i (by omega)
  generalize hrest : (recAll r).drop (56 * i) = rest at *
  have hnext : (recAll r).drop (56 * (i + 1)) = rest.drop 56 := by rw [← hrest, List.drop_drop]; congr 1
  have hcl : (rest.take 56).length ≤ 56 := by rw [List.length_take]; omega
  have hpc : pieceB r s i = recB (s + i) (rest.take 56) := by rw [pieceB, hrest]
  obtain ⟨d, h1, h2⟩ := recGo_pieces n hs h m (i + 1) (by omega) (by rw [hnext, List.length_drop]; omega)
  rw [hnext] at h2
  refine ⟨payB (pieceB r s i) ++ d, ?_, ?_⟩
  ·rw [Dk.recGo, e, if_pos (piece_stamp (by omega)), show k + i + 1 = k + (i + 1) by omega, show s + i + 1 = s + (i + 1) by omega, h1]; rfl
  ·rw [hpc, recB_pay _ hcl]
   by_cases hr : rest.length ≤ 56
   ·rw [List.take_of_length_le hr, List.append_assoc, List.take_left]
   ·have e1 : (rest.take 56).length = 56 := by rw [List.length_take]; omega
    rw [e1, Nat.sub_self, List.replicate_zero, List.append_nil, List.take_append, e1, List.take_of_length_le (by omega), show rest.length - 56 = (rest.drop 56).length by rw [List.length_drop], h2, List.take_append_drop]
theorem recT_piece {X : Dk} {L : Lg} {f s : Nat} {r : List Nat} (hp : L.p + piecesN r.length ≤ X.half) (hr : r.length ≤ 4096) (hs : s + piecesN r.length ≤ 2147483648) (hf : f ≤ s) (h : ∀ i, i < piecesN r.length → X.sector (placeN X L.a L.p + i) = pieceB r s i) :
  X.recT L f = some (r, s + piecesN r.length - 1) := by
 have hn := pieces_pos r.length
 have h0 := h 0 (by omega)
 rw [Nat.add_zero] at h0
 have e1 : stampB (X.sector (placeN X L.a L.p)) = s := by rw [h0]; exact piece_stamp (i := 0) (by omega)
 have e2 : sizeB (X.sector (placeN X L.a L.p)) = r.length := by rw [h0]; exact piece_size s (by omega)
 have hpn : piecesN r.length = (r.length + 57) / 56 := rfl
 have hal : (recAll r).length = r.length + 2 := rfl
 obtain ⟨d, d1, d2⟩ := recGo_pieces (piecesN r.length) hs h (piecesN r.length) 0 (by omega) (by rw [Nat.mul_zero, List.drop_zero, hal]; omega)
 rw [Nat.add_zero, Nat.add_zero] at d1
 rw [Nat.mul_zero, List.drop_zero, hal] at d2
 rw [Dk.recT, if_neg (by omega)]
 simp only [e1, e2]
 rw [if_neg (by omega), d1, show 2 + r.length = r.length + 2 by omega]
 simp only [Option.map_some, d2]
 rfl
theorem recT_low {X : Dk} {L : Lg} {f : Nat} (h : L.p < X.half → stampB (X.sector (placeN X L.a L.p)) < f) (hp : L.p ≤ X.half) : X.recT L f = none := by
 rw [Dk.recT]
 split
 ·rfl
 ·simp only
  rw [if_pos (.inl (h (by omega)))]
def Chain (S : Nat → List Nat) : Nat → Nat → List (List Nat × Nat) → Prop
 | _, _, [] => True
 | k, f, (r, s) :: t => f ≤ s ∧ s + piecesN r.length ≤ 2147483648 ∧ r.length ≤ 4096 ∧ (∀ i, i < piecesN r.length → S (k + i) = pieceB r s i) ∧ Chain S (k + piecesN r.length) (s + piecesN r.length) t
def totalN : List (List Nat × Nat) → Nat
 | [] => 0
 | x :: t => piecesN x.1.length + totalN t
def endS (f : Nat) : List (List Nat × Nat) → Nat
 | [] => f
 | x :: t => endS (x.2 + piecesN x.1.length) t
theorem chain_congr {S T : Nat → List Nat} : ∀ (l : List (List Nat × Nat)) (k f : Nat), (∀ j, k ≤ j → j < k + totalN l → S j = T j) → Chain S k f l → Chain T k f l
 | [], _, _, _, _ => trivial
 | (r, s) :: t, k, f, h, ⟨h1, h2, h3, h4, h5⟩ => ⟨h1, h2, h3, fun i hi => by rw [← h (k + i) (by omega) (by simp only [totalN]; omega)]; exact h4 i hi, chain_congr t _ _ (fun j hj hj2 => h j (by omega) (by simp only [totalN]; omega)) h5⟩
theorem chain_append {S : Nat → List Nat} : ∀ (l m : List (List Nat × Nat)) (k f : Nat), Chain S k f (l ++ m) ↔ Chain S k f l ∧ Chain S (k + totalN l) (endS f l) m
 | [], m, k, f => ⟨fun h => ⟨trivial, h⟩, fun h => h.2⟩
 | (r, s) :: t, m, k, f => by
  have ih := chain_append (S := S) t m (k + piecesN r.length) (s + piecesN r.length)
  simp only [List.cons_append, Chain, totalN, endS]
  rw [ih, Nat.add_assoc]
  constructor
  ·rintro ⟨a, b, c, d, e, g⟩; exact ⟨⟨a, b, c, d, e⟩, g⟩
  ·rintro ⟨⟨a, b, c, d, e⟩, g⟩; exact ⟨a, b, c, d, e, g⟩
theorem total_append (l m : List (List Nat × Nat)) : totalN (l ++ m) = totalN l + totalN m := by
 induction l with
 | nil => simp [totalN]
 | cons x t ih => simp only [List.cons_append, totalN, ih]; omega
theorem endS_append (m : List (List Nat × Nat)) : ∀ (l : List (List Nat × Nat)) (f : Nat), endS f (l ++ m) = endS (endS f l) m
 | [], f => rfl
 | x :: t, f => by simp only [List.cons_append, endS]; exact endS_append m t _
theorem placeN_add (X : Dk) (a p n : Nat) : placeN X a p + n = placeN X a (p + n) := by unfold placeN; omega
theorem recs_chain {X : Dk} : ∀ (l : List (List Nat × Nat)) (d : Nat) (L : Lg) (f : Nat), Chain X.sector (placeN X L.a L.p) f l → L.p + totalN l ≤ X.half →
  X.recs L (l.length + d) f = (l.map (·.1) ++ (X.recs { L with p := L.p + totalN l } d (endS f l)).1, (X.recs { L with p := L.p + totalN l } d (endS f l)).2)
 | [], d, L, f, _, _ => by simp [totalN, endS]
 | (r, s) :: t, d, L, f, ⟨h1, h2, h3, h4, h5⟩, hp => by
  simp only [totalN] at hp
  have hT := recT_piece (X := X) (L := L) (by omega) h3 h2 h1 h4
  have hpos := pieces_pos r.length
  have ih := recs_chain t d { L with p := L.p + piecesN r.length } (s + piecesN r.length) (by show Chain X.sector (placeN X L.a (L.p + piecesN r.length)) _ _; rw [← placeN_add]; exact h5) (by simp only; omega)
  rw [show ((r, s) :: t).length + d = (t.length + d) + 1 by simp only [List.length_cons]; omega, Dk.recs, hT]
  simp only [show s + piecesN r.length - 1 + 1 = s + piecesN r.length by omega, ih, totalN, endS, List.map_cons, List.cons_append, ← Nat.add_assoc]
theorem recs_none {X : Dk} {L : Lg} {f : Nat} (h : X.recT L f = none) (d : Nat) : X.recs L d f = ([], L.p) := by
 cases d with
 | zero => rfl
 | succ d => rw [Dk.recs, h]
def zB : List Nat := List.replicate 64 0
theorem zB_stamp : stampB zB = 0 := by rw [stampB, zB, numB_zero, numB_zero]; rfl
structure Hist (X : Dk) (L : Lg) (n : Nat) (l : List (List Nat × Nat)) : Prop where
 ok : X.Ok
 n10 : 10 ≤ n
 sz : X.n = n
 h0 : X.sector 0 = zB
 h1 : X.sector 1 = headB 1 0 1
 L : L = ⟨1, 0, 1, totalN l, 1 + totalN l⟩
 p : totalN l ≤ X.half
 chain : Chain X.sector 2 1 l
 s : endS 1 l = 1 + totalN l
 zero : ∀ j, 2 + totalN l ≤ j → j < n → X.sector j = zB
 w : X.ws.length ≤ totalN l
theorem fresh_hist {n : Nat} (hn : n ≤ 65536) (h10 : 10 ≤ n) : Hist (Dk.new n []).fmt (fmtL (Dk.new n [])) n [] := by
 have hok := new_ok (n := n) (img := []) hn (by simp)
 have hnn : (Dk.new n []).n = n := rfl
 have hz : ∀ j, j < n → (Dk.new n []).sector j = zB := fun j hj => by
  rw [new_sector, List.drop_replicate, List.take_replicate, zB]
  congr 1; omega
 have hx := hok.wrX (k := ((1 : Nat) : Int)) (b := headB 1 0 1) (headB_lt _ _ _)
 have hs : ∀ j, j < n → (Dk.new n []).fmt.sector j = if j = 1 then headB 1 0 1 else (Dk.new n []).sector j := fun j hj => by
  rw [Dk.fmt, new_fmt]
  show ((Dk.new n []).wrX ((1 : Nat) : Int) (headB 1 0 1)).flush.sector j = _
  rw [flush_sector hx (by rw [wrX_n]; exact hj), wrX_sector (by rw [hnn]; omega) (headB_len _ _ _)]
 refine ⟨fmt_ok hok, h10, (crown_n _ _).trans hnn, ?_, ?_, new_fmt n, Nat.zero_le _, trivial, rfl, fun j hj hj2 => ?_, Nat.zero_le _⟩
 ·rw [hs 0 (by omega), if_neg (by omega), hz 0 (by omega)]
 ·rw [hs 1 (by omega), if_pos rfl]
 ·simp only [totalN] at hj
  rw [hs j hj2, if_neg (by omega), hz j hj2]
theorem Hist.app {X : Dk} {L : Lg} {n : Nat} {l : List (List Nat × Nat)} (h : Hist X L n l) {d : List Nat} (hd : ∀ y ∈ d, y < 256) :
  (appE X L d = 0 ∧ Hist (X.app L d) (L.app X d) n (l ++ [(d, 1 + totalN l)]) ∧ (X.app L d).ls = X.ls ∧ (∀ j, j < 2 + totalN l → (X.app L d).sector j = X.sector j) ∧ (X.app L d).ws = X.ws ++ (List.range (piecesN d.length)).map fun i => (2 + totalN l + i, (X.app L d).sector (2 + totalN l + i))) ∨
  (appE X L d ≠ 0 ∧ X.app L d = X ∧ L.app X d = L) := by
 by_cases he : appE X L d = 0
 ·refine .inl ⟨he, ?_⟩
  have hL := h.L
  have hh : X.half = (X.n - 2) / 2 := rfl
  have hnn := h.sz; have h10 := h.n10
  have hp : L.p = totalN l := by rw [hL]
  have hs : L.s = 1 + totalN l := by rw [hL]
  have ha : L.a = 0 := by rw [hL]
  have e0 := he
  rw [appE] at e0
  have hc : ¬ 4096 < d.length ∧ ¬ (X.half < L.p + piecesN d.length ∨ 2147483648 < L.s + piecesN d.length) := by
   split at e0
   ·omega
   ·split at e0
    ·omega
    ·exact ⟨by assumption, by assumption⟩
  obtain ⟨c1, c2⟩ := hc
  have eX : X.app L d = X.wrRec (2 + totalN l) (1 + totalN l) (piecesN d.length) (recAll d) := by
   rw [Dk.app, if_pos he, Dk.wrLog, hp, hs, ha, placeN, Nat.zero_mul, Nat.add_zero]
  have eL : L.app X d = ⟨1, 0, 1, totalN l + piecesN d.length, 1 + totalN l + piecesN d.length⟩ := by
   rw [Lg.app, if_pos he, hL]
  have hsec := wrRec_sector (piecesN d.length) X (2 + totalN l) (1 + totalN l) (recAll d) (by omega)
  obtain ⟨hws, hls⟩ := wrRec_ws (piecesN d.length) X (2 + totalN l) (1 + totalN l) (recAll d) (by omega)
  rw [← eX] at hsec hws hls
  have hpc : ∀ i, i < piecesN d.length → (X.app L d).sector (2 + totalN l + i) = pieceB d (1 + totalN l) i := fun i hi => by
   rw [hsec, if_pos ⟨by omega, by omega⟩, Nat.add_sub_cancel_left]; rfl
  have hlow : ∀ j, j < 2 + totalN l → (X.app L d).sector j = X.sector j := fun j hj => by rw [hsec, if_neg (by omega)]
  have htot : totalN (l ++ [(d, 1 + totalN l)]) = totalN l + piecesN d.length := by rw [total_append]; rfl
  refine ⟨⟨app_ok h.ok L hd, h10, (app_n X L d).trans hnn, ?_, ?_, ?_, ?_, ?_, ?_, fun j hj hj2 => ?_, ?_⟩, hls, hlow, ?_⟩
  ·rw [hlow 0 (by omega)]; exact h.h0
  ·rw [hlow 1 (by omega)]; exact h.h1
  ·rw [eL, htot, Nat.add_assoc]
  ·rw [htot, app_half]; omega
  ·rw [chain_append]
   refine ⟨chain_congr l 2 1 (fun j hj hj2 => (hlow j hj2).symm) h.chain, ?_⟩
   rw [h.s]
   exact ⟨Nat.le_refl _, by omega, by omega, hpc, trivial⟩
  ·rw [endS_append, h.s, htot]; show 1 + totalN l + piecesN d.length = _; omega
  ·rw [htot] at hj
   rw [hsec, if_neg (by omega)]
   exact h.zero j (by omega) hj2
  ·rw [hws, htot, List.length_append, List.length_map, List.length_range]; have := h.w; omega
  ·rw [hws]
   congr 1
   refine List.map_congr_left fun i hi => ?_
   rw [hpc i (List.mem_range.mp hi)]; rfl
 ·exact .inr ⟨he, by rw [Dk.app, if_neg he], by rw [Lg.app, if_neg he]⟩
theorem Hist.flush {X : Dk} {L : Lg} {n : Nat} {l : List (List Nat × Nat)} (h : Hist X L n l) : Hist X.flush L n l := by
 have hs : ∀ j, j < n → X.flush.sector j = X.sector j := fun j hj => flush_sector h.ok (by rw [h.sz]; exact hj)
 have hh : X.half = (X.n - 2) / 2 := rfl
 have hp := h.p; have hnn := h.sz; have h10 := h.n10
 refine ⟨flush_ok h.ok, h.n10, h.sz, ?_, ?_, h.L, h.p, chain_congr l 2 1 (fun j hj hj2 => (hs j (by omega)).symm) h.chain, h.s, fun j hj hj2 => ?_, Nat.zero_le _⟩
 ·rw [hs 0 (by omega)]; exact h.h0
 ·rw [hs 1 (by omega)]; exact h.h1
 ·rw [hs j hj2]; exact h.zero j hj hj2
structure Pend (X : Dk) (n k N : Nat) : Prop where
 ws : X.ws = (List.range N).map fun i => (k + i, X.sector (k + i))
 base : ∀ j, k ≤ j → j < n → secL X.ls j = zB
theorem Pend.app {X Y : Dk} {n k N m : Nat} (h : Pend X n k N) (hls : Y.ls = X.ls) (hlow : ∀ j, j < k + N → Y.sector j = X.sector j) (hws : Y.ws = X.ws ++ (List.range m).map fun i => (k + N + i, Y.sector (k + N + i))) : Pend Y n k (N + m) := by
 refine ⟨?_, fun j hj hj2 => by rw [hls]; exact h.base j hj hj2⟩
 rw [hws, h.ws, List.range_add, List.map_append, List.map_map]
 congr 1
 ·refine List.map_congr_left fun i hi => ?_
  rw [hlow (k + i) (by have := List.mem_range.mp hi; omega)]
 ·refine List.map_congr_left fun i _ => ?_
  simp only [Function.comp_apply, Nat.add_assoc]
theorem len_total : ∀ l : List (List Nat × Nat), l.length ≤ totalN l
 | [] => Nat.le_refl _
 | x :: t => by have := len_total t; have := pieces_pos x.1.length; simp only [List.length_cons, totalN]; omega
theorem head_one : headD (headB 1 0 1) 1 = ⟨1, 0, 1⟩ := by kernel_rfl
structure Again (X : Dk) (L : Lg) (l : List (List Nat × Nat)) : Prop where
 ok : X.Ok
 sz : X.n = 400
 w : X.ws = []
 h0 : X.sector 0 = zB
 h1 : X.sector 1 = headB 1 0 1
 lg : ∃ s, L = ⟨1, 0, 1, totalN l, s⟩
 p : totalN l ≤ X.half
 chain : Chain X.sector 2 1 l
 e : endS 1 l ≤ L.s
 num : ∀ j, 2 ≤ j → j < 400 → numB (X.sector j) 0 < L.s ∧ numB (X.sector j) 60 < L.s
 s : L.s < 5000000000
 nx : L.s = X.next
 stop : X.recT L (endS 1 l) = none
theorem Again.app {X : Dk} {L : Lg} {l : List (List Nat × Nat)} (h : Again X L l) {d : List Nat} (hd : ∀ y ∈ d, y < 256) (he : appE X L d = 0) :
  (X.app L d).Ok ∧ (X.app L d).n = 400 ∧ d.length ≤ 4096 ∧ totalN l + piecesN d.length ≤ X.half ∧ L.s + piecesN d.length ≤ 2147483648 ∧
  (∀ i, i < piecesN d.length → (X.app L d).sector (2 + totalN l + i) = pieceB d L.s i) ∧ (∀ j, (j < 2 + totalN l ∨ 2 + totalN l + piecesN d.length ≤ j) → (X.app L d).sector j = X.sector j) ∧
  (X.app L d).ls = X.ls ∧ (X.app L d).ws = (List.range (piecesN d.length)).map fun i => (2 + totalN l + i, (X.app L d).sector (2 + totalN l + i)) := by
 obtain ⟨s, hL⟩ := h.lg
 have hh : X.half = (X.n - 2) / 2 := rfl
 have hsz := h.sz
 have hp : L.p = totalN l := by rw [hL]
 have ha : L.a = 0 := by rw [hL]
 have e0 := he
 rw [appE] at e0
 have hc : ¬ 4096 < d.length ∧ ¬ (X.half < L.p + piecesN d.length ∨ 2147483648 < L.s + piecesN d.length) := by
  split at e0
  ·omega
  ·split at e0
   ·omega
   ·exact ⟨by assumption, by assumption⟩
 obtain ⟨c1, c2⟩ := hc
 have eX : X.app L d = X.wrRec (2 + totalN l) L.s (piecesN d.length) (recAll d) := by
  rw [Dk.app, if_pos he, Dk.wrLog, hp, ha, placeN, Nat.zero_mul, Nat.add_zero]
 have hsec := wrRec_sector (piecesN d.length) X (2 + totalN l) L.s (recAll d) (by omega)
 obtain ⟨hws, hls⟩ := wrRec_ws (piecesN d.length) X (2 + totalN l) L.s (recAll d) (by omega)
 rw [← eX] at hsec hws hls
 have hpc : ∀ i, i < piecesN d.length → (X.app L d).sector (2 + totalN l + i) = pieceB d L.s i := fun i hi => by
  rw [hsec, if_pos ⟨by omega, by omega⟩, Nat.add_sub_cancel_left]; rfl
 refine ⟨app_ok h.ok L hd, (app_n X L d).trans hsz, by omega, by omega, by omega, hpc, fun j hj => by rw [hsec, if_neg (by omega)], hls, ?_⟩
 rw [hws, h.w, List.nil_append]
 refine List.map_congr_left fun i hi => ?_
 rw [hpc i (List.mem_range.mp hi)]; rfl
def alone (i : Nat) (st : St) : Prop := i = 0 ∧ st.objs.length = 4 ∧ st.tk = []
end Go.Proofs.Ytnhdjhcpbjggmaa.V
namespace Go.Proofs.Ytnhdjhcpbjggmaa.V
open Go Go.V Go.RowKit
end Go.Proofs.Ytnhdjhcpbjggmaa.V
namespace Go.Proofs.Ytnhdjhcpbjggmaa.V
open Go Go.V Go.RowKit
theorem hist_lok {X : Dk} {L : Lg} {n : Nat} {l : List (List Nat × Nat)} (h : Hist X L n l) : LOk X L := by
 have hw := h.w; have hp := h.p; have hsz := h.sz; have hn1 := h.ok.n1; have h10 := h.n10
 have hh : X.half = (X.n - 2) / 2 := rfl
 have hL := h.L
 exact ⟨by omega, by rw [hL]; exact Nat.zero_lt_succ 1, by rw [hL]; show totalN l < 900000; omega, by omega, by rw [hL]; show 1 + totalN l < _; omega⟩
abbrev tyBs : Ty := .sl (.sl (.int .u8) 1) 24
theorem bs_shape {xs : List AV} (h : Ty.Shape tyBs xs) : ∃ z l, xs = [.ns z 1 l] ∧ okBs l = true := by
 obtain ⟨z, l, rfl, hz, h1, h2, h3⟩ := h
 refine ⟨z, l, rfl, okBs_iff.mpr ⟨fun r hr => ?_, ?_⟩⟩
 ·obtain ⟨z', d, rfl, d1, d2, d3⟩ := bytes_shape (h3 r hr)
  show (Nat.beq 1 1 && byOk d) = true
  rw [byOk_iff.mpr ⟨d1, d3⟩]; rfl
 ·have : reachBytes < 4611686018427387904 := by decide
  omega
theorem bsR_snoc (c : List (List AV)) (r : List AV) : bsR (c ++ [r]) = bsR c ++ [nR (rwA r)] := by simp [bsR]
theorem row_lt {l : List (List AV)} (hl : ∀ r ∈ l, isB r = true) {r : List AV} (hr : r ∈ l) : ∀ y ∈ nR (rwA r), y < 256 := by
 obtain ⟨z, d, e, hd⟩ := isB_spec (hl r hr)
 rw [e]
 exact fun y hy => okR_lt (byOk_iff.mp hd).1 hy
theorem opR_ok {X : Dk} (h : X.Ok) (h2 : 2 ≤ X.n) : okBs (bsB X.opR) = true := by
 have hn := h.n1
 have hh : X.half = (X.n - 2) / 2 := rfl
 obtain ⟨a1, a2⟩ := recs_ok h X.half (opL0 X) X.newest.f (newest_ok h h2).1 (Nat.zero_le _)
 exact okBs_bsB a2 (by have : X.opR.length ≤ X.half := a1; omega)
end Go.Proofs.Ytnhdjhcpbjggmaa.V
namespace Go.Proofs.Ytnhdjhcpbjggmaa.V
open Go Go.V Go.RowKit
end Go.Proofs.Ytnhdjhcpbjggmaa.V
namespace Go.Proofs.Ytnhdjhcpbjggmaa.V
open Go Go.V Go.RowKit
noncomputable def f20_l0 : Sim Try.prog :=
 (.seq (.live [0, 1, 5, 12, 13, 14, 15] (.region 3 [
 ⟨(opBin (some 15) .lss 3 (.tmp 14) (.tmp 13) 3 0 "wal.go:220" #[]).op, none⟩
 ] (by kernel_rfl)))
 (.seq (.cond (.tmp 15)
 .skip
 (.live [0, 1, 5] (.exit 0)))
 (.seq (.block 1 (.seq (.live [0, 1, 5, 7, 12, 13, 14] (.region 4 [
 ⟨(opIndexAddrT (some 16) 22 (.tmp 12) (.tmp 14) 33 1 Try.underlying22 sz33 0 "wal.go:220" #[]).op, none⟩,
 ⟨(opLoadT (.one (.ns 1)) (some 17) 33 (.tmp 16) (.slice 5) Try.underlying33 1 sz33 (by kernel_rfl) 33 "wal.go:220" #[eD 0]).op, none⟩,
 ⟨(opAssign (some 7) (.tmp 17) 33 "wal.go:220" #[eD 1, eP 0, eP 1]).op, none⟩
 ] (by kernel_rfl)))
 (.seq (.seq (.live [0, 1, 5, 7, 12, 13, 14, 20] (.region 5 [
 ⟨(opMove (some 18) (.tmp 7) 33 "wal.go:221" #[]).op, none⟩,
 ⟨(PSim.hide (opLen (some 19) (.tmp 18) 33 (.slice 5) Try.underlying33 3 "wal.go:221" #[eD 0])).op, none⟩,
 ⟨(opBin (some 20) .gtr 3 (.tmp 19) (.const (Value.int IntKind.i64 4096)) 3 4 "wal.go:221" #[eD 1]).op, none⟩
 ] (by kernel_rfl)))
 (.cond (.tmp 20)
 (.seq (.live [4] (.region 6 [
 ⟨(opAssign (some 4) (.const (Value.int IntKind.i64 41)) 26 "wal.go:222" #[]).op, none⟩
 ] (by kernel_rfl)))
 (.live [4] .ret))
 .skip))
 (.live [0, 1, 5, 12, 13, 14] (.region 7 [
 ⟨(opMove (some 21) (.tmp 5) 3 "wal.go:224" #[]).op, none⟩,
 ⟨(opMove (some 22) (.tmp 7) 33 "wal.go:224" #[]).op, none⟩,
 ⟨(PSim.hide (opLen (some 23) (.tmp 22) 33 (.slice 5) Try.underlying33 3 "wal.go:224" #[eD 1])).op, none⟩,
 ⟨(opCallP p39 (some 24) [(.tmp 23)] #[3] 3 "wal.go:224" #[eD 2]).op, none⟩,
 ⟨(opBin (some 25) .add 3 (.tmp 21) (.tmp 24) 3 3 "wal.go:224" #[eD 0, eD 3]).op, none⟩,
 ⟨(opAssign (some 5) (.tmp 25) 3 "wal.go:224" #[eD 4, eC 3, eP 0, eP 1, eP 2, eP 3, eP 4]).op, none⟩
 ] (by kernel_rfl))))))
 (.live [0, 1, 5, 12, 13, 14] (.region 8 [
 ⟨(opBin (some 26) .add 3 (.tmp 14) (.const (Value.int IntKind.i64 1)) 3 3 "wal.go:220" #[]).op, none⟩,
 ⟨(opMove (some 14) (.tmp 26) 3 "wal.go:220" #[eD 0]).op, none⟩
 ] (by kernel_rfl))))))
noncomputable def f20_l1 : Sim Try.prog :=
 (.seq (.live [0, 8, 9, 70, 71, 72, 73] (.region 14 [
 ⟨(opBin (some 73) .lss 3 (.tmp 72) (.tmp 71) 3 0 "wal.go:231" #[]).op, none⟩
 ] (by kernel_rfl)))
 (.seq (.cond (.tmp 73)
 .skip
 (.live [0, 8, 9] (.exit 2)))
 (.seq (.block 3 (.seq (.live [0, 8, 9, 11, 70, 71, 72] (.region 15 [
 ⟨(opIndexAddrT (some 74) 22 (.tmp 70) (.tmp 72) 33 1 Try.underlying22 sz33 0 "wal.go:231" #[]).op, none⟩,
 ⟨(opLoadT (.one (.ns 1)) (some 75) 33 (.tmp 74) (.slice 5) Try.underlying33 1 sz33 (by kernel_rfl) 33 "wal.go:231" #[eD 0]).op, none⟩,
 ⟨(opAssign (some 11) (.tmp 75) 33 "wal.go:231" #[eD 1, eP 0, eP 1]).op, none⟩
 ] (by kernel_rfl)))
 (.seq (.live [0, 8, 9, 11, 70, 71, 72] (.region 16 [
 ⟨(opMove (some 76) (.tmp 0) 29 "wal.go:232" #[]).op, none⟩,
 ⟨(opFieldAddr (some 77) 69 (.tmp 8) 1 1 1 false fl69_1 (by decide) 0 "wal.go:232" #[]).op, none⟩,
 ⟨(opLoadT (.one (.int .i64)) (some 78) 3 (.tmp 77) (.int .i64) Try.underlying3 1 sz3 (by kernel_rfl) 3 "wal.go:232" #[eD 1]).op, none⟩,
 ⟨(opMove (some 79) (.tmp 9) 3 "wal.go:232" #[]).op, none⟩,
 ⟨(opMove (some 80) (.tmp 11) 33 "wal.go:232" #[]).op, none⟩,
 ⟨opCall (s40).orc (some 81) [(.tmp 76), (.tmp 78), (.tmp 79), (.tmp 80)] #[29, 3, 3, 33] 0 "wal.go:232" #[eD 0, eD 2, eD 3, eD 4], none⟩
 ] (by kernel_rfl)))
 (.live [0, 8, 9, 70, 71, 72] (.region 17 [
 ⟨(opMove (some 82) (.tmp 9) 3 "wal.go:233" #[]).op, none⟩,
 ⟨(opMove (some 83) (.tmp 11) 33 "wal.go:233" #[]).op, none⟩,
 ⟨(PSim.hide (opLen (some 84) (.tmp 83) 33 (.slice 5) Try.underlying33 3 "wal.go:233" #[eD 1])).op, none⟩,
 ⟨(opCallP p39 (some 85) [(.tmp 84)] #[3] 3 "wal.go:233" #[eD 2]).op, none⟩,
 ⟨(opBin (some 86) .add 3 (.tmp 82) (.tmp 85) 3 3 "wal.go:233" #[eD 0, eD 3]).op, none⟩,
 ⟨(opAssign (some 9) (.tmp 86) 3 "wal.go:233" #[eD 4, eC 3, eP 0, eP 1, eP 2, eP 3, eP 4]).op, none⟩
 ] (by kernel_rfl))))))
 (.live [0, 8, 9, 70, 71, 72] (.region 18 [
 ⟨(opBin (some 87) .add 3 (.tmp 72) (.const (Value.int IntKind.i64 1)) 3 3 "wal.go:231" #[]).op, none⟩,
 ⟨(opMove (some 72) (.tmp 87) 3 "wal.go:231" #[eD 0]).op, none⟩
 ] (by kernel_rfl))))))
noncomputable def f20_r0 : Sim Try.prog :=
 (.seq (.live [0, 8, 9] (.region 19 [
 ⟨(opMove (some 88) (.tmp 0) 29 "wal.go:235" #[]).op, none⟩,
 ⟨(opNilCheck (some 89) (.tmp 88) 0 "wal.go:235" #[eD 0]).op, none⟩,
 ⟨(opFieldAddr (some 90) 71 (.tmp 89) 0 0 1 false fl71_0 (by decide) 0 "wal.go:235" #[eD 1]).op, none⟩,
 ⟨(opLoadT (.one .any) (some 91) 25 (.tmp 90) (.pointer 79) Try.underlying25 1 sz25 (by kernel_rfl) 25 "wal.go:235" #[eD 2]).op, none⟩,
 ⟨opCall (s41).orc (some 92) [(.tmp 91)] #[25] 0 "wal.go:235" #[eD 3], none⟩
 ] (by kernel_rfl)))
 (.seq (.live [0] (.region 20 [
 ⟨(opMove (some 93) (.tmp 0) 29 "wal.go:236" #[]).op, none⟩,
 ⟨(opMove (some 94) (.tmp 0) 29 "wal.go:236" #[eX 6]).op, none⟩,
 ⟨(opLoadT (.agg [(.int .i64), (.int .i64), (.int .i64)]) (some 95) 69 (.tmp 8) d69 ud69 3 sz69 (by kernel_rfl) 69 "wal.go:236" #[]).op, none⟩,
 ⟨(opMove (some 96) (.tmp 9) 3 "wal.go:236" #[eX 6]).op, none⟩,
 ⟨(opNilCheck (some 97) (.tmp 93) 0 "wal.go:236" #[eD 0, eP 0, eT 1, eP 2, eT 3]).op, none⟩,
 ⟨(opFieldAddr (some 98) 71 (.tmp 97) 1 1 3 true fl71_1 (by decide) 0 "wal.go:236" #[eD 4, eP 0, eT 1, eP 2, eT 3]).op, none⟩,
 ⟨(opStore none 69 (.tmp 98) (.tmp 95) 3 sz69 0 "wal.go:236" #[eD 5, eD 2, eP 0, eT 1, eP 2, eT 3]).op, none⟩,
 ⟨(opNilCheck (some 99) (.tmp 94) 0 "wal.go:236" #[eD 1, eP 0, eP 1, eP 2, eP 3, eP 4, eP 5, eP 6]).op, none⟩,
 ⟨(opFieldAddr (some 100) 71 (.tmp 99) 2 4 1 false fl71_2 (by decide) 0 "wal.go:236" #[eD 7, eP 0, eP 1, eP 2, eP 3, eP 4, eP 5, eP 6]).op, none⟩,
 ⟨(opStore none 3 (.tmp 100) (.tmp 96) 1 sz3 0 "wal.go:236" #[eD 8, eD 3, eC 6, eP 0, eP 1, eP 2, eP 3, eP 4, eP 5, eP 6]).op, none⟩
 ] (by kernel_rfl)))
 (.seq (.live [] (.region 21 [
 ⟨(opMove (some 101) (.tmp 0) 29 "wal.go:237" #[]).op, none⟩,
 ⟨opCall (s38).orc (some 102) [(.tmp 101)] #[29] 0 "wal.go:237" #[eD 0], none⟩
 ] (by kernel_rfl)))
 (.seq (.live [4] (.region 22 [
 ⟨(opAssign (some 4) (.const (Value.int IntKind.i64 0)) 26 "wal.go:238" #[]).op, none⟩
 ] (by kernel_rfl)))
 (.live [4] .ret)))))
noncomputable def f20_r1 : Sim Try.prog :=
 (.seq (.seq (.live [0, 1, 52] (.region 9 [
 ⟨(opMove (some 27) (.tmp 5) 3 "wal.go:226" #[]).op, none⟩,
 ⟨(opMove (some 28) (.tmp 0) 29 "wal.go:226" #[]).op, none⟩,
 ⟨(opNilCheck (some 29) (.tmp 28) 0 "wal.go:226" #[eD 1]).op, none⟩,
 ⟨(opFieldAddr (some 30) 71 (.tmp 29) 0 0 1 false fl71_0 (by decide) 0 "wal.go:226" #[eD 2]).op, none⟩,
 ⟨(opLoadT (.one .any) (some 31) 25 (.tmp 30) (.pointer 79) Try.underlying25 1 sz25 (by kernel_rfl) 25 "wal.go:226" #[eD 3]).op, none⟩,
 ⟨(opCallQ q46 (some 32) [(.tmp 31)] #[25] 3 "wal.go:226" #[eD 4]).op, none⟩,
 ⟨(opBin (some 33) .gtr 3 (.tmp 27) (.tmp 32) 3 4 "wal.go:226" #[eD 0, eD 5]).op, none⟩,
 ⟨(opMove (some 34) (.tmp 33) 4 "wal.go:226" #[eD 6, eC 5]).op, none⟩,
 ⟨(opMove (some 35) (.tmp 0) 29 "wal.go:226" #[eG 7]).op, (some (7, 34, false))⟩,
 ⟨(opNilCheck (some 36) (.tmp 35) 0 "wal.go:226" #[eD 8, eG 7]).op, (some (7, 34, false))⟩,
 ⟨(opFieldAddr (some 37) 71 (.tmp 36) 3 5 1 false fl71_3 (by decide) 0 "wal.go:226" #[eD 9, eG 7]).op, (some (7, 34, false))⟩,
 ⟨(opLoadT (.one (.int .i64)) (some 38) 3 (.tmp 37) (.int .i64) Try.underlying3 1 sz3 (by kernel_rfl) 3 "wal.go:226" #[eD 10, eG 7]).op, (some (7, 34, false))⟩,
 ⟨(opMove (some 39) (.tmp 5) 3 "wal.go:226" #[eG 7]).op, (some (7, 34, false))⟩,
 ⟨(opMinMax (some 40) true (.tmp 39) [(.const (Value.int IntKind.i64 1))] #[3, 3] 3 "wal.go:226" #[eD 12, eG 7]).op, (some (7, 34, false))⟩,
 ⟨(opBin (some 41) .add 3 (.tmp 38) (.tmp 40) 3 3 "wal.go:226" #[eD 11, eD 13, eG 7]).op, (some (7, 34, false))⟩,
 ⟨(opBin (some 42) .gtr 3 (.tmp 41) (.const (Value.int IntKind.i64 2147483648)) 3 4 "wal.go:226" #[eD 14, eG 7]).op, (some (7, 34, false))⟩,
 ⟨(opPick (some 43) (.tmp 34) (.const (Value.bool true)) (.tmp 42) 4 "wal.go:226" #[eD 7, eD 15]).op, none⟩,
 ⟨(opMove (some 44) (.tmp 43) 4 "wal.go:226" #[eD 16, eC 7]).op, none⟩,
 ⟨(opMove (some 45) (.tmp 0) 29 "wal.go:226" #[eG 17]).op, (some (17, 44, false))⟩,
 ⟨(opNilCheck (some 46) (.tmp 45) 0 "wal.go:226" #[eD 18, eG 17]).op, (some (17, 44, false))⟩,
 ⟨(opFieldAddr (some 47) 71 (.tmp 46) 1 1 3 true fl71_1 (by decide) 0 "wal.go:226" #[eD 19, eG 17]).op, (some (17, 44, false))⟩,
 ⟨(opFieldAddr (some 48) 69 (.tmp 47) 0 0 1 false fl69_0 (by decide) 0 "wal.go:226" #[eD 20, eG 17]).op, (some (17, 44, false))⟩,
 ⟨(opLoadT (.one (.int .i64)) (some 49) 3 (.tmp 48) (.int .i64) Try.underlying3 1 sz3 (by kernel_rfl) 3 "wal.go:226" #[eD 21, eG 17]).op, (some (17, 44, false))⟩,
 ⟨(opBin (some 50) .add 3 (.tmp 49) (.const (Value.int IntKind.i64 1)) 3 3 "wal.go:226" #[eD 22, eG 17]).op, (some (17, 44, false))⟩,
 ⟨(opBin (some 51) .geq 3 (.tmp 50) (.const (Value.int IntKind.i64 2147483648)) 3 4 "wal.go:226" #[eD 23, eG 17]).op, (some (17, 44, false))⟩,
 ⟨(opPick (some 52) (.tmp 44) (.const (Value.bool true)) (.tmp 51) 4 "wal.go:226" #[eD 17, eD 24]).op, none⟩
 ] (by kernel_rfl)))
 (.cond (.tmp 52)
 (.seq (.live [4] (.region 10 [
 ⟨(opAssign (some 4) (.const (Value.int IntKind.i64 36)) 26 "wal.go:227" #[]).op, none⟩
 ] (by kernel_rfl)))
 (.live [4] .ret))
 .skip))
 (.seq (.live [0, 1, 8] (.draw 11 [
 ⟨.p (opMove (some 53) (.tmp 0) 29 "wal.go:229" #[]), none⟩,
 ⟨.p (opNilCheck (some 54) (.tmp 53) 0 "wal.go:229" #[eD 0]), none⟩,
 ⟨.pn (opFieldAddr (some 55) 71 (.tmp 54) 1 1 3 true fl71_1 (by decide) 0 "wal.go:229" #[eD 1]) opFieldAddr_nat, none⟩,
 ⟨.pn (opFieldAddr (some 56) 69 (.tmp 55) 0 0 1 false fl69_0 (by decide) 0 "wal.go:229" #[eD 2]) opFieldAddr_nat, none⟩,
 ⟨.qm (opLoadT (.one (.int .i64)) (some 57) 3 (.tmp 56) (.int .i64) Try.underlying3 1 sz3 (by kernel_rfl) 3 "wal.go:229" #[eD 3]) opLoadT_nat opLoadT_mono, none⟩,
 ⟨.pn (opBin (some 58) .add 3 (.tmp 57) (.const (Value.int IntKind.i64 1)) 3 3 "wal.go:229" #[eD 4]) opBin_nat, none⟩,
 ⟨.p (opMove (some 59) (.tmp 0) 29 "wal.go:229" #[]), none⟩,
 ⟨.p (opNilCheck (some 60) (.tmp 59) 0 "wal.go:229" #[eD 6]), none⟩,
 ⟨.pn (opFieldAddr (some 61) 71 (.tmp 60) 1 1 3 true fl71_1 (by decide) 0 "wal.go:229" #[eD 7]) opFieldAddr_nat, none⟩,
 ⟨.pn (opFieldAddr (some 62) 69 (.tmp 61) 1 1 1 false fl69_1 (by decide) 0 "wal.go:229" #[eD 8]) opFieldAddr_nat, none⟩,
 ⟨.qm (opLoadT (.one (.int .i64)) (some 63) 3 (.tmp 62) (.int .i64) Try.underlying3 1 sz3 (by kernel_rfl) 3 "wal.go:229" #[eD 9]) opLoadT_nat opLoadT_mono, none⟩,
 ⟨.pn (opBin (some 64) .sub 3 (.const (Value.int IntKind.i64 1)) (.tmp 63) 3 3 "wal.go:229" #[eD 10]) opBin_nat, none⟩,
 ⟨.p (opMove (some 65) (.tmp 0) 29 "wal.go:229" #[]), none⟩,
 ⟨.p (opNilCheck (some 66) (.tmp 65) 0 "wal.go:229" #[eD 12]), none⟩,
 ⟨.pn (opFieldAddr (some 67) 71 (.tmp 66) 3 5 1 false fl71_3 (by decide) 0 "wal.go:229" #[eD 13]) opFieldAddr_nat, none⟩,
 ⟨.qm (opLoadT (.one (.int .i64)) (some 68) 3 (.tmp 67) (.int .i64) Try.underlying3 1 sz3 (by kernel_rfl) 3 "wal.go:229" #[eD 14]) opLoadT_nat opLoadT_mono, none⟩,
 ⟨.p (opBuild (some 69) 69 #[(.int .i64 0), (.int .i64 0), (.int .i64 0)] [(0, 0, 1, (.tmp 58)), (1, 1, 1, (.tmp 64)), (2, 2, 1, (.tmp 68))] ze69 (by kernel_rfl) 69 "wal.go:229" #[eD 5, eD 11, eD 15]), none⟩,
 ⟨.ma (opAlloc (some 8) 69 (.agg #[(.int .i64 0), (.int .i64 0), (.int .i64 0)]) ze69 0 "wal.go:229" #[]) opAlloc_adds, none⟩,
 ⟨.m (opStore none 69 (.tmp 8) (.tmp 69) 3 sz69 0 "wal.go:229" #[eD 17, eD 16, eP 0, eP 1, eP 2, eP 3, eP 4, eP 5, eP 6, eP 7, eP 8, eP 9, eP 10, eP 11, eP 12, eP 13, eP 14, eP 15, eP 16, eP 17]), none⟩
 ] mixed (by kernel_rfl)))
 (.seq (.live [0, 1, 8, 9] (.region 12 [
 ⟨(opAssign (some 9) (.const (Value.int IntKind.i64 0)) 3 "wal.go:230" #[]).op, none⟩
 ] (by kernel_rfl)))
 (.seq (.seq (.live [0, 8, 9, 70, 71, 72] (.region 13 [
 ⟨(opMove (some 70) (.tmp 1) 22 "wal.go:231" #[]).op, none⟩,
 ⟨(opLen (some 71) (.tmp 70) 22 (.slice 33) Try.underlying22 3 "wal.go:231" #[eD 0]).op, none⟩,
 ⟨(opMove (some 72) (.const (Value.int IntKind.i64 0)) 3 "wal.go:231" #[]).op, none⟩
 ] (by kernel_rfl)))
 (.block 2 (.loop [0, 8, 9, 70, 71, 72] f20_l1)))
 f20_r0))))
noncomputable def f20_b : Sim Try.prog :=
 (.seq (.live [0, 1] (.region 0 [
 ⟨(opAssign (some 4) (.const (Value.int IntKind.i64 0)) 26 "wal.go:218" #[]).op, none⟩
 ] (by kernel_rfl)))
 (.seq (.live [0, 1, 5] (.region 1 [
 ⟨(opAssign (some 5) (.const (Value.int IntKind.i64 0)) 3 "wal.go:219" #[]).op, none⟩
 ] (by kernel_rfl)))
 (.seq (.seq (.live [0, 1, 5, 12, 13, 14] (.region 2 [
 ⟨(opMove (some 12) (.tmp 1) 22 "wal.go:220" #[]).op, none⟩,
 ⟨(opLen (some 13) (.tmp 12) 22 (.slice 33) Try.underlying22 3 "wal.go:220" #[eD 0]).op, none⟩,
 ⟨(opMove (some 14) (.const (Value.int IntKind.i64 0)) 3 "wal.go:220" #[]).op, none⟩
 ] (by kernel_rfl)))
 (.block 0 (.loop [0, 1, 5, 12, 13, 14] f20_l0)))
 f20_r1)))
noncomputable def f20 : Fun Try.prog where
 id := 20
 fn := Try.f20
 hf := Try.func20
 hname := by kernel_rfl
 body := f20_b
 hbody := by kernel_rfl
 res := [rTmp 4]
 hres := by kernel_rfl
 n := 103
 hn := by kernel_rfl
theorem sw_run (F : Nat) (X : Dk) (g a f p s : Int) (z : Bool) (l : List (List AV)) :
 (f20.run F [.ptr 4 0, .ns z 1 l] ⟨[dk0 X, dk1 X, dk2 0 X, dk3 X, .cells [.ptr 2 0, .int .i64 g, .int .i64 a, .int .i64 f, .int .i64 p, .int .i64 s]], []⟩ : Ans) =
 loopRun (f20_l0.run F) [0, 1, 5, 12, 13, 14]
 (Cont.block 0 (Cont.then (f20_r1.run F (f20.leaveK Fun.done)) (f20.leaveK Fun.done))) F
 (Env.mk 103
 [(0, AV.ptr 4 0), (1, AV.ns z 1 l),
 (5, .int .i64 0), (12, AV.ns z 1 l),
 (13, .int .i64 (↑l.length : Int)), (14, .int .i64 0)])
 (St.mk
 [dk0 X, dk1 X, dk2 0 X, dk3 X,
 Ob.cells
 [AV.ptr 2 0, .int .i64 g, .int .i64 a, .int .i64 f,
 .int .i64 p, .int .i64 s]]
 []) := by kernel_rfl
theorem sw_a (F m : Nat) (st : St) (z y : Bool) (l b : List (List AV)) (n u i : Int) (K : Cont) :
 (loopRun (f20_l0.run F) [0, 1, 5, 12, 13, 14] K m.succ (Env.mk 103 [(0, .ptr 4 0), (1, .ns y 1 b), (5, .int .i64 n), (12, .ns z 1 l), (13, .int .i64 u), (14, .int .i64 i)]) st : Ans) =
 branch (.bool (decide (i < u)))
 (branch (.bool (inR l i))
 (branch (.bool ((LD.one (LT.ns 1)).is (V.rowAt l i)))
 (branch (.bool (decide (opq (↑(rwA (V.rowAt l i)).length : Int) > 4096)))
 (K AX.ret (Env.mk 103 [(4, .int .i64 41)]) st)
 (branch
 (AV.bool
 (true &&
 decide
 ((0 : Int) ≤ opq (↑(rwA (V.rowAt l i)).length : Int) ∧
 opq (↑(rwA (V.rowAt l i)).length : Int) < 1000000000)))
 (loopRun (f20_l0.run F) [0, 1, 5, 12, 13, 14] K m
 (Env.mk 103
 [(0, AV.ptr 4 0), (1, AV.ns y 1 b),
 (5,
 .int .i64 (IntKind.i64.wrap (n + piecesV (opq (↑(rwA (V.rowAt l i)).length : Int))))),
 (12, AV.ns z 1 l), (13, .int .i64 u),
 (14, .int .i64 (IntKind.i64.wrap (i + 1)))])
 st)
 none))
 none)
 none)
 (K (AX.exit 0)
 (Env.mk 103
 [(0, AV.ptr 4 0), (1, AV.ns y 1 b), (5, .int .i64 n)])
 st) := by kernel_rfl
theorem sw_mid (F : Nat) (X : Dk) (g a f p s : Int) (z : Bool) (l : List (List AV)) (n : Int) (K : Cont) :
 (f20_r1.run F K (Env.mk 103 [(0, .ptr 4 0), (1, .ns z 1 l), (5, .int .i64 n)]) ⟨[dk0 X, dk1 X, dk2 0 X, dk3 X, .cells [.ptr 2 0, .int .i64 g, .int .i64 a, .int .i64 f, .int .i64 p, .int .i64 s]], []⟩ : Ans) =
 onSome (dkG 0 (dk0 X) (dk1 X) (dk2 0 X) (dk3 X)) none fun (o : Dk) =>
 branch (.bool (decide (2 ≤ o.n)))
 (branch (.bool (decide (n > o.halfV)))
 (K AX.ret (Env.mk 103 [(4, .int .i64 36)])
 (St.mk
 [dk0 X, dk1 X, dk2 0 X, dk3 X,
 Ob.cells
 [AV.ptr 2 0, .int .i64 g, .int .i64 a, .int .i64 f,
 .int .i64 p, .int .i64 s]]
 []))
 (branch (.bool (decide (IntKind.i64.wrap (s + leastI true n (1 : Int)) > 2147483648)))
 (K AX.ret (Env.mk 103 [(4, .int .i64 36)])
 (St.mk
 [dk0 X, dk1 X, dk2 0 X, dk3 X,
 Ob.cells
 [AV.ptr 2 0, .int .i64 g, .int .i64 a, .int .i64 f,
 .int .i64 p, .int .i64 s]]
 []))
 (branch (.bool (decide (IntKind.i64.wrap (g + 1) ≥ 2147483648)))
 (K AX.ret (Env.mk 103 [(4, .int .i64 36)])
 (St.mk
 [dk0 X, dk1 X, dk2 0 X, dk3 X,
 Ob.cells
 [AV.ptr 2 0, .int .i64 g, .int .i64 a, .int .i64 f,
 .int .i64 p, .int .i64 s]]
 []))
 (loopRun (f20_l1.run F) [0, 8, 9, 70, 71, 72]
 (Cont.block 2 (Cont.then (f20_r0.run F K) K)) F
 (Env.mk 103
 [(0, AV.ptr 4 0), (8, AV.ptr 5 0),
 (9, .int .i64 0), (70, AV.ns z 1 l),
 (71, .int .i64 (↑l.length : Int)), (72, .int .i64 0)])
 (St.mk
 [dk0 X, dk1 X, dk2 0 X, dk3 X,
 Ob.cells
 [AV.ptr 2 0, .int .i64 g, .int .i64 a, .int .i64 f,
 .int .i64 p, .int .i64 s],
 Ob.cells
 [.int .i64 (IntKind.i64.wrap (g + 1)),
 .int .i64 (IntKind.i64.wrap ((1 : Int) - a)), .int .i64 s]]
 [])))))
 none := by kernel_rfl
theorem sw_b (F m : Nat) (X : Dk) (g a f p s g' a' f' : Int) (z : Bool) (l : List (List AV)) (n u i : Int) (K : Cont) :
 (loopRun (f20_l1.run F) [0, 8, 9, 70, 71, 72] K m.succ (Env.mk 103 [(0, .ptr 4 0), (8, .ptr 5 0), (9, .int .i64 n), (70, .ns z 1 l), (71, .int .i64 u), (72, .int .i64 i)]) ⟨[dk0 X, dk1 X, dk2 0 X, dk3 X, .cells [.ptr 2 0, .int .i64 g, .int .i64 a, .int .i64 f, .int .i64 p, .int .i64 s], .cells [.int .i64 g', .int .i64 a', .int .i64 f']], []⟩ : Ans) =
 branch (.bool (decide (i < u)))
 (branch (.bool (inR l i))
 (branch (.bool ((LD.one (LT.ns 1)).is (V.rowAt l i)))
 (onSome (dkG 0 (dk0 X) (dk1 X) (dk2 0 X) (dk3 X)) none fun (o : Dk) =>
 onSome
 (lgG
 [.int .i64 g, .int .i64 a, .int .i64 f, .int .i64 p,
 .int .i64 s])
 none fun (o_1 : Lg) =>
 branch
 (AV.bool
 (true &&
 (true &&
 (decide ((0 : Int) ≤ a' ∧ a' < 2) &&
 (decide ((0 : Int) ≤ n ∧ n < 900000) &&
 (byOk (rwA (V.rowAt l i)) &&
 cdec
 ((rwA (V.rowAt l i)).length ≤ 5000 ∧
 2 ≤ o.n ∧ o.3.length < 900000 ∧ o_1.s < 8000000000000000000)))))))
 (branch
 (AV.bool
 (true &&
 decide
 ((0 : Int) ≤ opq (↑(rwA (V.rowAt l i)).length : Int) ∧
 opq (↑(rwA (V.rowAt l i)).length : Int) < 1000000000)))
 (loopRun (f20_l1.run F) [0, 8, 9, 70, 71, 72] K m
 (Env.mk 103
 [(0, AV.ptr 4 0), (8, AV.ptr 5 0),
 (9,
 .int .i64 (IntKind.i64.wrap (n + piecesV (opq (↑(rwA (V.rowAt l i)).length : Int))))),
 (70, AV.ns z 1 l), (71, .int .i64 u),
 (72, .int .i64 (IntKind.i64.wrap (i + 1)))])
 (St.mk
 [dk0 (o.wrLogO o_1 a' n (nR (rwA (V.rowAt l i)))), dk1 (o.wrLogO o_1 a' n (nR (rwA (V.rowAt l i)))),
 dk2 0 (o.wrLogO o_1 a' n (nR (rwA (V.rowAt l i)))),
 dk3 (o.wrLogO o_1 a' n (nR (rwA (V.rowAt l i)))),
 Ob.cells
 [AV.ptr 2 0, .int .i64 (lv0 (o_1.wrO (nR (rwA (V.rowAt l i))))),
 .int .i64 (lv1 (o_1.wrO (nR (rwA (V.rowAt l i))))),
 .int .i64 (lv2 (o_1.wrO (nR (rwA (V.rowAt l i))))),
 .int .i64 (lv3 (o_1.wrO (nR (rwA (V.rowAt l i))))),
 .int .i64 (lv4 (o_1.wrO (nR (rwA (V.rowAt l i)))))],
 Ob.cells [.int .i64 g', .int .i64 a', .int .i64 f']]
 []))
 none)
 none)
 none)
 none)
 (K (AX.exit 2)
 (Env.mk 103
 [(0, AV.ptr 4 0), (8, AV.ptr 5 0),
 (9, .int .i64 n)])
 (St.mk
 [dk0 X, dk1 X, dk2 0 X, dk3 X,
 Ob.cells
 [AV.ptr 2 0, .int .i64 g, .int .i64 a, .int .i64 f,
 .int .i64 p, .int .i64 s],
 Ob.cells [.int .i64 g', .int .i64 a', .int .i64 f']]
 [])) := by kernel_rfl
theorem sw_out (F : Nat) (X : Dk) (g a f p s g' a' f' n : Int) (K : Cont) :
 (f20_r0.run F K (Env.mk 103 [(0, .ptr 4 0), (8, .ptr 5 0), (9, .int .i64 n)]) ⟨[dk0 X, dk1 X, dk2 0 X, dk3 X, .cells [.ptr 2 0, .int .i64 g, .int .i64 a, .int .i64 f, .int .i64 p, .int .i64 s], .cells [.int .i64 g', .int .i64 a', .int .i64 f']], []⟩ : Ans) =
 onSome (dkG 0 (dk0 X) (dk1 X) (dk2 0 X) (dk3 X)) none fun (o : Dk) =>
 onSome (dkG 0 (dk0 o.flush) (dk1 o.flush) (dk2 0 o.flush) (dk3 o.flush)) none fun (o : Dk) =>
 onSome
 (lgG
 [.int .i64 g', .int .i64 a', .int .i64 f', .int .i64 n,
 .int .i64 s])
 none fun (o_1 : Lg) =>
 branch (.bool (cdec (o.3.length < 999998)))
 (K AX.ret (Env.mk 103 [(4, .int .i64 0)])
 (St.mk
 [dk0 (o.crown o_1), dk1 (o.crown o_1), dk2 0 (o.crown o_1), dk3 (o.crown o_1),
 Ob.cells
 [AV.ptr 2 0, .int .i64 (lv0 o_1), .int .i64 (lv1 o_1),
 .int .i64 (lv2 o_1), .int .i64 (lv3 o_1), .int .i64 (lv4 o_1)],
 Ob.cells [.int .i64 g', .int .i64 a', .int .i64 f']]
 []))
 none := by kernel_rfl
def totalR : List (List Nat) → Nat
 | [] => 0
 | r :: t => piecesN r.length + totalR t
def zipS (s : Nat) : List (List Nat) → List (List Nat × Nat)
 | [] => []
 | r :: t => (r, s) :: zipS (s + piecesN r.length) t
theorem zipS_fst : ∀ (rs : List (List Nat)) (s : Nat), (zipS s rs).map (·.1) = rs
 | [], _ => rfl
 | r :: t, s => by simp only [zipS, List.map_cons, zipS_fst t]
theorem zipS_total : ∀ (rs : List (List Nat)) (s : Nat), totalN (zipS s rs) = totalR rs
 | [], _ => rfl
 | r :: t, s => by simp only [zipS, totalN, totalR, zipS_total t]
theorem zipS_end : ∀ (rs : List (List Nat)) (s : Nat), endS s (zipS s rs) = s + totalR rs
 | [], _ => rfl
 | r :: t, s => by simp only [zipS, endS, totalR, zipS_end t]; omega
def Dk.wrAll (X : Dk) (k s : Nat) : List (List Nat) → Dk
 | [] => X
 | r :: t => (X.wrRec k s (piecesN r.length) (recAll r)).wrAll (k + piecesN r.length) (s + piecesN r.length) t
theorem wrAll_n : ∀ (rs : List (List Nat)) (X : Dk) (k s : Nat), (X.wrAll k s rs).n = X.n
 | [], _, _, _ => rfl
 | r :: t, X, k, s => by rw [Dk.wrAll, wrAll_n t, wrRec_n]
theorem wrAll_ok : ∀ (rs : List (List Nat)) {X : Dk} (h : X.Ok) (k s : Nat), (∀ r ∈ rs, ∀ x ∈ r, x < 256) → (X.wrAll k s rs).Ok
 | [], _, h, _, _, _ => h
 | r :: t, X, h, k, s, hr => wrAll_ok t (wrRec_ok _ h _ _ (recAll_lt (hr r (by simp)))) _ _ fun q hq => hr q (by simp [hq])
theorem wrAll_len : ∀ (rs : List (List Nat)) (X : Dk) (k s : Nat), (X.wrAll k s rs).ws.length ≤ X.ws.length + totalR rs
 | [], _, _, _ => by simp [Dk.wrAll, totalR]
 | r :: t, X, k, s => by
  have h1 := wrAll_len t (X.wrRec k s (piecesN r.length) (recAll r)) (k + piecesN r.length) (s + piecesN r.length)
  have h2 := wrRec_len (piecesN r.length) X k s (recAll r)
  rw [Dk.wrAll]; simp only [totalR]; omega
theorem wrAll_sector : ∀ (rs : List (List Nat)) (X : Dk) (k s : Nat), k + totalR rs ≤ X.n → s + totalR rs ≤ 2147483648 → (∀ r ∈ rs, r.length ≤ 4096) →
  (∀ j, (j < k ∨ k + totalR rs ≤ j) → (X.wrAll k s rs).sector j = X.sector j) ∧ Chain (X.wrAll k s rs).sector k s (zipS s rs)
 | [], X, k, s, _, _, _ => ⟨fun j _ => rfl, trivial⟩
 | r :: t, X, k, s, hk, hs, hr => by
  simp only [totalR] at hk hs
  have hsec := wrRec_sector (piecesN r.length) X k s (recAll r) (by omega)
  obtain ⟨h1, h2⟩ := wrAll_sector t (X.wrRec k s (piecesN r.length) (recAll r)) (k + piecesN r.length) (s + piecesN r.length) (by rw [wrRec_n]; omega) (by omega) fun q hq => hr q (by simp [hq])
  refine ⟨fun j hj => ?_, Nat.le_refl _, by omega, hr r (by simp), fun i hi => ?_, h2⟩
  ·simp only [totalR] at hj
   rw [Dk.wrAll, h1 j (by omega), hsec, if_neg (by omega)]
  ·rw [Dk.wrAll, h1 _ (by omega), hsec, if_pos ⟨by omega, by omega⟩, Nat.add_sub_cancel_left]; rfl
def swE (X : Dk) (L : Lg) (rs : List (List Nat)) : Nat := if rs.any (fun r => decide (4096 < r.length)) then 41 else if X.half < totalR rs ∨ 2147483648 < L.s + max (totalR rs) 1 ∨ 2147483648 ≤ L.g + 1 then 36 else 0
def Lg.swN (L : Lg) (rs : List (List Nat)) : Lg := ⟨L.g + 1, 1 - L.a, L.s, totalR rs, L.s + totalR rs⟩
def Dk.swN (X : Dk) (L : Lg) (rs : List (List Nat)) : Dk := ((X.wrAll (placeN X (1 - L.a) 0) L.s rs).flush).crown (L.swN rs)
def Dk.sw (X : Dk) (L : Lg) (rs : List (List Nat)) : Dk := if swE X L rs = 0 then X.swN L rs else X
def Lg.sw (L : Lg) (X : Dk) (rs : List (List Nat)) : Lg := if swE X L rs = 0 then L.swN rs else L
theorem swN_ok {X : Dk} (h : X.Ok) (L : Lg) {rs : List (List Nat)} (hr : ∀ r ∈ rs, ∀ x ∈ r, x < 256) : (X.swN L rs).Ok := crown_ok (flush_ok (wrAll_ok rs h _ _ hr)) _
theorem sw_ok {X : Dk} (h : X.Ok) (L : Lg) {rs : List (List Nat)} (hr : ∀ r ∈ rs, ∀ x ∈ r, x < 256) : (X.sw L rs).Ok := by
 unfold Dk.sw; split
 ·exact swN_ok h L hr
 ·exact h
theorem swE_zero {X : Dk} {L : Lg} {rs : List (List Nat)} (h : swE X L rs = 0) : (∀ r ∈ rs, r.length ≤ 4096) ∧ totalR rs ≤ X.half ∧ L.s + max (totalR rs) 1 ≤ 2147483648 ∧ L.g + 1 < 2147483648 := by
 rw [swE] at h
 split at h
 ·omega
 ·rename_i hc
  split at h
  ·omega
  ·refine ⟨fun r hr => ?_, by omega, by omega, by omega⟩
   by_cases hl : r.length ≤ 4096
   ·exact hl
   ·exact absurd (List.any_eq_true.mpr ⟨r, hr, decide_eq_true (by omega)⟩) hc
theorem head_read {g a f : Nat} (hg : g < 2147483648) (ha : a < 2) (hf : 1 ≤ f) (hf2 : f < 4294967296) : headD (headB g a f) (g % 2) = ⟨g, a, f⟩ := by
 have e0 : numB (headB g a f) 0 = g := num_le4 g (by omega)
 have e60 : numB (headB g a f) 60 = g := num_le4 g (by omega)
 have e5 : numB (headB g a f) 5 = f := num_le4 f hf2
 have es : stampB (headB g a f) = g := by rw [stampB, e0, e60, if_neg (by omega)]
 have e4 : (headB g a f).getD 4 0 = a := by show a % 256 = a; omega
 have ez : (((headB g a f).take 60).drop 9).any (· != 0) = false := rfl
 rw [headD, es, e4, e5, ez, if_neg (by simp; omega)]
theorem torn_head (s t : Nat) (ht : t ≤ 64) : (headB 2 1 s).take t ++ zB.drop t = headB 2 1 s ∨ (headD ((headB 2 1 s).take t ++ zB.drop t) 0).g = 0 := by
 by_cases h60 : t ≤ 60
 ·right
  have htl : ((headB 2 1 s).take t).length = t := by rw [List.length_take, headB_len]; omega
  have get : ∀ i, 60 ≤ i → ((headB 2 1 s).take t ++ zB.drop t).getD i 0 = 0 := fun i hi => by
   rw [List.getD_eq_getElem?_getD, List.getElem?_append_right (by omega), htl, zB, List.drop_replicate, List.getElem?_replicate]; split <;> rfl
  have e60 : numB ((headB 2 1 s).take t ++ zB.drop t) 60 = 0 := by rw [numB, get _ (by omega), get _ (by omega), get _ (by omega), get _ (by omega)]; rfl
  have es : stampB ((headB 2 1 s).take t ++ zB.drop t) = 0 := by
   rw [stampB, e60]; split
   ·rfl
   ·omega
  rw [headD, es]
  split <;> rfl
 ·left
  have : t = 61 ∨ t = 62 ∨ t = 63 ∨ t = 64 := by omega
  rcases this with rfl | rfl | rfl | rfl <;> rfl
theorem sw_plain {X : Dk} {L : Lg} {lo : List (List Nat × Nat)} (h : Hist X L 400 lo) {rs : List (List Nat)} (he : swE X L rs = 0) {G : Dk} (hG : G.Ok) (hn : G.n = 400)
  (h1 : G.sector 1 = headB 1 0 1) (hs : ∀ j, 2 ≤ j → j < 400 → G.sector j = (X.wrAll (placeN X (1 - L.a) 0) L.s rs).sector j) :
  (G.sector 0 = headB 2 1 L.s → opE G = 0 ∧ G.opR = rs) ∧ ((headD (G.sector 0) 0).g = 0 → opE G = 0 ∧ G.opR = lo.map (·.1)) := by
 have hL := h.L
 have hsz := h.sz
 have hh : X.half = (X.n - 2) / 2 := rfl
 have hhG : G.half = X.half := by rw [Dk.half, Dk.half, hn, hsz]
 have ha : L.a = 0 := by rw [hL]
 have hLs : L.s = 1 + totalN lo := by rw [hL]
 have hp := h.p
 obtain ⟨e1, e2, e3, e4⟩ := swE_zero he
 have hpl : placeN X (1 - L.a) 0 = 2 + X.half := by rw [ha, placeN]; omega
 rw [hpl] at hs
 obtain ⟨w1, w2⟩ := wrAll_sector rs X (2 + X.half) L.s (by omega) (by omega) e1
 have hd1 : headD (G.sector 1) 1 = ⟨1, 0, 1⟩ := by rw [h1]; exact head_one
 refine ⟨fun g0 => ?_, fun g0 => ?_⟩
 ·have hd0 : headD (G.sector 0) 0 = ⟨2, 1, L.s⟩ := by rw [g0]; exact head_read (g := 2) (by decide) (by decide) (by omega) (by omega)
  have hnew : G.newest = ⟨2, 1, L.s⟩ := by rw [newest_eq, hd0, hd1]; rfl
  have hL0 : opL0 G = ⟨2, 1, L.s, 0, max G.next L.s⟩ := by rw [opL0, hnew]
  have hplG : ∀ p, placeN G 1 p = 2 + X.half + p := fun p => by rw [placeN, hhG]; omega
  have hlen := len_total (zipS L.s rs)
  rw [zipS_total] at hlen
  refine ⟨by rw [opE, if_neg (by omega), hnew, if_neg (show ¬ (2 : Nat) = 0 by decide)], ?_⟩
  rw [Dk.opR, hL0, hnew, hhG, show X.half = (zipS L.s rs).length + (X.half - (zipS L.s rs).length) by omega, recs_chain (zipS L.s rs) _ _ L.s (by
   show Chain G.sector (placeN G 1 0) L.s _
   rw [hplG, Nat.add_zero]
   exact chain_congr _ _ _ (fun j hj hj2 => (hs j (by omega) (by rw [zipS_total] at hj2; omega)).symm) w2) (by show 0 + _ ≤ _; rw [zipS_total, hhG]; omega)]
  rw [zipS_fst, recs_none (recT_low (fun hq => ?_) (by show 0 + _ ≤ _; rw [zipS_total, hhG]; omega))]
  ·simp
  ·have hq' : 0 + totalN (zipS L.s rs) < G.half := hq
   rw [zipS_total, hhG] at hq'
   show stampB (G.sector (placeN G 1 (0 + totalN (zipS L.s rs)))) < endS L.s (zipS L.s rs)
   rw [zipS_total, zipS_end, hplG, hs _ (by omega) (by omega), w1 _ (by omega), h.zero _ (by omega) (by omega), zB_stamp]; omega
 ·have hnew : G.newest = ⟨1, 0, 1⟩ := by
   rw [newest_eq, hd1]
   have : hdMax ⟨0, 0, 0⟩ (headD (G.sector 0) 0) = ⟨0, 0, 0⟩ := by rw [hdMax, g0, if_neg (by decide)]
   rw [this]; rfl
  have hL0 : opL0 G = ⟨1, 0, 1, 0, max G.next 1⟩ := by rw [opL0, hnew]
  have hplG : ∀ p, placeN G 0 p = 2 + p := fun p => by rw [placeN, Nat.zero_mul, Nat.add_zero]
  have hlen := len_total lo
  refine ⟨by rw [opE, if_neg (by omega), hnew, if_neg (by decide)], ?_⟩
  rw [Dk.opR, hL0, hnew, hhG, show X.half = lo.length + (X.half - lo.length) by omega, recs_chain lo _ _ 1 (by
   show Chain G.sector (placeN G 0 0) 1 _
   rw [hplG]
   exact chain_congr _ _ _ (fun j hj hj2 => by rw [hs j hj (by omega), w1 j (by omega)]) h.chain) (by show 0 + _ ≤ _; rw [hhG]; omega)]
  rw [recs_none (recT_low (fun hq => ?_) (by show 0 + _ ≤ _; rw [hhG]; omega))]
  ·simp
  ·have hq' : 0 + totalN lo < G.half := hq
   rw [hhG] at hq'
   show stampB (G.sector (placeN G 0 (0 + totalN lo))) < endS 1 lo
   rw [hplG, hs _ (by omega) (by omega), w1 _ (by omega), h.zero _ (by omega) (by omega), zB_stamp, h.s]; omega
def envSA (z y : Bool) (l b : List (List AV)) (n i : Nat) : Env := Env.mk 103 [(0, .ptr 4 0), (1, .ns y 1 b), (5, .int .i64 (n : Int)), (12, .ns z 1 l), (13, .int .i64 (l.length : Int)), (14, .int .i64 (i : Int))]
theorem sw_loopA (F : Nat) (st : St) (z y : Bool) (l b : List (List AV)) (hl : ∀ r ∈ l, isB r = true) (hln : l.length < 100000) (K : Cont) : ∀ (d m i n : Nat), i + d = l.length → d < m → n ≤ 74 * i →
  loopRun (f20_l0.run F) [0, 1, 5, 12, 13, 14] K m (envSA z y l b n i) st = if (bsR (l.drop i)).any (fun r => decide (4096 < r.length)) then K .ret (Env.mk 103 [(4, .int .i64 41)]) st
   else K (.exit 0) (Env.mk 103 [(0, .ptr 4 0), (1, .ns y 1 b), (5, .int .i64 ((n + totalR (bsR (l.drop i)) : Nat) : Int))]) st
 | d, 0, i, n, _, h, _ => by omega
 | 0, m + 1, i, n, h, _, _ => by
  rw [show m + 1 = m.succ from rfl]
  refine Eq.trans (sw_a F m st z y l b n _ i K) ?_
  rw [branch_not (decide_eq_false (by omega)), List.drop_eq_nil_of_le (by omega)]; rfl
 | d + 1, m + 1, i, n, h, hm, hn => by
  have hi : i < l.length := by omega
  obtain ⟨a1, a2, a3, a4⟩ := isB_at hl hi
  rw [a4] at a3
  have hk := (byOk_iff.mp a3).2
  have e1 : bsR (l.drop i) = nR (rwA l[i]) :: bsR (l.drop (i + 1)) := by rw [List.drop_eq_getElem_cons hi]; rfl
  have hpn : piecesN (rwA l[i]).length = ((rwA l[i]).length + 57) / 56 := rfl
  rw [show m + 1 = m.succ from rfl]
  refine Eq.trans (sw_a F m st z y l b n _ i K) ?_
  rw [branch_of (decide_eq_true (by omega)), branch_of a1, branch_of a2, a4, opq_eq, e1, List.any_cons]
  simp only [nR_length]
  by_cases hc : 4096 < (rwA l[i]).length
  ·rw [branch_of (decide_eq_true (by omega)), if_pos (by rw [Bool.or_eq_true]; exact .inl (decide_eq_true hc))]
  ·have ep : piecesV (((rwA l[i]).length : Nat) : Int) = ((piecesN (rwA l[i]).length : Nat) : Int) := by rw [piecesV, opq_eq, Int.toNat_natCast]
   rw [branch_not (decide_eq_false (by omega)), branch_of (by rw [Bool.true_and]; exact decide_eq_true (by omega)), ep, show (n : Int) + ((piecesN (rwA l[i]).length : Nat) : Int) = ((n + piecesN (rwA l[i]).length : Nat) : Int) by omega, wrap_nat (by omega), wrap_succ (by omega), decide_eq_false hc, Bool.false_or]
   refine (sw_loopA F st z y l b hl hln K d m (i + 1) _ (by omega) (by omega) (by omega)).trans ?_
   simp only [totalR, nR_length, Nat.add_assoc]
noncomputable def stS (X : Dk) (L : Lg) (g' a' f' : Nat) : St := ⟨[dk0 X, dk1 X, dk2 0 X, dk3 X, .cells [.ptr 2 0, .int .i64 (L.g : Int), .int .i64 (L.a : Int), .int .i64 (L.f : Int), .int .i64 (L.p : Int), .int .i64 (L.s : Int)], .cells [.int .i64 (g' : Int), .int .i64 (a' : Int), .int .i64 (f' : Int)]], []⟩
theorem sw_loopB (F : Nat) (z : Bool) (l : List (List AV)) (hl : ∀ r ∈ l, isB r = true) (hln : l.length < 100000) (g' a' f' : Nat) (ha : a' < 2) (K : Cont) : ∀ (d m i n : Nat) (X : Dk) (L : Lg), i + d = l.length → d < m → X.Ok → 2 ≤ X.n → X.ws.length + totalR (bsR (l.drop i)) < 800000 → n + totalR (bsR (l.drop i)) < 800000 → L.s + totalR (bsR (l.drop i)) < 7000000000000000000 → (∀ r ∈ bsR (l.drop i), r.length ≤ 4096) →
  loopRun (f20_l1.run F) [0, 8, 9, 70, 71, 72] K m (Env.mk 103 [(0, .ptr 4 0), (8, .ptr 5 0), (9, .int .i64 (n : Int)), (70, .ns z 1 l), (71, .int .i64 (l.length : Int)), (72, .int .i64 (i : Int))]) (stS X L g' a' f')
   = K (.exit 2) (Env.mk 103 [(0, .ptr 4 0), (8, .ptr 5 0), (9, .int .i64 ((n + totalR (bsR (l.drop i)) : Nat) : Int))]) (stS (X.wrAll (placeN X a' n) L.s (bsR (l.drop i))) { L with s := L.s + totalR (bsR (l.drop i)) } g' a' f')
 | d, 0, i, n, X, L, _, h, _, _, _, _, _, _ => by omega
 | 0, m + 1, i, n, X, L, h, _, _, _, _, _, _, _ => by
  rw [show m + 1 = m.succ from rfl]
  refine Eq.trans (sw_b F m X (L.g : Int) (L.a : Int) (L.f : Int) (L.p : Int) (L.s : Int) g' a' f' z l n _ i K) ?_
  rw [branch_not (decide_eq_false (by omega)), List.drop_eq_nil_of_le (by omega)]; rfl
 | d + 1, m + 1, i, n, X, L, h, hm, hX, h2, hw, hn, hs, hr => by
  have hi : i < l.length := by omega
  obtain ⟨a1, a2, a3, a4⟩ := isB_at hl hi
  rw [a4] at a3
  have hok := byOk_iff.mp a3
  have hk := hok.2
  have e1 : bsR (l.drop i) = nR (rwA l[i]) :: bsR (l.drop (i + 1)) := by rw [List.drop_eq_getElem_cons hi]; rfl
  have hlt : ∀ y ∈ nR (rwA l[i]), y < 256 := fun y hy => okR_lt hok.1 hy
  have hpn : piecesN (rwA l[i]).length = ((rwA l[i]).length + 57) / 56 := rfl
  rw [e1] at hw hn hs hr
  simp only [totalR, nR_length] at hw hn hs
  have hlen := hr _ (List.mem_cons_self ..)
  rw [nR_length] at hlen
  have ep : piecesV (((rwA l[i]).length : Nat) : Int) = ((piecesN (rwA l[i]).length : Nat) : Int) := by rw [piecesV, opq_eq, Int.toNat_natCast]
  obtain ⟨v0, v1, v2, v3, v4⟩ := lv_eq (L.wr (nR (rwA l[i])))
  rw [show m + 1 = m.succ from rfl]
  refine Eq.trans (sw_b F m X (L.g : Int) (L.a : Int) (L.f : Int) (L.p : Int) (L.s : Int) g' a' f' z l n _ i K) ?_
  rw [branch_of (decide_eq_true (by omega)), branch_of a1, branch_of a2, gD hX (by omega), onSome_some, lgG_cs, onSome_some, a4]
  refine (branch_of ?_).trans ?_
  ·simp only [Bool.true_and, Bool.and_eq_true, decide_eq_true_eq, cdec_iff]
   exact ⟨by omega, by omega, a3, by omega, h2, by show X.ws.length < _; omega, by omega⟩
  rw [opq_eq, branch_of (by rw [Bool.true_and]; exact decide_eq_true (by omega)), ep, show (n : Int) + ((piecesN (rwA l[i]).length : Nat) : Int) = ((n + piecesN (rwA l[i]).length : Nat) : Int) by omega, wrap_nat (by omega), wrap_succ (by omega), wrLogO_eq, wrO_eq, v0, v1, v2, v3, v4]
  have hX' : (X.wrLog L a' n (nR (rwA l[i]))).Ok := wrRec_ok _ hX _ _ (recAll_lt hlt)
  have hn' : (X.wrLog L a' n (nR (rwA l[i]))).n = X.n := wrRec_n ..
  have hl' : (X.wrLog L a' n (nR (rwA l[i]))).ws.length ≤ X.ws.length + piecesN (nR (rwA l[i])).length := wrRec_len ..
  rw [nR_length] at hl'
  have hs' : (L.wr (nR (rwA l[i]))).s = L.s + piecesN (rwA l[i]).length := by rw [← nR_length]; rfl
  refine Eq.trans (sw_loopB F z l hl hln g' a' f' ha K d m (i + 1) _ (X.wrLog L a' n (nR (rwA l[i]))) (L.wr (nR (rwA l[i]))) (by omega) (by omega) hX' (by omega) (by omega) (by omega) (by omega) fun r hq => hr r (List.mem_cons_of_mem _ hq)) ?_
  have epl : placeN (X.wrLog L a' n (nR (rwA l[i]))) a' (n + piecesN (rwA l[i]).length) = placeN X a' n + piecesN (rwA l[i]).length := by
   rw [placeN, placeN, Dk.half, Dk.half, hn']; omega
  rw [e1, Dk.wrAll, totalR, nR_length, epl, hs', Nat.add_assoc, Nat.add_assoc, Dk.wrLog, nR_length]
  rfl
structure SOk (X : Dk) (L : Lg) (n : Nat) : Prop where
 n2 : 2 ≤ X.n
 a : L.a < 2
 w : X.ws.length < 700000
 s : L.s < 6000000000000000000
 g : L.g < 8000000000000000000
 n : n < 100000
theorem switch_can {X : Dk} (h : X.Ok) {L : Lg} {l : List (List AV)} (hL : SOk X L l.length) (z : Bool) (hl : ∀ r ∈ l, isB r = true) :
  ∃ xs, f20.run 1000000 [.ptr 4 0, .ns z 1 l] ⟨X.obs ++ [lgC L], []⟩ = some (.ret (.int .i64 ((swE X L (bsR l) : Nat) : Int)), ⟨(X.sw L (bsR l)).obs ++ lgC (L.sw X (bsR l)) :: xs, []⟩) := by
 obtain ⟨F, hF⟩ : ∃ F : Nat, F = 1000000 := ⟨_, rfl⟩
 obtain ⟨n2, ha, hw, hs, hg, hn⟩ := hL
 have hn1 := h.n1
 have hh : X.half = (X.n - 2) / 2 := rfl
 have hbs : ∀ r ∈ bsR l, ∀ x ∈ r, x < 256 := by
  intro r hr
  obtain ⟨q, hq, rfl⟩ := List.mem_map.mp hr
  exact row_lt hl hq
 rw [dk_obs h, dk_obs (sw_ok h L hbs)]
 rw [← hF]
 have key := sw_run F X (L.g : Int) (L.a : Int) (L.f : Int) (L.p : Int) (L.s : Int) z l
 have lA := sw_loopA F ⟨[dk0 X, dk1 X, dk2 0 X, dk3 X, .cells [.ptr 2 0, .int .i64 (L.g : Int), .int .i64 (L.a : Int), .int .i64 (L.f : Int), .int .i64 (L.p : Int), .int .i64 (L.s : Int)]], []⟩ z z l l hl hn (Cont.block 0 (Cont.then (f20_r1.run F (f20.leaveK Fun.done)) (f20.leaveK Fun.done))) l.length F 0 0 (by omega) (by omega) (Nat.le_refl _)
 have key := key.trans lA
 rw [List.drop_zero, Nat.zero_add] at key
 by_cases h1 : (bsR l).any (fun r => decide (4096 < r.length)) = true
 ·rw [if_pos h1] at key
  have e1 : swE X L (bsR l) = 41 := if_pos h1
  refine ⟨[], key.trans ?_⟩
  rw [Dk.sw, Lg.sw, e1, if_neg (by omega), if_neg (by omega)]; rfl
 ·rw [if_neg h1] at key
  have key := key.trans (Eq.trans (show _ = f20_r1.run F (f20.leaveK Fun.done) _ _ from rfl) (sw_mid F X (L.g : Int) (L.a : Int) (L.f : Int) (L.p : Int) (L.s : Int) z l _ _))
  rw [gD h (by omega), onSome_some, branch_of (decide_eq_true n2), Dk.halfV, opq_eq] at key
  by_cases h2 : X.half < totalR (bsR l)
  ·have e1 : swE X L (bsR l) = 36 := by rw [swE, if_neg h1, if_pos (.inl h2)]
   rw [branch_of (decide_eq_true (by omega))] at key
   refine ⟨[], key.trans ?_⟩
   rw [Dk.sw, Lg.sw, e1, if_neg (by omega), if_neg (by omega)]; rfl
  ·rw [branch_not (decide_eq_false (by omega)), show (1 : Int) = ((1 : Nat) : Int) from rfl, lead_max, show (L.s : Int) + ((max (totalR (bsR l)) 1 : Nat) : Int) = ((L.s + max (totalR (bsR l)) 1 : Nat) : Int) by omega, wrap_nat (by omega), show (L.g : Int) + ((1 : Nat) : Int) = ((L.g + 1 : Nat) : Int) by omega, wrap_nat (by omega), show ((1 : Nat) : Int) - (L.a : Int) = ((1 - L.a : Nat) : Int) by omega, wrap_nat (by omega)] at key
   by_cases h3 : 2147483648 < L.s + max (totalR (bsR l)) 1
   ·have e1 : swE X L (bsR l) = 36 := by rw [swE, if_neg h1, if_pos (.inr (.inl h3))]
    rw [branch_of (decide_eq_true (by omega))] at key
    refine ⟨[], key.trans ?_⟩
    rw [Dk.sw, Lg.sw, e1, if_neg (by omega), if_neg (by omega)]; rfl
   ·rw [branch_not (decide_eq_false (by omega))] at key
    by_cases h4 : 2147483648 ≤ L.g + 1
    ·have e1 : swE X L (bsR l) = 36 := by rw [swE, if_neg h1, if_pos (.inr (.inr h4))]
     rw [branch_of (decide_eq_true (by omega))] at key
     refine ⟨[], key.trans ?_⟩
     rw [Dk.sw, Lg.sw, e1, if_neg (by omega), if_neg (by omega)]; rfl
    ·have e1 : swE X L (bsR l) = 0 := by rw [swE, if_neg h1, if_neg (by omega)]
     rw [branch_not (decide_eq_false (by omega))] at key
     have hrl : ∀ r ∈ bsR l, r.length ≤ 4096 := (swE_zero e1).1
     have lB := sw_loopB F z l hl hn (L.g + 1) (1 - L.a) L.s (by omega) (Cont.block 2 (Cont.then (f20_r0.run F (f20.leaveK Fun.done)) (f20.leaveK Fun.done))) l.length F 0 0 X L (by omega) (by omega) h n2 (by rw [List.drop_zero]; omega) (by rw [List.drop_zero]; omega) (by rw [List.drop_zero]; omega) (by rw [List.drop_zero]; exact hrl)
     rw [List.drop_zero, Nat.zero_add] at lB
     have hY : (X.wrAll (placeN X (1 - L.a) 0) L.s (bsR l)).Ok := wrAll_ok _ h _ _ hbs
     have hYl := wrAll_len (bsR l) X (placeN X (1 - L.a) 0) L.s
     have key := key.trans (lB.trans (Eq.trans (show _ = f20_r0.run F (f20.leaveK Fun.done) _ _ from rfl) (sw_out F (X.wrAll (placeN X (1 - L.a) 0) L.s (bsR l)) (L.g : Int) (L.a : Int) (L.f : Int) (L.p : Int) ((L.s + totalR (bsR l) : Nat) : Int) ((L.g + 1 : Nat) : Int) ((1 - L.a : Nat) : Int) (L.s : Int) ((totalR (bsR l) : Nat) : Int) _)))
     rw [gD hY (by omega), onSome_some, gD (flush_ok hY) (by show 0 < _; omega), onSome_some] at key
     have hlg := lgG_cs (L.swN (bsR l))
     obtain ⟨v0, v1, v2, v3, v4⟩ := lv_eq (L.swN (bsR l))
     have key := key.trans ((congrArg (fun o => onSome o none _) hlg).trans ((onSome_some ..).trans (branch_of (cdec_iff.mpr (by show 0 < _; omega)))))
     rw [v0, v1, v2, v3, v4] at key
     refine ⟨[.cells [.int .i64 ((L.g + 1 : Nat) : Int), .int .i64 ((1 - L.a : Nat) : Int), .int .i64 (L.s : Int)]], key.trans ?_⟩
     rw [Dk.sw, Lg.sw, e1, if_pos rfl, if_pos rfl]; rfl
noncomputable def swEO (X : Dk) (L : Lg) (rs : List (List Nat)) : Int := opq ((swE X L rs : Nat) : Int)
noncomputable def Dk.swO (X : Dk) (L : Lg) (rs : List (List Nat)) : Dk := opq (X.sw L rs)
noncomputable def Lg.swO (L : Lg) (X : Dk) (rs : List (List Nat)) : Lg := opq (L.sw X rs)
theorem swO_eq (X : Dk) (L : Lg) (rs : List (List Nat)) : swEO X L rs = ((swE X L rs : Nat) : Int) ∧ X.swO L rs = X.sw L rs ∧ L.swO X rs = L.sw X rs := ⟨opq_eq _, opq_eq _, opq_eq _⟩
noncomputable def s20 : OrcS Try.prog := f20.by'
 (fun args st k => match args with
  | [x, w] => onL x st fun j i X L => onNs 1 w fun _ l => ifT (okBs l && cdec (SOk X L l.length)) (k (.ret (.int .i64 (swEO X L (bsR l)))) (plL (plD st i (X.swO L (bsR l))) j i (L.swO X (bsR l))))
  | _ => none)
 fun args st k fin h => by
  split at h
  ·rename_i x w
   obtain ⟨j, i, o0, o1, o2, o3, X, L, rfl, hj, h0, h1, h2, h3, hd, g901⟩ := onL_spec h
   obtain ⟨zz, l, g904, hx⟩ := onNs_spec g901
   obtain ⟨hk, g905⟩ := ifT_spec g904
   simp only [Bool.and_eq_true, cdec_iff] at hk
   obtain ⟨hb, hk3⟩ := hk
   obtain ⟨hb, _⟩ := okBs_iff.mp hb
   obtain ⟨e1, e2, e3⟩ := swO_eq X L (bsR l)
   rw [e1, e2, e3] at g905
   have hbs : ∀ r ∈ bsR l, ∀ x ∈ r, x < 256 := by
    intro r hr
    obtain ⟨q, hq, rfl⟩ := List.mem_map.mp hr
    exact row_lt hb hq
   obtain ⟨xs, hrun⟩ := switch_can hd.1 hk3 zz hb
   have := lg_placed (f := f20) (r := .int .i64 _) (xs := xs) (X := X) (Y := X.sw L (bsR l)) (L := L) (M := L.sw X (bsR l)) (F := 1000000) hrun (sw_ok hd.1 L hbs) ⟨by show 4 < 5; omega, okBs_scoped hb, trivial⟩ trivial hj h0 h1 h2 h3 hd
   refine ⟨_, _, g905, calls_wk this fun g w vs ⟨v1, r901, e1, k1, v2, r902, e2, k2, k5⟩ => ⟨v1, r901, e1, k1, v2, r902, e2, hx g w v2 k2, k5⟩⟩
  ·cases h
noncomputable def g21_b : Sim Try.prog :=
 (.seq (.live [0] (.region 0 [
 ⟨(opAssign (some 2) (.const (Value.slice none 0 0)) 33 "ref.go:7" #[]).op, none⟩
 ] (by kernel_rfl)))
 (.seq (.live [0, 3] (.region 1 [
 ⟨(opBuildSlice (some 4) 33 0 [] 5 1 1 (.int .u8 0) el33 (by kernel_rfl) (by decide) 33 "ref.go:8" #[]).op, none⟩,
 ⟨(opAssign (some 3) (.tmp 4) 33 "ref.go:8" #[eD 0, eP 0]).op, none⟩
 ] (by kernel_rfl)))
 (.seq (.live [3] (.region 2 [
 ⟨(opMove (some 5) (.tmp 3) 33 "ref.go:9" #[]).op, none⟩,
 ⟨(opMove (some 6) (.tmp 0) 33 "ref.go:9" #[]).op, none⟩,
 ⟨(opAppendV (some 7) (.tmp 5) (.tmp 6) 33 33 5 1 1 (.int .u8 0) el33 (.slice 5) Try.underlying33 rfl 33 "ref.go:9" #[eD 0, eD 1]).op, none⟩,
 ⟨(opAssign (some 3) (.tmp 7) 33 "ref.go:9" #[eD 2, eC 2, eP 0, eP 1, eP 2]).op, none⟩
 ] (by kernel_rfl)))
 (.seq (.live [2] (.region 3 [
 ⟨(opMove (some 8) (.tmp 3) 33 "ref.go:10" #[]).op, none⟩,
 ⟨(opAssign (some 2) (.tmp 8) 33 "ref.go:10" #[eD 0, eP 0]).op, none⟩
 ] (by kernel_rfl)))
 (.live [2] .ret)))))
noncomputable def g21 : Fun Try.prog where
 id := 21
 fn := Try.f21
 hf := Try.func21
 hname := by kernel_rfl
 body := g21_b
 hbody := by kernel_rfl
 res := [rTmp 2]
 hres := by kernel_rfl
 n := 9
 hn := by kernel_rfl
theorem gcopy (F : Nat) (z : Bool) (r : List AV) (l : List (List AV)) :
 (g21.run F [.ns z 1 (r :: l)] ⟨[], []⟩ : Ans) =
 branch (.bool (true && apOk (0 + (r :: l).length) 1))
 (some
 (Fin.ret (AV.vs 0 0 1 (0 + (r :: l).length)),
 St.mk [Ob.vec 0 (catC (catC [] 0 []) (mulN 0 1) (r :: l))] []))
 none := by kernel_rfl
theorem copy_vec {d : List Nat} (h0 : 0 < d.length) (hl : d.length < 1000000) (z : Bool) : g21.run 0 [.ns z 1 (bR d)] ⟨[], []⟩ = some (.ret (.vs 0 0 1 d.length), ⟨[.vec 0 (bC d)], []⟩) := by
 cases d with
 | nil => exact absurd h0 (Nat.lt_irrefl _)
 | cons x d =>
  have e : bR (x :: d) = [.int .u8 (x : Int)] :: bR d := rfl
  refine (gcopy 0 z [.int .u8 (x : Int)] (bR d)).trans ?_
  rw [← e, branch_of (by rw [Bool.true_and, apOk_iff, bR_length]; omega), bR_length, Nat.zero_add, catC, opq_eq, catC, opq_eq, mulN, opq_eq, bR_flat]
  rfl
noncomputable def s21v : OrcS Try.prog := g21.by'
 (fun args st k => match args with
  | [x] => onNs 1 x fun _ l => ifT (byOk l && cdec (0 < l.length ∧ l.length < 1000000)) (k (.ret (.vs st.objs.length 0 1 (opq l.length))) ⟨st.objs ++ [.vec 0 (opq (bC (nR l)))], st.tk⟩)
  | _ => none)
 fun args st k fin h => by
  split at h
  ·rename_i x
   obtain ⟨z, l, g904, hx⟩ := onNs_spec h
   obtain ⟨hk, g905⟩ := ifT_spec g904
   simp only [Bool.and_eq_true, cdec_iff] at hk
   obtain ⟨hb, h1, h2⟩ := hk
   have hok := byOk_iff.mp hb
   have hrun := copy_vec (d := nR l) (by rw [nR_length]; exact h1) (by rw [nR_length]; exact h2) z
   rw [← okR_rows hok.1] at hrun
   rw [opq_eq, opq_eq] at g905
   have n4 : ∀ j, nx (fun _ => 0) 0 st.objs.length j = st.objs.length + j := fun j => by rw [nx, if_neg (by omega)]; omega
   have := placed (g21.sound hrun) (n := 0) (p := 1) (by omega) (by simp) ⟨okR_scoped hok.1, trivial⟩ (show 0 < 1 by omega) (fun j o hj ho => by
     match j, hj, ho with
     | 0, _, ho => cases ho; exact flat_near (flat_bC _)) (st := st) (st' := ⟨st.objs ++ [.vec 0 (bC (nR l))], st.tk⟩) (ρ := fun _ => 0) (inv := fun _ => none) ⟨rfl, ⟨fun i hi => (by omega), fun k i h => (by cases h)⟩, fun i o h => (by simp at h), fun o h => (by simp at h)⟩ rfl (by simp) (fun j o hj ho => by
     match j, hj, ho with
     | 0, _, ho =>
      cases ho
      rw [n4 0]
      show (st.objs ++ [_])[_]? = some (Ob.vec 0 (renL _ (bC (nR l))))
      rw [flat_ren _ (flat_bC _), List.getElem?_append_right (by omega), Nat.add_zero, Nat.sub_self]; rfl) (fun k hk hi => by
     show (st.objs ++ [_])[k]? = _
     rw [List.getElem?_append_left hk])
   have e9 : ren (nx (fun _ => 0) 0 st.objs.length) (frz (.vs 0 0 1 (nR l).length)) = .vs st.objs.length 0 1 l.length := by
    show AV.vs (nx (fun _ => 0) 0 st.objs.length 0) 0 1 (nR l).length = _
    rw [n4 0, nR_length]; rfl
   rw [e9] at this
   refine ⟨_, _, g905, calls_wk this fun g w vs ⟨v1, r901, e1, k1, k5⟩ => ⟨v1, r901, e1, hx g w v1 k1, k5⟩⟩
  ·cases h
theorem s21v_nat : s21v.NatS := by
 intro args st k
 show s21v.sem args st k = thS (s21v.sem args st (fun r st' => some (r, st'))) k
 simp only [s21v, Fun.by']
 split
 ·exact onNs_th fun _ _ => ifT_th rfl
 ·rfl
noncomputable def f6_l0 : Sim Try.prog :=
 (.seq (.seq (.live [0, 1, 2, 3, 9, 11, 12, 55] (.region 12 [
 ⟨(opMove (some 52) (.tmp 12) 3 "law.go:221" #[]).op, none⟩,
 ⟨(opMove (some 53) (.tmp 0) 22 "law.go:221" #[]).op, none⟩,
 ⟨(PSim.hide (opLen (some 54) (.tmp 53) 22 (.slice 33) Try.underlying22 3 "law.go:221" #[eD 1])).op, none⟩,
 ⟨(opBin (some 55) .lss 3 (.tmp 52) (.tmp 54) 3 4 "law.go:221" #[eD 0, eD 2]).op, none⟩
 ] (by kernel_rfl)))
 (.cond (.tmp 55)
 .skip
 (.live [0, 1, 2, 3, 9, 11] (.exit 0))))
 (.seq (.block 1 (.seq (.live [0, 1, 2, 3, 9, 11, 12, 64] (.region 14 [
 ⟨(opMove (some 58) (.tmp 11) 29 "law.go:222" #[]).op, none⟩,
 ⟨(opMove (some 59) (.tmp 0) 22 "law.go:222" #[]).op, none⟩,
 ⟨(opMove (some 60) (.tmp 12) 3 "law.go:222" #[]).op, none⟩,
 ⟨(opIndexAddrT (some 61) 22 (.tmp 59) (.tmp 60) 33 1 Try.underlying22 sz33 0 "law.go:222" #[eD 1, eD 2]).op, none⟩,
 ⟨(opLoadT (.one (.ns 1)) (some 62) 33 (.tmp 61) (.slice 5) Try.underlying33 1 sz33 (by kernel_rfl) 33 "law.go:222" #[eD 3]).op, none⟩,
 ⟨opCall (s12).orc (some 63) [(.tmp 58), (.tmp 62)] #[29, 33] 26 "law.go:222" #[eD 0, eD 4], none⟩,
 ⟨(opBin (some 64) .neq 26 (.tmp 63) (.const (Value.int IntKind.i64 0)) 26 4 "law.go:222" #[eD 5]).op, none⟩
 ] (by kernel_rfl)))
 (.cond (.tmp 64)
 (.seq (.live [8] (.region 15 [
 ⟨(opAssign (some 8) (.const (Value.bool true)) 4 "law.go:223" #[]).op, none⟩
 ] (by kernel_rfl)))
 (.live [8] .ret))
 .skip)))
 (.live [0, 1, 2, 3, 9, 11, 12] (.region 13 [
 ⟨(opMove (some 56) (.tmp 12) 3 "law.go:221" #[]).op, none⟩,
 ⟨(opBin (some 57) .add 3 (.tmp 56) (.const (Value.int IntKind.i64 1)) 3 3 "law.go:221" #[eD 0]).op, none⟩,
 ⟨(opAssign (some 12) (.tmp 57) 3 "law.go:221" #[eD 1, eP 0, eP 1]).op, none⟩
 ] (by kernel_rfl)))))
noncomputable def f6_l2 : Sim Try.prog :=
 (.seq (.seq (.live [0, 1, 2, 3, 14, 15, 16, 17, 108] (.region 29 [
 ⟨(opMove (some 103) (.tmp 17) 3 "law.go:238" #[]).op, none⟩,
 ⟨(opMove (some 104) (.tmp 16) 3 "law.go:238" #[]).op, none⟩,
 ⟨(opBin (some 105) .mul 3 (.const (Value.int IntKind.i64 64)) (.tmp 104) 3 3 "law.go:238" #[eD 1]).op, none⟩,
 ⟨(opMove (some 106) (.tmp 3) 3 "law.go:238" #[]).op, none⟩,
 ⟨(opBin (some 107) .add 3 (.tmp 105) (.tmp 106) 3 3 "law.go:238" #[eD 2, eD 3]).op, none⟩,
 ⟨(opBin (some 108) .lss 3 (.tmp 103) (.tmp 107) 3 4 "law.go:238" #[eD 0, eD 4]).op, none⟩
 ] (by kernel_rfl)))
 (.cond (.tmp 108)
 .skip
 (.live [0, 1, 2, 3, 14, 15, 16] (.exit 4))))
 (.seq (.block 5 (.live [0, 1, 2, 3, 14, 15, 16, 17] (.region 31 [
 ⟨(opMove (some 111) (.tmp 15) 33 "law.go:239" #[]).op, none⟩,
 ⟨(opMove (some 112) (.tmp 17) 3 "law.go:239" #[]).op, none⟩,
 ⟨(opMove (some 113) (.tmp 14) 33 "law.go:239" #[]).op, none⟩,
 ⟨(opMove (some 114) (.tmp 17) 3 "law.go:239" #[]).op, none⟩,
 ⟨(opIndexAddrT (some 115) 33 (.tmp 113) (.tmp 114) 5 1 Try.underlying33 sz5 0 "law.go:239" #[eD 2, eD 3]).op, none⟩,
 ⟨(opLoadT (.one (.int .u8)) (some 116) 5 (.tmp 115) (.int .u8) Try.underlying5 1 sz5 (by kernel_rfl) 5 "law.go:239" #[eD 4]).op, none⟩,
 ⟨(opIndexAddrT (some 117) 33 (.tmp 111) (.tmp 112) 5 1 Try.underlying33 sz5 0 "law.go:239" #[eD 0, eD 1, eP 0, eP 1, eP 2, eP 3, eP 4, eP 5]).op, none⟩,
 ⟨(opStoreC none 5 (.tmp 117) (.tmp 116) 1 sz5 0 "law.go:239" #[eD 6, eD 5, eP 0, eP 1, eP 2, eP 3, eP 4, eP 5]).op, none⟩
 ] (by kernel_rfl))))
 (.live [0, 1, 2, 3, 14, 15, 16, 17] (.region 30 [
 ⟨(opMove (some 109) (.tmp 17) 3 "law.go:238" #[]).op, none⟩,
 ⟨(opBin (some 110) .add 3 (.tmp 109) (.const (Value.int IntKind.i64 1)) 3 3 "law.go:238" #[eD 0]).op, none⟩,
 ⟨(opAssign (some 17) (.tmp 110) 3 "law.go:238" #[eD 1, eP 0, eP 1]).op, none⟩
 ] (by kernel_rfl)))))
noncomputable def f6_r0 : Sim Try.prog :=
 (.live [0, 1, 2, 3, 14, 15, 16] (.region 27 [
 ⟨(opMove (some 99) (.tmp 16) 3 "law.go:237" #[]).op, none⟩,
 ⟨(opBin (some 100) .add 3 (.tmp 99) (.const (Value.int IntKind.i64 1)) 3 3 "law.go:237" #[eD 0]).op, none⟩,
 ⟨(opAssign (some 16) (.tmp 100) 3 "law.go:237" #[eD 1, eP 0, eP 1]).op, none⟩
 ] (by kernel_rfl)))
noncomputable def f6_l1 : Sim Try.prog :=
 (.seq (.seq (.live [0, 1, 2, 3, 14, 15, 16, 98] (.region 26 [
 ⟨(opMove (some 97) (.tmp 16) 3 "law.go:237" #[]).op, none⟩,
 ⟨(opBin (some 98) .lss 3 (.tmp 97) (.const (Value.int IntKind.i64 2)) 3 4 "law.go:237" #[eD 0]).op, none⟩
 ] (by kernel_rfl)))
 (.cond (.tmp 98)
 .skip
 (.live [0, 1, 2, 15] (.exit 2))))
 (.seq (.block 3 (.seq (.live [0, 1, 2, 3, 14, 15, 16, 17] (.region 28 [
 ⟨(opMove (some 101) (.tmp 16) 3 "law.go:238" #[]).op, none⟩,
 ⟨(opBin (some 102) .mul 3 (.const (Value.int IntKind.i64 64)) (.tmp 101) 3 3 "law.go:238" #[eD 0]).op, none⟩,
 ⟨(opAssign (some 17) (.tmp 102) 3 "law.go:238" #[eD 1, eP 0, eP 1]).op, none⟩
 ] (by kernel_rfl)))
 (.block 4 (.loop [0, 1, 2, 3, 14, 15, 16, 17] f6_l2))))
 f6_r0))
noncomputable def f6_r1 : Sim Try.prog :=
 (.seq (.live [0, 1, 2, 10, 18] (.region 32 [
 ⟨(opMoveZ (some 119) (.tmp 15) 33 "law.go:243" #[]).op, none⟩,
 ⟨opCall (s22).orc (some 120) [(.tmp 119), (.const (Value.int IntKind.i64 400))] #[33, 3] 27 "law.go:243" #[eD 0], none⟩,
 ⟨(opMove (some 118) (.tmp 120) 27 "law.go:243" #[eD 1]).op, none⟩,
 ⟨(opExtract (some 121) (.tmp 118) 0 25 "law.go:243" #[eD 2]).op, none⟩,
 ⟨(opExtract (some 122) (.tmp 118) 1 26 "law.go:243" #[eD 2, eX 5]).op, none⟩,
 ⟨(opAssign (some 18) (.tmp 121) 25 "law.go:243" #[eD 3, eC 1, eP 0, eP 1, eP 2, eP 3, eT 4]).op, none⟩,
 ⟨(opAssign (some 10) (.tmp 122) 26 "law.go:243" #[eD 4, eC 5, eP 0, eP 1, eP 2, eP 3, eP 4, eP 5]).op, none⟩
 ] (by kernel_rfl)))
 (.seq (.seq (.live [0, 1, 2, 18, 128] (.region 33 [
 ⟨(opMove (some 123) (.tmp 10) 26 "law.go:244" #[]).op, none⟩,
 ⟨(opBin (some 124) .neq 26 (.tmp 123) (.const (Value.int IntKind.i64 0)) 26 4 "law.go:244" #[eD 0]).op, none⟩,
 ⟨(opMove (some 125) (.tmp 124) 4 "law.go:244" #[eD 1]).op, none⟩,
 ⟨(opMove (some 126) (.tmp 18) 25 "law.go:244" #[eG 2]).op, (some (2, 125, false))⟩,
 ⟨(opEq (some 127) 25 (.pointer 79) Try.underlying25 (.tmp 126) (.const (Value.pointer none)) (.inl rfl) 25 4 "law.go:244" #[eD 3, eG 2]).op, (some (2, 125, false))⟩,
 ⟨(opPick (some 128) (.tmp 125) (.const (Value.bool true)) (.tmp 127) 4 "law.go:244" #[eD 2, eD 4]).op, none⟩
 ] (by kernel_rfl)))
 (.cond (.tmp 128)
 (.seq (.live [8] (.region 34 [
 ⟨(opAssign (some 8) (.const (Value.bool false)) 4 "law.go:245" #[]).op, none⟩
 ] (by kernel_rfl)))
 (.live [8] .ret))
 .skip))
 (.seq (.live [0, 1, 2, 10, 20] (.region 35 [
 ⟨(opMove (some 130) (.tmp 18) 25 "law.go:247" #[]).op, none⟩,
 ⟨opCall (s15).orc (some 131) [(.tmp 130)] #[25] 35 "law.go:247" #[eD 0], none⟩,
 ⟨(opMove (some 129) (.tmp 131) 35 "law.go:247" #[eD 1]).op, none⟩,
 ⟨(opExtract (some 132) (.tmp 129) 0 29 "law.go:247" #[eD 2]).op, none⟩,
 ⟨(opExtract (some 133) (.tmp 129) 1 22 "law.go:247" #[eD 2, eX 6]).op, none⟩,
 ⟨(opExtract (some 134) (.tmp 129) 2 26 "law.go:247" #[eD 2, eX 7]).op, none⟩,
 ⟨(opAssign (some 19) (.tmp 132) 29 "law.go:247" #[eD 3, eC 1, eP 0, eP 1, eP 2, eP 3, eT 4, eT 5]).op, none⟩,
 ⟨(opAssign (some 20) (.tmp 133) 22 "law.go:247" #[eD 4, eC 6, eP 0, eP 1, eP 2, eP 3, eP 4, eT 5, eP 6]).op, none⟩,
 ⟨(opAssign (some 10) (.tmp 134) 26 "law.go:247" #[eD 5, eC 7, eP 0, eP 1, eP 2, eP 3, eP 4, eP 5, eP 6, eP 7]).op, none⟩
 ] (by kernel_rfl)))
 (.seq (.live [8] (.region 36 [
 ⟨(opMove (some 135) (.tmp 10) 26 "law.go:248" #[]).op, none⟩,
 ⟨(opBin (some 136) .eql 26 (.tmp 135) (.const (Value.int IntKind.i64 0)) 26 4 "law.go:248" #[eD 0]).op, none⟩,
 ⟨(opMove (some 137) (.tmp 136) 4 "law.go:248" #[eD 1]).op, none⟩,
 ⟨(opMove (some 138) (.tmp 20) 22 "law.go:248" #[eG 2]).op, (some (2, 137, true))⟩,
 ⟨(opMove (some 139) (.tmp 1) 22 "law.go:248" #[eG 2]).op, (some (2, 137, true))⟩,
 ⟨(opCallP p16 (some 140) [(.tmp 138), (.tmp 139)] #[22, 22] 4 "law.go:248" #[eD 3, eD 4, eC 2, eG 2]).op, (some (2, 137, true))⟩,
 ⟨(opMove (some 141) (.tmp 140) 4 "law.go:248" #[eD 5, eC 5, eG 2]).op, (some (2, 137, true))⟩,
 ⟨(opMove (some 142) (.tmp 2) 3 "law.go:248" #[eG 6]).op, (some (6, 141, false))⟩,
 ⟨(opBin (some 143) .and 3 (.tmp 142) (.const (Value.int IntKind.i64 1)) 3 3 "law.go:248" #[eD 7, eG 6]).op, (some (6, 141, false))⟩,
 ⟨(opBin (some 144) .eql 3 (.tmp 143) (.const (Value.int IntKind.i64 0)) 3 4 "law.go:248" #[eD 8, eG 6]).op, (some (6, 141, false))⟩,
 ⟨(opMove (some 145) (.tmp 144) 4 "law.go:248" #[eD 9, eC 6, eG 6]).op, (some (6, 141, false))⟩,
 ⟨(opMove (some 146) (.tmp 20) 22 "law.go:248" #[eG 10]).op, (some (10, 145, true))⟩,
 ⟨(opMove (some 147) (.tmp 0) 22 "law.go:248" #[eG 10]).op, (some (10, 145, true))⟩,
 ⟨(opCallP p16 (some 148) [(.tmp 146), (.tmp 147)] #[22, 22] 4 "law.go:248" #[eD 11, eD 12, eC 10, eG 10]).op, (some (10, 145, true))⟩,
 ⟨(opPick (some 149) (.tmp 145) (.tmp 148) (.const (Value.bool false)) 4 "law.go:248" #[eD 10, eD 13, eG 6]).op, (some (6, 141, false))⟩,
 ⟨(opPick (some 150) (.tmp 141) (.const (Value.bool true)) (.tmp 149) 4 "law.go:248" #[eD 6, eD 14, eG 2]).op, (some (2, 137, true))⟩,
 ⟨(opPick (some 151) (.tmp 137) (.tmp 150) (.const (Value.bool false)) 4 "law.go:248" #[eD 2, eD 15]).op, none⟩,
 ⟨(opAssign (some 8) (.tmp 151) 4 "law.go:248" #[eD 16, eC 13, eP 0, eP 1, eP 2, eP 3, eP 4, eP 5, eP 6, eP 7, eP 8, eP 9, eP 10, eP 11, eP 12, eP 13, eP 14, eP 15, eP 16]).op, none⟩
 ] (by kernel_rfl)))
 (.live [8] .ret)))))
noncomputable def f6_y : Sim Try.prog :=
 (.live [0,1,2,15] (.seq (.live [0, 1, 2, 3, 14, 15, 96] (.region 24 [
 ⟨(opMove (some 86) (.tmp 2) 3 "law.go:236" #[]).op, none⟩,
 ⟨(opBin (some 87) .and 3 (.tmp 86) (.const (Value.int IntKind.i64 3)) 3 3 "law.go:236" #[eD 0]).op, none⟩,
 ⟨(opBin (some 88) .eql 3 (.tmp 87) (.const (Value.int IntKind.i64 2)) 3 4 "law.go:236" #[eD 1]).op, none⟩,
 ⟨(opMove (some 89) (.tmp 88) 4 "law.go:236" #[eD 2]).op, none⟩,
 ⟨(opMove (some 90) (.tmp 3) 3 "law.go:236" #[eG 3]).op, (some (3, 89, true))⟩,
 ⟨(opBin (some 91) .geq 3 (.tmp 90) (.const (Value.int IntKind.i64 0)) 3 4 "law.go:236" #[eD 4, eG 3]).op, (some (3, 89, true))⟩,
 ⟨(opPick (some 92) (.tmp 89) (.tmp 91) (.const (Value.bool false)) 4 "law.go:236" #[eD 3, eD 5]).op, none⟩,
 ⟨(opMove (some 93) (.tmp 92) 4 "law.go:236" #[eD 6, eC 3]).op, none⟩,
 ⟨(opMove (some 94) (.tmp 3) 3 "law.go:236" #[eG 7]).op, (some (7, 93, true))⟩,
 ⟨(opBin (some 95) .lss 3 (.tmp 94) (.const (Value.int IntKind.i64 64)) 3 4 "law.go:236" #[eD 8, eG 7]).op, (some (7, 93, true))⟩,
 ⟨(opPick (some 96) (.tmp 93) (.tmp 95) (.const (Value.bool false)) 4 "law.go:236" #[eD 7, eD 9]).op, none⟩
 ] (by kernel_rfl)))
 (.cond (.tmp 96)
 (.seq (.live [0, 1, 2, 3, 14, 15, 16] (.region 25 [
 ⟨(opAssign (some 16) (.const (Value.int IntKind.i64 0)) 3 "law.go:237" #[]).op, none⟩
 ] (by kernel_rfl)))
 (.block 2 (.loop [0, 1, 2, 3, 14, 15, 16] f6_l1)))
 .skip)))
noncomputable def f6_v : Sim Try.prog :=
 (.live [0,1,2,3,14,15] (.seq (.live [0, 1, 2, 3, 13, 14, 15, 79] (.region 22 [
 ⟨(opMove (some 77) (.tmp 2) 3 "law.go:233" #[]).op, none⟩,
 ⟨(opBin (some 78) .and 3 (.tmp 77) (.const (Value.int IntKind.i64 1)) 3 3 "law.go:233" #[eD 0]).op, none⟩,
 ⟨(opBin (some 79) .eql 3 (.tmp 78) (.const (Value.int IntKind.i64 0)) 3 4 "law.go:233" #[eD 1]).op, none⟩
 ] (by kernel_rfl)))
 (.cond (.tmp 79)
 (.live [0, 1, 2, 3, 14, 15] (.draw 23 [
 ⟨.p (opMove (some 80) (.tmp 13) 33 "law.go:234" #[]), none⟩,
 ⟨.pn (opSlice (some 81) 33 (.tmp 80) none (some (.const (Value.int IntKind.i64 128))) none 5 1 Try.underlying33 sz5 33 "law.go:234" #[eD 0]) opSlice_nat, none⟩,
 ⟨.mn (opCallM (s21v) (some 82) [(.tmp 81)] #[33] 33 "law.go:234" #[eD 1]) (opCallM_nat s21v_nat), none⟩,
 ⟨.p (opMove (some 83) (.tmp 14) 33 "law.go:234" #[]), none⟩,
 ⟨.pn (opSlice (some 84) 33 (.tmp 83) (some (.const (Value.int IntKind.i64 128))) none none 5 1 Try.underlying33 sz5 33 "law.go:234" #[eD 3]) opSlice_nat, none⟩,
 ⟨.mn (opAppendV (some 85) (.tmp 82) (.tmp 84) 33 33 5 1 1 (.int .u8 0) el33 (.slice 5) Try.underlying33 rfl 33 "law.go:234" #[eD 2, eD 4, eC 2]) opAppendV_nat, none⟩,
 ⟨.p (opAssign (some 15) (.tmp 85) 33 "law.go:234" #[eD 5, eC 5, eP 0, eP 1, eP 2, eP 3, eP 4, eP 5]), none⟩
 ] mixed (by kernel_rfl)))
 .skip)))
noncomputable def f6_q5 : Sim Try.prog :=
 (.live [0, 1, 2, 3, 13, 14, 15] (.region 21 [
 ⟨(opMove (some 75) (.tmp 14) 33 "law.go:232" #[]).op, none⟩,
 ⟨opCall (s21v).orc (some 76) [(.tmp 75)] #[33] 33 "law.go:232" #[eD 0], none⟩,
 ⟨(opAssign (some 15) (.tmp 76) 33 "law.go:232" #[eD 1, eC 1, eP 0, eP 1]).op, none⟩
 ] (by kernel_rfl)))
noncomputable def f6_q4 : Sim Try.prog :=
 (.live [0, 1, 2, 3, 13, 14] (.region 20 [
 ⟨(opMove (some 73) (.tmp 9) 25 "law.go:231" #[]).op, none⟩,
 ⟨opCall (s19).orc (some 74) [(.tmp 73)] #[25] 33 "law.go:231" #[eD 0], none⟩,
 ⟨(opAssign (some 14) (.tmp 74) 33 "law.go:231" #[eD 1, eC 1, eP 0, eP 1]).op, none⟩
 ] (by kernel_rfl)))
noncomputable def f6_q3 : Sim Try.prog :=
 (.seq (.live [0, 1, 2, 3, 9, 13, 72] (.region 18 [
 ⟨(opMove (some 69) (.tmp 11) 29 "law.go:228" #[]).op, none⟩,
 ⟨(opMove (some 70) (.tmp 1) 22 "law.go:228" #[]).op, none⟩,
 ⟨opCall (s20).orc (some 71) [(.tmp 69), (.tmp 70)] #[29, 22] 26 "law.go:228" #[eD 0, eD 1], none⟩,
 ⟨(opBin (some 72) .neq 26 (.tmp 71) (.const (Value.int IntKind.i64 0)) 26 4 "law.go:228" #[eD 2]).op, none⟩
 ] (by kernel_rfl)))
 (.cond (.tmp 72)
 (.seq (.live [8] (.region 19 [
 ⟨(opAssign (some 8) (.const (Value.bool true)) 4 "law.go:229" #[]).op, none⟩
 ] (by kernel_rfl)))
 (.live [8] .ret))
 .skip))
noncomputable def f6_q2 : Sim Try.prog :=
 (.live [0, 1, 2, 3, 9, 11, 13] (.region 17 [
 ⟨(opMove (some 67) (.tmp 9) 25 "law.go:227" #[]).op, none⟩,
 ⟨opCall (s19).orc (some 68) [(.tmp 67)] #[25] 33 "law.go:227" #[eD 0], none⟩,
 ⟨(opAssign (some 13) (.tmp 68) 33 "law.go:227" #[eD 1, eC 1, eP 0, eP 1]).op, none⟩
 ] (by kernel_rfl)))
noncomputable def f6_q1 : Sim Try.prog :=
 (.live [0, 1, 2, 3, 9, 11] (.region 16 [
 ⟨(opMove (some 65) (.tmp 11) 29 "law.go:226" #[]).op, none⟩,
 ⟨opCall (s13).orc (some 66) [(.tmp 65)] #[29] 0 "law.go:226" #[eD 0], none⟩
 ] (by kernel_rfl)))
noncomputable def f6_r2 : Sim Try.prog :=
 (.seq f6_q1
 (.seq f6_q2
 (.seq f6_q3
 (.seq f6_q4
 (.seq f6_q5
 (.seq f6_v
 (.seq f6_y
 f6_r1)))))))
noncomputable def f6_b : Sim Try.prog :=
 (.seq (.live [0, 1, 2, 3] (.region 0 [
 ⟨(opAssign (some 8) (.const (Value.bool false)) 4 "law.go:206" #[]).op, none⟩
 ] (by kernel_rfl)))
 (.seq (.seq (.live [0, 1, 2, 3, 22] (.region 1 [
 ⟨(opCallP p8 (some 21) [] #[] 4 "law.go:207" #[]).op, none⟩,
 ⟨(opNot (some 22) 4 (.tmp 21) 4 "law.go:207" #[eD 0]).op, none⟩
 ] (by kernel_rfl)))
 (.cond (.tmp 22)
 (.seq (.live [8] (.region 2 [
 ⟨(opAssign (some 8) (.const (Value.bool false)) 4 "law.go:208" #[]).op, none⟩
 ] (by kernel_rfl)))
 (.live [8] .ret))
 .skip))
 (.seq (.seq (.live [0, 1, 2, 3, 30] (.region 3 [
 ⟨(opMove (some 23) (.tmp 0) 22 "law.go:210" #[]).op, none⟩,
 ⟨(opCallP p9 (some 24) [(.tmp 23), (.const (Value.int IntKind.i64 3000))] #[22, 3] 3 "law.go:210" #[eD 0]).op, none⟩,
 ⟨(opBin (some 25) .gtr 3 (.tmp 24) (.const (Value.int IntKind.i64 3000)) 3 4 "law.go:210" #[eD 1]).op, none⟩,
 ⟨(opMove (some 26) (.tmp 25) 4 "law.go:210" #[eD 2, eC 1]).op, none⟩,
 ⟨(opMove (some 27) (.tmp 1) 22 "law.go:210" #[eG 3]).op, (some (3, 26, false))⟩,
 ⟨(opCallP p9 (some 28) [(.tmp 27), (.const (Value.int IntKind.i64 3000))] #[22, 3] 3 "law.go:210" #[eD 4, eC 3, eG 3]).op, (some (3, 26, false))⟩,
 ⟨(opBin (some 29) .gtr 3 (.tmp 28) (.const (Value.int IntKind.i64 3000)) 3 4 "law.go:210" #[eD 5, eG 3]).op, (some (3, 26, false))⟩,
 ⟨(opPick (some 30) (.tmp 26) (.const (Value.bool true)) (.tmp 29) 4 "law.go:210" #[eD 3, eD 6]).op, none⟩
 ] (by kernel_rfl)))
 (.cond (.tmp 30)
 (.seq (.live [8] (.region 4 [
 ⟨(opAssign (some 8) (.const (Value.bool true)) 4 "law.go:211" #[]).op, none⟩
 ] (by kernel_rfl)))
 (.live [8] .ret))
 .skip))
 (.seq (.live [0, 1, 2, 3, 9, 10] (.region 5 [
 ⟨opCall (s10).orc (some 32) [(.const (Value.int IntKind.i64 400))] #[3] 27 "law.go:213" #[], none⟩,
 ⟨(opMove (some 31) (.tmp 32) 27 "law.go:213" #[eD 0]).op, none⟩,
 ⟨(opExtract (some 33) (.tmp 31) 0 25 "law.go:213" #[eD 1]).op, none⟩,
 ⟨(opExtract (some 34) (.tmp 31) 1 26 "law.go:213" #[eD 1, eX 4]).op, none⟩,
 ⟨(opAssign (some 9) (.tmp 33) 25 "law.go:213" #[eD 2, eC 0, eP 0, eP 1, eP 2, eT 3]).op, none⟩,
 ⟨(opAssign (some 10) (.tmp 34) 26 "law.go:213" #[eD 3, eC 4, eP 0, eP 1, eP 2, eP 3, eP 4]).op, none⟩
 ] (by kernel_rfl)))
 (.seq (.seq (.live [0, 1, 2, 3, 9, 40] (.region 6 [
 ⟨(opMove (some 35) (.tmp 10) 26 "law.go:214" #[]).op, none⟩,
 ⟨(opBin (some 36) .neq 26 (.tmp 35) (.const (Value.int IntKind.i64 0)) 26 4 "law.go:214" #[eD 0]).op, none⟩,
 ⟨(opMove (some 37) (.tmp 36) 4 "law.go:214" #[eD 1]).op, none⟩,
 ⟨(opMove (some 38) (.tmp 9) 25 "law.go:214" #[eG 2]).op, (some (2, 37, false))⟩,
 ⟨(opEq (some 39) 25 (.pointer 79) Try.underlying25 (.tmp 38) (.const (Value.pointer none)) (.inl rfl) 25 4 "law.go:214" #[eD 3, eG 2]).op, (some (2, 37, false))⟩,
 ⟨(opPick (some 40) (.tmp 37) (.const (Value.bool true)) (.tmp 39) 4 "law.go:214" #[eD 2, eD 4]).op, none⟩
 ] (by kernel_rfl)))
 (.cond (.tmp 40)
 (.seq (.live [8] (.region 7 [
 ⟨(opAssign (some 8) (.const (Value.bool false)) 4 "law.go:215" #[]).op, none⟩
 ] (by kernel_rfl)))
 (.live [8] .ret))
 .skip))
 (.seq (.live [0, 1, 2, 3, 9, 10, 11] (.region 8 [
 ⟨(opMove (some 42) (.tmp 9) 25 "law.go:217" #[]).op, none⟩,
 ⟨opCall (s11).orc (some 43) [(.tmp 42)] #[25] 30 "law.go:217" #[eD 0], none⟩,
 ⟨(opMove (some 41) (.tmp 43) 30 "law.go:217" #[eD 1]).op, none⟩,
 ⟨(opExtract (some 44) (.tmp 41) 0 29 "law.go:217" #[eD 2]).op, none⟩,
 ⟨(opExtract (some 45) (.tmp 41) 1 26 "law.go:217" #[eD 2, eX 5]).op, none⟩,
 ⟨(opAssign (some 11) (.tmp 44) 29 "law.go:217" #[eD 3, eC 1, eP 0, eP 1, eP 2, eP 3, eT 4]).op, none⟩,
 ⟨(opAssign (some 10) (.tmp 45) 26 "law.go:217" #[eD 4, eC 5, eP 0, eP 1, eP 2, eP 3, eP 4, eP 5]).op, none⟩
 ] (by kernel_rfl)))
 (.seq (.seq (.live [0, 1, 2, 3, 9, 11, 51] (.region 9 [
 ⟨(opMove (some 46) (.tmp 10) 26 "law.go:218" #[]).op, none⟩,
 ⟨(opBin (some 47) .neq 26 (.tmp 46) (.const (Value.int IntKind.i64 0)) 26 4 "law.go:218" #[eD 0]).op, none⟩,
 ⟨(opMove (some 48) (.tmp 47) 4 "law.go:218" #[eD 1]).op, none⟩,
 ⟨(opMove (some 49) (.tmp 11) 29 "law.go:218" #[eG 2]).op, (some (2, 48, false))⟩,
 ⟨(opEq (some 50) 29 (.pointer 71) Try.underlying29 (.tmp 49) (.const (Value.pointer none)) (.inl rfl) 29 4 "law.go:218" #[eD 3, eG 2]).op, (some (2, 48, false))⟩,
 ⟨(opPick (some 51) (.tmp 48) (.const (Value.bool true)) (.tmp 50) 4 "law.go:218" #[eD 2, eD 4]).op, none⟩
 ] (by kernel_rfl)))
 (.cond (.tmp 51)
 (.seq (.live [8] (.region 10 [
 ⟨(opAssign (some 8) (.const (Value.bool false)) 4 "law.go:219" #[]).op, none⟩
 ] (by kernel_rfl)))
 (.live [8] .ret))
 .skip))
 (.seq (.seq (.live [0, 1, 2, 3, 9, 11, 12] (.region 11 [
 ⟨(opAssign (some 12) (.const (Value.int IntKind.i64 0)) 3 "law.go:221" #[]).op, none⟩
 ] (by kernel_rfl)))
 (.block 0 (.loop [0, 1, 2, 3, 9, 11, 12] f6_l0)))
 f6_r2))))))))
noncomputable def f6 : Fun Try.prog where
 id := 6
 fn := Try.f6
 hf := Try.func6
 hname := by kernel_rfl
 body := f6_b
 hbody := by kernel_rfl
 res := [rTmp 8]
 hres := by kernel_rfl
 n := 152
 hn := by kernel_rfl
theorem then_then (A B : Env → St → Ans) (K : Cont) : Cont.then A (Cont.then B K) = Cont.then A K := by
 funext x env st
 cases x <;> rfl
theorem seq_skip (x y : Sim Try.prog) (F : Nat) (K : Cont) : (Sim.seq x .skip).run F (Cont.then (y.run F K) K) = (Sim.seq x y).run F K := by
 show x.run F (Cont.then (y.run F K) (Cont.then (y.run F K) K)) = x.run F (Cont.then (y.run F K) K)
 rw [then_then]
theorem seq_more {x R R' y : Sim Try.prog} {F : Nat} {K : Cont} (h : R.run F (Cont.then (y.run F K) K) = R'.run F K) : (Sim.seq x R).run F (Cont.then (y.run F K) K) = (Sim.seq x R').run F K := by
 show x.run F (Cont.then (R.run F (Cont.then (y.run F K) K)) (Cont.then (y.run F K) K)) = x.run F (Cont.then (R'.run F K) K)
 rw [h, then_then]
noncomputable def f6_pre : Sim Try.prog := .seq f6_q1 (.seq f6_q2 (.seq f6_q3 (.seq f6_q4 (.seq f6_q5 .skip))))
theorem f6_r2_run (F : Nat) (K : Cont) : f6_r2.run F K = f6_pre.run F (Cont.then ((Sim.seq f6_v (Sim.seq f6_y f6_r1)).run F K) K) :=
 (seq_more (seq_more (seq_more (seq_more (seq_skip f6_q5 (Sim.seq f6_v (Sim.seq f6_y f6_r1)) F K))))).symm
theorem swl_run (F : Nat) (z y : Bool) (l b : List (List AV)) (k t : Int) :
 (f6.run F [.ns z 1 l, .ns y 1 b, .int .i64 k, .int .i64 t] ⟨[], []⟩ : Ans) =
 branch (.bool (okBs l && true))
 (branch (.bool (decide (weighV l (3000 : Int) > 3000))) (some (Fin.ret (.bool true), St.mk [] []))
 (branch (.bool (okBs b && true))
 (branch (.bool (decide (weighV b (3000 : Int) > 3000))) (some (Fin.ret (.bool true), St.mk [] []))
 (onSome
 (dkG 0 (dk0 (newO (400 : Int))) (dk1 (newO (400 : Int))) (dk2 0 (newO (400 : Int)))
 (dk3 (newO (400 : Int))))
 none fun (o : Dk) =>
 branch (.bool (cdec (o.3.length < 999998)))
 (branch (.bool (fmtB o))
 (loopRun (f6_l0.run F) [0, 1, 2, 3, 9, 11, 12]
 (Cont.block 0 (Cont.then (f6_r2.run F (f6.leaveK Fun.done)) (f6.leaveK Fun.done))) F
 (Env.mk 152
 [(0, AV.ns z 1 l), (1, AV.ns y 1 b),
 (2, .int .i64 k), (3, .int .i64 t),
 (9, AV.ptr 2 0), (11, AV.ptr 4 0),
 (12, .int .i64 0)])
 (St.mk
 [dk0 o.fmtO, dk1 o.fmtO, dk2 0 o.fmtO, dk3 o.fmtO,
 Ob.cells
 [AV.ptr 2 0, .int .i64 (lv0 (fmtLO o)),
 .int .i64 (lv1 (fmtLO o)), .int .i64 (lv2 (fmtLO o)),
 .int .i64 (lv3 (fmtLO o)), .int .i64 (lv4 (fmtLO o))]]
 []))
 (branch (.bool (fmtEO o != 0))
 (some
 (Fin.ret (.bool false),
 St.mk
 [dk0 (newO (400 : Int)), dk1 (newO (400 : Int)), dk2 0 (newO (400 : Int)),
 dk3 (newO (400 : Int))]
 []))
 (some
 (Fin.ret (.bool false),
 St.mk
 [dk0 (newO (400 : Int)), dk1 (newO (400 : Int)), dk2 0 (newO (400 : Int)),
 dk3 (newO (400 : Int))]
 []))))
 none))
 none))
 none := by kernel_rfl
theorem swl_a (F m : Nat) (X : Dk) (g a f p s : Int) (z y : Bool) (l b : List (List AV)) (k t i : Int) (K : Cont) :
 (loopRun (f6_l0.run F) [0, 1, 2, 3, 9, 11, 12] K m.succ (Env.mk 152 [(0, .ns z 1 l), (1, .ns y 1 b), (2, .int .i64 k), (3, .int .i64 t), (9, .ptr 2 0), (11, .ptr 4 0), (12, .int .i64 i)]) ⟨[dk0 X, dk1 X, dk2 0 X, dk3 X, .cells [.ptr 2 0, .int .i64 g, .int .i64 a, .int .i64 f, .int .i64 p, .int .i64 s]], []⟩ : Ans) =
 branch (.bool (decide (i < opq (↑l.length : Int))))
 (branch (.bool (inR l i))
 (branch (.bool ((LD.one (LT.ns 1)).is (V.rowAt l i)))
 (onSome (dkG 0 (dk0 X) (dk1 X) (dk2 0 X) (dk3 X)) none fun (o : Dk) =>
 onSome
 (lgG
 [.int .i64 g, .int .i64 a, .int .i64 f, .int .i64 p,
 .int .i64 s])
 none fun (o_1 : Lg) =>
 branch (.bool (byOk (rwA (V.rowAt l i)) && cdec (LOk o o_1)))
 (branch (.bool (appEO o o_1 (nR (rwA (V.rowAt l i))) != 0))
 (K AX.ret (Env.mk 152 [(8, AV.bool true)])
 (St.mk
 [dk0 (o.appO o_1 (nR (rwA (V.rowAt l i)))), dk1 (o.appO o_1 (nR (rwA (V.rowAt l i)))),
 dk2 0 (o.appO o_1 (nR (rwA (V.rowAt l i)))), dk3 (o.appO o_1 (nR (rwA (V.rowAt l i)))),
 Ob.cells
 [AV.ptr 2 0, .int .i64 (lv0 (o_1.appO o (nR (rwA (V.rowAt l i))))),
 .int .i64 (lv1 (o_1.appO o (nR (rwA (V.rowAt l i))))),
 .int .i64 (lv2 (o_1.appO o (nR (rwA (V.rowAt l i))))),
 .int .i64 (lv3 (o_1.appO o (nR (rwA (V.rowAt l i))))),
 .int .i64 (lv4 (o_1.appO o (nR (rwA (V.rowAt l i)))))]]
 []))
 (loopRun (f6_l0.run F) [0, 1, 2, 3, 9, 11, 12] K m
 (Env.mk 152
 [(0, AV.ns z 1 l), (1, AV.ns y 1 b),
 (2, .int .i64 k), (3, .int .i64 t),
 (9, AV.ptr 2 0), (11, AV.ptr 4 0),
 (12, .int .i64 (IntKind.i64.wrap (i + 1)))])
 (St.mk
 [dk0 (o.appO o_1 (nR (rwA (V.rowAt l i)))), dk1 (o.appO o_1 (nR (rwA (V.rowAt l i)))),
 dk2 0 (o.appO o_1 (nR (rwA (V.rowAt l i)))), dk3 (o.appO o_1 (nR (rwA (V.rowAt l i)))),
 Ob.cells
 [AV.ptr 2 0, .int .i64 (lv0 (o_1.appO o (nR (rwA (V.rowAt l i))))),
 .int .i64 (lv1 (o_1.appO o (nR (rwA (V.rowAt l i))))),
 .int .i64 (lv2 (o_1.appO o (nR (rwA (V.rowAt l i))))),
 .int .i64 (lv3 (o_1.appO o (nR (rwA (V.rowAt l i))))),
 .int .i64 (lv4 (o_1.appO o (nR (rwA (V.rowAt l i)))))]]
 [])))
 none)
 none)
 none)
 (K (AX.exit 0)
 (Env.mk 152
 [(0, AV.ns z 1 l), (1, AV.ns y 1 b), (2, .int .i64 k),
 (3, .int .i64 t), (9, AV.ptr 2 0),
 (11, AV.ptr 4 0)])
 (St.mk
 [dk0 X, dk1 X, dk2 0 X, dk3 X,
 Ob.cells
 [AV.ptr 2 0, .int .i64 g, .int .i64 a, .int .i64 f,
 .int .i64 p, .int .i64 s]]
 [])) := by kernel_rfl
theorem swl_pre (F : Nat) (X : Dk) (g a f p s : Int) (z y : Bool) (l b : List (List AV)) (k t : Int) (K : Cont) :
 (f6_pre.run F K (Env.mk 152 [(0, .ns z 1 l), (1, .ns y 1 b), (2, .int .i64 k), (3, .int .i64 t), (9, .ptr 2 0), (11, .ptr 4 0)]) ⟨[dk0 X, dk1 X, dk2 0 X, dk3 X, .cells [.ptr 2 0, .int .i64 g, .int .i64 a, .int .i64 f, .int .i64 p, .int .i64 s]], []⟩ : Ans) =
 onSome (dkG 0 (dk0 X) (dk1 X) (dk2 0 X) (dk3 X)) none fun (o : Dk) =>
 onSome
 (lgG [.int .i64 g, .int .i64 a, .int .i64 f, .int .i64 p, .int .i64 s])
 none fun (o_1 : Lg) =>
 onSome (dkG 0 (dk0 o.flushO) (dk1 o.flushO) (dk2 0 o.flushO) (dk3 o.flushO)) none fun (o_2 : Dk) =>
 onSome (dkG 0 (dk0 o.flushO) (dk1 o.flushO) (dk2 0 o.flushO) (dk3 o.flushO)) none fun (o : Dk) =>
 onSome
 (lgG
 [.int .i64 (lv0 o_1), .int .i64 (lv1 o_1), .int .i64 (lv2 o_1),
 .int .i64 (lv3 o_1), .int .i64 (lv4 o_1)])
 none fun (o_3 : Lg) =>
 branch (.bool (okBs b && cdec (SOk o o_3 b.length)))
 (branch (.bool (swEO o o_3 (bsR b) != 0))
 (K AX.ret (Env.mk 152 [(8, AV.bool true)])
 (St.mk
 [dk0 (o.swO o_3 (bsR b)), dk1 (o.swO o_3 (bsR b)), dk2 0 (o.swO o_3 (bsR b)),
 dk3 (o.swO o_3 (bsR b)),
 Ob.cells
 [AV.ptr 2 0, .int .i64 (lv0 (o_3.swO o (bsR b))),
 .int .i64 (lv1 (o_3.swO o (bsR b))), .int .i64 (lv2 (o_3.swO o (bsR b))),
 .int .i64 (lv3 (o_3.swO o (bsR b))), .int .i64 (lv4 (o_3.swO o (bsR b)))]]
 []))
 (onSome
 (dkG 0 (dk0 (o.swO o_3 (bsR b))) (dk1 (o.swO o_3 (bsR b))) (dk2 0 (o.swO o_3 (bsR b)))
 (dk3 (o.swO o_3 (bsR b))))
 none fun (o_4 : Dk) =>
 branch
 (AV.bool
 (byOk (bR o_4.2) && cdec (0 < (bR o_4.2).length ∧ (bR o_4.2).length < 1000000)))
 (K AX.normal
 (Env.mk 152
 [(0, AV.ns z 1 l), (1, AV.ns y 1 b),
 (2, .int .i64 k), (3, .int .i64 t),
 (13, AV.ns false 1 (bR o_2.2)), (14, AV.ns false 1 (bR o_4.2)),
 (15, AV.vs 5 0 1 (opq (bR o_4.2).length))])
 (St.mk
 [dk0 (o.swO o_3 (bsR b)), dk1 (o.swO o_3 (bsR b)), dk2 0 (o.swO o_3 (bsR b)),
 dk3 (o.swO o_3 (bsR b)),
 Ob.cells
 [AV.ptr 2 0, .int .i64 (lv0 (o_3.swO o (bsR b))),
 .int .i64 (lv1 (o_3.swO o (bsR b))), .int .i64 (lv2 (o_3.swO o (bsR b))),
 .int .i64 (lv3 (o_3.swO o (bsR b))), .int .i64 (lv4 (o_3.swO o (bsR b)))],
 Ob.vec 0 (opq (bC (nR (bR o_4.2))))]
 []))
 none))
 none := by kernel_rfl
theorem swl_v (F n : Nat) (o0 o1 o2 o3 o4 : Ob) (cs : List AV) (z y : Bool) (l b d e : List (List AV)) (k t : Int) (K : Cont) :
 (f6_v.run F K (Env.mk 152 [(0, .ns z 1 l), (1, .ns y 1 b), (2, .int .i64 k), (3, .int .i64 t), (13, .ns false 1 d), (14, .ns false 1 e), (15, .vs 5 0 1 n)]) ⟨[o0, o1, o2, o3, o4, .vec 0 cs], []⟩ : Ans) =
 branch (.bool (bitsI BinOp.and IntKind.i64 k (1 : Int) == 0))
 (if (0 : Int) ≤ 128 ∧ (128 : Int) ≤ (↑d.length : Int) then
 branch
 (AV.bool
 (byOk (List.drop 0 (List.take 128 d)) &&
 cdec
 (0 < (List.drop 0 (List.take 128 d)).length ∧
 (List.drop 0 (List.take 128 d)).length < 1000000)))
 (if (0 : Int) ≤ 128 ∧ (128 : Int) ≤ (↑e.length : Int) then
 branch
 (AV.bool
 (true &&
 (inC (opq (bC (nR (List.drop 0 (List.take 128 d))))) 0
 (mulN (opq (List.drop 0 (List.take 128 d)).length) 1) &&
 apOk
 (opq (List.drop 0 (List.take 128 d)).length +
 (List.drop 128 (List.take e.length e)).length)
 1)))
 (K AX.normal
 (Env.mk 152
 [(0, AV.ns z 1 l), (1, AV.ns y 1 b), (2, .int .i64 k),
 (3, .int .i64 t), (14, AV.ns false 1 e),
 (15,
 AV.vs 6 1 1
 (opq (List.drop 0 (List.take 128 d)).length +
 (List.drop 128 (List.take e.length e)).length))])
 (St.mk
 [o0, o1, o2, o3, o4, Ob.vec 0 cs,
 Ob.vec 1
 (catC (opq (bC (nR (List.drop 0 (List.take 128 d)))))
 (mulN (opq (List.drop 0 (List.take 128 d)).length) 1)
 (List.drop 128 (List.take e.length e)))]
 []))
 none
 else none)
 none
 else none)
 (K AX.normal
 (Env.mk 152
 [(0, AV.ns z 1 l), (1, AV.ns y 1 b), (2, .int .i64 k),
 (3, .int .i64 t), (14, AV.ns false 1 e),
 (15, AV.vs 5 0 1 n)])
 (St.mk [o0, o1, o2, o3, o4, Ob.vec 0 cs] [])) := by kernel_rfl
theorem swl_y (F : Nat) (z y : Bool) (l b e : List (List AV)) (mx : AV) (k t : Int) (st : St) (K : Cont) :
 (f6_y.run F K (Env.mk 152 [(0, .ns z 1 l), (1, .ns y 1 b), (2, .int .i64 k), (3, .int .i64 t), (14, .ns false 1 e), (15, mx)]) st : Ans) =
 branch (.bool (bitsI BinOp.and IntKind.i64 k (3 : Int) == 2))
 (branch (.bool (decide (t ≥ 0)))
 (branch (.bool (decide (t < 64)))
 (loopRun (f6_l1.run F) [0, 1, 2, 3, 14, 15, 16]
 (Cont.block 2 (Cont.norm [0, 1, 2, 15] K)) F
 (Env.mk 152
 [(0, AV.ns z 1 l), (1, AV.ns y 1 b), (2, .int .i64 k),
 (3, .int .i64 t), (14, AV.ns false 1 e), (15, mx),
 (16, .int .i64 0)])
 st)
 (K AX.normal
 (Env.mk 152
 [(0, AV.ns z 1 l), (1, AV.ns y 1 b), (2, .int .i64 k),
 (15, mx)])
 st))
 (K AX.normal
 (Env.mk 152
 [(0, AV.ns z 1 l), (1, AV.ns y 1 b), (2, .int .i64 k),
 (15, mx)])
 st))
 (K AX.normal
 (Env.mk 152
 [(0, AV.ns z 1 l), (1, AV.ns y 1 b), (2, .int .i64 k),
 (15, mx)])
 st) := by kernel_rfl
theorem swl_l1 (F m : Nat) (z y : Bool) (l b e : List (List AV)) (mx : AV) (k t i : Int) (st : St) (K : Cont) :
 (loopRun (f6_l1.run F) [0, 1, 2, 3, 14, 15, 16] K m.succ (Env.mk 152 [(0, .ns z 1 l), (1, .ns y 1 b), (2, .int .i64 k), (3, .int .i64 t), (14, .ns false 1 e), (15, mx), (16, .int .i64 i)]) st : Ans) =
 branch (.bool (decide (i < 2)))
 (loopRun (f6_l2.run F) [0, 1, 2, 3, 14, 15, 16, 17]
 (Cont.block 4
 (Cont.block 3
 (Cont.then
 (f6_r0.run F
 (Cont.then
 (fun (e : Env) (s : St) =>
 Nat.rec (motive := fun (x : Nat) => Env → St → Ans) (fun (x : Env) (x_1 : St) => none)
 (fun (x : Nat) (ih : Env → St → Ans) (env : Env) (st : St) =>
 f6_l1.run F
 (Cont.then
 (fun (e : Env) (s : St) =>
 ih
 (Env.norm [0, 1, 2, 3, 14, 15, 16]
 e)
 s)
 K)
 env st)
 m (Env.norm [0, 1, 2, 3, 14, 15, 16] e) s)
 K))
 (Cont.then
 (fun (e : Env) (s : St) =>
 Nat.rec (motive := fun (x : Nat) => Env → St → Ans) (fun (x : Env) (x_1 : St) => none)
 (fun (x : Nat) (ih : Env → St → Ans) (env : Env) (st : St) =>
 f6_l1.run F
 (Cont.then
 (fun (e : Env) (s : St) =>
 ih (Env.norm [0, 1, 2, 3, 14, 15, 16] e)
 s)
 K)
 env st)
 m (Env.norm [0, 1, 2, 3, 14, 15, 16] e) s)
 K))))
 F
 (Env.mk 152
 [(0, AV.ns z 1 l), (1, AV.ns y 1 b), (2, .int .i64 k),
 (3, .int .i64 t), (14, AV.ns false 1 e), (15, mx),
 (16, .int .i64 i), (17, .int .i64 (IntKind.i64.wrap ((64 : Int) * i)))])
 st)
 (K (AX.exit 2)
 (Env.mk 152
 [(0, AV.ns z 1 l), (1, AV.ns y 1 b), (2, .int .i64 k),
 (15, mx)])
 st) := by kernel_rfl
theorem swl_l2 (F m n : Nat) (o0 o1 o2 o3 o4 o5 : Ob) (cs : List AV) (z y : Bool) (l b e : List (List AV)) (k t i j : Int) (K : Cont) :
 (loopRun (f6_l2.run F) [0, 1, 2, 3, 14, 15, 16, 17] K m.succ (Env.mk 152 [(0, .ns z 1 l), (1, .ns y 1 b), (2, .int .i64 k), (3, .int .i64 t), (14, .ns false 1 e), (15, .vs 6 1 1 n), (16, .int .i64 i), (17, .int .i64 j)]) ⟨[o0, o1, o2, o3, o4, o5, .vec 1 cs], []⟩ : Ans) =
 branch (.bool (decide (j < IntKind.i64.wrap (IntKind.i64.wrap ((64 : Int) * i) + t))))
 (branch (.bool (inR e j))
 (branch (.bool ((LD.one (LT.int IntKind.u8)).is (V.rowAt e j)))
 (if (0 : Int) ≤ j ∧ j < (↑n : Int) then
 branch (.bool (true && (true && inC cs (j.toNat * 1) 1)))
 (loopRun (f6_l2.run F)
 [0, 1, 2, 3, 14, 15, 16, 17] K m
 (Env.mk 152
 [(0, AV.ns z 1 l), (1, AV.ns y 1 b), (2, .int .i64 k),
 (3, .int .i64 t), (14, AV.ns false 1 e),
 (15, AV.vs 6 1 1 n), (16, .int .i64 i),
 (17, .int .i64 (IntKind.i64.wrap (j + 1)))])
 (St.mk
 [o0, o1, o2, o3, o4, o5,
 Ob.vec 1 (setC cs (j.toNat * 1) [AV.int IntKind.u8 (hdI (V.rowAt e j))])]
 []))
 none
 else none)
 none)
 none)
 (K (AX.exit 4)
 (Env.mk 152
 [(0, AV.ns z 1 l), (1, AV.ns y 1 b), (2, .int .i64 k),
 (3, .int .i64 t), (14, AV.ns false 1 e),
 (15, AV.vs 6 1 1 n), (16, .int .i64 i)])
 (St.mk [o0, o1, o2, o3, o4, o5, Ob.vec 1 cs] [])) := by kernel_rfl
theorem swl_out0 (F n : Nat) (o0 o1 o2 o3 o4 : Ob) (cs : List AV) (z y : Bool) (l b : List (List AV)) (k : Int) (K : Cont) :
 (f6_r1.run F K (Env.mk 152 [(0, .ns z 1 l), (1, .ns y 1 b), (2, .int .i64 k), (15, .vs 5 0 1 n)]) ⟨[o0, o1, o2, o3, o4, .vec 0 cs], []⟩ : Ans) =
 branch (.bool (true && inC cs 0 (mulN n 1)))
 (branch (.bool (byOk (rowsC 1 n cs 0) && true))
 (onSome
 (dkG 6 (dk0 (Dk.new 400 (nR (rowsC 1 n cs 0))))
 (dk1 (Dk.new 400 (nR (rowsC 1 n cs 0))))
 (dk2 6 (Dk.new 400 (nR (rowsC 1 n cs 0))))
 (dk3 (Dk.new 400 (nR (rowsC 1 n cs 0)))))
 none fun (o : Dk) =>
 branch (.bool (cdec (o.3.length < 900000)))
 (branch (.bool (opB o))
 (branch (.bool (okBs (opRO o) && okBs b))
 (branch (.bool (bsR (opRO o) == bsR b))
 (K AX.ret (Env.mk 152 [(8, AV.bool true)])
 (St.mk
 [o0, o1, o2, o3, o4, Ob.nov 1, dk0 (Dk.new 400 (nR (rowsC 1 n cs 0))),
 dk1 (Dk.new 400 (nR (rowsC 1 n cs 0))),
 dk2 6 (Dk.new 400 (nR (rowsC 1 n cs 0))),
 dk3 (Dk.new 400 (nR (rowsC 1 n cs 0))),
 Ob.cells
 [AV.ptr 8 0, .int .i64 (lv0 (opLO o)), .int .i64 (lv1 (opLO o)),
 .int .i64 (lv2 (opLO o)), .int .i64 (lv3 (opLO o)),
 .int .i64 (lv4 (opLO o))]]
 []))
 (branch (.bool (bitsI BinOp.and IntKind.i64 k (1 : Int) == 0))
 (branch (.bool (okBs (opRO o) && okBs l))
 (K AX.ret (Env.mk 152 [(8, AV.bool (bsR (opRO o) == bsR l))])
 (St.mk
 [o0, o1, o2, o3, o4, Ob.nov 1,
 dk0 (Dk.new 400 (nR (rowsC 1 n cs 0))),
 dk1 (Dk.new 400 (nR (rowsC 1 n cs 0))),
 dk2 6 (Dk.new 400 (nR (rowsC 1 n cs 0))),
 dk3 (Dk.new 400 (nR (rowsC 1 n cs 0))),
 Ob.cells
 [AV.ptr 8 0, .int .i64 (lv0 (opLO o)),
 .int .i64 (lv1 (opLO o)), .int .i64 (lv2 (opLO o)),
 .int .i64 (lv3 (opLO o)), .int .i64 (lv4 (opLO o))]]
 []))
 none)
 (K AX.ret (Env.mk 152 [(8, AV.bool false)])
 (St.mk
 [o0, o1, o2, o3, o4, Ob.nov 1,
 dk0 (Dk.new 400 (nR (rowsC 1 n cs 0))),
 dk1 (Dk.new 400 (nR (rowsC 1 n cs 0))),
 dk2 6 (Dk.new 400 (nR (rowsC 1 n cs 0))),
 dk3 (Dk.new 400 (nR (rowsC 1 n cs 0))),
 Ob.cells
 [AV.ptr 8 0, .int .i64 (lv0 (opLO o)),
 .int .i64 (lv1 (opLO o)), .int .i64 (lv2 (opLO o)),
 .int .i64 (lv3 (opLO o)), .int .i64 (lv4 (opLO o))]]
 []))))
 none)
 (branch (.bool (opEO o == 0))
 (branch (.bool (okBs [] && okBs b))
 (branch (.bool ([] == bsR b))
 (K AX.ret (Env.mk 152 [(8, AV.bool true)])
 (St.mk
 [o0, o1, o2, o3, o4, Ob.nov 1,
 dk0 (Dk.new 400 (nR (rowsC 1 n cs 0))),
 dk1 (Dk.new 400 (nR (rowsC 1 n cs 0))),
 dk2 6 (Dk.new 400 (nR (rowsC 1 n cs 0))),
 dk3 (Dk.new 400 (nR (rowsC 1 n cs 0)))]
 []))
 (branch (.bool (bitsI BinOp.and IntKind.i64 k (1 : Int) == 0))
 (branch (.bool (okBs [] && okBs l))
 (K AX.ret (Env.mk 152 [(8, AV.bool ([] == bsR l))])
 (St.mk
 [o0, o1, o2, o3, o4, Ob.nov 1,
 dk0 (Dk.new 400 (nR (rowsC 1 n cs 0))),
 dk1 (Dk.new 400 (nR (rowsC 1 n cs 0))),
 dk2 6 (Dk.new 400 (nR (rowsC 1 n cs 0))),
 dk3 (Dk.new 400 (nR (rowsC 1 n cs 0)))]
 []))
 none)
 (K AX.ret (Env.mk 152 [(8, AV.bool false)])
 (St.mk
 [o0, o1, o2, o3, o4, Ob.nov 1,
 dk0 (Dk.new 400 (nR (rowsC 1 n cs 0))),
 dk1 (Dk.new 400 (nR (rowsC 1 n cs 0))),
 dk2 6 (Dk.new 400 (nR (rowsC 1 n cs 0))),
 dk3 (Dk.new 400 (nR (rowsC 1 n cs 0)))]
 []))))
 none)
 (K AX.ret (Env.mk 152 [(8, AV.bool false)])
 (St.mk
 [o0, o1, o2, o3, o4, Ob.nov 1, dk0 (Dk.new 400 (nR (rowsC 1 n cs 0))),
 dk1 (Dk.new 400 (nR (rowsC 1 n cs 0))),
 dk2 6 (Dk.new 400 (nR (rowsC 1 n cs 0))),
 dk3 (Dk.new 400 (nR (rowsC 1 n cs 0)))]
 []))))
 none)
 none)
 none := by kernel_rfl
theorem swl_out1 (F n : Nat) (o0 o1 o2 o3 o4 o5 : Ob) (cs : List AV) (z y : Bool) (l b : List (List AV)) (k : Int) (K : Cont) :
 (f6_r1.run F K (Env.mk 152 [(0, .ns z 1 l), (1, .ns y 1 b), (2, .int .i64 k), (15, .vs 6 1 1 n)]) ⟨[o0, o1, o2, o3, o4, o5, .vec 1 cs], []⟩ : Ans) =
 branch (.bool (true && inC cs 0 (mulN n 1)))
 (branch (.bool (byOk (rowsC 1 n cs 0) && true))
 (onSome
 (dkG 7 (dk0 (Dk.new 400 (nR (rowsC 1 n cs 0))))
 (dk1 (Dk.new 400 (nR (rowsC 1 n cs 0))))
 (dk2 7 (Dk.new 400 (nR (rowsC 1 n cs 0))))
 (dk3 (Dk.new 400 (nR (rowsC 1 n cs 0)))))
 none fun (o : Dk) =>
 branch (.bool (cdec (o.3.length < 900000)))
 (branch (.bool (opB o))
 (branch (.bool (okBs (opRO o) && okBs b))
 (branch (.bool (bsR (opRO o) == bsR b))
 (K AX.ret (Env.mk 152 [(8, AV.bool true)])
 (St.mk
 [o0, o1, o2, o3, o4, o5, Ob.nov 2,
 dk0 (Dk.new 400 (nR (rowsC 1 n cs 0))),
 dk1 (Dk.new 400 (nR (rowsC 1 n cs 0))),
 dk2 7 (Dk.new 400 (nR (rowsC 1 n cs 0))),
 dk3 (Dk.new 400 (nR (rowsC 1 n cs 0))),
 Ob.cells
 [AV.ptr 9 0, .int .i64 (lv0 (opLO o)), .int .i64 (lv1 (opLO o)),
 .int .i64 (lv2 (opLO o)), .int .i64 (lv3 (opLO o)),
 .int .i64 (lv4 (opLO o))]]
 []))
 (branch (.bool (bitsI BinOp.and IntKind.i64 k (1 : Int) == 0))
 (branch (.bool (okBs (opRO o) && okBs l))
 (K AX.ret (Env.mk 152 [(8, AV.bool (bsR (opRO o) == bsR l))])
 (St.mk
 [o0, o1, o2, o3, o4, o5, Ob.nov 2,
 dk0 (Dk.new 400 (nR (rowsC 1 n cs 0))),
 dk1 (Dk.new 400 (nR (rowsC 1 n cs 0))),
 dk2 7 (Dk.new 400 (nR (rowsC 1 n cs 0))),
 dk3 (Dk.new 400 (nR (rowsC 1 n cs 0))),
 Ob.cells
 [AV.ptr 9 0, .int .i64 (lv0 (opLO o)),
 .int .i64 (lv1 (opLO o)), .int .i64 (lv2 (opLO o)),
 .int .i64 (lv3 (opLO o)), .int .i64 (lv4 (opLO o))]]
 []))
 none)
 (K AX.ret (Env.mk 152 [(8, AV.bool false)])
 (St.mk
 [o0, o1, o2, o3, o4, o5, Ob.nov 2,
 dk0 (Dk.new 400 (nR (rowsC 1 n cs 0))),
 dk1 (Dk.new 400 (nR (rowsC 1 n cs 0))),
 dk2 7 (Dk.new 400 (nR (rowsC 1 n cs 0))),
 dk3 (Dk.new 400 (nR (rowsC 1 n cs 0))),
 Ob.cells
 [AV.ptr 9 0, .int .i64 (lv0 (opLO o)),
 .int .i64 (lv1 (opLO o)), .int .i64 (lv2 (opLO o)),
 .int .i64 (lv3 (opLO o)), .int .i64 (lv4 (opLO o))]]
 []))))
 none)
 (branch (.bool (opEO o == 0))
 (branch (.bool (okBs [] && okBs b))
 (branch (.bool ([] == bsR b))
 (K AX.ret (Env.mk 152 [(8, AV.bool true)])
 (St.mk
 [o0, o1, o2, o3, o4, o5, Ob.nov 2,
 dk0 (Dk.new 400 (nR (rowsC 1 n cs 0))),
 dk1 (Dk.new 400 (nR (rowsC 1 n cs 0))),
 dk2 7 (Dk.new 400 (nR (rowsC 1 n cs 0))),
 dk3 (Dk.new 400 (nR (rowsC 1 n cs 0)))]
 []))
 (branch (.bool (bitsI BinOp.and IntKind.i64 k (1 : Int) == 0))
 (branch (.bool (okBs [] && okBs l))
 (K AX.ret (Env.mk 152 [(8, AV.bool ([] == bsR l))])
 (St.mk
 [o0, o1, o2, o3, o4, o5, Ob.nov 2,
 dk0 (Dk.new 400 (nR (rowsC 1 n cs 0))),
 dk1 (Dk.new 400 (nR (rowsC 1 n cs 0))),
 dk2 7 (Dk.new 400 (nR (rowsC 1 n cs 0))),
 dk3 (Dk.new 400 (nR (rowsC 1 n cs 0)))]
 []))
 none)
 (K AX.ret (Env.mk 152 [(8, AV.bool false)])
 (St.mk
 [o0, o1, o2, o3, o4, o5, Ob.nov 2,
 dk0 (Dk.new 400 (nR (rowsC 1 n cs 0))),
 dk1 (Dk.new 400 (nR (rowsC 1 n cs 0))),
 dk2 7 (Dk.new 400 (nR (rowsC 1 n cs 0))),
 dk3 (Dk.new 400 (nR (rowsC 1 n cs 0)))]
 []))))
 none)
 (K AX.ret (Env.mk 152 [(8, AV.bool false)])
 (St.mk
 [o0, o1, o2, o3, o4, o5, Ob.nov 2,
 dk0 (Dk.new 400 (nR (rowsC 1 n cs 0))),
 dk1 (Dk.new 400 (nR (rowsC 1 n cs 0))),
 dk2 7 (Dk.new 400 (nR (rowsC 1 n cs 0))),
 dk3 (Dk.new 400 (nR (rowsC 1 n cs 0)))]
 []))))
 none)
 none)
 none := by kernel_rfl
theorem and_two {k : Int} (h : (bitsI BinOp.and IntKind.i64 k (3 : Int) == (2 : Int)) = true) : (bitsI BinOp.and IntKind.i64 k (1 : Int) == (0 : Int)) = true := by
 rw [beq_iff_eq] at h ⊢
 simp only [bitsI] at h ⊢
 generalize hb : BitVec.ofInt IntKind.i64.bits k = b at h ⊢
 have hb3 : (b &&& BitVec.ofInt IntKind.i64.bits 3).toNat ≤ 3 := by
  rw [BitVec.toNat_and]; exact Nat.le_trans Nat.and_le_right (Nat.le_of_eq rfl)
 rw [wrap_nat (by omega)] at h
 have h2 : b &&& BitVec.ofInt IntKind.i64.bits 3 = BitVec.ofInt IntKind.i64.bits 2 := by
  apply BitVec.eq_of_toNat_eq
  have : (b &&& BitVec.ofInt IntKind.i64.bits 3).toNat = 2 := by omega
  rw [this]; rfl
 have e1 : BitVec.ofInt IntKind.i64.bits 1 = BitVec.ofInt IntKind.i64.bits 3 &&& BitVec.ofInt IntKind.i64.bits 1 := by rfl
 rw [e1, ← BitVec.and_assoc, h2]; rfl
def cpB (mx dn : List Nat) (j : Nat) : Nat → List Nat
 | 0 => mx
 | n + 1 => cpB (mx.set j (dn.getD j 0)) dn (j + 1) n
theorem cpB_len : ∀ (n : Nat) (mx dn : List Nat) (j : Nat), (cpB mx dn j n).length = mx.length
 | 0, _, _, _ => rfl
 | n + 1, mx, dn, j => by rw [cpB, cpB_len n, List.length_set]
theorem cpB_get : ∀ (n : Nat) (mx dn : List Nat) (j i : Nat), j + n ≤ mx.length → mx.length = dn.length → (cpB mx dn j n)[i]? = if j ≤ i ∧ i < j + n then dn[i]? else mx[i]?
 | 0, mx, dn, j, i, _, _ => by rw [if_neg (by omega)]; rfl
 | n + 1, mx, dn, j, i, h, he => by
  rw [cpB, cpB_get n _ dn (j + 1) i (by rw [List.length_set]; omega) (by rw [List.length_set]; exact he), List.getElem?_set]
  by_cases h1 : j + 1 ≤ i ∧ i < j + 1 + n
  ·rw [if_pos h1, if_pos ⟨by omega, by omega⟩]
  ·rw [if_neg h1]
   by_cases h2 : j = i
   ·subst h2
    rw [if_pos rfl, if_pos (show j < mx.length by omega), if_pos ⟨by omega, by omega⟩, List.getD_eq_getElem?_getD, List.getElem?_eq_getElem (show j < dn.length by omega)]; rfl
   ·rw [if_neg h2, if_neg (by omega)]
theorem lt_of_get {b : List Nat} (h : ∀ (i x : Nat), b[i]? = some x → x < 256) : ∀ x ∈ b, x < 256 := fun x hx => by
 obtain ⟨i, hi⟩ := List.getElem?_of_mem hx
 exact h i x hi
theorem secL_ext {a b : List Nat} {j : Nat} (h : ∀ i, i < 64 → a[j * 64 + i]? = b[j * 64 + i]?) : secL a j = secL b j := by
 apply List.ext_getElem?
 intro i
 by_cases hi : i < 64
 ·rw [getElem_secL hi, getElem_secL hi, h i hi]
 ·rw [secL, secL, List.getElem?_take, List.getElem?_take, if_neg hi, if_neg hi]
theorem new_secL {M : List Nat} (h : M.length = 25600) (j : Nat) : (Dk.new 400 M).sector j = secL M j := by
 have : (Dk.new 400 M).ls = M := by
  show imgAt 400 M 400 = M
  rw [imgAt, List.take_of_length_le (by omega), h]; simp
 rw [sector_eq, this]; rfl
theorem swN_sector {X : Dk} {L : Lg} {lo : List (List Nat × Nat)} (h : Hist X L 400 lo) {rs : List (List Nat)} (he : swE X L rs = 0) (hr : ∀ r ∈ rs, ∀ x ∈ r, x < 256) :
  (X.swN L rs).ls.length = 25600 ∧ (X.swN L rs).ws = [] ∧ secL (X.swN L rs).ls 0 = headB 2 1 L.s ∧ secL (X.swN L rs).ls 1 = headB 1 0 1 ∧ ∀ j, 2 ≤ j → j < 400 → secL (X.swN L rs).ls j = (X.wrAll (placeN X (1 - L.a) 0) L.s rs).sector j := by
 have hL := h.L
 have hsz := h.sz
 have hh : X.half = (X.n - 2) / 2 := rfl
 have hLs : L.s = 1 + totalN lo := by rw [hL]
 have ha : L.a = 0 := by rw [hL]
 have hg : L.g = 1 := by rw [hL]
 obtain ⟨e1, e2, e3, e4⟩ := swE_zero he
 have hpl : placeN X (1 - L.a) 0 = 2 + X.half := by rw [ha, placeN]; omega
 obtain ⟨w1, _⟩ := wrAll_sector rs X (2 + X.half) L.s (by omega) (by omega) e1
 have hY : (X.wrAll (2 + X.half) L.s rs).Ok := wrAll_ok rs h.ok _ _ hr
 have hYn : (X.wrAll (2 + X.half) L.s rs).n = 400 := by rw [wrAll_n, hsz]
 have hok := swN_ok h.ok L hr
 have hn : (X.swN L rs).n = 400 := by
  show (((X.wrAll (placeN X (1 - L.a) 0) L.s rs).flush).wrX _ _).flush.n = 400
  show (((X.wrAll (placeN X (1 - L.a) 0) L.s rs).flush).wrX _ _).n = 400
  rw [wrX_n]; show (X.wrAll (placeN X (1 - L.a) 0) L.s rs).n = 400
  rw [hpl]; exact hYn
 have hw : (X.swN L rs).ws = [] := rfl
 have hs : ∀ j, j < 400 → secL (X.swN L rs).ls j = if j = 0 then headB 2 1 L.s else (X.wrAll (2 + X.half) L.s rs).sector j := fun j hj => by
  have e5 : secL (X.swN L rs).ls j = (X.swN L rs).sector j := by rw [sector_eq, hw]; rfl
  rw [e5, Dk.swN, hpl]
  have hg2 : (L.swN rs).g = 2 := by show L.g + 1 = 2; omega
  have ha2 : (L.swN rs).a = 1 := by show 1 - L.a = 1; omega
  have hf2 : (L.swN rs).f = L.s := rfl
  rw [Dk.crown, hg2, ha2, hf2]
  have hx := (flush_ok hY).wrX (k := ((0 : Nat) : Int)) (b := headB 2 1 L.s) (headB_lt _ _ _)
  show (((X.wrAll (2 + X.half) L.s rs).flush.wrX ((0 : Nat) : Int) (headB 2 1 L.s)).flush).sector j = _
  rw [flush_sector hx (by rw [wrX_n]; show j < (X.wrAll (2 + X.half) L.s rs).n; omega), wrX_sector (by show 0 < (X.wrAll (2 + X.half) L.s rs).n; omega) (headB_len _ _ _), flush_sector hY (by omega)]
 refine ⟨by rw [hok.len, hn], hw, hs 0 (by omega), ?_, fun j h2 hj => ?_⟩
 ·rw [hs 1 (by omega), if_neg (by omega), w1 1 (by omega), h.h1]
 ·rw [hs j hj, if_neg (by omega), hpl]
def Mixed (img dn M : List Nat) (t : Nat) : Prop := M.length = 25600 ∧ ∀ i, M[i]? = if i < t ∨ (64 ≤ i ∧ i < 64 + t) ∨ 128 ≤ i then dn[i]? else img[i]?
theorem mix_start {img dn : List Nat} (hi : img.length = 25600) (hd : dn.length = 25600) : Mixed img dn (img.take 128 ++ dn.drop 128) 0 := by
 refine ⟨by rw [List.length_append, List.length_take, List.length_drop]; omega, fun i => ?_⟩
 rw [List.getElem?_append, List.length_take, List.getElem?_take, List.getElem?_drop]
 by_cases h : i < 128
 ·rw [if_pos (by omega), if_pos h, if_neg (by omega)]
 ·rw [if_neg (by omega), if_pos (by omega), show 128 + (i - min 128 img.length) = i by omega]
theorem mix_torn {img dn M : List Nat} (hd : dn.length = 25600) (h : Mixed img dn M 0) {t : Nat} (ht : t ≤ 64) : Mixed img dn (cpB (cpB M dn 0 t) dn 64 t) t := by
 obtain ⟨h1, h2⟩ := h
 refine ⟨by rw [cpB_len, cpB_len, h1], fun i => ?_⟩
 rw [cpB_get t _ dn 64 i (by rw [cpB_len]; omega) (by rw [cpB_len]; omega), cpB_get t M dn 0 i (by omega) (by omega), h2 i]
 by_cases a : 64 ≤ i ∧ i < 64 + t
 ·rw [if_pos a, if_pos (.inr (.inl a))]
 ·rw [if_neg a]
  by_cases b : 0 ≤ i ∧ i < 0 + t
  ·rw [if_pos b, if_pos (.inl (by omega))]
  ·rw [if_neg b]
   by_cases c : 128 ≤ i
   ·rw [if_pos (.inr (.inr c)), if_pos (.inr (.inr c))]
   ·rw [if_neg (by omega), if_neg (by omega)]
theorem mix_lt {img dn M : List Nat} {t : Nat} (h : Mixed img dn M t) (hi : ∀ x ∈ img, x < 256) (hd : ∀ x ∈ dn, x < 256) : ∀ x ∈ M, x < 256 := lt_of_get fun i x hx => by
 rw [h.2 i] at hx
 split at hx
 ·exact hd x (List.mem_of_getElem? hx)
 ·exact hi x (List.mem_of_getElem? hx)
theorem mixed_ok {X : Dk} {L : Lg} {lo : List (List Nat × Nat)} (h : Hist X L 400 lo) (hw : X.ws = []) {rs : List (List Nat)} (he : swE X L rs = 0) (hr : ∀ r ∈ rs, ∀ x ∈ r, x < 256) {M : List Nat} {t : Nat} (ht : t ≤ 64) (hM : Mixed X.ls (X.swN L rs).ls M t) (hMb : ∀ x ∈ M, x < 256) :
  opE (Dk.new 400 M) = 0 ∧ ((Dk.new 400 M).opR = rs ∨ (Dk.new 400 M).opR = lo.map (·.1)) := by
 obtain ⟨s1, s2, s3, s4, s5⟩ := swN_sector h he hr
 obtain ⟨m1, m2⟩ := hM
 have hil : X.ls.length = 25600 := by rw [h.ok.len, h.sz]
 have hix : ∀ j, secL X.ls j = X.sector j := fun j => by rw [sector_eq, hw]; rfl
 have hG := new_ok (n := 400) (img := M) (by decide) hMb
 have g1 : (Dk.new 400 M).sector 1 = headB 1 0 1 := by
  rw [new_secL m1, ← s4]
  have e : secL (X.swN L rs).ls 1 = secL X.ls 1 := by rw [s4, hix, h.h1]
  apply List.ext_getElem?
  intro i
  by_cases hi : i < 64
  ·rw [getElem_secL hi, m2]
   split
   ·exact (getElem_secL hi).symm
   ·rw [e]; exact (getElem_secL hi).symm
  ·rw [secL, secL, List.getElem?_take, List.getElem?_take, if_neg hi, if_neg hi]
 have g2 : ∀ j, 2 ≤ j → j < 400 → (Dk.new 400 M).sector j = (X.wrAll (placeN X (1 - L.a) 0) L.s rs).sector j := fun j h2 hj => by
  rw [new_secL m1, ← s5 j h2 hj]
  exact secL_ext fun i hi => by rw [m2, if_pos (.inr (.inr (by omega)))]
 have g0 : (Dk.new 400 M).sector 0 = (headB 2 1 L.s).take t ++ zB.drop t := by
  have hz : secL X.ls 0 = zB := by rw [hix, h.h0]
  rw [new_secL m1, ← s3, ← hz]
  have hl : (secL (X.swN L rs).ls 0).length = 64 := secL_len (n := 400) s1 (by decide)
  have hl2 : (secL X.ls 0).length = 64 := secL_len (n := 400) hil (by decide)
  apply List.ext_getElem?
  intro i
  rw [List.getElem?_append, List.length_take, List.getElem?_take, List.getElem?_drop, hl]
  by_cases hi : i < 64
  ·rw [getElem_secL hi, m2]
   by_cases hit : i < t
   ·rw [if_pos (.inl (by omega)), if_pos (by omega), if_pos hit, getElem_secL hi]
   ·rw [if_neg (by omega), if_neg (by omega), show t + (i - min t 64) = i by omega, getElem_secL hi]
  ·rw [List.getElem?_eq_none (by rw [secL_len (n := 400) m1 (by decide)]; omega), if_neg (by omega), List.getElem?_eq_none (by omega)]
 obtain ⟨p1, p2⟩ := sw_plain h he hG rfl g1 g2
 rcases torn_head L.s t ht with e | e
 ·obtain ⟨q1, q2⟩ := p1 (by rw [g0, e]); exact ⟨q1, .inl q2⟩
 ·obtain ⟨q1, q2⟩ := p2 (by rw [g0, e]); exact ⟨q1, .inr q2⟩
theorem done_ok {X : Dk} {L : Lg} {lo : List (List Nat × Nat)} (h : Hist X L 400 lo) {rs : List (List Nat)} (he : swE X L rs = 0) (hr : ∀ r ∈ rs, ∀ x ∈ r, x < 256) :
  opE (Dk.new 400 (X.swN L rs).ls) = 0 ∧ (Dk.new 400 (X.swN L rs).ls).opR = rs := by
 obtain ⟨s1, s2, s3, s4, s5⟩ := swN_sector h he hr
 have hG := new_ok (n := 400) (img := (X.swN L rs).ls) (by decide) (swN_ok h.ok L hr).byte
 obtain ⟨p1, p2⟩ := sw_plain h he hG rfl (by rw [new_secL s1, s4]) (fun j h2 hj => by rw [new_secL s1, s5 j h2 hj])
 exact p1 (by rw [new_secL s1, s3])
theorem swl_loop (F : Nat) (z y : Bool) (l b : List (List AV)) (hl : ∀ r ∈ l, isB r = true) (hln : l.length < 1000000) (k t : Int) (K : Cont) : ∀ (d m i : Nat) (X : Dk) (L : Lg) (lh : List (List Nat × Nat)), i + d = l.length → d < m → Hist X L 400 lh → bsR (l.take i) = lh.map (·.1) →
  (∃ st, loopRun (f6_l0.run F) [0, 1, 2, 3, 9, 11, 12] K m (Env.mk 152 [(0, .ns z 1 l), (1, .ns y 1 b), (2, .int .i64 k), (3, .int .i64 t), (9, .ptr 2 0), (11, .ptr 4 0), (12, .int .i64 (i : Int))]) (recSt X L []) = K .ret (Env.mk 152 [(8, .bool true)]) st) ∨
  ∃ X' L' lh', Hist X' L' 400 lh' ∧ bsR l = lh'.map (·.1) ∧ loopRun (f6_l0.run F) [0, 1, 2, 3, 9, 11, 12] K m (Env.mk 152 [(0, .ns z 1 l), (1, .ns y 1 b), (2, .int .i64 k), (3, .int .i64 t), (9, .ptr 2 0), (11, .ptr 4 0), (12, .int .i64 (i : Int))]) (recSt X L []) = K (.exit 0) (Env.mk 152 [(0, .ns z 1 l), (1, .ns y 1 b), (2, .int .i64 k), (3, .int .i64 t), (9, .ptr 2 0), (11, .ptr 4 0)]) (recSt X' L' [])
 | d, 0, i, X, L, lh, _, h, _, _ => by omega
 | 0, m + 1, i, X, L, lh, hi, _, hH, hb => by
  refine .inr ⟨X, L, lh, hH, by rw [← hb, List.take_of_length_le (by omega)], ?_⟩
  rw [show m + 1 = m.succ from rfl]
  refine Eq.trans (swl_a F m X (L.g : Int) (L.a : Int) (L.f : Int) (L.p : Int) (L.s : Int) z y l b k t (i : Int) K) ?_
  rw [opq_eq, branch_not (decide_eq_false (by omega))]; rfl
 | d + 1, m + 1, i, X, L, lh, hi, hm, hH, hb => by
  have hi' : i < l.length := by omega
  obtain ⟨a1, a2, a3, a4⟩ := isB_at hl hi'
  rw [a4] at a3
  have hlt := row_lt hl (List.getElem_mem hi')
  have hL := hist_lok hH
  have hw := hH.w; have hp := hH.p; have hsz := hH.sz; have hn1 := hH.ok.n1
  have hh : X.half = (X.n - 2) / 2 := rfl
  obtain ⟨e1, e2, e3⟩ := appO_eq X L (nR (rwA l[i]))
  obtain ⟨v0, v1, v2, v3, v4⟩ := lv_eq (L.app X (nR (rwA l[i])))
  have key := swl_a F m X (L.g : Int) (L.a : Int) (L.f : Int) (L.p : Int) (L.s : Int) z y l b k t (i : Int) K
  rw [opq_eq, branch_of (decide_eq_true (by omega)), branch_of a1, branch_of a2, gD hH.ok (by omega), onSome_some, lgG_cs, onSome_some, a4, branch_of (by rw [Bool.and_eq_true, cdec_iff]; exact ⟨a3, hL⟩), e1, e2, e3, v0, v1, v2, v3, v4, wrap_succ (by omega)] at key
  rcases hH.app hlt with ⟨h1, h2, _⟩ | ⟨h1, h2, h3⟩
  ·rw [h1, branch_not (by rfl)] at key
   rcases swl_loop F z y l b hl hln k t K d m (i + 1) _ _ _ (by omega) (by omega) h2 (by rw [List.take_succ_eq_append_getElem hi', bsR_snoc, hb]; simp) with ⟨st, hs⟩ | ⟨X', L', lh', q1, q2, q3⟩
   ·exact .inl ⟨st, key.trans hs⟩
   ·exact .inr ⟨X', L', lh', q1, q2, key.trans q3⟩
  ·rw [branch_of (by simp; omega)] at key
   exact .inl ⟨_, key⟩
theorem byte_at {d : List Nat} {j : Nat} (h : j < d.length) : inR (bR d) (j : Int) = true ∧ (LD.one (LT.int IntKind.u8)).is (V.rowAt (bR d) (j : Int)) = true ∧ hdI (V.rowAt (bR d) (j : Int)) = ((d.getD j 0 : Nat) : Int) := by
 rw [rowAt_nat (by rw [bR_length]; exact h)]
 have e : (bR d)[j]'(by rw [bR_length]; exact h) = [.int .u8 (d[j] : Int)] := by simp [bR]
 rw [e]
 refine ⟨inR_nat (by rw [bR_length]; exact h), rfl, ?_⟩
 rw [List.getD_eq_getElem?_getD, List.getElem?_eq_getElem h]; rfl
theorem swl_in (F : Nat) (o0 o1 o2 o3 o4 o5 : Ob) (z y : Bool) (l b : List (List AV)) {dn : List Nat} (hd : dn.length = 25600) (k : Int) (t i : Nat) (hi : i < 100) (ht : t ≤ 64) (K : Cont) : ∀ (n m j : Nat) (mx : List Nat), j + n = 64 * i + t → n < m → mx.length = 25600 →
  loopRun (f6_l2.run F) [0, 1, 2, 3, 14, 15, 16, 17] K m (Env.mk 152 [(0, .ns z 1 l), (1, .ns y 1 b), (2, .int .i64 k), (3, .int .i64 (t : Int)), (14, .ns false 1 (bR dn)), (15, .vs 6 1 1 25600), (16, .int .i64 (i : Int)), (17, .int .i64 (j : Int))]) ⟨[o0, o1, o2, o3, o4, o5, .vec 1 (bC mx)], []⟩
   = K (.exit 4) (Env.mk 152 [(0, .ns z 1 l), (1, .ns y 1 b), (2, .int .i64 k), (3, .int .i64 (t : Int)), (14, .ns false 1 (bR dn)), (15, .vs 6 1 1 25600), (16, .int .i64 (i : Int))]) ⟨[o0, o1, o2, o3, o4, o5, .vec 1 (bC (cpB mx dn j n))], []⟩
 | n, 0, j, mx, _, h, _ => by omega
 | 0, m + 1, j, mx, hj, _, hm => by
  rw [show m + 1 = m.succ from rfl]
  refine Eq.trans (swl_l2 F m 25600 o0 o1 o2 o3 o4 o5 (bC mx) z y l b (bR dn) k t i j K) ?_
  rw [wrapS (n := 64 * (i : Int)) (by omega) (by omega), wrapS (by omega) (by omega), branch_not (decide_eq_false (by omega))]; rfl
 | n + 1, m + 1, j, mx, hj, hm, hmx => by
  obtain ⟨a1, a2, a3⟩ := byte_at (d := dn) (j := j) (by omega)
  rw [show m + 1 = m.succ from rfl]
  refine Eq.trans (swl_l2 F m 25600 o0 o1 o2 o3 o4 o5 (bC mx) z y l b (bR dn) k t i j K) ?_
  rw [wrapS (n := 64 * (i : Int)) (by omega) (by omega), wrapS (n := 64 * (i : Int) + (t : Int)) (by omega) (by omega), branch_of (decide_eq_true (by omega)), branch_of a1, branch_of a2, if_pos ⟨by omega, by omega⟩, Int.toNat_natCast, Nat.mul_one, branch_of (by rw [Bool.true_and, Bool.true_and]; exact inC_bC (by omega)), a3, setC_byte (by omega), wrap_succ (by omega)]
  exact swl_in F o0 o1 o2 o3 o4 o5 z y l b hd k t i hi ht K n m (j + 1) (mx.set j (dn.getD j 0)) (by omega) (by omega) (by rw [List.length_set]; exact hmx)
theorem swl_round (F m : Nat) (o0 o1 o2 o3 o4 o5 : Ob) (z y : Bool) (l b : List (List AV)) {dn : List Nat} (hd : dn.length = 25600) (k : Int) (t i : Nat) (hi : i < 2) (ht : t ≤ 64) (hF : 100 < F) {mx : List Nat} (hm : mx.length = 25600) (K : Cont) :
  loopRun (f6_l1.run F) [0, 1, 2, 3, 14, 15, 16] K m.succ (Env.mk 152 [(0, .ns z 1 l), (1, .ns y 1 b), (2, .int .i64 k), (3, .int .i64 (t : Int)), (14, .ns false 1 (bR dn)), (15, .vs 6 1 1 25600), (16, .int .i64 (i : Int))]) ⟨[o0, o1, o2, o3, o4, o5, .vec 1 (bC mx)], []⟩
   = loopRun (f6_l1.run F) [0, 1, 2, 3, 14, 15, 16] K m (Env.mk 152 [(0, .ns z 1 l), (1, .ns y 1 b), (2, .int .i64 k), (3, .int .i64 (t : Int)), (14, .ns false 1 (bR dn)), (15, .vs 6 1 1 25600), (16, .int .i64 ((i + 1 : Nat) : Int))]) ⟨[o0, o1, o2, o3, o4, o5, .vec 1 (bC (cpB mx dn (64 * i) t))], []⟩ := by
 refine Eq.trans (swl_l1 F m z y l b (bR dn) (.vs 6 1 1 25600) k t i _ K) ?_
 rw [branch_of (decide_eq_true (by omega)), show (64 : Int) * (i : Int) = ((64 * i : Nat) : Int) by omega, wrap_nat (by omega)]
 refine Eq.trans (swl_in F o0 o1 o2 o3 o4 o5 z y l b hd k t i (by omega) ht _ t F (64 * i) mx rfl (by omega) hm) ?_
 rw [← wrap_succ (i := i) (by omega)]
 kernel_rfl
theorem swl_both (F : Nat) (o0 o1 o2 o3 o4 o5 : Ob) (z y : Bool) (l b : List (List AV)) {dn : List Nat} (hd : dn.length = 25600) (k : Int) (t : Nat) (ht : t ≤ 64) (hF : 100 < F) {mx : List Nat} (hm : mx.length = 25600) (K : Cont) :
  loopRun (f6_l1.run F) [0, 1, 2, 3, 14, 15, 16] K F (Env.mk 152 [(0, .ns z 1 l), (1, .ns y 1 b), (2, .int .i64 k), (3, .int .i64 (t : Int)), (14, .ns false 1 (bR dn)), (15, .vs 6 1 1 25600), (16, .int .i64 0)]) ⟨[o0, o1, o2, o3, o4, o5, .vec 1 (bC mx)], []⟩
   = K (.exit 2) (Env.mk 152 [(0, .ns z 1 l), (1, .ns y 1 b), (2, .int .i64 k), (15, .vs 6 1 1 25600)]) ⟨[o0, o1, o2, o3, o4, o5, .vec 1 (bC (cpB (cpB mx dn 0 t) dn 64 t))], []⟩ := by
 obtain ⟨f, hf⟩ : ∃ f : Nat, F = f.succ.succ.succ := ⟨F - 3, by omega⟩
 have e1 := swl_round F f.succ.succ o0 o1 o2 o3 o4 o5 z y l b hd k t 0 (by omega) ht hF hm K
 have e2 := swl_round F f.succ o0 o1 o2 o3 o4 o5 z y l b hd k t 1 (by omega) ht hF (mx := cpB mx dn 0 t) (by rw [cpB_len]; exact hm) K
 have e3 := swl_l1 F f z y l b (bR dn) (.vs 6 1 1 25600) k t 2 ⟨[o0, o1, o2, o3, o4, o5, .vec 1 (bC (cpB (cpB mx dn 0 t) dn 64 t))], []⟩ K
 rw [branch_not (decide_eq_false (by omega))] at e3
 have := (e1.trans e2).trans e3
 rw [← hf] at this
 exact this
theorem fin0 (F : Nat) (o0 o1 o2 o3 o4 : Ob) {M : List Nat} (hM : M.length = 25600) (hMb : ∀ x ∈ M, x < 256) (z y : Bool) (l : List (List AV)) {b : List (List AV)} (hb : okBs b = true) (k : Int) (hE : opE (Dk.new 400 M) = 0) (hR : (Dk.new 400 M).opR = bsR b) (K : Cont) :
  ∃ st, f6_r1.run F K (Env.mk 152 [(0, .ns z 1 l), (1, .ns y 1 b), (2, .int .i64 k), (15, .vs 5 0 1 25600)]) ⟨[o0, o1, o2, o3, o4, .vec 0 (bC M)], []⟩ = K .ret (Env.mk 152 [(8, .bool true)]) st := by
 have hok := new_ok (n := 400) (img := M) (by decide) hMb
 obtain ⟨q1, q2, q3, q4, q5⟩ := opO_eq (Dk.new 400 M)
 have hbs := opR_ok hok (show 2 ≤ (Dk.new 400 M).n by show 2 ≤ 400; omega)
 have key := swl_out0 F 25600 o0 o1 o2 o3 o4 (bC M) z y l b k K
 rw [branch_of (by rw [Bool.true_and]; exact inC_bC (by rw [mulN, opq_eq]; omega)), rowsC_bC (by omega), List.drop_zero, List.take_of_length_le (by omega), branch_of (by rw [Bool.and_true]; exact byOk_bR hMb (by omega)), nR_bR, gD' hok (by show 0 < _; omega), onSome_some, branch_of (cdec_iff.mpr (by show 0 < _; omega)), q1, hE, branch_of (by rfl), q5, branch_of (by rw [hbs, hb]; rfl), bsR_bsB, hR, branch_of (by simp)] at key
 exact ⟨_, key⟩
theorem fin1 (F : Nat) (o0 o1 o2 o3 o4 o5 : Ob) {M : List Nat} (hM : M.length = 25600) (hMb : ∀ x ∈ M, x < 256) (z y : Bool) {l b : List (List AV)} (hl : okBs l = true) (hb : okBs b = true) (k : Int) (hk : (bitsI BinOp.and IntKind.i64 k (1 : Int) == (0 : Int)) = true) (hE : opE (Dk.new 400 M) = 0) (hR : (Dk.new 400 M).opR = bsR b ∨ (Dk.new 400 M).opR = bsR l) (K : Cont) :
  ∃ st, f6_r1.run F K (Env.mk 152 [(0, .ns z 1 l), (1, .ns y 1 b), (2, .int .i64 k), (15, .vs 6 1 1 25600)]) ⟨[o0, o1, o2, o3, o4, o5, .vec 1 (bC M)], []⟩ = K .ret (Env.mk 152 [(8, .bool true)]) st := by
 have hok := new_ok (n := 400) (img := M) (by decide) hMb
 obtain ⟨q1, q2, q3, q4, q5⟩ := opO_eq (Dk.new 400 M)
 have hbs := opR_ok hok (show 2 ≤ (Dk.new 400 M).n by show 2 ≤ 400; omega)
 have key := swl_out1 F 25600 o0 o1 o2 o3 o4 o5 (bC M) z y l b k K
 rw [branch_of (by rw [Bool.true_and]; exact inC_bC (by rw [mulN, opq_eq]; omega)), rowsC_bC (by omega), List.drop_zero, List.take_of_length_le (by omega), branch_of (by rw [Bool.and_true]; exact byOk_bR hMb (by omega)), nR_bR, gD' hok (by show 0 < _; omega), onSome_some, branch_of (cdec_iff.mpr (by show 0 < _; omega)), q1, hE, branch_of (by rfl), q5, branch_of (by rw [hbs, hb]; rfl), bsR_bsB] at key
 by_cases hc : (Dk.new 400 M).opR = bsR b
 ·rw [hc, branch_of (by simp)] at key
  exact ⟨_, key⟩
 ·have hR := hR.resolve_left hc
  rw [branch_not (by simpa using hc), branch_of hk, branch_of (by rw [hbs, hl]; rfl), hR, show (bsR l == bsR l) = true by simp] at key
  exact ⟨_, key⟩
theorem rows_lt {b : List (List AV)} (hb : ∀ r ∈ b, isB r = true) : ∀ r ∈ bsR b, ∀ x ∈ r, x < 256 := by
 intro r hr
 obtain ⟨q, hq, rfl⟩ := List.mem_map.mp hr
 exact row_lt hb hq
noncomputable def f6_post (F : Nat) (K : Cont) : Env → St → Ans := f6_v.run F (Cont.then (fun e s => f6_y.run F (Cont.then (fun e s => f6_r1.run F K e s) K) e s) K)
theorem post_eq (F : Nat) (K : Cont) : (Sim.seq f6_v (Sim.seq f6_y f6_r1)).run F K = f6_post F K := rfl
theorem r2_post (F : Nat) (K : Cont) : f6_r2.run F K = f6_pre.run F (Cont.then (f6_post F K) K) := by rw [f6_r2_run, post_eq]
theorem switch_tail (F : Nat) (hF : 100 < F) {X : Dk} {L : Lg} {lo : List (List Nat × Nat)} (h : Hist X L 400 lo) (hw : X.ws = []) (z y : Bool) {l b : List (List AV)} (hl : okBs l = true) (hlo : bsR l = lo.map (·.1)) (hb : okBs b = true) (he : swE X L (bsR b) = 0) (k t : Int) (o0 o1 o2 o3 o4 : Ob) (K : Cont) :
  ∃ st, f6_post F K (Env.mk 152 [(0, .ns z 1 l), (1, .ns y 1 b), (2, .int .i64 k), (3, .int .i64 t), (13, .ns false 1 (bR X.ls)), (14, .ns false 1 (bR (X.swN L (bsR b)).ls)), (15, .vs 5 0 1 25600)]) ⟨[o0, o1, o2, o3, o4, .vec 0 (bC (X.swN L (bsR b)).ls)], []⟩ = K .ret (Env.mk 152 [(8, .bool true)]) st := by
 obtain ⟨b1, _⟩ := okBs_iff.mp hb
 have hr := rows_lt b1
 obtain ⟨s1, s2, _⟩ := swN_sector h he hr
 have hYok := swN_ok h.ok L hr
 obtain ⟨d1, d2⟩ := done_ok h he hr
 have hmix := fun (M : List Nat) (t : Nat) ht hM => mixed_ok h hw he hr (M := M) (t := t) ht hM (mix_lt hM h.ok.byte hYok.byte)
 have hmlt := fun (M : List Nat) (t : Nat) (hM : Mixed X.ls (X.swN L (bsR b)).ls M t) => mix_lt hM h.ok.byte hYok.byte
 have hil : X.ls.length = 25600 := by rw [h.ok.len, h.sz]
 have hib := h.ok.byte
 have hdb := hYok.byte
 generalize (X.swN L (bsR b)).ls = dn at *
 generalize X.ls = img at *
 show ∃ st, f6_v.run F (Cont.then (fun e s => f6_y.run F (Cont.then (fun e s => f6_r1.run F K e s) K) e s) K) _ _ = _
 have key := swl_v F 25600 o0 o1 o2 o3 o4 (bC dn) z y l b (bR img) (bR dn) k t (Cont.then (fun e s => f6_y.run F (Cont.then (fun e s => f6_r1.run F K e s) K) e s) K)
 cases hc : (bitsI BinOp.and IntKind.i64 k (1 : Int) == (0 : Int)) with
 | false =>
  have h2 : (bitsI BinOp.and IntKind.i64 k (3 : Int) == (2 : Int)) = false := by
   cases hq : (bitsI BinOp.and IntKind.i64 k (3 : Int) == (2 : Int)) with
   | false => rfl
   | true => rw [and_two hq] at hc; cases hc
  rw [branch_not hc] at key
  have ky := swl_y F z y l b (bR dn) (.vs 5 0 1 25600) k t ⟨[o0, o1, o2, o3, o4, .vec 0 (bC dn)], []⟩ (Cont.then (fun e s => f6_r1.run F K e s) K)
  rw [branch_not h2] at ky
  obtain ⟨st, hf⟩ := fin0 F o0 o1 o2 o3 o4 s1 hdb z y l hb k d1 d2 K
  exact ⟨st, key.trans (ky.trans hf)⟩
 | true =>
  have ht1 : (img.take 128).length = 128 := by rw [List.length_take]; omega
  have hb1 : ∀ x ∈ img.take 128, x < 256 := fun x hx => hib x (List.mem_of_mem_take hx)
  have hm0 := mix_start (img := img) (dn := dn) hil s1
  have ecat : catC (opq (bC (nR (bR (List.drop 0 (img.take 128)))))) (mulN (opq (bR (List.drop 0 (img.take 128))).length) 1) (List.drop 128 (List.take (bR dn).length (bR dn))) = bC (img.take 128 ++ dn.drop 128) := by
   rw [catC, opq_eq, opq_eq, opq_eq, mulN, opq_eq, nR_bR, List.drop_zero, bR_length, bR_length, ht1, bR_take, bR_drop, bR_flat, List.take_of_length_le (by rw [bC_length, ht1]; omega), List.take_of_length_le (Nat.le_refl _), bC_append]
  have elen : opq (bR (List.drop 0 (img.take 128))).length + (List.drop 128 (List.take (bR dn).length (bR dn))).length = 25600 := by
   rw [opq_eq, List.drop_zero, bR_length, ht1, List.length_drop, List.length_take, bR_length]; omega
  rw [branch_of hc, if_pos ⟨by omega, by rw [bR_length]; omega⟩, bR_take, bR_drop, branch_of (by
   rw [Bool.and_eq_true, cdec_iff, bR_length, List.drop_zero, ht1]; exact ⟨byOk_bR hb1 (by omega), by omega, by omega⟩), if_pos ⟨by omega, by rw [bR_length]; omega⟩, ecat, elen] at key
  rw [branch_of (by
   rw [Bool.true_and, Bool.and_eq_true, inC_iff, apOk_iff, opq_eq, opq_eq, mulN, opq_eq, nR_bR, bC_length, bR_length, List.drop_zero, ht1]; omega)] at key
  have ky := swl_y F z y l b (bR dn) (.vs 6 1 1 25600) k t ⟨[o0, o1, o2, o3, o4, .vec 0 (bC dn), .vec 1 (bC (img.take 128 ++ dn.drop 128))], []⟩ (Cont.then (fun e s => f6_r1.run F K e s) K)
  have plain : ∃ st, f6_r1.run F K (Env.mk 152 [(0, .ns z 1 l), (1, .ns y 1 b), (2, .int .i64 k), (15, .vs 6 1 1 25600)]) ⟨[o0, o1, o2, o3, o4, .vec 0 (bC dn), .vec 1 (bC (img.take 128 ++ dn.drop 128))], []⟩ = K .ret (Env.mk 152 [(8, .bool true)]) st := by
   obtain ⟨p1, p2⟩ := hmix _ 0 (by omega) hm0
   exact fin1 F o0 o1 o2 o3 o4 _ hm0.1 (hmlt _ 0 hm0) z y hl hb k hc p1 (by rw [hlo]; exact p2) K
  cases h2 : (bitsI BinOp.and IntKind.i64 k (3 : Int) == (2 : Int)) with
  | false =>
   rw [branch_not h2] at ky
   obtain ⟨st, hf⟩ := plain
   exact ⟨st, key.trans (ky.trans hf)⟩
  | true =>
   rw [branch_of h2] at ky
   by_cases ht0 : t ≥ 0
   ·rw [branch_of (decide_eq_true ht0)] at ky
    by_cases ht2 : t < 64
    ·obtain ⟨n, rfl⟩ := Int.eq_ofNat_of_zero_le ht0
     rw [branch_of (decide_eq_true ht2)] at ky
     have hn : n ≤ 64 := by omega
     have hm1 := mix_torn s1 hm0 hn
     obtain ⟨p1, p2⟩ := hmix _ n hn hm1
     obtain ⟨st, hf⟩ := fin1 F o0 o1 o2 o3 o4 (.vec 0 (bC dn)) hm1.1 (hmlt _ n hm1) z y hl hb k hc p1 (by rw [hlo]; exact p2) K
     have kl := swl_both F o0 o1 o2 o3 o4 (.vec 0 (bC dn)) z y l b s1 k n hn hF hm0.1 (Cont.block 2 (Cont.norm [0, 1, 2, 15] (Cont.then (fun e s => f6_r1.run F K e s) K)))
     exact ⟨st, key.trans (ky.trans (kl.trans hf))⟩
    ·rw [branch_not (decide_eq_false ht2)] at ky
     obtain ⟨st, hf⟩ := plain
     exact ⟨st, key.trans (ky.trans hf)⟩
   ·rw [branch_not (decide_eq_false ht0)] at ky
    obtain ⟨st, hf⟩ := plain
    exact ⟨st, key.trans (ky.trans hf)⟩
theorem switch_true (z y : Bool) (l b : List (List AV)) (hl : okBs l = true) (hb : okBs b = true) (k t : Int) : ∃ F st, f6.run F [.ns z 1 l, .ns y 1 b, .int .i64 k, .int .i64 t] ⟨[], []⟩ = some (.ret (.bool true), st) := by
 obtain ⟨F, hF⟩ : ∃ F : Nat, F = 1000000 := ⟨_, rfl⟩
 refine ⟨F, ?_⟩
 have key := swl_run F z y l b k t
 obtain ⟨l1, _⟩ := okBs_iff.mp hl
 obtain ⟨b1, _⟩ := okBs_iff.mp hb
 rw [branch_of (by rw [hl]; rfl)] at key
 by_cases h1 : weighV l (3000 : Int) > (3000 : Int)
 ·rw [branch_of (decide_eq_true h1)] at key; exact ⟨_, key⟩
 ·rw [branch_not (decide_eq_false h1), branch_of (by rw [hb]; rfl)] at key
  by_cases h2 : weighV b (3000 : Int) > (3000 : Int)
  ·rw [branch_of (decide_eq_true h2)] at key; exact ⟨_, key⟩
  ·rw [branch_not (decide_eq_false h2)] at key
   obtain ⟨w1, _⟩ := weigh_len (x := 3000) (by decide) hl h1
   obtain ⟨w2, _⟩ := weigh_len (x := 3000) (by decide) hb h2
   have e0 : newO (400 : Int) = Dk.new 400 [] := newO_eq 400
   have hfr := fresh_hist (n := 400) (by decide) (by decide)
   obtain ⟨hE, _⟩ := new_small (n := 400) (by decide) (by decide)
   obtain ⟨f1, f2, f3', f4⟩ := fmtO_eq (Dk.new 400 [])
   obtain ⟨v0, v1, v2, v3, v4⟩ := lv_eq (fmtL (Dk.new 400 []))
   have hok := new_ok (n := 400) (img := []) (by decide) (by simp)
   have hws : (Dk.new 400 []).ws.length = 0 := rfl
   rw [e0, gD hok (by omega), onSome_some, branch_of (cdec_iff.mpr (by show (Dk.new 400 []).ws.length < _; omega)), f4, hE, branch_of (by rfl), f2, f3', v0, v1, v2, v3, v4] at key
   rcases swl_loop F z y l b l1 (by omega) k t (Cont.block 0 (Cont.then (f6_r2.run F (f6.leaveK Fun.done)) (f6.leaveK Fun.done))) l.length F 0 _ _ [] (by omega) (by omega) hfr rfl with ⟨st, hs⟩ | ⟨X1, L1, lo, q1, q2, q3⟩
   ·exact ⟨st, key.trans hs⟩
   ·have key := key.trans q3
    have q4 := q1.flush
    have hw1 : X1.ws.length < 999999 := by
     have := q1.w; have := q1.p; have := q1.sz; have hh : X1.half = (X1.n - 2) / 2 := rfl; omega
    have key := key.trans (Eq.trans (show _ = f6_r2.run F (f6.leaveK Fun.done) _ _ from rfl) (congrFun (congrFun (r2_post F (f6.leaveK Fun.done)) _) _))
    have key := key.trans (swl_pre F X1 (L1.g : Int) (L1.a : Int) (L1.f : Int) (L1.p : Int) (L1.s : Int) z y l b k t _)
    have hfw : X1.flush.ws = [] := rfl
    have hL := q4.L
    have hsz := q4.sz
    have hp := q4.p
    have hh : X1.flush.half = (X1.flush.n - 2) / 2 := rfl
    have hsok : SOk X1.flush L1 b.length := ⟨by omega, by rw [hL]; exact Nat.zero_lt_succ 1, by rw [hfw]; decide, by rw [hL]; show 1 + totalN lo < _; omega, by rw [hL]; show 1 < _; omega, by omega⟩
    rw [gD q1.ok hw1, onSome_some, lgG_cs, onSome_some, flushO_eq, gD q4.ok (by rw [hfw]; decide), onSome_some, onSome_some, lgG_lv, onSome_some, branch_of (by rw [Bool.and_eq_true, cdec_iff]; exact ⟨hb, hsok⟩)] at key
    obtain ⟨s1, s2, s3⟩ := swO_eq X1.flush L1 (bsR b)
    rw [s1] at key
    by_cases he : swE X1.flush L1 (bsR b) = 0
    ·have hY : X1.flush.swO L1 (bsR b) = X1.flush.swN L1 (bsR b) := by rw [s2, Dk.sw, if_pos he]
     obtain ⟨n1, n2, _⟩ := swN_sector q4 he (rows_lt b1)
     have hYok := swN_ok q4.ok L1 (rows_lt b1)
     rw [he, branch_not (by rfl), hY, gD hYok (by rw [n2]; decide), onSome_some, branch_of (by rw [Bool.and_eq_true, cdec_iff, bR_length, n1]; exact ⟨byOk_bR hYok.byte (by omega), by omega, by omega⟩), opq_eq, opq_eq, nR_bR, bR_length, n1] at key
     obtain ⟨st, hf⟩ := switch_tail F (by omega) q4 hfw z y hl q2 hb he k t (dk0 (X1.flush.swN L1 (bsR b))) (dk1 (X1.flush.swN L1 (bsR b))) (dk2 0 (X1.flush.swN L1 (bsR b))) (dk3 (X1.flush.swN L1 (bsR b))) _ (f6.leaveK Fun.done)
     exact ⟨st, key.trans hf⟩
    ·rw [branch_of (by simp; omega)] at key
     exact ⟨_, key⟩
theorem switch_lawT (as0 as1 as2 as3 : List AV) (s0 : Ty.Shape tyBs as0) (s1 : Ty.Shape tyBs as1) (s2 : Ty.Shape (.int .i64) as2) (s3 : Ty.Shape (.int .i64) as3) : ∃ F st, f6.run F [tyBs.AV' as0, tyBs.AV' as1, (Ty.int .i64).AV' as2, (Ty.int .i64).AV' as3] ⟨[], []⟩ = some (.ret (.bool true), st) := by
 obtain ⟨z, l, rfl, hl⟩ := bs_shape s0
 obtain ⟨y, b, rfl, hb⟩ := bs_shape s1
 obtain ⟨k, rfl, _⟩ := s2
 obtain ⟨t, rfl, _⟩ := s3
 exact switch_true z y l b hl hb k t
end Go.Proofs.Ytnhdjhcpbjggmaa.V
