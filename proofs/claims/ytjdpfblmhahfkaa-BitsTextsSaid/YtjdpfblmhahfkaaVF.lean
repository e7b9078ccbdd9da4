/- Texts and bytes; copies. -/
import Derived.Test.YtjdpfblmhahfkaaVD
import Derived.Laws.IdiomStrings
import Derived.Laws.BytesArg
set_option linter.unusedVariables false
set_option linter.unusedSimpArgs false
namespace Go.V
section
variable {P : Program}

/-- The numbers of rows of one byte each. -/
def numsOf : List (List AV) → Option (List Int)
  | [] => some []
  | r :: l => match r with
    | [.int .u8 n] => match numsOf l with
      | some ns => some (n :: ns)
      | none => none
    | _ => none

theorem numsOf_rows {g : Gh} {w : World} : ∀ {l : List (List AV)} {ns : List Int} {vs : List Value}, numsOf l = some ns → RelAll g w l.flatten vs → vs = ns.map (Value.int .u8) ∧ ns.length = l.length
  | [], ns, vs, h, hr => by
    simp only [numsOf, Option.some.injEq] at h
    subst h
    obtain rfl : vs = [] := hr
    exact ⟨rfl, rfl⟩
  | r :: l, ns, vs, h, hr => by
    unfold numsOf at h
    split at h
    · rename_i n
      split at h
      · rename_i ns' hn
        simp only [Option.some.injEq] at h
        subst h
        obtain ⟨v, vr, rfl, h1, h2⟩ := hr
        obtain rfl : v = .int .u8 n := h1
        obtain ⟨k1, k2⟩ := numsOf_rows hn h2
        exact ⟨by rw [k1]; rfl, by simp [k2]⟩
      · cases h
    · cases h

theorem numsOf_map (bs : List Int) : numsOf (bs.map fun b => [.int .u8 b]) = some bs := by
  induction bs with
  | nil => rfl
  | cons b bs ih => simp [numsOf, ih]

/-- A text out of bytes. -/
def textOf (ns : List Int) : ByteArray := ns.foldl (fun r n => r.push (UInt8.ofNat n.toNat)) ByteArray.empty

def abytes (x : AV) (st : St) (k : AV → Ans) : Ans :=
  match x with
  | .str _ => k .dead
  | x => match rowsA 1 x st with
    | some l => match numsOf l with
      | some ns => k (.str (textOf ns))
      | none => none
    | none => none

def opBytesStr (dst : Option Tmp) (S T : TypeId) (x : Operand) (e : TypeId) (hS : P.underlying S = some (.slice e)) (he : P.underlying e = some (.int .u8)) (hT : P.underlying T = some .string) (ty : TypeId) (pos : String) (after : Array Edge) : QSim P :=
  QSim.quiet (mkOp dst (.convert S T x) ty pos after) rfl [x] (fun ev st k => match ev x with | .str _ => none | _ => abytes (ev x) st k) (fun ev ev' st k h => by simp only [h x (by simp)]) fun ev st k fin h g w a hev hs => by
    have hv := hev x (by simp)
    have hns : ∀ s, ev x ≠ .str s := by intro s hb; rw [hb] at h; cases h
    have h' : abytes (ev x) st k = some fin := by
      revert h
      cases hx : ev x <;> simp only [imp_self]
      rename_i s; exact absurd hx (hns s)
    clear h
    have h := h'
    unfold abytes at h
    split at h
    · rename_i s hb; exact absurd hb (hns s)
    · split at h
      · rename_i l hl
        split at h
        · rename_i ns hn
          obtain ⟨vs, r1, r2, r3, r4, r5, r6⟩ := rowsA_run (P := P) hs hv hl
          obtain ⟨rfl, hlen⟩ := numsOf_rows hn r1
          have hsl : (a.eval x = .slice none 0 0 ∧ l = []) ∨ ∃ p n c, a.eval x = .slice (some p) n c := by
            unfold rowsA at hl
            revert hv
            cases hx : ev x <;> rw [hx] at hl <;> simp at hl <;> intro hv
            · rename_i s; exact absurd hx (hns s)
            · exact .inl ⟨hv, hl⟩
            · obtain ⟨_, _, _, _, hv, _⟩ := hv; exact .inr ⟨_, _, _, hv⟩
            · obtain ⟨_, _, _, _, _, hv, _⟩ := hv; exact .inr ⟨_, _, _, hv⟩
            · obtain ⟨_, _, hv, _⟩ := hv; exact .inr ⟨_, _, _, hv⟩
          refine ⟨_, .string (textOf ns), h, ?_, rfl⟩
          simp only [execOp, mkOp]
          rcases hsl with ⟨hx, rfl⟩ | ⟨p, n, c, hx⟩
          · have h0 : ns = [] := List.eq_nil_of_length_eq_zero (by simpa using hlen)
            subst h0
            rw [Sem.run_bind, hx, run_convert_bytes_string w S T e none 0 0 hS he hT]
            simp [Conv.bytesToString, textOf]
          · have hn' : n = l.length := by
              have := r5 w
              rw [hx] at this
              simp [Builtin.lenOf] at this
              exact this
            rw [Sem.run_bind, hx, run_convert_bytes_string w S T e (some p) n c hS he hT]
            have h3 := r6 w rfl
            rw [hx] at h3
            simp only [Builtin.firstCells, Nat.mul_one] at h3
            rw [run_bytesToString w p n c ns (by rw [hn']; exact h3)]
            rfl
        · cases h
      · cases h

/-- The bytes of a text, as rows. -/
def rowsOfStr (s : ByteArray) : List (List AV) := s.data.toList.map fun c => [.int .u8 c.toNat]

def opStrBytes (dst : Option Tmp) (S T : TypeId) (x : Operand) (e : TypeId) (hS : P.underlying S = some .string) (hT : P.underlying T = some (.slice e)) (he : P.underlying e = some (.int .u8)) (ty : TypeId) (pos : String) (after : Array Edge) : PSim P where
  oper := mkOp dst (.convert S T x) ty pos after
  plain := rfl
  xs := [x]
  f ev k := match ev x with
    | .str s => k (.sl 1 false (rowsOfStr s))
    | _ => none
  congr ev ev' k h := by simp only [h x (by simp)]
  sound ev k fin h g w a st hev hs := by
    have hv := hev x (by simp)
    split at h
    · rename_i s hb
      rw [hb] at hv
      have hv : a.eval x = .string s := hv
      refine ⟨_, h, ?_⟩
      generalize hcap : grownCap w s.size 0 e = cap
      have hge : s.size ≤ cap := by rw [← hcap]; exact grownCap_ge w s.size 0 e
      have hp := Push.drew w (.cells (bytesRow s cap) e ((bytesRow s cap).size, (bytesRow s cap).size + 1))
      have hE : Ev g w ⟨g.use w.heap.size .solid, g.objs, g.tk⟩ (w.drew.alloc (.cells (bytesRow s cap) e ((bytesRow s cap).size, (bytesRow s cap).size + 1))) := by simpa using Ev.push hp .solid [] g.tk (tk_refl _)
      have hlen : (rowsOfStr s).length = s.size := by simp [rowsOfStr]
      refine told_value (g' := ⟨g.use w.heap.size .solid, g.objs, g.tk⟩) (w' := w.drew.alloc (.cells (bytesRow s cap) e ((bytesRow s cap).size, (bytesRow s cap).size + 1))) (v := .slice (some ⟨w.heap.size, 0, none⟩) s.size cap) ?_ ⟨w.heap.size, 0, none, cap, by rw [hlen], by rw [hlen]; exact hge, (fun h => by cases h), .inl rfl, ?_⟩ ?_ hE
      · simp only [execOp, mkOp]
        rw [Sem.run_bind, hv, run_bytes_of_string w S T e s hS hT he, hcap]
        rfl
      · refine RelRows.of 1 (rowsOfStr s) (s.data.toList.map fun b => Value.int .u8 b.toNat) _ _ ?_ ?_ fun j v hj => ?_
        · intro r hr
          simp only [rowsOfStr, List.mem_map] at hr
          obtain ⟨b, _, rfl⟩ := hr; rfl
        · exact flat_bytes _
        · have hlt := getElem?_lt hj
          have hcell : (bytesRow s cap)[j]? = some v := by
            unfold bytesRow
            rw [Array.getElem?_append_left (by simpa using hlt), ← hj]
            simp
          refine ⟨?_, ?_, ?_⟩
          · rw [Nat.zero_add, cell_of hp.new]; exact hcell
          · simp [Gh.prot, Gh.use]
          · simp only [List.getElem?_map, Option.map_eq_some_iff] at hj
            obtain ⟨b, _, rfl⟩ := hj; rfl
      · have := hs.push hp .solid g.tk (tk_refl _) trivial
        rw [hs.tk] at this ⊢; exact this
    · cases h
end
end Go.V
