/- Callees whose answer bears no memory: shown at the empty state alone. -/
import Derived.Test.YtjdpfblmhahfkaaVC
set_option linter.unusedVariables false
set_option linter.unusedSimpArgs false
namespace Go.V
section
variable {P : Program}

mutual
theorem Rel.toZero {g : Gh} {w : World} : ∀ (a : AV) (v : Value), Scoped 0 0 a → Rel g w a v → Rel g0 w a v
  | .bool _, _, _, r => r
  | .int _ _, _, _, r => r
  | .str _, _, _, r => r
  | .nilptr, _, _, r => r
  | .nilsl, _, _, r => r
  | .nilmap, _, _, r => r
  | .nilfn, _, _, r => r
  | .nilif, _, _, r => r
  | .ptr k off, _, s, _ => absurd s (Nat.not_lt_zero _)
  | .eptr cs, _, s, ⟨b, off, r1, r2⟩ => ⟨b, off, r1, RelCells.toZero cs b off s r2⟩
  | .sl sz full l, _, s, ⟨b, off, sp, cap, r1, r2, r3, rs, r4⟩ => ⟨b, off, sp, cap, r1, r2, r3, rs, RelRows.toZero sz l b off s r4⟩
  | .lg t sz l, _, ⟨s, _⟩, _ => absurd s (Nat.not_lt_zero _)
  | .ms k sz off n cap, _, s, _ => absurd s (Nat.not_lt_zero _)
  | .mp k, _, s, _ => absurd s (Nat.not_lt_zero _)
  | .fn f a c, _, ⟨s1, s2⟩, ⟨va, vc, r1, r2, r3⟩ => ⟨va, vc, r1, RelAll.toZero a va.toList s1 r2, RelAll.toZero c vc.toList s2 r3⟩
  | .ifc t a, _, s, ⟨u, r1, r2⟩ => ⟨u, r1, Rel.toZero a u s r2⟩
  | .agg cs, _, s, ⟨vs, r1, r2, r3⟩ => ⟨vs, r1, RelAll.toZero cs vs.toList s r2, r3⟩
  | .tup cs, _, s, ⟨vs, r1, r2⟩ => ⟨vs, r1, RelAll.toZero cs vs.toList s r2⟩
  | .dead, _, _, _ => trivial
theorem RelAll.toZero {g : Gh} {w : World} : ∀ (as : List AV) (vs : List Value), ScopedL 0 0 as → RelAll g w as vs → RelAll g0 w as vs
  | [], _, _, r => r
  | a :: as, _, ⟨s1, s2⟩, ⟨v, vr, r1, r2, r3⟩ => ⟨v, vr, r1, Rel.toZero a v s1 r2, RelAll.toZero as vr s2 r3⟩
theorem RelCells.toZero {g : Gh} {w : World} : ∀ (as : List AV) (b off : Nat), ScopedL 0 0 as → RelCells g w as b off → RelCells g0 w as b off
  | [], _, _, _, _ => trivial
  | a :: as, b, off, ⟨s1, s2⟩, ⟨⟨u, r1, r2, r5, r3⟩, r4⟩ => ⟨⟨u, r1, trivial, r5, Rel.toZero a u s1 r3⟩, RelCells.toZero as b (off + 1) s2 r4⟩
theorem RelRows.toZero {g : Gh} {w : World} (sz : Nat) : ∀ (l : List (List AV)) (b off : Nat), ScopedR 0 0 l → RelRows g w sz l b off → RelRows g0 w sz l b off
  | [], _, _, _, _ => trivial
  | x :: l, b, off, ⟨s1, s2⟩, ⟨r1, r2, r3⟩ => ⟨r1, RelCells.toZero x b off s1 r2, RelRows.toZero sz l b (off + sz) s2 r3⟩
end

/-- A value without memory. -/
def Flat : AV → Prop
  | .bool _ => True
  | .int _ _ => True
  | .str _ => True
  | .nilptr => True
  | .nilsl => True
  | .nilmap => True
  | .nilfn => True
  | .nilif => True
  | _ => False
theorem Flat.any {a : AV} (h : Flat a) {g g' : Gh} {w w' : World} {v : Value} (r : Rel g w a v) : Rel g' w' a v := by
  cases a <;> first | exact r | exact h.elim

theorem sealed {id : FuncId} {args : List AV} {r : AV} {st' : St} (h : CallsTo P id args ⟨[], []⟩ (.ret r, st')) (hs : ScopedL 0 0 args) (hr : Flat r) (st : St) : CallsTo P id args st (.ret r, st) := by
  intro g w vals hv hst
  refine (h g0 w vals (RelAll.toZero args vals.toList hs hv) (StRel.zero w)).mono fun e w' ⟨g', h1, h2, h3⟩ => ?_
  obtain ⟨v, rfl, hv'⟩ := h1
  have hb := h3.below
  have hE : Ev g w ⟨fun b => if b < w.heap.size then g.kind b else .solid, g.objs, g.tk⟩ w' := by
    refine ⟨hb.os, hb.tape, hb.output, hb.size, fun b hb' hk => ⟨by simp only; rw [if_pos hb']; exact hk, hb.block b hb'⟩, fun b t hb' hk => ⟨by simp only; rw [if_pos hb']; exact hk, fun C E fz hC => ⟨C, by rw [hb.block b hb']; exact hC, rfl, fun _ _ => rfl⟩⟩, fun b k hb' hk => .inl (by simp only; rw [if_pos hb']; exact hk), fun _ _ h => h, tk_refl _⟩
  refine ⟨⟨fun b => if b < w.heap.size then g.kind b else .solid, g.objs, g.tk⟩, ⟨v, rfl, hr.any hv'⟩, ⟨hst.tk, hst.len, fun k b o hk ho => ?_, fun b k hb' hk => ?_, fun b t hb' hk => ?_⟩, hE⟩
  · obtain ⟨p1, p2⟩ := hst.obj k b o hk ho
    exact ⟨Nat.lt_of_lt_of_le p1 hb.size, p2.keep hE (hb.block b p1) (by simp only; rw [if_pos p1])⟩
  · simp only at hk
    split at hk
    · rename_i hlt; exact hst.back b k hlt hk
    · cases hk
  · simp only at hk
    split at hk
    · rename_i hlt; exact hst.rowlt b t hlt hk
    · cases hk

/-- A function whose answer bears no memory, shown at the empty state. -/
def Fun.flatIf {α : Type} (f : Fun P) (dec : List AV → Option α) (enc : α → List AV) (hde : ∀ l a, dec l = some a → l = enc a) (pre : α → Bool) (g : α → AV)
    (hs : ∀ a, ScopedL 0 0 (enc a)) (hg : ∀ a, Flat (g a)) (hrun : ∀ a, pre a = true → ∃ F st', f.run F (enc a) ⟨[], []⟩ = some (.ret (g a), st')) : POrc P where
  id := f.id
  fn := f.fn
  hf := f.hf
  hname := f.hname
  hb := by rw [f.hbody]; rfl
  F args k := match dec args with
    | some a => match pre a with
      | true => k (g a)
      | false => none
    | none => none
  sound k args fin h := by
    split at h
    · rename_i a hd
      split at h
      · rename_i hp
        obtain ⟨F, st', hF⟩ := hrun a hp
        rw [← hde args a hd] at hF
        exact ⟨g a, h, fun st => sealed (f.sound hF) (by rw [hde args a hd]; exact hs a) (hg a) st⟩
      · cases h
    · cases h
end
end Go.V
