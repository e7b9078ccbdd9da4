/- Merged out of 26 texts: what the claim's code comes to, and why. -/
import Derived.Test.YtjdpfblmhahfkaaX2
/- Bits: the number that stands next. -/
set_option linter.unusedVariables false
namespace Go.Proofs.Ytjdpfblmhahfkaa.V
open Go Go.V Go.RowKit

/-- The number that stands next, and how many bytes it has; i: the place, u: what has been read. -/
def digF : Nat → Nat → List Int → Nat × Nat
  | _, _, [] => (0, 0)
  | i, u, c :: r => if i = 9 ∧ c.toNat % 128 > 1 then (0, 0) else
    if c.toNat < 128 then (if c.toNat % 128 = 0 ∧ i > 0 then (0, 0) else (u + c.toNat % 128 * 2 ^ (7 * i), i + 1))
    else digF (i + 1) (u + c.toNat % 128 * 2 ^ (7 * i)) r
def okB (bs : List Int) : Bool := bs.all fun b => decide (0 ≤ b) && decide (b < 256)
theorem okB_at {bs : List Int} (h : okB bs = true) {i : Nat} (hi : i < bs.length) : ∃ c : Nat, bs[i] = (c : Int) ∧ c < 256 := by
  have := List.all_eq_true.mp h bs[i] (List.getElem_mem hi)
  simp only [Bool.and_eq_true, decide_eq_true_eq] at this
  exact ⟨bs[i].toNat, by omega, by omega⟩

theorem dig_or {i u d : Nat} (hi : i ≤ 9) (hu : u < 2 ^ (7 * i)) (hd : d < 128) (h9 : ¬ (i = 9 ∧ d > 1)) :
    bitsI .or .u64 (u : Int) (IntKind.u64.wrap (IntKind.u64.wrap (d : Int) * 2 ^ min (IntKind.i64.wrap (7 * (i : Int))).toNat 64)) = ((u + d * 2 ^ (7 * i) : Nat) : Int) ∧ u + d * 2 ^ (7 * i) < 2 ^ 64 ∧ u + d * 2 ^ (7 * i) < 2 ^ (7 * (i + 1)) := by
  have e1 : (IntKind.i64.wrap (7 * (i : Int))).toNat = 7 * i := by rw [wrapS (by omega) (by omega)]; omega
  have e2 : min (7 * i) 64 = 7 * i := by omega
  have hP : 2 ^ (7 * i) ≤ 2 ^ 63 := Nat.pow_le_pow_right (by omega) (by omega)
  have hdP : u + d * 2 ^ (7 * i) < 2 ^ 64 := by
    by_cases h : i = 9
    · have : d ≤ 1 := by omega
      have : d * 2 ^ (7 * i) ≤ 1 * 2 ^ (7 * i) := Nat.mul_le_mul_right _ this
      omega
    · have hQ : 2 ^ (7 * i) ≤ 2 ^ 56 := Nat.pow_le_pow_right (by omega) (by omega)
      have : d * 2 ^ (7 * i) ≤ 127 * 2 ^ (7 * i) := Nat.mul_le_mul_right _ (by omega)
      omega
  have hdP' : u + d * 2 ^ (7 * i) < 2 ^ (7 * (i + 1)) := by
    have : d * 2 ^ (7 * i) ≤ 127 * 2 ^ (7 * i) := Nat.mul_le_mul_right _ (by omega)
    rw [show 7 * (i + 1) = 7 * i + 7 by omega, Nat.pow_add]
    omega
  refine ⟨?_, hdP, hdP'⟩
  rw [e1, e2, wrapU64 (by omega), show (d : Int) * 2 ^ (7 * i) = ((d * 2 ^ (7 * i) : Nat) : Int) by rw [Int.natCast_mul, Int.natCast_pow]; rfl, wrapU64 (by omega), bitsOr rfl (by simp only [IntKind.bits]; omega) (by simp only [IntKind.bits]; omega), or_above hu]

theorem dig_loop (F : Nat) (f : Bool) (st : St) (cs : List Int) (hc : cs.length ≤ 10) (hok : okB cs = true) : ∀ (k i u n : Nat), i + k = cs.length → k < n → u < 2 ^ (7 * i) →
    loopRun (f33_l0.run F) [4, 12, 13, 14] (Cont.block 0 (Cont.then (f33_r0.run F (f33.leaveK Fun.done)) (f33.leaveK Fun.done))) n (Env.mk 46 [(4, .int .u64 u), (12, .sl 1 f (ri cs)), (13, .int .i64 (ri cs).length), (14, .int .i64 i)]) st
      = some (.ret (.tup [.int .u64 ((digF i u (cs.drop i)).1 : Int), .int .i64 ((digF i u (cs.drop i)).2 : Int)]), st)
  | 0, i, u, n + 1, hi, hk, hu => by
    rw [show n + 1 = n.succ from rfl, digits_end _ _ _ _ _ _ _ _ (by simp [ri]; omega), digits_out, List.drop_eq_nil_of_le (by omega)]
    rfl
  | k + 1, i, u, n + 1, hi, hk, hu => by
    have hi1 : i < cs.length := by omega
    obtain ⟨c, hc1, hc2⟩ := okB_at hok hi1
    have hel : elemAt (ri cs) (i : Int) = some [.int .u8 (c : Int)] := by rw [← hc1]; exact elemAt_nat _ _ _ hi1
    have hd : IntKind.u64.wrap (bitsI .andNot .u8 (c : Int) 128) = ((c % 128 : Nat) : Int) := by rw [andNot128 hc2]; exact wrapU64 (by omega)
    have ih := dig_loop F f st cs hc hok k (i + 1) (u + c % 128 * 2 ^ (7 * i)) n (by omega) (by omega)
    rw [show n + 1 = n.succ from rfl, digits_round F n _ u i c f (ri cs) st hel, branch_of (by simp [ri]; omega), hd, List.drop_eq_getElem_cons hi1, hc1]
    simp only [digF, Int.toNat_natCast]
    by_cases h9 : i = 9 ∧ c % 128 > 1
    · rw [if_pos h9, branch_of (by simp; omega), branch_of (by simp; omega), digits_ret]
      rfl
    · obtain ⟨o1, o2, o3⟩ := dig_or (d := c % 128) (by omega) hu (by omega) h9
      have hrest : (if 0 ≤ IntKind.i64.wrap (7 * (i : Int)) then
          branch (.bool (decide ((c : Int) < 128)))
            (branch (.bool (((c % 128 : Nat) : Int) == 0))
              (branch (.bool (decide ((i : Int) > 0)))
                ((Cont.block 0 (Cont.then (f33_r0.run F (f33.leaveK Fun.done)) (f33.leaveK Fun.done))) .ret (Env.mk 46 [(2, .int .u64 0), (3, .int .i64 0)]) st)
                ((Cont.block 0 (Cont.then (f33_r0.run F (f33.leaveK Fun.done)) (f33.leaveK Fun.done))) .ret (Env.mk 46 [(2, .int .u64 (bitsI .or .u64 (u : Int) (IntKind.u64.wrap (((c % 128 : Nat) : Int) * 2 ^ min (IntKind.i64.wrap (7 * (i : Int))).toNat 64)))), (3, .int .i64 (IntKind.i64.wrap ((i : Int) + 1)))]) st))
              ((Cont.block 0 (Cont.then (f33_r0.run F (f33.leaveK Fun.done)) (f33.leaveK Fun.done))) .ret (Env.mk 46 [(2, .int .u64 (bitsI .or .u64 (u : Int) (IntKind.u64.wrap (((c % 128 : Nat) : Int) * 2 ^ min (IntKind.i64.wrap (7 * (i : Int))).toNat 64)))), (3, .int .i64 (IntKind.i64.wrap ((i : Int) + 1)))]) st))
            (loopRun (f33_l0.run F) [4, 12, 13, 14] (Cont.block 0 (Cont.then (f33_r0.run F (f33.leaveK Fun.done)) (f33.leaveK Fun.done))) n (Env.mk 46 [(4, .int .u64 (bitsI .or .u64 (u : Int) (IntKind.u64.wrap (((c % 128 : Nat) : Int) * 2 ^ min (IntKind.i64.wrap (7 * (i : Int))).toNat 64)))), (12, .sl 1 f (ri cs)), (13, .int .i64 (ri cs).length), (14, .int .i64 (IntKind.i64.wrap ((i : Int) + 1)))]) st)
          else none) = some (.ret (.tup [.int .u64 ((if c < 128 then (if c % 128 = 0 ∧ i > 0 then (0, 0) else (u + c % 128 * 2 ^ (7 * i), i + 1)) else digF (i + 1) (u + c % 128 * 2 ^ (7 * i)) (cs.drop (i + 1))).1 : Int), .int .i64 ((if c < 128 then (if c % 128 = 0 ∧ i > 0 then (0, 0) else (u + c % 128 * 2 ^ (7 * i), i + 1)) else digF (i + 1) (u + c % 128 * 2 ^ (7 * i)) (cs.drop (i + 1))).2 : Int)]), st) := by
        rw [wrapU64 (n := c % 128) (by omega)] at o1
        rw [if_pos (by rw [wrapS (by omega) (by omega)]; omega), o1, wrapS (by omega) (by omega), show ((i : Int) + 1) = ((i + 1 : Nat) : Int) by omega]
        by_cases h1 : c < 128
        · rw [branch_of (by simp; omega), if_pos h1]
          by_cases h2 : c % 128 = 0
          · rw [branch_of (by simp; omega)]
            by_cases h3 : i > 0
            · rw [branch_of (by simp; omega), if_pos ⟨h2, h3⟩, digits_ret]; rfl
            · rw [branch_not (by simp; omega), if_neg (by omega), digits_ret]
          · rw [branch_not (by simp; omega), if_neg (by omega), digits_ret]
        · rw [branch_not (by simp; omega), if_neg h1, ih o3]
      rw [if_neg h9]
      by_cases h : i = 9
      · rw [branch_of (by simp; omega), branch_not (by simp; omega)]
        exact hrest
      · rw [branch_not (by simp; omega)]
        exact hrest
end Go.Proofs.Ytjdpfblmhahfkaa.V

/- Bits: digits as a callee. -/
set_option linter.unusedVariables false
namespace Go.Proofs.Ytjdpfblmhahfkaa.V
open Go Go.V Go.RowKit

def digB (bs : List Int) : Nat × Nat := digF 0 0 (bs.take 10)
theorem okB_take {bs : List Int} (h : okB bs = true) (n : Nat) : okB (bs.take n) = true :=
  List.all_eq_true.mpr fun x hx => List.all_eq_true.mp h x (List.mem_of_mem_take hx)
theorem digits_spec (f : Bool) (bs : List Int) (hs : bs.length < 140737488355328) (hok : okB bs = true) (st : St) :
    f33.run 11 [.sl 1 f (ri bs)] st = some (.ret (.tup [.int .u64 ((digB bs).1 : Int), .int .i64 ((digB bs).2 : Int)]), st) := by
  have hl : (ri bs).length = bs.length := by simp [ri]
  have hmin : (leastI false ((ri bs).length : Int) 10).toNat = min 10 bs.length := by
    simp only [leastI]; rw [hl]; split <;> omega
  have ht : List.drop 0 (List.take (leastI false ((ri bs).length : Int) 10).toNat (ri bs)) = ri (bs.take 10) := by
    rw [hmin, List.drop_zero]
    simp only [ri, ← List.map_take]
    congr 1
    rw [List.take_eq_take_iff]
    omega
  have hle : (0 : Int) ≤ leastI false ((ri bs).length : Int) 10 ∧ leastI false ((ri bs).length : Int) 10 ≤ ((ri bs).length : Int) := by
    simp only [leastI]; split <;> omega
  rw [digits_run, if_pos hle, ht]
  exact dig_loop 11 _ st (bs.take 10) (by simp; omega) (okB_take hok 10) (bs.take 10).length 0 0 11 (by omega) (by simp; omega) (by decide)

noncomputable def p33 : POrc Try.prog := (f33.pureIf dec1b (fun a => [a.av]) dec1b_enc (fun a => small a && okB a.list) (fun a => .tup [.int .u64 ((digB a.list).1 : Int), .int .i64 ((digB a.list).2 : Int)]) (fun a _ => ⟨rfl, fun _ _ => ⟨trivial, trivial, trivial⟩⟩) fun a h => ⟨11, fun st => by
  cases a with
  | nil => exact digits_nil 10 st
  | sl f bs =>
    simp only [Bool.and_eq_true] at h
    exact digits_spec f bs (small_sl h.1) h.2 st⟩).fz
end Go.Proofs.Ytjdpfblmhahfkaa.V

/- Callees whose answer bears no memory: shown at the empty state alone. -/
set_option linter.unusedVariables false
set_option linter.unusedSimpArgs false
namespace Go.V
section
variable {P : Program}

mutual
theorem Rel.toZero {g : Gh} {w : World} : ∀ (a : AV) (v : Value), Scoped 0 0 a → Rel g w a v → Rel g0 w a v
  | .bool _, _, _, r => r
  | .int _ _, _, _, r => r
  | .str _, _, _, r => r
  | .nilptr, _, _, r => r
  | .nilsl, _, _, r => r
  | .nilmap, _, _, r => r
  | .nilfn, _, _, r => r
  | .nilif, _, _, r => r
  | .ptr k off, _, s, _ => absurd s (Nat.not_lt_zero _)
  | .eptr cs, _, s, ⟨b, off, r1, r2⟩ => ⟨b, off, r1, RelCells.toZero cs b off s r2⟩
  | .sl sz full l, _, s, ⟨b, off, sp, cap, r1, r2, r3, rs, r4⟩ => ⟨b, off, sp, cap, r1, r2, r3, rs, RelRows.toZero sz l b off s r4⟩
  | .lg t sz l, _, ⟨s, _⟩, _ => absurd s (Nat.not_lt_zero _)
  | .ms k sz off n cap, _, s, _ => absurd s (Nat.not_lt_zero _)
  | .mp k, _, s, _ => absurd s (Nat.not_lt_zero _)
  | .fn f a c, _, ⟨s1, s2⟩, ⟨va, vc, r1, r2, r3⟩ => ⟨va, vc, r1, RelAll.toZero a va.toList s1 r2, RelAll.toZero c vc.toList s2 r3⟩
  | .ifc t a, _, s, ⟨u, r1, r2⟩ => ⟨u, r1, Rel.toZero a u s r2⟩
  | .agg cs, _, s, ⟨vs, r1, r2, r3⟩ => ⟨vs, r1, RelAll.toZero cs vs.toList s r2, r3⟩
  | .tup cs, _, s, ⟨vs, r1, r2⟩ => ⟨vs, r1, RelAll.toZero cs vs.toList s r2⟩
  | .dead, _, _, _ => trivial
theorem RelAll.toZero {g : Gh} {w : World} : ∀ (ays : List AV) (vs : List Value), ScopedL 0 0 ays → RelAll g w ays vs → RelAll g0 w ays vs
  | [], _, _, r => r
  | a :: ays, _, ⟨s1, s2⟩, ⟨v, vr, r1, r2, r3⟩ => ⟨v, vr, r1, Rel.toZero a v s1 r2, RelAll.toZero ays vr s2 r3⟩
theorem RelCells.toZero {g : Gh} {w : World} : ∀ (ays : List AV) (b off : Nat), ScopedL 0 0 ays → RelCells g w ays b off → RelCells g0 w ays b off
  | [], _, _, _, _ => trivial
  | a :: ays, b, off, ⟨s1, s2⟩, ⟨⟨u, r1, r2, r5, r3⟩, r4⟩ => ⟨⟨u, r1, trivial, r5, Rel.toZero a u s1 r3⟩, RelCells.toZero ays b (off + 1) s2 r4⟩
theorem RelRows.toZero {g : Gh} {w : World} (sz : Nat) : ∀ (l : List (List AV)) (b off : Nat), ScopedR 0 0 l → RelRows g w sz l b off → RelRows g0 w sz l b off
  | [], _, _, _, _ => trivial
  | x :: l, b, off, ⟨s1, s2⟩, ⟨r1, r2, r3⟩ => ⟨r1, RelCells.toZero x b off s1 r2, RelRows.toZero sz l b (off + sz) s2 r3⟩
end

/-- A value without memory. -/
def Flat : AV → Prop
  | .bool _ => True
  | .int _ _ => True
  | .str _ => True
  | .nilptr => True
  | .nilsl => True
  | .nilmap => True
  | .nilfn => True
  | .nilif => True
  | _ => False
theorem Flat.any {a : AV} (h : Flat a) {g g' : Gh} {w w' : World} {v : Value} (r : Rel g w a v) : Rel g' w' a v := by
  cases a <;> first | exact r | exact h.elim

theorem sealed {id : FuncId} {args : List AV} {r : AV} {st' : St} (h : CallsTo P id args ⟨[], []⟩ (.ret r, st')) (hs : ScopedL 0 0 args) (hr : Flat r) (st : St) : CallsTo P id args st (.ret r, st) := by
  intro g w vals hv hst
  refine (h g0 w vals (RelAll.toZero args vals.toList hs hv) (StRel.zero w)).mono fun e w' ⟨g', h1, h2, h3⟩ => ?_
  obtain ⟨v, rfl, hv'⟩ := h1
  have hb := h3.below
  have hE : Ev g w ⟨fun b => if b < w.heap.size then g.kind b else .solid, g.objs, g.tk⟩ w' := by
    refine ⟨hb.os, hb.tape, hb.output, hb.size, fun b hb' hk => ⟨by simp only; rw [if_pos hb']; exact hk, hb.block b hb'⟩, fun b t hb' hk => ⟨by simp only; rw [if_pos hb']; exact hk, fun C E fz hC => ⟨C, by rw [hb.block b hb']; exact hC, rfl, fun _ _ => rfl⟩⟩, fun b k hb' hk => .inl (by simp only; rw [if_pos hb']; exact hk), fun _ _ h => h, tk_refl _⟩
  refine ⟨⟨fun b => if b < w.heap.size then g.kind b else .solid, g.objs, g.tk⟩, ⟨v, rfl, hr.any hv'⟩, ⟨hst.tk, hst.len, fun k b o hk ho => ?_, fun b k hb' hk => ?_, fun b t hb' hk => ?_⟩, hE⟩
  · obtain ⟨p1, p2⟩ := hst.obj k b o hk ho
    exact ⟨Nat.lt_of_lt_of_le p1 hb.size, p2.keep hE (hb.block b p1) (by simp only; rw [if_pos p1])⟩
  · simp only at hk
    split at hk
    · rename_i hlt; exact hst.back b k hlt hk
    · cases hk
  · simp only at hk
    split at hk
    · rename_i hlt; exact hst.rowlt b t hlt hk
    · cases hk

/-- A function whose answer bears no memory, shown at the empty state. -/
def Fun.flatIf {α : Type} (f : Fun P) (dec : List AV → Option α) (enc : α → List AV) (hde : ∀ l a, dec l = some a → l = enc a) (pre : α → Bool) (g : α → AV)
    (hs : ∀ a, ScopedL 0 0 (enc a)) (hg : ∀ a, Flat (g a)) (hrun : ∀ a, pre a = true → ∃ F st', f.run F (enc a) ⟨[], []⟩ = some (.ret (g a), st')) : POrc P where
  id := f.id
  fn := f.fn
  hf := f.hf
  hname := f.hname
  hb := by rw [f.hbody]; rfl
  F args k := match dec args with
    | some a => match pre a with
      | true => k (g a)
      | false => none
    | none => none
  sound k args fin h := by
    split at h
    · rename_i a hd
      split at h
      · rename_i hp
        obtain ⟨F, st', hF⟩ := hrun a hp
        rw [← hde args a hd] at hF
        exact ⟨g a, h, fun st => sealed (f.sound hF) (by rw [hde args a hd]; exact hs a) (hg a) st⟩
      · cases h
    · cases h
end
end Go.V

/- Callees told again: arguments and answers that are read no deeper than they must; rows of bytes. -/
set_option linter.unusedVariables false
set_option linter.unusedSimpArgs false
namespace Go.V
section
variable {P : Program}

/-- A test that the core never runs (great numbers beside unknown ones would take it forever). -/
noncomputable def cdec (p : Prop) : Bool := @decide p (Classical.propDecidable p)
theorem cdec_iff {p : Prop} : cdec p = true ↔ p := by simp [cdec]

/-- A callee known by another, its arguments read anew. -/
def POrc.re {α : Type} (p : POrc P) (dec : List AV → Option α) (pre : α → Bool) (g : α → AV)
    (h : ∀ args a, dec args = some a → pre a = true → ∀ k, p.F args k = k (g a)) : POrc P where
  id := p.id
  fn := p.fn
  hf := p.hf
  hname := p.hname
  hb := p.hb
  F args k := match dec args with
    | some a => match pre a with
      | true => k (g a)
      | false => none
    | none => none
  sound k args fin h' := by
    split at h'
    · rename_i a hd
      split at h'
      · rename_i hp
        exact p.sound k args fin (by rw [h args a hd hp]; exact h')
      · cases h'
    · cases h'

theorem POrc.re_nat {α : Type} {p : POrc P} {dec : List AV → Option α} {pre : α → Bool} {g : α → AV} {h} : (p.re dec pre g h).Nat := by
  intro args k
  simp only [POrc.re]
  cases dec args with
  | none => rfl
  | some a => simp only []; cases pre a <;> rfl
theorem POrc.fz_nat {p : POrc P} (h : p.Nat) : p.fz.Nat := fun args k => h _ k
theorem pureIf_nat {α : Type} {f : Fun P} {dec : List AV → Option α} {enc : α → List AV} {hde} {pre : α → Bool} {g : α → AV} {hs} {hr} : (Fun.pureIf f dec enc hde pre g hs hr).Nat := by
  intro args k
  simp only [Fun.pureIf]
  cases dec args with
  | none => rfl
  | some a => simp only []; cases pre a <;> rfl
theorem pureIfX_nat {α : Type} {f : Fun P} {dec : List AV → Option α} {enc : α → List AV} {hde} {pre : α → Bool} {g : α → AV} {hs} {hr} : (Fun.pureIfX f dec enc hde pre g hs hr).Nat := by
  intro args k
  simp only [Fun.pureIfX]
  cases dec args with
  | none => rfl
  | some a => simp only []; cases pre a <;> rfl
theorem effIf_nat {α : Type} {f : Fun P} {dec : List AV → Option α} {enc : α → List AV} {hde} {pre : α → St → Bool} {g : α → St → AV × St} {hr} : (Fun.effIf f dec enc hde pre g hr).NatS := by
  intro args st k
  simp only [Fun.effIf]
  cases dec args with
  | none => rfl
  | some a => simp only []; cases pre a st <;> rfl
theorem pureIf_fz {α : Type} {f : Fun P} {dec : List AV → Option α} {enc : α → List AV} {hde} {pre : α → Bool} {g : α → AV} {hs} {hr} {args : List AV} {a : α} (hd : dec (args.map frz) = some a) (hp : pre a = true) (k : AV → Ans) :
    (Fun.pureIf f dec enc hde pre g hs hr).fz.F args k = k (g a) := by
  simp only [POrc.fz, Fun.pureIf, hd, hp]
theorem pureIfX_fz {α : Type} {f : Fun P} {dec : List AV → Option α} {enc : α → List AV} {hde} {pre : α → Bool} {g : α → AV} {hs} {hr} {args : List AV} {a : α} (hd : dec (args.map frz) = some a) (hp : pre a = true) (k : AV → Ans) :
    (Fun.pureIfX f dec enc hde pre g hs hr).fz.F args k = k (g a) := by
  simp only [POrc.fz, Fun.pureIfX, hd, hp]
/-- A callee told by what is known of arguments and state. -/
def Fun.cps (f : Fun P) (sem : List AV → St → (Fin → St → Ans) → Ans)
    (hs : ∀ args st k fin, sem args st k = some fin → ∃ r st', k r st' = some fin ∧ ∃ F, f.run F args st = some (r, st')) : OrcS P where
  id := f.id
  fn := f.fn
  hf := f.hf
  hname := f.hname
  hb := by rw [f.hbody]; rfl
  sem := sem
  sound k args st fin h := by
    obtain ⟨r, st', h1, F, h2⟩ := hs args st k fin h
    exact ⟨r, st', h1, f.sound h2⟩
end

def byteOf : List AV → Nat
  | [.int _ n] => n.toNat
  | _ => 0
def isByte : List AV → Bool
  | [.int .u8 n] => decide (0 ≤ n) && decide (n < 256)
  | _ => false
/-- Rows that are bytes. -/
def okR (l : List (List AV)) : Bool := l.all isByte
/-- The bytes of rows. -/
def nR (l : List (List AV)) : List Nat := l.map byteOf
theorem isByte_row {r : List AV} (h : isByte r = true) : r = [.int .u8 (byteOf r : Int)] ∧ byteOf r < 256 := by
  unfold isByte at h
  split at h
  · rename_i n
    simp only [Bool.and_eq_true, decide_eq_true_eq] at h
    simp only [byteOf]
    exact ⟨by rw [Int.toNat_of_nonneg h.1], by omega⟩
  · cases h
/-- Bytes as rows. -/
def bR (l : List Nat) : List (List AV) := l.map fun (b : Nat) => [.int .u8 (b : Int)]
theorem okR_rows : ∀ {l : List (List AV)}, okR l = true → l = bR (nR l)
  | [], _ => rfl
  | r :: l, h => by
    simp only [okR, List.all_cons, Bool.and_eq_true] at h
    have := okR_rows (l := l) h.2
    simp only [bR, nR, List.map_cons, List.map_map] at this ⊢
    rw [← (isByte_row h.1).1, ← this]
theorem okR_lt {l : List (List AV)} (h : okR l = true) {b : Nat} (hb : b ∈ nR l) : b < 256 := by
  obtain ⟨r, hr, rfl⟩ := List.mem_map.mp hb
  exact (isByte_row (List.all_eq_true.mp h r hr)).2
theorem nR_bR (l : List Nat) : nR (bR l) = l := by
  simp only [nR, bR, List.map_map]
  conv => rhs; rw [← List.map_id l]
  exact List.map_congr_left fun b _ => by simp [byteOf]
theorem okR_bR {l : List Nat} (h : ∀ b ∈ l, b < 256) : okR (bR l) = true := by
  simp only [okR, bR, List.all_map, List.all_eq_true]
  intro b hb
  simp only [Function.comp, isByte, Bool.and_eq_true, decide_eq_true_eq]
  have := h b hb
  omega
theorem okR_append {a b : List (List AV)} : okR (a ++ b) = (okR a && okR b) := by simp [okR]
theorem nR_append (a b : List (List AV)) : nR (a ++ b) = nR a ++ nR b := by simp [nR]
theorem nR_take (n : Nat) (a : List (List AV)) : nR (a.take n) = (nR a).take n := by simp [nR]
theorem nR_drop (n : Nat) (a : List (List AV)) : nR (a.drop n) = (nR a).drop n := by simp [nR]
theorem nR_length (a : List (List AV)) : (nR a).length = a.length := by simp [nR]
theorem bR_length (a : List Nat) : (bR a).length = a.length := by simp [bR]
theorem bR_append (a b : List Nat) : bR (a ++ b) = bR a ++ bR b := by simp [bR]
theorem bR_take (n : Nat) (a : List Nat) : (bR a).take n = bR (a.take n) := by simp [bR]
theorem bR_drop (n : Nat) (a : List Nat) : (bR a).drop n = bR (a.drop n) := by simp [bR]
theorem okR_take {l : List (List AV)} (h : okR l = true) (n : Nat) : okR (l.take n) = true :=
  List.all_eq_true.mpr fun x hx => List.all_eq_true.mp h x (List.mem_of_mem_take hx)
theorem okR_drop {l : List (List AV)} (h : okR l = true) (n : Nat) : okR (l.drop n) = true :=
  List.all_eq_true.mpr fun x hx => List.all_eq_true.mp h x (List.mem_of_mem_drop hx)

/-- Bytes, read no deeper than the slice. -/
inductive Br where
  | nil
  | sl (f : Bool) (l : List (List AV))
def byt (x : AV) : Option Br :=
  match x with
  | .nilsl => some .nil
  | .sl 1 f l => some (.sl f l)
  | .lg _ 1 l => some (.sl false l)
  | _ => none
def Br.list : Br → List (List AV)
  | .nil => []
  | .sl _ l => l
def Br.av : Br → AV
  | .nil => .nilsl
  | .sl f l => .sl 1 f l
theorem byt_frz {x : AV} {b : Br} (h : byt x = some b) : frz x = b.av := by
  unfold byt at h; split at h <;> first | (cases h; rfl) | cases h
/-- The same, of a slice that is no growing one (behind fz). -/
def sl1 : List AV → Option Br
  | [.nilsl] => some .nil
  | [.sl 1 f l] => some (.sl f l)
  | _ => none
theorem sl1_enc (l : List AV) (a : Br) (h : sl1 l = some a) : l = [a.av] := by
  unfold sl1 at h; split at h <;> first | (cases h; rfl) | cases h
def sl2 : List AV → Option (Br × Br)
  | [.nilsl, .nilsl] => some (.nil, .nil)
  | [.nilsl, .sl 1 f l] => some (.nil, .sl f l)
  | [.sl 1 f l, .nilsl] => some (.sl f l, .nil)
  | [.sl 1 f l, .sl 1 f' l'] => some (.sl f l, .sl f' l')
  | _ => none
theorem sl2_enc (l : List AV) (a : Br × Br) (h : sl2 l = some a) : l = [a.1.av, a.2.av] := by
  unfold sl2 at h; split at h <;> first | (cases h; rfl) | cases h
def byt1 : List AV → Option Br
  | [x] => byt x
  | _ => none
def byt2 : List AV → Option (Br × Br)
  | [x, y] => match byt x, byt y with
    | some a, some b => some (a, b)
    | _, _ => none
  | _ => none
theorem byt1_of {args : List AV} {b : Br} (h : byt1 args = some b) : args.map frz = [b.av] := by
  unfold byt1 at h
  split at h
  · simp [byt_frz h]
  · cases h
theorem byt2_of {args : List AV} {b : Br × Br} (h : byt2 args = some b) : args.map frz = [b.1.av, b.2.av] := by
  unfold byt2 at h
  split at h
  · split at h
    · rename_i h1 h2; cases h; simp [byt_frz h1, byt_frz h2]
    · cases h
  · cases h
end Go.V

/- Bits: the callees again, read no deeper than they must. -/
set_option linter.unusedVariables false
namespace Go.Proofs.Ytjdpfblmhahfkaa.V
open Go Go.V Go.RowKit
def iR (l : List (List AV)) : List Int := (nR l).map fun (b : Nat) => (b : Int)
def Br.bt : Br → Bt
  | .nil => .nil
  | .sl f l => .sl f (iR l)
theorem okR_ri {l : List (List AV)} (h : okR l = true) : l = ri (iR l) := by
  conv => lhs; rw [okR_rows h]
  simp [bR, ri, iR]
theorem Br.bt_av {b : Br} (h : okR b.list = true) : b.av = (Br.bt b).av := by
  cases b with
  | nil => rfl
  | sl f l => show AV.sl 1 f l = AV.sl 1 f (ri (iR l)); rw [← okR_ri (l := l) h]
theorem Br.bt_list (b : Br) : (Br.bt b).list = iR b.list := by cases b <;> rfl
theorem iR_length (l : List (List AV)) : (iR l).length = l.length := by simp [iR, nR]
theorem iR_ok {l : List (List AV)} (h : okR l = true) : okB (iR l) = true := by
  simp only [okB, iR, List.all_map, List.all_eq_true]
  intro b hb
  have := okR_lt h hb
  simp; omega
/-- Fit to be handed to a callee. -/
def fit (b : Br) : Bool := okR b.list && decide (b.list.length < 140737488355328)
theorem fit_spec {b : Br} (h : fit b = true) : okR b.list = true ∧ b.list.length < 140737488355328 := by
  simpa [fit] using h
theorem fit_small {b : Br} (h : fit b = true) : small (Br.bt b) = true := by
  simp only [small, Br.bt_list, iR_length, decide_eq_true_eq]; exact (fit_spec h).2

noncomputable def r14 : POrc Try.prog := p14.re byt2 (fun a => fit a.1 && okR a.2.list) (fun a => .bool (sameRows (iR a.1.list) (iR a.2.list))) fun args a h hp k => by
  simp only [Bool.and_eq_true] at hp
  unfold p14
  refine Eq.trans (pureIf_fz (a := (Br.bt a.1, Br.bt a.2)) (by rw [byt2_of h, Br.bt_av (fit_spec hp.1).1, Br.bt_av hp.2]; simp only [dec2b, decBt_of]) (fit_small hp.1) k) ?_
  simp only [Br.bt_list]
noncomputable def r25 : POrc Try.prog := p25.re byt1 fit (fun a => .sl 1 a.list.isEmpty a.list) fun args a h hp k => by
  unfold p25
  refine Eq.trans (pureIfX_fz (a := Br.bt a) (by rw [byt1_of h, Br.bt_av (fit_spec hp).1]; simp only [dec1b, decBt_of]) (fit_small hp) k) ?_
  simp only [Br.bt_list]
  rw [← okR_ri (fit_spec hp).1, show (iR a.list).isEmpty = a.list.isEmpty by simp [iR, nR]]
noncomputable def r32 : POrc Try.prog := p32.re byt1 fit (fun a => match a with | .nil => .nilsl | .sl _ l => .sl 1 l.isEmpty l) fun args a h hp k => by
  unfold p32
  refine Eq.trans (pureIfX_fz (a := Br.bt a) (by rw [byt1_of h, Br.bt_av (fit_spec hp).1]; simp only [dec1b, decBt_of]) (fit_small hp) k) ?_
  cases a with
  | nil => rfl
  | sl f l =>
    simp only [Br.bt]
    rw [← okR_ri (l := l) (fit_spec hp).1, show (iR l).isEmpty = l.isEmpty by simp [iR, nR]]
/-- The number that bytes begin with, without its sign, and its length; 0: none. -/
def digR (l : List (List AV)) : Nat × Nat := digB (iR l)
noncomputable def r33 : POrc Try.prog := p33.re byt1 fit (fun a => .tup [.int .u64 ((digR a.list).1 : Int), .int .i64 ((digR a.list).2 : Int)]) fun args a h hp k => by
  unfold p33
  refine Eq.trans (pureIf_fz (a := Br.bt a) (by rw [byt1_of h, Br.bt_av (fit_spec hp).1]; simp only [dec1b, decBt_of]) (by rw [fit_small hp, Br.bt_list, iR_ok (fit_spec hp).1]; rfl) k) ?_
  simp only [Br.bt_list, digR]
end Go.Proofs.Ytjdpfblmhahfkaa.V

/- Bits: numbers read and written, in plain words. -/
set_option linter.unusedVariables false
namespace Go.Proofs.Ytjdpfblmhahfkaa.V
open Go Go.V Go.RowKit

/-- The number that stands next; i: the place, u: what has been read. -/
def digN : Nat → Nat → List Nat → Nat × Nat
  | _, _, [] => (0, 0)
  | i, u, c :: r => if i = 9 ∧ c % 128 > 1 then (0, 0) else
    if c < 128 then (if c % 128 = 0 ∧ i > 0 then (0, 0) else (u + c % 128 * 2 ^ (7 * i), i + 1))
    else digN (i + 1) (u + c % 128 * 2 ^ (7 * i)) r
theorem digF_nat : ∀ (l : List Nat) (i u : Nat), digF i u (l.map fun (b : Nat) => (b : Int)) = digN i u l
  | [], _, _ => rfl
  | c :: r, i, u => by
    simp only [List.map_cons, digF, digN, Int.toNat_natCast, digF_nat r]
theorem digR_nat (l : List (List AV)) : digR l = digN 0 0 ((nR l).take 10) := by
  simp only [digR, digB, iR, ← List.map_take, digF_nat]

/-- A number out of one without a sign. -/
def unfN (u : Nat) : Int := if u % 2 = 0 then (u / 2 : Nat) else -((u / 2 : Nat) : Int) - 1
theorem foldN_unfN (u : Nat) : foldN (unfN u) = u := by
  unfold foldN unfN; split <;> split <;> omega
theorem unfN_foldN (n : Int) : unfN (foldN n) = n := by
  unfold foldN unfN; split <;> split <;> omega
theorem unfN_i64 {u : Nat} (h : u < 18446744073709551616) : -9223372036854775808 ≤ unfN u ∧ unfN u ≤ 9223372036854775807 := by
  unfold unfN; split <;> omega

theorem dig_enc : ∀ (k i v u : Nat) (r : List Nat), i + k = 9 → v < 2 ^ (64 - 7 * i) → (0 < i → 0 < v) →
    digN i u (encN k v ++ r) = (u + v * 2 ^ (7 * i), i + (encN k v).length)
  | 0, i, v, u, r, hi, hv, h0 => by
    obtain rfl : i = 9 := by omega
    have hv : v < 2 := by simpa using hv
    have := h0 (by omega)
    obtain rfl : v = 1 := by omega
    simp [encN, digN]
  | k + 1, i, v, u, r, hi, hv, h0 => by
    rw [encN]
    split
    · rename_i h
      simp only [List.singleton_append, digN, Nat.mod_eq_of_lt h, List.length_singleton]
      rw [if_neg (by omega), if_pos h, if_neg (by omega)]
    · rename_i h
      have hp : 2 ^ (64 - 7 * i) = 128 * 2 ^ (64 - 7 * (i + 1)) := by
        rw [show 64 - 7 * i = 7 + (64 - 7 * (i + 1)) by omega, Nat.pow_add]
      rw [List.cons_append, digN, if_neg (by omega), if_neg (by omega), dig_enc k (i + 1) (v / 128) _ r (by omega) (by omega) (by omega)]
      simp only [List.length_cons, Prod.mk.injEq]
      refine ⟨?_, by omega⟩
      rw [show (v % 128 + 128) % 128 = v % 128 by omega, show 7 * (i + 1) = 7 * i + 7 by omega, Nat.pow_add, show v / 128 * (2 ^ (7 * i) * 2 ^ 7) = (v / 128 * 128) * 2 ^ (7 * i) by rw [Nat.mul_comm (2 ^ (7 * i)), ← Nat.mul_assoc], Nat.add_assoc, ← Nat.add_mul, show v % 128 + v / 128 * 128 = v by omega]

theorem dig_short : ∀ (k i v u c : Nat), i + k = 9 → c < (encN k v).length → digN i u ((encN k v).take c) = (0, 0)
  | k, i, v, u, 0, hi, hc => rfl
  | 0, i, v, u, c + 1, hi, hc => by simp [encN] at hc
  | k + 1, i, v, u, c + 1, hi, hc => by
    rw [encN] at hc ⊢
    split at hc
    · simp at hc
    · rename_i h
      rw [if_neg h, List.take_succ_cons, digN, if_neg (by omega), if_neg (by omega)]
      exact dig_short k (i + 1) (v / 128) _ c (by omega) (by simpa using hc)

theorem dig_back : ∀ (l : List Nat) (i u w m : Nat), (∀ b ∈ l, b < 256) → i + l.length ≤ 10 → digN i u l = (w, m) → m ≠ 0 →
    ∃ v j, w = u + v * 2 ^ (7 * i) ∧ m = i + j ∧ j ≤ l.length ∧ 0 < j ∧ i ≤ 9 ∧ encN (9 - i) v = l.take j ∧ v < 2 ^ (64 - 7 * i) ∧ (0 < i → 0 < v)
  | [], i, u, w, m, hb, hl, h, hm => by simp [digN] at h; omega
  | c :: r, i, u, w, m, hb, hl, h, hm => by
    have hc : c < 256 := hb c (by simp)
    have hi9 : i ≤ 9 := by simp at hl; omega
    rw [digN] at h
    split at h
    · simp at h; omega
    · rename_i h9
      split at h
      · rename_i h1
        split at h
        · simp at h; omega
        · rename_i h2
          simp only [Prod.mk.injEq] at h
          refine ⟨c, 1, by rw [← h.1, Nat.mod_eq_of_lt h1], by omega, by simp, by omega, hi9, ?_, ?_, by omega⟩
          · rw [List.take_succ_cons, List.take_zero]
            cases hk : 9 - i with
            | zero => rfl
            | succ k => rw [encN, if_pos h1]
          · by_cases hi : i = 9
            · subst hi; simp; omega
            · have : 2 ^ 7 ≤ 2 ^ (64 - 7 * i) := Nat.pow_le_pow_right (by omega) (by omega)
              omega
      · rename_i h1
        by_cases hi : i = 9
        · subst hi
          have : r = [] := by apply List.eq_nil_of_length_eq_zero; simp at hl; omega
          subst this
          simp [digN] at h; omega
        · obtain ⟨v, j, e1, e2, e3, e4, e5, e6, e7, e8⟩ := dig_back r (i + 1) _ w m (fun b hb' => hb b (by simp [hb'])) (by simp at hl; omega) h hm
          have hv := e8 (by omega)
          have hp : 2 ^ (64 - 7 * i) = 128 * 2 ^ (64 - 7 * (i + 1)) := by
            rw [show 64 - 7 * i = 7 + (64 - 7 * (i + 1)) by omega, Nat.pow_add]
          refine ⟨c % 128 + 128 * v, j + 1, ?_, by omega, by simp; omega, by omega, hi9, ?_, by omega, by omega⟩
          · rw [e1, show 7 * (i + 1) = 7 * i + 7 by omega, Nat.pow_add, Nat.add_mul, Nat.add_assoc, Nat.mul_comm 128 v, Nat.mul_assoc, Nat.mul_comm (2 ^ (7 * i)) (2 ^ 7)]
          · rw [show 9 - i = (9 - (i + 1)) + 1 by omega, encN, if_neg (by omega), List.take_succ_cons, show (c % 128 + 128 * v) / 128 = v by omega, e6, show (c % 128 + 128 * v) % 128 + 128 = c by omega]

/-- The number that bytes begin with, and how many bytes it has. -/
def getN (l : List Nat) : Option (Int × Nat) :=
  if (digN 0 0 (l.take 10)).2 = 0 then none else some (unfN (digN 0 0 (l.take 10)).1, (digN 0 0 (l.take 10)).2)

theorem getN_enc {n : Int} (h1 : -9223372036854775808 ≤ n) (h2 : n ≤ 9223372036854775807) (r : List Nat) : getN (intBytes n ++ r) = some (n, (intBytes n).length) := by
  have hl : (intBytes n).length ≤ 10 := encN_len 9 _
  have hp : 0 < (intBytes n).length := by unfold intBytes encN; split <;> simp
  have e : (intBytes n ++ r).take 10 = encN 9 (foldN n) ++ r.take (10 - (intBytes n).length) := by
    rw [List.take_append, List.take_of_length_le hl]; rfl
  have := dig_enc 9 0 (foldN n) 0 (r.take (10 - (intBytes n).length)) rfl (by simpa using foldN_lt h1 h2) (by omega)
  unfold getN
  rw [e, this]
  simp only [Nat.mul_zero, Nat.pow_zero, Nat.mul_one, Nat.zero_add, unfN_foldN]
  rw [if_neg (by unfold intBytes at hp; omega)]
  rfl
theorem getN_short (n : Int) {c : Nat} (h : c < (intBytes n).length) : getN ((intBytes n).take c) = none := by
  have hl : (intBytes n).length ≤ 10 := encN_len 9 _
  have e : ((intBytes n).take c).take 10 = (encN 9 (foldN n)).take c := by
    rw [List.take_of_length_le (by simp; omega)]; rfl
  unfold getN
  rw [e, dig_short 9 0 (foldN n) 0 c rfl h]
  rfl
theorem getN_back {l : List Nat} (hb : ∀ b ∈ l, b < 256) {n : Int} {k : Nat} (h : getN l = some (n, k)) :
    intBytes n = l.take k ∧ 0 < k ∧ k ≤ l.length ∧ k ≤ 10 ∧ -9223372036854775808 ≤ n ∧ n ≤ 9223372036854775807 := by
  unfold getN at h
  split at h
  · cases h
  · rename_i h0
    simp only [Option.some.injEq, Prod.mk.injEq] at h
    obtain ⟨v, j, e1, e2, e3, e4, e5, e6, e7, e8⟩ := dig_back (l.take 10) 0 0 _ _ (fun b hb' => hb b (List.mem_of_mem_take hb')) (by simp; omega) rfl h0
    simp only [Nat.mul_zero, Nat.pow_zero, Nat.mul_one, Nat.zero_add] at e1 e2
    rw [e1] at h
    rw [e2] at h
    obtain ⟨rfl, rfl⟩ := h
    have hv := unfN_i64 (u := v) (by simpa using e7)
    simp only [List.length_take] at e3
    refine ⟨?_, e4, by omega, by omega, hv⟩
    unfold intBytes
    rw [foldN_unfN, show (9 : Nat) = 9 - 0 from rfl, e6, List.take_take, Nat.min_eq_left (by omega)]
theorem getN_digR {l : List (List AV)} : getN (nR l) = if (digR l).2 = 0 then none else some (unfN (digR l).1, (digR l).2) := by rw [digR_nat]; rfl
theorem digR_lt {l : List (List AV)} (h : okR l = true) (h0 : (digR l).2 ≠ 0) : (digR l).1 < 18446744073709551616 ∧ (digR l).2 ≤ l.length := by
  rw [digR_nat] at h0 ⊢
  obtain ⟨v, j, e1, e2, e3, e4, e5, e6, e7, e8⟩ := dig_back ((nR l).take 10) 0 0 _ _ (fun b hb' => okR_lt h (List.mem_of_mem_take hb')) (by simp; omega) rfl h0
  simp only [List.length_take, nR_length] at e3
  simp only [Nat.mul_zero, Nat.pow_zero, Nat.mul_one, Nat.zero_add] at e1 e2
  exact ⟨by rw [e1]; simpa using e7, by omega⟩
/-- The program's unfold. -/
theorem unfold_eq {u : Nat} (h : u < 18446744073709551616) :
    bitsI .xor .i64 (IntKind.i64.wrap ((u : Int).fdiv 2)) (IntKind.i64.wrap (0 - IntKind.i64.wrap (bitsI .and .u64 (u : Int) 1))) = unfN u := by
  have e1 : (u : Int).fdiv 2 = ((u / 2 : Nat) : Int) := by rw [Int.fdiv_eq_ediv_of_nonneg _ (by omega)]; rfl
  have e2 : bitsI .and .u64 (u : Int) 1 = ((u % 2 : Nat) : Int) := by
    rw [show (1 : Int) = ((1 : Nat) : Int) from rfl, bitsAnd rfl (by simpa [IntKind.bits] using h) (by decide), Nat.and_one_is_mod]
  rw [e1, e2, wrapS (by omega) (by omega), wrapS (n := ((u % 2 : Nat) : Int)) (by omega) (by omega), wrapS (by omega) (by omega)]
  have key : ∀ x : Nat, x < 2 ^ 63 → (BitVec.ofInt 64 (x : Int)).toNat = x := fun x hx => ofIntNat (by omega)
  unfold unfN
  split
  · rename_i h2
    rw [h2]
    show IntKind.i64.wrap ((BitVec.ofInt 64 ((u / 2 : Nat) : Int) ^^^ BitVec.ofInt 64 0).toNat : Int) = _
    rw [show (BitVec.ofInt 64 0) = 0#64 from rfl, BitVec.xor_zero, key _ (by omega), wrapS (by omega) (by omega)]
  · have h2 : u % 2 = 1 := by omega
    rw [h2]
    show IntKind.i64.wrap ((BitVec.ofInt 64 ((u / 2 : Nat) : Int) ^^^ BitVec.ofInt 64 (-1)).toNat : Int) = _
    rw [show (BitVec.ofInt 64 (-1)) = BitVec.allOnes 64 by decide, BitVec.toNat_xor, BitVec.toNat_allOnes, key _ (by omega), xor_ones (by omega)]
    unfold IntKind.wrap
    simp only [IntKind.signed, IntKind.bits]
    have : (((2 ^ 64 - 1 - u / 2 : Nat) : Int)) % (2 ^ 64 : Nat) = ((2 ^ 64 - 1 - u / 2 : Nat) : Int) := Int.emod_eq_of_lt (by omega) (by omega)
    simp
    omega

def dec1u : List AV → Option Int
  | [.int .u64 u] => some u
  | _ => none
theorem dec1u_enc (l : List AV) (a : Int) (h : dec1u l = some a) : l = [.int .u64 a] := by
  unfold dec1u at h; split at h <;> first | (cases h; rfl) | cases h
noncomputable def r35 : POrc Try.prog := f35.pureIf dec1u (fun u => [.int .u64 u]) dec1u_enc (fun u => cdec (0 ≤ u ∧ u < 18446744073709551616)) (fun u => .int .i64 (unfN u.toNat)) (fun a _ => ⟨rfl, fun _ _ => trivial⟩) fun u h => ⟨0, fun st => by
  rw [cdec_iff] at h
  obtain ⟨m, rfl⟩ : ∃ m : Nat, u = m := ⟨u.toNat, by omega⟩
  rw [unfold_run, unfold_eq (by omega)]; rfl⟩
end Go.Proofs.Ytjdpfblmhahfkaa.V

/- The functions' pieces, as told by gen.py. -/
set_option linter.unusedVariables false
set_option maxRecDepth 20000
namespace Go.Proofs.Ytjdpfblmhahfkaa.V
open Go Go.V Go.RowKit

theorem ze48 : (Try.prog.info? 48).bind (·.zero) = some (.agg #[(.slice none 0 0), (.bool false)]) := by kernel_rfl

/-! ### 10: interlock/bits.NewReader (22); results 2; slots: 0 b, 1 b -/
noncomputable def f10_b : Sim Try.prog :=
  (.seq (.live [0] (.region 0 [
    ⟨(opAssign (some 2) (.const (Value.pointer none)) 24 "bits.go:47" #[]).op, none⟩
  ] (by kernel_rfl)))
  (.seq (.live [2] (.region 1 [
    ⟨(opMove (some 3) (.tmp 0) 22 "bits.go:47" #[]).op, none⟩,
    ⟨(opCallP r32 (some 4) [(.tmp 3)] #[22] 22 "bits.go:47" #[{ on := 0, ground := Ground.data }]).op, none⟩,
    ⟨(opBuild (some 5) 48 #[(.slice none 0 0), (.bool false)] [(0, 0, 1, (.tmp 4))] ze48 (by kernel_rfl) 48 "bits.go:47" #[{ on := 1, ground := Ground.data }]).op, none⟩,
    ⟨(opBox (some 6) 48 (.tmp 5) 24 "bits.go:47" #[{ on := 2, ground := Ground.data }]).op, none⟩,
    ⟨(opAssign (some 2) (.tmp 6) 24 "bits.go:47" #[{ on := 3, ground := Ground.data }, { on := 1, ground := Ground.chain }, { on := 0, ground := Ground.phase }, { on := 1, ground := Ground.phase }, { on := 2, ground := Ground.phase }, { on := 3, ground := Ground.phase }]).op, none⟩
  ] (by kernel_rfl)))
  (.live [2] .ret)))

noncomputable def f10 : Fun Try.prog where
  id := 10
  fn := Try.f10
  hf := Try.func10
  hname := by kernel_rfl
  body := f10_b
  hbody := by kernel_rfl
  res := [rTmp 2]
  hres := by kernel_rfl
  n := 7
  hn := by kernel_rfl

/-! ### 11: (*interlock/bits.Reader).Int (24); results 2; slots: 0 r, 1 r, 3 u, 4 n -/
noncomputable def f11_b : Sim Try.prog :=
  (.seq (.live [0] (.region 0 [
    ⟨(opAssign (some 2) (.const (Value.int IntKind.i64 0)) 3 "bits.go:72" #[]).op, none⟩
  ] (by kernel_rfl)))
  (.seq (.live [0, 3, 4] (.region 1 [
    ⟨(opMove (some 6) (.tmp 0) 24 "bits.go:73" #[]).op, none⟩,
    ⟨(opNilCheck (some 7) (.tmp 6) 0 "bits.go:73" #[{ on := 0, ground := Ground.data }]).op, none⟩,
    ⟨(opFieldAddr (some 8) 48 (.tmp 7) 0 0 1 false fl48_0 (by decide) 0 "bits.go:73" #[{ on := 1, ground := Ground.data }]).op, none⟩,
    ⟨(opLoad (some 9) 22 (.tmp 8) (.slice 5) Try.underlying22 1 sz22 22 "bits.go:73" #[{ on := 2, ground := Ground.data }]).op, none⟩,
    ⟨(opCallP r33 (some 10) [(.tmp 9)] #[22] 50 "bits.go:73" #[{ on := 3, ground := Ground.data }]).op, none⟩,
    ⟨(opMove (some 5) (.tmp 10) 50 "bits.go:73" #[{ on := 4, ground := Ground.data }]).op, none⟩,
    ⟨(opExtract (some 11) (.tmp 5) 0 49 "bits.go:73" #[{ on := 5, ground := Ground.data }]).op, none⟩,
    ⟨(opExtract (some 12) (.tmp 5) 1 3 "bits.go:73" #[{ on := 5, ground := Ground.data }, { on := 8, ground := (Ground.gcOnly Departure.lateStores) }]).op, none⟩,
    ⟨(opAssign (some 3) (.tmp 11) 49 "bits.go:73" #[{ on := 6, ground := Ground.data }, { on := 4, ground := Ground.chain }, { on := 0, ground := Ground.phase }, { on := 1, ground := Ground.phase }, { on := 2, ground := Ground.phase }, { on := 3, ground := Ground.phase }, { on := 4, ground := Ground.phase }, { on := 5, ground := Ground.phase }, { on := 6, ground := Ground.phase }, { on := 7, ground := (Ground.textOnly Departure.lateStores) }]).op, none⟩,
    ⟨(opAssign (some 4) (.tmp 12) 3 "bits.go:73" #[{ on := 7, ground := Ground.data }, { on := 8, ground := Ground.chain }, { on := 0, ground := Ground.phase }, { on := 1, ground := Ground.phase }, { on := 2, ground := Ground.phase }, { on := 3, ground := Ground.phase }, { on := 4, ground := Ground.phase }, { on := 5, ground := Ground.phase }, { on := 6, ground := Ground.phase }, { on := 7, ground := Ground.phase }, { on := 8, ground := Ground.phase }]).op, none⟩
  ] (by kernel_rfl)))
  (.seq (.seq (.live [0, 3, 4, 14] (.region 2 [
    ⟨(opMove (some 13) (.tmp 4) 3 "bits.go:74" #[]).op, none⟩,
    ⟨(opBin (some 14) .eql 3 (.tmp 13) (.const (Value.int IntKind.i64 0)) 3 4 "bits.go:74" #[{ on := 0, ground := Ground.data }]).op, none⟩
  ] (by kernel_rfl)))
  (.cond (.tmp 14)
    (.seq (.live [] (.region 3 [
      ⟨(opMove (some 15) (.tmp 0) 24 "bits.go:75" #[]).op, none⟩,
      ⟨opCall (f34.orc 0) (some 16) [(.tmp 15)] #[24] 0 "bits.go:75" #[{ on := 0, ground := Ground.data }], none⟩
    ] (by kernel_rfl)))
    (.seq (.live [2] (.region 4 [
      ⟨(opAssign (some 2) (.const (Value.int IntKind.i64 0)) 3 "bits.go:76" #[]).op, none⟩
    ] (by kernel_rfl)))
    (.live [2] .ret)))
    .skip))
  (.seq (.live [3] (.region 5 [
    ⟨(opMove (some 17) (.tmp 0) 24 "bits.go:78" #[]).op, none⟩,
    ⟨(opMove (some 18) (.tmp 0) 24 "bits.go:78" #[]).op, none⟩,
    ⟨(opNilCheck (some 19) (.tmp 18) 0 "bits.go:78" #[{ on := 1, ground := Ground.data }]).op, none⟩,
    ⟨(opFieldAddr (some 20) 48 (.tmp 19) 0 0 1 false fl48_0 (by decide) 0 "bits.go:78" #[{ on := 2, ground := Ground.data }]).op, none⟩,
    ⟨(opLoad (some 21) 22 (.tmp 20) (.slice 5) Try.underlying22 1 sz22 22 "bits.go:78" #[{ on := 3, ground := Ground.data }]).op, none⟩,
    ⟨(opMove (some 22) (.tmp 4) 3 "bits.go:78" #[]).op, none⟩,
    ⟨(opSlice (some 23) 22 (.tmp 21) (some (.tmp 22)) none none 5 1 Try.underlying22 sz5 22 "bits.go:78" #[{ on := 4, ground := Ground.data }, { on := 5, ground := Ground.data }]).op, none⟩,
    ⟨(opNilCheck (some 24) (.tmp 17) 0 "bits.go:78" #[{ on := 0, ground := Ground.data }, { on := 0, ground := Ground.phase }, { on := 1, ground := Ground.phase }, { on := 2, ground := Ground.phase }, { on := 3, ground := Ground.phase }, { on := 4, ground := Ground.phase }, { on := 5, ground := Ground.phase }, { on := 6, ground := Ground.phase }]).op, none⟩,
    ⟨(opFieldAddr (some 25) 48 (.tmp 24) 0 0 1 false fl48_0 (by decide) 0 "bits.go:78" #[{ on := 7, ground := Ground.data }, { on := 0, ground := Ground.phase }, { on := 1, ground := Ground.phase }, { on := 2, ground := Ground.phase }, { on := 3, ground := Ground.phase }, { on := 4, ground := Ground.phase }, { on := 5, ground := Ground.phase }, { on := 6, ground := Ground.phase }]).op, none⟩,
    ⟨(opStore none 22 (.tmp 25) (.tmp 23) 1 sz22 0 "bits.go:78" #[{ on := 8, ground := Ground.data }, { on := 6, ground := Ground.data }, { on := 0, ground := Ground.phase }, { on := 1, ground := Ground.phase }, { on := 2, ground := Ground.phase }, { on := 3, ground := Ground.phase }, { on := 4, ground := Ground.phase }, { on := 5, ground := Ground.phase }, { on := 6, ground := Ground.phase }]).op, none⟩
  ] (by kernel_rfl)))
  (.seq (.live [2] (.region 6 [
    ⟨(opMove (some 26) (.tmp 3) 49 "bits.go:79" #[]).op, none⟩,
    ⟨(opCallP r35 (some 27) [(.tmp 26)] #[49] 3 "bits.go:79" #[{ on := 0, ground := Ground.data }]).op, none⟩,
    ⟨(opAssign (some 2) (.tmp 27) 3 "bits.go:79" #[{ on := 1, ground := Ground.data }, { on := 1, ground := Ground.chain }, { on := 0, ground := Ground.phase }, { on := 1, ground := Ground.phase }]).op, none⟩
  ] (by kernel_rfl)))
  (.live [2] .ret))))))

noncomputable def f11 : Fun Try.prog where
  id := 11
  fn := Try.f11
  hf := Try.func11
  hname := by kernel_rfl
  body := f11_b
  hbody := by kernel_rfl
  res := [rTmp 2]
  hres := by kernel_rfl
  n := 28
  hn := by kernel_rfl

/-! ### 16: interlock/bits.Text (9); results 2; slots: 0 s, 1 s -/
noncomputable def f16_b : Sim Try.prog :=
  (.seq (.live [0] (.region 0 [
    ⟨(opAssign (some 2) (.const (Value.slice none 0 0)) 22 "bits.go:29" #[]).op, none⟩
  ] (by kernel_rfl)))
  (.seq (.live [2] (.region 1 [
    ⟨(opMove (some 3) (.tmp 0) 9 "bits.go:29" #[]).op, none⟩,
    ⟨(opLen (some 4) (.tmp 3) 9 .string Try.underlying9 3 "bits.go:29" #[{ on := 0, ground := Ground.data }]).op, none⟩,
    ⟨opCall (q15).orc (some 5) [(.tmp 4)] #[3] 22 "bits.go:29" #[{ on := 1, ground := Ground.data }], none⟩,
    ⟨(opMove (some 6) (.tmp 0) 9 "bits.go:29" #[]).op, none⟩,
    ⟨(opAppend (some 7) (.tmp 5) (.tmp 6) 22 9 5 1 1 (.int .u8 0) el22 .string Try.underlying9 rfl 22 "bits.go:29" #[{ on := 2, ground := Ground.data }, { on := 3, ground := Ground.data }, { on := 2, ground := Ground.chain }]).op, none⟩,
    ⟨(opAssign (some 2) (.tmp 7) 22 "bits.go:29" #[{ on := 4, ground := Ground.data }, { on := 4, ground := Ground.chain }, { on := 0, ground := Ground.phase }, { on := 1, ground := Ground.phase }, { on := 2, ground := Ground.phase }, { on := 3, ground := Ground.phase }, { on := 4, ground := Ground.phase }]).op, none⟩
  ] (by kernel_rfl)))
  (.live [2] .ret)))

noncomputable def f16 : Fun Try.prog where
  id := 16
  fn := Try.f16
  hf := Try.func16
  hname := by kernel_rfl
  body := f16_b
  hbody := by kernel_rfl
  res := [rTmp 2]
  hres := by kernel_rfl
  n := 8
  hn := by kernel_rfl

/-! ### 19: interlock/interlockref01.Text (9); results 2; slots: 0 s, 1 s -/
noncomputable def f19_b : Sim Try.prog :=
  (.seq (.live [0] (.region 0 [
    ⟨(opAssign (some 2) (.const (Value.slice none 0 0)) 22 "ref.go:19" #[]).op, none⟩
  ] (by kernel_rfl)))
  (.seq (.live [2] (.region 1 [
    ⟨(opMove (some 3) (.tmp 0) 9 "ref.go:20" #[]).op, none⟩,
    ⟨(opLen (some 4) (.tmp 3) 9 .string Try.underlying9 3 "ref.go:20" #[{ on := 0, ground := Ground.data }]).op, none⟩,
    ⟨opCall (q18).orc (some 5) [(.tmp 4)] #[3] 22 "ref.go:20" #[{ on := 1, ground := Ground.data }], none⟩,
    ⟨(opMove (some 6) (.tmp 0) 9 "ref.go:20" #[]).op, none⟩,
    ⟨(opStrBytes (some 7) 9 22 (.tmp 6) 5 Try.underlying9 Try.underlying22 Try.underlying5 22 "ref.go:20" #[{ on := 3, ground := Ground.data }]).op, none⟩,
    ⟨(opAppend (some 8) (.tmp 5) (.tmp 7) 22 22 5 1 1 (.int .u8 0) el22 (.slice 5) Try.underlying22 rfl 22 "ref.go:20" #[{ on := 2, ground := Ground.data }, { on := 4, ground := Ground.data }, { on := 2, ground := Ground.chain }]).op, none⟩,
    ⟨(opAssign (some 2) (.tmp 8) 22 "ref.go:20" #[{ on := 5, ground := Ground.data }, { on := 5, ground := Ground.chain }, { on := 0, ground := Ground.phase }, { on := 1, ground := Ground.phase }, { on := 2, ground := Ground.phase }, { on := 3, ground := Ground.phase }, { on := 4, ground := Ground.phase }, { on := 5, ground := Ground.phase }]).op, none⟩
  ] (by kernel_rfl)))
  (.live [2] .ret)))

noncomputable def f19 : Fun Try.prog where
  id := 19
  fn := Try.f19
  hf := Try.func19
  hname := by kernel_rfl
  body := f19_b
  hbody := by kernel_rfl
  res := [rTmp 2]
  hres := by kernel_rfl
  n := 9
  hn := by kernel_rfl

end Go.Proofs.Ytjdpfblmhahfkaa.V

/- What the functions' runs come to; the right sides were printed by a tool, Lean checks them. -/
set_option linter.unusedVariables false
set_option maxRecDepth 100000
namespace Go.Proofs.Ytjdpfblmhahfkaa.V
open Go Go.V Go.RowKit

theorem new_run (f : Bool) (l : List (List AV)) (st : St) :
    (f10.run 0 [.sl 1 f l] st : Ans) =
    branch (AV.bool (fit (Br.sl f l)))
      (some (Fin.ret (AV.ptr st.objs.length 0), St.mk (st.objs ++ [Ob.cells [AV.sl 1 l.isEmpty l, AV.bool false]]) st.tk))
      none := by kernel_rfl

theorem new_nil (st : St) :
    (f10.run 0 [.nilsl] st : Ans) =
    some (Fin.ret (AV.ptr st.objs.length 0), St.mk (st.objs ++ [Ob.cells [AV.nilsl, AV.bool false]]) st.tk) := by kernel_rfl

theorem rdint_run0 (f b : Bool) (l : List (List AV)) (os : List Ob) (tk : List (Nat × Nat)) :
    (f11.run 0 [.ptr 0 0] ⟨.cells [.sl 1 f l, .bool b] :: os, tk⟩ : Ans) =
    branch (AV.bool (fit (Br.sl f l)))
      (branch (AV.bool ((↑(digR l).snd : Int) == 0))
        (some (Fin.ret (AV.int IntKind.i64 0), St.mk (Ob.cells [AV.nilsl, AV.bool true] :: os) tk))
        (if 0 ≤ (↑(digR l).snd : Int) ∧ (↑(digR l).snd : Int) ≤ (↑l.length : Int) then
          branch (AV.bool (cdec (0 ≤ (↑(digR l).fst : Int) ∧ (↑(digR l).fst : Int) < 18446744073709551616)))
            (some
              (Fin.ret (AV.int IntKind.i64 (unfN (↑(digR l).fst : Int).toNat)),
                St.mk
                  (Ob.cells
                      [AV.sl 1 (f && l.length.beq l.length) (List.drop (↑(digR l).snd : Int).toNat (List.take l.length l)),
                        AV.bool b] ::
                    os)
                  tk))
            none
        else none))
      none := by kernel_rfl

theorem rdint_nil0 (b : Bool) (os : List Ob) (tk : List (Nat × Nat)) :
    (f11.run 0 [.ptr 0 0] ⟨.cells [.nilsl, .bool b] :: os, tk⟩ : Ans) =
    some (Fin.ret (AV.int IntKind.i64 0), St.mk (Ob.cells [AV.nilsl, AV.bool true] :: os) tk) := by kernel_rfl

theorem rdint_run1 (f b : Bool) (l : List (List AV)) (o : Ob) (os : List Ob) (tk : List (Nat × Nat)) :
    (f11.run 0 [.ptr 1 0] ⟨o :: .cells [.sl 1 f l, .bool b] :: os, tk⟩ : Ans) =
    branch (AV.bool (fit (Br.sl f l)))
      (branch (AV.bool ((↑(digR l).snd : Int) == 0))
        (some (Fin.ret (AV.int IntKind.i64 0), St.mk (o :: Ob.cells [AV.nilsl, AV.bool true] :: os) tk))
        (if 0 ≤ (↑(digR l).snd : Int) ∧ (↑(digR l).snd : Int) ≤ (↑l.length : Int) then
          branch (AV.bool (cdec (0 ≤ (↑(digR l).fst : Int) ∧ (↑(digR l).fst : Int) < 18446744073709551616)))
            (some
              (Fin.ret (AV.int IntKind.i64 (unfN (↑(digR l).fst : Int).toNat)),
                St.mk
                  (o ::
                    Ob.cells
                        [AV.sl 1 (f && l.length.beq l.length)
                            (List.drop (↑(digR l).snd : Int).toNat (List.take l.length l)),
                          AV.bool b] ::
                      os)
                  tk))
            none
        else none))
      none := by kernel_rfl

theorem rdint_nil1 (b : Bool) (o : Ob) (os : List Ob) (tk : List (Nat × Nat)) :
    (f11.run 0 [.ptr 1 0] ⟨o :: .cells [.nilsl, .bool b] :: os, tk⟩ : Ans) =
    some (Fin.ret (AV.int IntKind.i64 0), St.mk (o :: Ob.cells [AV.nilsl, AV.bool true] :: os) tk) := by kernel_rfl

theorem text_run (s : ByteArray) (st : St) :
    (f16.run 0 [.str s] st : Ans) =
    branch (AV.bool (i64B (↑s.size : Int)))
      (if
          ((fun (n : Int) (st : St) =>
                        (AV.lg st.tk.length 1 (rb (intBytes n)), St.mk st.objs (st.tk ++ [(1, (intBytes n).length)])))
                      (↑s.size : Int) st).snd.tk[st.tk.length]? =
              some (1, (rb (intBytes (↑s.size : Int))).length) ∧
            ((rb (intBytes (↑s.size : Int))).length +
                  (List.map (fun (c : UInt8) => [AV.int IntKind.u8 (↑c.toNat : Int)]) s.data.toList).length) *
                1 ≤
              140737488355328 then
        some
          (Fin.ret
              (AV.lg st.tk.length 1
                (rb (intBytes (↑s.size : Int)) ++
                  List.map (fun (c : UInt8) => [AV.int IntKind.u8 (↑c.toNat : Int)]) s.data.toList)),
            St.mk (St.mk st.objs (st.tk ++ [(1, (intBytes (↑s.size : Int)).length)])).objs
              ((St.mk st.objs (st.tk ++ [(1, (intBytes (↑s.size : Int)).length)])).tk.set st.tk.length
                (1,
                  (rb (intBytes (↑s.size : Int))).length +
                    (List.map (fun (c : UInt8) => [AV.int IntKind.u8 (↑c.toNat : Int)]) s.data.toList).length)))
      else none)
      none := by kernel_rfl

theorem rtext_run (s : ByteArray) (st : St) :
    (f19.run 0 [.str s] st : Ans) =
    branch (AV.bool (i64B (↑s.size : Int)))
      (if
          ((fun (n : Int) (st : St) =>
                        (AV.lg st.tk.length 1 (rb (intBytes n)), St.mk st.objs (st.tk ++ [(1, (intBytes n).length)])))
                      (↑s.size : Int) st).snd.tk[st.tk.length]? =
              some (1, (rb (intBytes (↑s.size : Int))).length) ∧
            ((rb (intBytes (↑s.size : Int))).length + (rowsOfStr s).length) * 1 ≤ 140737488355328 then
        some
          (Fin.ret (AV.lg st.tk.length 1 (rb (intBytes (↑s.size : Int)) ++ rowsOfStr s)),
            St.mk (St.mk st.objs (st.tk ++ [(1, (intBytes (↑s.size : Int)).length)])).objs
              ((St.mk st.objs (st.tk ++ [(1, (intBytes (↑s.size : Int)).length)])).tk.set st.tk.length
                (1, (rb (intBytes (↑s.size : Int))).length + (rowsOfStr s).length)))
      else none)
      none := by kernel_rfl

end Go.Proofs.Ytjdpfblmhahfkaa.V

/- Bits: texts as bytes. -/
set_option linter.unusedVariables false
namespace Go.Proofs.Ytjdpfblmhahfkaa.V
open Go Go.V Go.RowKit

def dec1s : List AV → Option ByteArray
  | [.str s] => some s
  | _ => none
theorem dec1s_enc (l : List AV) (a : ByteArray) (h : dec1s l = some a) : l = [.str a] := by
  unfold dec1s at h; split at h <;> first | (cases h; rfl) | cases h
/-- A text's own bytes. -/
def own (s : ByteArray) : List Nat := s.data.toList.map UInt8.toNat
/-- A text as bytes. -/
def textBytes (s : ByteArray) : List Nat := intBytes s.size ++ own s
theorem rows_own (s : ByteArray) : rowsOfStr s = rb (own s) := by simp [rowsOfStr, rb, own]
theorem rows_own' (s : ByteArray) : List.map (fun (c : UInt8) => [AV.int IntKind.u8 (c.toNat : Int)]) s.data.toList = rb (own s) := rows_own s
theorem own_length (s : ByteArray) : (own s).length = s.size := by simp [own]
theorem intBytes_length (n : Int) : (intBytes n).length ≤ 10 := encN_len 9 _
def shortS (s : ByteArray) : Bool := decide (s.size < 140737488355300)

theorem f16_spec (s : ByteArray) (h : shortS s = true) (st : St) : f16.run 0 [.str s] st = some (.ret (.lg st.tk.length 1 (rb (textBytes s))), ⟨st.objs, st.tk ++ [(1, (textBytes s).length)]⟩) := by
  have hs : s.size < 140737488355300 := of_decide_eq_true h
  have hl := intBytes_length s.size
  rw [text_run, branch_of (by simp [i64B]; omega), rows_own', if_pos ⟨by rw [rb_length]; exact tk_at _ _, by rw [rb_length, rb_length, own_length]; omega⟩]
  simp only [tk_set, rb_length, textBytes, rb_append, List.length_append]
theorem f19_spec (s : ByteArray) (h : shortS s = true) (st : St) : f19.run 0 [.str s] st = some (.ret (.lg st.tk.length 1 (rb (textBytes s))), ⟨st.objs, st.tk ++ [(1, (textBytes s).length)]⟩) := by
  have hs : s.size < 140737488355300 := of_decide_eq_true h
  have hl := intBytes_length s.size
  rw [rtext_run, branch_of (by simp [i64B]; omega), rows_own, if_pos ⟨by rw [rb_length]; exact tk_at _ _, by rw [rb_length, rb_length, own_length]; omega⟩]
  simp only [tk_set, rb_length, textBytes, rb_append, List.length_append]
noncomputable def q16 : OrcS Try.prog := f16.effIf dec1s (fun s => [.str s]) dec1s_enc (fun s _ => shortS s) (fun s st => (.lg st.tk.length 1 (rb (textBytes s)), ⟨st.objs, st.tk ++ [(1, (textBytes s).length)]⟩)) fun s st h => ⟨0, f16_spec s h st⟩
noncomputable def q19 : OrcS Try.prog := f19.effIf dec1s (fun s => [.str s]) dec1s_enc (fun s _ => shortS s) (fun s st => (.lg st.tk.length 1 (rb (textBytes s)), ⟨st.objs, st.tk ++ [(1, (textBytes s).length)]⟩)) fun s st h => ⟨0, f19_spec s h st⟩
end Go.Proofs.Ytjdpfblmhahfkaa.V

/- Bits: a reader's next number. -/
set_option linter.unusedVariables false
namespace Go.Proofs.Ytjdpfblmhahfkaa.V
open Go Go.V Go.RowKit

/-- A reader's cells. -/
inductive Rd where
  | nil (b : Bool)
  | sl (f b : Bool) (l : List (List AV))
def Rd.cells : Rd → List AV
  | .nil b => [.nilsl, .bool b]
  | .sl f b l => [.sl 1 f l, .bool b]
def rdOf : List AV → Option Rd
  | [.nilsl, .bool b] => some (.nil b)
  | [.sl 1 f l, .bool b] => some (.sl f b l)
  | _ => none
theorem rdOf_eq {cs : List AV} {r : Rd} (h : rdOf cs = some r) : cs = r.cells := by
  unfold rdOf at h; split at h <;> first | (cases h; rfl) | cases h
/-- A reader at the first or at the second object, and how it is put anew. -/
def rdAt (p : AV) (st : St) : Option (Rd × (AV → Bool → St)) :=
  match p with
  | .ptr 0 0 => match st.objs with
    | .cells cs :: os => match rdOf cs with
      | some r => some (r, fun a b => ⟨.cells [a, .bool b] :: os, st.tk⟩)
      | none => none
    | _ => none
  | .ptr 1 0 => match st.objs with
    | o :: .cells cs :: os => match rdOf cs with
      | some r => some (r, fun a b => ⟨o :: .cells [a, .bool b] :: os, st.tk⟩)
      | none => none
    | _ => none
  | _ => none
theorem rdAt_eq {p : AV} {st : St} {r : Rd} {put : AV → Bool → St} (h : rdAt p st = some (r, put)) :
    (p = .ptr 0 0 ∧ ∃ os, st = ⟨.cells r.cells :: os, st.tk⟩ ∧ put = fun a b => ⟨.cells [a, .bool b] :: os, st.tk⟩) ∨
    (p = .ptr 1 0 ∧ ∃ o os, st = ⟨o :: .cells r.cells :: os, st.tk⟩ ∧ put = fun a b => ⟨o :: .cells [a, .bool b] :: os, st.tk⟩) := by
  obtain ⟨objs, tk⟩ := st
  unfold rdAt at h
  split at h
  · split at h
    · rename_i h1
      split at h
      · rename_i h2
        cases h; simp only at h1; subst h1
        rw [rdOf_eq h2]
        exact .inl ⟨rfl, _, rfl, rfl⟩
      · cases h
    · cases h
  · split at h
    · rename_i h1
      split at h
      · rename_i h2
        cases h; simp only at h1; subst h1
        rw [rdOf_eq h2]
        exact .inr ⟨rfl, _, _, rfl, rfl⟩
      · cases h
    · cases h
  · cases h

theorem f11_spec {p : AV} {st : St} {f b : Bool} {l : List (List AV)} {put : AV → Bool → St} (h : rdAt p st = some (.sl f b l, put)) (hf : fit (.sl f l) = true) :
    f11.run 0 [p] st = match getN (nR l) with
      | none => some (.ret (.int .i64 0), put .nilsl true)
      | some o => some (.ret (.int .i64 o.1), put (.sl 1 f (l.drop o.2)) b) := by
  obtain ⟨h1, h2⟩ := fit_spec hf
  have hb : Nat.beq l.length l.length = true := Nat.beq_refl _
  rcases rdAt_eq h with ⟨rfl, os, hs, rfl⟩ | ⟨rfl, o, os, hs, rfl⟩
  all_goals rw [hs]; simp only [Rd.cells]
  · rw [rdint_run0, branch_of hf, getN_digR]
    by_cases h0 : (digR l).2 = 0
    · rw [branch_of (by simp [h0]), if_pos h0]
    · obtain ⟨h3, h4⟩ := digR_lt (l := l) h1 h0
      rw [branch_not (by simp [h0]), if_pos (by omega), if_neg h0, branch_of (cdec_iff.mpr (by omega))]
      simp
  · rw [rdint_run1, branch_of hf, getN_digR]
    by_cases h0 : (digR l).2 = 0
    · rw [branch_of (by simp [h0]), if_pos h0]
    · obtain ⟨h3, h4⟩ := digR_lt (l := l) h1 h0
      rw [branch_not (by simp [h0]), if_pos (by omega), if_neg h0, branch_of (cdec_iff.mpr (by omega))]
      simp
theorem f11_nil {p : AV} {st : St} {b : Bool} {put : AV → Bool → St} (h : rdAt p st = some (.nil b, put)) : f11.run 0 [p] st = some (.ret (.int .i64 0), put .nilsl true) := by
  rcases rdAt_eq h with ⟨rfl, os, hs, rfl⟩ | ⟨rfl, o, os, hs, rfl⟩
  all_goals rw [hs]; simp only [Rd.cells]
  · rw [rdint_nil0]
  · rw [rdint_nil1]

/-- Reader.Int. -/
noncomputable def q11 : OrcS Try.prog := f11.cps
  (fun args st k => match args with
    | [p] => match rdAt p st with
      | some (.nil _, put) => k (.ret (.int .i64 0)) (put .nilsl true)
      | some (.sl f b l, put) => match fit (.sl f l) with
        | true => match getN (nR l) with
          | none => k (.ret (.int .i64 0)) (put .nilsl true)
          | some o => k (.ret (.int .i64 o.1)) (put (.sl 1 f (l.drop o.2)) b)
        | false => none
      | none => none
    | _ => none)
  fun args st k fin h => by
    split at h
    · split at h
      · rename_i h1; exact ⟨_, _, h, 0, f11_nil h1⟩
      · rename_i h1
        split at h
        · rename_i h2
          have := f11_spec h1 h2
          split at h
          · rename_i h3; rw [h3] at this; exact ⟨_, _, h, 0, this⟩
          · rename_i h3; rw [h3] at this; exact ⟨_, _, h, 0, this⟩
        · cases h
      · cases h
    · cases h
end Go.Proofs.Ytjdpfblmhahfkaa.V

/- The functions' pieces, as told by gen.py. -/
set_option linter.unusedVariables false
set_option maxRecDepth 20000
namespace Go.Proofs.Ytjdpfblmhahfkaa.V
open Go Go.V Go.RowKit


/-! ### 17: (*interlock/bits.Reader).Text (24); results 2; slots: 0 r, 1 r, 3 n, 4 s -/
noncomputable def f17_b : Sim Try.prog :=
  (.seq (.live [0] (.region 0 [
    ⟨(opAssign (some 2) (.const (Value.string { data := #[] })) 9 "bits.go:95" #[]).op, none⟩
  ] (by kernel_rfl)))
  (.seq (.live [0, 3] (.region 1 [
    ⟨(opMove (some 5) (.tmp 0) 24 "bits.go:96" #[]).op, none⟩,
    ⟨opCall (q11).orc (some 6) [(.tmp 5)] #[24] 3 "bits.go:96" #[{ on := 0, ground := Ground.data }], none⟩,
    ⟨(opAssign (some 3) (.tmp 6) 3 "bits.go:96" #[{ on := 1, ground := Ground.data }, { on := 1, ground := Ground.chain }, { on := 0, ground := Ground.phase }, { on := 1, ground := Ground.phase }]).op, none⟩
  ] (by kernel_rfl)))
  (.seq (.seq (.live [0, 3, 17] (.region 2 [
    ⟨(opMove (some 7) (.tmp 3) 3 "bits.go:97" #[]).op, none⟩,
    ⟨(opBin (some 8) .lss 3 (.tmp 7) (.const (Value.int IntKind.i64 0)) 3 4 "bits.go:97" #[{ on := 0, ground := Ground.data }]).op, none⟩,
    ⟨(opMove (some 9) (.tmp 8) 4 "bits.go:97" #[{ on := 1, ground := Ground.data }]).op, none⟩,
    ⟨(opMove (some 10) (.tmp 3) 3 "bits.go:97" #[{ on := 2, ground := Ground.guard }]).op, (some (2, 9, false))⟩,
    ⟨(opMove (some 11) (.tmp 0) 24 "bits.go:97" #[{ on := 2, ground := Ground.guard }]).op, (some (2, 9, false))⟩,
    ⟨(opNilCheck (some 12) (.tmp 11) 0 "bits.go:97" #[{ on := 4, ground := Ground.data }, { on := 2, ground := Ground.guard }]).op, (some (2, 9, false))⟩,
    ⟨(opFieldAddr (some 13) 48 (.tmp 12) 0 0 1 false fl48_0 (by decide) 0 "bits.go:97" #[{ on := 5, ground := Ground.data }, { on := 2, ground := Ground.guard }]).op, (some (2, 9, false))⟩,
    ⟨(opLoad (some 14) 22 (.tmp 13) (.slice 5) Try.underlying22 1 sz22 22 "bits.go:97" #[{ on := 6, ground := Ground.data }, { on := 2, ground := Ground.guard }]).op, (some (2, 9, false))⟩,
    ⟨(opLen (some 15) (.tmp 14) 22 (.slice 5) Try.underlying22 3 "bits.go:97" #[{ on := 7, ground := Ground.data }, { on := 2, ground := Ground.guard }]).op, (some (2, 9, false))⟩,
    ⟨(opBin (some 16) .gtr 3 (.tmp 10) (.tmp 15) 3 4 "bits.go:97" #[{ on := 3, ground := Ground.data }, { on := 8, ground := Ground.data }, { on := 2, ground := Ground.guard }]).op, (some (2, 9, false))⟩,
    ⟨(opPick (some 17) (.tmp 9) (.const (Value.bool true)) (.tmp 16) 4 "bits.go:97" #[{ on := 2, ground := Ground.data }, { on := 9, ground := Ground.data }]).op, none⟩
  ] (by kernel_rfl)))
  (.cond (.tmp 17)
    (.live [0, 3] (.region 3 [
      ⟨(opMove (some 18) (.tmp 0) 24 "bits.go:98" #[]).op, none⟩,
      ⟨opCall (f34.orc 0) (some 19) [(.tmp 18)] #[24] 0 "bits.go:98" #[{ on := 0, ground := Ground.data }], none⟩
    ] (by kernel_rfl)))
    .skip))
  (.seq (.seq (.live [0, 3, 23] (.region 4 [
    ⟨(opMove (some 20) (.tmp 0) 24 "bits.go:100" #[]).op, none⟩,
    ⟨(opNilCheck (some 21) (.tmp 20) 0 "bits.go:100" #[{ on := 0, ground := Ground.data }]).op, none⟩,
    ⟨(opFieldAddr (some 22) 48 (.tmp 21) 1 1 1 false fl48_1 (by decide) 0 "bits.go:100" #[{ on := 1, ground := Ground.data }]).op, none⟩,
    ⟨(opLoad (some 23) 4 (.tmp 22) .bool Try.underlying4 1 sz4 4 "bits.go:100" #[{ on := 2, ground := Ground.data }]).op, none⟩
  ] (by kernel_rfl)))
  (.cond (.tmp 23)
    (.seq (.live [2] (.region 5 [
      ⟨(opAssign (some 2) (.const (Value.string { data := #[] })) 9 "bits.go:101" #[]).op, none⟩
    ] (by kernel_rfl)))
    (.live [2] .ret))
    .skip))
  (.seq (.live [0, 3, 4] (.region 6 [
    ⟨(opMove (some 24) (.tmp 0) 24 "bits.go:103" #[]).op, none⟩,
    ⟨(opNilCheck (some 25) (.tmp 24) 0 "bits.go:103" #[{ on := 0, ground := Ground.data }]).op, none⟩,
    ⟨(opFieldAddr (some 26) 48 (.tmp 25) 0 0 1 false fl48_0 (by decide) 0 "bits.go:103" #[{ on := 1, ground := Ground.data }]).op, none⟩,
    ⟨(opLoad (some 27) 22 (.tmp 26) (.slice 5) Try.underlying22 1 sz22 22 "bits.go:103" #[{ on := 2, ground := Ground.data }]).op, none⟩,
    ⟨(opMove (some 28) (.tmp 3) 3 "bits.go:103" #[]).op, none⟩,
    ⟨(opSlice (some 29) 22 (.tmp 27) none (some (.tmp 28)) none 5 1 Try.underlying22 sz5 22 "bits.go:103" #[{ on := 3, ground := Ground.data }, { on := 4, ground := Ground.data }]).op, none⟩,
    ⟨(opBytesStr (some 30) 22 9 (.tmp 29) 5 Try.underlying22 Try.underlying5 Try.underlying9 9 "bits.go:103" #[{ on := 5, ground := Ground.data }]).op, none⟩,
    ⟨(opAssign (some 4) (.tmp 30) 9 "bits.go:103" #[{ on := 6, ground := Ground.data }, { on := 0, ground := Ground.phase }, { on := 1, ground := Ground.phase }, { on := 2, ground := Ground.phase }, { on := 3, ground := Ground.phase }, { on := 4, ground := Ground.phase }, { on := 5, ground := Ground.phase }, { on := 6, ground := Ground.phase }]).op, none⟩
  ] (by kernel_rfl)))
  (.seq (.live [4] (.region 7 [
    ⟨(opMove (some 31) (.tmp 0) 24 "bits.go:104" #[]).op, none⟩,
    ⟨(opMove (some 32) (.tmp 0) 24 "bits.go:104" #[]).op, none⟩,
    ⟨(opNilCheck (some 33) (.tmp 32) 0 "bits.go:104" #[{ on := 1, ground := Ground.data }]).op, none⟩,
    ⟨(opFieldAddr (some 34) 48 (.tmp 33) 0 0 1 false fl48_0 (by decide) 0 "bits.go:104" #[{ on := 2, ground := Ground.data }]).op, none⟩,
    ⟨(opLoad (some 35) 22 (.tmp 34) (.slice 5) Try.underlying22 1 sz22 22 "bits.go:104" #[{ on := 3, ground := Ground.data }]).op, none⟩,
    ⟨(opMove (some 36) (.tmp 3) 3 "bits.go:104" #[]).op, none⟩,
    ⟨(opSlice (some 37) 22 (.tmp 35) (some (.tmp 36)) none none 5 1 Try.underlying22 sz5 22 "bits.go:104" #[{ on := 4, ground := Ground.data }, { on := 5, ground := Ground.data }]).op, none⟩,
    ⟨(opNilCheck (some 38) (.tmp 31) 0 "bits.go:104" #[{ on := 0, ground := Ground.data }, { on := 0, ground := Ground.phase }, { on := 1, ground := Ground.phase }, { on := 2, ground := Ground.phase }, { on := 3, ground := Ground.phase }, { on := 4, ground := Ground.phase }, { on := 5, ground := Ground.phase }, { on := 6, ground := Ground.phase }]).op, none⟩,
    ⟨(opFieldAddr (some 39) 48 (.tmp 38) 0 0 1 false fl48_0 (by decide) 0 "bits.go:104" #[{ on := 7, ground := Ground.data }, { on := 0, ground := Ground.phase }, { on := 1, ground := Ground.phase }, { on := 2, ground := Ground.phase }, { on := 3, ground := Ground.phase }, { on := 4, ground := Ground.phase }, { on := 5, ground := Ground.phase }, { on := 6, ground := Ground.phase }]).op, none⟩,
    ⟨(opStore none 22 (.tmp 39) (.tmp 37) 1 sz22 0 "bits.go:104" #[{ on := 8, ground := Ground.data }, { on := 6, ground := Ground.data }, { on := 0, ground := Ground.phase }, { on := 1, ground := Ground.phase }, { on := 2, ground := Ground.phase }, { on := 3, ground := Ground.phase }, { on := 4, ground := Ground.phase }, { on := 5, ground := Ground.phase }, { on := 6, ground := Ground.phase }]).op, none⟩
  ] (by kernel_rfl)))
  (.seq (.live [2] (.region 8 [
    ⟨(opMove (some 40) (.tmp 4) 9 "bits.go:105" #[]).op, none⟩,
    ⟨(opAssign (some 2) (.tmp 40) 9 "bits.go:105" #[{ on := 0, ground := Ground.data }, { on := 0, ground := Ground.phase }]).op, none⟩
  ] (by kernel_rfl)))
  (.live [2] .ret))))))))

noncomputable def f17 : Fun Try.prog where
  id := 17
  fn := Try.f17
  hf := Try.func17
  hname := by kernel_rfl
  body := f17_b
  hbody := by kernel_rfl
  res := [rTmp 2]
  hres := by kernel_rfl
  n := 41
  hn := by kernel_rfl

/-! ### 28: (*interlock/bits.Reader).Count (24, 3); results 4; slots: 0 r, 1 most, 2 r, 3 most, 5 n -/
noncomputable def f28_b : Sim Try.prog :=
  (.seq (.live [0, 1] (.region 0 [
    ⟨(opAssign (some 4) (.const (Value.int IntKind.i64 0)) 3 "bits.go:83" #[]).op, none⟩
  ] (by kernel_rfl)))
  (.seq (.live [0, 1, 5] (.region 1 [
    ⟨(opMove (some 6) (.tmp 0) 24 "bits.go:84" #[]).op, none⟩,
    ⟨opCall (q11).orc (some 7) [(.tmp 6)] #[24] 3 "bits.go:84" #[{ on := 0, ground := Ground.data }], none⟩,
    ⟨(opAssign (some 5) (.tmp 7) 3 "bits.go:84" #[{ on := 1, ground := Ground.data }, { on := 1, ground := Ground.chain }, { on := 0, ground := Ground.phase }, { on := 1, ground := Ground.phase }]).op, none⟩
  ] (by kernel_rfl)))
  (.seq (.seq (.live [0, 5, 14] (.region 2 [
    ⟨(opMove (some 8) (.tmp 5) 3 "bits.go:85" #[]).op, none⟩,
    ⟨(opBin (some 9) .lss 3 (.tmp 8) (.const (Value.int IntKind.i64 0)) 3 4 "bits.go:85" #[{ on := 0, ground := Ground.data }]).op, none⟩,
    ⟨(opMove (some 10) (.tmp 9) 4 "bits.go:85" #[{ on := 1, ground := Ground.data }]).op, none⟩,
    ⟨(opMove (some 11) (.tmp 5) 3 "bits.go:85" #[{ on := 2, ground := Ground.guard }]).op, (some (2, 10, false))⟩,
    ⟨(opMove (some 12) (.tmp 1) 3 "bits.go:85" #[{ on := 2, ground := Ground.guard }]).op, (some (2, 10, false))⟩,
    ⟨(opBin (some 13) .gtr 3 (.tmp 11) (.tmp 12) 3 4 "bits.go:85" #[{ on := 3, ground := Ground.data }, { on := 4, ground := Ground.data }, { on := 2, ground := Ground.guard }]).op, (some (2, 10, false))⟩,
    ⟨(opPick (some 14) (.tmp 10) (.const (Value.bool true)) (.tmp 13) 4 "bits.go:85" #[{ on := 2, ground := Ground.data }, { on := 5, ground := Ground.data }]).op, none⟩
  ] (by kernel_rfl)))
  (.cond (.tmp 14)
    (.live [0, 5] (.region 3 [
      ⟨(opMove (some 15) (.tmp 0) 24 "bits.go:86" #[]).op, none⟩,
      ⟨opCall (f34.orc 0) (some 16) [(.tmp 15)] #[24] 0 "bits.go:86" #[{ on := 0, ground := Ground.data }], none⟩
    ] (by kernel_rfl)))
    .skip))
  (.seq (.seq (.live [5, 20] (.region 4 [
    ⟨(opMove (some 17) (.tmp 0) 24 "bits.go:88" #[]).op, none⟩,
    ⟨(opNilCheck (some 18) (.tmp 17) 0 "bits.go:88" #[{ on := 0, ground := Ground.data }]).op, none⟩,
    ⟨(opFieldAddr (some 19) 48 (.tmp 18) 1 1 1 false fl48_1 (by decide) 0 "bits.go:88" #[{ on := 1, ground := Ground.data }]).op, none⟩,
    ⟨(opLoad (some 20) 4 (.tmp 19) .bool Try.underlying4 1 sz4 4 "bits.go:88" #[{ on := 2, ground := Ground.data }]).op, none⟩
  ] (by kernel_rfl)))
  (.cond (.tmp 20)
    (.seq (.live [4] (.region 5 [
      ⟨(opAssign (some 4) (.const (Value.int IntKind.i64 0)) 3 "bits.go:89" #[]).op, none⟩
    ] (by kernel_rfl)))
    (.live [4] .ret))
    .skip))
  (.seq (.live [4] (.region 6 [
    ⟨(opMove (some 21) (.tmp 5) 3 "bits.go:91" #[]).op, none⟩,
    ⟨(opAssign (some 4) (.tmp 21) 3 "bits.go:91" #[{ on := 0, ground := Ground.data }, { on := 0, ground := Ground.phase }]).op, none⟩
  ] (by kernel_rfl)))
  (.live [4] .ret))))))

noncomputable def f28 : Fun Try.prog where
  id := 28
  fn := Try.f28
  hf := Try.func28
  hname := by kernel_rfl
  body := f28_b
  hbody := by kernel_rfl
  res := [rTmp 4]
  hres := by kernel_rfl
  n := 22
  hn := by kernel_rfl

end Go.Proofs.Ytjdpfblmhahfkaa.V

/- What the functions' runs come to; the right sides were printed by a tool, Lean checks them. -/
set_option linter.unusedVariables false
set_option maxRecDepth 100000
namespace Go.Proofs.Ytjdpfblmhahfkaa.V
open Go Go.V Go.RowKit

theorem rdtext_run0 (f : Bool) (l : List (List AV)) (os : List Ob) (tk : List (Nat × Nat)) :
    (f17.run 0 [.ptr 0 0] ⟨.cells [.sl 1 f l, .bool false] :: os, tk⟩ : Ans) =
    branch (AV.bool (fit (Br.sl f l)))
      (onSome (getN (nR l)) (some (Fin.ret (AV.str (ByteArray.mk #[])), St.mk (Ob.cells [AV.nilsl, AV.bool true] :: os) tk))
        fun (o : Int × Nat) =>
        branch (AV.bool (decide (o.fst < 0)))
          (some (Fin.ret (AV.str (ByteArray.mk #[])), St.mk (Ob.cells [AV.nilsl, AV.bool true] :: os) tk))
          (branch (AV.bool (decide (o.fst > (↑(List.drop o.snd l).length : Int))))
            (some (Fin.ret (AV.str (ByteArray.mk #[])), St.mk (Ob.cells [AV.nilsl, AV.bool true] :: os) tk))
            (if 0 ≤ o.fst ∧ o.fst ≤ (↑(List.drop o.snd l).length : Int) then
              onSome (numsOf (List.drop 0 (List.take o.fst.toNat (List.drop o.snd l)))) none fun (o_1 : List Int) =>
                if 0 ≤ o.fst ∧ o.fst ≤ (↑(List.drop o.snd l).length : Int) then
                  some
                    (Fin.ret (AV.str (textOf o_1)),
                      St.mk
                        (Ob.cells
                            [AV.sl 1 (f && (List.drop o.snd l).length.beq (List.drop o.snd l).length)
                                (List.drop o.fst.toNat (List.take (List.drop o.snd l).length (List.drop o.snd l))),
                              AV.bool false] ::
                          os)
                        tk)
                else none
            else none)))
      none := by kernel_rfl

theorem rdtext_nil0 (b : Bool) (os : List Ob) (tk : List (Nat × Nat)) :
    (f17.run 0 [.ptr 0 0] ⟨.cells [.nilsl, .bool b] :: os, tk⟩ : Ans) =
    some (Fin.ret (AV.str (ByteArray.mk #[])), St.mk (Ob.cells [AV.nilsl, AV.bool true] :: os) tk) := by kernel_rfl

theorem rdtext_run1 (f : Bool) (l : List (List AV)) (o : Ob) (os : List Ob) (tk : List (Nat × Nat)) :
    (f17.run 0 [.ptr 1 0] ⟨o :: .cells [.sl 1 f l, .bool false] :: os, tk⟩ : Ans) =
    branch (AV.bool (fit (Br.sl f l)))
      (onSome (getN (nR l))
        (some (Fin.ret (AV.str (ByteArray.mk #[])), St.mk (o :: Ob.cells [AV.nilsl, AV.bool true] :: os) tk))
        fun (o_1 : Int × Nat) =>
        branch (AV.bool (decide (o_1.fst < 0)))
          (some (Fin.ret (AV.str (ByteArray.mk #[])), St.mk (o :: Ob.cells [AV.nilsl, AV.bool true] :: os) tk))
          (branch (AV.bool (decide (o_1.fst > (↑(List.drop o_1.snd l).length : Int))))
            (some (Fin.ret (AV.str (ByteArray.mk #[])), St.mk (o :: Ob.cells [AV.nilsl, AV.bool true] :: os) tk))
            (if 0 ≤ o_1.fst ∧ o_1.fst ≤ (↑(List.drop o_1.snd l).length : Int) then
              onSome (numsOf (List.drop 0 (List.take o_1.fst.toNat (List.drop o_1.snd l)))) none fun (o_2 : List Int) =>
                if 0 ≤ o_1.fst ∧ o_1.fst ≤ (↑(List.drop o_1.snd l).length : Int) then
                  some
                    (Fin.ret (AV.str (textOf o_2)),
                      St.mk
                        (o ::
                          Ob.cells
                              [AV.sl 1 (f && (List.drop o_1.snd l).length.beq (List.drop o_1.snd l).length)
                                  (List.drop o_1.fst.toNat (List.take (List.drop o_1.snd l).length (List.drop o_1.snd l))),
                                AV.bool false] ::
                            os)
                        tk)
                else none
            else none)))
      none := by kernel_rfl

theorem rdtext_nil1 (b : Bool) (o : Ob) (os : List Ob) (tk : List (Nat × Nat)) :
    (f17.run 0 [.ptr 1 0] ⟨o :: .cells [.nilsl, .bool b] :: os, tk⟩ : Ans) =
    some (Fin.ret (AV.str (ByteArray.mk #[])), St.mk (o :: Ob.cells [AV.nilsl, AV.bool true] :: os) tk) := by kernel_rfl

theorem rdcount_run0 (f : Bool) (n : Int) (l : List (List AV)) (os : List Ob) (tk : List (Nat × Nat)) :
    (f28.run 0 [.ptr 0 0, .int .i64 n] ⟨.cells [.sl 1 f l, .bool false] :: os, tk⟩ : Ans) =
    branch (AV.bool (fit (Br.sl f l)))
      (onSome (getN (nR l))
        (branch (AV.bool (decide (0 > n)))
          (some (Fin.ret (AV.int IntKind.i64 0), St.mk (Ob.cells [AV.nilsl, AV.bool true] :: os) tk))
          (some (Fin.ret (AV.int IntKind.i64 0), St.mk (Ob.cells [AV.nilsl, AV.bool true] :: os) tk)))
        fun (o : Int × Nat) =>
        branch (AV.bool (decide (o.fst < 0)))
          (some (Fin.ret (AV.int IntKind.i64 0), St.mk (Ob.cells [AV.nilsl, AV.bool true] :: os) tk))
          (branch (AV.bool (decide (o.fst > n)))
            (some (Fin.ret (AV.int IntKind.i64 0), St.mk (Ob.cells [AV.nilsl, AV.bool true] :: os) tk))
            (some
              (Fin.ret (AV.int IntKind.i64 o.fst),
                St.mk (Ob.cells [AV.sl 1 f (List.drop o.snd l), AV.bool false] :: os) tk))))
      none := by kernel_rfl

theorem rdcount_nil0 (b : Bool) (n : Int) (os : List Ob) (tk : List (Nat × Nat)) :
    (f28.run 0 [.ptr 0 0, .int .i64 n] ⟨.cells [.nilsl, .bool b] :: os, tk⟩ : Ans) =
    branch (AV.bool (decide (0 > n)))
      (some (Fin.ret (AV.int IntKind.i64 0), St.mk (Ob.cells [AV.nilsl, AV.bool true] :: os) tk))
      (some (Fin.ret (AV.int IntKind.i64 0), St.mk (Ob.cells [AV.nilsl, AV.bool true] :: os) tk)) := by kernel_rfl

end Go.Proofs.Ytjdpfblmhahfkaa.V

/- Bits: a reader's next text, and the next count. -/
set_option linter.unusedVariables false
namespace Go.Proofs.Ytjdpfblmhahfkaa.V
open Go Go.V Go.RowKit

/-- Bytes as a text. -/
def txt (l : List Nat) : ByteArray := textOf (l.map fun (b : Nat) => (b : Int))
theorem foldl_push (l : List Nat) : ∀ r : ByteArray, ((l.map fun (b : Nat) => (b : Int)).foldl (fun r n => r.push (UInt8.ofNat n.toNat)) r).data.toList = r.data.toList ++ l.map fun (b : Nat) => UInt8.ofNat b := by
  induction l with
  | nil => intro r; simp
  | cons b l ih =>
    intro r
    simp only [List.map_cons, List.foldl_cons, ih, Int.toNat_natCast]
    simp [ByteArray.push]
theorem own_txt {l : List Nat} (h : ∀ b ∈ l, b < 256) : own (txt l) = l := by
  unfold own txt textOf
  rw [foldl_push]
  simp only [show ByteArray.empty.data.toList = [] from rfl, List.nil_append, List.map_map]
  conv => rhs; rw [← List.map_id l]
  exact List.map_congr_left fun b hb => by
    simp only [Function.comp, UInt8.toNat_ofNat', id]
    exact Nat.mod_eq_of_lt (h b hb)
theorem own_inj {s t : ByteArray} (h : own s = own t) : s = t := by
  unfold own at h
  have h2 : s.data.toList = t.data.toList := List.map_inj_right (f := UInt8.toNat) (fun _ _ e => UInt8.toNat_inj.mp e) |>.mp h
  have h3 : s.data = t.data := Array.toList_inj.mp h2
  cases s; cases t; simp only at h3; rw [h3]
theorem own_lt (s : ByteArray) : ∀ b ∈ own s, b < 256 := by
  intro b hb
  obtain ⟨x, _, rfl⟩ := List.mem_map.mp hb
  exact x.toNat_lt
theorem txt_own (s : ByteArray) : txt (own s) = s := own_inj (own_txt (own_lt s))

/-- The text that bytes begin with, and how many bytes it has. -/
def getS (l : List Nat) : Option (ByteArray × Nat) :=
  match getN l with
  | none => none
  | some o => if o.1 < 0 ∨ ((l.length - o.2 : Nat) : Int) < o.1 then none else some (txt ((l.drop o.2).take o.1.toNat), o.2 + o.1.toNat)
/-- The number from 0 to most that bytes begin with. -/
def getC (most : Int) (l : List Nat) : Option (Int × Nat) :=
  match getN l with
  | none => none
  | some o => if o.1 < 0 ∨ most < o.1 then none else some o

theorem numsOf_ok {l : List (List AV)} (h : okR l = true) : numsOf l = some (iR l) := by
  conv => lhs; rw [okR_ri h]
  exact numsOf_map _

def noText : ByteArray := ByteArray.mk #[]
theorem f17_spec {p : AV} {st : St} {f : Bool} {l : List (List AV)} {put : AV → Bool → St} (h : rdAt p st = some (.sl f false l, put)) (hf : fit (.sl f l) = true) :
    f17.run 0 [p] st = match getS (nR l) with
      | none => some (.ret (.str noText), put .nilsl true)
      | some o => some (.ret (.str o.1), put (.sl 1 f (l.drop o.2)) false) := by
  obtain ⟨h1, h2⟩ := fit_spec hf
  rcases rdAt_eq h with ⟨rfl, os, hs, rfl⟩ | ⟨rfl, o, os, hs, rfl⟩
  all_goals rw [hs]; simp only [Rd.cells]
  · rw [rdtext_run0, branch_of hf, getS]
    cases hg : getN (nR l) with
    | none => rfl
    | some o =>
      obtain ⟨n, k⟩ := o
      simp only [onSome, List.length_drop, nR_length]
      by_cases hn : n < 0
      · rw [branch_of (by simpa using hn), if_pos (.inl hn)]; rfl
      · rw [branch_not (by simpa using hn)]
        by_cases hm : ((l.length - k : Nat) : Int) < n
        · rw [branch_of (by simpa using hm), if_pos (.inr hm)]; rfl
        · rw [branch_not (by simpa using hm), if_pos (by omega), if_neg (by omega), List.drop_zero, numsOf_ok (okR_take (okR_drop (l := l) h1 _) _)]
          simp only
          rw [if_pos (by omega), show (List.take (l.length - k) (List.drop k l)) = List.drop k l from List.take_of_length_le (by simp)]
          simp only [Nat.beq_refl, Bool.and_true, List.drop_drop, iR, nR_take, nR_drop, txt]
  · rw [rdtext_run1, branch_of hf, getS]
    cases hg : getN (nR l) with
    | none => rfl
    | some o =>
      obtain ⟨n, k⟩ := o
      simp only [onSome, List.length_drop, nR_length]
      by_cases hn : n < 0
      · rw [branch_of (by simpa using hn), if_pos (.inl hn)]; rfl
      · rw [branch_not (by simpa using hn)]
        by_cases hm : ((l.length - k : Nat) : Int) < n
        · rw [branch_of (by simpa using hm), if_pos (.inr hm)]; rfl
        · rw [branch_not (by simpa using hm), if_pos (by omega), if_neg (by omega), List.drop_zero, numsOf_ok (okR_take (okR_drop (l := l) h1 _) _)]
          simp only
          rw [if_pos (by omega), show (List.take (l.length - k) (List.drop k l)) = List.drop k l from List.take_of_length_le (by simp)]
          simp only [Nat.beq_refl, Bool.and_true, List.drop_drop, iR, nR_take, nR_drop, txt]
theorem f17_nil {p : AV} {st : St} {b : Bool} {put : AV → Bool → St} (h : rdAt p st = some (.nil b, put)) : f17.run 0 [p] st = some (.ret (.str noText), put .nilsl true) := by
  rcases rdAt_eq h with ⟨rfl, os, hs, rfl⟩ | ⟨rfl, o, os, hs, rfl⟩
  all_goals rw [hs]; simp only [Rd.cells]
  · rw [rdtext_nil0]; rfl
  · rw [rdtext_nil1]; rfl
/-- Reader.Text. -/
noncomputable def q17 : OrcS Try.prog := f17.cps
  (fun args st k => match args with
    | [p] => match rdAt p st with
      | some (.nil _, put) => k (.ret (.str noText)) (put .nilsl true)
      | some (.sl f false l, put) => match fit (.sl f l) with
        | true => match getS (nR l) with
          | none => k (.ret (.str noText)) (put .nilsl true)
          | some o => k (.ret (.str o.1)) (put (.sl 1 f (l.drop o.2)) false)
        | false => none
      | _ => none
    | _ => none)
  fun args st k fin h => by
    split at h
    · split at h
      · rename_i h1; exact ⟨_, _, h, 0, f17_nil h1⟩
      · rename_i h1
        split at h
        · rename_i h2
          have := f17_spec h1 h2
          split at h
          · rename_i h3; rw [h3] at this; exact ⟨_, _, h, 0, this⟩
          · rename_i h3; rw [h3] at this; exact ⟨_, _, h, 0, this⟩
        · cases h
      · cases h
    · cases h

theorem f28_spec {st : St} {f : Bool} {l : List (List AV)} {n : Int} {put : AV → Bool → St} (h : rdAt (.ptr 0 0) st = some (.sl f false l, put)) (hf : fit (.sl f l) = true) :
    f28.run 0 [.ptr 0 0, .int .i64 n] st = match getC n (nR l) with
      | none => some (.ret (.int .i64 0), put .nilsl true)
      | some o => some (.ret (.int .i64 o.1), put (.sl 1 f (l.drop o.2)) false) := by
  rcases rdAt_eq h with ⟨_, os, hs, rfl⟩ | ⟨h3, o, os, hs, rfl⟩
  · rw [hs]; simp only [Rd.cells]
    rw [rdcount_run0, branch_of hf, getC]
    cases hg : getN (nR l) with
    | none => simp only [onSome]; cases decide (0 > n) <;> rfl
    | some o =>
      obtain ⟨m, k⟩ := o
      simp only [onSome]
      by_cases hn : m < 0
      · rw [branch_of (by simpa using hn), if_pos (.inl hn)]
      · rw [branch_not (by simpa using hn)]
        by_cases hm : n < m
        · rw [branch_of (by simpa using hm), if_pos (.inr hm)]
        · rw [branch_not (by simpa using hm), if_neg (by omega)]
  · cases h3
theorem f28_nil {st : St} {b : Bool} {n : Int} {put : AV → Bool → St} (h : rdAt (.ptr 0 0) st = some (.nil b, put)) : f28.run 0 [.ptr 0 0, .int .i64 n] st = some (.ret (.int .i64 0), put .nilsl true) := by
  rcases rdAt_eq h with ⟨_, os, hs, rfl⟩ | ⟨h3, o, os, hs, rfl⟩
  · rw [hs]; simp only [Rd.cells]
    rw [rdcount_nil0]
    cases decide (0 > n) <;> rfl
  · cases h3
/-- Reader.Count. -/
noncomputable def q28 : OrcS Try.prog := f28.cps
  (fun args st k => match args with
    | [.ptr 0 0, .int .i64 n] => match rdAt (.ptr 0 0) st with
      | some (.nil _, put) => k (.ret (.int .i64 0)) (put .nilsl true)
      | some (.sl f false l, put) => match fit (.sl f l) with
        | true => match getC n (nR l) with
          | none => k (.ret (.int .i64 0)) (put .nilsl true)
          | some o => k (.ret (.int .i64 o.1)) (put (.sl 1 f (l.drop o.2)) false)
        | false => none
      | _ => none
    | _ => none)
  fun args st k fin h => by
    split at h
    · split at h
      · rename_i h1; exact ⟨_, _, h, 0, f28_nil h1⟩
      · rename_i h1
        split at h
        · rename_i h2
          split at h
          · rename_i h3; exact ⟨_, _, h, 0, by rw [f28_spec h1 h2, h3]⟩
          · rename_i h3; exact ⟨_, _, h, 0, by rw [f28_spec h1 h2, h3]⟩
        · cases h
      · cases h
    · cases h
end Go.Proofs.Ytjdpfblmhahfkaa.V

/- The functions' pieces, as told by gen.py. -/
set_option linter.unusedVariables false
set_option maxRecDepth 20000
namespace Go.Proofs.Ytjdpfblmhahfkaa.V
open Go Go.V Go.RowKit

theorem sz9 : (Try.prog.info? 9).map (·.size) = some 1 := by kernel_rfl

/-! ### 20: interlock/bits.Texts (33); results 2; slots: 0 list, 1 list, 3 out, 4 _, 5 s -/
/-- A loop's round; at its head live: 3 out, 9 , 10 , 11  -/
noncomputable def f20_l0 : Sim Try.prog :=
  (.seq (.live [3, 9, 10, 11, 12] (.region 3 [
    ⟨(opBin (some 12) .lss 3 (.tmp 11) (.tmp 10) 3 0 "bits.go:34" #[]).op, none⟩
  ] (by kernel_rfl)))
  (.seq (.cond (.tmp 12)
    .skip
    (.live [3] (.exit 0)))
  (.seq (.block 1 (.seq (.live [3, 5, 9, 10, 11] (.region 4 [
      ⟨(opIndexAddr (some 13) 33 (.tmp 9) (.tmp 11) 9 1 Try.underlying33 sz9 0 "bits.go:34" #[]).op, none⟩,
      ⟨(opLoad (some 14) 9 (.tmp 13) .string Try.underlying9 1 sz9 9 "bits.go:34" #[{ on := 0, ground := Ground.data }]).op, none⟩,
      ⟨(opAssign (some 5) (.tmp 14) 9 "bits.go:34" #[{ on := 1, ground := Ground.data }, { on := 0, ground := Ground.phase }, { on := 1, ground := Ground.phase }]).op, none⟩
    ] (by kernel_rfl)))
    (.live [3, 9, 10, 11] (.region 5 [
      ⟨(opMove (some 15) (.tmp 3) 22 "bits.go:35" #[]).op, none⟩,
      ⟨(opMove (some 16) (.tmp 5) 9 "bits.go:35" #[]).op, none⟩,
      ⟨opCall (q16).orc (some 17) [(.tmp 16)] #[9] 22 "bits.go:35" #[{ on := 1, ground := Ground.data }], none⟩,
      ⟨(opAppend (some 18) (.tmp 15) (.tmp 17) 22 22 5 1 1 (.int .u8 0) el22 (.slice 5) Try.underlying22 rfl 22 "bits.go:35" #[{ on := 0, ground := Ground.data }, { on := 2, ground := Ground.data }, { on := 2, ground := Ground.chain }]).op, none⟩,
      ⟨(opAssign (some 3) (.tmp 18) 22 "bits.go:35" #[{ on := 3, ground := Ground.data }, { on := 3, ground := Ground.chain }, { on := 0, ground := Ground.phase }, { on := 1, ground := Ground.phase }, { on := 2, ground := Ground.phase }, { on := 3, ground := Ground.phase }]).op, none⟩
    ] (by kernel_rfl)))))
  (.live [3, 9, 10, 11] (.region 6 [
    ⟨(opBin (some 19) .add 3 (.tmp 11) (.const (Value.int IntKind.i64 1)) 3 3 "bits.go:34" #[]).op, none⟩,
    ⟨(opMove (some 11) (.tmp 19) 3 "bits.go:34" #[{ on := 0, ground := Ground.data }]).op, none⟩
  ] (by kernel_rfl))))))

/-- What follows a loop. -/
noncomputable def f20_r0 : Sim Try.prog :=
  (.seq (.live [2] (.region 7 [
    ⟨(opMove (some 20) (.tmp 3) 22 "bits.go:37" #[]).op, none⟩,
    ⟨(opAssign (some 2) (.tmp 20) 22 "bits.go:37" #[{ on := 0, ground := Ground.data }, { on := 0, ground := Ground.phase }]).op, none⟩
  ] (by kernel_rfl)))
  (.live [2] .ret))

noncomputable def f20_b : Sim Try.prog :=
  (.seq (.live [0] (.region 0 [
    ⟨(opAssign (some 2) (.const (Value.slice none 0 0)) 22 "bits.go:32" #[]).op, none⟩
  ] (by kernel_rfl)))
  (.seq (.live [0, 3] (.region 1 [
    ⟨(opMove (some 6) (.tmp 0) 33 "bits.go:33" #[]).op, none⟩,
    ⟨(opLen (some 7) (.tmp 6) 33 (.slice 9) Try.underlying33 3 "bits.go:33" #[{ on := 0, ground := Ground.data }]).op, none⟩,
    ⟨opCall (q15).orc (some 8) [(.tmp 7)] #[3] 22 "bits.go:33" #[{ on := 1, ground := Ground.data }], none⟩,
    ⟨(opAssign (some 3) (.tmp 8) 22 "bits.go:33" #[{ on := 2, ground := Ground.data }, { on := 2, ground := Ground.chain }, { on := 0, ground := Ground.phase }, { on := 1, ground := Ground.phase }, { on := 2, ground := Ground.phase }]).op, none⟩
  ] (by kernel_rfl)))
  (.seq (.seq (.live [3, 9, 10, 11] (.region 2 [
    ⟨(opMove (some 9) (.tmp 0) 33 "bits.go:34" #[]).op, none⟩,
    ⟨(opLen (some 10) (.tmp 9) 33 (.slice 9) Try.underlying33 3 "bits.go:34" #[{ on := 0, ground := Ground.data }]).op, none⟩,
    ⟨(opMove (some 11) (.const (Value.int IntKind.i64 0)) 3 "bits.go:34" #[]).op, none⟩
  ] (by kernel_rfl)))
  (.block 0 (.loop [3, 9, 10, 11] f20_l0)))
  f20_r0)))

noncomputable def f20 : Fun Try.prog where
  id := 20
  fn := Try.f20
  hf := Try.func20
  hname := by kernel_rfl
  body := f20_b
  hbody := by kernel_rfl
  res := [rTmp 2]
  hres := by kernel_rfl
  n := 21
  hn := by kernel_rfl

/-! ### 21: interlock/interlockref01.Texts (33); results 2; slots: 0 list, 1 list, 3 out, 4 i -/
/-- A loop's round; at its head live: 0 list, 3 out, 4 i -/
noncomputable def f21_l0 : Sim Try.prog :=
  (.seq (.seq (.live [0, 3, 4, 11] (.region 3 [
    ⟨(opMove (some 8) (.tmp 4) 3 "ref.go:26" #[]).op, none⟩,
    ⟨(opMove (some 9) (.tmp 0) 33 "ref.go:26" #[]).op, none⟩,
    ⟨(opLen (some 10) (.tmp 9) 33 (.slice 9) Try.underlying33 3 "ref.go:26" #[{ on := 1, ground := Ground.data }]).op, none⟩,
    ⟨(opBin (some 11) .lss 3 (.tmp 8) (.tmp 10) 3 4 "ref.go:26" #[{ on := 0, ground := Ground.data }, { on := 2, ground := Ground.data }]).op, none⟩
  ] (by kernel_rfl)))
  (.cond (.tmp 11)
    .skip
    (.live [3] (.exit 0))))
  (.seq (.block 1 (.live [0, 3, 4] (.region 5 [
      ⟨(opMove (some 14) (.tmp 3) 22 "ref.go:27" #[]).op, none⟩,
      ⟨(opMove (some 15) (.tmp 0) 33 "ref.go:27" #[]).op, none⟩,
      ⟨(opMove (some 16) (.tmp 4) 3 "ref.go:27" #[]).op, none⟩,
      ⟨(opIndexAddr (some 17) 33 (.tmp 15) (.tmp 16) 9 1 Try.underlying33 sz9 0 "ref.go:27" #[{ on := 1, ground := Ground.data }, { on := 2, ground := Ground.data }]).op, none⟩,
      ⟨(opLoad (some 18) 9 (.tmp 17) .string Try.underlying9 1 sz9 9 "ref.go:27" #[{ on := 3, ground := Ground.data }]).op, none⟩,
      ⟨opCall (q19).orc (some 19) [(.tmp 18)] #[9] 22 "ref.go:27" #[{ on := 4, ground := Ground.data }], none⟩,
      ⟨(opAppend (some 20) (.tmp 14) (.tmp 19) 22 22 5 1 1 (.int .u8 0) el22 (.slice 5) Try.underlying22 rfl 22 "ref.go:27" #[{ on := 0, ground := Ground.data }, { on := 5, ground := Ground.data }, { on := 5, ground := Ground.chain }]).op, none⟩,
      ⟨(opAssign (some 3) (.tmp 20) 22 "ref.go:27" #[{ on := 6, ground := Ground.data }, { on := 6, ground := Ground.chain }, { on := 0, ground := Ground.phase }, { on := 1, ground := Ground.phase }, { on := 2, ground := Ground.phase }, { on := 3, ground := Ground.phase }, { on := 4, ground := Ground.phase }, { on := 5, ground := Ground.phase }, { on := 6, ground := Ground.phase }]).op, none⟩
    ] (by kernel_rfl))))
  (.live [0, 3, 4] (.region 4 [
    ⟨(opMove (some 12) (.tmp 4) 3 "ref.go:26" #[]).op, none⟩,
    ⟨(opBin (some 13) .add 3 (.tmp 12) (.const (Value.int IntKind.i64 1)) 3 3 "ref.go:26" #[{ on := 0, ground := Ground.data }]).op, none⟩,
    ⟨(opAssign (some 4) (.tmp 13) 3 "ref.go:26" #[{ on := 1, ground := Ground.data }, { on := 0, ground := Ground.phase }, { on := 1, ground := Ground.phase }]).op, none⟩
  ] (by kernel_rfl)))))

/-- What follows a loop. -/
noncomputable def f21_r0 : Sim Try.prog :=
  (.seq (.live [2] (.region 6 [
    ⟨(opMove (some 21) (.tmp 3) 22 "ref.go:29" #[]).op, none⟩,
    ⟨(opAssign (some 2) (.tmp 21) 22 "ref.go:29" #[{ on := 0, ground := Ground.data }, { on := 0, ground := Ground.phase }]).op, none⟩
  ] (by kernel_rfl)))
  (.live [2] .ret))

noncomputable def f21_b : Sim Try.prog :=
  (.seq (.live [0] (.region 0 [
    ⟨(opAssign (some 2) (.const (Value.slice none 0 0)) 22 "ref.go:24" #[]).op, none⟩
  ] (by kernel_rfl)))
  (.seq (.live [0, 3] (.region 1 [
    ⟨(opMove (some 5) (.tmp 0) 33 "ref.go:25" #[]).op, none⟩,
    ⟨(opLen (some 6) (.tmp 5) 33 (.slice 9) Try.underlying33 3 "ref.go:25" #[{ on := 0, ground := Ground.data }]).op, none⟩,
    ⟨opCall (q18).orc (some 7) [(.tmp 6)] #[3] 22 "ref.go:25" #[{ on := 1, ground := Ground.data }], none⟩,
    ⟨(opAssign (some 3) (.tmp 7) 22 "ref.go:25" #[{ on := 2, ground := Ground.data }, { on := 2, ground := Ground.chain }, { on := 0, ground := Ground.phase }, { on := 1, ground := Ground.phase }, { on := 2, ground := Ground.phase }]).op, none⟩
  ] (by kernel_rfl)))
  (.seq (.seq (.live [0, 3, 4] (.region 2 [
    ⟨(opAssign (some 4) (.const (Value.int IntKind.i64 0)) 3 "ref.go:26" #[]).op, none⟩
  ] (by kernel_rfl)))
  (.block 0 (.loop [0, 3, 4] f21_l0)))
  f21_r0)))

noncomputable def f21 : Fun Try.prog where
  id := 21
  fn := Try.f21
  hf := Try.func21
  hname := by kernel_rfl
  body := f21_b
  hbody := by kernel_rfl
  res := [rTmp 2]
  hres := by kernel_rfl
  n := 22
  hn := by kernel_rfl

/-! ### 9: interlock/interlocklaw01.alive (); results 0; slots: 1 r -/
noncomputable def f9_b : Sim Try.prog :=
  (.seq (.live [] (.region 0 [
    ⟨(opAssign (some 0) (.const (Value.bool false)) 4 "law.go:11" #[]).op, none⟩
  ] (by kernel_rfl)))
  (.seq (.live [1] (.region 1 [
    ⟨(opBuildSlice (some 2) 22 5 [(0, (.const (Value.int IntKind.u8 128))), (1, (.const (Value.int IntKind.u8 1))), (2, (.const (Value.int IntKind.u8 2))), (3, (.const (Value.int IntKind.u8 97))), (4, (.const (Value.int IntKind.u8 98)))] 5 1 1 (.int .u8 0) el22 (by kernel_rfl) (by decide) 22 "law.go:12" #[]).op, none⟩,
    ⟨opCall (f10.orc 0) (some 3) [(.tmp 2)] #[22] 24 "law.go:12" #[{ on := 0, ground := Ground.data }], none⟩,
    ⟨(opAssign (some 1) (.tmp 3) 24 "law.go:12" #[{ on := 1, ground := Ground.data }, { on := 1, ground := Ground.chain }, { on := 0, ground := Ground.phase }, { on := 1, ground := Ground.phase }]).op, none⟩
  ] (by kernel_rfl)))
  (.seq (.live [0] (.region 2 [
    ⟨(opMove (some 4) (.tmp 1) 24 "law.go:13" #[]).op, none⟩,
    ⟨(opNe (some 5) 24 (.pointer 48) Try.underlying24 (.tmp 4) (.const (Value.pointer none)) (.inl rfl) 24 4 "law.go:13" #[{ on := 0, ground := Ground.data }]).op, none⟩,
    ⟨(opMove (some 6) (.tmp 5) 4 "law.go:13" #[{ on := 1, ground := Ground.data }]).op, none⟩,
    ⟨opCall (q15).orc (some 7) [(.const (Value.int IntKind.i64 (-1)))] #[3] 22 "law.go:13" #[{ on := 2, ground := Ground.chain }, { on := 2, ground := Ground.guard }], (some (2, 6, true))⟩,
    ⟨(opBuildSlice (some 8) 22 1 [(0, (.const (Value.int IntKind.u8 1)))] 5 1 1 (.int .u8 0) el22 (by kernel_rfl) (by decide) 22 "law.go:13" #[{ on := 2, ground := Ground.guard }]).op, (some (2, 6, true))⟩,
    ⟨(opCallP r14 (some 9) [(.tmp 7), (.tmp 8)] #[22, 22] 4 "law.go:13" #[{ on := 3, ground := Ground.data }, { on := 4, ground := Ground.data }, { on := 3, ground := Ground.chain }, { on := 2, ground := Ground.guard }]).op, (some (2, 6, true))⟩,
    ⟨(opPick (some 10) (.tmp 6) (.tmp 9) (.const (Value.bool false)) 4 "law.go:13" #[{ on := 2, ground := Ground.data }, { on := 5, ground := Ground.data }]).op, none⟩,
    ⟨(opMove (some 11) (.tmp 10) 4 "law.go:13" #[{ on := 6, ground := Ground.data }, { on := 5, ground := Ground.chain }]).op, none⟩,
    ⟨opCall (q15).orc (some 12) [(.const (Value.int IntKind.i64 64))] #[3] 22 "law.go:13" #[{ on := 7, ground := Ground.chain }, { on := 7, ground := Ground.guard }], (some (7, 11, true))⟩,
    ⟨(opBuildSlice (some 13) 22 2 [(0, (.const (Value.int IntKind.u8 128))), (1, (.const (Value.int IntKind.u8 1)))] 5 1 1 (.int .u8 0) el22 (by kernel_rfl) (by decide) 22 "law.go:13" #[{ on := 7, ground := Ground.guard }]).op, (some (7, 11, true))⟩,
    ⟨(opCallP r14 (some 14) [(.tmp 12), (.tmp 13)] #[22, 22] 4 "law.go:13" #[{ on := 8, ground := Ground.data }, { on := 9, ground := Ground.data }, { on := 8, ground := Ground.chain }, { on := 7, ground := Ground.guard }]).op, (some (7, 11, true))⟩,
    ⟨(opPick (some 15) (.tmp 11) (.tmp 14) (.const (Value.bool false)) 4 "law.go:13" #[{ on := 7, ground := Ground.data }, { on := 10, ground := Ground.data }]).op, none⟩,
    ⟨(opMove (some 16) (.tmp 15) 4 "law.go:13" #[{ on := 11, ground := Ground.data }, { on := 10, ground := Ground.chain }]).op, none⟩,
    ⟨(opMove (some 17) (.tmp 1) 24 "law.go:13" #[{ on := 12, ground := Ground.guard }]).op, (some (12, 16, true))⟩,
    ⟨opCall (q11).orc (some 18) [(.tmp 17)] #[24] 3 "law.go:13" #[{ on := 13, ground := Ground.data }, { on := 12, ground := Ground.chain }, { on := 12, ground := Ground.guard }], (some (12, 16, true))⟩,
    ⟨(opBin (some 19) .eql 3 (.tmp 18) (.const (Value.int IntKind.i64 64)) 3 4 "law.go:13" #[{ on := 14, ground := Ground.data }, { on := 12, ground := Ground.guard }]).op, (some (12, 16, true))⟩,
    ⟨(opPick (some 20) (.tmp 16) (.tmp 19) (.const (Value.bool false)) 4 "law.go:13" #[{ on := 12, ground := Ground.data }, { on := 15, ground := Ground.data }]).op, none⟩,
    ⟨(opMove (some 21) (.tmp 20) 4 "law.go:13" #[{ on := 16, ground := Ground.data }, { on := 14, ground := Ground.chain }]).op, none⟩,
    ⟨(opMove (some 22) (.tmp 1) 24 "law.go:13" #[{ on := 17, ground := Ground.guard }]).op, (some (17, 21, true))⟩,
    ⟨opCall (q17).orc (some 23) [(.tmp 22)] #[24] 9 "law.go:13" #[{ on := 18, ground := Ground.data }, { on := 17, ground := Ground.chain }, { on := 17, ground := Ground.guard }], (some (17, 21, true))⟩,
    ⟨(opBinS (some 24) .eql 9 (.tmp 23) (.const (Value.string { data := #[97] })) 9 4 "law.go:13" #[{ on := 19, ground := Ground.data }, { on := 17, ground := Ground.guard }]).op, (some (17, 21, true))⟩,
    ⟨(opPick (some 25) (.tmp 21) (.tmp 24) (.const (Value.bool false)) 4 "law.go:13" #[{ on := 17, ground := Ground.data }, { on := 20, ground := Ground.data }]).op, none⟩,
    ⟨(opMove (some 26) (.tmp 25) 4 "law.go:13" #[{ on := 21, ground := Ground.data }, { on := 19, ground := Ground.chain }]).op, none⟩,
    ⟨(opMove (some 27) (.tmp 1) 24 "law.go:13" #[{ on := 22, ground := Ground.guard }]).op, (some (22, 26, true))⟩,
    ⟨opCall (f12.orc 0) (some 28) [(.tmp 27)] #[24] 4 "law.go:13" #[{ on := 23, ground := Ground.data }, { on := 22, ground := Ground.chain }, { on := 22, ground := Ground.guard }], (some (22, 26, true))⟩,
    ⟨(opNot (some 29) 4 (.tmp 28) 4 "law.go:13" #[{ on := 24, ground := Ground.data }, { on := 22, ground := Ground.guard }]).op, (some (22, 26, true))⟩,
    ⟨(opPick (some 30) (.tmp 26) (.tmp 29) (.const (Value.bool false)) 4 "law.go:13" #[{ on := 22, ground := Ground.data }, { on := 25, ground := Ground.data }]).op, none⟩,
    ⟨(opAssign (some 0) (.tmp 30) 4 "law.go:13" #[{ on := 26, ground := Ground.data }, { on := 24, ground := Ground.chain }, { on := 0, ground := Ground.phase }, { on := 1, ground := Ground.phase }, { on := 2, ground := Ground.phase }, { on := 3, ground := Ground.phase }, { on := 4, ground := Ground.phase }, { on := 5, ground := Ground.phase }, { on := 6, ground := Ground.phase }, { on := 7, ground := Ground.phase }, { on := 8, ground := Ground.phase }, { on := 9, ground := Ground.phase }, { on := 10, ground := Ground.phase }, { on := 11, ground := Ground.phase }, { on := 12, ground := Ground.phase }, { on := 13, ground := Ground.phase }, { on := 14, ground := Ground.phase }, { on := 15, ground := Ground.phase }, { on := 16, ground := Ground.phase }, { on := 17, ground := Ground.phase }, { on := 18, ground := Ground.phase }, { on := 19, ground := Ground.phase }, { on := 20, ground := Ground.phase }, { on := 21, ground := Ground.phase }, { on := 22, ground := Ground.phase }, { on := 23, ground := Ground.phase }, { on := 24, ground := Ground.phase }, { on := 25, ground := Ground.phase }, { on := 26, ground := Ground.phase }]).op, none⟩
  ] (by kernel_rfl)))
  (.live [0] .ret))))

noncomputable def f9 : Fun Try.prog where
  id := 9
  fn := Try.f9
  hf := Try.func9
  hname := by kernel_rfl
  body := f9_b
  hbody := by kernel_rfl
  res := [rTmp 0]
  hres := by kernel_rfl
  n := 31
  hn := by kernel_rfl

end Go.Proofs.Ytjdpfblmhahfkaa.V

/- What the functions' runs come to; the right sides were printed by a tool, Lean checks them. -/
set_option linter.unusedVariables false
set_option maxRecDepth 100000
namespace Go.Proofs.Ytjdpfblmhahfkaa.V
open Go Go.V Go.RowKit

theorem alive_run  :
    (f9.run 20 [] ⟨[], []⟩ : Ans) =
    some (Fin.ret (AV.bool true), St.mk [Ob.cells [AV.sl 1 false [[AV.int IntKind.u8 98]], AV.bool false]] [(1, 1), (1, 2)]) := by kernel_rfl

theorem texts_run (F : Nat) (f : Bool) (l : List (List AV)) (st : St) :
    (f20.run F [.sl 1 f l] st : Ans) =
    branch (AV.bool (i64B (↑l.length : Int)))
      (loopRun (f20_l0.run F) [3, 9, 10, 11]
        (Cont.block 0 (Cont.then (f20_r0.run F (f20.leaveK Fun.done)) (f20.leaveK Fun.done))) F
        (Env.mk 21
          [(3, AV.lg st.tk.length 1 (rb (intBytes (↑l.length : Int)))), (9, AV.sl 1 f l),
            (10, AV.int IntKind.i64 (↑l.length : Int)), (11, AV.int IntKind.i64 0)])
        (St.mk st.objs (st.tk ++ [(1, (intBytes (↑l.length : Int)).length)])))
      none := by kernel_rfl

theorem rtexts_run (F : Nat) (f : Bool) (l : List (List AV)) (st : St) :
    (f21.run F [.sl 1 f l] st : Ans) =
    branch (AV.bool (i64B (↑l.length : Int)))
      (loopRun (f21_l0.run F) [0, 3, 4]
        (Cont.block 0 (Cont.then (f21_r0.run F (f21.leaveK Fun.done)) (f21.leaveK Fun.done))) F
        (Env.mk 22
          [(0, AV.sl 1 f l), (3, AV.lg st.tk.length 1 (rb (intBytes (↑l.length : Int)))), (4, AV.int IntKind.i64 0)])
        (St.mk st.objs (st.tk ++ [(1, (intBytes (↑l.length : Int)).length)])))
      none := by kernel_rfl

end Go.Proofs.Ytjdpfblmhahfkaa.V

/- Bits: alive. -/
set_option linter.unusedVariables false
namespace Go.Proofs.Ytjdpfblmhahfkaa.V
open Go Go.V Go.RowKit
noncomputable def p9 : POrc Try.prog := f9.flatIf dec0 (fun _ => []) dec0_enc (fun _ => true) (fun _ => .bool true) (fun _ => trivial) (fun _ => trivial) fun _ _ => ⟨20, _, alive_run⟩

end Go.Proofs.Ytjdpfblmhahfkaa.V

/- The functions' pieces, as told by gen.py. -/
set_option linter.unusedVariables false
set_option maxRecDepth 20000
namespace Go.Proofs.Ytjdpfblmhahfkaa.V
open Go Go.V Go.RowKit


/-! ### 3: interlock/interlocklaw01.BitsOne (22); results 2; slots: 0 b, 1 b, 3 r, 4 n -/
noncomputable def f3_b : Sim Try.prog :=
  (.seq (.live [0] (.region 0 [
    ⟨(opAssign (some 2) (.const (Value.bool false)) 4 "law.go:109" #[]).op, none⟩
  ] (by kernel_rfl)))
  (.seq (.seq (.live [0, 6] (.region 1 [
    ⟨(opCallP p9 (some 5) [] #[] 4 "law.go:110" #[]).op, none⟩,
    ⟨(opNot (some 6) 4 (.tmp 5) 4 "law.go:110" #[{ on := 0, ground := Ground.data }]).op, none⟩
  ] (by kernel_rfl)))
  (.cond (.tmp 6)
    (.seq (.live [2] (.region 2 [
      ⟨(opAssign (some 2) (.const (Value.bool false)) 4 "law.go:111" #[]).op, none⟩
    ] (by kernel_rfl)))
    (.live [2] .ret))
    .skip))
  (.seq (.seq (.live [0, 9] (.region 3 [
    ⟨(opMove (some 7) (.tmp 0) 22 "law.go:113" #[]).op, none⟩,
    ⟨(opLen (some 8) (.tmp 7) 22 (.slice 5) Try.underlying22 3 "law.go:113" #[{ on := 0, ground := Ground.data }]).op, none⟩,
    ⟨(opBin (some 9) .gtr 3 (.tmp 8) (.const (Value.int IntKind.i64 500)) 3 4 "law.go:113" #[{ on := 1, ground := Ground.data }]).op, none⟩
  ] (by kernel_rfl)))
  (.cond (.tmp 9)
    (.seq (.live [2] (.region 4 [
      ⟨(opAssign (some 2) (.const (Value.bool true)) 4 "law.go:114" #[]).op, none⟩
    ] (by kernel_rfl)))
    (.live [2] .ret))
    .skip))
  (.seq (.live [0, 3] (.region 5 [
    ⟨(opMove (some 10) (.tmp 0) 22 "law.go:116" #[]).op, none⟩,
    ⟨opCall (f10.orc 0) (some 11) [(.tmp 10)] #[22] 24 "law.go:116" #[{ on := 0, ground := Ground.data }], none⟩,
    ⟨(opAssign (some 3) (.tmp 11) 24 "law.go:116" #[{ on := 1, ground := Ground.data }, { on := 1, ground := Ground.chain }, { on := 0, ground := Ground.phase }, { on := 1, ground := Ground.phase }]).op, none⟩
  ] (by kernel_rfl)))
  (.seq (.seq (.live [0, 3, 13] (.region 6 [
    ⟨(opMove (some 12) (.tmp 3) 24 "law.go:117" #[]).op, none⟩,
    ⟨(opEq (some 13) 24 (.pointer 48) Try.underlying24 (.tmp 12) (.const (Value.pointer none)) (.inl rfl) 24 4 "law.go:117" #[{ on := 0, ground := Ground.data }]).op, none⟩
  ] (by kernel_rfl)))
  (.cond (.tmp 13)
    (.seq (.live [2] (.region 7 [
      ⟨(opAssign (some 2) (.const (Value.bool false)) 4 "law.go:118" #[]).op, none⟩
    ] (by kernel_rfl)))
    (.live [2] .ret))
    .skip))
  (.seq (.live [0, 3, 4] (.region 8 [
    ⟨(opMove (some 14) (.tmp 3) 24 "law.go:120" #[]).op, none⟩,
    ⟨opCall (q11).orc (some 15) [(.tmp 14)] #[24] 3 "law.go:120" #[{ on := 0, ground := Ground.data }], none⟩,
    ⟨(opAssign (some 4) (.tmp 15) 3 "law.go:120" #[{ on := 1, ground := Ground.data }, { on := 1, ground := Ground.chain }, { on := 0, ground := Ground.phase }, { on := 1, ground := Ground.phase }]).op, none⟩
  ] (by kernel_rfl)))
  (.seq (.seq (.live [0, 3, 4, 17] (.region 9 [
    ⟨(opMove (some 16) (.tmp 3) 24 "law.go:121" #[]).op, none⟩,
    ⟨opCall (f12.orc 0) (some 17) [(.tmp 16)] #[24] 4 "law.go:121" #[{ on := 0, ground := Ground.data }], none⟩
  ] (by kernel_rfl)))
  (.cond (.tmp 17)
    (.seq (.live [2] (.region 10 [
      ⟨(opMove (some 18) (.tmp 4) 3 "law.go:122" #[]).op, none⟩,
      ⟨(opBin (some 19) .eql 3 (.tmp 18) (.const (Value.int IntKind.i64 0)) 3 4 "law.go:122" #[{ on := 0, ground := Ground.data }]).op, none⟩,
      ⟨(opMove (some 20) (.tmp 19) 4 "law.go:122" #[{ on := 1, ground := Ground.data }]).op, none⟩,
      ⟨(opMove (some 21) (.tmp 3) 24 "law.go:122" #[{ on := 2, ground := Ground.guard }]).op, (some (2, 20, true))⟩,
      ⟨opCall (f13.orc 0) (some 22) [(.tmp 21)] #[24] 3 "law.go:122" #[{ on := 3, ground := Ground.data }, { on := 2, ground := Ground.chain }, { on := 2, ground := Ground.guard }], (some (2, 20, true))⟩,
      ⟨(opBin (some 23) .eql 3 (.tmp 22) (.const (Value.int IntKind.i64 0)) 3 4 "law.go:122" #[{ on := 4, ground := Ground.data }, { on := 2, ground := Ground.guard }]).op, (some (2, 20, true))⟩,
      ⟨(opPick (some 24) (.tmp 20) (.tmp 23) (.const (Value.bool false)) 4 "law.go:122" #[{ on := 2, ground := Ground.data }, { on := 5, ground := Ground.data }]).op, none⟩,
      ⟨(opAssign (some 2) (.tmp 24) 4 "law.go:122" #[{ on := 6, ground := Ground.data }, { on := 4, ground := Ground.chain }, { on := 0, ground := Ground.phase }, { on := 1, ground := Ground.phase }, { on := 2, ground := Ground.phase }, { on := 3, ground := Ground.phase }, { on := 4, ground := Ground.phase }, { on := 5, ground := Ground.phase }, { on := 6, ground := Ground.phase }]).op, none⟩
    ] (by kernel_rfl)))
    (.live [2] .ret))
    .skip))
  (.seq (.live [2] (.region 11 [
    ⟨(opMove (some 25) (.tmp 4) 3 "law.go:124" #[]).op, none⟩,
    ⟨opCall (q15).orc (some 26) [(.tmp 25)] #[3] 22 "law.go:124" #[{ on := 0, ground := Ground.data }], none⟩,
    ⟨(opMove (some 27) (.tmp 0) 22 "law.go:124" #[]).op, none⟩,
    ⟨(opMove (some 28) (.tmp 0) 22 "law.go:124" #[]).op, none⟩,
    ⟨(opLen (some 29) (.tmp 28) 22 (.slice 5) Try.underlying22 3 "law.go:124" #[{ on := 3, ground := Ground.data }]).op, none⟩,
    ⟨(opMove (some 30) (.tmp 3) 24 "law.go:124" #[]).op, none⟩,
    ⟨opCall (f13.orc 0) (some 31) [(.tmp 30)] #[24] 3 "law.go:124" #[{ on := 5, ground := Ground.data }, { on := 1, ground := Ground.chain }], none⟩,
    ⟨(opBin (some 32) .sub 3 (.tmp 29) (.tmp 31) 3 3 "law.go:124" #[{ on := 4, ground := Ground.data }, { on := 6, ground := Ground.data }]).op, none⟩,
    ⟨(opSlice (some 33) 22 (.tmp 27) none (some (.tmp 32)) none 5 1 Try.underlying22 sz5 22 "law.go:124" #[{ on := 2, ground := Ground.data }, { on := 7, ground := Ground.data }]).op, none⟩,
    ⟨(opCallP r14 (some 34) [(.tmp 26), (.tmp 33)] #[22, 22] 4 "law.go:124" #[{ on := 1, ground := Ground.data }, { on := 8, ground := Ground.data }, { on := 6, ground := Ground.chain }]).op, none⟩,
    ⟨(opAssign (some 2) (.tmp 34) 4 "law.go:124" #[{ on := 9, ground := Ground.data }, { on := 9, ground := Ground.chain }, { on := 0, ground := Ground.phase }, { on := 1, ground := Ground.phase }, { on := 2, ground := Ground.phase }, { on := 3, ground := Ground.phase }, { on := 4, ground := Ground.phase }, { on := 5, ground := Ground.phase }, { on := 6, ground := Ground.phase }, { on := 7, ground := Ground.phase }, { on := 8, ground := Ground.phase }, { on := 9, ground := Ground.phase }]).op, none⟩
  ] (by kernel_rfl)))
  (.live [2] .ret)))))))))

noncomputable def f3 : Fun Try.prog where
  id := 3
  fn := Try.f3
  hf := Try.func3
  hname := by kernel_rfl
  body := f3_b
  hbody := by kernel_rfl
  res := [rTmp 2]
  hres := by kernel_rfl
  n := 35
  hn := by kernel_rfl

/-! ### 4: interlock/interlocklaw01.BitsShort (3, 9, 3); results 6; slots: 0 n, 1 s, 2 cut, 3 n, 4 s, 5 cut, 7 a, 8 b, 9 r, 10 r -/
noncomputable def f4_b : Sim Try.prog :=
  (.seq (.live [0, 1, 2] (.region 0 [
    ⟨(opAssign (some 6) (.const (Value.bool false)) 4 "law.go:128" #[]).op, none⟩
  ] (by kernel_rfl)))
  (.seq (.seq (.live [0, 1, 2, 12] (.region 1 [
    ⟨(opCallP p9 (some 11) [] #[] 4 "law.go:129" #[]).op, none⟩,
    ⟨(opNot (some 12) 4 (.tmp 11) 4 "law.go:129" #[{ on := 0, ground := Ground.data }]).op, none⟩
  ] (by kernel_rfl)))
  (.cond (.tmp 12)
    (.seq (.live [6] (.region 2 [
      ⟨(opAssign (some 6) (.const (Value.bool false)) 4 "law.go:130" #[]).op, none⟩
    ] (by kernel_rfl)))
    (.live [6] .ret))
    .skip))
  (.seq (.seq (.live [0, 1, 2, 19] (.region 3 [
    ⟨(opMove (some 13) (.tmp 1) 9 "law.go:132" #[]).op, none⟩,
    ⟨(opLen (some 14) (.tmp 13) 9 .string Try.underlying9 3 "law.go:132" #[{ on := 0, ground := Ground.data }]).op, none⟩,
    ⟨(opBin (some 15) .gtr 3 (.tmp 14) (.const (Value.int IntKind.i64 1000)) 3 4 "law.go:132" #[{ on := 1, ground := Ground.data }]).op, none⟩,
    ⟨(opMove (some 16) (.tmp 15) 4 "law.go:132" #[{ on := 2, ground := Ground.data }]).op, none⟩,
    ⟨(opMove (some 17) (.tmp 2) 3 "law.go:132" #[{ on := 3, ground := Ground.guard }]).op, (some (3, 16, false))⟩,
    ⟨(opBin (some 18) .lss 3 (.tmp 17) (.const (Value.int IntKind.i64 0)) 3 4 "law.go:132" #[{ on := 4, ground := Ground.data }, { on := 3, ground := Ground.guard }]).op, (some (3, 16, false))⟩,
    ⟨(opPick (some 19) (.tmp 16) (.const (Value.bool true)) (.tmp 18) 4 "law.go:132" #[{ on := 3, ground := Ground.data }, { on := 5, ground := Ground.data }]).op, none⟩
  ] (by kernel_rfl)))
  (.cond (.tmp 19)
    (.seq (.live [6] (.region 4 [
      ⟨(opAssign (some 6) (.const (Value.bool true)) 4 "law.go:133" #[]).op, none⟩
    ] (by kernel_rfl)))
    (.live [6] .ret))
    .skip))
  (.seq (.live [1, 2, 7] (.region 5 [
    ⟨(opMove (some 20) (.tmp 0) 3 "law.go:135" #[]).op, none⟩,
    ⟨opCall (q15).orc (some 21) [(.tmp 20)] #[3] 22 "law.go:135" #[{ on := 0, ground := Ground.data }], none⟩,
    ⟨(opAssign (some 7) (.tmp 21) 22 "law.go:135" #[{ on := 1, ground := Ground.data }, { on := 1, ground := Ground.chain }, { on := 0, ground := Ground.phase }, { on := 1, ground := Ground.phase }]).op, none⟩
  ] (by kernel_rfl)))
  (.seq (.live [2, 7, 8] (.region 6 [
    ⟨(opMove (some 22) (.tmp 1) 9 "law.go:136" #[]).op, none⟩,
    ⟨opCall (q16).orc (some 23) [(.tmp 22)] #[9] 22 "law.go:136" #[{ on := 0, ground := Ground.data }], none⟩,
    ⟨(opAssign (some 8) (.tmp 23) 22 "law.go:136" #[{ on := 1, ground := Ground.data }, { on := 1, ground := Ground.chain }, { on := 0, ground := Ground.phase }, { on := 1, ground := Ground.phase }]).op, none⟩
  ] (by kernel_rfl)))
  (.seq (.seq (.live [2, 7, 8, 27] (.region 7 [
    ⟨(opMove (some 24) (.tmp 2) 3 "law.go:137" #[]).op, none⟩,
    ⟨(opMove (some 25) (.tmp 7) 22 "law.go:137" #[]).op, none⟩,
    ⟨(opLen (some 26) (.tmp 25) 22 (.slice 5) Try.underlying22 3 "law.go:137" #[{ on := 1, ground := Ground.data }]).op, none⟩,
    ⟨(opBin (some 27) .lss 3 (.tmp 24) (.tmp 26) 3 4 "law.go:137" #[{ on := 0, ground := Ground.data }, { on := 2, ground := Ground.data }]).op, none⟩
  ] (by kernel_rfl)))
  (.cond (.tmp 27)
    (.seq (.live [2, 8, 9] (.region 8 [
      ⟨(opMove (some 28) (.tmp 7) 22 "law.go:138" #[]).op, none⟩,
      ⟨(opMove (some 29) (.tmp 2) 3 "law.go:138" #[]).op, none⟩,
      ⟨(opSlice (some 30) 22 (.tmp 28) none (some (.tmp 29)) none 5 1 Try.underlying22 sz5 22 "law.go:138" #[{ on := 0, ground := Ground.data }, { on := 1, ground := Ground.data }]).op, none⟩,
      ⟨opCall (f10.orc 0) (some 31) [(.tmp 30)] #[22] 24 "law.go:138" #[{ on := 2, ground := Ground.data }], none⟩,
      ⟨(opAssign (some 9) (.tmp 31) 24 "law.go:138" #[{ on := 3, ground := Ground.data }, { on := 3, ground := Ground.chain }, { on := 0, ground := Ground.phase }, { on := 1, ground := Ground.phase }, { on := 2, ground := Ground.phase }, { on := 3, ground := Ground.phase }]).op, none⟩
    ] (by kernel_rfl)))
    (.seq (.live [2, 8, 43] (.region 9 [
      ⟨(opMove (some 32) (.tmp 9) 24 "law.go:139" #[]).op, none⟩,
      ⟨(opEq (some 33) 24 (.pointer 48) Try.underlying24 (.tmp 32) (.const (Value.pointer none)) (.inl rfl) 24 4 "law.go:139" #[{ on := 0, ground := Ground.data }]).op, none⟩,
      ⟨(opMove (some 34) (.tmp 33) 4 "law.go:139" #[{ on := 1, ground := Ground.data }]).op, none⟩,
      ⟨(opMove (some 35) (.tmp 9) 24 "law.go:139" #[{ on := 2, ground := Ground.guard }]).op, (some (2, 34, false))⟩,
      ⟨opCall (q11).orc (some 36) [(.tmp 35)] #[24] 3 "law.go:139" #[{ on := 3, ground := Ground.data }, { on := 2, ground := Ground.chain }, { on := 2, ground := Ground.guard }], (some (2, 34, false))⟩,
      ⟨(opBin (some 37) .neq 3 (.tmp 36) (.const (Value.int IntKind.i64 0)) 3 4 "law.go:139" #[{ on := 4, ground := Ground.data }, { on := 2, ground := Ground.guard }]).op, (some (2, 34, false))⟩,
      ⟨(opPick (some 38) (.tmp 34) (.const (Value.bool true)) (.tmp 37) 4 "law.go:139" #[{ on := 2, ground := Ground.data }, { on := 5, ground := Ground.data }]).op, none⟩,
      ⟨(opMove (some 39) (.tmp 38) 4 "law.go:139" #[{ on := 6, ground := Ground.data }, { on := 4, ground := Ground.chain }]).op, none⟩,
      ⟨(opMove (some 40) (.tmp 9) 24 "law.go:139" #[{ on := 7, ground := Ground.guard }]).op, (some (7, 39, false))⟩,
      ⟨opCall (f12.orc 0) (some 41) [(.tmp 40)] #[24] 4 "law.go:139" #[{ on := 8, ground := Ground.data }, { on := 7, ground := Ground.chain }, { on := 7, ground := Ground.guard }], (some (7, 39, false))⟩,
      ⟨(opNot (some 42) 4 (.tmp 41) 4 "law.go:139" #[{ on := 9, ground := Ground.data }, { on := 7, ground := Ground.guard }]).op, (some (7, 39, false))⟩,
      ⟨(opPick (some 43) (.tmp 39) (.const (Value.bool true)) (.tmp 42) 4 "law.go:139" #[{ on := 7, ground := Ground.data }, { on := 10, ground := Ground.data }]).op, none⟩
    ] (by kernel_rfl)))
    (.cond (.tmp 43)
      (.seq (.live [6] (.region 10 [
        ⟨(opAssign (some 6) (.const (Value.bool false)) 4 "law.go:140" #[]).op, none⟩
      ] (by kernel_rfl)))
      (.live [6] .ret))
      .skip)))
    .skip))
  (.seq (.seq (.live [2, 8, 47] (.region 11 [
    ⟨(opMove (some 44) (.tmp 2) 3 "law.go:143" #[]).op, none⟩,
    ⟨(opMove (some 45) (.tmp 8) 22 "law.go:143" #[]).op, none⟩,
    ⟨(opLen (some 46) (.tmp 45) 22 (.slice 5) Try.underlying22 3 "law.go:143" #[{ on := 1, ground := Ground.data }]).op, none⟩,
    ⟨(opBin (some 47) .lss 3 (.tmp 44) (.tmp 46) 3 4 "law.go:143" #[{ on := 0, ground := Ground.data }, { on := 2, ground := Ground.data }]).op, none⟩
  ] (by kernel_rfl)))
  (.cond (.tmp 47)
    (.seq (.live [10] (.region 12 [
      ⟨(opMove (some 48) (.tmp 8) 22 "law.go:144" #[]).op, none⟩,
      ⟨(opMove (some 49) (.tmp 2) 3 "law.go:144" #[]).op, none⟩,
      ⟨(opSlice (some 50) 22 (.tmp 48) none (some (.tmp 49)) none 5 1 Try.underlying22 sz5 22 "law.go:144" #[{ on := 0, ground := Ground.data }, { on := 1, ground := Ground.data }]).op, none⟩,
      ⟨opCall (f10.orc 0) (some 51) [(.tmp 50)] #[22] 24 "law.go:144" #[{ on := 2, ground := Ground.data }], none⟩,
      ⟨(opAssign (some 10) (.tmp 51) 24 "law.go:144" #[{ on := 3, ground := Ground.data }, { on := 3, ground := Ground.chain }, { on := 0, ground := Ground.phase }, { on := 1, ground := Ground.phase }, { on := 2, ground := Ground.phase }, { on := 3, ground := Ground.phase }]).op, none⟩
    ] (by kernel_rfl)))
    (.seq (.live [73] (.region 13 [
      ⟨(opMove (some 52) (.tmp 10) 24 "law.go:145" #[]).op, none⟩,
      ⟨(opEq (some 53) 24 (.pointer 48) Try.underlying24 (.tmp 52) (.const (Value.pointer none)) (.inl rfl) 24 4 "law.go:145" #[{ on := 0, ground := Ground.data }]).op, none⟩,
      ⟨(opMove (some 54) (.tmp 53) 4 "law.go:145" #[{ on := 1, ground := Ground.data }]).op, none⟩,
      ⟨(opMove (some 55) (.tmp 10) 24 "law.go:145" #[{ on := 2, ground := Ground.guard }]).op, (some (2, 54, false))⟩,
      ⟨opCall (q17).orc (some 56) [(.tmp 55)] #[24] 9 "law.go:145" #[{ on := 3, ground := Ground.data }, { on := 2, ground := Ground.chain }, { on := 2, ground := Ground.guard }], (some (2, 54, false))⟩,
      ⟨(opBinS (some 57) .neq 9 (.tmp 56) (.const (Value.string { data := #[] })) 9 4 "law.go:145" #[{ on := 4, ground := Ground.data }, { on := 2, ground := Ground.guard }]).op, (some (2, 54, false))⟩,
      ⟨(opPick (some 58) (.tmp 54) (.const (Value.bool true)) (.tmp 57) 4 "law.go:145" #[{ on := 2, ground := Ground.data }, { on := 5, ground := Ground.data }]).op, none⟩,
      ⟨(opMove (some 59) (.tmp 58) 4 "law.go:145" #[{ on := 6, ground := Ground.data }, { on := 4, ground := Ground.chain }]).op, none⟩,
      ⟨(opMove (some 60) (.tmp 10) 24 "law.go:145" #[{ on := 7, ground := Ground.guard }]).op, (some (7, 59, false))⟩,
      ⟨opCall (f12.orc 0) (some 61) [(.tmp 60)] #[24] 4 "law.go:145" #[{ on := 8, ground := Ground.data }, { on := 7, ground := Ground.chain }, { on := 7, ground := Ground.guard }], (some (7, 59, false))⟩,
      ⟨(opNot (some 62) 4 (.tmp 61) 4 "law.go:145" #[{ on := 9, ground := Ground.data }, { on := 7, ground := Ground.guard }]).op, (some (7, 59, false))⟩,
      ⟨(opPick (some 63) (.tmp 59) (.const (Value.bool true)) (.tmp 62) 4 "law.go:145" #[{ on := 7, ground := Ground.data }, { on := 10, ground := Ground.data }]).op, none⟩,
      ⟨(opMove (some 64) (.tmp 63) 4 "law.go:145" #[{ on := 11, ground := Ground.data }, { on := 9, ground := Ground.chain }]).op, none⟩,
      ⟨(opMove (some 65) (.tmp 10) 24 "law.go:145" #[{ on := 12, ground := Ground.guard }]).op, (some (12, 64, false))⟩,
      ⟨opCall (q17).orc (some 66) [(.tmp 65)] #[24] 9 "law.go:145" #[{ on := 13, ground := Ground.data }, { on := 12, ground := Ground.chain }, { on := 12, ground := Ground.guard }], (some (12, 64, false))⟩,
      ⟨(opBinS (some 67) .neq 9 (.tmp 66) (.const (Value.string { data := #[] })) 9 4 "law.go:145" #[{ on := 14, ground := Ground.data }, { on := 12, ground := Ground.guard }]).op, (some (12, 64, false))⟩,
      ⟨(opPick (some 68) (.tmp 64) (.const (Value.bool true)) (.tmp 67) 4 "law.go:145" #[{ on := 12, ground := Ground.data }, { on := 15, ground := Ground.data }]).op, none⟩,
      ⟨(opMove (some 69) (.tmp 68) 4 "law.go:145" #[{ on := 16, ground := Ground.data }, { on := 14, ground := Ground.chain }]).op, none⟩,
      ⟨(opMove (some 70) (.tmp 10) 24 "law.go:145" #[{ on := 17, ground := Ground.guard }]).op, (some (17, 69, false))⟩,
      ⟨opCall (q11).orc (some 71) [(.tmp 70)] #[24] 3 "law.go:145" #[{ on := 18, ground := Ground.data }, { on := 17, ground := Ground.chain }, { on := 17, ground := Ground.guard }], (some (17, 69, false))⟩,
      ⟨(opBin (some 72) .neq 3 (.tmp 71) (.const (Value.int IntKind.i64 0)) 3 4 "law.go:145" #[{ on := 19, ground := Ground.data }, { on := 17, ground := Ground.guard }]).op, (some (17, 69, false))⟩,
      ⟨(opPick (some 73) (.tmp 69) (.const (Value.bool true)) (.tmp 72) 4 "law.go:145" #[{ on := 17, ground := Ground.data }, { on := 20, ground := Ground.data }]).op, none⟩
    ] (by kernel_rfl)))
    (.cond (.tmp 73)
      (.seq (.live [6] (.region 14 [
        ⟨(opAssign (some 6) (.const (Value.bool false)) 4 "law.go:146" #[]).op, none⟩
      ] (by kernel_rfl)))
      (.live [6] .ret))
      .skip)))
    .skip))
  (.seq (.live [6] (.region 15 [
    ⟨(opAssign (some 6) (.const (Value.bool true)) 4 "law.go:149" #[]).op, none⟩
  ] (by kernel_rfl)))
  (.live [6] .ret)))))))))

noncomputable def f4 : Fun Try.prog where
  id := 4
  fn := Try.f4
  hf := Try.func4
  hname := by kernel_rfl
  body := f4_b
  hbody := by kernel_rfl
  res := [rTmp 6]
  hres := by kernel_rfl
  n := 74
  hn := by kernel_rfl

end Go.Proofs.Ytjdpfblmhahfkaa.V

/- What the functions' runs come to; the right sides were printed by a tool, Lean checks them. -/
set_option linter.unusedVariables false
set_option maxRecDepth 100000
namespace Go.Proofs.Ytjdpfblmhahfkaa.V
open Go Go.V Go.RowKit

theorem one_run (l : List (List AV)) :
    (f3.run 20 [.sl 1 false l] ⟨[], []⟩ : Ans) =
    branch (AV.bool (decide ((↑l.length : Int) > 500))) (some (Fin.ret (AV.bool true), St.mk [] []))
      (branch (AV.bool (fit (Br.sl false l)))
        (branch (AV.bool (fit (Br.sl l.isEmpty l)))
          (onSome (getN (nR l)) (some (Fin.ret (AV.bool true), St.mk [Ob.cells [AV.nilsl, AV.bool true]] []))
            fun (o : Int × Nat) =>
            branch (AV.bool (i64B o.fst))
              (if
                  0 ≤ IntKind.i64.wrap ((↑l.length : Int) - (↑(List.drop o.snd l).length : Int)) ∧
                    IntKind.i64.wrap ((↑l.length : Int) - (↑(List.drop o.snd l).length : Int)) ≤ (↑l.length : Int) then
                branch
                  (AV.bool
                    (fit
                        (Br.sl false (rb (intBytes o.fst)),
                            Br.sl
                              (match none with
                              | none =>
                                false &&
                                  (IntKind.i64.wrap ((↑l.length : Int) - (↑(List.drop o.snd l).length : Int))).toNat.beq
                                    l.length
                              | some m =>
                                (IntKind.i64.wrap ((↑l.length : Int) - (↑(List.drop o.snd l).length : Int))).toNat.beq m)
                              (List.drop 0
                                (List.take
                                  (IntKind.i64.wrap ((↑l.length : Int) - (↑(List.drop o.snd l).length : Int))).toNat
                                  l))).fst &&
                      okR
                        (Br.sl false (rb (intBytes o.fst)),
                              Br.sl
                                (match none with
                                | none =>
                                  false &&
                                    (IntKind.i64.wrap ((↑l.length : Int) - (↑(List.drop o.snd l).length : Int))).toNat.beq
                                      l.length
                                | some m =>
                                  (IntKind.i64.wrap ((↑l.length : Int) - (↑(List.drop o.snd l).length : Int))).toNat.beq m)
                                (List.drop 0
                                  (List.take
                                    (IntKind.i64.wrap ((↑l.length : Int) - (↑(List.drop o.snd l).length : Int))).toNat
                                    l))).snd.list))
                  (some
                    (Fin.ret
                        (AV.bool
                          (sameRows
                            (iR
                              (Br.sl false (rb (intBytes o.fst)),
                                    Br.sl
                                      (match none with
                                      | none =>
                                        false &&
                                          (IntKind.i64.wrap
                                                  ((↑l.length : Int) - (↑(List.drop o.snd l).length : Int))).toNat.beq
                                            l.length
                                      | some m =>
                                        (IntKind.i64.wrap
                                                ((↑l.length : Int) - (↑(List.drop o.snd l).length : Int))).toNat.beq
                                          m)
                                      (List.drop 0
                                        (List.take
                                          (IntKind.i64.wrap ((↑l.length : Int) - (↑(List.drop o.snd l).length : Int))).toNat
                                          l))).fst.list)
                            (iR
                              (Br.sl false (rb (intBytes o.fst)),
                                    Br.sl
                                      (match none with
                                      | none =>
                                        false &&
                                          (IntKind.i64.wrap
                                                  ((↑l.length : Int) - (↑(List.drop o.snd l).length : Int))).toNat.beq
                                            l.length
                                      | some m =>
                                        (IntKind.i64.wrap
                                                ((↑l.length : Int) - (↑(List.drop o.snd l).length : Int))).toNat.beq
                                          m)
                                      (List.drop 0
                                        (List.take
                                          (IntKind.i64.wrap ((↑l.length : Int) - (↑(List.drop o.snd l).length : Int))).toNat
                                          l))).snd.list))),
                      St.mk [Ob.cells [AV.sl 1 l.isEmpty (List.drop o.snd l), AV.bool false]]
                        [(1, (intBytes o.fst).length)]))
                  none
              else none)
              none)
          none)
        none) := by kernel_rfl

theorem one_nil  :
    (f3.run 20 [.nilsl] ⟨[], []⟩ : Ans) =
    some (Fin.ret (AV.bool true), St.mk [Ob.cells [AV.nilsl, AV.bool true]] []) := by kernel_rfl

theorem short_run (n cut : Int) (s : ByteArray) :
    (f4.run 20 [.int .i64 n, .str s, .int .i64 cut] ⟨[], []⟩ : Ans) =
    branch (AV.bool (decide ((↑s.size : Int) > 1000))) (some (Fin.ret (AV.bool true), St.mk [] []))
      (branch (AV.bool (decide (cut < 0))) (some (Fin.ret (AV.bool true), St.mk [] []))
        (branch (AV.bool (i64B n))
          (branch (AV.bool (shortS s))
            (branch (AV.bool (decide (cut < (↑(rb (intBytes n)).length : Int))))
              (if 0 ≤ cut ∧ cut ≤ (↑(rb (intBytes n)).length : Int) then
                branch
                  (AV.bool
                    (fit
                      (Br.sl
                        (match none with
                        | none => false
                        | some m => cut.toNat.beq m)
                        (List.drop 0 (List.take cut.toNat (rb (intBytes n)))))))
                  (branch
                    (AV.bool
                      (fit
                        (Br.sl (List.drop 0 (List.take cut.toNat (rb (intBytes n)))).isEmpty
                          (List.drop 0 (List.take cut.toNat (rb (intBytes n)))))))
                    (onSome (getN (nR (List.drop 0 (List.take cut.toNat (rb (intBytes n))))))
                      (branch (AV.bool (decide (cut < (↑(rb (textBytes s)).length : Int))))
                        (if 0 ≤ cut ∧ cut ≤ (↑(rb (textBytes s)).length : Int) then
                          branch
                            (AV.bool
                              (fit
                                (Br.sl
                                  (match none with
                                  | none => false
                                  | some m => cut.toNat.beq m)
                                  (List.drop 0 (List.take cut.toNat (rb (textBytes s)))))))
                            (branch
                              (AV.bool
                                (fit
                                  (Br.sl (List.drop 0 (List.take cut.toNat (rb (textBytes s)))).isEmpty
                                    (List.drop 0 (List.take cut.toNat (rb (textBytes s)))))))
                              (onSome (getS (nR (List.drop 0 (List.take cut.toNat (rb (textBytes s))))))
                                (some
                                  (Fin.ret (AV.bool true),
                                    St.mk [Ob.cells [AV.nilsl, AV.bool true], Ob.cells [AV.nilsl, AV.bool true]]
                                      [(1, (intBytes n).length), (1, (textBytes s).length)]))
                                fun (o : ByteArray × Nat) =>
                                branch (AV.bool !o.fst.toList == [])
                                  (some
                                    (Fin.ret (AV.bool false),
                                      St.mk
                                        [Ob.cells [AV.nilsl, AV.bool true],
                                          Ob.cells
                                            [AV.sl 1 (List.drop 0 (List.take cut.toNat (rb (textBytes s)))).isEmpty
                                                (List.drop o.snd (List.drop 0 (List.take cut.toNat (rb (textBytes s))))),
                                              AV.bool false]]
                                        [(1, (intBytes n).length), (1, (textBytes s).length)]))
                                  (some
                                    (Fin.ret (AV.bool false),
                                      St.mk
                                        [Ob.cells [AV.nilsl, AV.bool true],
                                          Ob.cells
                                            [AV.sl 1 (List.drop 0 (List.take cut.toNat (rb (textBytes s)))).isEmpty
                                                (List.drop o.snd (List.drop 0 (List.take cut.toNat (rb (textBytes s))))),
                                              AV.bool false]]
                                        [(1, (intBytes n).length), (1, (textBytes s).length)])))
                              none)
                            none
                        else none)
                        (some
                          (Fin.ret (AV.bool true),
                            St.mk [Ob.cells [AV.nilsl, AV.bool true]]
                              [(1, (intBytes n).length), (1, (textBytes s).length)])))
                      fun (o : Int × Nat) =>
                      branch (AV.bool (o.fst != 0))
                        (some
                          (Fin.ret (AV.bool false),
                            St.mk
                              [Ob.cells
                                  [AV.sl 1 (List.drop 0 (List.take cut.toNat (rb (intBytes n)))).isEmpty
                                      (List.drop o.snd (List.drop 0 (List.take cut.toNat (rb (intBytes n))))),
                                    AV.bool false]]
                              [(1, (intBytes n).length), (1, (textBytes s).length)]))
                        (some
                          (Fin.ret (AV.bool false),
                            St.mk
                              [Ob.cells
                                  [AV.sl 1 (List.drop 0 (List.take cut.toNat (rb (intBytes n)))).isEmpty
                                      (List.drop o.snd (List.drop 0 (List.take cut.toNat (rb (intBytes n))))),
                                    AV.bool false]]
                              [(1, (intBytes n).length), (1, (textBytes s).length)])))
                    none)
                  none
              else none)
              (branch (AV.bool (decide (cut < (↑(rb (textBytes s)).length : Int))))
                (if 0 ≤ cut ∧ cut ≤ (↑(rb (textBytes s)).length : Int) then
                  branch
                    (AV.bool
                      (fit
                        (Br.sl
                          (match none with
                          | none => false
                          | some m => cut.toNat.beq m)
                          (List.drop 0 (List.take cut.toNat (rb (textBytes s)))))))
                    (branch
                      (AV.bool
                        (fit
                          (Br.sl (List.drop 0 (List.take cut.toNat (rb (textBytes s)))).isEmpty
                            (List.drop 0 (List.take cut.toNat (rb (textBytes s)))))))
                      (onSome (getS (nR (List.drop 0 (List.take cut.toNat (rb (textBytes s))))))
                        (some
                          (Fin.ret (AV.bool true),
                            St.mk [Ob.cells [AV.nilsl, AV.bool true]]
                              [(1, (intBytes n).length), (1, (textBytes s).length)]))
                        fun (o : ByteArray × Nat) =>
                        branch (AV.bool !o.fst.toList == [])
                          (some
                            (Fin.ret (AV.bool false),
                              St.mk
                                [Ob.cells
                                    [AV.sl 1 (List.drop 0 (List.take cut.toNat (rb (textBytes s)))).isEmpty
                                        (List.drop o.snd (List.drop 0 (List.take cut.toNat (rb (textBytes s))))),
                                      AV.bool false]]
                                [(1, (intBytes n).length), (1, (textBytes s).length)]))
                          (some
                            (Fin.ret (AV.bool false),
                              St.mk
                                [Ob.cells
                                    [AV.sl 1 (List.drop 0 (List.take cut.toNat (rb (textBytes s)))).isEmpty
                                        (List.drop o.snd (List.drop 0 (List.take cut.toNat (rb (textBytes s))))),
                                      AV.bool false]]
                                [(1, (intBytes n).length), (1, (textBytes s).length)])))
                      none)
                    none
                else none)
                (some (Fin.ret (AV.bool true), St.mk [] [(1, (intBytes n).length), (1, (textBytes s).length)]))))
            none)
          none)) := by kernel_rfl

end Go.Proofs.Ytjdpfblmhahfkaa.V

/- Bits: BitsOne and BitsShort are true. -/
set_option linter.unusedVariables false
namespace Go.Proofs.Ytjdpfblmhahfkaa.V
open Go Go.V Go.RowKit

theorem encN_lt : ∀ (k u : Nat), u < 128 ^ (k + 1) → ∀ b ∈ encN k u, b < 256
  | 0, u, h, b, hb => by simp [encN] at hb; subst hb; omega
  | k + 1, u, h, b, hb => by
    rw [encN] at hb
    split at hb
    · simp at hb; subst hb; omega
    · rcases List.mem_cons.mp hb with rfl | hb
      · omega
      · exact encN_lt k (u / 128) (Nat.div_lt_of_lt_mul (by rw [Nat.pow_succ] at h; omega)) b hb
theorem intBytes_lt {n : Int} (h : i64B n = true) : ∀ b ∈ intBytes n, b < 256 := by
  obtain ⟨h1, h2⟩ := i64B_spec h
  exact encN_lt 9 _ (Nat.lt_trans (foldN_lt h1 h2) (by decide))
theorem i64B_size {s : ByteArray} (h : s.size < 140737488355328) : i64B (s.size : Int) = true := by simp [i64B]; omega
theorem textBytes_lt {s : ByteArray} (h : s.size < 140737488355328) : ∀ b ∈ textBytes s, b < 256 := by
  intro b hb
  rcases List.mem_append.mp hb with hb | hb
  · exact intBytes_lt (i64B_size h) b hb
  · exact own_lt s b hb
theorem nR_rb (l : List Nat) : nR (rb l) = l := nR_bR l
theorem okR_rb {l : List Nat} (h : ∀ b ∈ l, b < 256) : okR (rb l) = true := okR_bR h
theorem rb_take (l : List Nat) (n : Nat) : (rb l).take n = rb (l.take n) := bR_take n l
theorem rb_drop (l : List Nat) (n : Nat) : (rb l).drop n = rb (l.drop n) := bR_drop n l
theorem take_lt {l : List Nat} (h : ∀ b ∈ l, b < 256) (n : Nat) : ∀ b ∈ l.take n, b < 256 := fun b hb => h b (List.mem_of_mem_take hb)
theorem drop_lt {l : List Nat} (h : ∀ b ∈ l, b < 256) (n : Nat) : ∀ b ∈ l.drop n, b < 256 := fun b hb => h b (List.mem_of_mem_drop hb)
theorem fit_of {f : Bool} {l : List (List AV)} (h : okR l = true) (hl : l.length < 140737488355328) : fit (.sl f l) = true := by
  simp [fit, Br.list, h, hl]
theorem getS_enc {s : ByteArray} (h : s.size < 140737488355328) (r : List Nat) : getS (textBytes s ++ r) = some (s, (textBytes s).length) := by
  unfold getS
  rw [textBytes, List.append_assoc, getN_enc (by omega) (by omega)]
  simp only [List.length_append, own_length]
  rw [if_neg (by omega), List.drop_left, Int.toNat_natCast, List.take_append_of_le_length (by rw [own_length]; omega), List.take_of_length_le (by rw [own_length]; omega), txt_own]
theorem getS_short {s : ByteArray} (h : s.size < 140737488355328) {c : Nat} (hc : c < (textBytes s).length) : getS ((textBytes s).take c) = none := by
  have hc2 := hc
  simp only [textBytes, List.length_append, own_length] at hc2
  unfold getS
  by_cases h1 : c < (intBytes s.size).length
  · rw [textBytes, List.take_append_of_le_length (by omega), getN_short _ h1]
  · rw [textBytes, List.take_append, List.take_of_length_le (l := intBytes s.size) (by omega), getN_enc (by omega) (by omega)]
    simp only [List.length_append, List.length_take, own_length]
    rw [if_pos (by omega)]

/-- A law's bytes. -/
theorem bytes_shape {xs : List AV} (h : Ty.Shape (.sl (.int .u8) 1) xs) : xs = [.nilsl] ∨ ∃ l, xs = [.sl 1 false l] ∧ okR l = true ∧ l.length < 140737488355328 := by
  rcases h with h | ⟨l, h1, h2, h3, h4⟩
  · exact .inl h
  · refine .inr ⟨l, h1, List.all_eq_true.mpr fun r hr => ?_, by rw [Nat.mul_one] at h2; exact Nat.lt_of_le_of_lt h2 (by decide)⟩
    obtain ⟨n, rfl, hn⟩ := h4 r hr
    simp only [Lit.wf, IntKind.min, IntKind.max, IntKind.signed, IntKind.bits] at hn
    simp only [isByte, Bool.and_eq_true, decide_eq_true_eq]
    simp at hn
    omega

theorem one_true {l : List (List AV)} (hl : okR l = true) : ∃ st, f3.run 20 [.sl 1 false l] ⟨[], []⟩ = some (.ret (.bool true), st) := by
  rw [one_run]
  by_cases h5 : (500 : Int) < l.length
  · rw [branch_of (by simpa using h5)]; exact ⟨_, rfl⟩
  · rw [branch_not (by simpa using h5), branch_of (fit_of hl (by omega)), branch_of (fit_of hl (by omega))]
    cases hg : getN (nR l) with
    | none => exact ⟨_, rfl⟩
    | some o =>
      obtain ⟨n, k⟩ := o
      obtain ⟨e1, e2, e3, e4, e5, e6⟩ := getN_back (fun b hb => okR_lt hl hb) hg
      rw [nR_length] at e3
      have hn : i64B n = true := by simp [i64B]; omega
      have hw : IntKind.i64.wrap ((l.length : Int) - ((List.drop k l).length : Int)) = (k : Int) := by rw [List.length_drop, wrapS (by omega) (by omega)]; omega
      have hrow : rb (intBytes n) = l.take k := by
        rw [e1]
        conv => rhs; rw [okR_rows hl]
        rw [bR_take]; rfl
      simp only [onSome, hw, Int.toNat_natCast, List.drop_zero, Br.list, hrow]
      rw [branch_of hn, if_pos (by omega), branch_of (by rw [fit_of (okR_take hl k) (by simp; omega), okR_take hl k]; rfl), sameRows_iff.mpr rfl]
      exact ⟨_, rfl⟩
theorem one_law (as0 : List AV) (sh0 : Ty.Shape (.sl (.int .u8) 1) as0) : ∃ F st, f3.run F [Ty.AV' (.sl (.int .u8) 1) as0] ⟨[], []⟩ = some (.ret (.bool true), st) := by
  rcases bytes_shape sh0 with rfl | ⟨l, rfl, h1, h2⟩
  · exact ⟨20, _, one_nil⟩
  · exact ⟨20, one_true h1⟩

theorem short_true {n cut : Int} {s : ByteArray} (hn : i64B n = true) : ∃ st, f4.run 20 [.int .i64 n, .str s, .int .i64 cut] ⟨[], []⟩ = some (.ret (.bool true), st) := by
  rw [short_run]
  by_cases h5 : (1000 : Int) < s.size
  · rw [branch_of (by simpa using h5)]; exact ⟨_, rfl⟩
  rw [branch_not (by simpa using h5)]
  by_cases hc : cut < 0
  · rw [branch_of (by simpa using hc)]; exact ⟨_, rfl⟩
  obtain ⟨c, rfl⟩ : ∃ c : Nat, cut = c := ⟨cut.toNat, by omega⟩
  have hs : s.size < 140737488355328 := by omega
  have hil : (intBytes n).length ≤ 10 := intBytes_length n
  have htl : (textBytes s).length ≤ 1010 := by have := intBytes_length s.size; simp only [textBytes, List.length_append, own_length]; omega
  have f1 : ∀ f, fit (.sl f (rb ((intBytes n).take c))) = true := fun f => fit_of (okR_rb (take_lt (intBytes_lt hn) c)) (by rw [rb_length]; simp; omega)
  have f2 : ∀ f, fit (.sl f (rb ((textBytes s).take c))) = true := fun f => fit_of (okR_rb (take_lt (textBytes_lt hs) c)) (by rw [rb_length]; simp; omega)
  simp only [rb_length, Int.toNat_natCast, List.drop_zero, rb_take, nR_rb]
  rw [branch_not (by simp), branch_of hn, branch_of (by simp [shortS]; omega)]
  by_cases h1 : c < (intBytes n).length
  · rw [branch_of (by simp; omega), if_pos (by omega), branch_of (f1 _), branch_of (f1 _), getN_short n h1]
    simp only [onSome]
    by_cases h2 : c < (textBytes s).length
    · rw [branch_of (by simp; omega), if_pos (by omega), branch_of (f2 _), branch_of (f2 _), getS_short hs h2]
      exact ⟨_, rfl⟩
    · rw [branch_not (by simp; omega)]
      exact ⟨_, rfl⟩
  · rw [branch_not (by simp; omega)]
    by_cases h2 : c < (textBytes s).length
    · rw [branch_of (by simp; omega), if_pos (by omega), branch_of (f2 _), branch_of (f2 _), getS_short hs h2]
      exact ⟨_, rfl⟩
    · rw [branch_not (by simp; omega)]
      exact ⟨_, rfl⟩
theorem i64_wf {n : Int} (h : (Lit.int .i64 n).wf = true) : i64B n = true := by
  simp only [Lit.wf, IntKind.min, IntKind.max, IntKind.signed, IntKind.bits] at h
  simp at h
  simp [i64B]; omega
theorem short_law (as0 as1 as2 : List AV) (sh0 : Ty.Shape (.int .i64) as0) (sh1 : Ty.Shape .str as1) (sh2 : Ty.Shape (.int .i64) as2) :
    ∃ F st, f4.run F [Ty.AV' (.int .i64) as0, Ty.AV' .str as1, Ty.AV' (.int .i64) as2] ⟨[], []⟩ = some (.ret (.bool true), st) := by
  obtain ⟨n, rfl, hn⟩ := sh0
  obtain ⟨s, rfl, hs⟩ := sh1
  obtain ⟨c, rfl, hc⟩ := sh2
  exact ⟨20, short_true (i64_wf hn)⟩
end Go.Proofs.Ytjdpfblmhahfkaa.V

/- The functions' pieces, as told by gen.py. -/
set_option linter.unusedVariables false
set_option maxRecDepth 20000
namespace Go.Proofs.Ytjdpfblmhahfkaa.V
open Go Go.V Go.RowKit


/-! ### 22: interlock/interlockref00.SameTexts (33, 33); results 4; slots: 0 a, 1 b, 2 a, 3 b, 5 i -/
/-- A loop's round; at its head live: 0 a, 1 b, 5 i -/
noncomputable def f22_l0 : Sim Try.prog :=
  (.seq (.seq (.live [0, 1, 5, 14] (.region 4 [
    ⟨(opMove (some 11) (.tmp 5) 3 "ref.go:92" #[]).op, none⟩,
    ⟨(opMove (some 12) (.tmp 0) 33 "ref.go:92" #[]).op, none⟩,
    ⟨(opLen (some 13) (.tmp 12) 33 (.slice 9) Try.underlying33 3 "ref.go:92" #[{ on := 1, ground := Ground.data }]).op, none⟩,
    ⟨(opBin (some 14) .lss 3 (.tmp 11) (.tmp 13) 3 4 "ref.go:92" #[{ on := 0, ground := Ground.data }, { on := 2, ground := Ground.data }]).op, none⟩
  ] (by kernel_rfl)))
  (.cond (.tmp 14)
    .skip
    (.live [] (.exit 0))))
  (.seq (.block 1 (.seq (.live [0, 1, 5, 25] (.draw 6 [
      ⟨.p (opMove (some 17) (.tmp 0) 33 "ref.go:93" #[]), none⟩,
      ⟨.p (opMove (some 18) (.tmp 5) 3 "ref.go:93" #[]), none⟩,
      ⟨.pn (opIndexAddr (some 19) 33 (.tmp 17) (.tmp 18) 9 1 Try.underlying33 sz9 0 "ref.go:93" #[{ on := 0, ground := Ground.data }, { on := 1, ground := Ground.data }]) opIndexAddr_nat, none⟩,
      ⟨.qn (opLoad (some 20) 9 (.tmp 19) .string Try.underlying9 1 sz9 9 "ref.go:93" #[{ on := 2, ground := Ground.data }]) opLoad_nat, none⟩,
      ⟨.p (opMove (some 21) (.tmp 1) 33 "ref.go:93" #[]), none⟩,
      ⟨.p (opMove (some 22) (.tmp 5) 3 "ref.go:93" #[]), none⟩,
      ⟨.pn (opIndexAddr (some 23) 33 (.tmp 21) (.tmp 22) 9 1 Try.underlying33 sz9 0 "ref.go:93" #[{ on := 4, ground := Ground.data }, { on := 5, ground := Ground.data }]) opIndexAddr_nat, none⟩,
      ⟨.qn (opLoad (some 24) 9 (.tmp 23) .string Try.underlying9 1 sz9 9 "ref.go:93" #[{ on := 6, ground := Ground.data }]) opLoad_nat, none⟩,
      ⟨.pn (opBinS (some 25) .neq 9 (.tmp 20) (.tmp 24) 9 4 "ref.go:93" #[{ on := 3, ground := Ground.data }, { on := 7, ground := Ground.data }]) opBinS_nat, none⟩
    ] mixed (by kernel_rfl)))
    (.cond (.tmp 25)
      (.seq (.live [4] (.region 7 [
        ⟨(opAssign (some 4) (.const (Value.bool false)) 4 "ref.go:94" #[]).op, none⟩
      ] (by kernel_rfl)))
      (.live [4] .ret))
      .skip)))
  (.live [0, 1, 5] (.region 5 [
    ⟨(opMove (some 15) (.tmp 5) 3 "ref.go:92" #[]).op, none⟩,
    ⟨(opBin (some 16) .add 3 (.tmp 15) (.const (Value.int IntKind.i64 1)) 3 3 "ref.go:92" #[{ on := 0, ground := Ground.data }]).op, none⟩,
    ⟨(opAssign (some 5) (.tmp 16) 3 "ref.go:92" #[{ on := 1, ground := Ground.data }, { on := 0, ground := Ground.phase }, { on := 1, ground := Ground.phase }]).op, none⟩
  ] (by kernel_rfl)))))

/-- What follows a loop. -/
noncomputable def f22_r0 : Sim Try.prog :=
  (.seq (.live [4] (.region 8 [
    ⟨(opAssign (some 4) (.const (Value.bool true)) 4 "ref.go:97" #[]).op, none⟩
  ] (by kernel_rfl)))
  (.live [4] .ret))

noncomputable def f22_b : Sim Try.prog :=
  (.seq (.live [0, 1] (.region 0 [
    ⟨(opAssign (some 4) (.const (Value.bool false)) 4 "ref.go:88" #[]).op, none⟩
  ] (by kernel_rfl)))
  (.seq (.seq (.live [0, 1, 10] (.region 1 [
    ⟨(opMove (some 6) (.tmp 0) 33 "ref.go:89" #[]).op, none⟩,
    ⟨(opLen (some 7) (.tmp 6) 33 (.slice 9) Try.underlying33 3 "ref.go:89" #[{ on := 0, ground := Ground.data }]).op, none⟩,
    ⟨(opMove (some 8) (.tmp 1) 33 "ref.go:89" #[]).op, none⟩,
    ⟨(opLen (some 9) (.tmp 8) 33 (.slice 9) Try.underlying33 3 "ref.go:89" #[{ on := 2, ground := Ground.data }]).op, none⟩,
    ⟨(opBin (some 10) .neq 3 (.tmp 7) (.tmp 9) 3 4 "ref.go:89" #[{ on := 1, ground := Ground.data }, { on := 3, ground := Ground.data }]).op, none⟩
  ] (by kernel_rfl)))
  (.cond (.tmp 10)
    (.seq (.live [4] (.region 2 [
      ⟨(opAssign (some 4) (.const (Value.bool false)) 4 "ref.go:90" #[]).op, none⟩
    ] (by kernel_rfl)))
    (.live [4] .ret))
    .skip))
  (.seq (.seq (.live [0, 1, 5] (.region 3 [
    ⟨(opAssign (some 5) (.const (Value.int IntKind.i64 0)) 3 "ref.go:92" #[]).op, none⟩
  ] (by kernel_rfl)))
  (.block 0 (.loop [0, 1, 5] f22_l0)))
  f22_r0)))

noncomputable def f22 : Fun Try.prog where
  id := 22
  fn := Try.f22
  hf := Try.func22
  hname := by kernel_rfl
  body := f22_b
  hbody := by kernel_rfl
  res := [rTmp 4]
  hres := by kernel_rfl
  n := 26
  hn := by kernel_rfl

end Go.Proofs.Ytjdpfblmhahfkaa.V

/- What the functions' runs come to; the right sides were printed by a tool, Lean checks them. -/
set_option linter.unusedVariables false
set_option maxRecDepth 100000
namespace Go.Proofs.Ytjdpfblmhahfkaa.V
open Go Go.V Go.RowKit

theorem tx_nil (F : Nat) (st : St) :
    (f20.run F.succ [.nilsl] st : Ans) =
    some (Fin.ret (AV.lg st.tk.length 1 [[AV.int IntKind.u8 0]]), St.mk st.objs (st.tk ++ [(1, 1)])) := by kernel_rfl

theorem tx_round_raw (F n t : Nat) (K : Cont) (f : Bool) (i : Int) (lo l : List (List AV)) (s : ByteArray) (os : List Ob) (tk : List (Nat × Nat)) :
    (loopRun (f20_l0.run F) [3, 9, 10, 11] K n.succ (Env.mk 21 [(3, .lg t 1 lo), (9, .sl 1 f l), (10, .int .i64 l.length), (11, .int .i64 i)]) ⟨os, tk⟩ : Ans) =
    branch (AV.bool (decide (i < (↑l.length : Int))))
      (onSome (elemAt l i) none fun (o : List AV) =>
        onCons o none fun (x : AV) (l_1 : List AV) =>
          onSome (dec1s [x]) none fun (o : ByteArray) =>
            branch (AV.bool (shortS o))
              (if
                  ((fun (s : ByteArray) (st : St) =>
                                (AV.lg st.tk.length 1 (rb (textBytes s)),
                                  St.mk st.objs (st.tk ++ [(1, (textBytes s).length)])))
                              o (St.mk os tk)).snd.tk[t]? =
                      some (1, lo.length) ∧
                    (lo.length + (rb (textBytes o)).length) * 1 ≤ 140737488355328 then
                loopRun (f20_l0.run F) [3, 9, 10, 11] K n
                  (Env.mk 21
                    [(3, AV.lg t 1 (lo ++ rb (textBytes o))), (9, AV.sl 1 f l), (10, AV.int IntKind.i64 (↑l.length : Int)),
                      (11, AV.int IntKind.i64 (IntKind.i64.wrap (i + 1)))])
                  (St.mk os
                    ((St.mk os (tk ++ [(1, (textBytes o).length)])).tk.set t (1, lo.length + (rb (textBytes o)).length)))
              else none)
              none)
      (K (AX.exit 0) (Env.mk 21 [(3, AV.lg t 1 lo)]) (St.mk os tk)) := by kernel_rfl

theorem tx_round (F n t : Nat) (K : Cont) (f : Bool) (i : Int) (lo l : List (List AV)) (s : ByteArray) (os : List Ob) (tk : List (Nat × Nat)) (h0 : elemAt l i = some [.str s]) :
    (loopRun (f20_l0.run F) [3, 9, 10, 11] K n.succ (Env.mk 21 [(3, .lg t 1 lo), (9, .sl 1 f l), (10, .int .i64 l.length), (11, .int .i64 i)]) ⟨os, tk⟩ : Ans) =
    branch (AV.bool (decide (i < (↑l.length : Int))))
      (branch (AV.bool (shortS s))
        (if
            ((fun (s : ByteArray) (st : St) =>
                          (AV.lg st.tk.length 1 (rb (textBytes s)), St.mk st.objs (st.tk ++ [(1, (textBytes s).length)])))
                        s (St.mk os tk)).snd.tk[t]? =
                some (1, lo.length) ∧
              (lo.length + (rb (textBytes s)).length) * 1 ≤ 140737488355328 then
          loopRun (f20_l0.run F) [3, 9, 10, 11] K n
            (Env.mk 21
              [(3, AV.lg t 1 (lo ++ rb (textBytes s))), (9, AV.sl 1 f l), (10, AV.int IntKind.i64 (↑l.length : Int)),
                (11, AV.int IntKind.i64 (IntKind.i64.wrap (i + 1)))])
            (St.mk os ((St.mk os (tk ++ [(1, (textBytes s).length)])).tk.set t (1, lo.length + (rb (textBytes s)).length)))
        else none)
        none)
      (K (AX.exit 0) (Env.mk 21 [(3, AV.lg t 1 lo)]) (St.mk os tk)) := by
  rw [tx_round_raw F n t K f i lo l s os tk, h0]
  kernel_rfl

theorem tx_end_raw (F n t : Nat) (K : Cont) (f : Bool) (i : Int) (lo l : List (List AV)) (st : St) :
    (loopRun (f20_l0.run F) [3, 9, 10, 11] K n.succ (Env.mk 21 [(3, .lg t 1 lo), (9, .sl 1 f l), (10, .int .i64 l.length), (11, .int .i64 i)]) st : Ans) =
    branch (AV.bool (decide (i < (↑l.length : Int))))
      (onSome (elemAt l i) none fun (o : List AV) =>
        onCons o none fun (x : AV) (l_1 : List AV) =>
          onSome (dec1s [x]) none fun (o : ByteArray) =>
            branch (AV.bool (shortS o))
              (if
                  ((fun (s : ByteArray) (st : St) =>
                                (AV.lg st.tk.length 1 (rb (textBytes s)),
                                  St.mk st.objs (st.tk ++ [(1, (textBytes s).length)])))
                              o st).snd.tk[t]? =
                      some (1, lo.length) ∧
                    (lo.length + (rb (textBytes o)).length) * 1 ≤ 140737488355328 then
                loopRun (f20_l0.run F) [3, 9, 10, 11] K n
                  (Env.mk 21
                    [(3, AV.lg t 1 (lo ++ rb (textBytes o))), (9, AV.sl 1 f l), (10, AV.int IntKind.i64 (↑l.length : Int)),
                      (11, AV.int IntKind.i64 (IntKind.i64.wrap (i + 1)))])
                  (St.mk (St.mk st.objs (st.tk ++ [(1, (textBytes o).length)])).objs
                    ((St.mk st.objs (st.tk ++ [(1, (textBytes o).length)])).tk.set t
                      (1, lo.length + (rb (textBytes o)).length)))
              else none)
              none)
      (K (AX.exit 0) (Env.mk 21 [(3, AV.lg t 1 lo)]) st) := by kernel_rfl

theorem tx_end (F n t : Nat) (K : Cont) (f : Bool) (i : Int) (lo l : List (List AV)) (st : St) (h0 : decide (i < (l.length : Int)) = false) :
    (loopRun (f20_l0.run F) [3, 9, 10, 11] K n.succ (Env.mk 21 [(3, .lg t 1 lo), (9, .sl 1 f l), (10, .int .i64 l.length), (11, .int .i64 i)]) st : Ans) =
    K (AX.exit 0) (Env.mk 21 [(3, AV.lg t 1 lo)]) st := by
  rw [tx_end_raw F n t K f i lo l st, h0]
  kernel_rfl

theorem tx_out (F t : Nat) (lo : List (List AV)) (st : St) :
    ((Cont.block 0 (Cont.then (f20_r0.run F (f20.leaveK Fun.done)) (f20.leaveK Fun.done))) (.exit 0) (Env.mk 21 [(3, .lg t 1 lo)]) st : Ans) =
    some (Fin.ret (AV.lg t 1 lo), st) := by kernel_rfl

theorem rx_nil (F : Nat) (st : St) :
    (f21.run F.succ [.nilsl] st : Ans) =
    some (Fin.ret (AV.lg st.tk.length 1 [[AV.int IntKind.u8 0]]), St.mk st.objs (st.tk ++ [(1, 1)])) := by kernel_rfl

theorem rx_round_raw (F n t : Nat) (K : Cont) (f : Bool) (i : Int) (lo l : List (List AV)) (s : ByteArray) (os : List Ob) (tk : List (Nat × Nat)) :
    (loopRun (f21_l0.run F) [0, 3, 4] K n.succ (Env.mk 22 [(0, .sl 1 f l), (3, .lg t 1 lo), (4, .int .i64 i)]) ⟨os, tk⟩ : Ans) =
    branch (AV.bool (decide (i < (↑l.length : Int))))
      (onSome (elemAt l i) none fun (o : List AV) =>
        onCons o none fun (x : AV) (l_1 : List AV) =>
          onSome (dec1s [x]) none fun (o : ByteArray) =>
            branch (AV.bool (shortS o))
              (if
                  ((fun (s : ByteArray) (st : St) =>
                                (AV.lg st.tk.length 1 (rb (textBytes s)),
                                  St.mk st.objs (st.tk ++ [(1, (textBytes s).length)])))
                              o (St.mk os tk)).snd.tk[t]? =
                      some (1, lo.length) ∧
                    (lo.length + (rb (textBytes o)).length) * 1 ≤ 140737488355328 then
                loopRun (f21_l0.run F) [0, 3, 4] K n
                  (Env.mk 22
                    [(0, AV.sl 1 f l), (3, AV.lg t 1 (lo ++ rb (textBytes o))),
                      (4, AV.int IntKind.i64 (IntKind.i64.wrap (i + 1)))])
                  (St.mk os
                    ((St.mk os (tk ++ [(1, (textBytes o).length)])).tk.set t (1, lo.length + (rb (textBytes o)).length)))
              else none)
              none)
      (K (AX.exit 0) (Env.mk 22 [(3, AV.lg t 1 lo)]) (St.mk os tk)) := by kernel_rfl

theorem rx_round (F n t : Nat) (K : Cont) (f : Bool) (i : Int) (lo l : List (List AV)) (s : ByteArray) (os : List Ob) (tk : List (Nat × Nat)) (h0 : elemAt l i = some [.str s]) :
    (loopRun (f21_l0.run F) [0, 3, 4] K n.succ (Env.mk 22 [(0, .sl 1 f l), (3, .lg t 1 lo), (4, .int .i64 i)]) ⟨os, tk⟩ : Ans) =
    branch (AV.bool (decide (i < (↑l.length : Int))))
      (branch (AV.bool (shortS s))
        (if
            ((fun (s : ByteArray) (st : St) =>
                          (AV.lg st.tk.length 1 (rb (textBytes s)), St.mk st.objs (st.tk ++ [(1, (textBytes s).length)])))
                        s (St.mk os tk)).snd.tk[t]? =
                some (1, lo.length) ∧
              (lo.length + (rb (textBytes s)).length) * 1 ≤ 140737488355328 then
          loopRun (f21_l0.run F) [0, 3, 4] K n
            (Env.mk 22
              [(0, AV.sl 1 f l), (3, AV.lg t 1 (lo ++ rb (textBytes s))),
                (4, AV.int IntKind.i64 (IntKind.i64.wrap (i + 1)))])
            (St.mk os ((St.mk os (tk ++ [(1, (textBytes s).length)])).tk.set t (1, lo.length + (rb (textBytes s)).length)))
        else none)
        none)
      (K (AX.exit 0) (Env.mk 22 [(3, AV.lg t 1 lo)]) (St.mk os tk)) := by
  rw [rx_round_raw F n t K f i lo l s os tk, h0]
  kernel_rfl

theorem rx_end_raw (F n t : Nat) (K : Cont) (f : Bool) (i : Int) (lo l : List (List AV)) (st : St) :
    (loopRun (f21_l0.run F) [0, 3, 4] K n.succ (Env.mk 22 [(0, .sl 1 f l), (3, .lg t 1 lo), (4, .int .i64 i)]) st : Ans) =
    branch (AV.bool (decide (i < (↑l.length : Int))))
      (onSome (elemAt l i) none fun (o : List AV) =>
        onCons o none fun (x : AV) (l_1 : List AV) =>
          onSome (dec1s [x]) none fun (o : ByteArray) =>
            branch (AV.bool (shortS o))
              (if
                  ((fun (s : ByteArray) (st : St) =>
                                (AV.lg st.tk.length 1 (rb (textBytes s)),
                                  St.mk st.objs (st.tk ++ [(1, (textBytes s).length)])))
                              o st).snd.tk[t]? =
                      some (1, lo.length) ∧
                    (lo.length + (rb (textBytes o)).length) * 1 ≤ 140737488355328 then
                loopRun (f21_l0.run F) [0, 3, 4] K n
                  (Env.mk 22
                    [(0, AV.sl 1 f l), (3, AV.lg t 1 (lo ++ rb (textBytes o))),
                      (4, AV.int IntKind.i64 (IntKind.i64.wrap (i + 1)))])
                  (St.mk (St.mk st.objs (st.tk ++ [(1, (textBytes o).length)])).objs
                    ((St.mk st.objs (st.tk ++ [(1, (textBytes o).length)])).tk.set t
                      (1, lo.length + (rb (textBytes o)).length)))
              else none)
              none)
      (K (AX.exit 0) (Env.mk 22 [(3, AV.lg t 1 lo)]) st) := by kernel_rfl

theorem rx_end (F n t : Nat) (K : Cont) (f : Bool) (i : Int) (lo l : List (List AV)) (st : St) (h0 : decide (i < (l.length : Int)) = false) :
    (loopRun (f21_l0.run F) [0, 3, 4] K n.succ (Env.mk 22 [(0, .sl 1 f l), (3, .lg t 1 lo), (4, .int .i64 i)]) st : Ans) =
    K (AX.exit 0) (Env.mk 22 [(3, AV.lg t 1 lo)]) st := by
  rw [rx_end_raw F n t K f i lo l st, h0]
  kernel_rfl

theorem rx_out (F t : Nat) (lo : List (List AV)) (st : St) :
    ((Cont.block 0 (Cont.then (f21_r0.run F (f21.leaveK Fun.done)) (f21.leaveK Fun.done))) (.exit 0) (Env.mk 22 [(3, .lg t 1 lo)]) st : Ans) =
    some (Fin.ret (AV.lg t 1 lo), st) := by kernel_rfl

theorem st_run (F : Nat) (f f' : Bool) (l l' : List (List AV)) (st : St) :
    (f22.run F [.sl 1 f l, .sl 1 f' l'] st : Ans) =
    branch (AV.bool ((↑l.length : Int) != (↑l'.length : Int))) (some (Fin.ret (AV.bool false), st))
      (loopRun (f22_l0.run F) [0, 1, 5]
        (Cont.block 0 (Cont.then (f22_r0.run F (f22.leaveK Fun.done)) (f22.leaveK Fun.done))) F
        (Env.mk 26 [(0, AV.sl 1 f l), (1, AV.sl 1 f' l'), (5, AV.int IntKind.i64 0)]) st) := by kernel_rfl

theorem st_nn (F : Nat) (st : St) :
    (f22.run F.succ [.nilsl, .nilsl] st : Ans) =
    some (Fin.ret (AV.bool true), st) := by kernel_rfl

theorem st_ns (F : Nat) (f : Bool) (l : List (List AV)) (st : St) :
    (f22.run F.succ [.nilsl, .sl 1 f l] st : Ans) =
    branch (AV.bool (0 != (↑l.length : Int))) (some (Fin.ret (AV.bool false), st)) (some (Fin.ret (AV.bool true), st)) := by kernel_rfl

theorem st_sn (F : Nat) (f : Bool) (l : List (List AV)) (st : St) :
    (f22.run F.succ [.sl 1 f l, .nilsl] st : Ans) =
    branch (AV.bool ((↑l.length : Int) != 0)) (some (Fin.ret (AV.bool false), st))
      (branch (AV.bool (decide (0 < (↑l.length : Int))))
        (onSome (elemAt l 0) none fun (o : List AV) => onCons o none fun (x : AV) (l : List AV) => none)
        (some (Fin.ret (AV.bool true), st))) := by kernel_rfl

theorem st_round_raw (F n : Nat) (K : Cont) (i : Int) (a b : ByteArray) (f f' : Bool) (l l' : List (List AV)) (st : St) :
    (loopRun (f22_l0.run F) [0, 1, 5] K n.succ (Env.mk 26 [(0, .sl 1 f l), (1, .sl 1 f' l'), (5, .int .i64 i)]) st : Ans) =
    branch (AV.bool (decide (i < (↑l.length : Int))))
      (onSome (elemAt l i) none fun (o : List AV) =>
        onCons o none fun (x : AV) (l_1 : List AV) =>
          onSome (elemAt l' i) none fun (o : List AV) =>
            onCons o none fun (x_1 : AV) (l_2 : List AV) =>
              onStr x fun (a : ByteArray) =>
                onStr x_1 fun (a_1 : ByteArray) =>
                  branch (AV.bool !a.toList == a_1.toList) (K AX.ret (Env.mk 26 [(4, AV.bool false)]) st)
                    (loopRun (f22_l0.run F) [0, 1, 5] K n
                      (Env.mk 26 [(0, AV.sl 1 f l), (1, AV.sl 1 f' l'), (5, AV.int IntKind.i64 (IntKind.i64.wrap (i + 1)))])
                      st))
      (K (AX.exit 0) (Env.mk 26 []) st) := by kernel_rfl

theorem st_round (F n : Nat) (K : Cont) (i : Int) (a b : ByteArray) (f f' : Bool) (l l' : List (List AV)) (st : St) (h0 : elemAt l i = some [.str a]) (h1 : elemAt l' i = some [.str b]) :
    (loopRun (f22_l0.run F) [0, 1, 5] K n.succ (Env.mk 26 [(0, .sl 1 f l), (1, .sl 1 f' l'), (5, .int .i64 i)]) st : Ans) =
    branch (AV.bool (decide (i < (↑l.length : Int))))
      (branch (AV.bool !a.toList == b.toList) (K AX.ret (Env.mk 26 [(4, AV.bool false)]) st)
        (loopRun (f22_l0.run F) [0, 1, 5] K n
          (Env.mk 26 [(0, AV.sl 1 f l), (1, AV.sl 1 f' l'), (5, AV.int IntKind.i64 (IntKind.i64.wrap (i + 1)))]) st))
      (K (AX.exit 0) (Env.mk 26 []) st) := by
  rw [st_round_raw F n K i a b f f' l l' st, h0, h1]
  kernel_rfl

theorem st_end_raw (F n : Nat) (K : Cont) (i : Int) (f f' : Bool) (l l' : List (List AV)) (st : St) :
    (loopRun (f22_l0.run F) [0, 1, 5] K n.succ (Env.mk 26 [(0, .sl 1 f l), (1, .sl 1 f' l'), (5, .int .i64 i)]) st : Ans) =
    branch (AV.bool (decide (i < (↑l.length : Int))))
      (onSome (elemAt l i) none fun (o : List AV) =>
        onCons o none fun (x : AV) (l_1 : List AV) =>
          onSome (elemAt l' i) none fun (o : List AV) =>
            onCons o none fun (x_1 : AV) (l_2 : List AV) =>
              onStr x fun (a : ByteArray) =>
                onStr x_1 fun (a_1 : ByteArray) =>
                  branch (AV.bool !a.toList == a_1.toList) (K AX.ret (Env.mk 26 [(4, AV.bool false)]) st)
                    (loopRun (f22_l0.run F) [0, 1, 5] K n
                      (Env.mk 26 [(0, AV.sl 1 f l), (1, AV.sl 1 f' l'), (5, AV.int IntKind.i64 (IntKind.i64.wrap (i + 1)))])
                      st))
      (K (AX.exit 0) (Env.mk 26 []) st) := by kernel_rfl

theorem st_end (F n : Nat) (K : Cont) (i : Int) (f f' : Bool) (l l' : List (List AV)) (st : St) (h0 : decide (i < (l.length : Int)) = false) :
    (loopRun (f22_l0.run F) [0, 1, 5] K n.succ (Env.mk 26 [(0, .sl 1 f l), (1, .sl 1 f' l'), (5, .int .i64 i)]) st : Ans) =
    K (AX.exit 0) (Env.mk 26 []) st := by
  rw [st_end_raw F n K i f f' l l' st, h0]
  kernel_rfl

theorem st_out (F : Nat) (st : St) :
    ((Cont.block 0 (Cont.then (f22_r0.run F (f22.leaveK Fun.done)) (f22.leaveK Fun.done))) (.exit 0) (Env.mk 26 []) st : Ans) =
    some (Fin.ret (AV.bool true), st) := by kernel_rfl

theorem st_ret (F : Nat) (st : St) :
    ((Cont.block 0 (Cont.then (f22_r0.run F (f22.leaveK Fun.done)) (f22.leaveK Fun.done))) .ret (Env.mk 26 [(4, .bool false)]) st : Ans) =
    some (Fin.ret (AV.bool false), st) := by kernel_rfl

end Go.Proofs.Ytjdpfblmhahfkaa.V

/- Bits: lists of texts as bytes; the same texts. -/
set_option linter.unusedVariables false
namespace Go.Proofs.Ytjdpfblmhahfkaa.V
open Go Go.V Go.RowKit

def strOf : List AV → ByteArray
  | [.str s] => s
  | _ => ByteArray.empty
def isStr : List AV → Bool
  | [.str s] => decide (s.size ≤ 100000)
  | _ => false
/-- Rows that are texts, none too long. -/
def okT (l : List (List AV)) : Bool := l.all isStr
def sR (l : List (List AV)) : List ByteArray := l.map strOf
theorem isStr_row {r : List AV} (h : isStr r = true) : r = [.str (strOf r)] ∧ (strOf r).size ≤ 100000 := by
  unfold isStr at h
  split at h
  · exact ⟨rfl, of_decide_eq_true h⟩
  · cases h
theorem okT_at {l : List (List AV)} (h : okT l = true) {i : Nat} (hi : i < l.length) : elemAt l (i : Int) = some [.str (sR l)[i]!] ∧ (sR l)[i]!.size ≤ 100000 := by
  have h1 := isStr_row (List.all_eq_true.mp h l[i] (List.getElem_mem hi))
  have h2 : (sR l)[i]! = strOf l[i] := by simp [sR, hi]
  rw [h2]
  refine ⟨?_, h1.2⟩
  rw [← h1.1]
  unfold elemAt
  simp [hi]
theorem sR_length (l : List (List AV)) : (sR l).length = l.length := by simp [sR]
/-- Texts one behind the other. -/
def catT : List ByteArray → List Nat
  | [] => []
  | s :: r => textBytes s ++ catT r
/-- A list of texts as bytes. -/
def textsBytes (ss : List ByteArray) : List Nat := intBytes (ss.length : Int) ++ catT ss
theorem catT_append : ∀ a b, catT (a ++ b) = catT a ++ catT b
  | [], b => rfl
  | s :: a, b => by simp only [List.cons_append, catT, catT_append a b, List.append_assoc]
theorem catT_length : ∀ ss : List ByteArray, (∀ s ∈ ss, s.size ≤ 100000) → (catT ss).length ≤ ss.length * 100010
  | [], _ => by simp [catT]
  | s :: r, h => by
    have h1 := catT_length r fun s hs => h s (by simp [hs])
    have h2 := h s (by simp)
    have h3 := intBytes_length s.size
    simp only [catT, textBytes, List.length_append, own_length, List.length_cons]
    omega
theorem sR_short {l : List (List AV)} (h : okT l = true) : ∀ s ∈ sR l, s.size ≤ 100000 := by
  intro s hs
  obtain ⟨r, hr, rfl⟩ := List.mem_map.mp hs
  exact (isStr_row (List.all_eq_true.mp h r hr)).2
theorem catT_lt {ss : List ByteArray} (h : ∀ s ∈ ss, s.size ≤ 100000) : ∀ b ∈ catT ss, b < 256 := by
  induction ss with
  | nil => intro b hb; simp [catT] at hb
  | cons s r ih =>
    intro b hb
    rcases List.mem_append.mp hb with hb | hb
    · exact textBytes_lt (by have := h s (by simp); omega) b hb
    · exact ih (fun s hs => h s (by simp [hs])) b hb
theorem tk_mid (a b : List (Nat × Nat)) (x : Nat × Nat) : (a ++ x :: b)[a.length]? = some x := by simp
theorem tk_mid_set (a b : List (Nat × Nat)) (x y : Nat × Nat) : (a ++ x :: b).set a.length y = a ++ y :: b := by simp

theorem at_i {l : List (List AV)} {i : Nat} (hi : i < l.length) : (sR l).drop i = (sR l)[i]! :: (sR l).drop (i + 1) := by
  rw [List.drop_eq_getElem_cons (by rw [sR_length]; exact hi)]
  simp [sR, hi]

theorem tx_loop (F : Nat) (f : Bool) (l : List (List AV)) (os : List Ob) (tk : List (Nat × Nat)) (hl : okT l = true) (hn : l.length ≤ 100000) : ∀ (k i n : Nat) (lo : List (List AV)) (xt : List (Nat × Nat)), i + k = l.length → k < n → lo.length ≤ 10 + i * 100010 →
    ∃ xt', loopRun (f20_l0.run F) [3, 9, 10, 11] (Cont.block 0 (Cont.then (f20_r0.run F (f20.leaveK Fun.done)) (f20.leaveK Fun.done))) n
      (Env.mk 21 [(3, .lg tk.length 1 lo), (9, .sl 1 f l), (10, .int .i64 l.length), (11, .int .i64 i)]) ⟨os, tk ++ (1, lo.length) :: xt⟩
      = some (.ret (.lg tk.length 1 (lo ++ rb (catT ((sR l).drop i)))), ⟨os, tk ++ (1, lo.length + (catT ((sR l).drop i)).length) :: xt'⟩)
  | k, i, 0, lo, xt, hi, hk, hlo => by omega
  | 0, i, n + 1, lo, xt, hi, hk, hlo => by
    refine ⟨xt, ?_⟩
    rw [show n + 1 = n.succ from rfl, tx_end _ _ _ _ _ _ _ _ _ (by simp; omega), tx_out, List.drop_eq_nil_of_le (by rw [sR_length]; omega)]
    simp [catT, rb]
  | k + 1, i, n + 1, lo, xt, hi, hk, hlo => by
    have hi1 : i < l.length := by omega
    obtain ⟨he, hs⟩ := okT_at hl hi1
    have hil := intBytes_length (sR l)[i]!.size
    have htb : (textBytes (sR l)[i]!).length ≤ 100010 := by simp only [textBytes, List.length_append, own_length]; omega
    obtain ⟨xt', ih⟩ := tx_loop F f l os tk hl hn k (i + 1) n (lo ++ rb (textBytes (sR l)[i]!)) (xt ++ [(1, (textBytes (sR l)[i]!).length)]) (by omega) (by omega) (by rw [List.length_append, rb_length]; omega)
    refine ⟨xt', ?_⟩
    rw [show n + 1 = n.succ from rfl, tx_round F n _ _ f i lo l _ os _ he, branch_of (by simp; omega), branch_of (by unfold shortS; exact decide_eq_true (by omega))]
    simp only [List.append_assoc, List.cons_append]
    rw [if_pos ⟨tk_mid _ _ _, by rw [rb_length]; omega⟩, tk_mid_set, wrapS (by omega) (by omega), show ((i : Int) + 1) = ((i + 1 : Nat) : Int) by omega]
    rw [List.length_append] at ih
    rw [ih, at_i hi1]
    simp only [catT, rb_append, List.append_assoc, List.length_append, rb_length, Nat.add_assoc]

theorem rx_loop (F : Nat) (f : Bool) (l : List (List AV)) (os : List Ob) (tk : List (Nat × Nat)) (hl : okT l = true) (hn : l.length ≤ 100000) : ∀ (k i n : Nat) (lo : List (List AV)) (xt : List (Nat × Nat)), i + k = l.length → k < n → lo.length ≤ 10 + i * 100010 →
    ∃ xt', loopRun (f21_l0.run F) [0, 3, 4] (Cont.block 0 (Cont.then (f21_r0.run F (f21.leaveK Fun.done)) (f21.leaveK Fun.done))) n
      (Env.mk 22 [(0, .sl 1 f l), (3, .lg tk.length 1 lo), (4, .int .i64 i)]) ⟨os, tk ++ (1, lo.length) :: xt⟩
      = some (.ret (.lg tk.length 1 (lo ++ rb (catT ((sR l).drop i)))), ⟨os, tk ++ (1, lo.length + (catT ((sR l).drop i)).length) :: xt'⟩)
  | k, i, 0, lo, xt, hi, hk, hlo => by omega
  | 0, i, n + 1, lo, xt, hi, hk, hlo => by
    refine ⟨xt, ?_⟩
    rw [show n + 1 = n.succ from rfl, rx_end _ _ _ _ _ _ _ _ _ (by simp; omega), rx_out, List.drop_eq_nil_of_le (by rw [sR_length]; omega)]
    simp [catT, rb]
  | k + 1, i, n + 1, lo, xt, hi, hk, hlo => by
    have hi1 : i < l.length := by omega
    obtain ⟨he, hs⟩ := okT_at hl hi1
    have hil := intBytes_length (sR l)[i]!.size
    have htb : (textBytes (sR l)[i]!).length ≤ 100010 := by simp only [textBytes, List.length_append, own_length]; omega
    obtain ⟨xt', ih⟩ := rx_loop F f l os tk hl hn k (i + 1) n (lo ++ rb (textBytes (sR l)[i]!)) (xt ++ [(1, (textBytes (sR l)[i]!).length)]) (by omega) (by omega) (by rw [List.length_append, rb_length]; omega)
    refine ⟨xt', ?_⟩
    rw [show n + 1 = n.succ from rfl, rx_round F n _ _ f i lo l _ os _ he, branch_of (by simp; omega), branch_of (by unfold shortS; exact decide_eq_true (by omega))]
    simp only [List.append_assoc, List.cons_append]
    rw [if_pos ⟨tk_mid _ _ _, by rw [rb_length]; omega⟩, tk_mid_set, wrapS (by omega) (by omega), show ((i : Int) + 1) = ((i + 1 : Nat) : Int) by omega]
    rw [List.length_append] at ih
    rw [ih, at_i hi1]
    simp only [catT, rb_append, List.append_assoc, List.length_append, rb_length, Nat.add_assoc]

/-- Fit to be handed on: texts. -/
def fitT (b : Br) : Bool := okT b.list && decide (b.list.length ≤ 100000)
theorem fitT_spec {b : Br} (h : fitT b = true) : okT b.list = true ∧ b.list.length ≤ 100000 := by simpa [fitT] using h

theorem f20_spec (b : Br) (h : fitT b = true) : ∃ F, ∀ st, ∃ r' xo xt, frz r' = .sl 1 false (rb (textsBytes (sR b.list))) ∧ f20.run F [b.av] st = some (.ret r', ⟨st.objs ++ xo, st.tk ++ xt⟩) := by
  obtain ⟨h1, h2⟩ := fitT_spec h
  cases b with
  | nil => exact ⟨1, fun st => ⟨_, [], [(1, 1)], rfl, by show f20.run (Nat.succ 0) [.nilsl] st = _; rw [tx_nil, List.append_nil]⟩⟩
  | sl f l =>
    refine ⟨l.length + 1, fun st => ?_⟩
    have hil := intBytes_length l.length
    obtain ⟨xt, hx⟩ := tx_loop (l.length + 1) f l st.objs st.tk h1 h2 l.length 0 (l.length + 1) (rb (intBytes l.length)) [] (by omega) (by omega) (by rw [rb_length]; omega)
    refine ⟨.lg st.tk.length 1 (rb (textsBytes (sR l))), [], (1, (textsBytes (sR l)).length) :: xt, rfl, ?_⟩
    rw [rb_length] at hx
    show f20.run (l.length + 1) [.sl 1 f l] st = _
    simp only [Br.list] at h2
    rw [texts_run, branch_of (by simp [i64B]; omega), show ((0 : Int)) = ((0 : Nat) : Int) from rfl, hx, List.drop_zero, List.append_nil]
    simp only [textsBytes, rb_append, sR_length, List.length_append]
theorem f21_spec (b : Br) (h : fitT b = true) : ∃ F, ∀ st, ∃ r' xo xt, frz r' = .sl 1 false (rb (textsBytes (sR b.list))) ∧ f21.run F [b.av] st = some (.ret r', ⟨st.objs ++ xo, st.tk ++ xt⟩) := by
  obtain ⟨h1, h2⟩ := fitT_spec h
  cases b with
  | nil => exact ⟨1, fun st => ⟨_, [], [(1, 1)], rfl, by show f21.run (Nat.succ 0) [.nilsl] st = _; rw [rx_nil, List.append_nil]⟩⟩
  | sl f l =>
    refine ⟨l.length + 1, fun st => ?_⟩
    have hil := intBytes_length l.length
    obtain ⟨xt, hx⟩ := rx_loop (l.length + 1) f l st.objs st.tk h1 h2 l.length 0 (l.length + 1) (rb (intBytes l.length)) [] (by omega) (by omega) (by rw [rb_length]; omega)
    refine ⟨.lg st.tk.length 1 (rb (textsBytes (sR l))), [], (1, (textsBytes (sR l)).length) :: xt, rfl, ?_⟩
    rw [rb_length] at hx
    show f21.run (l.length + 1) [.sl 1 f l] st = _
    simp only [Br.list] at h2
    rw [rtexts_run, branch_of (by simp [i64B]; omega), show ((0 : Int)) = ((0 : Nat) : Int) from rfl, hx, List.drop_zero, List.append_nil]
    simp only [textsBytes, rb_append, sR_length, List.length_append]
noncomputable def r20 : POrc Try.prog := (f20.pureIfX sl1 (fun a => [a.av]) sl1_enc fitT (fun b => .sl 1 false (rb (textsBytes (sR b.list)))) (fun _ n m => scoped_rb n m _) f20_spec).fz
noncomputable def r21 : POrc Try.prog := (f21.pureIfX sl1 (fun a => [a.av]) sl1_enc fitT (fun b => .sl 1 false (rb (textsBytes (sR b.list)))) (fun _ n m => scoped_rb n m _) f21_spec).fz

/-! ### The same texts -/
def sameT : List ByteArray → List ByteArray → Bool
  | [], [] => true
  | a :: l, b :: m => a.toList == b.toList && sameT l m
  | _, _ => false
theorem same_refl : ∀ l, sameT l l = true
  | [] => rfl
  | a :: l => by simp [sameT, same_refl l]
theorem sameT_len : ∀ {a b : List ByteArray}, a.length ≠ b.length → sameT a b = false
  | [], [], h => absurd rfl h
  | [], _ :: _, _ => rfl
  | _ :: _, [], _ => rfl
  | x :: a, y :: b, h => by
    simp only [sameT, sameT_len (a := a) (b := b) (by simpa using h), Bool.and_false]
theorem st_loop (F : Nat) (f f' : Bool) (st : St) (K : Cont) (l m : List (List AV)) (hl : l.length = m.length) (h1 : okT l = true) (h2 : okT m = true) (hb : l.length ≤ 100000) : ∀ (k i n : Nat), i + k = l.length → k < n →
    loopRun (f22_l0.run F) [0, 1, 5] K n (Env.mk 26 [(0, .sl 1 f l), (1, .sl 1 f' m), (5, .int .i64 i)]) st
      = branch (.bool (sameT ((sR l).drop i) ((sR m).drop i))) (K (.exit 0) (Env.mk 26 []) st) (K .ret (Env.mk 26 [(4, .bool false)]) st)
  | k, i, 0, hi, hk => by omega
  | 0, i, n + 1, hi, hk => by
    have e1 : (sR l).drop i = [] := List.drop_eq_nil_of_le (by rw [sR_length]; omega)
    have e2 : (sR m).drop i = [] := List.drop_eq_nil_of_le (by rw [sR_length]; omega)
    rw [e1, e2, show n + 1 = n.succ from rfl, st_end _ _ _ _ _ _ _ _ _ (by simp; omega)]
    rfl
  | k + 1, i, n + 1, hi, hk => by
    have hi1 : i < l.length := by omega
    have hi2 : i < m.length := by omega
    have ih := st_loop F f f' st K l m hl h1 h2 hb k (i + 1) n (by omega) (by omega)
    rw [show n + 1 = n.succ from rfl, st_round F n K i _ _ f f' _ _ st (okT_at h1 hi1).1 (okT_at h2 hi2).1, branch_of (by simp; omega), wrapS (by omega) (by omega)]
    rw [show ((i : Int) + 1) = ((i + 1 : Nat) : Int) by omega, ih, at_i hi1, at_i hi2]
    simp only [sameT, branch_ite]
    cases ((sR l)[i]!.toList == (sR m)[i]!.toList) <;> simp
theorem f22_spec (a : Br × Br) (h : (fitT a.1 && okT a.2.list) = true) : ∃ F, ∀ st, f22.run F [a.1.av, a.2.av] st = some (.ret (.bool (sameT (sR a.1.list) (sR a.2.list))), st) := by
  simp only [Bool.and_eq_true] at h
  obtain ⟨h1, h2⟩ := fitT_spec h.1
  obtain ⟨x, y⟩ := a
  refine ⟨x.list.length + 1, fun st => ?_⟩
  cases x with
  | nil =>
    cases y with
    | nil => exact st_nn 0 st
    | sl f m =>
      show f22.run (Nat.succ 0) [.nilsl, .sl 1 f m] st = _
      rw [st_ns]
      cases m with
      | nil => rfl
      | cons b bs => rw [branch_of (by simp [bne]; omega)]; rfl
  | sl f l =>
    cases y with
    | nil =>
      show f22.run (Nat.succ l.length) [.sl 1 f l, .nilsl] st = _
      rw [st_sn]
      cases l with
      | nil => rfl
      | cons b bs => rw [branch_of (by simp [bne]; omega)]; rfl
    | sl f' m =>
      show f22.run (l.length + 1) [.sl 1 f l, .sl 1 f' m] st = some (.ret (.bool (sameT (sR l) (sR m))), st)
      rw [st_run]
      by_cases hl : l.length = m.length
      · rw [branch_not (by simp [hl])]
        have := st_loop (l.length + 1) f f' st (Cont.block 0 (Cont.then (f22_r0.run (l.length + 1) (f22.leaveK Fun.done)) (f22.leaveK Fun.done))) l m hl h1 h.2 h2 l.length 0 (l.length + 1) (by omega) (by omega)
        rw [show ((0 : Nat) : Int) = 0 from rfl] at this
        rw [this, st_out, st_ret]
        simp only [List.drop_zero]
        cases sameT (sR l) (sR m) <;> rfl
      · rw [branch_of (by simp [bne]; omega), sameT_len (by rw [sR_length, sR_length]; exact hl)]
noncomputable def r22 : POrc Try.prog := (f22.pureIf sl2 (fun a => [a.1.av, a.2.av]) sl2_enc (fun a => fitT a.1 && okT a.2.list) (fun a => .bool (sameT (sR a.1.list) (sR a.2.list))) (fun a _ => ⟨rfl, fun _ _ => trivial⟩) f22_spec).fz
end Go.Proofs.Ytjdpfblmhahfkaa.V

/- The functions' pieces, as told by gen.py. -/
set_option linter.unusedVariables false
set_option maxRecDepth 20000
namespace Go.Proofs.Ytjdpfblmhahfkaa.V
open Go Go.V Go.RowKit


/-! ### 5: interlock/interlocklaw01.BitsWrites (3, 9, 33); results 6; slots: 0 n, 1 s, 2 list, 3 n, 4 s, 5 list, 7 i -/
/-- A loop's round; at its head live: 0 n, 1 s, 2 list, 7 i -/
noncomputable def f5_l0 : Sim Try.prog :=
  (.seq (.seq (.live [0, 1, 2, 7, 21] (.region 6 [
    ⟨(opMove (some 18) (.tmp 7) 3 "law.go:24" #[]).op, none⟩,
    ⟨(opMove (some 19) (.tmp 2) 33 "law.go:24" #[]).op, none⟩,
    ⟨(opLen (some 20) (.tmp 19) 33 (.slice 9) Try.underlying33 3 "law.go:24" #[{ on := 1, ground := Ground.data }]).op, none⟩,
    ⟨(opBin (some 21) .lss 3 (.tmp 18) (.tmp 20) 3 4 "law.go:24" #[{ on := 0, ground := Ground.data }, { on := 2, ground := Ground.data }]).op, none⟩
  ] (by kernel_rfl)))
  (.cond (.tmp 21)
    .skip
    (.live [0, 1, 2] (.exit 0))))
  (.seq (.block 1 (.seq (.live [0, 1, 2, 7, 29] (.region 8 [
      ⟨(opMove (some 24) (.tmp 2) 33 "law.go:25" #[]).op, none⟩,
      ⟨(opMove (some 25) (.tmp 7) 3 "law.go:25" #[]).op, none⟩,
      ⟨(opIndexAddr (some 26) 33 (.tmp 24) (.tmp 25) 9 1 Try.underlying33 sz9 0 "law.go:25" #[{ on := 0, ground := Ground.data }, { on := 1, ground := Ground.data }]).op, none⟩,
      ⟨(opLoad (some 27) 9 (.tmp 26) .string Try.underlying9 1 sz9 9 "law.go:25" #[{ on := 2, ground := Ground.data }]).op, none⟩,
      ⟨(opLen (some 28) (.tmp 27) 9 .string Try.underlying9 3 "law.go:25" #[{ on := 3, ground := Ground.data }]).op, none⟩,
      ⟨(opBin (some 29) .gtr 3 (.tmp 28) (.const (Value.int IntKind.i64 5000)) 3 4 "law.go:25" #[{ on := 4, ground := Ground.data }]).op, none⟩
    ] (by kernel_rfl)))
    (.cond (.tmp 29)
      (.seq (.live [6] (.region 9 [
        ⟨(opAssign (some 6) (.const (Value.bool true)) 4 "law.go:26" #[]).op, none⟩
      ] (by kernel_rfl)))
      (.live [6] .ret))
      .skip)))
  (.live [0, 1, 2, 7] (.region 7 [
    ⟨(opMove (some 22) (.tmp 7) 3 "law.go:24" #[]).op, none⟩,
    ⟨(opBin (some 23) .add 3 (.tmp 22) (.const (Value.int IntKind.i64 1)) 3 3 "law.go:24" #[{ on := 0, ground := Ground.data }]).op, none⟩,
    ⟨(opAssign (some 7) (.tmp 23) 3 "law.go:24" #[{ on := 1, ground := Ground.data }, { on := 0, ground := Ground.phase }, { on := 1, ground := Ground.phase }]).op, none⟩
  ] (by kernel_rfl)))))

/-- What follows a loop. -/
noncomputable def f5_r0 : Sim Try.prog :=
  (.seq (.live [6] (.region 10 [
    ⟨(opMove (some 30) (.tmp 0) 3 "law.go:29" #[]).op, none⟩,
    ⟨opCall (q15).orc (some 31) [(.tmp 30)] #[3] 22 "law.go:29" #[{ on := 0, ground := Ground.data }], none⟩,
    ⟨(opMove (some 32) (.tmp 0) 3 "law.go:29" #[]).op, none⟩,
    ⟨opCall (q18).orc (some 33) [(.tmp 32)] #[3] 22 "law.go:29" #[{ on := 2, ground := Ground.data }, { on := 1, ground := Ground.chain }], none⟩,
    ⟨(opCallP r14 (some 34) [(.tmp 31), (.tmp 33)] #[22, 22] 4 "law.go:29" #[{ on := 1, ground := Ground.data }, { on := 3, ground := Ground.data }, { on := 3, ground := Ground.chain }]).op, none⟩,
    ⟨(opMove (some 35) (.tmp 34) 4 "law.go:29" #[{ on := 4, ground := Ground.data }, { on := 4, ground := Ground.chain }]).op, none⟩,
    ⟨(opMove (some 36) (.tmp 1) 9 "law.go:29" #[{ on := 5, ground := Ground.guard }]).op, (some (5, 35, true))⟩,
    ⟨opCall (q16).orc (some 37) [(.tmp 36)] #[9] 22 "law.go:29" #[{ on := 6, ground := Ground.data }, { on := 5, ground := Ground.chain }, { on := 5, ground := Ground.guard }], (some (5, 35, true))⟩,
    ⟨(opMove (some 38) (.tmp 1) 9 "law.go:29" #[{ on := 5, ground := Ground.guard }]).op, (some (5, 35, true))⟩,
    ⟨opCall (q19).orc (some 39) [(.tmp 38)] #[9] 22 "law.go:29" #[{ on := 8, ground := Ground.data }, { on := 7, ground := Ground.chain }, { on := 5, ground := Ground.guard }], (some (5, 35, true))⟩,
    ⟨(opCallP r14 (some 40) [(.tmp 37), (.tmp 39)] #[22, 22] 4 "law.go:29" #[{ on := 7, ground := Ground.data }, { on := 9, ground := Ground.data }, { on := 9, ground := Ground.chain }, { on := 5, ground := Ground.guard }]).op, (some (5, 35, true))⟩,
    ⟨(opPick (some 41) (.tmp 35) (.tmp 40) (.const (Value.bool false)) 4 "law.go:29" #[{ on := 5, ground := Ground.data }, { on := 10, ground := Ground.data }]).op, none⟩,
    ⟨(opMove (some 42) (.tmp 41) 4 "law.go:29" #[{ on := 11, ground := Ground.data }, { on := 10, ground := Ground.chain }]).op, none⟩,
    ⟨(opMove (some 43) (.tmp 2) 33 "law.go:29" #[{ on := 12, ground := Ground.guard }]).op, (some (12, 42, true))⟩,
    ⟨(opCallP r20 (some 44) [(.tmp 43)] #[33] 22 "law.go:29" #[{ on := 13, ground := Ground.data }, { on := 12, ground := Ground.chain }, { on := 12, ground := Ground.guard }]).op, (some (12, 42, true))⟩,
    ⟨(opMove (some 45) (.tmp 2) 33 "law.go:29" #[{ on := 12, ground := Ground.guard }]).op, (some (12, 42, true))⟩,
    ⟨(opCallP r21 (some 46) [(.tmp 45)] #[33] 22 "law.go:29" #[{ on := 15, ground := Ground.data }, { on := 14, ground := Ground.chain }, { on := 12, ground := Ground.guard }]).op, (some (12, 42, true))⟩,
    ⟨(opCallP r14 (some 47) [(.tmp 44), (.tmp 46)] #[22, 22] 4 "law.go:29" #[{ on := 14, ground := Ground.data }, { on := 16, ground := Ground.data }, { on := 16, ground := Ground.chain }, { on := 12, ground := Ground.guard }]).op, (some (12, 42, true))⟩,
    ⟨(opPick (some 48) (.tmp 42) (.tmp 47) (.const (Value.bool false)) 4 "law.go:29" #[{ on := 12, ground := Ground.data }, { on := 17, ground := Ground.data }]).op, none⟩,
    ⟨(opAssign (some 6) (.tmp 48) 4 "law.go:29" #[{ on := 18, ground := Ground.data }, { on := 17, ground := Ground.chain }, { on := 0, ground := Ground.phase }, { on := 1, ground := Ground.phase }, { on := 2, ground := Ground.phase }, { on := 3, ground := Ground.phase }, { on := 4, ground := Ground.phase }, { on := 5, ground := Ground.phase }, { on := 6, ground := Ground.phase }, { on := 7, ground := Ground.phase }, { on := 8, ground := Ground.phase }, { on := 9, ground := Ground.phase }, { on := 10, ground := Ground.phase }, { on := 11, ground := Ground.phase }, { on := 12, ground := Ground.phase }, { on := 13, ground := Ground.phase }, { on := 14, ground := Ground.phase }, { on := 15, ground := Ground.phase }, { on := 16, ground := Ground.phase }, { on := 17, ground := Ground.phase }, { on := 18, ground := Ground.phase }]).op, none⟩
  ] (by kernel_rfl)))
  (.live [6] .ret))

noncomputable def f5_b : Sim Try.prog :=
  (.seq (.live [0, 1, 2] (.region 0 [
    ⟨(opAssign (some 6) (.const (Value.bool false)) 4 "law.go:17" #[]).op, none⟩
  ] (by kernel_rfl)))
  (.seq (.seq (.live [0, 1, 2, 9] (.region 1 [
    ⟨(opCallP p9 (some 8) [] #[] 4 "law.go:18" #[]).op, none⟩,
    ⟨(opNot (some 9) 4 (.tmp 8) 4 "law.go:18" #[{ on := 0, ground := Ground.data }]).op, none⟩
  ] (by kernel_rfl)))
  (.cond (.tmp 9)
    (.seq (.live [6] (.region 2 [
      ⟨(opAssign (some 6) (.const (Value.bool false)) 4 "law.go:19" #[]).op, none⟩
    ] (by kernel_rfl)))
    (.live [6] .ret))
    .skip))
  (.seq (.seq (.live [0, 1, 2, 17] (.region 3 [
    ⟨(opMove (some 10) (.tmp 1) 9 "law.go:21" #[]).op, none⟩,
    ⟨(opLen (some 11) (.tmp 10) 9 .string Try.underlying9 3 "law.go:21" #[{ on := 0, ground := Ground.data }]).op, none⟩,
    ⟨(opBin (some 12) .gtr 3 (.tmp 11) (.const (Value.int IntKind.i64 5000)) 3 4 "law.go:21" #[{ on := 1, ground := Ground.data }]).op, none⟩,
    ⟨(opMove (some 13) (.tmp 12) 4 "law.go:21" #[{ on := 2, ground := Ground.data }]).op, none⟩,
    ⟨(opMove (some 14) (.tmp 2) 33 "law.go:21" #[{ on := 3, ground := Ground.guard }]).op, (some (3, 13, false))⟩,
    ⟨(opLen (some 15) (.tmp 14) 33 (.slice 9) Try.underlying33 3 "law.go:21" #[{ on := 4, ground := Ground.data }, { on := 3, ground := Ground.guard }]).op, (some (3, 13, false))⟩,
    ⟨(opBin (some 16) .gtr 3 (.tmp 15) (.const (Value.int IntKind.i64 200)) 3 4 "law.go:21" #[{ on := 5, ground := Ground.data }, { on := 3, ground := Ground.guard }]).op, (some (3, 13, false))⟩,
    ⟨(opPick (some 17) (.tmp 13) (.const (Value.bool true)) (.tmp 16) 4 "law.go:21" #[{ on := 3, ground := Ground.data }, { on := 6, ground := Ground.data }]).op, none⟩
  ] (by kernel_rfl)))
  (.cond (.tmp 17)
    (.seq (.live [6] (.region 4 [
      ⟨(opAssign (some 6) (.const (Value.bool true)) 4 "law.go:22" #[]).op, none⟩
    ] (by kernel_rfl)))
    (.live [6] .ret))
    .skip))
  (.seq (.seq (.live [0, 1, 2, 7] (.region 5 [
    ⟨(opAssign (some 7) (.const (Value.int IntKind.i64 0)) 3 "law.go:24" #[]).op, none⟩
  ] (by kernel_rfl)))
  (.block 0 (.loop [0, 1, 2, 7] f5_l0)))
  f5_r0))))

noncomputable def f5 : Fun Try.prog where
  id := 5
  fn := Try.f5
  hf := Try.func5
  hname := by kernel_rfl
  body := f5_b
  hbody := by kernel_rfl
  res := [rTmp 6]
  hres := by kernel_rfl
  n := 49
  hn := by kernel_rfl

/-! ### 6: interlock/interlocklaw01.BitsTexts (33); results 2; slots: 0 list, 1 list, 3 want, 4 i -/
/-- A loop's round; at its head live: 0 list, 3 want, 4 i -/
noncomputable def f6_l0 : Sim Try.prog :=
  (.seq (.seq (.live [0, 3, 4, 16] (.region 7 [
    ⟨(opMove (some 13) (.tmp 4) 3 "law.go:161" #[]).op, none⟩,
    ⟨(opMove (some 14) (.tmp 0) 33 "law.go:161" #[]).op, none⟩,
    ⟨(opLen (some 15) (.tmp 14) 33 (.slice 9) Try.underlying33 3 "law.go:161" #[{ on := 1, ground := Ground.data }]).op, none⟩,
    ⟨(opBin (some 16) .lss 3 (.tmp 13) (.tmp 15) 3 4 "law.go:161" #[{ on := 0, ground := Ground.data }, { on := 2, ground := Ground.data }]).op, none⟩
  ] (by kernel_rfl)))
  (.cond (.tmp 16)
    .skip
    (.live [0, 3] (.exit 0))))
  (.seq (.block 1 (.seq (.seq (.live [0, 3, 4, 24] (.region 9 [
      ⟨(opMove (some 19) (.tmp 0) 33 "law.go:162" #[]).op, none⟩,
      ⟨(opMove (some 20) (.tmp 4) 3 "law.go:162" #[]).op, none⟩,
      ⟨(opIndexAddr (some 21) 33 (.tmp 19) (.tmp 20) 9 1 Try.underlying33 sz9 0 "law.go:162" #[{ on := 0, ground := Ground.data }, { on := 1, ground := Ground.data }]).op, none⟩,
      ⟨(opLoad (some 22) 9 (.tmp 21) .string Try.underlying9 1 sz9 9 "law.go:162" #[{ on := 2, ground := Ground.data }]).op, none⟩,
      ⟨(opLen (some 23) (.tmp 22) 9 .string Try.underlying9 3 "law.go:162" #[{ on := 3, ground := Ground.data }]).op, none⟩,
      ⟨(opBin (some 24) .gtr 3 (.tmp 23) (.const (Value.int IntKind.i64 5000)) 3 4 "law.go:162" #[{ on := 4, ground := Ground.data }]).op, none⟩
    ] (by kernel_rfl)))
    (.cond (.tmp 24)
      (.seq (.live [2] (.region 10 [
        ⟨(opAssign (some 2) (.const (Value.bool true)) 4 "law.go:163" #[]).op, none⟩
      ] (by kernel_rfl)))
      (.live [2] .ret))
      .skip))
    (.live [0, 3, 4] (.region 11 [
      ⟨(opMove (some 25) (.tmp 3) 22 "law.go:165" #[]).op, none⟩,
      ⟨(opMove (some 26) (.tmp 0) 33 "law.go:165" #[]).op, none⟩,
      ⟨(opMove (some 27) (.tmp 4) 3 "law.go:165" #[]).op, none⟩,
      ⟨(opIndexAddr (some 28) 33 (.tmp 26) (.tmp 27) 9 1 Try.underlying33 sz9 0 "law.go:165" #[{ on := 1, ground := Ground.data }, { on := 2, ground := Ground.data }]).op, none⟩,
      ⟨(opLoad (some 29) 9 (.tmp 28) .string Try.underlying9 1 sz9 9 "law.go:165" #[{ on := 3, ground := Ground.data }]).op, none⟩,
      ⟨opCall (q16).orc (some 30) [(.tmp 29)] #[9] 22 "law.go:165" #[{ on := 4, ground := Ground.data }], none⟩,
      ⟨(opAppend (some 31) (.tmp 25) (.tmp 30) 22 22 5 1 1 (.int .u8 0) el22 (.slice 5) Try.underlying22 rfl 22 "law.go:165" #[{ on := 0, ground := Ground.data }, { on := 5, ground := Ground.data }, { on := 5, ground := Ground.chain }]).op, none⟩,
      ⟨(opAssign (some 3) (.tmp 31) 22 "law.go:165" #[{ on := 6, ground := Ground.data }, { on := 6, ground := Ground.chain }, { on := 0, ground := Ground.phase }, { on := 1, ground := Ground.phase }, { on := 2, ground := Ground.phase }, { on := 3, ground := Ground.phase }, { on := 4, ground := Ground.phase }, { on := 5, ground := Ground.phase }, { on := 6, ground := Ground.phase }]).op, none⟩
    ] (by kernel_rfl)))))
  (.live [0, 3, 4] (.region 8 [
    ⟨(opMove (some 17) (.tmp 4) 3 "law.go:161" #[]).op, none⟩,
    ⟨(opBin (some 18) .add 3 (.tmp 17) (.const (Value.int IntKind.i64 1)) 3 3 "law.go:161" #[{ on := 0, ground := Ground.data }]).op, none⟩,
    ⟨(opAssign (some 4) (.tmp 18) 3 "law.go:161" #[{ on := 1, ground := Ground.data }, { on := 0, ground := Ground.phase }, { on := 1, ground := Ground.phase }]).op, none⟩
  ] (by kernel_rfl)))))

/-- What follows a loop. -/
noncomputable def f6_r0 : Sim Try.prog :=
  (.seq (.live [2] (.region 12 [
    ⟨(opMove (some 32) (.tmp 0) 33 "law.go:167" #[]).op, none⟩,
    ⟨(opCallP r20 (some 33) [(.tmp 32)] #[33] 22 "law.go:167" #[{ on := 0, ground := Ground.data }]).op, none⟩,
    ⟨(opMove (some 34) (.tmp 3) 22 "law.go:167" #[]).op, none⟩,
    ⟨(opCallP r14 (some 35) [(.tmp 33), (.tmp 34)] #[22, 22] 4 "law.go:167" #[{ on := 1, ground := Ground.data }, { on := 2, ground := Ground.data }, { on := 1, ground := Ground.chain }]).op, none⟩,
    ⟨(opAssign (some 2) (.tmp 35) 4 "law.go:167" #[{ on := 3, ground := Ground.data }, { on := 3, ground := Ground.chain }, { on := 0, ground := Ground.phase }, { on := 1, ground := Ground.phase }, { on := 2, ground := Ground.phase }, { on := 3, ground := Ground.phase }]).op, none⟩
  ] (by kernel_rfl)))
  (.live [2] .ret))

noncomputable def f6_b : Sim Try.prog :=
  (.seq (.live [0] (.region 0 [
    ⟨(opAssign (some 2) (.const (Value.bool false)) 4 "law.go:153" #[]).op, none⟩
  ] (by kernel_rfl)))
  (.seq (.seq (.live [0, 6] (.region 1 [
    ⟨(opCallP p9 (some 5) [] #[] 4 "law.go:154" #[]).op, none⟩,
    ⟨(opNot (some 6) 4 (.tmp 5) 4 "law.go:154" #[{ on := 0, ground := Ground.data }]).op, none⟩
  ] (by kernel_rfl)))
  (.cond (.tmp 6)
    (.seq (.live [2] (.region 2 [
      ⟨(opAssign (some 2) (.const (Value.bool false)) 4 "law.go:155" #[]).op, none⟩
    ] (by kernel_rfl)))
    (.live [2] .ret))
    .skip))
  (.seq (.seq (.live [0, 9] (.region 3 [
    ⟨(opMove (some 7) (.tmp 0) 33 "law.go:157" #[]).op, none⟩,
    ⟨(opLen (some 8) (.tmp 7) 33 (.slice 9) Try.underlying33 3 "law.go:157" #[{ on := 0, ground := Ground.data }]).op, none⟩,
    ⟨(opBin (some 9) .gtr 3 (.tmp 8) (.const (Value.int IntKind.i64 200)) 3 4 "law.go:157" #[{ on := 1, ground := Ground.data }]).op, none⟩
  ] (by kernel_rfl)))
  (.cond (.tmp 9)
    (.seq (.live [2] (.region 4 [
      ⟨(opAssign (some 2) (.const (Value.bool true)) 4 "law.go:158" #[]).op, none⟩
    ] (by kernel_rfl)))
    (.live [2] .ret))
    .skip))
  (.seq (.live [0, 3] (.region 5 [
    ⟨(opMove (some 10) (.tmp 0) 33 "law.go:160" #[]).op, none⟩,
    ⟨(opLen (some 11) (.tmp 10) 33 (.slice 9) Try.underlying33 3 "law.go:160" #[{ on := 0, ground := Ground.data }]).op, none⟩,
    ⟨opCall (q15).orc (some 12) [(.tmp 11)] #[3] 22 "law.go:160" #[{ on := 1, ground := Ground.data }], none⟩,
    ⟨(opAssign (some 3) (.tmp 12) 22 "law.go:160" #[{ on := 2, ground := Ground.data }, { on := 2, ground := Ground.chain }, { on := 0, ground := Ground.phase }, { on := 1, ground := Ground.phase }, { on := 2, ground := Ground.phase }]).op, none⟩
  ] (by kernel_rfl)))
  (.seq (.seq (.live [0, 3, 4] (.region 6 [
    ⟨(opAssign (some 4) (.const (Value.int IntKind.i64 0)) 3 "law.go:161" #[]).op, none⟩
  ] (by kernel_rfl)))
  (.block 0 (.loop [0, 3, 4] f6_l0)))
  f6_r0)))))

noncomputable def f6 : Fun Try.prog where
  id := 6
  fn := Try.f6
  hf := Try.func6
  hname := by kernel_rfl
  body := f6_b
  hbody := by kernel_rfl
  res := [rTmp 2]
  hres := by kernel_rfl
  n := 36
  hn := by kernel_rfl

end Go.Proofs.Ytjdpfblmhahfkaa.V

/- What the functions' runs come to; the right sides were printed by a tool, Lean checks them. -/
set_option linter.unusedVariables false
set_option maxRecDepth 100000
namespace Go.Proofs.Ytjdpfblmhahfkaa.V
open Go Go.V Go.RowKit

theorem writes_run (F : Nat) (n : Int) (s : ByteArray) (l : List (List AV)) :
    (f5.run F [.int .i64 n, .str s, .sl 1 false l] ⟨[], []⟩ : Ans) =
    branch (AV.bool (decide ((↑s.size : Int) > 5000))) (some (Fin.ret (AV.bool true), St.mk [] []))
      (branch (AV.bool (decide ((↑l.length : Int) > 200))) (some (Fin.ret (AV.bool true), St.mk [] []))
        (loopRun (f5_l0.run F) [0, 1, 2, 7]
          (Cont.block 0 (Cont.then (f5_r0.run F (f5.leaveK Fun.done)) (f5.leaveK Fun.done))) F
          (Env.mk 49 [(0, AV.int IntKind.i64 n), (1, AV.str s), (2, AV.sl 1 false l), (7, AV.int IntKind.i64 0)])
          (St.mk [] []))) := by kernel_rfl

theorem writes_nil (n : Int) (s : ByteArray) :
    (f5.run 20 [.int .i64 n, .str s, .nilsl] ⟨[], []⟩ : Ans) =
    branch (AV.bool (decide ((↑s.size : Int) > 5000))) (some (Fin.ret (AV.bool true), St.mk [] []))
      (branch (AV.bool (i64B n))
        (branch (AV.bool (i64B n))
          (branch
            (AV.bool
              (fit (Br.sl false (rb (intBytes n)), Br.sl false (rb (intBytes n))).fst &&
                okR (Br.sl false (rb (intBytes n)), Br.sl false (rb (intBytes n))).snd.list))
            (branch
              (AV.bool
                (sameRows (iR (Br.sl false (rb (intBytes n)), Br.sl false (rb (intBytes n))).fst.list)
                  (iR (Br.sl false (rb (intBytes n)), Br.sl false (rb (intBytes n))).snd.list)))
              (branch (AV.bool (shortS s))
                (branch (AV.bool (shortS s))
                  (branch
                    (AV.bool
                      (fit (Br.sl false (rb (textBytes s)), Br.sl false (rb (textBytes s))).fst &&
                        okR (Br.sl false (rb (textBytes s)), Br.sl false (rb (textBytes s))).snd.list))
                    (branch
                      (AV.bool
                        (sameRows (iR (Br.sl false (rb (textBytes s)), Br.sl false (rb (textBytes s))).fst.list)
                          (iR (Br.sl false (rb (textBytes s)), Br.sl false (rb (textBytes s))).snd.list)))
                      (some
                        (Fin.ret (AV.bool true),
                          St.mk []
                            [(1, (intBytes n).length), (1, (intBytes n).length), (1, (textBytes s).length),
                              (1, (textBytes s).length)]))
                      (some
                        (Fin.ret (AV.bool false),
                          St.mk []
                            [(1, (intBytes n).length), (1, (intBytes n).length), (1, (textBytes s).length),
                              (1, (textBytes s).length)])))
                    none)
                  none)
                none)
              (some (Fin.ret (AV.bool false), St.mk [] [(1, (intBytes n).length), (1, (intBytes n).length)])))
            none)
          none)
        none) := by kernel_rfl

theorem ltexts_run (F : Nat) (l : List (List AV)) :
    (f6.run F [.sl 1 false l] ⟨[], []⟩ : Ans) =
    branch (AV.bool (decide ((↑l.length : Int) > 200))) (some (Fin.ret (AV.bool true), St.mk [] []))
      (branch (AV.bool (i64B (↑l.length : Int)))
        (loopRun (f6_l0.run F) [0, 3, 4] (Cont.block 0 (Cont.then (f6_r0.run F (f6.leaveK Fun.done)) (f6.leaveK Fun.done)))
          F (Env.mk 36 [(0, AV.sl 1 false l), (3, AV.lg 0 1 (rb (intBytes (↑l.length : Int)))), (4, AV.int IntKind.i64 0)])
          (St.mk [] [(1, (intBytes (↑l.length : Int)).length)]))
        none) := by kernel_rfl

theorem ltexts_nil  :
    (f6.run 20 [.nilsl] ⟨[], []⟩ : Ans) =
    some (Fin.ret (AV.bool true), St.mk [] [(1, 1)]) := by kernel_rfl

theorem wr_round_raw (F k : Nat) (K : Cont) (n i : Int) (s t : ByteArray) (l : List (List AV)) (st : St) :
    (loopRun (f5_l0.run F) [0, 1, 2, 7] K k.succ (Env.mk 49 [(0, .int .i64 n), (1, .str s), (2, .sl 1 false l), (7, .int .i64 i)]) st : Ans) =
    branch (AV.bool (decide (i < (↑l.length : Int))))
      (onSome (elemAt l i) none fun (o : List AV) =>
        onCons o none fun (x : AV) (l_1 : List AV) =>
          onStr x fun (a : ByteArray) =>
            branch (AV.bool (decide ((↑a.size : Int) > 5000))) (K AX.ret (Env.mk 49 [(6, AV.bool true)]) st)
              (loopRun (f5_l0.run F) [0, 1, 2, 7] K k
                (Env.mk 49
                  [(0, AV.int IntKind.i64 n), (1, AV.str s), (2, AV.sl 1 false l),
                    (7, AV.int IntKind.i64 (IntKind.i64.wrap (i + 1)))])
                st))
      (K (AX.exit 0) (Env.mk 49 [(0, AV.int IntKind.i64 n), (1, AV.str s), (2, AV.sl 1 false l)]) st) := by kernel_rfl

theorem wr_round (F k : Nat) (K : Cont) (n i : Int) (s t : ByteArray) (l : List (List AV)) (st : St) (h0 : elemAt l i = some [.str t]) :
    (loopRun (f5_l0.run F) [0, 1, 2, 7] K k.succ (Env.mk 49 [(0, .int .i64 n), (1, .str s), (2, .sl 1 false l), (7, .int .i64 i)]) st : Ans) =
    branch (AV.bool (decide (i < (↑l.length : Int))))
      (branch (AV.bool (decide ((↑t.size : Int) > 5000))) (K AX.ret (Env.mk 49 [(6, AV.bool true)]) st)
        (loopRun (f5_l0.run F) [0, 1, 2, 7] K k
          (Env.mk 49
            [(0, AV.int IntKind.i64 n), (1, AV.str s), (2, AV.sl 1 false l),
              (7, AV.int IntKind.i64 (IntKind.i64.wrap (i + 1)))])
          st))
      (K (AX.exit 0) (Env.mk 49 [(0, AV.int IntKind.i64 n), (1, AV.str s), (2, AV.sl 1 false l)]) st) := by
  rw [wr_round_raw F k K n i s t l st, h0]
  kernel_rfl

theorem wr_end_raw (F k : Nat) (K : Cont) (n i : Int) (s : ByteArray) (l : List (List AV)) (st : St) :
    (loopRun (f5_l0.run F) [0, 1, 2, 7] K k.succ (Env.mk 49 [(0, .int .i64 n), (1, .str s), (2, .sl 1 false l), (7, .int .i64 i)]) st : Ans) =
    branch (AV.bool (decide (i < (↑l.length : Int))))
      (onSome (elemAt l i) none fun (o : List AV) =>
        onCons o none fun (x : AV) (l_1 : List AV) =>
          onStr x fun (a : ByteArray) =>
            branch (AV.bool (decide ((↑a.size : Int) > 5000))) (K AX.ret (Env.mk 49 [(6, AV.bool true)]) st)
              (loopRun (f5_l0.run F) [0, 1, 2, 7] K k
                (Env.mk 49
                  [(0, AV.int IntKind.i64 n), (1, AV.str s), (2, AV.sl 1 false l),
                    (7, AV.int IntKind.i64 (IntKind.i64.wrap (i + 1)))])
                st))
      (K (AX.exit 0) (Env.mk 49 [(0, AV.int IntKind.i64 n), (1, AV.str s), (2, AV.sl 1 false l)]) st) := by kernel_rfl

theorem wr_end (F k : Nat) (K : Cont) (n i : Int) (s : ByteArray) (l : List (List AV)) (st : St) (h0 : decide (i < (l.length : Int)) = false) :
    (loopRun (f5_l0.run F) [0, 1, 2, 7] K k.succ (Env.mk 49 [(0, .int .i64 n), (1, .str s), (2, .sl 1 false l), (7, .int .i64 i)]) st : Ans) =
    K (AX.exit 0) (Env.mk 49 [(0, AV.int IntKind.i64 n), (1, AV.str s), (2, AV.sl 1 false l)]) st := by
  rw [wr_end_raw F k K n i s l st, h0]
  kernel_rfl

theorem lt_round_raw (F k t : Nat) (K : Cont) (i : Int) (s : ByteArray) (lo l : List (List AV)) (os : List Ob) (tk : List (Nat × Nat)) :
    (loopRun (f6_l0.run F) [0, 3, 4] K k.succ (Env.mk 36 [(0, .sl 1 false l), (3, .lg t 1 lo), (4, .int .i64 i)]) ⟨os, tk⟩ : Ans) =
    branch (AV.bool (decide (i < (↑l.length : Int))))
      (onSome (elemAt l i) none fun (o : List AV) =>
        onCons o none fun (x : AV) (l_1 : List AV) =>
          onStr x fun (a : ByteArray) =>
            branch (AV.bool (decide ((↑a.size : Int) > 5000))) (K AX.ret (Env.mk 36 [(2, AV.bool true)]) (St.mk os tk))
              (onSome (elemAt l i) none fun (o : List AV) =>
                onCons o none fun (x : AV) (l_2 : List AV) =>
                  onSome (dec1s [x]) none fun (o : ByteArray) =>
                    branch (AV.bool (shortS o))
                      (if
                          ((fun (s : ByteArray) (st : St) =>
                                        (AV.lg st.tk.length 1 (rb (textBytes s)),
                                          St.mk st.objs (st.tk ++ [(1, (textBytes s).length)])))
                                      o (St.mk os tk)).snd.tk[t]? =
                              some (1, lo.length) ∧
                            (lo.length + (rb (textBytes o)).length) * 1 ≤ 140737488355328 then
                        loopRun (f6_l0.run F) [0, 3, 4] K k
                          (Env.mk 36
                            [(0, AV.sl 1 false l), (3, AV.lg t 1 (lo ++ rb (textBytes o))),
                              (4, AV.int IntKind.i64 (IntKind.i64.wrap (i + 1)))])
                          (St.mk os
                            ((St.mk os (tk ++ [(1, (textBytes o).length)])).tk.set t
                              (1, lo.length + (rb (textBytes o)).length)))
                      else none)
                      none))
      (K (AX.exit 0) (Env.mk 36 [(0, AV.sl 1 false l), (3, AV.lg t 1 lo)]) (St.mk os tk)) := by kernel_rfl

theorem lt_round (F k t : Nat) (K : Cont) (i : Int) (s : ByteArray) (lo l : List (List AV)) (os : List Ob) (tk : List (Nat × Nat)) (h0 : elemAt l i = some [.str s]) :
    (loopRun (f6_l0.run F) [0, 3, 4] K k.succ (Env.mk 36 [(0, .sl 1 false l), (3, .lg t 1 lo), (4, .int .i64 i)]) ⟨os, tk⟩ : Ans) =
    branch (AV.bool (decide (i < (↑l.length : Int))))
      (branch (AV.bool (decide ((↑s.size : Int) > 5000))) (K AX.ret (Env.mk 36 [(2, AV.bool true)]) (St.mk os tk))
        (branch (AV.bool (shortS s))
          (if
              ((fun (s : ByteArray) (st : St) =>
                            (AV.lg st.tk.length 1 (rb (textBytes s)), St.mk st.objs (st.tk ++ [(1, (textBytes s).length)])))
                          s (St.mk os tk)).snd.tk[t]? =
                  some (1, lo.length) ∧
                (lo.length + (rb (textBytes s)).length) * 1 ≤ 140737488355328 then
            loopRun (f6_l0.run F) [0, 3, 4] K k
              (Env.mk 36
                [(0, AV.sl 1 false l), (3, AV.lg t 1 (lo ++ rb (textBytes s))),
                  (4, AV.int IntKind.i64 (IntKind.i64.wrap (i + 1)))])
              (St.mk os
                ((St.mk os (tk ++ [(1, (textBytes s).length)])).tk.set t (1, lo.length + (rb (textBytes s)).length)))
          else none)
          none))
      (K (AX.exit 0) (Env.mk 36 [(0, AV.sl 1 false l), (3, AV.lg t 1 lo)]) (St.mk os tk)) := by
  rw [lt_round_raw F k t K i s lo l os tk, h0]
  kernel_rfl

theorem lt_end_raw (F k t : Nat) (K : Cont) (i : Int) (lo l : List (List AV)) (st : St) :
    (loopRun (f6_l0.run F) [0, 3, 4] K k.succ (Env.mk 36 [(0, .sl 1 false l), (3, .lg t 1 lo), (4, .int .i64 i)]) st : Ans) =
    branch (AV.bool (decide (i < (↑l.length : Int))))
      (onSome (elemAt l i) none fun (o : List AV) =>
        onCons o none fun (x : AV) (l_1 : List AV) =>
          onStr x fun (a : ByteArray) =>
            branch (AV.bool (decide ((↑a.size : Int) > 5000))) (K AX.ret (Env.mk 36 [(2, AV.bool true)]) st)
              (onSome (elemAt l i) none fun (o : List AV) =>
                onCons o none fun (x : AV) (l_2 : List AV) =>
                  onSome (dec1s [x]) none fun (o : ByteArray) =>
                    branch (AV.bool (shortS o))
                      (if
                          ((fun (s : ByteArray) (st : St) =>
                                        (AV.lg st.tk.length 1 (rb (textBytes s)),
                                          St.mk st.objs (st.tk ++ [(1, (textBytes s).length)])))
                                      o st).snd.tk[t]? =
                              some (1, lo.length) ∧
                            (lo.length + (rb (textBytes o)).length) * 1 ≤ 140737488355328 then
                        loopRun (f6_l0.run F) [0, 3, 4] K k
                          (Env.mk 36
                            [(0, AV.sl 1 false l), (3, AV.lg t 1 (lo ++ rb (textBytes o))),
                              (4, AV.int IntKind.i64 (IntKind.i64.wrap (i + 1)))])
                          (St.mk (St.mk st.objs (st.tk ++ [(1, (textBytes o).length)])).objs
                            ((St.mk st.objs (st.tk ++ [(1, (textBytes o).length)])).tk.set t
                              (1, lo.length + (rb (textBytes o)).length)))
                      else none)
                      none))
      (K (AX.exit 0) (Env.mk 36 [(0, AV.sl 1 false l), (3, AV.lg t 1 lo)]) st) := by kernel_rfl

theorem lt_end (F k t : Nat) (K : Cont) (i : Int) (lo l : List (List AV)) (st : St) (h0 : decide (i < (l.length : Int)) = false) :
    (loopRun (f6_l0.run F) [0, 3, 4] K k.succ (Env.mk 36 [(0, .sl 1 false l), (3, .lg t 1 lo), (4, .int .i64 i)]) st : Ans) =
    K (AX.exit 0) (Env.mk 36 [(0, AV.sl 1 false l), (3, AV.lg t 1 lo)]) st := by
  rw [lt_end_raw F k t K i lo l st, h0]
  kernel_rfl

theorem wr_ret (F : Nat) (st : St) :
    ((Cont.block 0 (Cont.then (f5_r0.run F (f5.leaveK Fun.done)) (f5.leaveK Fun.done))) .ret (Env.mk 49 [(6, .bool true)]) st : Ans) =
    some (Fin.ret (AV.bool true), st) := by kernel_rfl

theorem wr_out (F : Nat) (n : Int) (s : ByteArray) (l : List (List AV)) :
    ((Cont.block 0 (Cont.then (f5_r0.run F (f5.leaveK Fun.done)) (f5.leaveK Fun.done))) (.exit 0) (Env.mk 49 [(0, .int .i64 n), (1, .str s), (2, .sl 1 false l)]) ⟨[], []⟩ : Ans) =
    branch (AV.bool (i64B n))
      (branch (AV.bool (i64B n))
        (branch
          (AV.bool
            (fit (Br.sl false (rb (intBytes n)), Br.sl false (rb (intBytes n))).fst &&
              okR (Br.sl false (rb (intBytes n)), Br.sl false (rb (intBytes n))).snd.list))
          (branch
            (AV.bool
              (sameRows (iR (Br.sl false (rb (intBytes n)), Br.sl false (rb (intBytes n))).fst.list)
                (iR (Br.sl false (rb (intBytes n)), Br.sl false (rb (intBytes n))).snd.list)))
            (branch (AV.bool (shortS s))
              (branch (AV.bool (shortS s))
                (branch
                  (AV.bool
                    (fit (Br.sl false (rb (textBytes s)), Br.sl false (rb (textBytes s))).fst &&
                      okR (Br.sl false (rb (textBytes s)), Br.sl false (rb (textBytes s))).snd.list))
                  (branch
                    (AV.bool
                      (sameRows (iR (Br.sl false (rb (textBytes s)), Br.sl false (rb (textBytes s))).fst.list)
                        (iR (Br.sl false (rb (textBytes s)), Br.sl false (rb (textBytes s))).snd.list)))
                    (branch (AV.bool (fitT (Br.sl false l)))
                      (branch (AV.bool (fitT (Br.sl false l)))
                        (branch
                          (AV.bool
                            (fit
                                (Br.sl false (rb (textsBytes (sR (Br.sl false l).list))),
                                    Br.sl false (rb (textsBytes (sR (Br.sl false l).list)))).fst &&
                              okR
                                (Br.sl false (rb (textsBytes (sR (Br.sl false l).list))),
                                      Br.sl false (rb (textsBytes (sR (Br.sl false l).list)))).snd.list))
                          (some
                            (Fin.ret
                                (AV.bool
                                  (sameRows
                                    (iR
                                      (Br.sl false (rb (textsBytes (sR (Br.sl false l).list))),
                                            Br.sl false (rb (textsBytes (sR (Br.sl false l).list)))).fst.list)
                                    (iR
                                      (Br.sl false (rb (textsBytes (sR (Br.sl false l).list))),
                                            Br.sl false (rb (textsBytes (sR (Br.sl false l).list)))).snd.list))),
                              St.mk []
                                [(1, (intBytes n).length), (1, (intBytes n).length), (1, (textBytes s).length),
                                  (1, (textBytes s).length)]))
                          none)
                        none)
                      none)
                    (some
                      (Fin.ret (AV.bool false),
                        St.mk []
                          [(1, (intBytes n).length), (1, (intBytes n).length), (1, (textBytes s).length),
                            (1, (textBytes s).length)])))
                  none)
                none)
              none)
            (some (Fin.ret (AV.bool false), St.mk [] [(1, (intBytes n).length), (1, (intBytes n).length)])))
          none)
        none)
      none := by kernel_rfl

theorem lt_ret (F : Nat) (st : St) :
    ((Cont.block 0 (Cont.then (f6_r0.run F (f6.leaveK Fun.done)) (f6.leaveK Fun.done))) .ret (Env.mk 36 [(2, .bool true)]) st : Ans) =
    some (Fin.ret (AV.bool true), st) := by kernel_rfl

theorem lt_out (F t : Nat) (lo l : List (List AV)) (st : St) :
    ((Cont.block 0 (Cont.then (f6_r0.run F (f6.leaveK Fun.done)) (f6.leaveK Fun.done))) (.exit 0) (Env.mk 36 [(0, .sl 1 false l), (3, .lg t 1 lo)]) st : Ans) =
    branch (AV.bool (fitT (Br.sl false l)))
      (branch (AV.bool (fit (Br.sl false (rb (textsBytes (sR (Br.sl false l).list))), Br.sl false lo).fst && okR lo))
        (some
          (Fin.ret
              (AV.bool
                (sameRows (iR (Br.sl false (rb (textsBytes (sR (Br.sl false l).list))), Br.sl false lo).fst.list) (iR lo))),
            st))
        none)
      none := by kernel_rfl

end Go.Proofs.Ytjdpfblmhahfkaa.V

/- Bits: BitsWrites and BitsTexts are true. -/
set_option linter.unusedVariables false
namespace Go.Proofs.Ytjdpfblmhahfkaa.V
open Go Go.V Go.RowKit

/-- A law's texts. -/
def Txs (l : List (List AV)) : Prop := ∀ r ∈ l, ∃ s : ByteArray, r = [.str s]
theorem texts_shape {xs : List AV} (h : Ty.Shape (.sl .str 16) xs) : xs = [.nilsl] ∨ ∃ l, xs = [.sl 1 false l] ∧ Txs l := by
  rcases h with h | ⟨l, h1, h2, h3, h4⟩
  · exact .inl h
  · exact .inr ⟨l, h1, fun r hr => by obtain ⟨s, h, _⟩ := h4 r hr; exact ⟨s, h⟩⟩
theorem Txs.at {l : List (List AV)} (h : Txs l) {i : Nat} (hi : i < l.length) : elemAt l (i : Int) = some [.str (sR l)[i]!] := by
  obtain ⟨s, hs⟩ := h l[i] (List.getElem_mem hi)
  have h2 : (sR l)[i]! = s := by simp [sR, hi, hs, strOf]
  rw [h2, ← hs]
  unfold elemAt
  simp [hi]
theorem okT_of {l : List (List AV)} (h : Txs l) (h2 : ∀ i, i < l.length → (sR l)[i]!.size ≤ 5000) : okT l = true := by
  refine List.all_eq_true.mpr fun r hr => ?_
  obtain ⟨i, hi, rfl⟩ := List.mem_iff_getElem.mp hr
  obtain ⟨s, hs⟩ := h l[i] hr
  have h3 := h2 i hi
  have h4 : (sR l)[i]! = s := by simp [sR, hi, hs, strOf]
  rw [h4] at h3
  rw [hs]
  exact decide_eq_true (by omega)
theorem pair_same {l : List (List AV)} {f f' : Bool} (h : okR l = true) (hl : l.length < 140737488355328) : (fit (Br.sl f l) && okR l) = true := by
  rw [fit_of h hl, h]; rfl

theorem shortS_of {s : ByteArray} (h : s.size ≤ 100000) : shortS s = true := decide_eq_true (by omega)
theorem wr_loop (F : Nat) (K : Cont) (n : Int) (s : ByteArray) (l : List (List AV)) (st : St) (hl : Txs l) (hn : l.length ≤ 200) : ∀ (k i m : Nat), i + k = l.length → k < m → (∀ j, j < i → (sR l)[j]!.size ≤ 5000) →
    loopRun (f5_l0.run F) [0, 1, 2, 7] K m (Env.mk 49 [(0, .int .i64 n), (1, .str s), (2, .sl 1 false l), (7, .int .i64 i)]) st = K .ret (Env.mk 49 [(6, .bool true)]) st ∨
    okT l = true ∧ loopRun (f5_l0.run F) [0, 1, 2, 7] K m (Env.mk 49 [(0, .int .i64 n), (1, .str s), (2, .sl 1 false l), (7, .int .i64 i)]) st = K (.exit 0) (Env.mk 49 [(0, .int .i64 n), (1, .str s), (2, .sl 1 false l)]) st
  | k, i, 0, hi, hk, hj => by omega
  | 0, i, m + 1, hi, hk, hj => .inr ⟨okT_of hl fun j hj' => hj j (by omega), by rw [show m + 1 = m.succ from rfl, wr_end _ _ _ _ _ _ _ _ (by simp; omega)]⟩
  | k + 1, i, m + 1, hi, hk, hj => by
    have hi1 : i < l.length := by omega
    rw [show m + 1 = m.succ from rfl, wr_round F m K n i s _ l st (hl.at hi1), branch_of (by simp; omega)]
    by_cases h5 : 5000 < (sR l)[i]!.size
    · left; rw [branch_of (decide_eq_true (by omega))]
    · rw [branch_not (decide_eq_false (by omega)), wrapS (by omega) (by omega), show ((i : Int) + 1) = ((i + 1 : Nat) : Int) by omega]
      exact wr_loop F K n s l st hl hn k (i + 1) m (by omega) (by omega) fun j hj' => by
        by_cases h : j = i
        · subst h; omega
        · exact hj j (by omega)
theorem textsBytes_lt {l : List (List AV)} (h : okT l = true) (hn : l.length ≤ 100000) : ∀ b ∈ textsBytes (sR l), b < 256 := by
  intro b hb
  rcases List.mem_append.mp hb with hb | hb
  · exact intBytes_lt (by rw [sR_length]; simp [i64B]; omega) b hb
  · exact catT_lt (sR_short h) b hb
theorem textsBytes_length {l : List (List AV)} (h : okT l = true) (hn : l.length ≤ 100000) : (textsBytes (sR l)).length < 140737488355328 := by
  have h1 := catT_length (sR l) (sR_short h)
  have h2 := intBytes_length ((sR l).length : Int)
  rw [sR_length] at h1
  rw [textsBytes, List.length_append]
  omega

theorem writes_true {n : Int} {s : ByteArray} {l : List (List AV)} (hn : i64B n = true) (hl : Txs l) : ∃ F st, f5.run F [.int .i64 n, .str s, .sl 1 false l] ⟨[], []⟩ = some (.ret (.bool true), st) := by
  refine ⟨l.length + 1, ?_⟩
  rw [writes_run]
  by_cases h5 : 5000 < s.size
  · rw [branch_of (decide_eq_true (by omega))]; exact ⟨_, rfl⟩
  rw [branch_not (decide_eq_false (by omega))]
  by_cases h6 : 200 < l.length
  · rw [branch_of (decide_eq_true (by omega))]; exact ⟨_, rfl⟩
  rw [branch_not (decide_eq_false (by omega)), show (0 : Int) = ((0 : Nat) : Int) from rfl]
  rcases wr_loop (l.length + 1) (Cont.block 0 (Cont.then (f5_r0.run (l.length + 1) (f5.leaveK Fun.done)) (f5.leaveK Fun.done))) n s l ⟨[], []⟩ hl (by omega) l.length 0 (l.length + 1) (by omega) (by omega) (fun j hj => by omega) with h | ⟨h1, h⟩
  · rw [h, wr_ret]; exact ⟨_, rfl⟩
  · have hs : s.size < 140737488355328 := by omega
    have hti := intBytes_length n
    have htt := intBytes_length s.size
    rw [h, wr_out, branch_of hn, branch_of hn]
    simp only [Br.list]
    rw [branch_of (pair_same (f' := false) (okR_rb (intBytes_lt hn)) (by rw [rb_length]; omega)), branch_of (sameRows_iff.mpr rfl), branch_of (shortS_of (by omega)), branch_of (shortS_of (by omega)),
      branch_of (pair_same (f' := false) (okR_rb (textBytes_lt hs)) (by rw [rb_length, textBytes, List.length_append, own_length]; omega)), branch_of (sameRows_iff.mpr rfl)]
    have hf : fitT (Br.sl false l) = true := by simp only [fitT, Br.list, h1, Bool.true_and]; exact decide_eq_true (by omega)
    rw [branch_of hf, branch_of hf, branch_of (pair_same (f' := false) (okR_rb (textsBytes_lt h1 (by omega))) (by rw [rb_length]; exact textsBytes_length h1 (by omega))), sameRows_iff.mpr rfl]
    exact ⟨_, rfl⟩
theorem writes_law (as0 as1 as2 : List AV) (sh0 : Ty.Shape (.int .i64) as0) (sh1 : Ty.Shape .str as1) (sh2 : Ty.Shape (.sl .str 16) as2) :
    ∃ F st, f5.run F [Ty.AV' (.int .i64) as0, Ty.AV' .str as1, Ty.AV' (.sl .str 16) as2] ⟨[], []⟩ = some (.ret (.bool true), st) := by
  obtain ⟨n, rfl, hn⟩ := sh0
  obtain ⟨s, rfl, hs⟩ := sh1
  have hn := i64_wf hn
  rcases texts_shape sh2 with rfl | ⟨l, rfl, hl⟩
  · refine ⟨20, ?_⟩
    show ∃ st, f5.run 20 [.int .i64 n, .str s, .nilsl] ⟨[], []⟩ = _
    rw [writes_nil]
    by_cases h5 : 5000 < s.size
    · rw [branch_of (decide_eq_true (by omega))]; exact ⟨_, rfl⟩
    have hs : s.size < 140737488355328 := by omega
    have hti := intBytes_length n
    have htt := intBytes_length s.size
    rw [branch_not (decide_eq_false (by omega)), branch_of hn, branch_of hn]
    simp only [Br.list]
    rw [branch_of (pair_same (f' := false) (okR_rb (intBytes_lt hn)) (by rw [rb_length]; omega)), branch_of (sameRows_iff.mpr rfl), branch_of (shortS_of (by omega)), branch_of (shortS_of (by omega)),
      branch_of (pair_same (f' := false) (okR_rb (textBytes_lt hs)) (by rw [rb_length, textBytes, List.length_append, own_length]; omega)), branch_of (sameRows_iff.mpr rfl)]
    exact ⟨_, rfl⟩
  · exact writes_true hn hl

theorem lt_loop (F t : Nat) (K : Cont) (l : List (List AV)) (hl : Txs l) (hn : l.length ≤ 200) : ∀ (k i m : Nat) (lo : List (List AV)) (xt : List (Nat × Nat)), i + k = l.length → k < m → (∀ j, j < i → (sR l)[j]!.size ≤ 5000) → lo.length ≤ 10 + i * 100010 →
    (∃ st, loopRun (f6_l0.run F) [0, 3, 4] K m (Env.mk 36 [(0, .sl 1 false l), (3, .lg 0 1 lo), (4, .int .i64 i)]) ⟨[], (1, lo.length) :: xt⟩ = K .ret (Env.mk 36 [(2, .bool true)]) st) ∨
    okT l = true ∧ ∃ st, loopRun (f6_l0.run F) [0, 3, 4] K m (Env.mk 36 [(0, .sl 1 false l), (3, .lg 0 1 lo), (4, .int .i64 i)]) ⟨[], (1, lo.length) :: xt⟩ = K (.exit 0) (Env.mk 36 [(0, .sl 1 false l), (3, .lg 0 1 (lo ++ rb (catT ((sR l).drop i))))]) st
  | k, i, 0, lo, xt, hi, hk, hj, hlo => by omega
  | 0, i, m + 1, lo, xt, hi, hk, hj, hlo => .inr ⟨okT_of hl fun j hj' => hj j (by omega), _, by rw [show m + 1 = m.succ from rfl, lt_end _ _ _ _ _ _ _ _ (by simp; omega), List.drop_eq_nil_of_le (by rw [sR_length]; omega)]; simp [catT, rb]; rfl⟩
  | k + 1, i, m + 1, lo, xt, hi, hk, hj, hlo => by
    have hi1 : i < l.length := by omega
    rw [show m + 1 = m.succ from rfl, lt_round F m _ K i _ lo l _ _ (hl.at hi1), branch_of (by simp; omega)]
    by_cases h5 : 5000 < (sR l)[i]!.size
    · left; rw [branch_of (decide_eq_true (by omega))]; exact ⟨_, rfl⟩
    · have hil := intBytes_length (sR l)[i]!.size
      have htb : (textBytes (sR l)[i]!).length ≤ 100010 := by simp only [textBytes, List.length_append, own_length]; omega
      have ih := lt_loop F t K l hl hn k (i + 1) m (lo ++ rb (textBytes (sR l)[i]!)) (xt ++ [(1, (textBytes (sR l)[i]!).length)]) (by omega) (by omega) (fun j hj' => by
        by_cases h : j = i
        · subst h; omega
        · exact hj j (by omega)) (by rw [List.length_append, rb_length]; omega)
      rw [branch_not (decide_eq_false (by omega)), branch_of (shortS_of (by omega))]
      simp only [List.cons_append, List.getElem?_cons_zero, List.set_cons_zero]
      rw [if_pos ⟨trivial, by rw [rb_length]; omega⟩, wrapS (by omega) (by omega), show ((i : Int) + 1) = ((i + 1 : Nat) : Int) by omega]
      rw [List.length_append] at ih
      rw [at_i hi1]
      simp only [catT, rb_append, ← List.append_assoc]
      simp only [List.append_assoc] at ih ⊢
      exact ih
theorem ltexts_true {l : List (List AV)} (hl : Txs l) : ∃ F st, f6.run F [.sl 1 false l] ⟨[], []⟩ = some (.ret (.bool true), st) := by
  refine ⟨l.length + 1, ?_⟩
  rw [ltexts_run]
  by_cases h6 : 200 < l.length
  · rw [branch_of (decide_eq_true (by omega))]; exact ⟨_, rfl⟩
  have hil := intBytes_length l.length
  rw [branch_not (decide_eq_false (by omega)), branch_of (by simp [i64B]; omega), show (0 : Int) = ((0 : Nat) : Int) from rfl]
  have hl2 := lt_loop (l.length + 1) 0 (Cont.block 0 (Cont.then (f6_r0.run (l.length + 1) (f6.leaveK Fun.done)) (f6.leaveK Fun.done))) l hl (by omega) l.length 0 (l.length + 1) (rb (intBytes l.length)) [] (by omega) (by omega) (fun j hj => by omega) (by rw [rb_length]; omega)
  rw [rb_length] at hl2
  rcases hl2 with ⟨st, h⟩ | ⟨h1, st, h⟩
  · rw [h, lt_ret]; exact ⟨_, rfl⟩
  · have hf : fitT (Br.sl false l) = true := by simp only [fitT, Br.list, h1, Bool.true_and]; exact decide_eq_true (by omega)
    have e : rb (intBytes (l.length : Int)) ++ rb (catT ((sR l).drop 0)) = rb (textsBytes (sR l)) := by rw [List.drop_zero, textsBytes, rb_append, sR_length]
    rw [h, lt_out, e, branch_of hf]
    simp only [Br.list]
    rw [branch_of (pair_same (f' := false) (okR_rb (textsBytes_lt h1 (by omega))) (by rw [rb_length]; exact textsBytes_length h1 (by omega))), sameRows_iff.mpr rfl]
    exact ⟨_, rfl⟩
theorem ltexts_law (as0 : List AV) (sh0 : Ty.Shape (.sl .str 16) as0) : ∃ F st, f6.run F [Ty.AV' (.sl .str 16) as0] ⟨[], []⟩ = some (.ret (.bool true), st) := by
  rcases texts_shape sh0 with rfl | ⟨l, rfl, hl⟩
  · exact ⟨20, _, ltexts_nil⟩
  · exact ltexts_true hl
end Go.Proofs.Ytjdpfblmhahfkaa.V

/- Callees that change objects and make things that nothing leads to. -/
set_option linter.unusedVariables false
set_option linter.unusedSimpArgs false
namespace Go.V
section
variable {P : Program}

/-- Objects and tokens that were made are forgotten, where nothing leads to them; other objects may have been changed. -/
theorem forgetS {id : FuncId} {args : List AV} {st : St} {r : AV} {os xo : List Ob} {xt : List (Nat × Nat)} (h : CallsTo P id args st (.ret r, ⟨os ++ xo, st.tk ++ xt⟩)) (hlen : os.length = st.objs.length)
    (hos : ∀ (k : Nat) (o' : Ob), os[k]? = some o' → st.objs[k]? = some o' ∨ (ScopedOb st.objs.length st.tk.length o' ∧ (match o' with | .gone => False | _ => True)))
    (hr' : ScopedL st.objs.length st.tk.length args → Scoped st.objs.length st.tk.length (frz r)) : CallsTo P id args st (.ret (frz r), ⟨os, st.tk⟩) := by
  intro g w vals hv hs
  have hr := hr' (by have := RelAll.inside args vals.toList hv; rw [hs.len, hs.tk] at this; exact this)
  refine (h g w vals hv hs).mono fun e w' ⟨g', h1, h2, h3⟩ => ?_
  obtain ⟨v, rfl, hv'⟩ := h1
  have hgone : ∀ (k : Nat) (o o' : Ob), st.objs[k]? = some o → os[k]? = some o' → (match o with | .gone => False | _ => True) → (match o' with | .gone => False | _ => True) := by
    intro k o o' h1 h2 h3
    rcases hos k o' h2 with h4 | h4
    · rw [h1] at h4; cases h4; exact h3
    · exact h4.2
  have hobs : ∀ (k b : Nat) (o : Ob), g.objs[k]? = some b → os[k]? = some o → ScopedOb g.objs.length g.tk.length o := by
    intro k b o hk ho
    rcases hos k o ho with h4 | h4
    · obtain ⟨_, hr⟩ := hs.obj k b o hk h4
      cases o with
      | cells cs => obtain ⟨_, C, E, _, hr, _⟩ := hr; exact RelAll.inside _ _ hr
      | map es => obtain ⟨_, M, c, _, hr, hr'⟩ := hr; exact ⟨RelAll.inside _ _ hr, RelAll.inside _ _ hr'⟩
      | gone => trivial
    · rw [hs.len, hs.tk]; exact h4.1
  have hcut : Cut g g' w w' := by
    refine ⟨fun b hb => ?_, fun k b hk hb => ?_, fun t ht => ?_, fun b t hb hk => by rw [hs.tk]; exact hs.rowlt b t hb hk⟩
    · cases hk : g.kind b with
      | solid => exact (h3.solid b hb hk).1
      | row t => exact (h3.row b t hb hk).1
      | obj k =>
        obtain ⟨o, o1, o2, o3⟩ := hs.back b k hb hk
        have hkl : k < os.length := by rw [hlen]; exact getElem?_lt o1
        have ho' : os[k]? = some os[k] := List.getElem?_eq_getElem hkl
        have := hgone k o _ o1 ho' o3
        have hob := (h2.obj k b os[k] (h3.objs k b o2) (by rw [List.getElem?_append_left hkl]; exact ho')).2
        generalize os[k] = o' at this hob
        cases o' with
        | cells cs => exact hob.1
        | map es => exact hob.1
        | gone => exact this.elim
    · have : g.objs[k]? = some g.objs[k] := List.getElem?_eq_getElem hk
      have h4 := h3.objs k _ this
      rw [hb] at h4
      rw [this]
      exact h4.symm
    · rw [h2.tk, hs.tk, List.getElem?_append_left (by rw [← hs.tk]; exact ht)]
  have hE : Ev g w (g.cut g' w.heap.size) w' := by
    refine ⟨h3.os, h3.tape, h3.output, h3.size, fun b hb hk => ⟨by simp only [Gh.cut]; rw [if_pos hb]; exact hk, (h3.solid b hb hk).2⟩, fun b t hb hk => ⟨by simp only [Gh.cut]; rw [if_pos hb]; exact hk, (h3.row b t hb hk).2⟩, fun b k hb hk => .inl (by simp only [Gh.cut]; rw [if_pos hb]; exact hk), fun _ _ h => h, tk_refl _⟩
  refine ⟨g.cut g' w.heap.size, ⟨v, rfl, hcut.rel _ _ (by rw [hs.len, hs.tk]; exact hr) (frz_rel hv')⟩, ⟨hs.tk, by rw [hlen]; exact hs.len, fun k b o hk ho => ?_, fun b k hb hk => ?_, fun b t hb hk => ?_⟩, hE⟩
  · have hkl : k < os.length := getElem?_lt ho
    obtain ⟨p1, p2⟩ := h2.obj k b o (h3.objs k b hk) (by rw [List.getElem?_append_left hkl]; exact ho)
    have hblt : b < w.heap.size := (hs.obj k b _ hk (List.getElem?_eq_getElem (by omega))).1
    refine ⟨p1, ?_⟩
    have hsc := hobs k b o hk ho
    cases o with
    | cells cs =>
      obtain ⟨q1, C, E, q2, q3, q4⟩ := p2
      exact ⟨by simp only [Gh.cut]; rw [if_pos hblt, ← hcut.kind b hblt]; exact q1, C, E, q2, hcut.relAll _ _ hsc q3, q4⟩
    | map es =>
      obtain ⟨q1, M, c, q2, q3, q4⟩ := p2
      exact ⟨by simp only [Gh.cut]; rw [if_pos hblt, ← hcut.kind b hblt]; exact q1, M, c, q2, hcut.relAll _ _ hsc.1 q3, hcut.relAll _ _ hsc.2 q4⟩
    | gone => trivial
  · simp only [Gh.cut] at hk
    by_cases hb' : b < w.heap.size
    · rw [if_pos hb'] at hk
      obtain ⟨o, o1, o2, o3⟩ := hs.back b k hb' hk
      have hkl : k < os.length := by rw [hlen]; exact getElem?_lt o1
      exact ⟨os[k], List.getElem?_eq_getElem hkl, o2, hgone k o _ o1 (List.getElem?_eq_getElem hkl) o3⟩
    · rw [if_neg hb'] at hk
      split at hk
      · split at hk <;> cases hk
      · cases hk
  · simp only [Gh.cut] at hk
    by_cases hb' : b < w.heap.size
    · rw [if_pos hb'] at hk; exact hs.rowlt b t hb' hk
    · rw [if_neg hb'] at hk
      split at hk
      · split at hk
        · rename_i ht
          cases hk
          show t < st.tk.length
          rw [← hs.tk]; exact ht
        · cases hk
      · cases hk


/-- A callee told by what is known of arguments and state; what it makes beside its (frozen) answer is forgotten. -/
def Fun.cpsX (f : Fun P) (sem : List AV → St → (Fin → St → Ans) → Ans)
    (hs : ∀ args st k fin, sem args st k = some fin → ∃ r os, k (.ret r) ⟨os, st.tk⟩ = some fin ∧ os.length = st.objs.length ∧
      (∀ (k : Nat) (o' : Ob), os[k]? = some o' → st.objs[k]? = some o' ∨ (ScopedL st.objs.length st.tk.length args → ScopedOb st.objs.length st.tk.length o') ∧ (match o' with | .gone => False | _ => True)) ∧
      (ScopedL st.objs.length st.tk.length args → Scoped st.objs.length st.tk.length r) ∧ ∃ F r' xo xt, frz r' = r ∧ f.run F args st = some (.ret r', ⟨os ++ xo, st.tk ++ xt⟩)) : OrcS P where
  id := f.id
  fn := f.fn
  hf := f.hf
  hname := f.hname
  hb := by rw [f.hbody]; rfl
  sem := sem
  sound k args st fin h := by
    obtain ⟨r, os, h1, h2, h3, h4, F, r', xo, xt, h5, h6⟩ := hs args st k fin h
    refine ⟨_, _, h1, fun g w vals hv hst => ?_⟩
    have hsc : ScopedL st.objs.length st.tk.length args := by have := RelAll.inside args vals.toList hv; rw [hst.len, hst.tk] at this; exact this
    have := forgetS (f.sound h6) h2 (fun k o' ho => (h3 k o' ho).imp (fun h => h) fun h => ⟨h.1 hsc, h.2⟩) (by rw [h5]; exact h4)
    rw [h5] at this
    exact this g w vals hv hst

/-- A callee that reads objects and leaves them as they are. -/
structure OrcQ (P : Program) where
  id : FuncId
  fn : Func
  hf : P.funcs[id]? = some fn
  hname : (fn.name == "runtime.NumGoroutine") = false
  hb : fn.body.isNone = false
  F : List AV → St → (AV → Ans) → Ans
  sound : ∀ k args st fin, F args st k = some fin → ∃ r, k r = some fin ∧ CallsTo P id args st (.ret r, st)

def Fun.ask (f : Fun P) (sem : List AV → St → (AV → Ans) → Ans)
    (hs : ∀ args st k fin, sem args st k = some fin → ∃ r, k r = some fin ∧ ∃ F, f.run F args st = some (.ret r, st)) : OrcQ P where
  id := f.id
  fn := f.fn
  hf := f.hf
  hname := f.hname
  hb := by rw [f.hbody]; rfl
  F := sem
  sound k args st fin h := by
    obtain ⟨r, h1, F, h2⟩ := hs args st k fin h
    exact ⟨r, h1, f.sound h2⟩

def opCallQ (O : OrcQ P) (dst : Option Tmp) (args : List Operand) (tys : Array TypeId) (ty : TypeId) (pos : String) (after : Array Edge) : QSim P where
  oper := mkOp dst (.call { callee := .value (.func O.id), args := args.toArray, argTypes := tys }) ty pos after
  plain := rfl
  xs := args
  f ev st k := O.F (args.map ev) st k
  congr ev ev' st k h := by rw [map_ev h fun _ h => h]
  sound ev st k fin h g w a he hs := by
    obtain ⟨r, h1, h2⟩ := O.sound _ _ _ _ h
    exact ⟨r, h1, call_told O.hf O.hname O.hb he hs h2⟩
def OrcQ.NatQ (O : OrcQ P) : Prop := ∀ args st k, O.F args st k = thenA (O.F args st retA) k
theorem opCallQ_nat {O : OrcQ P} (h : O.NatQ) {dst : Option Tmp} {args : List Operand} {tys : Array TypeId} {ty : TypeId} {pos : String} {after : Array Edge} : (opCallQ O dst args tys ty pos after).Nat := fun ev st k => h _ _ _
end
end Go.V
