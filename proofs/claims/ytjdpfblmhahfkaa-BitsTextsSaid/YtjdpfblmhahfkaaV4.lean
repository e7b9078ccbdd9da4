/- Fields, elements, loads, pieces. -/
import Derived.Test.YtjdpfblmhahfkaaV3
set_option linter.unusedVariables false
set_option linter.unusedSimpArgs false
namespace Go.V
section
variable {P : Program}

def isAggD (d : TypeDesc) : Bool :=
  match d with
  | .struct _ => true
  | .array _ _ => true
  | _ => false

theorem run_isAgg {t : TypeId} {d : TypeDesc} (h : P.underlying t = some d) (w : World) : (isAgg t).run P w = .ok (isAggD d) w := by
  unfold isAgg
  cases d <;> simp [run_underlying h, isAggD]

/-- A field: where it lies, its cells, is it a struct or an array? -/
def fieldB (P : Program) (s f off sz : Nat) (ag : Bool) : Bool :=
  match P.underlying s with
  | some (.struct fs) => match fs[f]? with
    | some fd => Nat.beq fd.offset off && (match P.info? fd.type with | some i => Nat.beq i.size sz | none => false) && (match P.underlying fd.type with | some d => isAggD d == ag | none => false)
    | none => false
  | _ => false

theorem fieldB_spec {s f off sz : Nat} {ag : Bool} (h : fieldB P s f off sz ag = true) :
    ∃ fs fd d, P.underlying s = some (.struct fs) ∧ fs[f]? = some fd ∧ fd.offset = off ∧ (P.info? fd.type).map (·.size) = some sz ∧ P.underlying fd.type = some d ∧ isAggD d = ag := by
  unfold fieldB at h
  split at h
  · rename_i fs hu
    split at h
    · rename_i fd hf
      simp only [Bool.and_eq_true] at h
      obtain ⟨⟨h1, h2⟩, h3⟩ := h
      split at h2
      · rename_i i hi
        split at h3
        · rename_i d hd
          exact ⟨fs, fd, d, hu, hf, by simpa using h1, by rw [hi]; simpa using h2, hd, by simpa using h3⟩
        · cases h3
      · cases h2
    · cases h
  · cases h

/-- A part of a struct's or an array's cells. -/
def apart (ag : Bool) (sz : Nat) (cs : List AV) (k : AV → Ans) : Ans :=
  match ag with
  | true => match takeN sz cs with
    | some ds => k (.agg ds)
    | none => none
  | false => match cs with
    | c :: _ => k c
    | [] => none

theorem apart_run {t : TypeId} {d : TypeDesc} (hd : P.underlying t = some d) {sz : Nat} (hs : (P.info? t).map (·.size) = some sz) (off : Nat) {cs : List AV} {vs : Array Value} {k : AV → Ans} {fin : Fin × St}
    (h : apart (isAggD d) sz (cs.drop off) k = some fin) {g : Gh} {w : World} (hr : RelAll g w cs vs.toList) (h1c : ∀ u ∈ vs.toList, u.oneCell' = true) :
    ∃ r v, k r = some fin ∧ (part t vs off).run P w = .ok v w ∧ Rel g w r v := by
  unfold apart at h
  have hr' := RelAll.drop off _ _ hr
  split at h
  · rename_i hag
    split at h
    · rename_i ds hds
      obtain ⟨rfl, hle⟩ := takeN_eq _ _ _ hds
      refine ⟨_, .agg (vs.extract off (off + sz)), h, by unfold part; simp [run_isAgg hd, hag, run_sizeOf' hs], ?_⟩
      have := RelAll.take sz _ _ hr'
      refine ⟨_, rfl, by simpa [Array.toList_extract, List.extract_eq_take_drop] using this, fun u hu => h1c u ?_⟩
      rw [Array.toList_extract, List.extract_eq_take_drop] at hu
      exact List.mem_of_mem_drop (List.mem_of_mem_take hu)
    · cases h
  · rename_i hag
    split at h
    · rename_i c rest hc
      rw [hc] at hr'
      obtain ⟨v, vr, h1, h2, _⟩ := hr'
      have h3 : vs[off]? = some v := by
        rw [← Array.getElem?_toList]
        have := congrArg (fun l => l[0]?) h1
        simpa using this
      exact ⟨_, _, h, by unfold part; simp [run_isAgg hd, hag, h3], h2⟩
    · cases h

def afield (ag : Bool) (off sz : Nat) (x : AV) (k : AV → Ans) : Ans :=
  match x with
  | .agg cs => apart ag sz (cs.drop off) k
  | _ => none

def opField (dst : Option Tmp) (T : TypeId) (x : Operand) (f off sz : Nat) (ag : Bool) (hf : fieldB P T f off sz ag = true) (ty : TypeId) (pos : String) (after : Array Edge) : PSim P :=
  PSim.quiet (mkOp dst (.field T x f) ty pos after) rfl [x] (fun ev k => afield ag off sz (ev x) k) (fun ev ev' k h => by simp only [h x (by simp)]) fun ev k fin h g w a st he hs => by
    obtain ⟨fs, fd, d, h1, h2, h3, h4, h5, h6⟩ := fieldB_spec hf
    have hv := he x (by simp)
    unfold afield at h
    split at h
    · rename_i cs hb
      rw [hb] at hv
      obtain ⟨vs, hv, hr, h1c⟩ := hv
      subst h6; subst h3
      obtain ⟨r, v, k1, k2, k3⟩ := apart_run (P := P) h5 h4 fd.offset h hr h1c
      exact ⟨r, v, k1, by simp [execOp, mkOp, Instr.field, run_underlying h1, h2, hv, asAgg, k2], k3⟩
    · cases h

/-- A place behind a pointer. -/
def aoff (off : Nat) (x : AV) (k : AV → Ans) : Ans :=
  match x with
  | .ptr j o => k (.ptr j (o + off))
  | .eptr cs => k (.eptr (cs.drop off))
  | _ => none

def opFieldAddr (dst : Option Tmp) (T : TypeId) (x : Operand) (f off sz : Nat) (ag : Bool) (hf : fieldB P T f off sz ag = true) (h0 : sz ≠ 0) (ty : TypeId) (pos : String) (after : Array Edge) : PSim P :=
  PSim.quiet (mkOp dst (.fieldAddr T x f) ty pos after) rfl [x] (fun ev k => aoff off (ev x) k) (fun ev ev' k h => by simp only [h x (by simp)]) fun ev k fin h g w a st he hs => by
    obtain ⟨fs, fd, d, h1, h2, h3, h4, h5, h6⟩ := fieldB_spec hf
    have hv := he x (by simp)
    have key : ∀ b o, a.eval x = .pointer (some ⟨b, o, none⟩) → (execOp a.eval (mkOp dst (.fieldAddr T x f) ty pos after)).run P w = .ok (.value (.pointer (some ⟨b, o + off, none⟩))) w := by
      intro b o hv
      simp [execOp, mkOp, Instr.fieldAt, run_underlying h1, h2, hv, Instr.sureAddr, fieldPlace, run_sizeOf' h4, h0, add_none, h3]
    unfold aoff at h
    split at h
    · rename_i j o hb
      rw [hb] at hv
      obtain ⟨b, hg, hv⟩ := hv
      exact ⟨_, _, h, key b o hv, b, hg, rfl⟩
    · rename_i cs hb
      rw [hb] at hv
      obtain ⟨b, o, hv, hc⟩ := hv
      exact ⟨_, _, h, key b o hv, b, o + off, rfl, RelCells.drop off cs b o hc⟩
    · cases h

/-- An element of a slice. -/
def elemAt (l : List (List AV)) (i : Int) : Option (List AV) := if 0 ≤ i then l[i.toNat]? else none

def aidx (sz : Nat) (x i : AV) (k : AV → Ans) : Ans :=
  match i with
  | .int _ i => match x with
    | .sl s _ l => match Nat.beq s sz with
      | true => match elemAt l i with
        | some c => k (.eptr c)
        | none => none
      | false => none
    | .lg _ s l => match Nat.beq s sz with
      | true => match elemAt l i with
        | some c => k (.eptr c)
        | none => none
      | false => none
    | .ms j s o n _ => match Nat.beq s sz with
      | true => if 0 ≤ i ∧ i < n then k (.ptr j (o + i.toNat * sz)) else none
      | false => none
    | _ => none
  | _ => none

theorem elemAt_some {l : List (List AV)} {i : Int} {c : List AV} (h : elemAt l i = some c) : 0 ≤ i ∧ i < l.length ∧ l[i.toNat]? = some c := by
  unfold elemAt at h
  split at h
  · rename_i h0
    have : i.toNat < l.length := by
      rcases Nat.lt_or_ge i.toNat l.length with h' | h'
      · exact h'
      · rw [List.getElem?_eq_none h'] at h; cases h
    exact ⟨h0, by omega, h⟩
  · cases h

def opIndexAddr (dst : Option Tmp) (T : TypeId) (x i : Operand) (e sz : Nat) (hT : P.underlying T = some (.slice e)) (hz : (P.info? e).map (·.size) = some sz) (ty : TypeId) (pos : String) (after : Array Edge) : PSim P :=
  PSim.quiet (mkOp dst (.indexAddr T x i) ty pos after) rfl [x, i] (fun ev k => aidx sz (ev x) (ev i) k) (fun ev ev' k h => by simp only [h x (by simp), h i (by simp)]) fun ev k fin h g w a st he hs => by
    have hv := he x (by simp)
    have hi := he i (by simp)
    have key : ∀ kd j b o n cap, a.eval i = .int kd j → a.eval x = .slice (some ⟨b, o, none⟩) n cap → 0 ≤ j → j < (n : Int) → (execOp a.eval (mkOp dst (.indexAddr T x i) ty pos after)).run P w = .ok (.value (.pointer (some ⟨b, o + j.toNat * sz, none⟩))) w := by
      intro kd j b o n cap h1 h2 h3 h4
      simp [execOp, mkOp, Instr.indexAt, h1, h2, asIntOf, run_underlying hT, h3, h4, run_sizeOf' hz, add_none]
    unfold aidx at h
    split at h
    · rename_i kd j hj
      rw [hj] at hi
      have hi : a.eval i = .int kd j := hi
      split at h
      · rename_i s full l hb
        rw [hb] at hv
        obtain ⟨b, o, sp, cap, hv, hle, _, hsp, hr⟩ := hv
        split at h
        · rename_i hsz
          obtain rfl : s = sz := by simpa using hsz
          split at h
          · rename_i c hc
            obtain ⟨h0, h1, h2⟩ := elemAt_some hc
            obtain rfl : sp = none := hsp.resolve_right (by rintro rfl; simp at h2)
            obtain ⟨k1, k2⟩ := RelRows.get s l b o _ c hr h2
            exact ⟨_, _, h, key _ _ _ _ _ _ hi hv h0 h1, b, _, rfl, k2⟩
          · cases h
        · cases h
      · rename_i t s l hb
        rw [hb] at hv
        obtain ⟨b, cap, C, E, fz, hv, hle, _, _, _, _, _, hr⟩ := hv
        split at h
        · rename_i hsz
          obtain rfl : s = sz := by simpa using hsz
          split at h
          · rename_i c hc
            obtain ⟨h0, h1, h2⟩ := elemAt_some hc
            obtain ⟨k1, k2⟩ := RelRows.get s l b 0 _ c hr h2
            exact ⟨_, _, h, key _ _ _ _ _ _ hi hv h0 h1, b, _, rfl, k2⟩
          · cases h
        · cases h
      · rename_i j2 s o n cap hb
        rw [hb] at hv
        obtain ⟨b, hg, hv, hle⟩ := hv
        split at h
        · rename_i hsz
          obtain rfl : s = sz := by simpa using hsz
          split at h
          · rename_i hc
            exact ⟨_, _, h, key _ _ _ _ _ _ hi hv hc.1 hc.2, b, hg, rfl⟩
          · cases h
        · cases h
      · cases h
    · cases h

/-- What lies behind a pointer. -/
def aload (ag : Bool) (sz : Nat) (p : AV) (st : St) (k : AV → Ans) : Ans :=
  match p with
  | .eptr cs => apart ag sz cs k
  | .ptr j o => match st.objs[j]? with
    | some (.cells cs) => apart ag sz (cs.drop o) k
    | _ => none
  | _ => none

theorem run_load_cell {w : World} {b o : Nat} {v : Value} (h : w.cell? ⟨b, o, none⟩ = some v) : (load ⟨b, o, none⟩).run P w = .ok v w := by
  rw [run_load, h]

theorem aload_run {t : TypeId} {d : TypeDesc} (hd : P.underlying t = some d) {sz : Nat} (hs : (P.info? t).map (·.size) = some sz) {g : Gh} {w : World} {b o : Nat} {cs : List AV} {vs : List Value}
    (hr : RelAll g w cs vs) (hc : ∀ j v, vs[j]? = some v → w.cell? ⟨b, o + j, none⟩ = some v) (h1c : ∀ u ∈ vs, u.oneCell' = true) {k : AV → Ans} {fin : Fin × St} (h : apart (isAggD d) sz cs k = some fin) :
    ∃ r v, k r = some fin ∧ (loadVar t ⟨b, o, none⟩).run P w = .ok v w ∧ Rel g w r v := by
  unfold apart at h
  split at h
  · rename_i hag
    split at h
    · rename_i ds hds
      obtain ⟨rfl, hle⟩ := takeN_eq _ _ _ hds
      have hr' := RelAll.take sz _ _ hr
      have hlen : (vs.take sz).length = sz := by rw [List.length_take, ← RelAll.length _ _ hr]; omega
      have hl := run_loadCells_list (P := P) w ⟨b, o, none⟩ (vs.take sz) (fun j v hj => by
        rw [add_none]
        refine hc j v ?_
        rw [List.getElem?_take] at hj
        split at hj
        · exact hj
        · cases hj)
      rw [hlen] at hl
      exact ⟨_, .agg (vs.take sz).toArray, h, by unfold loadVar; simp [run_isAgg hd, hag, run_sizeOf' hs, hl], _, rfl, by simpa using hr', fun u hu => h1c u (List.mem_of_mem_take (by simpa using hu))⟩
    · cases h
  · rename_i hag
    split at h
    · rename_i c rest
      obtain ⟨v, vr, rfl, h2, _⟩ := hr
      have := hc 0 v rfl
      exact ⟨_, _, h, by unfold loadVar; simp only [Sem.run_bind, run_isAgg hd, hag, Result.andThen_ok]; simpa using run_load_cell (P := P) (by simpa using this), h2⟩
    · cases h

theorem aload_ptr {T : TypeId} {d : TypeDesc} (hd : P.underlying T = some d) {sz : Nat} (hz : (P.info? T).map (·.size) = some sz) {g : Gh} {st : St} {w : World} (hs : StRel g st w) {X : AV} {x : Value} (hv : Rel g w X x) {k : AV → Ans} {fin : Fin × St} (h : aload (isAggD d) sz X st k = some fin) :
    ∃ r v b o, k r = some fin ∧ x = .pointer (some ⟨b, o, none⟩) ∧ (loadVar T ⟨b, o, none⟩).run P w = .ok v w ∧ Rel g w r v := by
  unfold aload at h
  split at h
  · rename_i cs
    obtain ⟨b, o, hv, hc⟩ := hv
    obtain ⟨vs, h1, h2⟩ := RelCells.values cs b o hc
    obtain ⟨r, v, k1, k2, k3⟩ := aload_run (P := P) hd hz h1 (fun j v hj => (h2 j v hj).1) (fun u hu => by obtain ⟨j, hj⟩ := List.getElem?_of_mem hu; exact (h2 j u hj).2.2) h
    exact ⟨r, v, b, o, k1, hv, k2, k3⟩
  · rename_i j o
    obtain ⟨b, hg, hv⟩ := hv
    split at h
    · rename_i cs hcs
      obtain ⟨_, C, E, hC, hr, h1c⟩ := ob_of hs hg hcs
      have hr' := RelAll.drop o _ _ hr
      obtain ⟨r, v, k1, k2, k3⟩ := aload_run (P := P) hd hz hr' (fun j v hj => by rw [cell_of hC]; simpa using hj) (fun u hu => h1c u (List.mem_of_mem_drop hu)) h
      exact ⟨r, v, b, o, k1, hv, k2, k3⟩
    · cases h
  · cases h

def opLoad (dst : Option Tmp) (T : TypeId) (x : Operand) (d : TypeDesc) (hd : P.underlying T = some d) (sz : Nat) (hz : (P.info? T).map (·.size) = some sz) (ty : TypeId) (pos : String) (after : Array Edge) : QSim P :=
  QSim.quiet (mkOp dst (.load T x) ty pos after) rfl [x] (fun ev st k => aload (isAggD d) sz (ev x) st k) (fun ev ev' st k h => by simp only [h x (by simp)]) fun ev st k fin h g w a he hs => by
    obtain ⟨r, v, b, o, k1, hv, k2, k3⟩ := aload_ptr (P := P) hd hz hs (he x (by simp)) h
    exact ⟨r, v, k1, by simp [execOp, mkOp, Instr.loadAt, hv, Instr.sureAddr, k2], k3⟩

/-- What lies behind a pointer to what never changes. -/
def aloadF (ag : Bool) (sz : Nat) (p : AV) (k : AV → Ans) : Ans :=
  match p with
  | .eptr cs => apart ag sz cs k
  | _ => none

def opLoadF (dst : Option Tmp) (T : TypeId) (x : Operand) (d : TypeDesc) (hd : P.underlying T = some d) (sz : Nat) (hz : (P.info? T).map (·.size) = some sz) (ty : TypeId) (pos : String) (after : Array Edge) : PSim P :=
  PSim.quiet (mkOp dst (.load T x) ty pos after) rfl [x] (fun ev k => aloadF (isAggD d) sz (ev x) k) (fun ev ev' k h => by simp only [h x (by simp)]) fun ev k fin h g w a st he hs => by
    have h' : aload (isAggD d) sz (ev x) st k = some fin := by
      unfold aloadF at h
      split at h
      · rename_i cs hb; rw [hb]; exact h
      · cases h
    obtain ⟨r, v, b, o, k1, hv, k2, k3⟩ := aload_ptr (P := P) hd hz hs (he x (by simp)) h'
    exact ⟨r, v, k1, by simp [execOp, mkOp, Instr.loadAt, hv, Instr.sureAddr, k2], k3⟩

/-- A byte of a text. -/
def astr (x i : AV) (k : AV → Ans) : Ans :=
  match x, i with
  | .str s, .int _ j => match (if 0 ≤ j then s[j.toNat]? else none) with
    | some c => k (.int .u8 c.toNat)
    | none => none
  | _, _ => none

def opIndexStr (dst : Option Tmp) (T : TypeId) (x i : Operand) (hT : P.underlying T = some .string) (ty : TypeId) (pos : String) (after : Array Edge) : PSim P :=
  PSim.quiet (mkOp dst (.index T x i) ty pos after) rfl [x, i] (fun ev k => astr (ev x) (ev i) k) (fun ev ev' k h => by simp only [h x (by simp), h i (by simp)]) fun ev k fin h g w a st he hs => by
    have hv := he x (by simp)
    have hi := he i (by simp)
    unfold astr at h
    split at h
    · rename_i s kd j hb hj
      rw [hb] at hv; rw [hj] at hi
      have hv : a.eval x = .string s := hv
      have hi : a.eval i = .int kd j := hi
      split at h
      · rename_i c hc
        exact ⟨_, _, h, by simp only [execOp, mkOp, Instr.index, hv, hi, asIntOf, Sem.run_bind, Sem.run_pure, Result.andThen_ok, run_underlying hT, hc], rfl⟩
      · cases h
    · cases h

/-- An element of an array. -/
def aarr (n : Nat) (ag : Bool) (sz : Nat) (x i : AV) (k : AV → Ans) : Ans :=
  match x, i with
  | .agg cs, .int _ j => if 0 ≤ j ∧ j < n then apart ag sz (cs.drop (j.toNat * sz)) k else none
  | _, _ => none

def opIndexArr (dst : Option Tmp) (T : TypeId) (x i : Operand) (n e : Nat) (hT : P.underlying T = some (.array n e)) (d : TypeDesc) (hd : P.underlying e = some d) (sz : Nat) (hz : (P.info? e).map (·.size) = some sz) (ty : TypeId) (pos : String) (after : Array Edge) : PSim P :=
  PSim.quiet (mkOp dst (.index T x i) ty pos after) rfl [x, i] (fun ev k => aarr n (isAggD d) sz (ev x) (ev i) k) (fun ev ev' k h => by simp only [h x (by simp), h i (by simp)]) fun ev k fin h g w a st he hs => by
    have hv := he x (by simp)
    have hi := he i (by simp)
    unfold aarr at h
    split at h
    · rename_i cs kd j hb hj
      rw [hb] at hv; rw [hj] at hi
      obtain ⟨vs, hv, hr, h1c⟩ := hv
      have hi : a.eval i = .int kd j := hi
      split at h
      · rename_i hc
        obtain ⟨r, v, k1, k2, k3⟩ := apart_run (P := P) hd hz (j.toNat * sz) h hr h1c
        exact ⟨r, v, k1, by simp [execOp, mkOp, Instr.index, hv, hi, asIntOf, run_underlying hT, hc, run_sizeOf' hz, k2], k3⟩
      · cases h
    · cases h

/-- A place in an array behind a pointer. -/
def aidxA (n sz : Nat) (x i : AV) (k : AV → Ans) : Ans :=
  match i with
  | .int _ j => if 0 ≤ j ∧ j < n then aoff (j.toNat * sz) x k else none
  | _ => none

def opIndexAddrA (dst : Option Tmp) (T : TypeId) (x i : Operand) (n e sz : Nat) (hT : P.underlying T = some (.array n e)) (hz : (P.info? e).map (·.size) = some sz) (ty : TypeId) (pos : String) (after : Array Edge) : PSim P :=
  PSim.quiet (mkOp dst (.indexAddr T x i) ty pos after) rfl [x, i] (fun ev k => aidxA n sz (ev x) (ev i) k) (fun ev ev' k h => by simp only [h x (by simp), h i (by simp)]) fun ev k fin h g w a st he hs => by
    have hv := he x (by simp)
    have hi := he i (by simp)
    unfold aidxA at h
    split at h
    · rename_i kd j hj
      rw [hj] at hi
      have hi : a.eval i = .int kd j := hi
      split at h
      · rename_i hc
        have key : ∀ b o, a.eval x = .pointer (some ⟨b, o, none⟩) → (execOp a.eval (mkOp dst (.indexAddr T x i) ty pos after)).run P w = .ok (.value (.pointer (some ⟨b, o + j.toNat * sz, none⟩))) w := by
          intro b o hv
          simp [execOp, mkOp, Instr.indexAt, hi, hv, asIntOf, run_underlying hT, Instr.sureAddr, hc, run_sizeOf' hz, add_none]
        unfold aoff at h
        split at h
        · rename_i j2 o hb
          rw [hb] at hv
          obtain ⟨b, hg, hv⟩ := hv
          exact ⟨_, _, h, key b o hv, b, hg, rfl⟩
        · rename_i cs hb
          rw [hb] at hv
          obtain ⟨b, o, hv, hcs⟩ := hv
          exact ⟨_, _, h, key b o hv, b, _, rfl, RelCells.drop _ cs b o hcs⟩
        · cases h
      · cases h
    · cases h

end
end Go.V
