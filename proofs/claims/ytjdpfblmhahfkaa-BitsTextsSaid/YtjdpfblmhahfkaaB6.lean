/- Bits: equal bytes and copies, as callees. -/
import Derived.Test.YtjdpfblmhahfkaaB5
set_option linter.unusedVariables false
namespace Go.Proofs.Ytjdpfblmhahfkaa.V
open Go Go.V Go.RowKit

/-- A slice of bytes. -/
inductive Bt where
  | nil
  | sl (f : Bool) (bs : List Int)
def ri (bs : List Int) : List (List AV) := bs.map fun b => [.int .u8 b]
def Bt.av : Bt → AV
  | .nil => .nilsl
  | .sl f bs => .sl 1 f (ri bs)
def Bt.list : Bt → List Int
  | .nil => []
  | .sl _ bs => bs
def decBt (x : AV) : Option Bt :=
  match x with
  | .nilsl => some .nil
  | .sl 1 f l => match numsOf l with
    | some bs => some (.sl f bs)
    | none => none
  | _ => none
theorem numsOf_eq : ∀ {l : List (List AV)} {bs : List Int}, numsOf l = some bs → l = ri bs
  | [], bs, h => by simp only [numsOf, Option.some.injEq] at h; subst h; rfl
  | r :: l, bs, h => by
    unfold numsOf at h
    split at h
    · split at h
      · rename_i n _ ns hn
        simp only [Option.some.injEq] at h
        subst h
        rw [numsOf_eq hn]; rfl
      · cases h
    · cases h
theorem decBt_av {x : AV} {b : Bt} (h : decBt x = some b) : x = b.av := by
  unfold decBt at h
  split at h
  · cases h; rfl
  · split at h
    · rename_i hn; cases h; rw [numsOf_eq hn]; rfl
    · cases h
  · cases h
theorem decBt_of (b : Bt) : decBt b.av = some b := by
  cases b with
  | nil => rfl
  | sl f bs => simp [Bt.av, decBt, ri, numsOf_map]

def dec2b : List AV → Option (Bt × Bt)
  | [x, y] => match decBt x, decBt y with
    | some a, some b => some (a, b)
    | _, _ => none
  | _ => none
theorem dec2b_enc (l : List AV) (a : Bt × Bt) (h : dec2b l = some a) : l = [a.1.av, a.2.av] := by
  unfold dec2b at h
  split at h
  · split at h
    · rename_i h1 h2; cases h; rw [decBt_av h1, decBt_av h2]
    · cases h
  · cases h
def dec1b : List AV → Option Bt
  | [x] => decBt x
  | _ => none
theorem dec1b_enc (l : List AV) (a : Bt) (h : dec1b l = some a) : l = [a.av] := by
  unfold dec1b at h
  split at h
  · rw [decBt_av h]
  · cases h
def small (b : Bt) : Bool := decide (b.list.length < 140737488355328)

theorem sameRows_len : ∀ {a b : List Int}, a.length ≠ b.length → sameRows a b = false
  | [], [], h => absurd rfl h
  | [], _ :: _, _ => rfl
  | _ :: _, [], _ => rfl
  | x :: a, y :: b, h => by
    simp only [sameRows, sameRows_len (a := a) (b := b) (by simpa using h), Bool.and_false]
theorem sameRows_iff : ∀ {a b : List Int}, sameRows a b = true ↔ a = b
  | [], [] => by simp [sameRows]
  | [], _ :: _ => by simp [sameRows]
  | _ :: _, [] => by simp [sameRows]
  | x :: a, y :: b => by simp [sameRows, sameRows_iff (a := a) (b := b)]

noncomputable def p14 : POrc Try.prog := (f14.pureIf dec2b (fun a => [a.1.av, a.2.av]) dec2b_enc (fun a => small a.1) (fun a => .bool (sameRows a.1.list a.2.list)) (fun a _ => ⟨rfl, fun _ _ => trivial⟩) fun a h => by
  obtain ⟨x, y⟩ := a
  refine ⟨x.list.length + 1, fun st => ?_⟩
  cases x with
  | nil =>
    cases y with
    | nil => exact same_nn 0 st
    | sl f bs =>
      show f14.run (0 + 1) [.nilsl, .sl 1 f (ri bs)] st = _
      rw [show 0 + 1 = Nat.succ 0 from rfl, same_ns]
      cases bs with
      | nil => rfl
      | cons b bs => rw [branch_of (by simp [ri, bne]; omega)]; rfl
  | sl f bs =>
    have hs : bs.length < 140737488355328 := of_decide_eq_true h
    cases y with
    | nil =>
      show f14.run (bs.length + 1) [.sl 1 f (ri bs), .nilsl] st = _
      rw [show bs.length + 1 = Nat.succ bs.length from rfl, same_sn]
      cases bs with
      | nil => rfl
      | cons b bs => rw [branch_of (by simp [ri, bne]; omega)]; rfl
    | sl f' cs =>
      show f14.run (bs.length + 1) [.sl 1 f (ri bs), .sl 1 f' (ri cs)] st = some (.ret (.bool (sameRows bs cs)), st)
      rw [same_run]
      by_cases hl : bs.length = cs.length
      · rw [branch_not (by simp [ri, hl])]
        have := same_loop (bs.length + 1) f f' st (Cont.block 0 (Cont.then (f14_r0.run (bs.length + 1) (f14.leaveK Fun.done)) (f14.leaveK Fun.done))) bs cs hl (by omega) bs.length 0 (bs.length + 1) (by omega) (by omega)
        simp only [ri]
        rw [show ((0 : Nat) : Int) = 0 from rfl] at this
        rw [this, same_out, same_ret]
        simp only [List.drop_zero]
        cases sameRows bs cs <;> rfl
      · rw [branch_of (by simp [ri, bne]; omega), sameRows_len hl]).fz

theorem small_sl {f : Bool} {bs : List Int} (h : small (.sl f bs) = true) : bs.length < 140737488355328 := of_decide_eq_true h
/-- What a copy is. -/
noncomputable def p25 : POrc Try.prog := (f25.pureIfX dec1b (fun a => [a.av]) dec1b_enc small (fun a => .sl 1 a.list.isEmpty (ri a.list)) (fun a n m => scoped_ints _ _ _ _) fun a h => ⟨1, fun st => by
  cases a with
  | nil => exact ⟨.sl 1 true [], [], [], rfl, by show f25.run 1 [.nilsl] st = _; rw [copy_nil]; simp⟩
  | sl f bs =>
    have hs := small_sl h
    cases bs with
    | nil => exact ⟨.sl 1 true [], [], [], rfl, by show f25.run 1 [.sl 1 f []] st = _; rw [copy_run]; simp⟩
    | cons b bs =>
      refine ⟨.lg st.tk.length 1 (ri (b :: bs)), [], [(1, (b :: bs).length)], rfl, ?_⟩
      show f25.run 1 [.sl 1 f ([.int .u8 b] :: ri bs)] st = _
      rw [copy_run, onCons_cons, if_pos (by simp only [List.length_cons, ri, List.length_map] at hs ⊢; omega), List.append_nil]
      simp [ri]⟩).fz
noncomputable def p32 : POrc Try.prog := (f32.pureIfX dec1b (fun a => [a.av]) dec1b_enc small (fun a => match a with | .nil => .nilsl | .sl _ bs => .sl 1 bs.isEmpty (ri bs)) (fun a n m => by cases a with | nil => trivial | sl f bs => exact scoped_ints _ _ _ _) fun a h => ⟨1, fun st => by
  cases a with
  | nil => exact ⟨.nilsl, [], [], rfl, by show f32.run 1 [.nilsl] st = _; rw [clone_nil]; simp⟩
  | sl f bs =>
    have hs := small_sl h
    cases bs with
    | nil => exact ⟨.sl 1 true [], [], [], rfl, by show f32.run 1 [.sl 1 f []] st = _; rw [clone_run]; simp⟩
    | cons b bs =>
      refine ⟨.lg st.tk.length 1 (ri (b :: bs)), [], [(1, (b :: bs).length)], rfl, ?_⟩
      show f32.run 1 [.sl 1 f ([.int .u8 b] :: ri bs)] st = _
      rw [clone_run, onCons_cons, if_pos (by simp only [List.length_cons, ri, List.length_map] at hs ⊢; omega), List.append_nil]
      simp [ri]⟩).fz
end Go.Proofs.Ytjdpfblmhahfkaa.V
