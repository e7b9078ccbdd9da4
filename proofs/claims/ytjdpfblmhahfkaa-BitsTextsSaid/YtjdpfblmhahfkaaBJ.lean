/- Bits: the callees again, read no deeper than they must. -/
import Derived.Test.YtjdpfblmhahfkaaB8
import Derived.Test.YtjdpfblmhahfkaaVJ
set_option linter.unusedVariables false
namespace Go.Proofs.Ytjdpfblmhahfkaa.V
open Go Go.V Go.RowKit
def iR (l : List (List AV)) : List Int := (nR l).map fun (b : Nat) => (b : Int)
def Br.bt : Br → Bt
  | .nil => .nil
  | .sl f l => .sl f (iR l)
theorem okR_ri {l : List (List AV)} (h : okR l = true) : l = ri (iR l) := by
  conv => lhs; rw [okR_rows h]
  simp [bR, ri, iR]
theorem Br.bt_av {b : Br} (h : okR b.list = true) : b.av = (Br.bt b).av := by
  cases b with
  | nil => rfl
  | sl f l => show AV.sl 1 f l = AV.sl 1 f (ri (iR l)); rw [← okR_ri (l := l) h]
theorem Br.bt_list (b : Br) : (Br.bt b).list = iR b.list := by cases b <;> rfl
theorem iR_length (l : List (List AV)) : (iR l).length = l.length := by simp [iR, nR]
theorem iR_ok {l : List (List AV)} (h : okR l = true) : okB (iR l) = true := by
  simp only [okB, iR, List.all_map, List.all_eq_true]
  intro b hb
  have := okR_lt h hb
  simp; omega
/-- Fit to be handed to a callee. -/
def fit (b : Br) : Bool := okR b.list && decide (b.list.length < 140737488355328)
theorem fit_spec {b : Br} (h : fit b = true) : okR b.list = true ∧ b.list.length < 140737488355328 := by
  simpa [fit] using h
theorem fit_small {b : Br} (h : fit b = true) : small (Br.bt b) = true := by
  simp only [small, Br.bt_list, iR_length, decide_eq_true_eq]; exact (fit_spec h).2

noncomputable def r14 : POrc Try.prog := p14.re byt2 (fun a => fit a.1 && okR a.2.list) (fun a => .bool (sameRows (iR a.1.list) (iR a.2.list))) fun args a h hp k => by
  simp only [Bool.and_eq_true] at hp
  unfold p14
  refine Eq.trans (pureIf_fz (a := (Br.bt a.1, Br.bt a.2)) (by rw [byt2_of h, Br.bt_av (fit_spec hp.1).1, Br.bt_av hp.2]; simp only [dec2b, decBt_of]) (fit_small hp.1) k) ?_
  simp only [Br.bt_list]
noncomputable def r25 : POrc Try.prog := p25.re byt1 fit (fun a => .sl 1 a.list.isEmpty a.list) fun args a h hp k => by
  unfold p25
  refine Eq.trans (pureIfX_fz (a := Br.bt a) (by rw [byt1_of h, Br.bt_av (fit_spec hp).1]; simp only [dec1b, decBt_of]) (fit_small hp) k) ?_
  simp only [Br.bt_list]
  rw [← okR_ri (fit_spec hp).1, show (iR a.list).isEmpty = a.list.isEmpty by simp [iR, nR]]
noncomputable def r32 : POrc Try.prog := p32.re byt1 fit (fun a => match a with | .nil => .nilsl | .sl _ l => .sl 1 l.isEmpty l) fun args a h hp k => by
  unfold p32
  refine Eq.trans (pureIfX_fz (a := Br.bt a) (by rw [byt1_of h, Br.bt_av (fit_spec hp).1]; simp only [dec1b, decBt_of]) (fit_small hp) k) ?_
  cases a with
  | nil => rfl
  | sl f l =>
    simp only [Br.bt]
    rw [← okR_ri (l := l) (fit_spec hp).1, show (iR l).isEmpty = l.isEmpty by simp [iR, nR]]
/-- The number that bytes begin with, without its sign, and its length; 0: none. -/
def digR (l : List (List AV)) : Nat × Nat := digB (iR l)
noncomputable def r33 : POrc Try.prog := p33.re byt1 fit (fun a => .tup [.int .u64 ((digR a.list).1 : Int), .int .i64 ((digR a.list).2 : Int)]) fun args a h hp k => by
  unfold p33
  refine Eq.trans (pureIf_fz (a := Br.bt a) (by rw [byt1_of h, Br.bt_av (fit_spec hp).1]; simp only [dec1b, decBt_of]) (by rw [fit_small hp, Br.bt_list, iR_ok (fit_spec hp).1]; rfl) k) ?_
  simp only [Br.bt_list, digR]
end Go.Proofs.Ytjdpfblmhahfkaa.V
