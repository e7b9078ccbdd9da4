/- Bits: texts as bytes. -/
import Derived.Test.YtjdpfblmhahfkaaBA
set_option linter.unusedVariables false
namespace Go.Proofs.Ytjdpfblmhahfkaa.V
open Go Go.V Go.RowKit

def dec1s : List AV → Option ByteArray
  | [.str s] => some s
  | _ => none
theorem dec1s_enc (l : List AV) (a : ByteArray) (h : dec1s l = some a) : l = [.str a] := by
  unfold dec1s at h; split at h <;> first | (cases h; rfl) | cases h
/-- A text's own bytes. -/
def own (s : ByteArray) : List Nat := s.data.toList.map UInt8.toNat
/-- A text as bytes. -/
def textBytes (s : ByteArray) : List Nat := intBytes s.size ++ own s
theorem rows_own (s : ByteArray) : rowsOfStr s = rb (own s) := by simp [rowsOfStr, rb, own]
theorem rows_own' (s : ByteArray) : List.map (fun (c : UInt8) => [AV.int IntKind.u8 (c.toNat : Int)]) s.data.toList = rb (own s) := rows_own s
theorem own_length (s : ByteArray) : (own s).length = s.size := by simp [own]
theorem intBytes_length (n : Int) : (intBytes n).length ≤ 10 := encN_len 9 _
def shortS (s : ByteArray) : Bool := decide (s.size < 140737488355300)

theorem f16_spec (s : ByteArray) (h : shortS s = true) (st : St) : f16.run 0 [.str s] st = some (.ret (.lg st.tk.length 1 (rb (textBytes s))), ⟨st.objs, st.tk ++ [(1, (textBytes s).length)]⟩) := by
  have hs : s.size < 140737488355300 := of_decide_eq_true h
  have hl := intBytes_length s.size
  rw [text_run, branch_of (by simp [i64B]; omega), rows_own', if_pos ⟨by rw [rb_length]; exact tk_at _ _, by rw [rb_length, rb_length, own_length]; omega⟩]
  simp only [tk_set, rb_length, textBytes, rb_append, List.length_append]
theorem f19_spec (s : ByteArray) (h : shortS s = true) (st : St) : f19.run 0 [.str s] st = some (.ret (.lg st.tk.length 1 (rb (textBytes s))), ⟨st.objs, st.tk ++ [(1, (textBytes s).length)]⟩) := by
  have hs : s.size < 140737488355300 := of_decide_eq_true h
  have hl := intBytes_length s.size
  rw [rtext_run, branch_of (by simp [i64B]; omega), rows_own, if_pos ⟨by rw [rb_length]; exact tk_at _ _, by rw [rb_length, rb_length, own_length]; omega⟩]
  simp only [tk_set, rb_length, textBytes, rb_append, List.length_append]
noncomputable def q16 : OrcS Try.prog := f16.effIf dec1s (fun s => [.str s]) dec1s_enc (fun s _ => shortS s) (fun s st => (.lg st.tk.length 1 (rb (textBytes s)), ⟨st.objs, st.tk ++ [(1, (textBytes s).length)]⟩)) fun s st h => ⟨0, f16_spec s h st⟩
noncomputable def q19 : OrcS Try.prog := f19.effIf dec1s (fun s => [.str s]) dec1s_enc (fun s _ => shortS s) (fun s st => (.lg st.tk.length 1 (rb (textBytes s)), ⟨st.objs, st.tk ++ [(1, (textBytes s).length)]⟩)) fun s st h => ⟨0, f19_spec s h st⟩
end Go.Proofs.Ytjdpfblmhahfkaa.V
