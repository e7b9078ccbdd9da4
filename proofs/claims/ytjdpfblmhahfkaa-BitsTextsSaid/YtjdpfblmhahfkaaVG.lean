/- What goes on does not sway an operation's value: for the operations of regions whose order is open. -/
import Derived.Test.YtjdpfblmhahfkaaVD
set_option linter.unusedVariables false
set_option linter.unusedSimpArgs false
namespace Go.V
section
variable {P : Program}

theorem thenA_none (k : AV → Ans) : thenA none k = none := rfl
theorem thenA_ret (r : AV) (k : AV → Ans) : thenA (retA r) k = k r := rfl

theorem onInt_nat {x : AV} {s s' : IntKind → Int → Ans} {K : AV → Ans} (h : ∀ k n, s k n = thenA (s' k n) K) : onInt x s = thenA (onInt x s') K := by
  cases x <;> first | exact h _ _ | rfl
theorem onStr_nat {x : AV} {s s' : ByteArray → Ans} {K : AV → Ans} (h : ∀ b, s b = thenA (s' b) K) : onStr x s = thenA (onStr x s') K := by
  cases x <;> first | exact h _ | rfl
theorem aint_nat (op : BinOp) (kx : IntKind) (a : Int) (ky : IntKind) (b : Int) (k : AV → Ans) : aint op kx a ky b k = thenA (aint op kx a ky b retA) k := by
  cases op <;> simp only [aint] <;> (repeat' split) <;> rfl
theorem atext_nat (op : BinOp) (a b : ByteArray) (k : AV → Ans) : atext op a b k = thenA (atext op a b retA) k := by
  cases op <;> simp only [atext] <;> (repeat' split) <;> rfl
theorem opBin_nat {dst : Option Tmp} {op : BinOp} {T : TypeId} {x y : Operand} {T' ty : TypeId} {pos : String} {after : Array Edge} : (opBin (P := P) dst op T x y T' ty pos after).Nat :=
  fun ev k => onInt_nat fun _ _ => onInt_nat fun _ _ => aint_nat _ _ _ _ _ _
theorem opBinS_nat {dst : Option Tmp} {op : BinOp} {T : TypeId} {x y : Operand} {T' ty : TypeId} {pos : String} {after : Array Edge} : (opBinS (P := P) dst op T x y T' ty pos after).Nat :=
  fun ev k => onStr_nat fun _ => onStr_nat fun _ => atext_nat _ _ _ _

theorem apart_nat (ag : Bool) (sz : Nat) (cs : List AV) (k : AV → Ans) : apart ag sz cs k = thenA (apart ag sz cs retA) k := by
  cases ag with
  | true => simp only [apart]; cases takeN sz cs <;> rfl
  | false => cases cs <;> rfl
theorem aidx_nat (sz : Nat) (x i : AV) (k : AV → Ans) : aidx sz x i k = thenA (aidx sz x i retA) k := by
  cases i <;> try rfl
  cases x <;> try rfl
  · rename_i n s f l
    simp only [aidx]
    cases Nat.beq s sz <;> try rfl
    cases elemAt l n <;> rfl
  · rename_i n t s l
    simp only [aidx]
    cases Nat.beq s sz <;> try rfl
    cases elemAt l n <;> rfl
  · rename_i n j s o m c
    simp only [aidx]
    cases Nat.beq s sz <;> try rfl
    simp only
    split <;> rfl
theorem opIndexAddr_nat {dst : Option Tmp} {T : TypeId} {x i : Operand} {e sz : Nat} {hT : P.underlying T = some (.slice e)} {hz : (P.info? e).map (·.size) = some sz} {ty : TypeId} {pos : String} {after : Array Edge} : (opIndexAddr (P := P) dst T x i e sz hT hz ty pos after).Nat :=
  fun ev k => aidx_nat _ _ _ _
theorem aload_nat (ag : Bool) (sz : Nat) (p : AV) (st : St) (k : AV → Ans) : aload ag sz p st k = thenA (aload ag sz p st retA) k := by
  cases p <;> try rfl
  · rename_i j o
    simp only [aload]
    cases st.objs[j]? with
    | none => rfl
    | some ob => cases ob <;> first | exact apart_nat _ _ _ _ | rfl
  · exact apart_nat _ _ _ _
theorem opLoad_nat {dst : Option Tmp} {T : TypeId} {x : Operand} {d : TypeDesc} {hd : P.underlying T = some d} {sz : Nat} {hz : (P.info? T).map (·.size) = some sz} {ty : TypeId} {pos : String} {after : Array Edge} : (opLoad (P := P) dst T x d hd sz hz ty pos after).Nat :=
  fun ev st k => aload_nat _ _ _ _ _
theorem opLoadF_nat {dst : Option Tmp} {T : TypeId} {x : Operand} {d : TypeDesc} {hd : P.underlying T = some d} {sz : Nat} {hz : (P.info? T).map (·.size) = some sz} {ty : TypeId} {pos : String} {after : Array Edge} : (opLoadF (P := P) dst T x d hd sz hz ty pos after).Nat := by
  intro ev k
  show aloadF _ _ (ev x) k = thenA (aloadF _ _ (ev x) retA) k
  cases ev x <;> first | exact apart_nat _ _ _ _ | rfl
theorem astr_nat (x i : AV) (k : AV → Ans) : astr x i k = thenA (astr x i retA) k := by
  cases x <;> try rfl
  cases i <;> try rfl
  rename_i s kd j
  simp only [astr]
  cases (if 0 ≤ j then s[j.toNat]? else none) <;> rfl
theorem opIndexStr_nat {dst : Option Tmp} {T : TypeId} {x i : Operand} {hT : P.underlying T = some .string} {ty : TypeId} {pos : String} {after : Array Edge} : (opIndexStr (P := P) dst T x i hT ty pos after).Nat :=
  fun ev k => astr_nat _ _ _
theorem opField_nat {dst : Option Tmp} {T : TypeId} {x : Operand} {f off sz : Nat} {ag : Bool} {hf : fieldB P T f off sz ag = true} {ty : TypeId} {pos : String} {after : Array Edge} : (opField (P := P) dst T x f off sz ag hf ty pos after).Nat := by
  intro ev k
  show afield _ _ _ (ev x) k = thenA (afield _ _ _ (ev x) retA) k
  cases ev x <;> first | exact apart_nat _ _ _ _ | rfl
theorem opFieldAddr_nat {dst : Option Tmp} {T : TypeId} {x : Operand} {f off sz : Nat} {ag : Bool} {hf : fieldB P T f off sz ag = true} {h0 : sz ≠ 0} {ty : TypeId} {pos : String} {after : Array Edge} : (opFieldAddr (P := P) dst T x f off sz ag hf h0 ty pos after).Nat := by
  intro ev k
  show aoff off (ev x) k = thenA (aoff off (ev x) retA) k
  unfold aoff
  (repeat' split) <;> rfl
theorem aeqS_nat (l : List (Nat × Nat)) (x y : AV) (f : Bool → AV) (k : AV → Ans) : (aeqS l x y fun b => k (f b)) = thenA (aeqS l x y fun b => retA (f b)) k := by
  unfold aeqS
  (repeat' split) <;> rfl
theorem opEqS_nat {dst : Option Tmp} {T : TypeId} {l : List (Nat × Nat)} {ht : eqFlatB P T l = true} {x y : Operand} {T' ty : TypeId} {pos : String} {after : Array Edge} : (opEqS (P := P) dst T l ht x y T' ty pos after).Nat :=
  fun ev k => aeqS_nat _ _ _ (fun b => .bool b) _
theorem opNeS_nat {dst : Option Tmp} {T : TypeId} {l : List (Nat × Nat)} {ht : eqFlatB P T l = true} {x y : Operand} {T' ty : TypeId} {pos : String} {after : Array Edge} : (opNeS (P := P) dst T l ht x y T' ty pos after).Nat :=
  fun ev k => aeqS_nat _ _ _ (fun b => .bool !b) _
theorem opConvInt_nat {dst : Option Tmp} {S T : TypeId} {x : Operand} {d : TypeDesc} {hS : P.underlying S = some d} {kd : IntKind} {hT : P.underlying T = some (.int kd)} {ty : TypeId} {pos : String} {after : Array Edge} : (opConvInt (P := P) dst S T x d hS kd hT ty pos after).Nat := by
  intro ev k
  show aconv kd (ev x) k = thenA (aconv kd (ev x) retA) k
  unfold aconv
  (repeat' split) <;> rfl
end
end Go.V
