/- From a law's abstract run to what its call comes to. -/
import Derived.Test.YtjdpfblmhahfkaaVB
set_option linter.unusedVariables false
namespace Go.V
open Go.RowKit
section
variable {P : Program}

/-- The picture at a law's start: nothing is known to be owned; all blocks stay. -/
def g0 : Gh := ⟨fun _ => .solid, [], []⟩

theorem StRel.zero (W : World) : StRel g0 ⟨[], []⟩ W :=
  ⟨rfl, rfl, fun k b o h => by simp [g0] at h, fun b k _ h => by simp [g0] at h, fun b t _ h => by simp [g0] at h⟩

theorem Ev.below {W W' : World} {g : Gh} (h : Ev g0 W g W') : Below W.heap.size W W' :=
  ⟨h.os, h.tape, h.output, h.size, fun k hk => (h.solid k hk rfl).2⟩

/-- A law's walk. -/
theorem Fun.walk (f : Fun P) {F : Nat} {args : List AV} {st : St} (h : f.run F args ⟨[], []⟩ = some (.ret (.bool true), st)) (W : World) (vals : Array Value) (hr : RelAll g0 W args vals.toList) :
    Calls P f.id vals W fun e W' => e = .returned (.bool true) ∧ Below W.heap.size W W' := by
  refine (f.sound h g0 W vals hr (StRel.zero W)).mono fun e w' ⟨g', h1, h2, h3⟩ => ?_
  obtain ⟨v, rfl, hv⟩ := h1
  exact ⟨by rw [show v = .bool true from hv], h3.below⟩
end
end Go.V
