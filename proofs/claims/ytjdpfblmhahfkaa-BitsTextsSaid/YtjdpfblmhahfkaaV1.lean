/- Verified pieces of code: each bears its code, an abstract run (continuations), and the proof that where the abstract run comes to an end the code does, too. -/
import Derived.Test.YtjdpfblmhahfkaaV0
set_option linter.unusedVariables false
set_option linter.unusedSimpArgs false
namespace Go.V

/-- An operation. -/
structure OpSim (P : Program) where
  oper : Oper
  plain : oper.guard = none
  run : Cont → Env → St → Ans
  sound : ∀ K env st fin, run K env st = some fin → ∀ g w a, EnvRel g w env a → StRel g st w → ∀ next Q, Post K fin g w a.defers (Exit.then next Q) →
    oper.wp P a w next Q

/-- Code. -/
structure Sim (P : Program) where
  code : Code
  run : Nat → Cont → Env → St → Ans
  sound : ∀ F K env st fin, run F K env st = some fin → ∀ g w a, EnvRel g w env a → StRel g st w → ∀ Q, Post K fin g w a.defers Q → code.wp P Q a w

section
variable {P : Program}

def Sim.skip : Sim P where
  code := .skip
  run F K env st := K .normal env st
  sound F K env st fin h g w a he hs Q hp := wp_skip (hp .normal env st g w a .normal h he hs (Ev.refl g w) rfl rfl)

def Sim.ret : Sim P where
  code := .ret
  run F K env st := K .ret env st
  sound F K env st fin h g w a he hs Q hp := wp_ret (hp .ret env st g w a .ret h he hs (Ev.refl g w) rfl rfl)

def Sim.exit (id : Nat) : Sim P where
  code := .exit id
  run F K env st := K (.exit id) env st
  sound F K env st fin h g w a he hs Q hp := wp_exit (hp (.exit id) env st g w a (.exit id) h he hs (Ev.refl g w) rfl rfl)

/-- What goes on behind a piece. -/
def Cont.then (k : Env → St → Ans) (K : Cont) : Cont := fun x env st =>
  match x with
  | .normal => k env st
  | x => K x env st

def Sim.seq (x y : Sim P) : Sim P where
  code := .seq x.code y.code
  run F K env st := x.run F (Cont.then (y.run F K) K) env st
  sound F K env st fin h g w a he hs Q hp := by
    refine wp_seq (x.sound F _ env st fin h g w a he hs _ ?_)
    intro ex env' st' g' w' a' e h1 h2 h3 h4 h5 h6
    cases ex with
    | normal =>
      obtain rfl := h6
      exact y.sound F K env' st' fin h1 g' w' a' h2 h3 Q (h5 ▸ hp.later h4)
    | exit id => obtain rfl := h6; exact hp _ _ _ _ _ _ _ h1 h2 h3 h4 h5 rfl
    | goto id => obtain rfl := h6; exact hp _ _ _ _ _ _ _ h1 h2 h3 h4 h5 rfl
    | ret => obtain rfl := h6; exact hp _ _ _ _ _ _ _ h1 h2 h3 h4 h5 rfl
    | panic v => obtain ⟨u, rfl, h7⟩ := h6; exact hp _ _ _ _ _ _ _ h1 h2 h3 h4 h5 ⟨u, rfl, h7⟩

/-- A test's slot, once it is known. -/
def Env.assume (e : Env) (c : Operand) (b : Bool) : Env :=
  match c with
  | .tmp t => e.put t (.bool b)
  | _ => e

theorem put_same {a : Act} {t : Nat} {v : Value} (h : a.tmps.getD t undef = v) : a.put (some t) v = a := by
  unfold Act.put
  have : a.tmps.setIfInBounds t v = a.tmps := by
    apply Array.ext
    · simp
    · intro i h1 h2
      rw [Array.getElem_setIfInBounds]
      split
      · rename_i e
        subst e
        rw [← h, Array.getD_eq_getD_getElem?, Array.getElem?_eq_getElem h2]
        rfl
      · rfl
  simp only [this]

theorem EnvRel.assume {g : Gh} {w : World} {e : Env} {a : Act} (h : EnvRel g w e a) {c : Operand} {b : Bool} (hc : a.eval c = .bool b) : EnvRel g w (e.assume c b) a := by
  cases c with
  | tmp t =>
    have := h.put t (x := .bool b) (v := .bool b) rfl
    rw [put_same (show a.tmps.getD t undef = .bool b from hc)] at this
    exact this
  | const v => exact h
  | func f => exact h
  | global g => exact h

/-- A test decided. -/
def branch (c : AV) (y n : Ans) : Ans :=
  match c with
  | .bool true => y
  | .bool false => n
  | _ => none

def Sim.cond (c : Operand) (x y : Sim P) : Sim P where
  code := .cond c x.code y.code
  run F K env st := branch (env.eval c) (x.run F K (env.assume c true) st) (y.run F K (env.assume c false) st)
  sound F K env st fin h g w a he hs Q hp := by
    have hv := he.eval c
    unfold branch at h
    split at h
    · rename_i hc
      rw [hc] at hv
      exact wp_cond_true hv (x.sound F K _ st fin h g w a (he.assume hv) hs Q hp)
    · rename_i hc
      rw [hc] at hv
      exact wp_cond_false hv (y.sound F K _ st fin h g w a (he.assume hv) hs Q hp)
    · cases h

/-- What an exit from a block comes to. -/
def Cont.block (id : Nat) (K : Cont) : Cont := fun x env st =>
  match x with
  | .exit j => match Nat.beq j id with
    | true => K .normal env st
    | false => K (.exit j) env st
  | x => K x env st

def Sim.block (id : Nat) (x : Sim P) : Sim P where
  code := .block id x.code
  run F K env st := x.run F (Cont.block id K) env st
  sound F K env st fin h g w a he hs Q hp := by
    refine wp_block (x.sound F _ env st fin h g w a he hs _ ?_)
    intro ex env' st' g' w' a' e h1 h2 h3 h4 h5 h6
    cases ex with
    | normal => obtain rfl := h6; exact hp _ _ _ _ _ _ _ h1 h2 h3 h4 h5 rfl
    | exit j =>
      obtain rfl := h6
      simp only [Cont.block] at h1
      simp only [Exit.inBlock]
      cases hj : Nat.beq j id with
      | true =>
        have : j = id := by simpa using hj
        rw [hj] at h1
        rw [if_pos this]
        exact hp _ _ _ _ _ _ _ h1 h2 h3 h4 h5 rfl
      | false =>
        have : j ≠ id := by intro e; subst e; simp at hj
        rw [hj] at h1
        rw [if_neg this]
        exact hp _ _ _ _ _ _ _ h1 h2 h3 h4 h5 rfl
    | goto id => obtain rfl := h6; exact hp _ _ _ _ _ _ _ h1 h2 h3 h4 h5 rfl
    | ret => obtain rfl := h6; exact hp _ _ _ _ _ _ _ h1 h2 h3 h4 h5 rfl
    | panic v => obtain ⟨u, rfl, h7⟩ := h6; exact hp _ _ _ _ _ _ _ h1 h2 h3 h4 h5 ⟨u, rfl, h7⟩

/-- Slots that aren't wanted any more are forgotten. -/
def Cont.norm (l : List Nat) (K : Cont) : Cont := fun x env st => K x (env.norm l) st

theorem Post.norm {K : Cont} {fin : Fin × St} {g : Gh} {w : World} {d : List Deferred} {Q : Exit → Act → World → Prop} (l : List Nat) (h : Post K fin g w d Q) : Post (Cont.norm l K) fin g w d Q :=
  fun x env' st' g' w' a' e h1 h2 h3 h4 h5 h6 => h x _ st' g' w' a' e h1 (h2.norm l) h3 h4 h5 h6

/-- The slots that live behind a piece. -/
def Sim.live (l : List Nat) (x : Sim P) : Sim P where
  code := x.code
  run F K env st := x.run F (Cont.norm l K) env st
  sound F K env st fin h g w a he hs Q hp := x.sound F _ env st fin h g w a he hs Q (hp.norm l)

/-- A loop's rounds. -/
noncomputable def loopRun (body : Cont → Env → St → Ans) (l : List Nat) (K : Cont) (n : Nat) : Env → St → Ans :=
  Nat.rec (motive := fun _ => Env → St → Ans) (fun _ _ => none) (fun _ ih env st => body (Cont.then (fun e s => ih (e.norm l) s) K) env st) n

/-- A loop; l: the slots that live at its head. -/
noncomputable def Sim.loop (l : List Nat) (x : Sim P) : Sim P where
  code := .loop x.code
  run F K env st := loopRun (x.run F) l K F (env.norm l) st
  sound F K env st fin h g w a he hs Q hp := by
    refine wp_loop_ghost (fun n a' w' => ∃ env' st' g', loopRun (x.run F) l K n env' st' = some fin ∧ EnvRel g' w' env' a' ∧ StRel g' st' w' ∧ Ev g w g' w' ∧ a'.defers = a.defers) F
      ⟨_, st, g, h, he.norm l, hs, Ev.refl g w, rfl⟩ ?_
    intro n a1 w1 hI
    obtain ⟨env1, st1, g1, h1, h2, h3, h4, h5⟩ := hI
    cases n with
    | zero => cases h1
    | succ n =>
      refine x.sound F _ env1 st1 fin h1 g1 w1 a1 h2 h3 _ ?_
      intro ex env' st' g' w' a' e k1 k2 k3 k4 k5 k6
      cases ex with
      | normal =>
        obtain rfl := k6
        exact ⟨n, Nat.lt_succ_self n, _, st', g', k1, k2.norm l, k3, h4.trans k4, k5.trans h5⟩
      | exit id => obtain rfl := k6; exact hp _ _ _ _ _ _ _ k1 k2 k3 (h4.trans k4) (k5.trans h5) rfl
      | goto id => obtain rfl := k6; exact hp _ _ _ _ _ _ _ k1 k2 k3 (h4.trans k4) (k5.trans h5) rfl
      | ret => obtain rfl := k6; exact hp _ _ _ _ _ _ _ k1 k2 k3 (h4.trans k4) (k5.trans h5) rfl
      | panic v => obtain ⟨u, rfl, k7⟩ := k6; exact hp _ _ _ _ _ _ _ k1 k2 k3 (h4.trans k4) (k5.trans h5) ⟨u, rfl, k7⟩

/-- An operation in a region, with its guard: the operation that it hangs on, that one's slot, what is wanted. -/
structure ROp (P : Program) where
  o : OpSim P
  grd : Option (Nat × Nat × Bool)

def ROp.oper (r : ROp P) : Oper := { r.o.oper with guard := r.grd.map fun x => (x.1, x.2.2) }

/-- An operation whose guard has said no. -/
def Env.off (e : Env) (d : Option Tmp) : Env :=
  match d with
  | some d => e.put d (.tup [])
  | none => e

/-- A guard decided; o: the operation that it hangs on was itself left out. -/
def gate (c : AV) (b : Bool) (y n o : Ans) : Ans :=
  match c with
  | .bool c => match b with
    | true => branch (.bool c) y n
    | false => branch (.bool c) n y
  | .tup [] => o
  | _ => none

def runOps : List (ROp P) → Cont → Env → St → Ans
  | [], K, env, st => K .normal env st
  | r :: rest, K, env, st =>
    match r.grd with
    | none => r.o.run (Cont.then (runOps rest K) K) env st
    | some (_, d, b) => gate (look env.m d) b (r.o.run (Cont.then (runOps rest K) K) (env.put d (.bool b)) st) (runOps rest K ((env.put d (.bool !b)).off r.o.oper.dst) st) (runOps rest K (env.off r.o.oper.dst) st)

/-- Each guard's slot is that of the operation that it names. -/
def okGuards (ops : List (ROp P)) : Bool :=
  ops.all fun r => match r.grd with
    | none => true
    | some (j, d, _) => match (ops[j]?).bind (·.oper.dst) with
      | some d' => Nat.beq d' d
      | none => false

theorem EnvRel.off {g : Gh} {w : World} {e : Env} {a : Act} (h : EnvRel g w e a) (d : Option Tmp) : EnvRel g w (e.off d) (a.put d undef) := by
  cases d with
  | none => exact h
  | some d => exact h.put d (x := .tup []) (v := undef) ⟨#[], rfl, rfl⟩

theorem Oper.wp_guard {o : Oper} {x : Option (Nat × Bool)} {a : Act} {w : World} {next : Act → World → Prop} {Q : Exit → Act → World → Prop} (h : o.wp P a w next Q) : Oper.wp P { o with guard := x } a w next Q := h

theorem then_then {next : Act → World → Prop} {Q : Exit → Act → World → Prop} {e : Exit} {a : Act} {w : World} (h : e ≠ .normal) : Exit.then next Q e a w = Q e a w := by
  cases e <;> first | rfl | exact absurd rfl h

theorem getD_of_yield {tmps : Array Value} {d : Nat} {b : Bool} (h : tmps.getD d undef = .bool b) : tmps[d]? = some (.bool b) := by
  rw [Array.getD_eq_getD_getElem?] at h
  cases hx : tmps[d]? with
  | none => rw [hx] at h; exact absurd h (by simp [undef])
  | some v => rw [hx] at h; rw [← h]; rfl

theorem runOps_sound (whole : List (ROp P)) (hw : okGuards whole = true) : ∀ (l : List (ROp P)), (∀ r ∈ l, r ∈ whole) → ∀ K env st fin, runOps l K env st = some fin → ∀ g w a, EnvRel g w env a → StRel g st w → ∀ Q, Post K fin g w a.defers Q →
    wpList P (whole.map ROp.oper).toArray Q (l.map ROp.oper) a w
  | [], _, K, env, st, fin, h, g, w, a, he, hs, Q, hp => hp .normal env st g w a .normal h he hs (Ev.refl g w) rfl rfl
  | r :: l, hm, K, env, st, fin, h, g, w, a, he, hs, Q, hp => by
    have ih := runOps_sound whole hw l (fun x hx => hm x (List.mem_cons_of_mem _ hx))
    have step : ∀ env1, EnvRel g w env1 a → r.o.run (Cont.then (runOps l K) K) env1 st = some fin → r.oper.wp P a w (wpList P (whole.map ROp.oper).toArray Q (l.map ROp.oper)) Q := by
      intro env1 he1 h1
      refine Oper.wp_guard (r.o.sound _ env1 st fin h1 g w a he1 hs _ _ ?_)
      intro ex env' st' g' w' a' e k1 k2 k3 k4 k5 k6
      cases ex with
      | normal =>
        obtain rfl := k6
        exact ih K env' st' fin k1 g' w' a' k2 k3 Q (k5 ▸ hp.later k4)
      | exit id => obtain rfl := k6; exact hp _ _ _ _ _ _ _ k1 k2 k3 k4 k5 rfl
      | goto id => obtain rfl := k6; exact hp _ _ _ _ _ _ _ k1 k2 k3 k4 k5 rfl
      | ret => obtain rfl := k6; exact hp _ _ _ _ _ _ _ k1 k2 k3 k4 k5 rfl
      | panic v => obtain ⟨u, rfl, k7⟩ := k6; exact hp _ _ _ _ _ _ _ k1 k2 k3 k4 k5 ⟨u, rfl, k7⟩
    simp only [runOps] at h
    simp only [List.map_cons]
    unfold wpList
    cases hg : r.grd with
    | none =>
      rw [hg] at h
      rw [if_pos (by simp [Region.wanted, ROp.oper, hg])]
      exact .inl (step env he h)
    | some x =>
      obtain ⟨j, d, b⟩ := x
      rw [hg] at h
      have hok := List.all_eq_true.mp hw r (hm r (List.mem_cons_self))
      simp only [hg] at hok
      have hd : ((whole.map ROp.oper)[j]?).bind (·.dst) = some d := by
        rw [List.getElem?_map]
        cases hj : whole[j]? with
        | none => rw [hj] at hok; simp at hok
        | some y =>
          rw [hj] at hok
          simp only [Option.bind_some, Option.map_some] at hok ⊢
          cases hy : y.oper.dst with
          | none => rw [hy] at hok; simp at hok
          | some d' => rw [hy] at hok; have : d' = d := by simpa using hok
                       rw [this]
      have key : ∀ c : Bool, a.tmps.getD d undef = .bool c → Region.wanted r.oper (yielded (whole.map ROp.oper).toArray a.tmps) = (c == b) := by
        intro c hc
        simp only [Region.wanted, ROp.oper, hg, Option.map_some]
        unfold yielded
        rw [List.getElem?_toArray, hd, Option.bind_some, getD_of_yield hc]
        cases c <;> cases b <;> rfl
      have hv := he.slot d
      have yes : look env.m d = .bool b → r.o.run (Cont.then (runOps l K) K) (env.put d (.bool b)) st = some fin → (if Region.wanted r.oper (yielded (whole.map ROp.oper).toArray a.tmps) = true then r.oper.wp P a w (wpList P (whole.map ROp.oper).toArray Q (l.map ROp.oper)) Q ∨ (r.oper.asks P a w ∧ LetsOut Q) else wpList P (whole.map ROp.oper).toArray Q (l.map ROp.oper) (a.put r.oper.dst undef) w) := by
        intro hl hr
        rw [hl] at hv
        rw [if_pos (by rw [key b hv]; simp)]
        exact .inl (step _ (he.assume (c := .tmp d) hv) hr)
      have no : look env.m d = .bool (!b) → runOps l K ((env.put d (.bool !b)).off r.o.oper.dst) st = some fin → (if Region.wanted r.oper (yielded (whole.map ROp.oper).toArray a.tmps) = true then r.oper.wp P a w (wpList P (whole.map ROp.oper).toArray Q (l.map ROp.oper)) Q ∨ (r.oper.asks P a w ∧ LetsOut Q) else wpList P (whole.map ROp.oper).toArray Q (l.map ROp.oper) (a.put r.oper.dst undef) w) := by
        intro hl hr
        rw [hl] at hv
        rw [if_neg (by rw [key _ hv]; cases b <;> simp)]
        refine ih K _ st fin hr g w _ ((he.assume (c := .tmp d) hv).off r.o.oper.dst) hs Q ?_
        have hdf : (a.put r.oper.dst undef).defers = a.defers := by unfold Act.put; split <;> rfl
        exact (show Post K fin g w (a.put r.oper.dst undef).defers Q by rw [hdf]; exact hp)
      have out : look env.m d = .tup [] → runOps l K (env.off r.o.oper.dst) st = some fin → (if Region.wanted r.oper (yielded (whole.map ROp.oper).toArray a.tmps) = true then r.oper.wp P a w (wpList P (whole.map ROp.oper).toArray Q (l.map ROp.oper)) Q ∨ (r.oper.asks P a w ∧ LetsOut Q) else wpList P (whole.map ROp.oper).toArray Q (l.map ROp.oper) (a.put r.oper.dst undef) w) := by
        intro hl hr
        rw [hl] at hv
        obtain ⟨vs, hvs, hv0⟩ := hv
        have hw0 : Region.wanted r.oper (yielded (whole.map ROp.oper).toArray a.tmps) = false := by
          simp only [Region.wanted, ROp.oper, hg, Option.map_some]
          unfold yielded
          rw [List.getElem?_toArray, hd, Option.bind_some]
          rw [Array.getD_eq_getD_getElem?] at hvs
          cases hx : a.tmps[d]? with
          | none => cases b <;> rfl
          | some u => rw [hx] at hvs; simp only [Option.getD_some] at hvs; subst hvs; cases b <;> rfl
        rw [if_neg (by rw [hw0]; simp)]
        refine ih K _ st fin hr g w _ (he.off r.o.oper.dst) hs Q ?_
        have hdf : (a.put r.oper.dst undef).defers = a.defers := by unfold Act.put; split <;> rfl
        exact (show Post K fin g w (a.put r.oper.dst undef).defers Q by rw [hdf]; exact hp)
      simp only at h
      unfold gate at h
      split at h
      · rename_i c hc
        cases b with
        | true =>
          cases c with
          | true => exact yes hc h
          | false => exact no hc h
        | false =>
          cases c with
          | true => exact no hc h
          | false => exact yes hc h
      · rename_i hc; exact out hc h
      · cases h

/-- A region in the text's order. -/
def Sim.region (id : Nat) (ops : List (ROp P)) (h : okGuards ops = true) : Sim P where
  code := .region id (ops.map ROp.oper).toArray false
  run F K env st := runOps ops K env st
  sound F K env st fin hr g w a he hs Q hp := by
    refine wp_region_list ?_
    have := runOps_sound ops h ops (fun _ hx => hx) K env st fin hr g w a he hs Q hp
    simpa using this
end
end Go.V
