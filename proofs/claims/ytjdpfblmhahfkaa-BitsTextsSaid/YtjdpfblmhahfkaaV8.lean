/- Functions: a body's abstract run gives what a call comes to; callees. -/
import Derived.Test.YtjdpfblmhahfkaaV7
set_option linter.unusedVariables false
set_option linter.unusedSimpArgs false
namespace Go.V
section
variable {P : Program}

/-- How a call ends. -/
def FinRel (g : Gh) (w : World) (r : Fin) (e : Ending) : Prop :=
  match r with
  | .ret x => ∃ v, e = .returned v ∧ Rel g w x v
  | .pan x => ∃ v, e = .panicked [{ v, recovered := false }] ∧ Rel g w x v

/-- What a call of a function comes to. -/
def CallsTo (P : Program) (id : FuncId) (args : List AV) (st : St) (fin : Fin × St) : Prop :=
  ∀ g w vals, RelAll g w args vals.toList → StRel g st w →
    Calls P id vals w fun e w' => ∃ g', FinRel g' w' fin.1 e ∧ StRel g' fin.2 w' ∧ Ev g w g' w'

/-- A function that may be called: what it does with abstract values. -/
structure Orc (P : Program) where
  id : FuncId
  fn : Func
  hf : P.funcs[id]? = some fn
  hname : (fn.name == "runtime.NumGoroutine") = false
  hb : fn.body.isNone = false
  sem : List AV → St → (Fin → St → Ans) → Ans
  sound : ∀ k args st fin, sem args st k = some fin → ∀ g w vals, RelAll g w args vals.toList → StRel g st w →
    Calls P id vals w fun e w' => ∃ r st' g', k r st' = some fin ∧ FinRel g' w' r e ∧ StRel g' st' w' ∧ Ev g w g' w'

/-- A callee whose one answer is known ahead of what follows. -/
structure OrcS (P : Program) where
  id : FuncId
  fn : Func
  hf : P.funcs[id]? = some fn
  hname : (fn.name == "runtime.NumGoroutine") = false
  hb : fn.body.isNone = false
  sem : List AV → St → (Fin → St → Ans) → Ans
  sound : ∀ k args st fin, sem args st k = some fin → ∃ r st', k r st' = some fin ∧ CallsTo P id args st (r, st')

def OrcS.orc (O : OrcS P) : Orc P where
  id := O.id
  fn := O.fn
  hf := O.hf
  hname := O.hname
  hb := O.hb
  sem := O.sem
  sound k args st fin h g w vals hr hs := by
    obtain ⟨r, st', h1, h2⟩ := O.sound k args st fin h
    exact (h2 g w vals hr hs).mono fun e w' ⟨g', k1, k2, k3⟩ => ⟨r, st', g', h1, k1, k2, k3⟩

def rvRun (tmps : Array Value) (rv : ResultVar) : Sem Value :=
  match rv with
  | .tmp t => pure (tmps.getD t undef)
  | .cell p t => do loadVar t (← asAddr (tmps.getD p undef))

/-- How a function's result is told. -/
structure RSim (P : Program) where
  rv : ResultVar
  run : Env → St → (AV → Ans) → Ans
  sound : ∀ env st k fin, run env st k = some fin → ∀ g w a, EnvRel g w env a → StRel g st w → ∃ r v, k r = some fin ∧
    (rvRun a.tmps rv).run P w = .ok v w ∧ Rel g w r v

def rTmp (t : Tmp) : RSim P where
  rv := .tmp t
  run env st k := k (look env.m t)
  sound env st k fin h g w a he hs := ⟨_, _, h, rfl, he.slot t⟩

def rCell (p : Tmp) (T : TypeId) (d : TypeDesc) (hd : P.underlying T = some d) (sz : Nat) (hz : (P.info? T).map (·.size) = some sz) : RSim P where
  rv := .cell p T
  run env st k := aload (isAggD d) sz (look env.m p) st k
  sound env st k fin h g w a he hs := by
    obtain ⟨r, v, b, o, k1, hv, k2, k3⟩ := aload_ptr (P := P) hd hz hs (he.slot p) h
    exact ⟨r, v, k1, by simp [rvRun, hv, asAddr, k2], k3⟩

def resRun : List (RSim P) → Env → St → (List AV → Ans) → Ans
  | [], _, _, k => k []
  | r :: rs, env, st, k => r.run env st fun x => resRun rs env st fun xs => k (x :: xs)

def oneOf (xs : List AV) : AV :=
  match xs with
  | [x] => x
  | xs => .tup xs

theorem resRun_sound {g : Gh} {w : World} {env : Env} {st : St} {a : Act} (he : EnvRel g w env a) (hs : StRel g st w) {fin : Fin × St} : ∀ (rs : List (RSim P)) (k : List AV → Ans), resRun rs env st k = some fin →
    ∃ xs vs, k xs = some fin ∧ ((rs.map (·.rv)).mapM (m := Sem) (rvRun a.tmps)).run P w = .ok vs w ∧ RelAll g w xs vs
  | [], k, h => ⟨[], [], h, rfl, rfl⟩
  | r :: rs, k, h => by
    obtain ⟨x, v, h1, h2, h3⟩ := r.sound env st _ fin h g w a he hs
    obtain ⟨xs, vs, k1, k2, k3⟩ := resRun_sound he hs rs _ h1
    refine ⟨x :: xs, v :: vs, k1, ?_, v, vs, rfl, h3, k3⟩
    rw [List.map_cons, List.mapM_cons, Sem.run_bind]
    rw [h2, Result.andThen_ok, Sem.run_bind, k2]
    rfl

theorem results_run {fn : Func} {rs : List (RSim P)} (hres : fn.results = (rs.map (·.rv)).toArray) {w : World} {a : Act} {vs : List Value}
    (h : ((rs.map (·.rv)).mapM (m := Sem) (rvRun a.tmps)).run P w = .ok vs w) :
    (results fn a.tmps).run P w = .ok (if hh : vs.length = 1 then vs[0] else .tuple vs.toArray) w := by
  unfold results
  rw [hres, Sem.run_bind, Array.mapM_eq_mapM_toList, Sem.run_map]
  have e : (fun x : ResultVar => (match x with | .tmp t => pure (a.tmps.getD t undef) | .cell p t => do loadVar t (← asAddr (a.tmps.getD p undef)) : Sem Value)) = rvRun a.tmps := by
    funext x; cases x <;> rfl
  have e2 := h
  rw [← e] at e2
  have e3 := congrArg (fun r : Result (List Value) => (r.andThen fun a w' => Result.ok a.toArray w').andThen fun a w' => Sem.run P (pure (if h : a.size = 1 then a[0] else Value.tuple a)) w') e2
  refine Eq.trans ?_ (e3.trans (by simp))
  rfl

/-- A function with its body's pieces. -/
structure Fun (P : Program) where
  id : FuncId
  fn : Func
  hf : P.funcs[id]? = some fn
  hname : (fn.name == "runtime.NumGoroutine") = false
  body : Sim P
  hbody : fn.body = some body.code
  res : List (RSim P)
  hres : fn.results = (res.map (·.rv)).toArray
  n : Nat
  hn : fn.ntmps = n

def argEnv : Nat → List AV → List (Nat × AV)
  | _, [] => []
  | i, x :: r => (i, x) :: argEnv (i + 1) r

def Fun.leaveK (f : Fun P) (k : Fin → St → Ans) : Cont := fun x env st =>
  match x with
  | .normal => resRun f.res env st fun xs => k (.ret (oneOf xs)) st
  | .ret => resRun f.res env st fun xs => k (.ret (oneOf xs)) st
  | .panic v => k (.pan v) st
  | _ => none

/-- The abstract run of a call. -/
def Fun.runK (f : Fun P) (F : Nat) (args : List AV) (st : St) (k : Fin → St → Ans) : Ans :=
  match Nat.ble args.length f.n with
  | true => f.body.run F (f.leaveK k) ⟨f.n, argEnv 0 args⟩ st
  | false => none

def Fun.done : Fin → St → Ans := fun r st => some (r, st)

def Fun.run (f : Fun P) (F : Nat) (args : List AV) (st : St) : Ans := f.runK F args st Fun.done

theorem argEnv_rel {g : Gh} {w : World} : ∀ (args : List AV) (vals : List Value) (i : Nat) (pre rest : List Value), RelAll g w args vals → pre.length = i → ∀ t, Rel g w (look (argEnv i args) t) ((pre ++ vals ++ rest).toArray.getD t undef)
  | [], vals, i, pre, rest, h, hi, t => trivial
  | x :: args, vals, i, pre, rest, ⟨v, vr, e, hv, h⟩, hi, t => by
    subst e
    simp only [argEnv, look]
    cases ht : Nat.beq i t with
    | true =>
      have : i = t := by simpa using ht
      subst this
      simp only [Array.getD_eq_getD_getElem?, List.getElem?_toArray]
      rw [List.append_assoc, List.getElem?_append_right (by omega)]
      simpa [hi] using hv
    | false =>
      have := argEnv_rel args vr (i + 1) (pre ++ [v]) rest h (by simp [hi]) t
      simpa using this

theorem Fun.soundK (f : Fun P) {F : Nat} {args : List AV} {st : St} {k : Fin → St → Ans} {fin : Fin × St} (h : f.runK F args st k = some fin) : ∀ g w vals, RelAll g w args vals.toList → StRel g st w →
    Calls P f.id vals w fun e w' => ∃ r st' g', k r st' = some fin ∧ FinRel g' w' r e ∧ StRel g' st' w' ∧ Ev g w g' w' := by
  intro g w vals hr hs
  unfold Fun.runK at h
  split at h
  · rename_i hle
    have hle : args.length ≤ f.n := by simpa using hle
    have hal := RelAll.length _ _ hr
    have hal : args.length = vals.size := by simpa using hal
    have he : EnvRel g w ⟨f.n, argEnv 0 args⟩ ⟨vals ++ Array.replicate (f.fn.ntmps - vals.size) undef, []⟩ := by
      refine ⟨by simp [f.hn]; omega, fun t => ?_⟩
      have := argEnv_rel args vals.toList 0 [] (List.replicate (f.fn.ntmps - vals.size) undef) hr rfl t
      rw [show vals ++ Array.replicate (f.fn.ntmps - vals.size) undef = ([] ++ vals.toList ++ List.replicate (f.fn.ntmps - vals.size) undef).toArray by apply Array.ext'; simp]
      exact this
    refine calls_of_wp f.hf f.hbody (f.body.sound F _ _ st fin h g w _ he hs _ ?_)
    intro x env' st' g' w' a' e h1 h2 h3 h4 h5 h6
    have done : resRun f.res env' st' (fun xs => k (.ret (oneOf xs)) st') = some fin → a'.defers = [] ∧ ∃ v, (results f.fn a'.tmps).run P w' = .ok v w' ∧ ∃ r st'' g', k r st'' = some fin ∧ FinRel g' w' r (.returned v) ∧ StRel g' st'' w' ∧ Ev g w g' w' := by
      intro hr
      obtain ⟨xs, vs, k1, k2, k3⟩ := resRun_sound h2 h3 f.res _ hr
      refine ⟨h5, _, results_run f.hres k2, _, st', g', k1, ⟨_, rfl, ?_⟩, h3, h4⟩
      have hl := RelAll.length _ _ k3
      unfold oneOf
      split
      · obtain ⟨v, vr, rfl, hv, hvr⟩ := k3
        obtain rfl : vr = [] := hvr
        exact hv
      · rename_i hne
        have : ¬ vs.length = 1 := by
          intro hv
          rw [hv] at hl
          cases xs with
          | nil => simp at hl
          | cons x xs => cases xs with
            | nil => exact hne x rfl
            | cons y ys => simp at hl
        rw [dif_neg this]
        exact ⟨vs.toArray, rfl, by simpa using k3⟩
    cases x with
    | normal => obtain rfl := h6; exact done h1
    | ret => obtain rfl := h6; exact done h1
    | panic v =>
      obtain ⟨u, rfl, h7⟩ := h6
      exact ⟨h5, _, st', g', h1, ⟨u, rfl, h7⟩, h3, h4⟩
    | exit i => cases h1
    | goto l => cases h1
  · cases h

theorem Fun.sound (f : Fun P) {F : Nat} {args : List AV} {st : St} {fin : Fin × St} (h : f.run F args st = some fin) : CallsTo P f.id args st fin := by
  intro g w vals hr hs
  refine (f.soundK h g w vals hr hs).mono fun e w' ⟨r, st', g', h1, h2, h3, h4⟩ => ?_
  simp only [Fun.done, Option.some.injEq] at h1
  subst h1
  exact ⟨g', h2, h3, h4⟩

/-- A function as a callee: its abstract run goes on in the caller's. -/
def Fun.orc (f : Fun P) (F : Nat) : Orc P where
  id := f.id
  fn := f.fn
  hf := f.hf
  hname := f.hname
  hb := by rw [f.hbody]; rfl
  sem := f.runK F
  sound k args st fin h := f.soundK h

/-- A function as a callee: what its abstract run tells. -/
def Fun.orcS (f : Fun P) (F : Nat) : OrcS P where
  id := f.id
  fn := f.fn
  hf := f.hf
  hname := f.hname
  hb := by rw [f.hbody]; rfl
  sem args st k := match f.run F args st with
    | some (r, st') => k r st'
    | none => none
  sound k args st fin h := by
    split at h
    · rename_i r st' hr
      exact ⟨r, st', h, f.sound hr⟩
    · cases h

/-- A function as a callee, told by what has been shown of it. -/
def Fun.told (f : Fun P) (sem : List AV → St → Option (Fin × St)) (hs : ∀ args st fin, sem args st = some fin → CallsTo P f.id args st fin) : OrcS P where
  id := f.id
  fn := f.fn
  hf := f.hf
  hname := f.hname
  hb := by rw [f.hbody]; rfl
  sem args st k := match sem args st with
    | some (r, st') => k r st'
    | none => none
  sound k args st fin h := by
    split at h
    · rename_i r st' hr
      exact ⟨r, st', h, hs _ _ _ hr⟩
    · cases h

theorem run_callFunc {f : FuncId} {fn : Func} (hf : P.funcs[f]? = some fn) (hname : (fn.name == "runtime.NumGoroutine") = false) (hb : fn.body.isNone = false) (args : Array Value) (w : World) :
    (callFunc f args).run P w = .ok (.enter f args) w := by
  unfold callFunc
  simp only [Sem.run_bind, run_program, Result.andThen_ok, hf, hname, hb, Bool.false_eq_true, if_false]
  rfl

theorem Ending.cases_call {o : Oper} {a : Act} {next : Act → World → Prop} {Q : Exit → Act → World → Prop} {f : FuncId} {vals : Array Value} {w : World} {K : Cont} {fin : Fin × St} {g : Gh} {env : Env} (he : EnvRel g w env a) (hp : Post K fin g w a.defers (Exit.then next Q))
    (hc : Calls P f vals w fun e w' => ∃ r st' g', (match r with | .ret v => K .normal (env.putO o.dst v) st' | .pan v => K (.panic v) env st') = some fin ∧ FinRel g' w' r e ∧ StRel g' st' w' ∧ Ev g w g' w') : o.upon P a next Q (.ok (.enter f vals) w) := by
  rw [Oper.upon_enter]
  refine hc.mono fun e w' ⟨r, st', g', hk, h1, h2, h3⟩ => ?_
  cases r with
  | ret x =>
    obtain ⟨v, rfl, hv⟩ := h1
    exact hp .normal _ st' g' w' _ .normal hk ((he.mono h3).putO o.dst hv) h2 h3 (put_defers ..) rfl
  | pan x =>
    obtain ⟨v, rfl, hv⟩ := h1
    exact hp (.panic x) _ st' g' w' a _ hk (he.mono h3) h2 h3 rfl ⟨v, rfl, hv⟩

/-- What goes on behind a call. -/
def Cont.call (K : Cont) (env : Env) (dst : Option Tmp) : Fin → St → Ans := fun r st' =>
  match r with
  | .ret v => K .normal (env.putO dst v) st'
  | .pan v => K (.panic v) env st'

/-- A call of a function. -/
def opCall (O : Orc P) (dst : Option Tmp) (args : List Operand) (tys : Array TypeId) (ty : TypeId) (pos : String) (after : Array Edge) : OpSim P where
  oper := mkOp dst (.call { callee := .value (.func O.id), args := args.toArray, argTypes := tys }) ty pos after
  plain := rfl
  run K env st := O.sem (args.map env.eval) st (Cont.call K env dst)
  sound K env st fin h g w a he hs next Q hp := by
    have hO := O.sound _ _ _ _ h g w ((args.map a.eval).toArray) (by simpa using he.evals args) hs
    show (mkOp dst (.call { callee := .value (.func O.id), args := args.toArray, argTypes := tys }) ty pos after).upon P a next Q ((execOp a.eval _).run P w)
    have hrun : (execOp a.eval (mkOp dst (.call { callee := .value (.func O.id), args := args.toArray, argTypes := tys }) ty pos after)).run P w = .ok (.enter O.id (args.map a.eval).toArray) w := by
      simp only [execOp, mkOp, resolve, Act.eval, Deferred.ofValue]
      simp [invoke, run_callFunc O.hf O.hname O.hb, Act.eval]
    rw [hrun]
    exact Ending.cases_call he hp (hO.mono fun e w' ⟨r, st', g', h1, h2⟩ => ⟨r, st', g', by cases r <;> exact h1, h2⟩)

def findOrc (f : FuncId) : List (Orc P) → Option (Orc P)
  | [] => none
  | O :: r => match Nat.beq O.id f with
    | true => some O
    | false => findOrc f r

theorem findOrc_id {f : FuncId} : ∀ {l : List (Orc P)} {O : Orc P}, findOrc f l = some O → O.id = f
  | [], O, h => by cases h
  | x :: l, O, h => by
    simp only [findOrc] at h
    split at h
    · rename_i hx
      cases h
      simpa using hx
    · exact findOrc_id h

/-- A call of a function value. -/
def acall (Os : List (Orc P)) (c : AV) (args : List AV) (st : St) (k : Fin → St → Ans) : Ans :=
  match c with
  | .fn (.func f) first captured => match findOrc f Os with
    | some O => O.sem (first ++ args ++ captured) st k
    | none => none
  | _ => none

theorem RelAll.appendV {g : Gh} {w : World} {cs ds : List AV} {vs us : Array Value} (h : RelAll g w cs vs.toList) (k : RelAll g w ds us.toList) : RelAll g w (cs ++ ds) (vs ++ us).toList := by
  rw [Array.toList_append]; exact RelAll.append _ _ _ _ h k

def opCallDyn (Os : List (Orc P)) (dst : Option Tmp) (t : Tmp) (args : List Operand) (tys : Array TypeId) (ty : TypeId) (pos : String) (after : Array Edge) : OpSim P where
  oper := mkOp dst (.call { callee := .value (.tmp t), args := args.toArray, argTypes := tys }) ty pos after
  plain := rfl
  run K env st := acall Os (look env.m t) (args.map env.eval) st (Cont.call K env dst)
  sound K env st fin h g w a he hs next Q hp := by
    have hv := he.slot t
    unfold acall at h
    split at h
    · rename_i f first captured hb
      split at h
      · rename_i O hO
        have hid := findOrc_id hO
        have hS := O.sound _ _ _ _ h
        rw [hb] at hv
        obtain ⟨va, vc, hv, hva, hvc⟩ := hv
        have hev : a.eval (.tmp t) = .func (.func f) va vc := hv
        have hrun : (execOp a.eval (mkOp dst (.call { callee := .value (.tmp t), args := args.toArray, argTypes := tys }) ty pos after)).run P w = .ok (.enter f (va ++ (args.map a.eval).toArray ++ vc)) w := by
          simp only [execOp, mkOp, resolve, hev, Deferred.ofValue]
          subst hid
          simp [invoke, run_callFunc O.hf O.hname O.hb]
        show (mkOp dst (.call { callee := .value (.tmp t), args := args.toArray, argTypes := tys }) ty pos after).upon P a next Q ((execOp a.eval _).run P w)
        rw [hrun]
        subst hid
        exact Ending.cases_call he hp ((hS g w _ (RelAll.appendV (RelAll.appendV hva (by simpa using he.evals args)) hvc) hs).mono fun e w' ⟨r, st', g', h1, h2⟩ => ⟨r, st', g', by cases r <;> exact h1, h2⟩)
      · cases h
    · cases h

end
end Go.V
