/-
  The evaluator's runs of code are runs of the machine.
-/
import Derived.Test.YtkdjecbkgmkngaaGreatDoorAxB
import Derived.Recover
import Derived.RangeFuncIn
import Derived.RangeFuncLeaves
import Derived.RangeFuncRecord
set_option linter.unusedSectionVars false
set_option linter.unusedSimpArgs false
set_option linter.unusedVariables false
/- Code, calls, deferred calls: what the evaluator says of them, the machine does. -/
namespace Go.AX

/-! ### the relation of states -/
inductive DRL (μ : Mu) : List Deferred → List Deferred → Prop
  | nil : DRL μ [] []
  | cons {d d' : Deferred} {l l' : List Deferred} (h : DR μ d d') (t : DRL μ l l') : DRL μ (d :: l) (d' :: l')

theorem DRL.mono {μ μ' : Mu} (hm : μ.le μ') {l l' : List Deferred} (h : DRL μ l l') : DRL μ' l l' := by
  induction h with
  | nil => exact .nil
  | cons h _ ih => exact .cons (h.mono hm) ih

inductive ChR (μ : Mu) : List PanicEntry → List PanicEntry → Prop
  | nil : ChR μ [] []
  | cons {v v' : Value} {r : Bool} {l l' : List PanicEntry} (h : VR μ v v') (t : ChR μ l l') : ChR μ ({ v, recovered := r } :: l) ({ v := v', recovered := r } :: l')

theorem ChR.mono {μ μ' : Mu} (hm : μ.le μ') {l l' : List PanicEntry} (h : ChR μ l l') : ChR μ' l l' := by
  induction h with
  | nil => exact .nil
  | cons h _ ih => exact .cons (h.mono hm) ih

theorem ChR.append {μ : Mu} {a a' b b' : List PanicEntry} (h : ChR μ a a') (k : ChR μ b b') : ChR μ (a ++ b) (a' ++ b') := by
  induction h with
  | nil => exact k
  | cons h _ ih => exact .cons h ih

inductive MR (μ : Mu) : FrameMode → FrameMode → Prop
  | run : MR μ .run .run
  | returning : MR μ .returning .returning
  | panicking {l l' : List PanicEntry} (h : ChR μ l l') : MR μ (.panicking l) (.panicking l')

theorem MR.mono {μ μ' : Mu} (hm : μ.le μ') {a b : FrameMode} (h : MR μ a b) : MR μ' a b := by
  cases h with
  | run => exact .run
  | returning => exact .returning
  | panicking h => exact .panicking (h.mono hm)

theorem ChR.drop {μ : Mu} {l l' : List PanicEntry} (h : ChR μ l l') : l.dropWhile (!·.goexit) = [] ∧ l'.dropWhile (!·.goexit) = [] := by
  induction h with
  | nil => exact ⟨rfl, rfl⟩
  | cons h _ ih => exact ⟨by simp [ih.1], by simp [ih.2]⟩

theorem MR.settle {μ : Mu} {a b : FrameMode} (h : MR μ a b) : MR μ (settle a) (settle b) := by
  cases h with
  | run => exact .run
  | returning => exact .returning
  | panicking h =>
    cases h with
    | nil => exact .panicking .nil
    | cons hv t =>
      rename_i v v' r l l'
      cases r with
      | true =>
        have := t.drop
        simp only [Go.settle, this.1, this.2]
        exact .returning
      | false => exact .panicking (.cons hv t)

theorem MR.raised {μ : Mu} {a b : FrameMode} (h : MR μ a b) {l l' : List PanicEntry} (hc : ChR μ l l') : MR μ (raised a l) (raised b l') := by
  cases h with
  | run => exact .panicking hc
  | returning => exact .panicking hc
  | panicking h => exact .panicking (hc.append h)

inductive ExR (μ : Mu) : Exit → Exit → Prop
  | normal : ExR μ .normal .normal
  | exit (id : Nat) : ExR μ (.exit id) (.exit id)
  | ret : ExR μ .ret .ret
  | panic {l l' : List PanicEntry} (h : ChR μ l l') : ExR μ (.panic l) (.panic l')

structure SR (E : Env) (n : Nat) (μ : Mu) (s : S) (a : Act) (cm : FrameMode) (w : World) : Prop where
  hr : HR μ s.h w
  tm : ∀ t, VR μ (s.eval (.tmp t)) (a.eval (.tmp t))
  gl : ∀ g, g < E.ng → ∃ room, μ g = some ⟨g, 0, room⟩
  df : DRL μ s.defers a.defers
  cm : MR μ s.cm cm
  sz : n ≤ a.tmps.size

theorem SR.opnd {E : Env} {n : Nat} {μ : Mu} {s : S} {a : Act} {cm : FrameMode} {w : World} (h : SR E n μ s a cm w) {x : Operand} (hx : opndOk E.ng x = true) : VR μ (s.eval x) (a.eval x) := by
  cases x with
  | tmp t => exact h.tm t
  | const v => exact flat_refl μ v hx
  | global g =>
    have hx : g < E.ng := by simpa [opndOk, Nat.blt_eq] using hx
    obtain ⟨room, hg⟩ := h.gl g hx
    have := VR.ptr (μ := μ) (b := g) (i := 0) hg
    simp only [Nat.add_zero] at this
    exact this
  | func f => exact .func .nil .nil

theorem eval_put (s : S) (d : Option Tmp) (v : Value) (t : Tmp) : (s.put d v).eval (.tmp t) = if d = some t then v else s.eval (.tmp t) := by
  cases d with
  | none => simp [S.put]
  | some d =>
    simp only [S.put, S.eval, T.get_put, Option.some.injEq]
    by_cases h : d = t <;> simp [h]

theorem act_put_tmp (a : Act) (d : Option Tmp) (v : Value) (t : Tmp) (hd : ∀ k, d = some k → k < a.tmps.size) : (a.put d v).eval (.tmp t) = if d = some t then v else a.eval (.tmp t) := by
  cases d with
  | none => simp [Act.put]
  | some d =>
    have := hd d rfl
    simp only [Act.put, Act.eval, Option.some.injEq]
    by_cases h : d = t
    · subst h; simp [this]
    · simp [h, Array.getElem?_setIfInBounds_ne h]

theorem dstOk_lt {n : Nat} {d : Option Tmp} (h : dstOk n d = true) : ∀ k, d = some k → k < n := by
  intro k hk
  subst hk
  simpa [dstOk, Nat.blt_eq] using h

theorem put_defers (a : Act) (d : Option Tmp) (v : Value) : (a.put d v).defers = a.defers := by cases d <;> rfl
theorem put_size (a : Act) (d : Option Tmp) (v : Value) : (a.put d v).tmps.size = a.tmps.size := by cases d <;> simp [Act.put]
theorem sput_h (s : S) (d : Option Tmp) (v : Value) : (s.put d v).h = s.h ∧ (s.put d v).defers = s.defers ∧ (s.put d v).cm = s.cm := by cases d <;> exact ⟨rfl, rfl, rfl⟩

/-- a value put, memory grown -/
theorem SR.put {E : Env} {n : Nat} {μ μ' : Mu} {s : S} {a : Act} {cm cm' : FrameMode} {w w' : World} (h : SR E n μ s a cm w) {d : Option Tmp} (hd : dstOk n d = true) {v v' : Value} {hp : H} {ds ds' : List Deferred} {c' : FrameMode}
    (hle : μ.le μ') (hr : HR μ' hp w') (hv : VR μ' v v') (hds : DRL μ' ds ds') (hc : MR μ' c' cm') : SR E n μ' (S.put ⟨s.tmps, ds, c', hp⟩ d v) ({ a with defers := ds' }.put d v') cm' w' where
  hr := by rw [(sput_h _ d v).1]; exact hr
  tm := by
    intro t
    rw [eval_put, act_put_tmp { a with defers := ds' } _ _ _ (fun k hk => Nat.lt_of_lt_of_le (dstOk_lt hd k hk) h.sz)]
    by_cases e : d = some t
    · rw [if_pos e, if_pos e]; exact hv
    · rw [if_neg e, if_neg e]; exact (h.tm t).mono hle
  gl := fun g hg => let ⟨room, e⟩ := h.gl g hg; ⟨room, hle _ _ e⟩
  df := by rw [(sput_h _ d v).2.1, put_defers]; exact hds
  cm := by rw [(sput_h _ d v).2.2]; exact hc
  sz := by rw [put_size]; exact h.sz

theorem guardTmp_eq (ops : Array Oper) (o : Oper) (j : Nat) (want : Bool) (hg : o.guard = some (j, want)) (tmps : Array Value) :
    yielded ops tmps j = match guardTmp ops.toList o with
      | none => none
      | some d => match tmps[d]? with
        | some (.bool b) => some b
        | _ => none := by
  have hj : ops.toList[j]? = ops[j]? := by simp
  unfold yielded guardTmp
  simp only [hg, hj]
  cases ho : ops[j]? with
  | none => rfl
  | some oj => 
    cases hd : oj.dst with
    | none => simp [hd]
    | some d => 
      simp only [Option.bind_some, hd]
      cases tmps[d]? with
      | none => rfl
      | some v => cases v <;> rfl

/-- a guard is looked at in the same way on both sides -/
theorem wanted_rel {μ : Mu} {ρ : Operand → Value} {a : Act} (ops : Array Oper) (o : Oper) (h : ∀ d, guardTmp ops.toList o = some d → d < a.tmps.size ∧ VR μ (ρ (.tmp d)) (a.eval (.tmp d))) :
    Region.wanted o (yielded ops a.tmps) = wantedA ops.toList ρ o := by
  unfold Region.wanted wantedA
  cases hg : o.guard with
  | none => rfl
  | some jw =>
    obtain ⟨j, want⟩ := jw
    dsimp only
    rw [guardTmp_eq ops o j want hg]
    cases hd : guardTmp ops.toList o with
    | none => simp
    | some d =>
      obtain ⟨hlt, ht⟩ := h d hd
      obtain ⟨v', hat⟩ : ∃ v', a.tmps[d]? = some v' := ⟨_, Array.getElem?_eq_getElem hlt⟩
      simp only [Act.eval, Array.getD_eq_getD_getElem?, hat, Option.getD_some] at ht
      simp only [hat]
      generalize ρ (.tmp d) = v at ht
      cases ht <;> cases want <;> first | rfl | (rename_i b; cases b <;> rfl)

theorem guardTmp_mem {ops : List Oper} {o : Oper} {d : Tmp} (h : guardTmp ops o = some d) : ∃ oj ∈ ops, oj.dst = some d := by
  unfold guardTmp at h
  split at h
  · cases h
  · split at h
    · rename_i oj hj
      exact ⟨oj, List.mem_of_getElem? hj, h⟩
    · cases h

theorem wanted_sound {E : Env} {n : Nat} {μ : Mu} {s : S} {a : Act} {cm : FrameMode} {w : World} (h : SR E n μ s a cm w) (ops : Array Oper) (hops : ∀ o ∈ ops.toList, dstOk n o.dst = true) (o : Oper) :
    Region.wanted o (yielded ops a.tmps) = wantedA ops.toList s.eval o :=
  wanted_rel ops o fun d hd =>
    let ⟨oj, hm, hdj⟩ := guardTmp_mem hd
    ⟨Nat.lt_of_lt_of_le (dstOk_lt (hops oj hm) d hdj) h.sz, h.tm d⟩

end Go.AX

namespace Go.AX

/-- in what frames a function stands: called, or deferred (then its caller's mode may turn) -/
def KCtx (kd : CallKind) (ctx : FrameMode → List Frame) (cm : FrameMode) : Prop :=
  (kd = .normal ∧ cm = .run ∧ ∀ m, ctx m = ctx .run) ∨ (kd = .deferred ∧ ∃ (c : Frame) (cs : List Frame), ∀ m, ctx m = { c with mode := m } :: cs)

def ResR (μ : Mu) : Res → Ending → Prop
  | .ret v, .returned v' => VR μ v v'
  | .pan ch, .panicked ch' => ChR μ ch ch'
  | _, _ => False

structure Glob (E : Env) (μ : Mu) : Prop where
  at_ : ∀ g, g < E.ng → ∃ room, μ g = some ⟨g, 0, room⟩

theorem Glob.mono {E : Env} {μ μ' : Mu} (h : Glob E μ) (hm : μ.le μ') : Glob E μ' := ⟨fun g hg => let ⟨r, e⟩ := h.at_ g hg; ⟨r, hm _ _ e⟩⟩

def CallSound (E : Env) (n : Nat) : Prop :=
  ∀ f args cm h res cmA h', acall E n f args cm h = some (res, cmA, h') →
    ∀ (μ : Mu) (args' : Array Value) (cm1 : FrameMode) (w : World), HR μ h w → Glob E μ → VRL μ args.toList args'.toList → MR μ cm cm1 →
    ∀ kd ctx, KCtx kd ctx cm1 → ∃ e cm2 w' fr μ', HR μ' h' w' ∧ Ext μ h w μ' h' w' ∧ MR μ' cmA cm2 ∧ ResR μ' res e ∧ KCtx kd ctx cm2 ∧
      Steps E.P (lone (Frame.enter E.P f args' kd) (ctx cm1) w) (lone fr (ctx cm2) w') ∧ fr.fn = f ∧ fr.kind = kd ∧ fr.going E.P w' e

/-- what is known of calls is so -/
def OrcOk (E : Env) : Prop :=
  ∀ f args h res h', E.orc f args h = some (res, h') →
    ∀ (μ : Mu) (args' : Array Value) (cm1 : FrameMode) (w : World), HR μ h w → Glob E μ → VRL μ args args'.toList → MR μ .run cm1 →
    ∀ kd ctx, KCtx kd ctx cm1 → ∃ e cm2 w' fr μ', HR μ' h' w' ∧ Ext μ h w μ' h' w' ∧ MR μ' .run cm2 ∧ ResR μ' res e ∧ KCtx kd ctx cm2 ∧
      Steps E.P (lone (Frame.enter E.P f args' kd) (ctx cm1) w) (lone fr (ctx cm2) w') ∧ fr.fn = f ∧ fr.kind = kd ∧ fr.going E.P w' e

structure Done (E : Env) (N : Nat) (μ : Mu) (s : S) (w : World) (r : Exit) (s' : S) (e : Exit) (a' : Act) (cm' : FrameMode) (w' : World) : Prop where
  ex : ∃ μ', ExR μ' r e ∧ SR E N μ' s' a' cm' w' ∧ Ext μ s.h w μ' s'.h w'

def ExecSound (E : Env) (n : Nat) : Prop :=
  ∀ c s r s', aexec E n c s = some (r, s') → ∀ N μ a cm w, codeOk E.ng N c = true → SR E N μ s a cm w →
    ∀ (b : Frame) (k : List Item) ctx, KCtx b.kind ctx cm → ∃ e a' cm' w', Done E N μ s w r s' e a' cm' w' ∧ KCtx b.kind ctx cm' ∧
      Arrives E.P (lone (b.at a (.code c :: k)) (ctx cm) w) b k (ctx cm') e a' w'

def DrawSound (E : Env) (n : Nat) : Prop :=
  ∀ id ops s s1 s' p, planOf E ops.toList = some p → agroup E ops.toList p.g s = some s1 → astages E n ops.toList p.st s1 = some s' → ∀ N μ a cm w, codeOk E.ng N (.region id ops true) = true → SR E N μ s a cm w →
    (Code.region id ops true).wp E.P (fun e a' w' => Done E N μ s w .normal s' e a' cm w') a w

/-! ### one step -/
section steps
variable {P : Program} {b : Frame} {a : Act} {k : List Item} {cs : List Frame} {w w' : World} {ops : Array Oper} {i : Nat} {rest : List Nat} {o : Oper}

theorem fin_eq (ho : ops[i]? = some o) (v : Value) : (b.at a (.inRegion ops (i :: rest) :: k)).finish v = b.at (a.put o.dst v) (.inRegion ops rest :: k) := by
  rw [Frame.finish_at, ho]; rfl

theorem step_gives {nx : Next} {v : Value} (ho : ops[i]? = some o) (hw : Region.wanted o (yielded ops a.tmps) = true) (hr : (execOp a.eval o).run P w = .ok nx w') (hg : Gives nx v) :
    step P (lone (b.at a (.inRegion ops (i :: rest) :: k)) cs w) = .next (lone (b.at (a.put o.dst v) (.inRegion ops rest :: k)) cs w') := by
  have hs := stepG_op (P := P) (b := b) (k := k) (cs := cs) (w := w) (rest := rest) ho hw
  refine step_lone_go ?_
  rw [hs, ← fin_eq ho]
  rcases hg with rfl | ⟨rfl, rfl⟩ <;> simp [stepG.apply, hr]

theorem step_defers {d : Deferred} (ho : ops[i]? = some o) (hw : Region.wanted o (yielded ops a.tmps) = true) (hr : (execOp a.eval o).run P w = .ok (.defer d) w') :
    step P (lone (b.at a (.inRegion ops (i :: rest) :: k)) cs w) = .next (lone (b.at ({ a with defers := d :: a.defers }.put o.dst undef) (.inRegion ops rest :: k)) cs w') := by
  have hs := stepG_op (P := P) (b := b) (k := k) (cs := cs) (w := w) (rest := rest) ho hw
  refine step_lone_go ?_
  have : ({ b.at a (.inRegion ops (i :: rest) :: k) with defers := d :: a.defers } : Frame).finish undef = b.at ({ a with defers := d :: a.defers }.put o.dst undef) (.inRegion ops rest :: k) := by
    have := Frame.finish_at b { a with defers := d :: a.defers } ops i rest k undef
    rw [ho] at this; exact this
  rw [hs]; simp only [stepG.apply, Sem.runT_eq, hr, GStep.bare_after]
  exact congrArg (fun fr => GStep.go { frame := fr, callers := cs, status := .running, dying := none } w') this

theorem step_panics {v : Value} (ho : ops[i]? = some o) (hw : Region.wanted o (yielded ops a.tmps) = true) (hr : (execOp a.eval o).run P w = .halt (.panic v) w') :
    step P (lone (b.at a (.inRegion ops (i :: rest) :: k)) cs w) = .next (lone { b.at a (.inRegion ops (i :: rest) :: k) with mode := .panicking [{ v, recovered := false }] } cs w') := by
  have hs := stepG_op (P := P) (b := b) (k := k) (cs := cs) (w := w) (rest := rest) ho hw
  refine step_lone_go ?_
  rw [hs, ← Frame.raise_at]; simp [stepG.apply, hr]

theorem step_enters {f : FuncId} {args : Array Value} (ho : ops[i]? = some o) (hw : Region.wanted o (yielded ops a.tmps) = true) (hr : (execOp a.eval o).run P w = .ok (.enter f args) w') :
    step P (lone (b.at a (.inRegion ops (i :: rest) :: k)) cs w) = .next (lone (Frame.enter P f args .normal) (b.at a (.inRegion ops (i :: rest) :: k) :: cs) w') := by
  have hs := stepG_op (P := P) (b := b) (k := k) (cs := cs) (w := w) (rest := rest) ho hw
  exact step_lone_go (by rw [hs]; simp [stepG.apply, hr, Frame.at])

theorem step_recovers (ho : ops[i]? = some o) (hw : Region.wanted o (yielded ops a.tmps) = true) (hr : (execOp a.eval o).run P w = .ok .recover w') :
    step P (lone (b.at a (.inRegion ops (i :: rest) :: k)) cs w) = match tryRecover (b.at a (.inRegion ops (i :: rest) :: k)) cs with
      | some (v, cs') => .next (lone (b.at (a.put o.dst v) (.inRegion ops rest :: k)) cs' w')
      | none => .next (lone (b.at (a.put o.dst .nilIface) (.inRegion ops rest :: k)) cs w') := by
  have hs := stepG_op (P := P) (b := b) (k := k) (cs := cs) (w := w) (rest := rest) ho hw
  cases htr : tryRecover (b.at a (.inRegion ops (i :: rest) :: k)) cs with
  | some p =>
    obtain ⟨v, cs'⟩ := p
    refine step_lone_go ?_
    rw [hs, ← fin_eq ho]
    simp only [Frame.at] at htr ⊢
    simp [stepG.apply, hr, htr]
  | none =>
    refine step_lone_go ?_
    rw [hs, ← fin_eq ho]
    simp only [Frame.at] at htr ⊢
    simp [stepG.apply, hr, htr]

theorem step_skips (ho : ops[i]? = some o) (hw : Region.wanted o (yielded ops a.tmps) = false) :
    step P (lone (b.at a (.inRegion ops (i :: rest) :: k)) cs w) = .next (lone (b.at (a.put o.dst undef) (.inRegion ops rest :: k)) cs w) := by
  have hs := step_op_skip (P := P) (b := b) (a := a) (k := k) (cs := cs) (w := w) (ops := ops) (i := i) (rest := rest) (by simp [ho]; simpa using hw)
  simp only [ho, Option.bind_some] at hs
  exact hs
end steps

/-- the operation's own part: anything but a call -/
theorem aop_sound {E : Env} (hE : EnvOk E) {μ : Mu} {h : H} {w : World} (hr : HR μ h w) {ρ a : Operand → Value} {o : Oper} {r : R1}
    (hx : ∀ y ∈ o.op.operands, VR μ (ρ y) (a y)) (e : aop E ρ h o = some r) : LoudOk E μ h w (execOp a o) r := by
  unfold aop at e
  split at e
  · rename_i v hq
    cases e
    obtain ⟨v', h1, h2⟩ := aquiet_sound hE hr hx hq
    exact ⟨.value v', w, μ, v', h1, .inl rfl, hr, Ext.refl _ _ _, h2⟩
  · split at e
    · cases e
    · split at e
      · rename_i x f hf
        cases e
        obtain ⟨w', room, v', h1, h2, h3, h4⟩ := afresh_sound hE hr hx hf
        exact ⟨.value v', w', _, v', h1, .inl rfl, h2, h3, h4⟩
      · exact aloud_sound hE hr hx e

theorem operOk_spec {ng n : Nat} {o : Oper} (h : operOk ng n o = true) : dstOk n o.dst = true ∧ ∀ y ∈ o.op.operands, opndOk ng y = true := by
  unfold operOk at h
  split at h
  · rename_i hd
    exact ⟨hd, fun y hy => List.all_eq_true.1 h y (by simpa using hy)⟩
  · cases h

theorem call_enter {E : Env} (hE : EnvOk E) (hname : ∀ f x, E.fn.get f = some x → x.name ≠ "runtime.NumGoroutine") {f : FuncId} {fn : Func} {c : Code} (hf : E.fn.get f = some fn) (hb : fn.body = some c) (args : Array Value) (w : World) :
    (callFunc f args).run E.P w = .ok (.enter f args) w := by
  have h1 := hE.fn f fn hf
  have h2 := hname f fn hf
  simp [callFunc, h1, h2, hb]

theorem acall_body {E : Env} {n : Nat} {f : FuncId} {args : Array Value} {cm : FrameMode} {h : H} {r : Res × FrameMode × H} (e : acall E n f args cm h = some r) : ∃ fn c, E.fn.get f = some fn ∧ fn.body = some c := by
  cases n with
  | zero => simp [acall] at e
  | succ n =>
    simp only [acall] at e
    split at e
    · rename_i fn hf
      split at e
      · rename_i c hc
        exact ⟨fn, c, hf, hc⟩
      · cases e
    · cases e

theorem tryRec_some {μ : Mu} {kd : CallKind} {ctx : FrameMode → List Frame} {cm : FrameMode} {fr : Frame} (hk : fr.kind = kd) (hctx : KCtx kd ctx cm) {v : Value} {older : List PanicEntry} (hm : MR μ (.panicking ({ v, recovered := false } :: older)) cm) :
    ∃ v' older', VR μ v v' ∧ ChR μ older older' ∧ tryRecover fr (ctx cm) = some (v', ctx (.panicking ({ v := v', recovered := true } :: older'))) ∧ KCtx kd ctx (.panicking ({ v := v', recovered := true } :: older')) := by
  rcases hctx with ⟨rfl, rfl, hall⟩ | ⟨rfl, c, cs, hall⟩
  · cases hm
  · have h1 : ctx cm = { c with mode := cm } :: cs := hall cm
    cases hm with
    | panicking h =>
      cases h with
      | cons hv ht =>
        rename_i v' l'
        refine ⟨v', l', hv, ht, ?_, .inr ⟨rfl, c, cs, hall⟩⟩
        rw [h1, tryRecover_deferred hk, hall]
        rfl

theorem tryRec_none {μ : Mu} {kd : CallKind} {ctx : FrameMode → List Frame} {cm : FrameMode} {fr : Frame} (hk : fr.kind = kd) (hctx : KCtx kd ctx cm) {cmA : FrameMode} (hm : MR μ cmA cm)
    (hno : ∀ v older, cmA ≠ .panicking ({ v, recovered := false } :: older)) : tryRecover fr (ctx cm) = none := by
  rcases hctx with ⟨rfl, rfl, hall⟩ | ⟨rfl, c, cs, hall⟩
  · unfold tryRecover
    rw [hk]
  · have h1 : ctx cm = { c with mode := cm } :: cs := hall cm
    rw [h1, tryRecover_deferred hk]
    cases hm with
    | run => rfl
    | returning => rfl
    | panicking h =>
      cases h with
      | nil => rfl
      | cons hv ht =>
        rename_i v v' r l l'
        cases r with
        | true => rfl
        | false => exact absurd rfl (hno _ _)

end Go.AX

/- Rounds of a range over a function. -/
namespace Go.AX

theorem codeOk_dst {ng n : Nat} : ∀ {c : Code}, codeOk ng n c = true → straightDst n c = true := by
  intro c
  induction c with
  | region id ops d =>
    intro h
    simp only [codeOk, straightDst, List.all_eq_true] at h ⊢
    exact fun o ho => (operOk_spec (h o ho)).1
  | seq a b iha ihb =>
    intro h
    simp only [codeOk] at h
    split at h
    · rename_i ha
      simp only [straightDst, iha ha, ihb h]
    · cases h
  | block id b ih => intro h; exact ih h
  | _ => intro _; rfl

theorem value_not_defer {E : Env} {ρ : Operand → Value} {h h' : H} {o : Oper} {v : Value} (e : aop E ρ h o = some (.value v h')) : ∀ c, o.op ≠ .defer c := by
  intro c hc
  obtain ⟨dst, op, type, pos, after, guard⟩ := o
  simp only at hc
  subst hc
  unfold aop at e
  simp only [aquiet, afresh, aloud, isQuietOp] at e
  split at e
  · split at e <;> cases e
  · cases e

section steps
variable {P : Program} {b : Frame} {a : Act} {k : List Item} {cs : List Frame} {w w' : World} {ops : Array Oper} {i : Nat} {rest : List Nat} {o : Oper}

theorem stepR_gives {nx : Next} {v : Value} (ho : ops[i]? = some o) (hw : Region.wanted o (yielded ops a.tmps) = true) (hd : ∀ c, o.op ≠ .defer c) (hr : (execOp a.eval o).run P w = .ok nx w') (hg : Gives nx v) :
    step P (lone (b.atR a (.inRegion ops (i :: rest) :: k)) cs w) = .next (lone (b.atR (a.put o.dst v) (.inRegion ops rest :: k)) cs w') := by
  have hs := stepGR_op (P := P) (b := b) (k := k) (cs := cs) (w := w) (rest := rest) ho hw
  rw [Oper.semAt_eq _ _ _ hd] at hs
  refine step_lone_go ?_
  have hf : (b.atR a (.inRegion ops (i :: rest) :: k)).finish v = b.atR (a.put o.dst v) (.inRegion ops rest :: k) := by
    rw [Frame.finish_atR, ho]; rfl
  rw [hs, ← hf]
  rcases hg with rfl | ⟨rfl, rfl⟩ <;> simp [stepG.apply, hr]

theorem stepR_skips (ho : ops[i]? = some o) (hw : Region.wanted o (yielded ops a.tmps) = false) :
    step P (lone (b.atR a (.inRegion ops (i :: rest) :: k)) cs w) = .next (lone (b.atR (a.put o.dst undef) (.inRegion ops rest :: k)) cs w) := by
  have hs := stepR_op_skip (P := P) (b := b) (a := a) (k := k) (cs := cs) (w := w) (ops := ops) (i := i) (rest := rest) (by simp [ho]; simpa using hw)
  simp only [ho, Option.bind_some] at hs
  exact hs
end steps

theorem drop_range' {n i : Nat} (h : i < n) : (List.range n).drop i = i :: (List.range n).drop (i + 1) := by
  have hl : i < (List.range n).length := by simpa using h
  rw [List.drop_eq_getElem_cons hl]
  simp

theorem astr_sound {E : Env} (hE : EnvOk E) {N : Nat} {cm : FrameMode} (ops : Array Oper) (hd : ∀ o ∈ ops.toList, dstOk N o.dst = true) (hop : ∀ o ∈ ops.toList, ∀ y ∈ o.op.operands, opndOk E.ng y = true) :
    ∀ (rest : List Oper) (i : Nat) (s s' : S), rest = ops.toList.drop i → astr E ops.toList rest s = some s' → ∀ μ a w, SR E N μ s a cm w → ∀ (b : Frame) (k : List Item) cs, ∃ μ' a' w', SR E N μ' s' a' cm w' ∧ Ext μ s.h w μ' s'.h w' ∧
      Steps E.P (lone (b.atR a (.inRegion ops ((List.range ops.size).drop i) :: k)) cs w) (lone (b.atR a' k) cs w')
  | [], i, s, s', hrest, e, μ, a, w, hs, b, k, cs => by
    simp only [astr, Option.some.injEq] at e
    subst e
    have hi : ops.size ≤ i := by
      have : (ops.toList.drop i).length = 0 := by rw [← hrest]; rfl
      simp at this; omega
    refine ⟨μ, a, w, hs, Ext.refl _ _ _, ?_⟩
    have : (List.range ops.size).drop i = [] := by simp; omega
    rw [this]
    exact .one stepR_region_end
  | o :: rest, i, s, s', hrest, e, μ, a, w, hs, b, k, cs => by
    have hi : i < ops.size := by
      refine Nat.lt_of_not_le fun hh => ?_
      have : ops.toList.drop i = [] := by simp; omega
      rw [this] at hrest; cases hrest
    have ho? : ops[i]? = some o := by
      have : (ops.toList.drop i)[0]? = some o := by rw [← hrest]; rfl
      simpa using this
    have hrest' : rest = ops.toList.drop (i + 1) := by
      have : (ops.toList.drop i).tail = rest := by rw [← hrest]; rfl
      rw [← this, List.tail_drop]
    have hmem : o ∈ ops.toList := List.mem_of_getElem? (by simpa using ho?)
    have hwant := wanted_sound hs ops hd o
    rw [drop_range' hi]
    simp only [astr] at e
    split at e
    · rename_i hw
      rw [hw] at hwant
      have hs1 : SR E N μ (s.put o.dst undef) (a.put o.dst undef) cm w := hs.put (s := s) (ds := s.defers) (ds' := a.defers) (hp := s.h) (c' := s.cm) (hd o hmem) (Mu.le_refl _) hs.hr (undef_rel _) hs.df hs.cm
      obtain ⟨μ', a', w', h1, h2, h3⟩ := astr_sound hE ops hd hop rest (i + 1) _ s' hrest' e μ _ w hs1 b k cs
      rw [(sput_h _ _ _).1] at h2
      exact ⟨μ', a', w', h1, h2, .head (stepR_skips ho? hwant) h3⟩
    · rename_i hw
      rw [hw] at hwant
      split at e
      · rename_i v h' hop'
        obtain ⟨nx, w1, μ1, v', h1, h2, h3, h4, h5⟩ := aop_sound hE hs.hr (fun y hy => hs.opnd (hop o hmem y hy)) hop'
        have hs1 : SR E N μ1 (S.put ⟨s.tmps, s.defers, s.cm, h'⟩ o.dst v) (a.put o.dst v') cm w1 := hs.put (hd o hmem) h4.sub h3 h5 (hs.df.mono h4.sub) (hs.cm.mono h4.sub)
        obtain ⟨μ', a', w', g1, g2, g3⟩ := astr_sound hE ops hd hop rest (i + 1) _ s' hrest' e μ1 _ w1 hs1 b k cs
        rw [(sput_h _ _ _).1] at g2
        exact ⟨μ', a', w', g1, h4.trans hs.hr.lt g2, .head (stepR_gives ho? hwant (value_not_defer hop') h1 h2) g3⟩
      · cases e

theorem astraight_sound {E : Env} (hE : EnvOk E) {N : Nat} {cm : FrameMode} : ∀ (c : Code), straightDst N c = true → straightOpn E.ng c = true → ∀ (s s' : S), astraight E c s = some s' → ∀ μ a w, SR E N μ s a cm w →
    ∀ (b : Frame) (k : List Item) cs, ∃ μ' a' w', SR E N μ' s' a' cm w' ∧ Ext μ s.h w μ' s'.h w' ∧ Steps E.P (lone (b.atR a (.code c :: k)) cs w) (lone (b.atR a' k) cs w') := by
  intro c
  induction c with
  | skip =>
    intro _ _ s s' e μ a w hs b k cs
    simp only [astraight, Option.some.injEq] at e
    subst e
    exact ⟨μ, a, w, hs, Ext.refl _ _ _, .one stepR_skip⟩
  | region id ops d =>
    intro hd ho s s' e μ a w hs b k cs
    cases d with
    | true => simp [astraight] at e
    | false =>
      simp only [straightDst, straightOpn, List.all_eq_true] at hd ho
      obtain ⟨μ', a', w', h1, h2, h3⟩ := astr_sound hE ops hd (fun o hm y hy => ho o hm y (by simpa using hy)) ops.toList 0 s s' rfl e μ a w hs b k cs
      exact ⟨μ', a', w', h1, h2, .head stepR_region (by simpa using h3)⟩
  | seq x y ihx ihy =>
    intro hd ho s s' e μ a w hs b k cs
    simp only [straightDst] at hd
    split at hd
    · rename_i hdx
      simp only [straightOpn] at ho
      split at ho
      · rename_i hox
        simp only [astraight] at e
        split at e
        · rename_i s1 h1
          obtain ⟨μ1, a1, w1, g1, g2, g3⟩ := ihx hdx hox s s1 h1 μ a w hs b (.code y :: k) cs
          obtain ⟨μ2, a2, w2, k1, k2, k3⟩ := ihy hd ho s1 s' e μ1 a1 w1 g1 b k cs
          exact ⟨μ2, a2, w2, k1, g2.trans hs.hr.lt k2, .head stepR_seq (g3.trans k3)⟩
        · cases e
      · cases ho
    · cases hd
  | block id x ih =>
    intro hd ho s s' e μ a w hs b k cs
    obtain ⟨μ1, a1, w1, g1, g2, g3⟩ := ih hd ho s s' e μ a w hs b (.inBlock id :: k) cs
    exact ⟨μ1, a1, w1, g1, g2, .head stepR_block (g3.trans (.one stepR_inBlock))⟩
  | _ => intro _ _ s s' e; simp [astraight] at e

end Go.AX

namespace Go.AX

/-- an object of a block of its own is turned: the record of a loop -/
theorem HR.putLoop {μ : Mu} {h : H} {w : World} (hr : HR μ h w) {L l : Nat} (hL : μ L = some ⟨l, 0, 0⟩) {x : AObj} {o : Obj} (hnro : ¬ RO (h.obj L)) (htw : (h.obj L).twin = none) (hx : x.twin = none)
    (hor : OR μ ⟨l, 0, 0⟩ (w.putObj l o) x) : HR μ (h.upd L x) (w.putObj l o) ∧ Ext μ h w μ (h.upd L x) (w.putObj l o) :=
  hr.setObj hL hnro htw hx hor

theorem params_rel {μ : Mu} {N : Nat} : ∀ (ps : List Tmp) (vs : List Value) {tm t : T Value} {vs' : List Value} {tm' : Array Value}, putParams tm ps vs = some t → VRL μ vs vs' → (∀ p ∈ ps, p < N) → N ≤ tm'.size →
    (∀ i, VR μ (match tm.get i with | some v => v | none => undef) (tm'.getD i undef)) →
    ps.length = vs'.length ∧ N ≤ ((ps.zip vs').foldl (fun tmps (t, a) => tmps.setIfInBounds t a) tm').size ∧ ∀ i, VR μ (match t.get i with | some v => v | none => undef) (((ps.zip vs').foldl (fun tmps (t, a) => tmps.setIfInBounds t a) tm').getD i undef)
  | [], [], tm, t, vs', tm', e, h, _, hN, htm => by
    simp only [putParams, Option.some.injEq] at e
    subst e
    cases h
    exact ⟨rfl, hN, htm⟩
  | [], _ :: _, _, _, _, _, e, _, _, _, _ => by simp [putParams] at e
  | _ :: _, [], _, _, _, _, e, _, _, _, _ => by simp [putParams] at e
  | p :: ps, v :: vs, tm, t, _, tm', e, .cons (v' := v') (l' := vs') hv hvs, hp, hN, htm => by
    simp only [putParams] at e
    have hpN := hp p (by simp)
    obtain ⟨h1, h2, h3⟩ := params_rel ps vs (tm' := tm'.setIfInBounds p v') e hvs (fun q hq => hp q (by simp [hq])) (by simpa using hN) (by
      intro i
      rw [T.get_put, Array.getD_eq_getD_getElem?]
      by_cases hi : p = i
      · subst hi
        have : p < tm'.size := Nat.lt_of_lt_of_le hpN hN
        simp [this, hv]
      · rw [if_neg hi, Array.getElem?_setIfInBounds_ne hi, ← Array.getD_eq_getD_getElem?]
        exact htm i)
    refine ⟨by simp [h1], ?_, ?_⟩
    · simpa using h2
    · simpa using h3

theorem around_sound {E : Env} (hE : EnvOk E) {μ : Mu} {h h' : H} {w : World} (hr : HR μ h w) (gl : Glob E μ) {L l : Nat} {args : List Value} {args' : Array Value} (e : around E L args h = some h') (hL : μ L = some ⟨l, 0, 0⟩) (ha : VRL μ args args'.toList) :
    ∃ fn tmps assign body, (Instr.yield l args').run E.P w = .ok (.round l fn tmps assign body) w ∧ ∀ c cs, ∃ μ' w', HR μ' h' w' ∧ Ext μ h w μ' h' w' ∧
      Steps E.P (lone (Frame.round l fn tmps assign body .normal) (c :: cs) w) (lone (c.finish (.bool true)) cs w') := by
  unfold around at e
  split at e
  · rename_i tm params assign body hobj
    split at e
    · rename_i t ho1 ho2 hput
      split at e
      · rename_i s1 hs1
        split at e
        · rename_i tm2 ps2 as2 bd2 hobj1
          split at e
          · rename_i s2 hs2
            split at e
            · rename_i tm3 ps3 as3 bd3 hobj2
              simp only [Option.some.injEq] at e
              subst e
              have hor := hr.ok L _ hL
              rw [hobj] at hor
              obtain ⟨fn, tm', d, N, q1, q2, q3, q4, q5, q6⟩ := hor
              obtain ⟨k1, k2, k3⟩ := params_rel params args hput ha q5 q2 q6
              have hsize : args'.size = params.toArray.size := by simp [k1]
              have hy := run_yield (P := E.P) (args := args') q1 hsize
              refine ⟨fn, _, assign, body, hy, fun c cs => ?_⟩
              let b : Frame := { (default : Frame) with fn := fn, kind := .normal, roundOf := some l }
              obtain ⟨tmps, htmps⟩ : ∃ tmps, tmps = (params.zip args'.toList).foldl (fun tmps (t, a) => tmps.setIfInBounds t a) tm' := ⟨_, rfl⟩
              rw [← htmps] at k2 k3
              have hfold : (params.toArray.zip args').foldl (fun tmps (t, a) => tmps.setIfInBounds t a) tm' = tmps := by
                rw [htmps, ← Array.foldl_toList]
                simp
              have hs0 : SR E N μ ⟨t, [], .run, h⟩ { tmps := tmps, defers := [] } .run w := ⟨hr, k3, gl.at_, .nil, .run, k2⟩
              obtain ⟨μ1, a1, w1, g1, g2, g3⟩ := astraight_sound hE assign q3 ho1 _ s1 hs1 μ _ w hs0 b [.beginRound, .code body] (c :: cs)
              have hL1 := g2.sub _ _ hL
              have hor1 := g1.hr.ok L _ hL1
              rw [hobj1] at hor1
              obtain ⟨fn2, tm2', d2, N2, z1, z2, z3, z4, z5, z6⟩ := hor1
              have hlt1 := (Array.getElem?_eq_some_iff.1 z1).1
              have hbegin := run_beginRound (P := E.P) z1 rfl
              obtain ⟨u1, u2⟩ := g1.hr.putLoop hL1 (x := .loop false tm2 ps2 as2 bd2) (o := .loop { state := .busy, pending := none, fn := fn2, tmps := tm2', params := ps2.toArray, assign := as2, body := bd2, defers := d2 }) (by rw [hobj1]; exact fun h => h) (by rw [hobj1]; rfl) rfl
                ⟨fn2, tm2', d2, N2, World.putObj_heap_same hlt1, z2, z3, z4, z5, z6⟩
              have hs1' : SR E N μ1 ⟨s1.tmps, s1.defers, s1.cm, s1.h.upd L (.loop false tm2 ps2 as2 bd2)⟩ a1 .run _ := ⟨u1, g1.tm, g1.gl, g1.df, g1.cm, g1.sz⟩
              obtain ⟨μ2, a2, w2, y1, y2, y3⟩ := astraight_sound hE body q4 ho2 _ s2 hs2 μ1 a1 _ hs1' b [] (c :: cs)
              have hL2 := y2.sub _ _ hL1
              have hor2 := y1.hr.ok L _ hL2
              rw [hobj2] at hor2
              obtain ⟨fn3, tm3', d3, N3, x1, x2, x3, x4, x5, x6⟩ := hor2
              have hlt2 := (Array.getElem?_eq_some_iff.1 x1).1
              have hend := run_endRound (P := E.P) none x1
              obtain ⟨v1, v2⟩ := y1.hr.putLoop hL2 (x := .loop true tm3 ps3 as3 bd3) (o := .loop { state := .ready, pending := none, fn := fn3, tmps := tm3', params := ps3.toArray, assign := as3, body := bd3, defers := d3 }) (by rw [hobj2]; exact fun h => h) (by rw [hobj2]; rfl) rfl
                ⟨fn3, tm3', d3, N3, World.putObj_heap_same hlt2, x2, x3, x4, x5, x6⟩
              refine ⟨μ2, _, v1, (g2.trans hr.lt (u2.trans g1.hr.lt (y2.trans u1.lt v2))), ?_⟩
              have hb0 : Frame.round l fn tmps assign body .normal = b.atR { tmps := tmps, defers := [] } [.code assign, .beginRound, .code body] := by
                simp [Frame.round, Frame.atR, b]
              show Steps E.P (lone (Frame.round l fn ((params.toArray.zip args').foldl (fun tmps (t, a) => tmps.setIfInBounds t a) tm') assign body .normal) (c :: cs) w) _
              rw [hfold, hb0]
              exact g3.trans (.head (stepR_beginRound rfl hbegin) (y3.trans (.one (stepR_round_end rfl rfl hend))))
            · cases e
          · cases e
        · cases e
      · cases e
    · cases e
  · cases e

end Go.AX

namespace Go.AX

theorem Glob.of {E : Env} {n : Nat} {μ : Mu} {s : S} {a : Act} {cm : FrameMode} {w : World} (h : SR E n μ s a cm w) : Glob E μ := ⟨h.gl⟩

theorem result_sound {E : Env} (hE : EnvOk E) {μ : Mu} {s : S} {tmps : Array Value} {w : World} (hr : HR μ s.h w) (tm : ∀ t, VR μ (s.eval (.tmp t)) (tmps.getD t undef)) :
    ∀ {rs : List ResultVar} {l : List Value}, aresults E s rs = some l → ∃ l', (rs.mapM (fun r => match r with
      | .tmp t => pure (tmps.getD t undef)
      | .cell a t => do loadVar t (← asAddr (tmps.getD a undef))) : Sem (List Value)).run E.P w = .ok l' w ∧ VRL μ l l'
  | [], l, e => by simp [aresults] at e; subst e; exact ⟨[], rfl, .nil⟩
  | r :: rs, l, e => by
    simp only [aresults] at e
    split at e
    · rename_i v l1 hv hl
      cases e
      obtain ⟨l', h1, h2⟩ := result_sound hE hr tm hl
      cases r with
      | tmp t =>
        simp only [aresult, Option.some.injEq] at hv
        subst hv
        exact ⟨tmps.getD t undef :: l', by simp only [List.mapM_cons, Sem.run_bind, Sem.run_pure, Result.andThen_ok, h1], .cons (tm t) h2⟩
      | cell c t =>
        obtain ⟨A, v', h3, h4, h5⟩ := aload_sound hE hr (tm c) hv
        have ha : (asAddr (tmps.getD c undef)).run E.P w = .ok A w := by rw [h3]; rfl
        exact ⟨v' :: l', by simp only [List.mapM_cons, Sem.run_bind, Sem.run_pure, Result.andThen_ok, h1, ha, h4], .cons h5 h2⟩
    · cases e

theorem results_sound {E : Env} (hE : EnvOk E) {μ : Mu} {s : S} {tmps : Array Value} {w : World} (hr : HR μ s.h w) (tm : ∀ t, VR μ (s.eval (.tmp t)) (tmps.getD t undef)) {fn : Func} {l : List Value} (e : aresults E s fn.results.toList = some l) :
    ∃ v', (results fn tmps).run E.P w = .ok v' w ∧ VR μ (oneOrTuple l) v' := by
  obtain ⟨l', h1, h2⟩ := result_sound hE hr tm e
  have hrun : (results fn tmps).run E.P w = .ok (if h : l'.toArray.size = 1 then l'.toArray[0] else .tuple l'.toArray) w := by
    unfold results
    simp only [Sem.run_bind]
    rw [Array.mapM_eq_mapM_toList]
    simp only [Sem.run_map]
    refine Eq.trans (congrArg (fun r => Result.andThen (Result.andThen r _) _) h1) ?_
    simp only [Result.andThen_ok, Sem.run_pure]
  refine ⟨_, hrun, ?_⟩
  cases h2 with
  | nil => exact .tuple .nil
  | cons hv ht =>
    cases ht with
    | nil => exact hv
    | cons hv2 ht2 => exact .tuple (.cons hv (.cons hv2 ht2))

def OpsSound (E : Env) (n : Nat) : Prop :=
  ∀ (ops : Array Oper) rest i s r s', rest = ops.toList.drop i → aops E n ops.toList rest s = some (r, s') → ∀ N μ a cm w, (∀ o ∈ ops.toList, operOk E.ng N o = true) → SR E N μ s a cm w →
    ∀ (b : Frame) (k : List Item) ctx, KCtx b.kind ctx cm → ∃ e a' cm' w', Done E N μ s w r s' e a' cm' w' ∧ KCtx b.kind ctx cm' ∧
      Arrives E.P (lone (b.at a (.inRegion ops ((List.range ops.size).drop i) :: k)) (ctx cm) w) b k (ctx cm') e a' w'

def LeaveSound (E : Env) (n : Nat) : Prop :=
  ∀ fn ds u s res cmA h', aleave E n fn ds u s = some (res, cmA, h') → ∀ μ ds' u' cm w (fr : Frame) kd ctx, HR μ s.h w → (∀ t, VR μ (s.eval (.tmp t)) (fr.tmps.getD t undef)) → DRL μ ds ds' → MR μ u u' → MR μ s.cm cm → Glob E μ →
    fr.mode = u' → fr.defers = ds' → E.P.funcs[fr.fn]? = some fn → fr.kind = kd → KCtx kd ctx cm →
    ∃ e cm2 w' fr' μ', HR μ' h' w' ∧ Ext μ s.h w μ' h' w' ∧ MR μ' cmA cm2 ∧ ResR μ' res e ∧ KCtx kd ctx cm2 ∧
      Steps E.P (lone fr (ctx cm) w) (lone fr' (ctx cm2) w') ∧ fr'.fn = fr.fn ∧ fr'.kind = kd ∧ fr'.going E.P w' e

theorem Done.next {E : Env} {N : Nat} {μ μ1 : Mu} {s s1 : S} {w w1 : World} {r : Exit} {s' : S} {e : Exit} {a' : Act} {cm' : FrameMode} {w' : World} (lt : ∀ b m, μ b = some m → b < s.h.next) (hx : Ext μ s.h w μ1 s1.h w1)
    (h : Done E N μ1 s1 w1 r s' e a' cm' w') : Done E N μ s w r s' e a' cm' w' :=
  let ⟨μ', h1, h2, h3⟩ := h.ex; ⟨μ', h1, h2, hx.trans lt h3⟩

theorem step_rounds {P : Program} {b : Frame} {a : Act} {k : List Item} {cs : List Frame} {w w' : World} {ops : Array Oper} {i : Nat} {rest : List Nat} {o : Oper} {l : Nat} {f : FuncId} {tmps : Array Value} {assign body : Code} (ho : ops[i]? = some o)
    (hw : Region.wanted o (yielded ops a.tmps) = true) (hr : (execOp a.eval o).run P w = .ok (.round l f tmps assign body) w') :
    step P (lone (b.at a (.inRegion ops (i :: rest) :: k)) cs w) = .next (lone (Frame.round l f tmps assign body .normal) (b.at a (.inRegion ops (i :: rest) :: k) :: cs) w') := by
  have hs := stepG_op (P := P) (b := b) (k := k) (cs := cs) (w := w) (rest := rest) ho hw
  exact step_lone_go (by rw [hs]; simp [stepG.apply, hr, Frame.at])

theorem drop_range {n i : Nat} (h : i < n) : (List.range n).drop i = i :: (List.range n).drop (i + 1) := by
  have hl : i < (List.range n).length := by simpa using h
  rw [List.drop_eq_getElem_cons hl]
  simp

section main
variable {E : Env} (hE : EnvOk E) (hname : ∀ f x, E.fn.get f = some x → x.name ≠ "runtime.NumGoroutine")
include hE hname

theorem ops_step {n : Nat} (hc : CallSound E n) (ho : OpsSound E n) : OpsSound E (n + 1) := by
  intro ops rest i s r s' hrest e N μ a cm w hok hs b k ctx hk
  cases rest with
  | nil =>
    simp only [aops] at e
    cases e
    have hi : ops.size ≤ i := by
      have : (ops.toList.drop i).length = 0 := by rw [← hrest]; rfl
      simp at this; omega
    refine ⟨.normal, a, cm, w, ⟨μ, .normal, hs, Ext.refl _ _ _⟩, hk, ?_⟩
    have : (List.range ops.size).drop i = [] := by simp; omega
    rw [this]
    exact .one step_region_end
  | cons o rest =>
    have hi : i < ops.size := by
      refine Nat.lt_of_not_le fun hh => ?_
      have : ops.toList.drop i = [] := by simp; omega
      rw [this] at hrest; cases hrest
    have ho? : ops[i]? = some o := by
      have : (ops.toList.drop i)[0]? = some o := by rw [← hrest]; rfl
      simpa using this
    have hrest' : rest = ops.toList.drop (i + 1) := by
      have : (ops.toList.drop i).tail = rest := by rw [← hrest]; rfl
      rw [← this, List.tail_drop]
    have hmem : o ∈ ops.toList := List.mem_of_getElem? (by simpa using ho?)
    obtain ⟨hd, hopn⟩ := operOk_spec (hok o hmem)
    have hops : ∀ y ∈ o.op.operands, VR μ (s.eval y) (a.eval y) := fun y hy => hs.opnd (hopn y hy)
    have hwant := wanted_sound hs ops (fun o hm => (operOk_spec (hok o hm)).1) o
    rw [drop_range hi]
    simp only [aops] at e
    split at e
    · -- skipped
      rename_i hw
      rw [hw] at hwant
      have hs1 : SR E N μ (s.put o.dst undef) (a.put o.dst undef) cm w := hs.put (s := s) (ds := s.defers) (ds' := a.defers) (hp := s.h) (c' := s.cm) hd (Mu.le_refl _) hs.hr (undef_rel _) hs.df hs.cm
      obtain ⟨e', a', cm', w', h1, h2, h3⟩ := ho ops rest (i + 1) _ r s' hrest' e N μ _ cm w hok hs1 b k ctx hk
      refine ⟨e', a', cm', w', ?_, h2, .of_steps (.one (step_skips ho? hwant)) h3⟩
      have hx : Ext μ s.h w μ (s.put o.dst undef).h w := by rw [(sput_h _ _ _).1]; exact Ext.refl _ _ _
      exact h1.next hs.hr.lt hx
    · rename_i hw
      rw [hw] at hwant
      split at e
      · -- a value
        rename_i v h' hop
        obtain ⟨nx, w1, μ1, v', h1, h2, h3, h4, h5⟩ := aop_sound hE hs.hr hops hop
        have hs1 : SR E N μ1 (S.put ⟨s.tmps, s.defers, s.cm, h'⟩ o.dst v) (a.put o.dst v') cm w1 := hs.put hd h4.sub h3 h5 (hs.df.mono h4.sub) (hs.cm.mono h4.sub)
        obtain ⟨e', a', cm', w', g1, g2, g3⟩ := ho ops rest (i + 1) _ r s' hrest' e N μ1 _ cm w1 hok hs1 b k ctx hk
        refine ⟨e', a', cm', w', ?_, g2, .of_steps (.one (step_gives ho? hwant h1 h2)) g3⟩
        have hx : Ext μ s.h w μ1 (S.put ⟨s.tmps, s.defers, s.cm, h'⟩ o.dst v).h w1 := by rw [(sput_h _ _ _).1]; exact h4
        exact g1.next hs.hr.lt hx
      · -- a call
        rename_i f args hop
        obtain ⟨args', h1, h2⟩ := aop_sound hE hs.hr hops hop
        have hcm : ∀ (c : FrameMode), ctx c = ctx c := fun _ => rfl
        split at e
        · rename_i v cmA h' hcall
          obtain ⟨fn, c, hf, hb⟩ := acall_body hcall
          have henter := h2 _ (call_enter hE hname hf hb args' w)
          obtain ⟨e2, cm2, w1, fr, μ1, q1, q2, q3, q4, q5, q6, q7, q8, q9⟩ := hc f args .run s.h (.ret v) cmA h' hcall μ args' .run w hs.hr (Glob.of hs) h1 .run .normal (fun _ => b.at a (.inRegion ops (i :: (List.range ops.size).drop (i + 1)) :: k) :: ctx cm) (.inl ⟨rfl, rfl, fun _ => rfl⟩)
          cases e2 with
          | returned v' =>
            have hleave : fr.leaving E.P w1 (.returned v') := ⟨q9.1, q9.2.1, q8, q9.2.2⟩
            have hs1 : SR E N μ1 (S.put ⟨s.tmps, s.defers, s.cm, h'⟩ o.dst v) (a.put o.dst v') cm w1 := hs.put hd q2.sub q1 q4 (hs.df.mono q2.sub) (hs.cm.mono q2.sub)
            obtain ⟨e', a', cm', w', g1, g2, g3⟩ := ho ops rest (i + 1) _ r s' hrest' e N μ1 _ cm w1 hok hs1 b k ctx hk
            refine ⟨e', a', cm', w', ?_, g2, .of_steps (.head (step_enters ho? hwant henter) (q6.trans (.one ?_))) g3⟩
            · have hx : Ext μ s.h w μ1 (S.put ⟨s.tmps, s.defers, s.cm, h'⟩ o.dst v).h w1 := by rw [(sput_h _ _ _).1]; exact q2
              exact g1.next hs.hr.lt hx
            · rw [← fin_eq ho?]; exact step_leave_returned hleave
          | panicked ch => exact q4.elim
          | outgrown => exact q4.elim
        · rename_i ch cmA h' hcall
          cases e
          obtain ⟨fn, c, hf, hb⟩ := acall_body hcall
          have henter := h2 _ (call_enter hE hname hf hb args' w)
          obtain ⟨e2, cm2, w1, fr, μ1, q1, q2, q3, q4, q5, q6, q7, q8, q9⟩ := hc f args .run s.h (.pan ch) cmA h' hcall μ args' .run w hs.hr (Glob.of hs) h1 .run .normal (fun _ => b.at a (.inRegion ops (i :: (List.range ops.size).drop (i + 1)) :: k) :: ctx cm) (.inl ⟨rfl, rfl, fun _ => rfl⟩)
          cases e2 with
          | returned v' => exact q4.elim
          | panicked ch' =>
            have hleave : fr.leaving E.P w1 (.panicked ch') := q9
            refine ⟨.panic ch', a, cm, w1, ⟨μ1, .panic q4, ⟨q1, fun t => (hs.tm t).mono q2.sub, fun g hg => let ⟨r, hh⟩ := hs.gl g hg; ⟨r, q2.sub _ _ hh⟩, hs.df.mono q2.sub, hs.cm.mono q2.sub, hs.sz⟩, q2⟩, hk, .inRegion ops (i :: (List.range ops.size).drop (i + 1)) :: k, .head (step_enters ho? hwant henter) (q6.trans (.one ?_))⟩
            rw [← Frame.raise_at]
            exact step_leave_panicked hleave
          | outgrown => exact q4.elim
        · cases e
      · -- a panic
        rename_i v hop
        cases e
        obtain ⟨v', h1, h2⟩ := aop_sound hE hs.hr hops hop
        exact ⟨.panic [{ v := v', recovered := false }], a, cm, w, ⟨μ, .panic (.cons h2 .nil), hs, Ext.refl _ _ _⟩, hk, _, .one (step_panics ho? hwant h1)⟩
      · -- a deferred call
        rename_i d hop
        obtain ⟨d', h1, h2⟩ := aop_sound hE hs.hr hops hop
        have hs1 : SR E N μ (S.put ⟨s.tmps, d :: s.defers, s.cm, s.h⟩ o.dst undef) ({ a with defers := d' :: a.defers }.put o.dst undef) cm w := hs.put hd (Mu.le_refl _) hs.hr (undef_rel _) (.cons h2 hs.df) hs.cm
        obtain ⟨e', a', cm', w', g1, g2, g3⟩ := ho ops rest (i + 1) _ r s' hrest' e N μ _ cm w hok hs1 b k ctx hk
        refine ⟨e', a', cm', w', ?_, g2, .of_steps (.one (step_defers ho? hwant h1)) g3⟩
        have hx : Ext μ s.h w μ (S.put ⟨s.tmps, d :: s.defers, s.cm, s.h⟩ o.dst undef).h w := by rw [(sput_h _ _ _).1]; exact Ext.refl _ _ _
        exact g1.next hs.hr.lt hx
      · -- recover
        rename_i hop
        have h1 := aop_sound hE hs.hr hops hop
        have hstep := step_recovers (cs := ctx cm) (b := b) (k := k) (rest := (List.range ops.size).drop (i + 1)) ho? hwant h1
        split at e
        · rename_i v older hcm
          obtain ⟨v', older', q1, q2, q3, q4⟩ := tryRec_some (μ := μ) (fr := b.at a (.inRegion ops (i :: (List.range ops.size).drop (i + 1)) :: k)) rfl hk (by rw [← hcm]; exact hs.cm)
          rw [q3] at hstep
          have hs1 : SR E N μ (S.put ⟨s.tmps, s.defers, .panicking ({ v, recovered := true } :: older), s.h⟩ o.dst v) (a.put o.dst v') (.panicking ({ v := v', recovered := true } :: older')) w := hs.put hd (Mu.le_refl _) hs.hr q1 hs.df (.panicking (.cons q1 q2))
          obtain ⟨e', a', cm', w', g1, g2, g3⟩ := ho ops rest (i + 1) _ r s' hrest' e N μ _ _ w hok hs1 b k ctx q4
          refine ⟨e', a', cm', w', ?_, g2, .of_steps (.one hstep) g3⟩
          have hx : Ext μ s.h w μ (S.put ⟨s.tmps, s.defers, .panicking ({ v, recovered := true } :: older), s.h⟩ o.dst v).h w := by rw [(sput_h _ _ _).1]; exact Ext.refl _ _ _
          exact g1.next hs.hr.lt hx
        · rename_i hno
          have hnone : tryRecover (b.at a (.inRegion ops (i :: (List.range ops.size).drop (i + 1)) :: k)) (ctx cm) = none := tryRec_none rfl hk hs.cm (fun v older hh => hno v older hh)
          rw [hnone] at hstep
          have hs1 : SR E N μ (s.put o.dst .nilIface) (a.put o.dst .nilIface) cm w := hs.put (s := s) (ds := s.defers) (ds' := a.defers) (hp := s.h) (c' := s.cm) hd (Mu.le_refl _) hs.hr .nilIface hs.df hs.cm
          obtain ⟨e', a', cm', w', g1, g2, g3⟩ := ho ops rest (i + 1) _ r s' hrest' e N μ _ cm w hok hs1 b k ctx hk
          refine ⟨e', a', cm', w', ?_, g2, .of_steps (.one hstep) g3⟩
          have hx : Ext μ s.h w μ (s.put o.dst .nilIface).h w := by rw [(sput_h _ _ _).1]; exact Ext.refl _ _ _
          exact g1.next hs.hr.lt hx
      · -- a round
        rename_i L args hop
        obtain ⟨l, args', hL, ha, hrun⟩ := aop_sound hE hs.hr hops hop
        split at e
        · rename_i h' har
          obtain ⟨fn, tmps, as, bd, hy, hround⟩ := around_sound hE hs.hr (Glob.of hs) har hL ha
          obtain ⟨μ1, w1, q1, q2, q3⟩ := hround (b.at a (.inRegion ops (i :: (List.range ops.size).drop (i + 1)) :: k)) (ctx cm)
          have hs1 : SR E N μ1 (S.put ⟨s.tmps, s.defers, s.cm, h'⟩ o.dst (.bool true)) (a.put o.dst (.bool true)) cm w1 := hs.put hd q2.sub q1 (.bool true) (hs.df.mono q2.sub) (hs.cm.mono q2.sub)
          obtain ⟨e', a', cm', w', g1, g2, g3⟩ := ho ops rest (i + 1) _ r s' hrest' e N μ1 _ cm w1 hok hs1 b k ctx hk
          refine ⟨e', a', cm', w', ?_, g2, .of_steps (.head (step_rounds ho? hwant (hrun _ hy)) (by rw [← fin_eq ho?]; exact q3)) g3⟩
          have hx : Ext μ s.h w μ1 (S.put ⟨s.tmps, s.defers, s.cm, h'⟩ o.dst (.bool true)).h w1 := by rw [(sput_h _ _ _).1]; exact q2
          exact g1.next hs.hr.lt hx
        · cases e
      · cases e

end main
end Go.AX

namespace Go.AX

theorem exitTo_len {id : Nat} : ∀ {k k' : List Item}, exitTo id k = some k' → k'.length < k.length
  | [], _, h => by simp [exitTo] at h
  | x :: k, k', h => by
    cases x with
    | inBlock id' =>
      simp only [exitTo] at h
      split at h
      · cases h; simp
      · have := exitTo_len h; simp; omega
    | _ => simp only [exitTo] at h; have := exitTo_len h; simp; omega

theorem steps_same {P : Program} {m0 m1 t : Machine} (h : step P m0 = step P m1) (hne : m1 ≠ t) (hs : Steps P m1 t) : Steps P m0 t := by
  obtain ⟨n, hn⟩ := hs
  cases n with
  | zero => simp [runN] at hn; exact absurd hn hne
  | succ n => exact ⟨n + 1, by simp only [runN] at hn ⊢; rw [h]; exact hn⟩

theorem lone_todo {fr fr' : Frame} {cs cs' : List Frame} {w w' : World} (h : lone fr cs w = lone fr' cs' w') : fr = fr' := by
  have := congrArg (·.gs) h
  simp [lone] at this
  exact this.1

theorem arrives_same {P : Program} {b : Frame} {a0 a : Act} {x : Code} {k : List Item} {cs0 cs : List Frame} {w0 w : World} {m0 : Machine} {e : Exit} (hstep : step P m0 = step P (lone (b.at a0 (.code x :: k)) cs0 w0))
    (hng : ∀ l, e ≠ .goto l) (hno : e ≠ .outgrown) (h : Arrives P (lone (b.at a0 (.code x :: k)) cs0 w0) b k cs e a w) : Arrives P m0 b k cs e a w := by
  cases e with
  | normal =>
    refine steps_same hstep (fun hh => ?_) h
    have := congrArg (fun f : Frame => f.todo.length) (lone_todo hh)
    simp [Frame.at] at this
  | exit id =>
    intro k' hk'
    refine steps_same hstep (fun hh => ?_) (h k' hk')
    have := congrArg (fun f : Frame => f.todo.length) (lone_todo hh)
    have := exitTo_len hk'
    simp [Frame.at] at *
    omega
  | goto l => exact absurd rfl (hng l)
  | ret =>
    obtain ⟨todo, hs⟩ := h
    refine ⟨todo, steps_same hstep (fun hh => ?_) hs⟩
    have := congrArg (fun f : Frame => f.mode) (lone_todo hh)
    simp [Frame.at] at this
  | panic ch =>
    obtain ⟨todo, hs⟩ := h
    refine ⟨todo, steps_same hstep (fun hh => ?_) hs⟩
    have := congrArg (fun f : Frame => f.mode) (lone_todo hh)
    simp [Frame.at] at this
  | outgrown => exact absurd rfl hno

theorem step_scope' {P : Program} {b : Frame} {a : Act} {k : List Item} {cs : List Frame} {w : World} {c : Code} :
    step P (lone (b.at a (.code (.scope c) :: k)) cs w) = .next (lone (b.at a (.code c :: .inScope c :: k)) cs w) :=
  step_lone_go (by simp [stepG, stepG.exec, Frame.at])

theorem step_inScope' {P : Program} {b : Frame} {a : Act} {k : List Item} {cs : List Frame} {w : World} {c : Code} :
    step P (lone (b.at a (.inScope c :: k)) cs w) = .next (lone (b.at a k) cs w) :=
  step_lone_go (by simp [stepG, stepG.exec, Frame.at])

section main
variable {E : Env} (hE : EnvOk E) (hname : ∀ f x, E.fn.get f = some x → x.name ≠ "runtime.NumGoroutine")
  (hcode : ∀ f fn c, E.fn.get f = some fn → fn.body = some c → codeOk E.ng fn.ntmps c = true)

include hE hname in
theorem exec_step {n : Nat} (he : ExecSound E n) (ho : OpsSound E n) (hc : CallSound E n) (hd : DrawSound E n) : ExecSound E (n + 1) := by
  intro c s r s' e N μ a cm w hok hs b k ctx hk
  have refl : ∀ {μ : Mu} {s : S} {a : Act} {cm : FrameMode} {w : World} {r : Exit}, ExR μ r r → SR E N μ s a cm w → Done E N μ s w r s r a cm w := fun hr hs => ⟨_, hr, hs, Ext.refl _ _ _⟩
  simp only [aexec] at e
  split at e
  · cases e; exact ⟨.normal, a, cm, w, refl .normal hs, hk, .one step_skip⟩
  · cases e; exact ⟨.normal, a, cm, w, refl .normal hs, hk, .one step_label⟩
  · -- region in order
    rename_i id ops
    obtain ⟨e', a', cm', w', h1, h2, h3⟩ := ho ops ops.toList 0 s r s' rfl e N μ a cm w (by
      simp only [codeOk] at hok
      exact fun o hm => List.all_eq_true.1 hok o hm) hs b k ctx hk
    exact ⟨e', a', cm', w', h1, h2, .of_steps (.one step_region) h3⟩
  · -- region that draws
    rename_i id ops
    split at e
    · rename_i p hp
      split at e
      · rename_i s1 hg
        split at e
        · rename_i s2 hst
          simp only [Option.some.injEq, Prod.mk.injEq] at e
          obtain ⟨rfl, rfl⟩ := e
          obtain ⟨e', a', w', h1, h2⟩ := hd id ops s s1 s2 p hp hg hst N μ a cm w hok hs b k (ctx cm)
          exact ⟨e', a', cm, w', h1, hk, h2⟩
        · cases e
      · cases e
    · cases e
  · -- seq
    rename_i x y
    simp only [codeOk] at hok
    split at hok
    · rename_i hx
      split at e
      · rename_i s1 h1
        obtain ⟨e1, a1, cm1, w1, ⟨μ1, g1, g2, g3⟩, hk1, harr⟩ := he x s .normal s1 h1 N μ a cm w hx hs b (.code y :: k) ctx hk
        cases g1
        obtain ⟨e2, a2, cm2, w2, k1, k2, k3⟩ := he y s1 r s' e N μ1 a1 cm1 w1 hok g2 b k ctx hk1
        exact ⟨e2, a2, cm2, w2, k1.next hs.hr.lt g3, k2, .of_steps (.head step_seq harr) k3⟩
      · rename_i hne
        obtain ⟨e1, a1, cm1, w1, g1, hk1, harr⟩ := he x s r s' e N μ a cm w hx hs b (.code y :: k) ctx hk
        refine ⟨e1, a1, cm1, w1, g1, hk1, .of_steps (.one step_seq) ?_⟩
        have hne1 : e1 ≠ .normal := by
          rintro rfl
          obtain ⟨μ1, q1, _⟩ := g1.ex
          cases q1
          exact hne s' e
        exact .pass (x := .code y) rfl (fun _ _ => .inl hne1) harr
    · cases hok
  · -- cond
    rename_i c x y
    simp only [codeOk] at hok
    split at hok
    · rename_i hc hx
      have hcv := hs.opnd hc
      generalize hac : a.eval c = ac at hcv
      split at e
      · rename_i hb
        rw [hb] at hcv
        cases hcv
        obtain ⟨e1, a1, cm1, w1, g1, hk1, harr⟩ := he x s r s' e N μ a cm w hx hs b k ctx hk
        exact ⟨e1, a1, cm1, w1, g1, hk1, .of_steps (.one (step_cond hac)) harr⟩
      · rename_i hb
        rw [hb] at hcv
        cases hcv
        obtain ⟨e1, a1, cm1, w1, g1, hk1, harr⟩ := he y s r s' e N μ a cm w hok hs b k ctx hk
        exact ⟨e1, a1, cm1, w1, g1, hk1, .of_steps (.one (step_cond hac)) harr⟩
      · cases e
    · cases hok
  · -- block
    rename_i id x
    simp only [codeOk] at hok
    split at e
    · rename_i id' s1 h1
      obtain ⟨e1, a1, cm1, w1, ⟨μ1, g1, g2, g3⟩, hk1, harr⟩ := he x s _ s1 h1 N μ a cm w hok hs b (.inBlock id :: k) ctx hk
      cases g1
      split at e
      · rename_i hid
        have hid := Nat.eq_of_beq_eq_true hid
        subst hid
        cases e
        exact ⟨.normal, a1, cm1, w1, ⟨μ1, .normal, g2, g3⟩, hk1, .head step_block (harr k (by simp [exitTo]))⟩
      · rename_i hid
        have hid := Nat.ne_of_beq_eq_false hid
        cases e
        refine ⟨.exit id', a1, cm1, w1, ⟨μ1, .exit _, g2, g3⟩, hk1, fun k' hk' => .head step_block (harr k' ?_)⟩
        have : (id == id') = false := by simp; exact fun h => hid h.symm
        simp [exitTo, this, hk']
    · rename_i hne
      obtain ⟨e1, a1, cm1, w1, g1, hk1, harr⟩ := he x s r s' e N μ a cm w hok hs b (.inBlock id :: k) ctx hk
      refine ⟨e1, a1, cm1, w1, g1, hk1, ?_⟩
      obtain ⟨μ1, q1, _⟩ := g1.ex
      cases q1 with
      | normal => exact .head step_block (Steps.trans harr (.one step_inBlock))
      | exit id' => exact absurd e (hne _ _)
      | ret => exact .of_steps (.one step_block) harr
      | panic h => exact .of_steps (.one step_block) harr
  · -- loop
    rename_i x
    have hokx : codeOk E.ng N x = true := by simpa [codeOk] using hok
    split at e
    · rename_i s1 h1
      obtain ⟨e1, a1, cm1, w1, ⟨μ1, g1, g2, g3⟩, hk1, harr⟩ := he x s .normal s1 h1 N μ a cm w hokx hs b (.inLoop x :: k) ctx hk
      cases g1
      obtain ⟨e2, a2, cm2, w2, k1, k2, k3⟩ := he (.loop x) s1 r s' e N μ1 a1 cm1 w1 hok g2 b k ctx hk1
      refine ⟨e2, a2, cm2, w2, k1.next hs.hr.lt g3, k2, ?_⟩
      -- from the loop's item on it goes as from the loop
      have hsame : ∀ cs, step E.P (lone (b.at a1 (.inLoop x :: k)) cs w1) = step E.P (lone (b.at a1 (.code (.loop x) :: k)) cs w1) := fun cs => by rw [step_inLoop, step_loop]
      refine .of_steps (.head step_loop harr) ?_
      obtain ⟨μ2, q1, _⟩ := k1.ex
      exact arrives_same (hsame _) (by intro l hh; subst hh; cases q1) (by intro hh; subst hh; cases q1) k3
    · rename_i hne
      obtain ⟨e1, a1, cm1, w1, g1, hk1, harr⟩ := he x s r s' e N μ a cm w hokx hs b (.inLoop x :: k) ctx hk
      refine ⟨e1, a1, cm1, w1, g1, hk1, .of_steps (.one step_loop) ?_⟩
      have hne1 : e1 ≠ .normal := by
        rintro rfl
        obtain ⟨μ1, q1, _⟩ := g1.ex
        cases q1
        exact hne s' e
      exact .pass (x := .inLoop x) rfl (fun _ _ => .inl hne1) harr
  · -- scope
    rename_i x
    have hokx : codeOk E.ng N x = true := by simpa [codeOk] using hok
    obtain ⟨e1, a1, cm1, w1, g1, hk1, harr⟩ := he x s r s' e N μ a cm w hokx hs b (.inScope x :: k) ctx hk
    refine ⟨e1, a1, cm1, w1, g1, hk1, ?_⟩
    obtain ⟨μ1, q1, _⟩ := g1.ex
    cases q1 with
    | normal => exact .head step_scope' (Steps.trans harr (.one step_inScope'))
    | exit id' => exact fun k' hk' => .head step_scope' (harr k' (by simp [exitTo, hk']))
    | ret => exact .of_steps (.one step_scope') harr
    | panic h => exact .of_steps (.one step_scope') harr
  · cases e; rename_i id; exact ⟨.exit id, a, cm, w, refl (.exit _) hs, hk, fun _ hk' => .one (step_exit hk')⟩
  · cases e; exact ⟨.ret, a, cm, w, refl .ret hs, hk, _, .one step_ret⟩
  · -- range over a function
    rename_i f params assign body
    simp only [codeOk] at hok
    split at hok
    · rename_i hof hops hoa
      split at e
      · rename_i fid first cap hev
        have hf := hs.opnd hof
        rw [hev] at hf
        generalize hac : a.eval f = ac at hf
        cases hf with
        | func h1 h2 =>
          rename_i first' cap'
          split at e
          · rename_i v cmA h2' hcall
            split at e
            · rename_i tm2 ps2 as2 bd2 hobj2
              simp only [Option.some.injEq, Prod.mk.injEq] at e
              obtain ⟨rfl, rfl⟩ := e
              -- the two blocks
              obtain ⟨p1, p2⟩ := hs.hr.alloc (w' := w.alloc (.deferred (some []))) (obj := .deferred (some [])) (x := .dfr) (room := 0) rfl rfl rfl rfl (fun t ht => by cases ht) (getElem?_push_size _ _)
              obtain ⟨μ1, hμ1⟩ : ∃ μ1, μ1 = μ.add s.h.next ⟨w.heap.size, 0, 0⟩ := ⟨_, rfl⟩
              rw [← hμ1] at p1 p2
              have hsz1 : (w.alloc (.deferred (some []))).heap.size = w.heap.size + 1 := World.size_alloc _ _
              let rec_ : Loop := { state := .ready, pending := none, fn := b.fn, tmps := a.tmps, params := params, assign := assign, body := body, defers := w.heap.size }
              have hle2 := p1.le_add ⟨w.heap.size + 1, 0, 0⟩
              have hor : OR (μ1.add (s.h.new .dfr).next ⟨(w.alloc (.deferred (some []))).heap.size, 0, 0⟩) ⟨(w.alloc (.deferred (some []))).heap.size, 0, 0⟩ ((w.alloc (.deferred (some []))).alloc (.loop rec_)) (.loop true s.tmps params.toList assign body) := by
                refine ⟨b.fn, a.tmps, w.heap.size, N, ?_, hs.sz, codeOk_dst hoa, codeOk_dst hok, fun p hp => ?_, fun t => ?_⟩
                · show ((w.alloc (.deferred (some []))).heap.push (.loop rec_))[(w.alloc (.deferred (some []))).heap.size]? = _
                  rw [getElem?_push_size]
                  simp [rec_]
                · have := List.all_eq_true.1 hops p hp
                  simpa [Nat.blt_eq] using this
                · have := (hs.tm t).mono (p2.sub)
                  rw [hsz1]
                  exact this.mono hle2
              obtain ⟨r1, r2⟩ := p1.alloc (w' := (w.alloc (.deferred (some []))).alloc (.loop rec_)) (obj := .loop rec_) (x := .loop true s.tmps params.toList assign body) (room := 0) rfl rfl rfl rfl (fun t ht => by cases ht) hor
              obtain ⟨μ2, hμ2⟩ : ∃ μ2, μ2 = μ1.add (s.h.new .dfr).next ⟨(w.alloc (.deferred (some []))).heap.size, 0, 0⟩ := ⟨_, rfl⟩
              rw [← hμ2] at r1 r2
              have hext := p2.trans hs.hr.lt r2
              have hL : μ2 (s.h.next + 1) = some ⟨w.heap.size + 1, 0, 0⟩ := by
                rw [hμ2, ← hsz1]
                exact Mu.add_self _ _ _
              have hD : μ2 s.h.next = some ⟨w.heap.size, 0, 0⟩ := by
                refine r2.sub _ _ ?_
                rw [hμ1]
                exact Mu.add_self _ _ _
              -- the call
              have hargs : VRL μ2 (first ++ #[Value.func (.yield (s.h.next + 1)) #[] #[]] ++ cap).toList (first' ++ #[Value.func (.yield (w.heap.size + 1)) #[] #[]] ++ cap').toList := by
                simp only [Array.toList_append]
                exact ((h1.mono hext.sub).append (.cons (.yield hL) .nil)).append (h2.mono hext.sub)
              obtain ⟨fnc, c, hf1, hb1⟩ := acall_body hcall
              let b0 : Frame := { b with roundOf := none }
              have hat : ∀ (a : Act) (todo : List Item), b.at a todo = b0.atR a todo := fun a todo => by simp [Frame.at, Frame.atR, b0]
              let a2 : Act := { a with defers := [{ target := .collected w.heap.size, args := #[] }] ++ a.defers }
              have hstep : step E.P (lone (b.at a (.code (.rangeFunc f params assign body) :: k)) (ctx cm) w) = .next (lone (Frame.enter E.P fid (first' ++ #[Value.func (.yield (w.heap.size + 1)) #[] #[]] ++ cap') .normal) (b0.atR a2 (.inRangeFunc (w.heap.size + 1) :: k) :: ctx cm) ((w.alloc (.deferred (some []))).alloc (.loop rec_))) := by
                rw [hat]
                refine stepR_rangeFunc (run_enterLoop_outer _ _ _ _ _) (w₁' := (w.alloc (.deferred (some []))).alloc (.loop rec_)) (d := { target := .fn (.func fid) cap', args := first' ++ #[Value.func (.yield (w.heap.size + 1)) #[] #[]] }) ?_ (call_enter hE hname hf1 hb1 _ _)
                have hmap : (#[Operand.const (Value.func (.yield (w.heap.size + 1)) #[] #[])]).map a.eval = #[Value.func (.yield (w.heap.size + 1)) #[] #[]] := by simp [Act.eval]
                simp only [resolve, hac, Deferred.ofValue, hmap, Sem.run_bind, Sem.run_pure, Result.andThen_ok]
                rfl
              obtain ⟨e2, cm2, w3, fr, μ3, q1, q2, q3, q4, q5, q6, q7, q8, q9⟩ := hc fid _ .run _ (.ret v) cmA h2' hcall μ2 _ .run _ r1 ((Glob.of hs).mono hext.sub) hargs .run .normal (fun _ => b0.atR a2 (.inRangeFunc (w.heap.size + 1) :: k) :: ctx cm) (.inl ⟨rfl, rfl, fun _ => rfl⟩)
              cases e2 with
              | returned v' =>
                have hleave : fr.leaving E.P w3 (.returned v') := ⟨q9.1, q9.2.1, q8, q9.2.2⟩
                have hL3 := q2.sub _ _ hL
                have hor3 := q1.ok _ _ hL3
                rw [hobj2] at hor3
                obtain ⟨fn3, tm3, d3, N3, z1, _⟩ := hor3
                have hend := run_endLoop (P := E.P) z1 (by simp)
                obtain ⟨v1, v2⟩ := q1.putLoop hL3 (x := .dead) (o := .loop { state := .exhausted, pending := none, fn := fn3, tmps := tm3, params := ps2.toArray, assign := as2, body := bd2, defers := d3 }) (by rw [hobj2]; exact fun h => h) (by rw [hobj2]; rfl) rfl trivial
                have hx : Ext μ s.h w μ3 (h2'.upd (s.h.next + 1) .dead) _ := (hext.trans hs.hr.lt q2).trans hs.hr.lt v2
                refine ⟨.normal, a2, cm, _, ⟨μ3, .normal, ⟨v1, fun t => (hs.tm t).mono hx.sub, fun g hg => let ⟨r, hh⟩ := hs.gl g hg; ⟨r, hx.sub _ _ hh⟩, .cons (.inr ⟨_, _, rfl, rfl, q2.sub _ _ hD⟩) (hs.df.mono hx.sub), hs.cm.mono hx.sub, hs.sz⟩, hx⟩, hk, ?_⟩
                refine .head hstep (q6.trans (.head (step_leave_returned hleave) ?_))
                rw [finish_atR_inRangeFunc]
                refine .head (stepR_endRangeFunc hend) ?_
                rw [hat]
                exact Steps.refl _ _
              | panicked ch => exact q4.elim
              | outgrown => exact q4.elim
            · cases e
          · cases e
      · cases e
    · cases hok
  · cases e

include hE in
theorem leave_step {n : Nat} (hc : CallSound E n) (hname : ∀ f x, E.fn.get f = some x → x.name ≠ "runtime.NumGoroutine") (hl : LeaveSound E n) : LeaveSound E (n + 1) := by
  intro fn ds u s res cmA h' e μ ds' u' cm w fr kd ctx hr tm hds hu hcm hgl hmode hdef hfn hkind hk
  cases hds with
  | nil =>
    cases hu with
    | run => simp [aleave] at e
    | returning =>
      simp only [aleave] at e
      split at e
      · rename_i l hres
        simp only [Option.some.injEq, Prod.mk.injEq] at e
        obtain ⟨rfl, rfl, rfl⟩ := e
        obtain ⟨v', h1, h2⟩ := results_sound hE hr tm hres
        exact ⟨.returned v', cm, w, fr, μ, hr, Ext.refl _ _ _, hcm, h2, hk, Steps.refl _ _, rfl, hkind, hmode, hdef, fn, hfn, h1⟩
      · cases e
    | panicking hch =>
      simp only [aleave, Option.some.injEq, Prod.mk.injEq] at e
      obtain ⟨rfl, rfl, rfl⟩ := e
      exact ⟨.panicked _, cm, w, fr, μ, hr, Ext.refl _ _ _, hcm, hch, hk, Steps.refl _ _, rfl, hkind, hmode, hdef, fn, hfn⟩
  | cons hd ht =>
    rename_i d d' dl dl'
    rcases hd with ⟨f, cap, cap', ht1, ht2, hcap, hargs⟩ | ⟨L, r, ht1, ht2, hL⟩
    rotate_left
    · -- a loop's mark
      have hnr : fr.mode ≠ .run := by
        rw [hmode]
        cases hu with
        | run => simp [aleave] at e
        | returning => intro hh; cases hh
        | panicking _ => intro hh; cases hh
      have e2 : (match s.h.obj L with
        | .dfr => aleave E n fn dl u ⟨s.tmps, s.defers, s.cm, s.h.upd L .dead⟩
        | _ => none) = some (res, cmA, h') := by
        cases hu with
        | run => simp [aleave] at e
        | returning => simp only [aleave, ht1] at e; exact e
        | panicking _ => simp only [aleave, ht1] at e; exact e
      clear e
      split at e2
      · rename_i hobj
        have hor := hr.ok L _ hL
        rw [hobj] at hor
        obtain ⟨v1, v2⟩ := hr.putLoop hL (x := .dead) (o := .deferred none) (by rw [hobj]; exact fun h => h) (by rw [hobj]; rfl) rfl trivial
        have hstep := step_collected (cs := ctx cm) hnr hdef ht2 (run_takeDeferred (P := E.P) hor)
        obtain ⟨e3, cm3, w3, fr3, μ3, p1, p2, p3, p4, p5, p6, p7, p8, p9⟩ := hl fn dl u ⟨s.tmps, s.defers, s.cm, s.h.upd L .dead⟩ res cmA h' e2 μ dl' u' cm _ { fr with defers := [] ++ dl' } kd ctx v1
          tm ht hu hcm hgl hmode rfl hfn hkind hk
        exact ⟨e3, cm3, w3, fr3, μ3, p1, v2.trans hr.lt p2, p3, p4, p5, .head hstep p6, p7, p8, p9⟩
      · cases e2
    have hnr : fr.mode ≠ .run ∧ u ≠ .run := by
      constructor
      · rw [hmode]
        cases hu with
        | run => simp [aleave] at e
        | returning => intro hh; cases hh
        | panicking _ => intro hh; cases hh
      · cases hu with
        | run => simp [aleave] at e
        | returning => intro hh; cases hh
        | panicking _ => intro hh; cases hh
    have e2 : (match acall E n f (d.args ++ cap) u s.h with
      | some (.ret _, u', h) => aleave E n fn dl (settle u') ⟨s.tmps, s.defers, s.cm, h⟩
      | some (.pan ch, u', h) => aleave E n fn dl (raised u' ch) ⟨s.tmps, s.defers, s.cm, h⟩
      | none => none) = some (res, cmA, h') := by
      cases hu with
      | run => simp [aleave] at e
      | returning => simp only [aleave, ht1] at e; exact e
      | panicking _ => simp only [aleave, ht1] at e; exact e
    clear e
    have hAR : VRL μ (d.args ++ cap).toList (d'.args ++ cap').toList := by
      simp only [Array.toList_append]
      exact hargs.append hcap
    -- the callee, deferred: its caller is this frame
    have key : ∀ r1 u1 h1, acall E n f (d.args ++ cap) u s.h = some (r1, u1, h1) → ∃ e1 u2 w1 frc μ1, HR μ1 h1 w1 ∧ Ext μ s.h w μ1 h1 w1 ∧ MR μ1 u1 u2 ∧ ResR μ1 r1 e1 ∧
        Steps E.P (lone fr (ctx cm) w) (lone frc ({ { fr with defers := dl' } with mode := u2 } :: ctx cm) w1) ∧ frc.kind = .deferred ∧ frc.going E.P w1 e1 := by
      intro r1 u1 h1 hcall
      obtain ⟨fnc, c, hf, hb⟩ := acall_body hcall
      have henter : (invoke d'.target d'.args).run E.P w = .ok (.enter f (d'.args ++ cap')) w := by
        rw [ht2]
        exact call_enter hE hname hf hb _ w
      obtain ⟨e1, u2, w1, frc, μ1, q1, q2, q3, q4, q5, q6, q7, q8, q9⟩ := hc f _ u s.h r1 u1 h1 hcall μ (d'.args ++ cap') u' w hr hgl hAR hu .deferred (fun m => { { fr with defers := dl' } with mode := m } :: ctx cm) (.inr ⟨rfl, { fr with defers := dl' }, ctx cm, fun _ => rfl⟩)
      refine ⟨e1, u2, w1, frc, μ1, q1, q2, q3, q4, ?_, q8, q9⟩
      have h5 := step_defer (cs := ctx cm) hnr.1 hdef ht2 henter
      have hsame : ({ { fr with defers := dl' } with mode := u' } : Frame) = { fr with defers := dl' } := by rw [← hmode]
      rw [hsame] at q6
      exact .head h5 q6
    split at e2
    · rename_i v u1 h1 hcall
      obtain ⟨e1, u2, w1, frc, μ1, q1, q2, q3, q4, q5, q6, q7⟩ := key _ _ _ hcall
      cases e1 with
      | returned v' =>
        have hstep := step_going_returned (c := { { fr with defers := dl' } with mode := u2 }) (cs := ctx cm) q6 q7
        obtain ⟨e3, cm3, w3, fr3, μ3, p1, p2, p3, p4, p5, p6, p7, p8, p9⟩ := hl fn dl (settle u1) ⟨s.tmps, s.defers, s.cm, h1⟩ res cmA h' e2 μ1 dl' (settle u2) cm w1 { { { fr with defers := dl' } with mode := u2 } with mode := settle u2 } kd ctx q1
          (by intro t; exact (tm t).mono q2.sub) (ht.mono q2.sub) q3.settle (hcm.mono q2.sub) (hgl.mono q2.sub) rfl rfl hfn hkind hk
        exact ⟨e3, cm3, w3, fr3, μ3, p1, q2.trans hr.lt p2, p3, p4, p5, q5.trans (.head hstep p6), p7, p8, p9⟩
      | panicked ch => exact q4.elim
      | outgrown => exact q4.elim
    · rename_i ch u1 h1 hcall
      obtain ⟨e1, u2, w1, frc, μ1, q1, q2, q3, q4, q5, q6, q7⟩ := key _ _ _ hcall
      cases e1 with
      | returned v' => exact q4.elim
      | panicked ch' =>
        have hstep := step_going_panicked (c := { { fr with defers := dl' } with mode := u2 }) (cs := ctx cm) q7
        obtain ⟨e3, cm3, w3, fr3, μ3, p1, p2, p3, p4, p5, p6, p7, p8, p9⟩ := hl fn dl (raised u1 ch) ⟨s.tmps, s.defers, s.cm, h1⟩ res cmA h' e2 μ1 dl' (raised u2 ch') cm w1 { { { fr with defers := dl' } with mode := u2 } with mode := raised u2 ch' } kd ctx q1
          (by intro t; exact (tm t).mono q2.sub) (ht.mono q2.sub) (q3.raised q4) (hcm.mono q2.sub) (hgl.mono q2.sub) rfl rfl hfn hkind hk
        exact ⟨e3, cm3, w3, fr3, μ3, p1, q2.trans hr.lt p2, p3, p4, p5, q5.trans (.head hstep p6), p7, p8, p9⟩
      | outgrown => exact q4.elim
    · cases e2

include hE hcode in
theorem call_step {n : Nat} (horc : OrcOk E) (he : ExecSound E n) (hl : LeaveSound E n) : CallSound E (n + 1) := by
  intro f args cm h res cmA h' e μ args' cm1 w hr hgl hargs hcm kd ctx hk
  simp only [acall] at e
  split at e
  · rename_i fn hf
    split at e
    · rename_i c hb
      split at e
      · rename_i r0 h0 ho
        simp only [Option.some.injEq, Prod.mk.injEq] at e
        obtain ⟨rfl, rfl, rfl⟩ := e
        cases cm with
        | run => exact horc f args.toList h _ _ ho μ args' cm1 w hr hgl hargs hcm kd ctx hk
        | _ => cases ho
      have hP := hE.fn f fn hf
      let b : Frame := { (default : Frame) with fn := f, kind := kd }
      let a0 : Act := { tmps := args' ++ Array.replicate (fn.ntmps - args'.size) undef, defers := [] }
      have henter : Frame.enter E.P f args' kd = b.at a0 [.code c] := by simp [Frame.enter, Frame.at, hP, hb, b, a0]
      have hs : SR E fn.ntmps μ ⟨T.ofList args.toList, [], cm, h⟩ a0 cm1 w := by
        refine ⟨hr, fun t => ?_, hgl.at_, .nil, hcm, by simp [a0]; omega⟩
        simp only [S.eval, Act.eval, T.get_ofList, Array.getD_eq_getD_getElem?, a0]
        have hlen : args.size = args'.size := by have := hargs.length; simpa using this
        cases hv : args.toList[t]? with
        | some v =>
          obtain ⟨v', h1, h2⟩ := hargs.get hv
          have hlt : t < args'.size := by simpa using (List.getElem?_eq_some_iff.1 h1).1
          have h1 : args'[t]? = some v' := by simpa using h1
          rw [Array.getElem?_append_left hlt, h1]
          exact h2
        | none =>
          have hge : args'.size ≤ t := by
            have := List.getElem?_eq_none_iff.1 hv
            simp at this; omega
          rw [Array.getElem?_append_right hge]
          have : ((Array.replicate (fn.ntmps - args'.size) undef)[t - args'.size]?).getD undef = undef := by
            by_cases hlt : t - args'.size < fn.ntmps - args'.size
            · rw [Array.getElem?_replicate, if_pos hlt]; rfl
            · rw [Array.getElem?_replicate, if_neg hlt]; rfl
          rw [this]
          exact undef_rel μ
      have hcd := hcode f fn c hf hb
      have fin : ∀ (r : Exit) (s1 : S) (u : FrameMode), aexec E n c ⟨T.ofList args.toList, [], cm, h⟩ = some (r, s1) → aleave E n fn s1.defers u s1 = some (res, cmA, h') →
          (∀ (e1 : Exit) (a1 : Act) (cm2 : FrameMode) (w1 : World) (μ1 : Mu), ExR μ1 r e1 → Arrives E.P (lone (b.at a0 [.code c]) (ctx cm1) w) b [] (ctx cm2) e1 a1 w1 → ∃ todo u', MR μ1 u u' ∧ Steps E.P (lone (b.at a0 [.code c]) (ctx cm1) w) (lone { b.at a1 todo with mode := u' } (ctx cm2) w1)) →
          ∃ e cm2 w' fr μ', HR μ' h' w' ∧ Ext μ h w μ' h' w' ∧ MR μ' cmA cm2 ∧ ResR μ' res e ∧ KCtx kd ctx cm2 ∧ Steps E.P (lone (Frame.enter E.P f args' kd) (ctx cm1) w) (lone fr (ctx cm2) w') ∧ fr.fn = f ∧ fr.kind = kd ∧ fr.going E.P w' e := by
        intro r s1 u hx hlv harr
        obtain ⟨e1, a1, cm2, w1, ⟨μ1, g1, g2, g3⟩, hk2, hA⟩ := he c _ r s1 hx fn.ntmps μ a0 cm1 w hcd hs b [] ctx hk
        obtain ⟨todo, u', hu, hsteps⟩ := harr e1 a1 cm2 w1 μ1 g1 hA
        obtain ⟨e3, cm3, w3, fr3, μ3, p1, p2, p3, p4, p5, p6, p7, p8, p9⟩ := hl fn s1.defers u s1 res cmA h' hlv μ1 a1.defers u' cm2 w1 { b.at a1 todo with mode := u' } kd ctx g2.hr g2.tm g2.df hu g2.cm (Glob.of g2) rfl rfl hP rfl hk2
        exact ⟨e3, cm3, w3, fr3, μ3, p1, g3.trans hr.lt p2, p3, p4, p5, by rw [henter]; exact hsteps.trans p6, p7, p8, p9⟩
      split at e
      · rename_i s1 hx
        exact fin .normal s1 .returning hx e fun e1 a1 cm2 w1 μ1 hR hA => by
          cases hR
          exact ⟨[], .returning, .returning, Steps.trans hA (.one step_end)⟩
      · rename_i s1 hx
        exact fin .ret s1 .returning hx e fun e1 a1 cm2 w1 μ1 hR hA => by
          cases hR
          obtain ⟨todo, hs⟩ := hA
          exact ⟨todo, .returning, .returning, hs⟩
      · rename_i ch s1 hx
        exact fin (.panic ch) s1 (.panicking ch) hx e fun e1 a1 cm2 w1 μ1 hR hA => by
          cases hR with
          | panic hch =>
            obtain ⟨todo, hs⟩ := hA
            exact ⟨todo, .panicking _, .panicking hch, hs⟩
      · cases e
    · cases e
  · cases e

include hE hname hcode in
theorem all_sound (horc : OrcOk E) (hdraw : ∀ n, (∀ m, m ≤ n → CallSound E m) → DrawSound E n) : ∀ n m, m ≤ n → ExecSound E m ∧ OpsSound E m ∧ CallSound E m ∧ LeaveSound E m
  | 0, m, hm => by
    have : m = 0 := by omega
    subst this
    exact ⟨fun c s r s' e => by simp [aexec] at e, fun ops rest i s r s' _ e => by simp [aops] at e, fun f args cm h res cmA h' e => by simp [acall] at e, fun fn ds u s res cmA h' e => by simp [aleave] at e⟩
  | n + 1, m, hm => by
    have ih := all_sound horc hdraw n
    by_cases h : m ≤ n
    · exact ih m h
    · have : m = n + 1 := by omega
      subst this
      obtain ⟨h1, h2, h3, h4⟩ := ih n (Nat.le_refl _)
      exact ⟨exec_step hE hname h1 h2 h3 (hdraw n fun k hk => (ih k hk).2.2.1), ops_step hE hname h3 h2, call_step hE hcode horc h1 h4, leave_step hE h3 hname h4⟩

end main
end Go.AX
