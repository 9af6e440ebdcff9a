/-
  Calls that are known already, tables of a program, and the quick evaluator, which answers what the evaluator answers.
-/
import Derived.Test.YtkdjecbkgmkngaaGreatDoorAxD
import Derived.Calls
import GoSem.ClaimChange
set_option linter.unusedSectionVars false
set_option linter.unusedSimpArgs false
set_option linter.unusedVariables false
/- What closed calls are known to answer, handed to the evaluator. -/
namespace Go.AX

theorem heap_lt {w : World} {B : Nat} {x : Obj} (h : w.heap[B]? = some x) : B < w.heap.size := by
  rcases Nat.lt_or_ge B w.heap.size with h1 | h1
  · exact h1
  · rw [Array.getElem?_eq_none h1] at h; cases h

theorem Typ_same {m : M} {w w' : World} (hs : ∀ B, B < w.heap.size → w'.heap[B]? = w.heap[B]?) {n : Nat} {cap : Cap} {t : TypeId} (h : Typ m w n cap t) : Typ m w' n cap t := by
  obtain ⟨cs, fz, h1, h2⟩ := h
  exact ⟨cs, fz, by rw [hs _ (heap_lt h1)]; exact h1, h2⟩

theorem OR_same {μ : Mu} {m : M} {w w' : World} (hs : ∀ B, B < w.heap.size → w'.heap[B]? = w.heap[B]?) : ∀ {o : AObj}, OR μ m w o → OR μ m w' o
  | .dead, _ => trivial
  | .cells .., h => by
    obtain ⟨h1, ⟨h2, h3⟩, cs, el, fz, h4, h5⟩ := h
    exact ⟨h1, ⟨h2, Typ_same hs h3⟩, cs, el, fz, by rw [hs _ (heap_lt h4)]; exact h4, h5⟩
  | .map _, h => by
    obtain ⟨e, c, h4, h5⟩ := h
    exact ⟨e, c, by rw [hs _ (heap_lt h4)]; exact h4, h5⟩
  | .iter .., h => by
    obtain ⟨e, h4⟩ := h
    exact ⟨e, by rw [hs _ (heap_lt h4)]; exact h4⟩
  | .loop .., h => by
    obtain ⟨fn, tm', d, N, h4, h5⟩ := h
    exact ⟨fn, tm', d, N, by rw [hs _ (heap_lt h4)]; exact h4, h5⟩
  | .dfr, h => by
    simp only [OR] at h ⊢
    rw [hs _ (heap_lt h)]; exact h

theorem HR_same {μ : Mu} {h : H} {w w' : World} (hs : ∀ B, B < w.heap.size → w'.heap[B]? = w.heap[B]?) (hr : HR μ h w) : HR μ h w' :=
  ⟨hr.lt, fun b m e => OR_same hs (hr.ok b m e), hr.apart, hr.tw⟩

/-- a heap that is only read: nothing in it but flat rows that nobody writes to -/
def roHeap (ng : Nat) (h : H) : Prop := (∀ g, g < ng → h.obj g = .dead ∨ ∃ l n el, h.obj g = .cells (T.ofList l) n .stale ⟨none, el⟩ ∧ flatL l = true) ∧ ng ≤ h.next

/-- it has what another one has -/
def hasTables (ng : Nat) (h0 h : H) : Prop := ∀ g, g < ng → h0.obj g = .dead ∨ h.obj g = h0.obj g

theorem flatL_get : ∀ {l : List Value} {i : Nat} {v : Value}, flatL l = true → l[i]? = some v → flat v = true
  | [], i, v, _, e => by simp at e
  | a :: l, i, v, h, e => by
    simp only [flatL] at h
    split at h
    · rename_i h1
      cases i with
      | zero => simp at e; rw [← e]; exact h1
      | succ i => exact flatL_get h (by simpa using e)
    · cases h

theorem OR_table {μ μ0 : Mu} {m : M} {w : World} {l : List Value} {n : Nat} {tw : Tw} (hl : flatL l = true) (h : OR μ m w (.cells (T.ofList l) n .stale tw)) : OR μ0 m w (.cells (T.ofList l) n .stale tw) := by
  obtain ⟨h1, h2, cs, el, fz, h4, h5, h6, h7⟩ := h
  refine ⟨h1, h2, cs, el, fz, h4, h5, h6, fun i v hi hv => ?_⟩
  obtain ⟨v', e1, e2⟩ := h7 i v hi hv
  have hf := flatL_get hl (by rw [T.get_ofList] at hv; exact hv)
  have := flat_eq e2 hf
  subst this
  exact ⟨_, e1, flat_refl _ _ hf⟩

/-- A CLOSED CALL: what it answers over the tables alone it answers over every memory that has them. -/
theorem orc_flat {E : Env} {n : Nat} (hs : CallSound E n) {h0 h1 : H} (hro : roHeap E.ng h0) {f : FuncId} {args : List Value} {v : Value}
    (hfl : flatL args = true) (hv : flat v = true) (e : acall E n f args.toArray .run h0 = some (.ret v, .run, h1)) {h : H} (hh : hasTables E.ng h0 h)
    (μ : Mu) (args' : Array Value) (cm1 : FrameMode) (w : World) (hr : HR μ h w) (hg : Glob E μ) (ha : VRL μ args args'.toList) (hm : MR μ .run cm1) (kd : CallKind) (ctx : FrameMode → List Frame) (hk : KCtx kd ctx cm1) :
    ∃ e cm2 w' fr μ', HR μ' h w' ∧ Ext μ h w μ' h w' ∧ MR μ' .run cm2 ∧ ResR μ' (.ret v) e ∧ KCtx kd ctx cm2 ∧
      Steps E.P (lone (Frame.enter E.P f args' kd) (ctx cm1) w) (lone fr (ctx cm2) w') ∧ fr.fn = f ∧ fr.kind = kd ∧ fr.going E.P w' e := by
  have e1 := flatL_eq ha hfl
  let μ0 : Mu := fun b => if b < E.ng then μ b else none
  have hin : ∀ b m, μ0 b = some m → b < E.ng ∧ μ b = some m := by
    intro b m hb
    by_cases h : b < E.ng
    · exact ⟨h, by simpa [μ0, h] using hb⟩
    · simp [μ0, h] at hb
  have hRO : ∀ b, b < E.ng → RO (h0.obj b) ∧ (h0.obj b).twin = none := by
    intro b hb
    rcases hro.1 b hb with h1 | ⟨l, n, el, h1, _⟩ <;> rw [h1]
    · exact ⟨trivial, rfl⟩
    · exact ⟨trivial, rfl⟩
  have hr0 : HR μ0 h0 w := by
    refine ⟨fun b m hb => ?_, fun b m hb => ?_, fun b b' m m' hb _ _ _ hn => ?_, fun b m t hb ht => ?_⟩
    · exact Nat.lt_of_lt_of_le (hin b m hb).1 hro.2
    · obtain ⟨h1, h2⟩ := hin b m hb
      rcases hh b h1 with h3 | h3
      · rw [h3]; trivial
      · rcases hro.1 b h1 with h4 | ⟨l, n, el, h4, h5⟩
        · rw [h4]; trivial
        · have h6 := hr.ok b m h2
          rw [h3, h4] at h6
          rw [h4]
          exact OR_table h5 h6
    · exact absurd (hRO b (hin b m hb).1).1 hn
    · rw [(hRO b (hin b m hb).1).2] at ht; cases ht
  have hg0 : Glob E μ0 := ⟨fun g hg' => by
    obtain ⟨r, hr⟩ := hg.at_ g hg'
    exact ⟨r, by simp [μ0, hg', hr]⟩⟩
  have hm0 : MR μ0 .run cm1 := by cases hm; exact .run
  obtain ⟨e2, cm2, w', fr, μ', p1, p2, p3, p4, p5, p6, p7, p8, p9⟩ := hs f args.toArray .run h0 _ _ _ e μ0 args' cm1 w hr0 hg0 (by rw [e1]; exact flatL_refl _ _ hfl) hm0 kd ctx hk
  have hsame : ∀ B, B < w.heap.size → w'.heap[B]? = w.heap[B]? := fun B hB => p2.keep.block B hB fun b m hb _ => (hRO b (hin b m hb).1).1
  refine ⟨e2, cm2, w', fr, μ, HR_same hsame hr, ?_, by cases p3; exact .run, ?_, p5, p6, p7, p8, p9⟩
  · exact ⟨Mu.le_refl _, fun _ _ h => .inl h, fun _ _ h => h, Nat.le_refl _, fun _ _ _ => rfl, ⟨p2.keep.os, p2.keep.tape, p2.keep.output, p2.keep.size, fun B hB _ => hsame B hB⟩⟩
  · cases e2 with
    | returned v' =>
      have hx : VR μ' v v' := p4
      have := flat_eq hx hv
      subst this
      exact flat_refl _ _ hv
    | _ => exact p4.elim
end Go.AX

/- The evaluator's tables of a program. -/
namespace Go.AX

/-- what stands behind a type's name -/
noncomputable def undIn (ts : T TypeInfo) (i : TypeInfo) : TypeDesc := match i.desc with
  | .named _ u => match ts.get u with | some j => j.desc | none => .invalid
  | d => d

noncomputable def envOf (P : Program) (ng : Nat) : Env := ⟨P, T.ofList P.funcs.toList, T.ofList (P.types.toList.map fun i => { u := undIn (T.ofList P.types.toList) i, info := i }), ng, fun _ _ _ => none⟩

noncomputable def typeOk (ts : T TypeInfo) (i : TypeInfo) : Bool := match i.desc with
  | .named _ u => match ts.get u with
    | some _ => match i.zero with | some z => flat z | none => true
    | none => false
  | _ => match i.zero with | some z => flat z | none => true

noncomputable def funcOk (ng : Nat) (fn : Func) : Bool := match decide (fn.name = "runtime.NumGoroutine") with
  | true => false
  | false => match fn.body with | some c => codeOk ng fn.ntmps c | none => true

structure PFacts (P : Program) (ng : Nat) : Prop where
  types : P.types.toList.all (typeOk (T.ofList P.types.toList)) = true
  funcs : P.funcs.toList.all (funcOk ng) = true
  mixed : P.follows .mixedOrders = true

theorem info_of {P : Program} {t : TypeId} {i : TypeInfo} (h : P.types.toList[t]? = some i) : P.info? t = some i := by
  have h1 : P.types[t]? = some i := by simpa using h
  have h2 : t < P.types.size := by
    rcases Nat.lt_or_ge t P.types.size with h3 | h3
    · exact h3
    · rw [Array.getElem?_eq_none h3] at h1; cases h1
  show (if t < P.types.size then P.types[t]? else _) = _
  rw [if_pos h2, h1]

theorem envOf_ty {P : Program} {ng : Nat} (h : PFacts P ng) {orc : FuncId → List Value → H → Option (Res × H)} {t : TypeId} {ti : TI} (e : ({ envOf P ng with orc := orc } : Env).ty.get t = some ti) :
    P.info? t = some ti.info ∧ P.underlying t = some ti.u ∧ ∀ z, ti.info.zero = some z → flat z = true := by
  simp only [envOf, T.get_ofList, List.getElem?_map] at e
  cases hi : P.types.toList[t]? with
  | none => rw [hi] at e; cases e
  | some i =>
    rw [hi] at e
    simp only [Option.map_some, Option.some.injEq] at e
    subst e
    have h0 : P.info? t = some i := info_of hi
    have h1 := List.all_eq_true.1 h.types i (List.mem_of_getElem? hi)
    unfold typeOk at h1
    refine ⟨h0, ?_, ?_⟩
    · rcases i with ⟨d, a1, a2, a3, a4, a5, a6, a7, a8, a9⟩
      cases d <;> simp only [Program.underlying, h0, undIn]
      simp only at h1
      split at h1
      · rename_i j hj
        have h2 := info_of (show P.types.toList[_]? = some j by rw [T.get_ofList] at hj; exact hj)
        simp [h2]
      · cases h1
    · intro z hz
      split at h1
      · split at h1
        · rw [hz] at h1; exact h1
        · cases h1
      · rw [hz] at h1; exact h1

theorem envOf_ok {P : Program} {ng : Nat} (h : PFacts P ng) {orc : FuncId → List Value → H → Option (Res × H)} : EnvOk { envOf P ng with orc := orc } where
  ty := fun t ti e => ⟨(envOf_ty h e).1, (envOf_ty h e).2.1⟩
  fn := by
    intro f x e
    simp only [envOf, T.get_ofList] at e
    simpa [envOf] using e
  zero := fun t ti z e hz => (envOf_ty h e).2.2 z hz

theorem funcOk_of {P : Program} {ng : Nat} (h : PFacts P ng) {orc : FuncId → List Value → H → Option (Res × H)} {f : FuncId} {x : Func} (e : ({ envOf P ng with orc := orc } : Env).fn.get f = some x) : funcOk ng x = true := by
  simp only [envOf, T.get_ofList] at e
  exact List.all_eq_true.1 h.funcs x (List.mem_of_getElem? e)

theorem envOf_sound {P : Program} {ng : Nat} (h : PFacts P ng) {orc : FuncId → List Value → H → Option (Res × H)} (ho : OrcOk { envOf P ng with orc := orc }) (n : Nat) : CallSound { envOf P ng with orc := orc } n := by
  refine ax_sound (envOf_ok h) (fun f x e => ?_) (fun f fn c e hb => ?_) h.mixed ho n
  · have := funcOk_of h e
    unfold funcOk at this
    split at this
    · cases this
    · rename_i h2; simpa using h2
  · have := funcOk_of h e
    unfold funcOk at this
    split at this
    · cases this
    · rw [hb] at this; exact this

theorem orcOk_none {P : Program} {ng : Nat} : OrcOk (envOf P ng) := fun _ _ _ _ _ e => by cases e

/-- a table of known calls; the memory is left as it is -/
structure Known where
  f : FuncId
  args : List Value
  v : Value

noncomputable def lookK (f : FuncId) (args : List Value) : List Known → Option Value
  | [] => none
  | k :: l => match Nat.beq k.f f, veqL k.args args with
    | true, true => some k.v
    | _, _ => lookK f args l

noncomputable def optEq : Option Value → Option Value → Bool
  | none, none => true
  | some a, some b => veq a b
  | _, _ => false

noncomputable def tEq : T Value → T Value → Bool
  | .e, .e => true
  | .n a v b, .n a' v' b' => match tEq a a', optEq v v' with | true, true => tEq b b' | _, _ => false
  | _, _ => false

/-- does it have the tables of the list? -/
noncomputable def tablesOk (h0 : H) : List Nat → H → Bool
  | [], _ => true
  | g :: gs, h => match h0.obj g, h.obj g with
    | .cells c n .stale ⟨none, el⟩, .cells c' n' .stale ⟨none, el'⟩ => match Nat.beq n n', Nat.beq el el', tEq c c' with
      | true, true, true => tablesOk h0 gs h
      | _, _, _ => false
    | _, _ => false

noncomputable def knownOrc (h0 : H) (gs : List Nat) (ks : List Known) (f : FuncId) (args : List Value) (h : H) : Option (Res × H) :=
  match lookK f args ks with
  | some v => match tablesOk h0 gs h with | true => some (.ret v, h) | false => none
  | none => none

theorem tEq_eq : ∀ {a b : T Value}, tEq a b = true → a = b
  | .e, .e, _ => rfl
  | .n a v b, .n a' v' b', h => by
    simp only [tEq] at h
    split at h
    · rename_i h1 h2
      have e1 := tEq_eq h1
      have e2 := tEq_eq h
      have e3 : v = v' := by
        cases v <;> cases v' <;> simp only [optEq] at h2 <;> first | rfl | cases h2 | (rw [veq_eq _ _ h2])
      rw [e1, e2, e3]
    · cases h
  | .e, .n .., h => by cases h
  | .n .., .e, h => by cases h

theorem tablesOk_of {h0 : H} : ∀ {gs : List Nat} {h : H}, tablesOk h0 gs h = true → ∀ g ∈ gs, h.obj g = h0.obj g
  | [], _, _, g, hg => by simp at hg
  | x :: gs, h, e, g, hg => by
    simp only [tablesOk] at e
    split at e
    · rename_i c n el c' n' el' h1 h2
      split at e
      · rename_i e1 e2 e3
        have e1 := Nat.eq_of_beq_eq_true e1
        have e2 := Nat.eq_of_beq_eq_true e2
        have e3 := tEq_eq e3
        subst e1 e2 e3
        rcases List.mem_cons.1 hg with rfl | hg
        · rw [h1, h2]
        · exact tablesOk_of e g hg
      · cases e
    · cases e

theorem lookK_mem {f : FuncId} {args : List Value} {v : Value} : ∀ {ks : List Known}, lookK f args ks = some v → ∃ k ∈ ks, k.f = f ∧ k.args = args ∧ k.v = v
  | [], h => by cases h
  | k :: l, h => by
    simp only [lookK] at h
    split at h
    · rename_i h1 h2
      exact ⟨k, by simp, Nat.eq_of_beq_eq_true h1, veqL_eq _ _ h2, by simpa using h⟩
    · obtain ⟨k', h1, h2⟩ := lookK_mem h
      exact ⟨k', by simp [h1], h2⟩

/-- each of these calls was run over the tables alone -/
def Known.Ran (E : Env) (h0 : H) (k : Known) : Prop := flatL k.args = true ∧ flat k.v = true ∧ ∃ n h1, acall E n k.f k.args.toArray .run h0 = some (.ret k.v, .run, h1)

theorem knownOrc_ok {P : Program} {ng : Nat} (hp : PFacts P ng) {orc0 : FuncId → List Value → H → Option (Res × H)} (ho : OrcOk { envOf P ng with orc := orc0 }) {h0 : H} {gs : List Nat} {ks : List Known} (hro : roHeap ng h0)
    (hgs : ∀ g, g < ng → h0.obj g = .dead ∨ g ∈ gs) (hks : ∀ k ∈ ks, k.Ran { envOf P ng with orc := orc0 } h0) : OrcOk { envOf P ng with orc := knownOrc h0 gs ks } := by
  intro f args h res h' e μ args' cm1 w hr hg ha hm kd ctx hk
  simp only [knownOrc] at e
  split at e
  · rename_i v hv
    split at e
    · rename_i ht
      simp only [Option.some.injEq, Prod.mk.injEq] at e
      obtain ⟨rfl, rfl⟩ := e
      obtain ⟨k, hmem, rfl, rfl, rfl⟩ := lookK_mem hv
      obtain ⟨f1, f2, n, h1, f3⟩ := hks k hmem
      have hg' : Glob { envOf P ng with orc := orc0 } μ := ⟨hg.at_⟩
      exact orc_flat (envOf_sound hp ho n) hro f1 f2 f3 (fun g hgn => (hgs g hgn).imp id fun hm => tablesOk_of ht g hm) μ args' cm1 w hr hg' ha hm kd ctx hk
    · cases e
  · cases e

end Go.AX

/- The evaluator once more, as the kernel runs it quickest: what hangs on the code alone is laid out once. It answers what the evaluator answers. -/
namespace Go.AX
noncomputable section

/-! ### trees -/
/-- the tree is laid out, then handed on -/
def T.seq {α β : Type} (t : T α) (k : T α → β) : β :=
  T.rec (motive := fun _ => (T α → β) → β) (fun k => k .e) (fun l v r _ _ k => k (.n l v r)) t k

theorem T.seq_eq {α β : Type} (t : T α) (k : T α → β) : t.seq k = k t := by cases t <;> rfl

structure GW where
  run : T Value → Value
structure PW where
  run : T Value → Value → T Value

def getZ (t : T Value) : Value := T.rec (motive := fun _ => Value) undef (fun _ v _ _ _ => Option.rec (motive := fun _ => Value) undef (fun v => v) v) t
def getL (g : GW) (t : T Value) : Value := T.rec (motive := fun _ => GW → Value) (fun _ => undef) (fun l _ _ _ _ g => g.run l) t g
def getR (g : GW) (t : T Value) : Value := T.rec (motive := fun _ => GW → Value) (fun _ => undef) (fun _ _ r _ _ g => g.run r) t g
def getC (f : Nat) : Nat → GW :=
  Nat.rec (motive := fun _ => Nat → GW) (fun _ => ⟨getZ⟩) (fun _ ih i => Nat.rec (motive := fun _ => GW) ⟨getZ⟩ (fun j _ => Nat.rec (motive := fun _ => GW) ⟨getL (ih (Nat.div j 2))⟩ (fun _ _ => ⟨getR (ih (Nat.div j 2))⟩) (Nat.mod j 2)) i) f

def putZ (t : T Value) (v : Value) : T Value := T.rec (motive := fun _ => Value → T Value) (fun v => .n .e (some v) .e) (fun l _ r _ _ v => .n l (some v) r) t v
def putL (p : PW) (t : T Value) (v : Value) : T Value := T.rec (motive := fun _ => PW → Value → T Value) (fun p v => (p.run .e v).seq fun l => .n l none .e) (fun l x r _ _ p v => (p.run l v).seq fun l => .n l x r) t p v
def putR (p : PW) (t : T Value) (v : Value) : T Value := T.rec (motive := fun _ => PW → Value → T Value) (fun p v => (p.run .e v).seq fun r => .n .e none r) (fun l x r _ _ p v => (p.run r v).seq fun r => .n l x r) t p v
def putC (f : Nat) : Nat → PW :=
  Nat.rec (motive := fun _ => Nat → PW) (fun _ => ⟨putZ⟩) (fun _ ih i => Nat.rec (motive := fun _ => PW) ⟨putZ⟩ (fun j _ => Nat.rec (motive := fun _ => PW) ⟨putL (ih (Nat.div j 2))⟩ (fun _ _ => ⟨putR (ih (Nat.div j 2))⟩) (Nat.mod j 2)) i) f

theorem getC_eq : ∀ (f i : Nat) (t : T Value), i ≤ f → (getC f i).run t = match t.get i with | some v => v | none => undef
  | f, 0, t, _ => by
    have : getC f 0 = ⟨getZ⟩ := by cases f <;> rfl
    rw [this]
    cases t with
    | e => rfl
    | n l v r => cases v <;> rfl
  | 0, i + 1, t, h => by omega
  | f + 1, i + 1, t, h => by
    rcases Nat.mod_two_eq_zero_or_one i with hp | hp
    · have : getC (f + 1) (i + 1) = ⟨getL (getC f (i / 2))⟩ := by
        show Nat.rec (motive := fun _ => GW) ⟨getL (getC f (i / 2))⟩ (fun _ _ => ⟨getR (getC f (i / 2))⟩) (i % 2) = _
        rw [hp]; rfl
      rw [this]
      cases t with
      | e => rfl
      | n l v r =>
        rw [T.get_n]
        show (getC f (i / 2)).run l = _
        rw [getC_eq f (i / 2) l (by omega)]
        simp [hp]
    · have : getC (f + 1) (i + 1) = ⟨getR (getC f (i / 2))⟩ := by
        show Nat.rec (motive := fun _ => GW) ⟨getL (getC f (i / 2))⟩ (fun _ _ => ⟨getR (getC f (i / 2))⟩) (i % 2) = _
        rw [hp]; rfl
      rw [this]
      cases t with
      | e => rfl
      | n l v r =>
        rw [T.get_n]
        show (getC f (i / 2)).run r = _
        rw [getC_eq f (i / 2) r (by omega)]
        simp [hp]

theorem putC_set : ∀ (f g i : Nat) (t : T Value) (v : Value), i ≤ f → i < g → (putC f i).run t v = T.set g t i (some v)
  | f, 0, i, t, v, _, h => by omega
  | f, g + 1, 0, t, v, _, _ => by
    have : putC f 0 = ⟨putZ⟩ := by cases f <;> rfl
    rw [this]
    cases t with
    | e => rfl
    | n l x r => rfl
  | 0, g + 1, i + 1, t, v, h, _ => by omega
  | f + 1, g + 1, i + 1, t, v, h, h2 => by
    rcases Nat.mod_two_eq_zero_or_one i with hp | hp
    · have : putC (f + 1) (i + 1) = ⟨putL (putC f (i / 2))⟩ := by
        show Nat.rec (motive := fun _ => PW) ⟨putL (putC f (i / 2))⟩ (fun _ _ => ⟨putR (putC f (i / 2))⟩) (i % 2) = _
        rw [hp]; rfl
      rw [this]
      cases t with
      | e =>
        rw [T.set_e]
        show ((putC f (i / 2)).run .e v).seq (fun l => T.n l none .e) = _
        rw [T.seq_eq, putC_set f g (i / 2) _ v (by omega) (by omega)]
        simp [hp]
      | n l x r =>
        rw [T.set_n]
        show ((putC f (i / 2)).run l v).seq (fun l => T.n l x r) = _
        rw [T.seq_eq, putC_set f g (i / 2) _ v (by omega) (by omega)]
        simp [hp]
    · have : putC (f + 1) (i + 1) = ⟨putR (putC f (i / 2))⟩ := by
        show Nat.rec (motive := fun _ => PW) ⟨putL (putC f (i / 2))⟩ (fun _ _ => ⟨putR (putC f (i / 2))⟩) (i % 2) = _
        rw [hp]; rfl
      rw [this]
      cases t with
      | e =>
        rw [T.set_e]
        show ((putC f (i / 2)).run .e v).seq (fun r => T.n .e none r) = _
        rw [T.seq_eq, putC_set f g (i / 2) _ v (by omega) (by omega)]
        simp [hp]
      | n l x r =>
        rw [T.set_n]
        show ((putC f (i / 2)).run r v).seq (fun r => T.n l x r) = _
        rw [T.seq_eq, putC_set f g (i / 2) _ v (by omega) (by omega)]
        simp [hp]

theorem putC_eq (i : Nat) (t : T Value) (v : Value) : (putC i i).run t v = t.put i v := putC_set i (i + 1) i t v (Nat.le_refl _) (Nat.lt_succ_self _)

/-! ### operands -/
def kv (v : Value) (_ : T Value) : Value := v
/-- an operand, laid out -/
def evC (x : Operand) : GW :=
  Operand.rec (motive := fun _ => GW) (fun t => getC t t) (fun v => ⟨kv v⟩) (fun g => ⟨kv (.pointer (some ⟨g, 0, none⟩))⟩) (fun f => ⟨kv (.func (.func f) #[] #[])⟩) x

/-- what operands are worth over these temporaries -/
def evT (t : T Value) : Operand → Value
  | .tmp i => match t.get i with | some v => v | none => undef
  | .const v => v
  | .global g => .pointer (some ⟨g, 0, none⟩)
  | .func f => .func (.func f) #[] #[]

theorem evT_eval (s : S) : s.eval = evT s.tmps := by funext x; cases x <;> rfl

theorem evC_eq (x : Operand) (t : T Value) : (evC x).run t = evT t x := by
  cases x with
  | tmp i => exact getC_eq i i t (Nat.le_refl _)
  | _ => rfl


/-! ### what stands behind an operation -/
inductive FC where
  | fail
  | ret (v : Value) (m : FrameMode) (h : H)
  | pan (ch : List PanicEntry) (m : FrameMode) (h : H)

inductive FR where
  | fail
  | norm (t : T Value) (d : List Deferred) (m : FrameMode) (h : H)
  | ret (t : T Value) (d : List Deferred) (m : FrameMode) (h : H)
  | exit (id : Nat) (t : T Value) (d : List Deferred) (m : FrameMode) (h : H)
  | pan (ch : List PanicEntry) (t : T Value) (d : List Deferred) (m : FrameMode) (h : H)

abbrev CF := FuncId → List Value → FrameMode → H → FC

def H.seq {β : Type} (h : H) (k : H → β) : β := H.rec (motive := fun _ => (H → β) → β) (fun t n k => t.seq fun t => k ⟨t, n⟩) h k
theorem H.seq_eq {β : Type} (h : H) (k : H → β) : h.seq k = k h := by cases h with | mk t n => exact T.seq_eq t _

structure QW where
  run : T Value → H → Option Value
structure KW where
  run : CF → FrameMode → List Deferred → T Value → H → FR
structure CW where
  run : CF → Nat → FrameMode → List Deferred → T Value → H → FR

def failK : KW := ⟨fun _ _ _ _ _ => .fail⟩
def nilK : KW := ⟨fun _ m d t h => .norm t d m h⟩
def putD (d : Option Tmp) : PW := match d with
  | none => ⟨fun t _ => t⟩
  | some d => putC d d

/-! values -/
def qMove (x : GW) (t : T Value) (_ : H) : Option Value := some (x.run t)
def qPick (c a b : GW) (t : T Value) (_ : H) : Option Value := match c.run t with | .bool true => some (a.run t) | .bool false => some (b.run t) | _ => none
def qLoadN (n : Nat) (x : GW) (t : T Value) (h : H) : Option Value := match x.run t with
  | .pointer (some ⟨b, i, none⟩) => match h.read b i n with | some l => some (.agg l.toArray) | none => none
  | _ => none
def qLoad1 (x : GW) (t : T Value) (h : H) : Option Value := match x.run t with
  | .pointer (some ⟨b, i, none⟩) => match h.obj b with
    | .cells c sz _ _ => match Nat.ble (i + 1) sz with | true => c.get i | false => none
    | _ => none
  | _ => none
def qFA (off : Nat) (x : GW) (t : T Value) (_ : H) : Option Value := match x.run t with
  | .pointer (some ⟨b, i, none⟩) => some (.pointer (some ⟨b, i + off, none⟩))
  | _ => none
def qIA (w : Nat) (x ix : GW) (t : T Value) (_ : H) : Option Value := match x.run t with
  | .slice (some ⟨b, i, none⟩) len z => match asIdx (ix.run t) len with
    | some k => match Nat.beq z (w + 1) with
      | true => some (.pointer (some ⟨b, i + k * (w + 1), none⟩))
      | false => none
    | none => none
  | _ => none
def qBin (E : Env) (op : BinOp) (o : Oper) (x y : GW) (t : T Value) (h : H) : Option Value := match abin op (x.run t) (y.run t) with
  | some v => some v
  | none => aquiet E (evT t) h o
def qExt (x : GW) (i : Nat) (t : T Value) (_ : H) : Option Value := match x.run t with
  | .tuple vs => vs.toList[i]?
  | _ => none
def qLen (E : Env) (o : Oper) (x : GW) (t : T Value) (h : H) : Option Value := match x.run t with
  | .slice _ n _ => some (.int .i64 n)
  | _ => aquiet E (evT t) h o
def qGen (E : Env) (o : Oper) (t : T Value) (h : H) : Option Value := aquiet E (evT t) h o

def isIntBin : BinOp → Bool
  | .add | .sub | .eql | .neq | .lss | .leq => true
  | _ => false

def isSliceT (E : Env) (c : Call) : Bool := match c.argTypes.toList with
  | t :: _ => match E.und t with | some (.slice _) => true | _ => false
  | [] => false

/-- what an operation gives that changes nothing -/
def qC (E : Env) (o : Oper) : QW := match o.op with
  | .move x => ⟨qMove (evC x)⟩
  | .assign x => ⟨qMove (evC x)⟩
  | .pick c a b => ⟨qPick (evC c) (evC a) (evC b)⟩
  | .load ty x => match E.ty.get ty with
    | some ti => match isAggD ti.u with
      | true => ⟨qLoadN ti.info.size (evC x)⟩
      | false => ⟨qLoad1 (evC x)⟩
    | none => ⟨qGen E o⟩
  | .fieldAddr ty x f => match E.und ty with
    | some (.struct fs) => match fs[f]? with
      | some fd => match E.size fd.type with
        | some (_ + 1) => ⟨qFA fd.offset (evC x)⟩
        | _ => ⟨qGen E o⟩
      | none => ⟨qGen E o⟩
    | _ => ⟨qGen E o⟩
  | .indexAddr ty x ix => match E.und ty with
    | some (.slice el) => match E.size el with
      | some (w + 1) => ⟨qIA w (evC x) (evC ix)⟩
      | _ => ⟨qGen E o⟩
    | _ => ⟨qGen E o⟩
  | .binOp op _ x y _ => match isIntBin op with
    | true => ⟨qBin E op o (evC x) (evC y)⟩
    | false => ⟨qGen E o⟩
  | .extract x i => ⟨qExt (evC x) i⟩
  | .call c => match c.callee, c.args.toList, isSliceT E c with
    | .builtin .len, [x], true => ⟨qLen E o (evC x)⟩
    | _, _, _ => ⟨qGen E o⟩
  | _ => ⟨qGen E o⟩

def isLen (c : Call) : Bool := match c.callee with | .builtin .len => true | _ => false

def isFreshOp : Op → Bool
  | .alloc _ | .box .. | .buildSlice .. | .makeMap _ none | .makeSlice .. => true
  | _ => false

/-! one operation, then what stands behind it -/
def kQ (q : QW) (p : PW) (k : KW) (cf : CF) (m : FrameMode) (d : List Deferred) (t : T Value) (h : H) : FR :=
  match q.run t h with
  | some v => (p.run t v).seq fun t => k.run cf m d t h
  | none => .fail

def kFresh (E : Env) (o : Oper) (p : PW) (k : KW) (cf : CF) (m : FrameMode) (d : List Deferred) (t : T Value) (h : H) : FR :=
  match afresh E (evT t) o with
  | some (x, f) => (h.new x).seq fun h' => (p.run t (f h.next)).seq fun t => k.run cf m d t h'
  | none => .fail

def afterCall (pn : Bool) (p : PW) (k : KW) (cf : CF) (m : FrameMode) (d : List Deferred) (t : T Value) : FC → FR
  | .ret v _ h => h.seq fun h => (p.run t v).seq fun t => k.run cf m d t h
  | .pan ch _ h => match pn with | true => .pan ch t d m h | false => .fail
  | .fail => .fail

def runL (t : T Value) : List GW → List Value
  | [] => []
  | g :: gs => g.run t :: runL t gs

def kCall (pn : Bool) (f : FuncId) (args : List GW) (p : PW) (k : KW) (cf : CF) (m : FrameMode) (d : List Deferred) (t : T Value) (h : H) : FR :=
  afterCall pn p k cf m d t (cf f (runL t args) .run h)

def kGen (E : Env) (pn : Bool) (o : Oper) (p : PW) (k : KW) (cf : CF) (m : FrameMode) (d : List Deferred) (t : T Value) (h : H) : FR :=
  match aop E (evT t) h o with
  | some (.value v h) => h.seq fun h => (p.run t v).seq fun t => k.run cf m d t h
  | some (.enter f args) => afterCall pn p k cf m d t (cf f args.toList .run h)
  | some (.panic v) => match pn with | true => .pan [{ v, recovered := false }] t d m h | false => .fail
  | some (.defer df) => match pn with | true => (p.run t undef).seq fun t => k.run cf m (df :: d) t h | false => .fail
  | some .recover => match pn with
    | true => match m with
      | .panicking ({ v, recovered := false, goexit := false } :: older) => (p.run t v).seq fun t => k.run cf (.panicking ({ v, recovered := true } :: older)) d t h
      | _ => (p.run t .nilIface).seq fun t => k.run cf m d t h
    | false => .fail
  | some (.round L args) => match pn with
    | true => match around E L args h with
      | some h => h.seq fun h => (p.run t (.bool true)).seq fun t => k.run cf m d t h
      | none => .fail
    | false => .fail
  | none => .fail

def kCallV (E : Env) (pn : Bool) (o : Oper) (f : GW) (args : List GW) (p : PW) (k : KW) (cf : CF) (m : FrameMode) (d : List Deferred) (t : T Value) (h : H) : FR :=
  match f.run t with
  | .func (.func f) first cap => match E.fn.get f with
    | some fn => match fn.body with
      | some _ => afterCall pn p k cf m d t (cf f (first.toList ++ (runL t args ++ cap.toList)) .run h)
      | none => kGen E pn o p k cf m d t h
    | none => .fail
  | _ => kGen E pn o p k cf m d t h

/-- an operation that is wanted -/
def opU (E : Env) (pn : Bool) (o : Oper) (k : KW) : KW := match isQuietOp o.op, isFreshOp o.op with
  | true, _ => ⟨kQ (qC E o) (putD o.dst) k⟩
  | false, true => ⟨kFresh E o (putD o.dst) k⟩
  | false, false => match o.op with
    | .call c => match c.callee with
      | .value (.func f) => match E.fn.get f with
        | some fn => match fn.body with
          | some _ => ⟨kCall pn f (c.args.toList.map evC) (putD o.dst) k⟩
          | none => ⟨kGen E pn o (putD o.dst) k⟩
        | none => ⟨kGen E pn o (putD o.dst) k⟩
      | .value (.tmp x) => ⟨kCallV E pn o (evC (.tmp x)) (c.args.toList.map evC) (putD o.dst) k⟩
      | .builtin .len => ⟨kQ (qC E o) (putD o.dst) k⟩
      | _ => ⟨kGen E pn o (putD o.dst) k⟩
    | _ => ⟨kGen E pn o (putD o.dst) k⟩

def kGuard (ops : List Oper) (o : Oper) (u : KW) (p : PW) (k : KW) (cf : CF) (m : FrameMode) (d : List Deferred) (t : T Value) (h : H) : FR :=
  match wantedA ops (evT t) o with
  | true => u.run cf m d t h
  | false => (p.run t undef).seq fun t => k.run cf m d t h

/-- an operation -/
def opK (ops : List Oper) (o : Oper) (u : KW) (k : KW) : KW := match o.guard with
  | none => u
  | some _ => ⟨kGuard ops o u (putD o.dst) k⟩

def opsK (E : Env) (ops : List Oper) : List Oper → KW
  | [] => nilK
  | o :: rest => opK ops o (opU E true o (opsK E ops rest)) (opsK E ops rest)

/-! statements whose order is open -/
def kFreshG (E : Env) (o : Oper) (p : PW) (k : KW) (cf : CF) (m : FrameMode) (d : List Deferred) (t : T Value) (h : H) : FR :=
  match afresh E (evT t) o, h.t.get h.next with
  | some (x, f), none => (h.new x).seq fun h' => (p.run t (f h.next)).seq fun t => k.run cf m d t h'
  | _, _ => .fail

def gU (E : Env) (o : Oper) (k : KW) : KW := match opCls E o.op with
  | 0 | 1 => ⟨kQ (qC E o) (putD o.dst) k⟩
  | 2 => ⟨kFreshG E o (putD o.dst) k⟩
  | _ => failK

def groupK (E : Env) (ops : List Oper) : List Nat → KW → KW
  | [], k => k
  | i :: l, k => match ops[i]? with
    | none => failK
    | some o => opK ops o (gU E o (groupK E ops l k)) (groupK E ops l k)

def kRe (E : Env) (ops : List Oper) (rc : List Nat) (k : KW) (cf : CF) (m : FrameMode) (d : List Deferred) (t : T Value) (h : H) : FR :=
  match arecheck E ops ⟨t, d, m, h⟩ rc with
  | true => k.run cf m d t h
  | false => .fail

def reK (E : Env) (ops : List Oper) (rc : List Nat) (k : KW) : KW := match rc with
  | [] => k
  | _ => ⟨kRe E ops rc k⟩

def kSwap (E : Env) (ops : List Oper) (st : Stage) (rest : List Stage) (k : KW) (cf : CF) (m : FrameMode) (d : List Deferred) (t : T Value) (h : H) : FR :=
  match swapOk E ops ⟨t, d, m, h⟩ st rest with
  | true => k.run cf m d t h
  | false => .fail

def swK (E : Env) (ops : List Oper) (st : Stage) (rest : List Stage) (k : KW) : KW := match st.sw with
  | false => k
  | true => ⟨kSwap E ops st rest k⟩

def stagesK (E : Env) (ops : List Oper) : List Stage → KW
  | [] => nilK
  | st :: rest => match ops[st.c]? with
    | none => failK
    | some o => swK E ops st rest (opK ops o (opU E false o (reK E ops st.rc (groupK E ops st.g (stagesK E ops rest)))) (reK E ops st.rc (groupK E ops st.g (stagesK E ops rest))))

def drawK (E : Env) (ops : List Oper) : KW := match planOf E ops with
  | some p => groupK E ops p.g (stagesK E ops p.st)
  | none => failK

/-! code -/
def cSkip (_ : CF) (_ : Nat) (m : FrameMode) (d : List Deferred) (t : T Value) (h : H) : FR := .norm t d m h
def cFail (_ : CF) (_ : Nat) (_ : FrameMode) (_ : List Deferred) (_ : T Value) (_ : H) : FR := .fail
def cRet (_ : CF) (_ : Nat) (m : FrameMode) (d : List Deferred) (t : T Value) (h : H) : FR := .ret t d m h
def cExit (id : Nat) (_ : CF) (_ : Nat) (m : FrameMode) (d : List Deferred) (t : T Value) (h : H) : FR := .exit id t d m h
def cReg (k : KW) (cf : CF) (_ : Nat) (m : FrameMode) (d : List Deferred) (t : T Value) (h : H) : FR := k.run cf m d t h
def cSeq (a b : CW) (cf : CF) (n : Nat) (m : FrameMode) (d : List Deferred) (t : T Value) (h : H) : FR :=
  match a.run cf n m d t h with
  | .norm t d m h => b.run cf n m d t h
  | r => r
def cCond (c : GW) (a b : CW) (cf : CF) (n : Nat) (m : FrameMode) (d : List Deferred) (t : T Value) (h : H) : FR :=
  match c.run t with
  | .bool true => a.run cf n m d t h
  | .bool false => b.run cf n m d t h
  | _ => .fail
def cBlock (id : Nat) (b : CW) (cf : CF) (n : Nat) (m : FrameMode) (d : List Deferred) (t : T Value) (h : H) : FR :=
  match b.run cf n m d t h with
  | .exit id' t d m h => match Nat.beq id' id with
    | true => .norm t d m h
    | false => .exit id' t d m h
  | r => r
def loopN (b : CW) (cf : CF) (n : Nat) : Nat → FrameMode → List Deferred → T Value → H → FR :=
  Nat.rec (motive := fun _ => FrameMode → List Deferred → T Value → H → FR) (fun _ _ _ _ => .fail) (fun _ ih m d t h => match b.run cf n m d t h with
    | .norm t d m h => ih m d t h
    | r => r)
def cLoop (b : CW) (cf : CF) (n : Nat) (m : FrameMode) (d : List Deferred) (t : T Value) (h : H) : FR := loopN b cf n n m d t h
def cRange (f : GW) (params : List Tmp) (assign body : Code) (cf : CF) (_ : Nat) (m : FrameMode) (d : List Deferred) (t : T Value) (h : H) : FR :=
  match f.run t with
  | .func (.func fid) first cap => match cf fid (first ++ #[Value.func (.yield (h.next + 1)) #[] #[]] ++ cap).toList .run ((h.new .dfr).new (.loop true t params assign body)) with
    | .ret _ _ h2 => match h2.obj (h.next + 1) with
      | .loop true .. => .norm t ({ target := .collected h.next, args := #[] } :: d) m (h2.upd (h.next + 1) .dead)
      | _ => .fail
    | _ => .fail
  | _ => .fail

/-- a plan that was laid out ahead -/
structure PG where
  g : List Nat
  st : List Stage

def drawP (E : Env) (ops : List Oper) (p : PG) : KW := groupK E ops p.g (stagesK E ops p.st)

def codeC (E : Env) (pt : T PG) : Code → CW
  | .skip => ⟨cSkip⟩
  | .label _ => ⟨cSkip⟩
  | .region _ ops false => ⟨cReg (opsK E ops.toList ops.toList)⟩
  | .region id ops true => match pt.get id with
    | some p => ⟨cReg (drawP E ops.toList p)⟩
    | none => ⟨cReg (drawK E ops.toList)⟩
  | .seq a b => ⟨cSeq (codeC E pt a) (codeC E pt b)⟩
  | .cond c a b => ⟨cCond (evC c) (codeC E pt a) (codeC E pt b)⟩
  | .block id b => ⟨cBlock id (codeC E pt b)⟩
  | .loop b => ⟨cLoop (codeC E pt b)⟩
  | .scope b => codeC E pt b
  | .exit id => ⟨cExit id⟩
  | .ret => ⟨cRet⟩
  | .rangeFunc f params assign body => ⟨cRange (evC f) params.toList assign body⟩
  | _ => ⟨cFail⟩

def natsEq : List Nat → List Nat → Bool
  | [], [] => true
  | a :: l, b :: m => match Nat.beq a b with | true => natsEq l m | false => false
  | _, _ => false
def boolEq : Bool → Bool → Bool
  | true, true => true
  | false, false => true
  | _, _ => false
def stEq : List Stage → List Stage → Bool
  | [], [] => true
  | a :: l, b :: m => match Nat.beq a.c b.c, natsEq a.rc b.rc, natsEq a.g b.g, boolEq a.sw b.sw with
    | true, true, true, true => stEq l m
    | _, _, _, _ => false
  | _, _ => false

/-- are these the plans? -/
def plansOk (E : Env) (pt : T PG) : Code → Bool
  | .region id ops true => match pt.get id with
    | some p => match planOf E ops.toList with
      | some q => match natsEq q.g p.g with | true => stEq q.st p.st | false => false
      | none => false
    | none => true
  | .seq a b => match plansOk E pt a with | true => plansOk E pt b | false => false
  | .cond _ a b => match plansOk E pt a with | true => plansOk E pt b | false => false
  | .block _ b => plansOk E pt b
  | .loop b => plansOk E pt b
  | .scope b => plansOk E pt b
  | _ => true

def planTab (pts : T (T PG)) (f : FuncId) : T PG := match pts.get f with | some pt => pt | none => .e

def plansAll (E : Env) (pts : T (T PG)) : List Func → Nat → Bool
  | [], _ => true
  | fn :: l, f => match fn.body with
    | some c => match plansOk E (planTab pts f) c with | true => plansAll E pts l (f + 1) | false => false
    | none => plansAll E pts l (f + 1)

def fleave (E : Env) (cf : CF) (fn : Func) (t : T Value) (m : FrameMode) : List Deferred → FrameMode → H → FC
  | [], .returning, h => match aresults E ⟨t, [], m, h⟩ fn.results.toList with
    | some l => .ret (oneOrTuple l) m h
    | none => .fail
  | [], .panicking ch, h => .pan ch m h
  | _ :: _, .run, _ => .fail
  | dd :: ds, u, h => match dd.target with
    | .fn (.func f) cap => match cf f (dd.args ++ cap).toList u h with
      | .ret _ u' h => fleave E cf fn t m ds (settle u') h
      | .pan ch u' h => fleave E cf fn t m ds (raised u' ch) h
      | .fail => .fail
    | .collected r => match h.obj r with
      | .dfr => fleave E cf fn t m ds u (h.upd r .dead)
      | _ => .fail
    | _ => .fail
  | _, _, _ => .fail

def fbody (E : Env) (cf : CF) (n : Nat) (fn : Func) (c : CW) (args : List Value) (m : FrameMode) (h : H) : FC :=
  match c.run cf n m [] (T.ofList args) h with
  | .norm t d m h => fleave E cf fn t m d .returning h
  | .ret t d m h => fleave E cf fn t m d .returning h
  | .pan ch t d m h => fleave E cf fn t m d (.panicking ch) h
  | _ => .fail

def fcallN (E : Env) (pts : T (T PG)) : Nat → CF
  | 0, _, _, _, _ => .fail
  | n + 1, f, args, m, h => match E.fn.get f with
    | some fn => match fn.body with
      | some c => match askO E f args.toArray m h with
        | some (.ret v, h) => .ret v m h
        | some (.pan ch, h) => .pan ch m h
        | none => fbody E (fcallN E pts n) n fn (codeC E (planTab pts f) c) args m h
      | none => .fail
    | none => .fail

end
end Go.AX

/- What the quick evaluator answers, the evaluator answers. -/
namespace Go.AX
variable {E : Env}

theorem putD_put (o : Option Tmp) (t : T Value) (d : List Deferred) (m : FrameMode) (h : H) (v : Value) : (⟨(putD o).run t v, d, m, h⟩ : S) = S.put ⟨t, d, m, h⟩ o v := by
  cases o with
  | none => rfl
  | some i => simp only [putD, S.put, putC_eq]

/-! ### the evaluator at each kind of operation -/
section kinds
variable {ρ : Operand → Value} {h : H} {o : Oper}
theorem aq_move {x : Operand} (e : o.op = .move x) : aquiet E ρ h o = some (ρ x) := by cases o; cases e; rfl
theorem aq_assign {x : Operand} (e : o.op = .assign x) : aquiet E ρ h o = some (ρ x) := by cases o; cases e; rfl
theorem aq_pick {c a b : Operand} (e : o.op = .pick c a b) : aquiet E ρ h o = match ρ c with | .bool true => some (ρ a) | .bool false => some (ρ b) | _ => none := by cases o; cases e; rfl
theorem aq_load {t : TypeId} {x : Operand} (e : o.op = .load t x) : aquiet E ρ h o = aload E h t (ρ x) := by cases o; cases e; rfl
theorem aq_fieldAddr {t : TypeId} {x : Operand} {f : Nat} (e : o.op = .fieldAddr t x f) : aquiet E ρ h o = match ρ x, E.und t with
    | .pointer (some ⟨b, i, none⟩), some (.struct fs) => match fs[f]? with
      | some fd => match E.size fd.type with
        | some (_ + 1) => some (.pointer (some ⟨b, i + fd.offset, none⟩))
        | _ => none
      | none => none
    | _, _ => none := by cases o; cases e; rfl
theorem aq_indexAddr {t : TypeId} {x ix : Operand} (e : o.op = .indexAddr t x ix) : aquiet E ρ h o = match ρ x, E.und t with
    | .slice (some ⟨b, i, none⟩) len z, some (.slice el) => match asIdx (ρ ix) len, E.size el with
      | some k, some (w + 1) => match Nat.beq z (w + 1) with
        | true => some (.pointer (some ⟨b, i + k * (w + 1), none⟩))
        | false => none
      | _, _ => none
    | .pointer (some ⟨b, i, none⟩), some (.array len el) => match asIdx (ρ ix) len, E.size el with
      | some k, some (w + 1) => some (.pointer (some ⟨b, i + k * (w + 1), none⟩))
      | _, _ => none
    | _, _ => none := by cases o; cases e; rfl
theorem aq_binOp {op : BinOp} {t : TypeId} {x y : Operand} {b} (e : o.op = .binOp op t x y b) {v : Value} (hv : abin op (ρ x) (ρ y) = some v) : aquiet E ρ h o = some v := by
  cases o; cases e
  show (match abin op (ρ x) (ρ y) with
    | some v => some v
    | none => _) = _
  rw [hv]
theorem aq_extract {x : Operand} {i : Nat} (e : o.op = .extract x i) : aquiet E ρ h o = match ρ x with | .tuple vs => vs.toList[i]? | _ => none := by cases o; cases e; rfl
theorem aq_len {c : Call} {x : Operand} {t el : TypeId} {l : List TypeId} (e : o.op = .call c) (hc : c.callee = .builtin .len) (ha : c.args.toList = [x]) (ht : c.argTypes.toList = t :: l) (hu : E.und t = some (.slice el)) {a n z} (hx : ρ x = .slice a n z) :
    aquiet E ρ h o = some (.int .i64 n) := by
  cases o; cases e
  rcases c with ⟨cal, args, tys⟩
  cases hc
  show (match (match tys.toList with | t :: _ => abuiltin E h .len t (args.toList.map ρ) | [] => none) with | some v => some v | none => _) = _
  have ha : args.toList = [x] := ha
  have ht : tys.toList = t :: l := ht
  rw [ht, ha]
  simp only [List.map_cons, List.map_nil, hx, abuiltin, hu]
end kinds

theorem qGen_ok {o : Oper} {t : T Value} {h : H} {v : Value} (e : (QW.mk (qGen E o)).run t h = some v) : aquiet E (evT t) h o = some v := e

theorem qC_ok {o : Oper} {t : T Value} {h : H} {v : Value} (e : (qC E o).run t h = some v) : aquiet E (evT t) h o = some v := by
  unfold qC at e
  split at e
  · rename_i x ho
    rw [aq_move ho]; simpa only [qMove, evC_eq] using e
  · rename_i x ho
    rw [aq_assign ho]; simpa only [qMove, evC_eq] using e
  · rename_i c a b ho
    rw [aq_pick ho]; simp only [qPick, evC_eq] at e; exact e
  · rename_i ty x ho
    rw [aq_load ho]
    split at e
    · rename_i ti hti
      split at e
      · rename_i ha
        simp only [qLoadN, evC_eq] at e
        unfold aload
        split at e
        · rename_i b i hx
          simp only [hx, hti, ha]
          exact e
        · cases e
      · rename_i ha
        simp only [qLoad1, evC_eq] at e
        unfold aload
        split at e
        · rename_i b i hx
          simp only [hx, hti, ha]
          split at e
          · rename_i c sz cap tw hob
            split at e
            · rename_i hle
              simp only [H.read, hob, hle, getCells, e]
            · cases e
          · cases e
        · cases e
    · rw [← aq_load (E := E) (ρ := evT t) (h := h) ho]; exact e
  · rename_i ty x f ho
    split at e
    · rename_i fs hu
      split at e
      · rename_i fd hf
        split at e
        · rename_i w hs
          rw [aq_fieldAddr ho]
          simp only [qFA, evC_eq] at e
          split at e
          · rename_i b i hx
            simp only [hx, hu, hf, hs]
            exact e
          · cases e
        · exact e
      · exact e
    · exact e
  · rename_i ty x ix ho
    split at e
    · rename_i el hu
      split at e
      · rename_i w hs
        rw [aq_indexAddr ho]
        simp only [qIA, evC_eq] at e
        split at e
        · rename_i b i len z hx
          simp only [hx, hu, hs]
          split at e
          · rename_i k hk
            simp only [hk]
            exact e
          · cases e
        · cases e
      · exact e
    · exact e
  · rename_i op ty x y b ho
    split at e
    · simp only [qBin, evC_eq] at e
      split at e
      · rename_i v' hv
        cases e
        exact aq_binOp ho hv
      · exact e
    · exact e
  · rename_i x i ho
    rw [aq_extract ho]; simp only [qExt, evC_eq] at e; exact e
  · rename_i c ho
    split at e
    · rename_i x hc ha hsl
      simp only [qLen, evC_eq] at e
      split at e
      · rename_i a n z hx
        cases e
        unfold isSliceT at hsl
        split at hsl
        · rename_i ty l ht
          split at hsl
          · rename_i el hu
            exact aq_len ho hc ha ht hu hx
          · cases hsl
        · cases hsl
      · exact e
    · exact e
  · exact e


/-! ### what an operation comes to -/
theorem aop_quiet {ρ : Operand → Value} {h : H} {o : Oper} {v : Value} (e : aquiet E ρ h o = some v) : aop E ρ h o = some (.value v h) := by
  unfold aop; rw [e]

theorem aop_fresh {ρ : Operand → Value} {h : H} {o : Oper} {x : AObj} {f : Nat → Value} (hf : isFreshOp o.op = true) (e : afresh E ρ o = some (x, f)) : aop E ρ h o = some (.value (f h.next) (h.new x)) := by
  have h1 : aquiet E ρ h o = none ∧ isQuietOp o.op = false := by
    rcases o with ⟨d, op, ty, pos, after, g⟩
    cases op <;> first | (simp only [isFreshOp] at hf; cases hf; done) | exact ⟨rfl, rfl⟩ | (rename_i t l; cases l <;> first | (simp only [isFreshOp] at hf; cases hf; done) | exact ⟨rfl, rfl⟩)
  unfold aop
  rw [h1.1, h1.2, e]

theorem aop_call {ρ : Operand → Value} {h : H} {o : Oper} {c : Call} {f : FuncId} {fn : Func} {b : Code} (ho : o.op = .call c) (hc : c.callee = .value (.func f)) (hρ : ρ (.func f) = .func (.func f) #[] #[])
    (hf : E.fn.get f = some fn) (hb : fn.body = some b) : aop E ρ h o = some (.enter f (#[] ++ c.args.map ρ ++ #[])) := by
  rcases o with ⟨d, op, ty, pos, after, g⟩
  cases ho
  rcases c with ⟨cal, args, tys⟩
  cases hc
  have h1 : aquiet E ρ h ⟨d, .call ⟨.value (.func f), args, tys⟩, ty, pos, after, g⟩ = none := by
    show (match E.fn.get f with
      | some fn => match fn.body with
        | none => _
        | some _ => none
      | none => none) = none
    rw [hf]; simp only [hb]
  have h2 : aloud E ρ h ⟨d, .call ⟨.value (.func f), args, tys⟩, ty, pos, after, g⟩ = some (.enter f (#[] ++ args.map ρ ++ #[])) := by
    show (match ρ (.func f) with
      | .func (.yield L) _ _ => some (R1.round L (args.toList.map ρ))
      | .func (.func f) first cap => match E.fn.get f with
        | some fn => match fn.body with
          | some _ => some (.enter f (first ++ args.map ρ ++ cap))
          | none => _
        | none => none
      | _ => none) = _
    rw [hρ]; simp only [hf, hb]
  unfold aop
  rw [h1]
  exact h2

theorem aop_callv {ρ : Operand → Value} {h : H} {o : Oper} {c : Call} {x : Tmp} {f : FuncId} {fn : Func} {b : Code} {first cap : Array Value} (ho : o.op = .call c) (hc : c.callee = .value (.tmp x)) (hρ : ρ (.tmp x) = .func (.func f) first cap)
    (hf : E.fn.get f = some fn) (hb : fn.body = some b) : aop E ρ h o = some (.enter f (first ++ c.args.map ρ ++ cap)) := by
  rcases o with ⟨d, op, ty, pos, after, g⟩
  cases ho
  rcases c with ⟨cal, args, tys⟩
  cases hc
  have h1 : aquiet E ρ h ⟨d, .call ⟨.value (.tmp x), args, tys⟩, ty, pos, after, g⟩ = none := rfl
  have h2 : aloud E ρ h ⟨d, .call ⟨.value (.tmp x), args, tys⟩, ty, pos, after, g⟩ = some (.enter f (first ++ args.map ρ ++ cap)) := by
    show (match ρ (.tmp x) with
      | .func (.yield L) _ _ => some (R1.round L (args.toList.map ρ))
      | .func (.func f) first cap => match E.fn.get f with
        | some fn => match fn.body with
          | some _ => some (.enter f (first ++ args.map ρ ++ cap))
          | none => _
        | none => none
      | _ => none) = _
    rw [hρ]; simp only [hf, hb]
  unfold aop
  rw [h1]
  exact h2

/-- calls are answered as the evaluator answers them -/
structure CFok (E : Env) (cf : CF) : Prop where
  ret : ∀ f args m h v m' h', cf f args m h = .ret v m' h' → ∃ n0, ∀ n, n0 ≤ n → acall E n f args.toArray m h = some (.ret v, m', h')
  pan : ∀ f args m h ch m' h', cf f args m h = .pan ch m' h' → ∃ n0, ∀ n, n0 ≤ n → acall E n f args.toArray m h = some (.pan ch, m', h')

inductive Out where
  | next (m : FrameMode) (d : List Deferred) (t : T Value) (h : H)
  | stop (ch : List PanicEntry) (h : H)

/-- what one operation comes to; pn: may it be more than a value? -/
inductive OpOk (E : Env) (o : Oper) (m : FrameMode) (d : List Deferred) (t : T Value) (h : H) : Bool → Out → Prop
  | value {pn : Bool} {v : Value} {h' : H} (e : aop E (evT t) h o = some (.value v h')) : OpOk E o m d t h pn (.next m d ((putD o.dst).run t v) h')
  | enter {pn : Bool} {f : FuncId} {args : Array Value} {v : Value} {m' : FrameMode} {h' : H} (e : aop E (evT t) h o = some (.enter f args)) (c : ∃ n0, ∀ n, n0 ≤ n → acall E n f args .run h = some (.ret v, m', h')) :
      OpOk E o m d t h pn (.next m d ((putD o.dst).run t v) h')
  | enterPan {f : FuncId} {args : Array Value} {ch : List PanicEntry} {m' : FrameMode} {h' : H} (e : aop E (evT t) h o = some (.enter f args)) (c : ∃ n0, ∀ n, n0 ≤ n → acall E n f args .run h = some (.pan ch, m', h')) :
      OpOk E o m d t h true (.stop ch h')
  | panic {v : Value} (e : aop E (evT t) h o = some (.panic v)) : OpOk E o m d t h true (.stop [{ v, recovered := false }] h)
  | defer {df : Deferred} (e : aop E (evT t) h o = some (.defer df)) : OpOk E o m d t h true (.next m (df :: d) ((putD o.dst).run t undef) h)
  | recover {v : Value} {older : List PanicEntry} (e : aop E (evT t) h o = some .recover) (hm : m = .panicking ({ v, recovered := false, goexit := false } :: older)) :
      OpOk E o m d t h true (.next (.panicking ({ v, recovered := true } :: older)) d ((putD o.dst).run t v) h)
  | recoverNil (e : aop E (evT t) h o = some .recover) (hm : ∀ v older, m ≠ .panicking ({ v, recovered := false, goexit := false } :: older)) : OpOk E o m d t h true (.next m d ((putD o.dst).run t .nilIface) h)
  | round {L : Nat} {args : List Value} {h' : H} (e : aop E (evT t) h o = some (.round L args)) (r : around E L args h = some h') : OpOk E o m d t h true (.next m d ((putD o.dst).run t (.bool true)) h')

/-- what a run comes to behind one operation -/
def Out.then (k : KW) (cf : CF) (d : List Deferred) (t : T Value) (m : FrameMode) : Out → FR
  | .next m d t h => k.run cf m d t h
  | .stop ch h => .pan ch t d m h

theorem maptl {α β : Type} (f : α → β) (a : Array α) : (a.toList.map f).toArray = a.map f := by rw [← Array.toList_map]

theorem runL_eq (t : T Value) (l : List Operand) : runL t (l.map evC) = l.map (evT t) := by
  induction l with
  | nil => rfl
  | cons x xs ih => simp only [List.map_cons, runL, ih, evC_eq]

section
variable {cf : CF} (hcf : CFok E cf) {o : Oper} {m : FrameMode} {d : List Deferred} {t : T Value} {h : H} {k : KW} {pn : Bool}
include hcf

theorem afterCall_ok {f : FuncId} {args : List Value} {as : Array Value} (has : args.toArray = as) (e : aop E (evT t) h o = some (.enter f as)) (hne : afterCall pn (putD o.dst) k cf m d t (cf f args .run h) ≠ .fail) :
    ∃ out, OpOk E o m d t h pn out ∧ afterCall pn (putD o.dst) k cf m d t (cf f args .run h) = out.then k cf d t m := by
  subst has
  cases hc : cf f args .run h with
  | fail => rw [hc] at hne; exact absurd rfl hne
  | ret v m' h' =>
    refine ⟨_, .enter e (hcf.ret _ _ _ _ _ _ _ hc), ?_⟩
    simp only [afterCall, H.seq_eq, T.seq_eq, Out.then]
  | pan ch m' h' =>
    cases pn with
    | true => exact ⟨_, .enterPan e (hcf.pan _ _ _ _ _ _ _ hc), rfl⟩
    | false => rw [hc] at hne; exact absurd rfl hne

theorem kGen_ok (hne : kGen E pn o (putD o.dst) k cf m d t h ≠ .fail) : ∃ out, OpOk E o m d t h pn out ∧ kGen E pn o (putD o.dst) k cf m d t h = out.then k cf d t m := by
  unfold kGen at hne ⊢
  cases e : aop E (evT t) h o with
  | none => rw [e] at hne; exact absurd rfl hne
  | some r =>
    rw [e] at hne
    cases r with
    | value v h' => exact ⟨_, .value e, by simp only [H.seq_eq, T.seq_eq, Out.then]⟩
    | enter f args => exact afterCall_ok hcf (by simp) e hne
    | panic v =>
      cases pn with
      | true => exact ⟨_, .panic e, rfl⟩
      | false => exact absurd rfl hne
    | defer df =>
      cases pn with
      | true => exact ⟨_, .defer e, by simp only [T.seq_eq, Out.then]⟩
      | false => exact absurd rfl hne
    | recover =>
      cases pn with
      | true =>
        dsimp only
        split
        · rename_i v older
          exact ⟨_, .recover e rfl, by simp only [T.seq_eq, Out.then]⟩
        · rename_i hno
          exact ⟨_, .recoverNil e (fun v older he => hno v older he), by simp only [T.seq_eq, Out.then]⟩
      | false => exact absurd rfl hne
    | round L args =>
      cases pn with
      | true =>
        dsimp only at hne ⊢
        cases hr : around E L args h with
        | none => rw [hr] at hne; exact absurd rfl hne
        | some h' => exact ⟨_, .round e hr, by simp only [H.seq_eq, T.seq_eq, Out.then]⟩
      | false => exact absurd rfl hne

omit hcf in
theorem kQ_ok (hq : ∀ v, (qC E o).run t h = some v → aop E (evT t) h o = some (.value v h)) (hne : kQ (qC E o) (putD o.dst) k cf m d t h ≠ .fail) : ∃ out, OpOk E o m d t h pn out ∧ kQ (qC E o) (putD o.dst) k cf m d t h = out.then k cf d t m := by
  unfold kQ at hne ⊢
  cases e : (qC E o).run t h with
  | none => rw [e] at hne; exact absurd rfl hne
  | some v => exact ⟨_, .value (hq v e), by simp only [T.seq_eq, Out.then]⟩

theorem opU_ok (hne : (opU E pn o k).run cf m d t h ≠ .fail) : ∃ out, OpOk E o m d t h pn out ∧ (opU E pn o k).run cf m d t h = out.then k cf d t m := by
  unfold opU at hne ⊢
  split
  · rename_i hq
    simp only [hq] at hne
    exact kQ_ok (fun v e => aop_quiet (qC_ok e)) hne
  · rename_i hq hf
    simp only [hq, hf] at hne
    dsimp only [kFresh] at hne ⊢
    cases e : afresh E (evT t) o with
    | none => rw [e] at hne; exact absurd rfl hne
    | some r =>
      obtain ⟨x, f⟩ := r
      exact ⟨_, .value (aop_fresh hf e), by simp only [H.seq_eq, T.seq_eq, Out.then]⟩
  · rename_i hq hf
    simp only [hq, hf] at hne
    split
    · rename_i c ho
      simp only [ho] at hne
      split
      · rename_i f hc
        simp only [hc] at hne
        split
        · rename_i fn hfn
          simp only [hfn] at hne
          split
          · rename_i b hb
            simp only [hb] at hne
            exact afterCall_ok hcf (as := #[] ++ c.args.map (evT t) ++ #[]) (by rw [runL_eq, maptl]; simp) (aop_call ho hc rfl hfn hb) hne
          · rename_i hb
            simp only [hb] at hne
            exact kGen_ok hcf hne
        · rename_i hfn
          simp only [hfn] at hne
          exact kGen_ok hcf hne
      · rename_i x hc
        simp only [hc] at hne
        dsimp only [kCallV] at hne ⊢
        rw [evC_eq] at hne ⊢
        split
        · rename_i f first cap hx
          simp only [hx] at hne
          split
          · rename_i fn hfn
            simp only [hfn] at hne
            split
            · rename_i b hb
              simp only [hb] at hne
              exact afterCall_ok hcf (as := first ++ c.args.map (evT t) ++ cap) (by apply Array.toList_inj.1; rw [runL_eq]; simp) (aop_callv ho hc hx hfn hb) hne
            · rename_i hb
              simp only [hb] at hne
              exact kGen_ok hcf hne
          · rename_i hfn
            simp only [hfn] at hne
            exact absurd rfl hne
        · rename_i hno
          split at hne
          · rename_i f first cap hx
            exact absurd hx (hno _ _ _)
          · exact kGen_ok hcf hne
      · rename_i hc
        simp only [hc] at hne
        exact kQ_ok (fun v e => aop_quiet (qC_ok e)) hne
      · rename_i h1 h2 h3
        split at hne
        · rename_i f hc; exact absurd hc (h1 _)
        · rename_i f hc; exact absurd hc (h2 _)
        · rename_i hc; exact absurd hc h3
        · exact kGen_ok hcf hne
    · rename_i hno
      split at hne
      · rename_i c ho; exact absurd ho (hno _)
      · exact kGen_ok hcf hne
end
end Go.AX

/- The quick evaluator's runs are the evaluator's: rows of operations, code, calls. -/
namespace Go.AX
variable {E : Env}

def FR.opt : FR → Option (Exit × S)
  | .fail => none
  | .norm t d m h => some (.normal, ⟨t, d, m, h⟩)
  | .ret t d m h => some (.ret, ⟨t, d, m, h⟩)
  | .exit id t d m h => some (.exit id, ⟨t, d, m, h⟩)
  | .pan ch t d m h => some (.panic ch, ⟨t, d, m, h⟩)

def Out.opt (t : T Value) (d : List Deferred) (m : FrameMode) (k : S → Option (Exit × S)) : Out → Option (Exit × S)
  | .next m' d' t' h' => k ⟨t', d', m', h'⟩
  | .stop ch h' => some (.panic ch, ⟨t, d, m, h'⟩)

theorem aops_out {ops : List Oper} {o : Oper} {rest : List Oper} {m : FrameMode} {d : List Deferred} {t : T Value} {h : H} {out : Out} (hw : wantedA ops (evT t) o = true) (ho : OpOk E o m d t h true out) :
    ∃ n0, ∀ n, n0 ≤ n → aops E (n + 1) ops (o :: rest) ⟨t, d, m, h⟩ = out.opt t d m (aops E n ops rest) := by
  have ev : S.eval ⟨t, d, m, h⟩ = evT t := evT_eval _
  cases ho with
  | value e => exact ⟨0, fun n _ => by simp only [aops, ev, hw, e, Out.opt, putD_put]⟩
  | enter e c =>
    obtain ⟨n0, c⟩ := c
    exact ⟨n0, fun n hn => by simp only [aops, ev, hw, e, c n hn, Out.opt, putD_put]⟩
  | enterPan e c =>
    obtain ⟨n0, c⟩ := c
    exact ⟨n0, fun n hn => by simp only [aops, ev, hw, e, c n hn, Out.opt]⟩
  | panic e => exact ⟨0, fun n _ => by simp only [aops, ev, hw, e, Out.opt]⟩
  | defer e => exact ⟨0, fun n _ => by simp only [aops, ev, hw, e, Out.opt, putD_put]⟩
  | recover e hm => subst hm; exact ⟨0, fun n _ => by simp only [aops, ev, hw, e, Out.opt, putD_put]⟩
  | recoverNil e hm =>
    refine ⟨0, fun n _ => ?_⟩
    simp only [aops, ev, hw, e, Out.opt, putD_put]
  | round e r => exact ⟨0, fun n _ => by simp only [aops, ev, hw, e, r, Out.opt, putD_put]⟩

theorem wanted_none {ops : List Oper} {ρ : Operand → Value} {o : Oper} (h : o.guard = none) : wantedA ops ρ o = true := by simp only [wantedA, h]

section
variable {cf : CF} (hcf : CFok E cf)
include hcf

theorem opsK_ok (ops : List Oper) : ∀ (rest : List Oper) (m : FrameMode) (d : List Deferred) (t : T Value) (h : H), (opsK E ops rest).run cf m d t h ≠ .fail →
    ∃ n0, ∀ n, n0 ≤ n → aops E n ops rest ⟨t, d, m, h⟩ = ((opsK E ops rest).run cf m d t h).opt
  | [], m, d, t, h, _ => ⟨1, fun n hn => by
      obtain ⟨n, rfl⟩ : ∃ k, n = k + 1 := ⟨n - 1, by omega⟩
      simp only [aops, opsK, nilK, FR.opt]⟩
  | o :: rest, m, d, t, h, hne => by
    have wanted : wantedA ops (evT t) o = true → (opU E true o (opsK E ops rest)).run cf m d t h ≠ .fail → ∃ n0, ∀ n, n0 ≤ n → aops E n ops (o :: rest) ⟨t, d, m, h⟩ = ((opU E true o (opsK E ops rest)).run cf m d t h).opt := by
      intro hw hne
      obtain ⟨out, ho, e⟩ := opU_ok hcf hne
      rw [e] at hne ⊢
      obtain ⟨n1, h1⟩ := aops_out (rest := rest) hw ho
      cases out with
      | next m' d' t' h' =>
        obtain ⟨n2, h2⟩ := opsK_ok ops rest m' d' t' h' hne
        refine ⟨max n1 n2 + 1, fun n hn => ?_⟩
        obtain ⟨n, rfl⟩ : ∃ k, n = k + 1 := ⟨n - 1, by omega⟩
        rw [h1 n (by omega)]
        exact h2 n (by omega)
      | stop ch h' =>
        refine ⟨n1 + 1, fun n hn => ?_⟩
        obtain ⟨n, rfl⟩ : ∃ k, n = k + 1 := ⟨n - 1, by omega⟩
        rw [h1 n (by omega)]
        rfl
    simp only [opsK, opK] at hne ⊢
    split
    · rename_i hg
      simp only [hg] at hne
      exact wanted (wanted_none hg) hne
    · rename_i hg
      simp only [hg] at hne
      dsimp only [kGuard] at hne ⊢
      cases hw : wantedA ops (evT t) o with
      | true =>
        simp only [hw] at hne
        exact wanted hw hne
      | false =>
        simp only [hw, T.seq_eq] at hne
        simp only [T.seq_eq]
        obtain ⟨n2, h2⟩ := opsK_ok ops rest m d _ h hne
        refine ⟨n2 + 1, fun n hn => ?_⟩
        obtain ⟨n, rfl⟩ : ∃ k, n = k + 1 := ⟨n - 1, by omega⟩
        have ev : S.eval ⟨t, d, m, h⟩ = evT t := evT_eval _
        rw [← h2 n (by omega)]
        simp only [aops, ev, hw, putD_put]

omit hcf in
theorem gU_ok {o : Oper} {k : KW} {m : FrameMode} {d : List Deferred} {t : T Value} {h : H} (ops : List Oper) (i : Nat) (l : List Nat) (hi : ops[i]? = some o) (hw : wantedA ops (evT t) o = true) (hne : (gU E o k).run cf m d t h ≠ .fail) :
    ∃ t' h', agroup E ops (i :: l) ⟨t, d, m, h⟩ = agroup E ops l ⟨t', d, m, h'⟩ ∧ (gU E o k).run cf m d t h = k.run cf m d t' h' := by
  have ev : S.eval ⟨t, d, m, h⟩ = evT t := evT_eval _
  have q : (opCls E o.op = 0 ∨ opCls E o.op = 1) → kQ (qC E o) (putD o.dst) k cf m d t h ≠ .fail → ∃ t' h', agroup E ops (i :: l) ⟨t, d, m, h⟩ = agroup E ops l ⟨t', d, m, h'⟩ ∧ kQ (qC E o) (putD o.dst) k cf m d t h = k.run cf m d t' h' := by
    intro hc hne
    unfold kQ at hne ⊢
    cases e : (qC E o).run t h with
    | none => rw [e] at hne; exact absurd rfl hne
    | some v =>
      refine ⟨(putD o.dst).run t v, h, ?_, by simp only [T.seq_eq]⟩
      rcases hc with hc | hc <;> simp only [agroup, hi, ev, hw, hc, qC_ok e, putD_put]
  unfold gU at hne ⊢
  split
  · rename_i hc; simp only [hc] at hne; exact q (.inl hc) hne
  · rename_i hc; simp only [hc] at hne; exact q (.inr hc) hne
  · rename_i hc
    simp only [hc] at hne
    dsimp only [kFreshG] at hne ⊢
    split
    · rename_i x f e1 e2
      refine ⟨_, _, ?_, by simp only [T.seq_eq, H.seq_eq]; rfl⟩
      simp only [agroup, hi, ev, hw, hc, e1, e2, putD_put]
    · rename_i hno
      split at hne
      · rename_i x f e1 e2; exact absurd e2 (hno _ _ e1)
      · exact absurd rfl hne
  · rename_i h1 h2 h3
    split at hne
    · rename_i hc; exact absurd hc h1
    · rename_i hc; exact absurd hc h2
    · rename_i hc; exact absurd hc h3
    · exact absurd rfl hne

omit hcf in
theorem groupK_ok (ops : List Oper) (k : KW) : ∀ (l : List Nat) (m : FrameMode) (d : List Deferred) (t : T Value) (h : H), (groupK E ops l k).run cf m d t h ≠ .fail →
    ∃ t' h', agroup E ops l ⟨t, d, m, h⟩ = some ⟨t', d, m, h'⟩ ∧ (groupK E ops l k).run cf m d t h = k.run cf m d t' h'
  | [], m, d, t, h, _ => ⟨t, h, rfl, rfl⟩
  | i :: l, m, d, t, h, hne => by
    simp only [groupK] at hne ⊢
    split at hne
    · exact absurd rfl hne
    · rename_i o hi
      have wanted : wantedA ops (evT t) o = true → (gU E o (groupK E ops l k)).run cf m d t h ≠ .fail → ∃ t' h', agroup E ops (i :: l) ⟨t, d, m, h⟩ = some ⟨t', d, m, h'⟩ ∧ (gU E o (groupK E ops l k)).run cf m d t h = k.run cf m d t' h' := by
        intro hw hne
        obtain ⟨t1, h1, e1, e2⟩ := gU_ok ops i l hi hw hne
        rw [e2] at hne ⊢
        rw [e1]
        exact groupK_ok ops k l m d t1 h1 hne
      simp only [opK] at hne ⊢
      split
      · rename_i hg
        simp only [hg] at hne
        exact wanted (wanted_none hg) hne
      · rename_i hg
        simp only [hg] at hne
        dsimp only [kGuard] at hne ⊢
        cases hw : wantedA ops (evT t) o with
        | true =>
          simp only [hw] at hne
          exact wanted hw hne
        | false =>
          simp only [hw, T.seq_eq] at hne
          simp only [T.seq_eq]
          obtain ⟨t2, h2, e1, e2⟩ := groupK_ok ops k l m d _ h hne
          have ev : S.eval ⟨t, d, m, h⟩ = evT t := evT_eval _
          refine ⟨t2, h2, ?_, e2⟩
          simp only [agroup, hi, ev, hw, ← putD_put]
          exact e1

omit hcf in
theorem reK_ok {ops : List Oper} {rc : List Nat} {k : KW} {m : FrameMode} {d : List Deferred} {t : T Value} {h : H} (hne : (reK E ops rc k).run cf m d t h ≠ .fail) : arecheck E ops ⟨t, d, m, h⟩ rc = true ∧ (reK E ops rc k).run cf m d t h = k.run cf m d t h := by
  unfold reK at hne ⊢
  split
  · exact ⟨rfl, rfl⟩
  · split at hne
    · rename_i hno; exact absurd rfl hno
    · dsimp only [kRe] at hne ⊢
      cases e : arecheck E ops ⟨t, d, m, h⟩ rc with
      | true => exact ⟨rfl, rfl⟩
      | false => rw [e] at hne; exact absurd rfl hne

omit hcf in
theorem swK_ok {ops : List Oper} {st : Stage} {rest : List Stage} {k : KW} {m : FrameMode} {d : List Deferred} {t : T Value} {h : H} (hne : (swK E ops st rest k).run cf m d t h ≠ .fail) : swapOk E ops ⟨t, d, m, h⟩ st rest = true ∧ (swK E ops st rest k).run cf m d t h = k.run cf m d t h := by
  unfold swK at hne ⊢
  split
  · rename_i hs
    exact ⟨by unfold swapOk; simp only [hs], rfl⟩
  · rename_i hs
    simp only [hs] at hne
    dsimp only [kSwap] at hne ⊢
    cases e : swapOk E ops ⟨t, d, m, h⟩ st rest with
    | true => exact ⟨rfl, rfl⟩
    | false => rw [e] at hne; exact absurd rfl hne

theorem stagesK_ok (ops : List Oper) : ∀ (l : List Stage) (m : FrameMode) (d : List Deferred) (t : T Value) (h : H), (stagesK E ops l).run cf m d t h ≠ .fail →
    ∃ n0 t' h', (∀ n, n0 ≤ n → astages E n ops l ⟨t, d, m, h⟩ = some ⟨t', d, m, h'⟩) ∧ (stagesK E ops l).run cf m d t h = .norm t' d m h'
  | [], m, d, t, h, _ => ⟨1, t, h, fun n hn => by
      obtain ⟨n, rfl⟩ : ∃ k, n = k + 1 := ⟨n - 1, by omega⟩
      simp only [astages], rfl⟩
  | st :: rest, m, d, t, h, hne => by
    simp only [stagesK] at hne ⊢
    split at hne
    · exact absurd rfl hne
    · rename_i o ho
      obtain ⟨s1, s2⟩ := swK_ok hne
      rw [s2] at hne ⊢
      have ev : S.eval ⟨t, d, m, h⟩ = evT t := evT_eval _
      -- behind the loud operation
      have after : ∀ t1 h1 n1, (∀ n, n1 ≤ n → cop E (fun f args h => acall E n f args .run h) ops o ⟨t, d, m, h⟩ = some ⟨t1, d, m, h1⟩) → (reK E ops st.rc (groupK E ops st.g (stagesK E ops rest))).run cf m d t1 h1 ≠ .fail →
          ∃ n0 t' h', (∀ n, n0 ≤ n → astages E n ops (st :: rest) ⟨t, d, m, h⟩ = some ⟨t', d, m, h'⟩) ∧ (reK E ops st.rc (groupK E ops st.g (stagesK E ops rest))).run cf m d t1 h1 = .norm t' d m h' := by
        intro t1 h1 n1 hc hne
        obtain ⟨r1, r2⟩ := reK_ok hne
        rw [r2] at hne ⊢
        obtain ⟨t2, h2, g1, g2⟩ := groupK_ok ops _ st.g m d t1 h1 hne
        rw [g2] at hne ⊢
        obtain ⟨n3, t3, h3, e1, e2⟩ := stagesK_ok ops rest m d t2 h2 hne
        refine ⟨max n1 n3 + 1, t3, h3, fun n hn => ?_, e2⟩
        obtain ⟨n, rfl⟩ : ∃ k, n = k + 1 := ⟨n - 1, by omega⟩
        simp only [astages, ho, s1, hc n (by omega), r1, g1]
        exact e1 n (by omega)
      have wanted : wantedA ops (evT t) o = true → (opU E false o (reK E ops st.rc (groupK E ops st.g (stagesK E ops rest)))).run cf m d t h ≠ .fail →
          ∃ n0 t' h', (∀ n, n0 ≤ n → astages E n ops (st :: rest) ⟨t, d, m, h⟩ = some ⟨t', d, m, h'⟩) ∧ (opU E false o (reK E ops st.rc (groupK E ops st.g (stagesK E ops rest)))).run cf m d t h = .norm t' d m h' := by
        intro hw hne
        obtain ⟨out, hout, eo⟩ := opU_ok hcf hne
        rw [eo] at hne ⊢
        cases hout with
        | value e =>
          exact after _ _ 0 (fun n _ => by simp only [cop, ev, hw, e, putD_put]) hne
        | enter e c =>
          obtain ⟨n0, c⟩ := c
          exact after _ _ n0 (fun n hn => by simp only [cop, ev, hw, e, c n hn, putD_put]) hne
      simp only [opK] at hne ⊢
      split
      · rename_i hg
        simp only [hg] at hne
        exact wanted (wanted_none hg) hne
      · rename_i hg
        simp only [hg] at hne
        dsimp only [kGuard] at hne ⊢
        cases hw : wantedA ops (evT t) o with
        | true =>
          simp only [hw] at hne
          exact wanted hw hne
        | false =>
          simp only [hw, T.seq_eq] at hne
          simp only [T.seq_eq]
          exact after _ _ 0 (fun n _ => by simp only [cop, ev, hw, putD_put]) hne

omit hcf in
theorem natsEq_eq : ∀ {a b : List Nat}, natsEq a b = true → a = b
  | [], [], _ => rfl
  | a :: l, b :: m, h => by
    simp only [natsEq] at h
    split at h
    · rename_i h1
      rw [Nat.eq_of_beq_eq_true h1, natsEq_eq h]
    · cases h
  | [], _ :: _, h => by cases h
  | _ :: _, [], h => by cases h

omit hcf in
theorem stEq_eq : ∀ {a b : List Stage}, stEq a b = true → a = b
  | [], [], _ => rfl
  | ⟨c, rc, g, sw⟩ :: l, ⟨c', rc', g', sw'⟩ :: m, h => by
    simp only [stEq] at h
    split at h
    · rename_i h1 h2 h3 h4
      have h5 : sw = sw' := by cases sw <;> cases sw' <;> first | rfl | cases h4
      rw [Nat.eq_of_beq_eq_true h1, natsEq_eq h2, natsEq_eq h3, h5, stEq_eq h]
    · cases h
  | [], _ :: _, h => by cases h
  | _ :: _, [], h => by cases h

theorem draw_ok {id : Nat} {ops : Array Oper} {p : Plan} (hp : planOf E ops.toList = some p) {m : FrameMode} {d : List Deferred} {t : T Value} {h : H}
    (hne : (groupK E ops.toList p.g (stagesK E ops.toList p.st)).run cf m d t h ≠ .fail) :
    ∃ n0, ∀ n, n0 ≤ n → aexec E n (.region id ops true) ⟨t, d, m, h⟩ = ((groupK E ops.toList p.g (stagesK E ops.toList p.st)).run cf m d t h).opt := by
  obtain ⟨t1, h1, g1, g2⟩ := groupK_ok ops.toList _ p.g m d t h hne
  rw [g2] at hne ⊢
  obtain ⟨n0, t2, h2, e1, e2⟩ := stagesK_ok hcf ops.toList p.st m d t1 h1 hne
  rw [e2]
  refine ⟨n0 + 1, fun n hn => ?_⟩
  obtain ⟨n, rfl⟩ : ∃ k, n = k + 1 := ⟨n - 1, by omega⟩
  simp only [aexec, hp, g1, e1 n (by omega), FR.opt]

def CodeOk (E : Env) (cf : CF) (c : Code) (w : CW) : Prop := ∀ k m d t h, w.run cf k m d t h ≠ .fail → ∃ n0, ∀ n, n0 ≤ n → aexec E n c ⟨t, d, m, h⟩ = (w.run cf k m d t h).opt

omit hcf in
theorem opt_some {r : FR} (h : r ≠ .fail) : ∃ x, r.opt = some x := by cases r <;> first | exact absurd rfl h | exact ⟨_, rfl⟩

omit hcf in
theorem loop_ok {b : Code} {w : CW} (hb : CodeOk E cf b w) (k : Nat) : ∀ (i : Nat) (m : FrameMode) (d : List Deferred) (t : T Value) (h : H), loopN w cf k i m d t h ≠ .fail →
    ∃ n0, ∀ n, n0 ≤ n → aexec E n (.loop b) ⟨t, d, m, h⟩ = (loopN w cf k i m d t h).opt
  | 0, m, d, t, h, hne => absurd rfl hne
  | i + 1, m, d, t, h, hne => by
    have e : loopN w cf k (i + 1) m d t h = match w.run cf k m d t h with | .norm t d m h => loopN w cf k i m d t h | r => r := rfl
    rw [e] at hne ⊢
    have hne0 : w.run cf k m d t h ≠ .fail := by intro h0; rw [h0] at hne; exact hne rfl
    obtain ⟨n1, h1⟩ := hb k m d t h hne0
    cases hw : w.run cf k m d t h with
    | fail => exact absurd hw hne0
    | norm t1 d1 m1 h2 =>
      rw [hw] at hne h1
      obtain ⟨n2, h3⟩ := loop_ok hb k i m1 d1 t1 h2 hne
      refine ⟨max n1 n2 + 1, fun n hn => ?_⟩
      obtain ⟨n, rfl⟩ : ∃ k, n = k + 1 := ⟨n - 1, by omega⟩
      simp only [aexec, h1 n (by omega), FR.opt]
      exact h3 n (by omega)
    | ret t1 d1 m1 h2 =>
      rw [hw] at h1
      refine ⟨n1 + 1, fun n hn => ?_⟩
      obtain ⟨n, rfl⟩ : ∃ k, n = k + 1 := ⟨n - 1, by omega⟩
      simp only [aexec, h1 n (by omega), FR.opt]
    | exit id t1 d1 m1 h2 =>
      rw [hw] at h1
      refine ⟨n1 + 1, fun n hn => ?_⟩
      obtain ⟨n, rfl⟩ : ∃ k, n = k + 1 := ⟨n - 1, by omega⟩
      simp only [aexec, h1 n (by omega), FR.opt]
    | pan ch t1 d1 m1 h2 =>
      rw [hw] at h1
      refine ⟨n1 + 1, fun n hn => ?_⟩
      obtain ⟨n, rfl⟩ : ∃ k, n = k + 1 := ⟨n - 1, by omega⟩
      simp only [aexec, h1 n (by omega), FR.opt]

theorem codeC_ok {pt : T PG} : ∀ (c : Code), plansOk E pt c = true → CodeOk E cf c (codeC E pt c)
  | .skip, _ => fun k m d t h _ => ⟨1, fun n hn => by
      obtain ⟨n, rfl⟩ : ∃ k, n = k + 1 := ⟨n - 1, by omega⟩
      simp only [aexec, codeC, cSkip, FR.opt]⟩
  | .label _, _ => fun k m d t h _ => ⟨1, fun n hn => by
      obtain ⟨n, rfl⟩ : ∃ k, n = k + 1 := ⟨n - 1, by omega⟩
      simp only [aexec, codeC, cSkip, FR.opt]⟩
  | .region id ops false, _ => fun k m d t h hne => by
      obtain ⟨n0, h1⟩ := opsK_ok hcf ops.toList ops.toList m d t h hne
      refine ⟨n0 + 1, fun n hn => ?_⟩
      obtain ⟨n, rfl⟩ : ∃ k, n = k + 1 := ⟨n - 1, by omega⟩
      simp only [aexec, codeC, cReg]
      exact h1 n (by omega)
  | .region id ops true, hp => fun k m d t h hne => by
      simp only [codeC] at hne ⊢
      simp only [plansOk] at hp
      split at hne
      · rename_i p hpt
        simp only [hpt] at hp
        split at hp
        · rename_i q hq
          split at hp
          · rename_i h1
            have e1 := natsEq_eq h1
            have e2 := stEq_eq hp
            simp only [cReg, drawP, ← e1, ← e2] at hne ⊢
            exact draw_ok hcf hq hne
          · cases hp
        · cases hp
      · rename_i hpt
        simp only [hpt]
        simp only [cReg, drawK] at hne ⊢
        split at hne
        · rename_i q hq
          exact draw_ok hcf hq hne
        · exact absurd rfl hne
  | .seq a b, hp => fun k m d t h hne => by
      simp only [plansOk] at hp
      split at hp
      · rename_i ha
        have ia := codeC_ok a ha
        have ib := codeC_ok b hp
        simp only [codeC, cSeq] at hne ⊢
        have hne0 : (codeC E pt a).run cf k m d t h ≠ .fail := by intro h0; rw [h0] at hne; exact hne rfl
        obtain ⟨n1, h1⟩ := ia k m d t h hne0
        cases hw : (codeC E pt a).run cf k m d t h with
        | fail => exact absurd hw hne0
        | norm t1 d1 m1 h2 =>
          rw [hw] at hne h1
          obtain ⟨n2, h3⟩ := ib k m1 d1 t1 h2 hne
          refine ⟨max n1 n2 + 1, fun n hn => ?_⟩
          obtain ⟨n, rfl⟩ : ∃ k, n = k + 1 := ⟨n - 1, by omega⟩
          simp only [aexec, h1 n (by omega), FR.opt]
          exact h3 n (by omega)
        | ret t1 d1 m1 h2 =>
          rw [hw] at h1
          refine ⟨n1 + 1, fun n hn => ?_⟩
          obtain ⟨n, rfl⟩ : ∃ k, n = k + 1 := ⟨n - 1, by omega⟩
          simp only [aexec, h1 n (by omega), FR.opt]
        | exit id t1 d1 m1 h2 =>
          rw [hw] at h1
          refine ⟨n1 + 1, fun n hn => ?_⟩
          obtain ⟨n, rfl⟩ : ∃ k, n = k + 1 := ⟨n - 1, by omega⟩
          simp only [aexec, h1 n (by omega), FR.opt]
        | pan ch t1 d1 m1 h2 =>
          rw [hw] at h1
          refine ⟨n1 + 1, fun n hn => ?_⟩
          obtain ⟨n, rfl⟩ : ∃ k, n = k + 1 := ⟨n - 1, by omega⟩
          simp only [aexec, h1 n (by omega), FR.opt]
      · cases hp
  | .cond c a b, hp => fun k m d t h hne => by
      simp only [plansOk] at hp
      split at hp
      · rename_i ha
        have ia := codeC_ok a ha
        have ib := codeC_ok b hp
        have ev : S.eval ⟨t, d, m, h⟩ = evT t := evT_eval _
        simp only [codeC, cCond, evC_eq] at hne ⊢
        split at hne
        · rename_i hc
          obtain ⟨n1, h1⟩ := ia k m d t h hne
          refine ⟨n1 + 1, fun n hn => ?_⟩
          obtain ⟨n, rfl⟩ : ∃ k, n = k + 1 := ⟨n - 1, by omega⟩
          simp only [aexec, ev, hc]
          exact h1 n (by omega)
        · rename_i hc
          obtain ⟨n1, h1⟩ := ib k m d t h hne
          refine ⟨n1 + 1, fun n hn => ?_⟩
          obtain ⟨n, rfl⟩ : ∃ k, n = k + 1 := ⟨n - 1, by omega⟩
          simp only [aexec, ev, hc]
          exact h1 n (by omega)
        · exact absurd rfl hne
      · cases hp
  | .block id b, hp => fun k m d t h hne => by
      have ib := codeC_ok b hp
      simp only [codeC, cBlock] at hne ⊢
      have hne0 : (codeC E pt b).run cf k m d t h ≠ .fail := by intro h0; rw [h0] at hne; exact hne rfl
      obtain ⟨n1, h1⟩ := ib k m d t h hne0
      cases hw : (codeC E pt b).run cf k m d t h with
      | fail => exact absurd hw hne0
      | exit id' t1 d1 m1 h2 =>
        rw [hw] at h1
        refine ⟨n1 + 1, fun n hn => ?_⟩
        obtain ⟨n, rfl⟩ : ∃ k, n = k + 1 := ⟨n - 1, by omega⟩
        simp only [aexec, h1 n (by omega), FR.opt]
        cases Nat.beq id' id <;> rfl
      | norm t1 d1 m1 h2 =>
        rw [hw] at h1
        refine ⟨n1 + 1, fun n hn => ?_⟩
        obtain ⟨n, rfl⟩ : ∃ k, n = k + 1 := ⟨n - 1, by omega⟩
        simp only [aexec, h1 n (by omega), FR.opt]
      | ret t1 d1 m1 h2 =>
        rw [hw] at h1
        refine ⟨n1 + 1, fun n hn => ?_⟩
        obtain ⟨n, rfl⟩ : ∃ k, n = k + 1 := ⟨n - 1, by omega⟩
        simp only [aexec, h1 n (by omega), FR.opt]
      | pan ch t1 d1 m1 h2 =>
        rw [hw] at h1
        refine ⟨n1 + 1, fun n hn => ?_⟩
        obtain ⟨n, rfl⟩ : ∃ k, n = k + 1 := ⟨n - 1, by omega⟩
        simp only [aexec, h1 n (by omega), FR.opt]
  | .loop b, hp => fun k m d t h hne => loop_ok (codeC_ok b hp) k k m d t h hne
  | .scope b, hp => fun k m d t h hne => by
      obtain ⟨n1, h1⟩ := codeC_ok b hp k m d t h hne
      refine ⟨n1 + 1, fun n hn => ?_⟩
      obtain ⟨n, rfl⟩ : ∃ k, n = k + 1 := ⟨n - 1, by omega⟩
      simp only [aexec, codeC]
      exact h1 n (by omega)
  | .exit id, _ => fun k m d t h _ => ⟨1, fun n hn => by
      obtain ⟨n, rfl⟩ : ∃ k, n = k + 1 := ⟨n - 1, by omega⟩
      simp only [aexec, codeC, cExit, FR.opt]⟩
  | .ret, _ => fun k m d t h _ => ⟨1, fun n hn => by
      obtain ⟨n, rfl⟩ : ∃ k, n = k + 1 := ⟨n - 1, by omega⟩
      simp only [aexec, codeC, cRet, FR.opt]⟩
  | .rangeFunc f params assign body, _ => fun k m d t h hne => by
      have ev : S.eval ⟨t, d, m, h⟩ = evT t := evT_eval _
      simp only [codeC, cRange, evC_eq] at hne ⊢
      split at hne
      · rename_i fid first cap hf
        cases hc : cf fid (first ++ #[Value.func (.yield (h.next + 1)) #[] #[]] ++ cap).toList .run ((h.new .dfr).new (.loop true t params.toList assign body)) with
        | fail => rw [hc] at hne; exact absurd rfl hne
        | pan ch m2 h2 => rw [hc] at hne; exact absurd rfl hne
        | ret v m2 h2 =>
          rw [hc] at hne
          obtain ⟨n1, h1⟩ := hcf.ret _ _ _ _ _ _ _ hc
          dsimp only at hne ⊢
          split at hne
          · rename_i tm ps as bd hob
            refine ⟨n1 + 1, fun n hn => ?_⟩
            obtain ⟨n, rfl⟩ : ∃ k, n = k + 1 := ⟨n - 1, by omega⟩
            have h2' := h1 n (by omega)
            simp only [Array.toArray_toList] at h2'
            simp only [aexec, ev, hf, h2', hob, FR.opt]
          · exact absurd rfl hne
      · exact absurd rfl hne
  | .goto _, _ => fun k m d t h hne => absurd rfl hne
  | .refuse _, _ => fun k m d t h hne => absurd rfl hne

theorem fleave_ok (fn : Func) (t : T Value) (m : FrameMode) : ∀ (ds : List Deferred) (u : FrameMode) (h : H) (dd : List Deferred),
    (∀ v m' h', fleave E cf fn t m ds u h = .ret v m' h' → ∃ n0, ∀ n, n0 ≤ n → aleave E n fn ds u ⟨t, dd, m, h⟩ = some (.ret v, m', h')) ∧
    (∀ ch m' h', fleave E cf fn t m ds u h = .pan ch m' h' → ∃ n0, ∀ n, n0 ≤ n → aleave E n fn ds u ⟨t, dd, m, h⟩ = some (.pan ch, m', h'))
  | [], .returning, h, dd => by
    have e : ∀ l, aresults E ⟨t, [], m, h⟩ l = aresults E ⟨t, dd, m, h⟩ l := by
      intro l
      induction l with
      | nil => rfl
      | cons r rs ih =>
        have e1 : aresult E ⟨t, [], m, h⟩ r = aresult E ⟨t, dd, m, h⟩ r := by cases r <;> rfl
        simp only [aresults, ih, e1]
    refine ⟨fun v m' h' hf => ?_, fun ch m' h' hf => ?_⟩
    · simp only [fleave] at hf
      split at hf
      · rename_i l hl
        cases hf
        refine ⟨1, fun n hn => ?_⟩
        obtain ⟨n, rfl⟩ : ∃ k, n = k + 1 := ⟨n - 1, by omega⟩
        rw [e] at hl
        simp only [aleave, hl]
      · cases hf
    · simp only [fleave] at hf
      split at hf <;> cases hf
  | [], .panicking ch0, h, dd => by
    refine ⟨fun v m' h' hf => ?_, fun ch m' h' hf => ?_⟩
    · simp only [fleave] at hf; cases hf
    · simp only [fleave] at hf
      cases hf
      refine ⟨1, fun n hn => ?_⟩
      obtain ⟨n, rfl⟩ : ∃ k, n = k + 1 := ⟨n - 1, by omega⟩
      simp only [aleave]
  | [], .run, h, dd => by
    refine ⟨fun v m' h' hf => ?_, fun ch m' h' hf => ?_⟩ <;> (simp only [fleave] at hf; cases hf)
  | d0 :: ds, u, h, dd => by
    have key : ∀ r : FC, fleave E cf fn t m (d0 :: ds) u h = r → r ≠ .fail → u ≠ .run ∧ (
        (∃ f cap, d0.target = .fn (.func f) cap ∧ ((∃ v1 u1 h1, cf f (d0.args ++ cap).toList u h = .ret v1 u1 h1 ∧ r = fleave E cf fn t m ds (settle u1) h1) ∨ (∃ ch1 u1 h1, cf f (d0.args ++ cap).toList u h = .pan ch1 u1 h1 ∧ r = fleave E cf fn t m ds (raised u1 ch1) h1))) ∨
        (∃ b, d0.target = .collected b ∧ h.obj b = .dfr ∧ r = fleave E cf fn t m ds u (h.upd b .dead))) := by
      intro r hr hne
      have hu : u ≠ .run := by
        rintro rfl
        simp only [fleave] at hr
        exact hne hr.symm
      refine ⟨hu, ?_⟩
      rw [fleave] at hr
      · split at hr
        · rename_i f cap ht
          cases hc : cf f (d0.args ++ cap).toList u h with
          | fail => rw [hc] at hr; exact absurd hr.symm hne
          | ret v1 u1 h1 => rw [hc] at hr; exact .inl ⟨f, cap, ht, .inl ⟨_, _, _, hc, hr.symm⟩⟩
          | pan v1 u1 h1 => rw [hc] at hr; exact .inl ⟨f, cap, ht, .inr ⟨_, _, _, hc, hr.symm⟩⟩
        · rename_i b ht
          split at hr
          · rename_i hb
            exact .inr ⟨b, ht, hb, hr.symm⟩
          · exact absurd hr.symm hne
        · exact absurd hr.symm hne
      · exact hu
    have step : ∀ (R : Res × FrameMode × H) (r : FC), fleave E cf fn t m (d0 :: ds) u h = r → r ≠ .fail → (∀ u' h', r = fleave E cf fn t m ds u' h' → ∃ n0, ∀ n, n0 ≤ n → aleave E n fn ds u' ⟨t, dd, m, h'⟩ = some R) →
        ∃ n0, ∀ n, n0 ≤ n → aleave E n fn (d0 :: ds) u ⟨t, dd, m, h⟩ = some R := by
      intro R r hr hne hrec
      obtain ⟨hu, hk⟩ := key r hr hne
      rcases hk with ⟨f, cap, ht, hk⟩ | ⟨b, ht, hb, hk⟩
      · rcases hk with ⟨v1, u1, h1, hc, hk⟩ | ⟨v1, u1, h1, hc, hk⟩
        · obtain ⟨n1, e1⟩ := hcf.ret _ _ _ _ _ _ _ hc
          obtain ⟨n2, e2⟩ := hrec _ _ hk
          refine ⟨max n1 n2 + 1, fun n hn => ?_⟩
          obtain ⟨n, rfl⟩ : ∃ k, n = k + 1 := ⟨n - 1, by omega⟩
          have e3 := e1 n (by omega)
          simp only [Array.toArray_toList] at e3
          rw [aleave]
          · simp only [ht, e3]
            exact e2 n (by omega)
          · exact hu
        · obtain ⟨n1, e1⟩ := hcf.pan _ _ _ _ _ _ _ hc
          obtain ⟨n2, e2⟩ := hrec _ _ hk
          refine ⟨max n1 n2 + 1, fun n hn => ?_⟩
          obtain ⟨n, rfl⟩ : ∃ k, n = k + 1 := ⟨n - 1, by omega⟩
          have e3 := e1 n (by omega)
          simp only [Array.toArray_toList] at e3
          rw [aleave]
          · simp only [ht, e3]
            exact e2 n (by omega)
          · exact hu
      · obtain ⟨n2, e2⟩ := hrec _ _ hk
        refine ⟨n2 + 1, fun n hn => ?_⟩
        obtain ⟨n, rfl⟩ : ∃ k, n = k + 1 := ⟨n - 1, by omega⟩
        rw [aleave]
        · simp only [ht, hb]
          exact e2 n (by omega)
        · exact hu
    refine ⟨fun v m' h' hf => ?_, fun ch m' h' hf => ?_⟩
    · exact step _ _ hf (by intro h; cases h) fun u1 h1 e => (fleave_ok fn t m ds u1 h1 dd).1 _ _ _ e.symm
    · exact step _ _ hf (by intro h; cases h) fun u1 h1 e => (fleave_ok fn t m ds u1 h1 dd).2 _ _ _ e.symm

end

/-- every region's plan is the one that is worked out -/
def PlansOk (E : Env) (pts : T (T PG)) : Prop := ∀ f fn c, E.fn.get f = some fn → fn.body = some c → plansOk E (planTab pts f) c = true

theorem fcallN_ok {pts : T (T PG)} (hp : PlansOk E pts) : ∀ n, CFok E (fcallN E pts n)
  | 0 => ⟨fun _ _ _ _ _ _ _ e => (by simp only [fcallN] at e; cases e), fun _ _ _ _ _ _ _ e => (by simp only [fcallN] at e; cases e)⟩
  | k + 1 => by
    have ih := fcallN_ok hp k
    have body : ∀ f args m h r, fcallN E pts (k + 1) f args m h = r → r ≠ .fail → (∀ R : Res × FrameMode × H, (match r with | .ret v m' h' => R = (.ret v, m', h') | .pan ch m' h' => R = (.pan ch, m', h') | .fail => False) →
        ∃ n0, ∀ n, n0 ≤ n → acall E n f args.toArray m h = some R) := by
      intro f args m h r hr hne R hR
      simp only [fcallN] at hr
      split at hr
      · rename_i fn hfn
        split at hr
        · rename_i c hb
          split at hr
          · rename_i v h' ho
            subst hr
            simp only at hR
            subst hR
            refine ⟨1, fun n hn => ?_⟩
            obtain ⟨n, rfl⟩ : ∃ k, n = k + 1 := ⟨n - 1, by omega⟩
            simp only [acall, hfn, hb, ho]
          · rename_i v h' ho
            subst hr
            simp only at hR
            subst hR
            refine ⟨1, fun n hn => ?_⟩
            obtain ⟨n, rfl⟩ : ∃ k, n = k + 1 := ⟨n - 1, by omega⟩
            simp only [acall, hfn, hb, ho]
          · rename_i ho
            unfold fbody at hr
            have hc := codeC_ok ih c (hp f fn c hfn hb)
            have fin : ∀ (x : FR) t d m1 h1 u, (codeC E (planTab pts f) c).run (fcallN E pts k) k m [] (T.ofList args) h = x → x ≠ .fail → r = fleave E (fcallN E pts k) fn t m1 d u h1 →
                (∀ n, aexec E n c ⟨T.ofList args, [], m, h⟩ = x.opt → acall E (n + 1) f args.toArray m h = aleave E n fn d u ⟨t, d, m1, h1⟩) → ∃ n0, ∀ n, n0 ≤ n → acall E n f args.toArray m h = some R := by
              intro x t d m1 h1 u hx hxne hrl hstep
              obtain ⟨n1, e1⟩ := hc k m [] (T.ofList args) h (by rw [hx]; exact hxne)
              have e2 := fleave_ok ih fn t m1 d u h1 d
              have : ∃ n0, ∀ n, n0 ≤ n → aleave E n fn d u ⟨t, d, m1, h1⟩ = some R := by
                cases r with
                | fail => exact absurd rfl hne
                | ret v m' h' => simp only at hR; subst hR; exact e2.1 _ _ _ hrl.symm
                | pan v m' h' => simp only at hR; subst hR; exact e2.2 _ _ _ hrl.symm
              obtain ⟨n2, e3⟩ := this
              refine ⟨max n1 n2 + 1, fun n hn => ?_⟩
              obtain ⟨n, rfl⟩ : ∃ k, n = k + 1 := ⟨n - 1, by omega⟩
              have e4 := e1 n (by omega)
              rw [hx] at e4
              rw [hstep n e4]
              exact e3 n (by omega)
            split at hr
            · rename_i t d m1 h1 hx
              exact fin _ _ _ _ _ _ hx (by intro h; cases h) hr.symm fun n e => by simp only [acall, hfn, hb, ho, e, FR.opt]
            · rename_i t d m1 h1 hx
              exact fin _ _ _ _ _ _ hx (by intro h; cases h) hr.symm fun n e => by simp only [acall, hfn, hb, ho, e, FR.opt]
            · rename_i ch t d m1 h1 hx
              exact fin _ _ _ _ _ _ hx (by intro h; cases h) hr.symm fun n e => by simp only [acall, hfn, hb, ho, e, FR.opt]
            · exact absurd hr.symm hne
        · exact absurd hr.symm hne
      · exact absurd hr.symm hne
    exact ⟨fun f args m h v m' h' e => body f args m h _ e (by intro h; cases h) _ rfl, fun f args m h ch m' h' e => body f args m h _ e (by intro h; cases h) _ rfl⟩

theorem plansAll_get {pts : T (T PG)} : ∀ {l : List Func} {f0 : Nat}, plansAll E pts l f0 = true → ∀ (i : Nat) fn c, l[i]? = some fn → fn.body = some c → plansOk E (planTab pts (f0 + i)) c = true
  | [], _, _, i, fn, c, hi, _ => by simp at hi
  | x :: l, f0, h, i, fn, c, hi, hb => by
    simp only [plansAll] at h
    cases i with
    | zero =>
      simp at hi
      subst hi
      rw [hb] at h
      simp only at h
      split at h
      · rename_i h1; exact h1
      · cases h
    | succ i =>
      have hl : plansAll E pts l (f0 + 1) = true := by
        split at h
        · split at h
          · exact h
          · cases h
        · exact h
      have := plansAll_get hl i fn c (by simpa using hi) hb
      rwa [show f0 + 1 + i = f0 + (i + 1) by omega] at this

end Go.AX

/- Plans do not hang on what is known of calls. -/
namespace Go.AX
variable {E : Env} {o : FuncId → List Value → H → Option (Res × H)}

theorem opCls_orc (op : Op) : opCls { E with orc := o } op = opCls E op := by cases op <;> rfl

theorem pops_orc : ∀ (ops : List Oper) (bms : List Nat) (i : Nat), pops { E with orc := o } ops bms i = pops E ops bms i
  | [], _, _ => by simp only [pops]
  | _ :: _, [], _ => by simp only [pops]
  | x :: ops, b :: bms, i => by simp only [pops, opCls_orc, pops_orc ops bms]

theorem opsOk_orc (bms : List Nat) (ops : List Oper) : ∀ (l : List Oper) (i : Nat), opsOk { E with orc := o } bms ops l i = opsOk E bms ops l i
  | [], _ => by simp only [opsOk]
  | x :: l, i => by simp only [opsOk, opCls_orc, opsOk_orc bms ops l]

theorem readsOk_orc (bms : List Nat) (c : Nat) (rc : List Nat) (done : Nat) : ∀ (l : List Oper) (i : Nat), readsOk { E with orc := o } bms c rc done l i = readsOk E bms c rc done l i
  | [], _ => by simp only [readsOk]
  | x :: l, i => by simp only [readsOk, opCls_orc, readsOk_orc bms c rc done l]

theorem chainOk_orc (ops : List Oper) (bms : List Nat) : ∀ (l : List Stage) (done : Nat), chainOk { E with orc := o } ops bms done l = chainOk E ops bms done l
  | [], _ => by simp only [chainOk]
  | st :: l, done => by simp only [chainOk, readsOk_orc, chainOk_orc ops bms l]

theorem planOf_orc (ops : List Oper) : planOf { E with orc := o } ops = planOf E ops := by
  simp only [planOf, pops_orc, opsOk_orc, chainOk_orc]

theorem plansOk_orc {pt : T PG} : ∀ (c : Code), plansOk { E with orc := o } pt c = plansOk E pt c
  | .region _ _ true => by simp only [plansOk, planOf_orc]
  | .region _ _ false => rfl
  | .seq a b => by simp only [plansOk, plansOk_orc a, plansOk_orc b]
  | .cond _ a b => by simp only [plansOk, plansOk_orc a, plansOk_orc b]
  | .block _ b => by simp only [plansOk, plansOk_orc b]
  | .loop b => by simp only [plansOk, plansOk_orc b]
  | .scope b => by simp only [plansOk, plansOk_orc b]
  | .skip | .label _ | .exit _ | .ret | .rangeFunc .. | .goto _ | .refuse _ => rfl

theorem plans_of {P : Program} {ng : Nat} {pts : T (T PG)} (h : plansAll (envOf P ng) pts P.funcs.toList 0 = true) : PlansOk { envOf P ng with orc := o } pts := by
  intro f fn c hf hb
  rw [plansOk_orc]
  simp only [envOf, T.get_ofList] at hf
  have := plansAll_get h f fn c hf hb
  rwa [Nat.zero_add] at this

/-- A CLOSED CALL BY THE QUICK EVALUATOR. -/
def okC (x : FC) (v : Value) : Bool := match x with
  | .ret u .run _ => veq u v
  | _ => false

theorem okC_of {x : FC} {v : Value} (h : okC x v = true) : ∃ h1, x = .ret v .run h1 := by
  unfold okC at h
  split at h
  · rename_i u h1
    exact ⟨h1, by rw [veq_eq _ _ h]⟩
  · cases h

theorem ran {P : Program} {ng : Nat} {pts : T (T PG)} (hp : plansAll (envOf P ng) pts P.funcs.toList 0 = true) {h0 : H} {n : Nat} {f : FuncId} {args : List Value} {v : Value} (ha : flatL args = true) (hv : flat v = true)
    (e : okC (fcallN { envOf P ng with orc := o } pts n f args .run h0) v = true) : Known.Ran { envOf P ng with orc := o } h0 ⟨f, args, v⟩ := by
  obtain ⟨h1, e⟩ := okC_of e
  obtain ⟨n0, h2⟩ := (fcallN_ok (plans_of hp) n).ret _ _ _ _ _ _ _ e
  exact ⟨ha, hv, n0, h1, h2 n0 (Nat.le_refl _)⟩

end Go.AX

/- Runs of code, cut into parts. -/
namespace Go.AX
noncomputable section
variable (E : Env) (pt : T PG) (cf : CF) (k : Nat)

/-- code behind a run -/
def bindR (r : FR) (c : Code) : FR := match r with
  | .norm t d m h => (codeC E pt c).run cf k m d t h
  | r => r

def startR (t : T Value) (h : H) : FR := .norm t [] .run h

theorem bindR_seq (r : FR) (a b : Code) : bindR E pt cf k r (.seq a b) = bindR E pt cf k (bindR E pt cf k r a) b := by
  cases r <;> rfl

theorem bindR_cond (t : T Value) (d : List Deferred) (m : FrameMode) (h : H) (c : Operand) (a b : Code) {v : Bool} (e : evT t c = .bool v) :
    bindR E pt cf k (.norm t d m h) (.cond c a b) = bindR E pt cf k (.norm t d m h) (if v then a else b) := by
  show (match (evC c).run t with | .bool true => (codeC E pt a).run cf k m d t h | .bool false => (codeC E pt b).run cf k m d t h | _ => .fail) = _
  rw [evC_eq, e]
  cases v <;> rfl

def nT : FR → T Value
  | .norm t _ _ _ => t
  | _ => .e
def nH : FR → H
  | .norm _ _ _ h => h
  | _ => ⟨.e, 0⟩
/-- it came to its end, nothing is put off -/
def isN : FR → Bool
  | .norm _ [] .run _ => true
  | _ => false
theorem isN_eq {r : FR} (h : isN r = true) : r = .norm (nT r) [] .run (nH r) := by
  unfold isN at h
  split at h
  · rfl
  · cases h

/-- it returns this one value -/
def retsV (fn : Func) (v : Value) : FR → Bool
  | .ret t [] .run h => match aresults E ⟨t, [], .run, h⟩ fn.results.toList with
    | some [u] => veq u v
    | _ => false
  | _ => false

end
section
variable {E : Env} {pts : T (T PG)} {n : Nat} {f : FuncId} {fn : Func} {c : Code} {args : List Value} {h : H} {v : Value}
theorem call_of (hf : E.fn.get f = some fn) (hb : fn.body = some c) (ho : askO E f args.toArray .run h = none)
    (e : retsV E fn v (bindR E (planTab pts f) (fcallN E pts n) n (startR (T.ofList args) h) c) = true) : ∃ h', fcallN E pts (n + 1) f args .run h = .ret v .run h' := by
  unfold retsV at e
  split at e
  · rename_i t h1 hr
    split at e
    · rename_i u hu
      refine ⟨h1, ?_⟩
      have hr : (codeC E (planTab pts f) c).run (fcallN E pts n) n .run [] (T.ofList args) h = .ret t [] .run h1 := hr
      simp only [fcallN, hf, hb, ho, fbody, hr, fleave, hu, oneOrTuple]
      rw [veq_eq _ _ e]
    · cases e
  · cases e
end
end Go.AX

/- From a run of the evaluator to the machine's call. -/
namespace Go.AX

/-- nothing that there was has changed -/
structure Same (w w' : World) : Prop where
  os : w'.os = w.os
  output : w'.output = w.output
  size : w.heap.size ≤ w'.heap.size
  block : ∀ B, B < w.heap.size → w'.heap[B]? = w.heap[B]?

theorem Same.kept {w w' : World} (h : Same w w') (may : MemPlace → Prop) : w.keptBut w' may := by
  refine ⟨h.os, h.output, fun i hi => ?_⟩
  rw [h.block i hi]
  have hx : w.heap[i]? = some w.heap[i] := Array.getElem?_eq_getElem hi
  rw [hx]
  cases w.heap[i] with
  | cells c t fr => exact ⟨rfl, rfl, rfl, fun _ _ => rfl⟩
  | map es clock => exact .inr ⟨rfl, rfl⟩
  | _ => rfl

/-- a table lies in the world -/
theorem OR_of_table {μ : Mu} {w : World} {g : Nat} {l : List Value} {el : TypeId} {cs : Array Value} {fz : Nat × Nat} (hl : flatL l = true) (hb : w.heap[g]? = some (.cells cs el fz)) (hsz : cs.size = l.length)
    (hc : ∀ (i : Nat) v, l[i]? = some v → cs[i]? = some v) : OR μ ⟨g, 0, l.length⟩ w (.cells (T.ofList l) l.length .stale ⟨none, el⟩) := by
  refine ⟨Nat.le_refl _, ⟨fun h => (by cases h), cs, fz, hb, fun h => (by cases h)⟩, cs, el, fz, hb, by simp [hsz], .inl rfl, fun i v _ hv => ?_⟩
  rw [T.get_ofList] at hv
  exact ⟨v, by simpa using hc i v hv, flat_refl _ _ (flatL_get hl hv)⟩

theorem calls_of {E : Env} {n : Nat} (hs : CallSound E n) {f : FuncId} {args : List Value} {v : Value} {h0 h1 : H} (ha : flatL args = true) (hv : flat v = true)
    (e : acall E n f args.toArray .run h0 = some (.ret v, .run, h1)) (hro : roHeap E.ng h0) {w : World} (room : Nat → Nat) (hw : ∀ g, g < E.ng → ∀ μ, OR μ ⟨g, 0, room g⟩ w (h0.obj g)) :
    Calls E.P f args.toArray w fun e w' => e = .returned v ∧ Same w w' := by
  let μ0 : Mu := fun b => if b < E.ng then some ⟨b, 0, room b⟩ else none
  have hin : ∀ b m, μ0 b = some m → b < E.ng ∧ m = ⟨b, 0, room b⟩ := by
    intro b m hb
    by_cases h : b < E.ng
    · simp only [μ0, h, if_true, Option.some.injEq] at hb
      exact ⟨h, hb.symm⟩
    · simp [μ0, h] at hb
  have hRO : ∀ b, b < E.ng → RO (h0.obj b) ∧ (h0.obj b).twin = none := by
    intro b hb
    rcases hro.1 b hb with h1 | ⟨l, n, el, h1, _⟩ <;> rw [h1]
    · exact ⟨trivial, rfl⟩
    · exact ⟨trivial, rfl⟩
  have hr0 : HR μ0 h0 w := by
    refine ⟨fun b m hb => ?_, fun b m hb => ?_, fun b b' m m' hb _ _ _ hn => ?_, fun b m t hb ht => ?_⟩
    · exact Nat.lt_of_lt_of_le (hin b m hb).1 hro.2
    · obtain ⟨h1, rfl⟩ := hin b m hb
      exact hw b h1 μ0
    · exact absurd (hRO b (hin b m hb).1).1 hn
    · rw [(hRO b (hin b m hb).1).2] at ht; cases ht
  have hg0 : Glob E μ0 := ⟨fun g hg' => ⟨room g, by simp [μ0, hg']⟩⟩
  intro cs
  obtain ⟨e2, cm2, w', fr, μ', p1, p2, p3, p4, p5, p6, p7, p8, p9⟩ := hs f args.toArray .run h0 _ _ _ e μ0 args.toArray .run w hr0 hg0 (flatL_refl _ _ ha) .run .normal (fun _ => cs) (.inl ⟨rfl, rfl, fun _ => rfl⟩)
  have hsame : ∀ B, B < w.heap.size → w'.heap[B]? = w.heap[B]? := fun B hB => p2.keep.block B hB fun b m hb _ => (hRO b (hin b m hb).1).1
  cases e2 with
  | returned v' =>
    have hx : VR μ' v v' := p4
    have := flat_eq hx hv
    subst this
    obtain ⟨q1, q2, q3⟩ := p9
    exact ⟨_, w', fr, ⟨rfl, p2.keep.os, p2.keep.output, p2.keep.size, hsame⟩, p6, p7, q1, q2, p8, q3⟩
  | _ => exact p4.elim
end Go.AX
