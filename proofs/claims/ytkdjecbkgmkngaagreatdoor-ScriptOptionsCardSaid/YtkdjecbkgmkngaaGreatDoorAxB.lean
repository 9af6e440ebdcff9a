/-
  The evaluator's operations that make or write memory are those of the model.
-/
import Derived.Test.YtkdjecbkgmkngaaGreatDoorAxA
import Derived.IntWalk
import Derived.Deep.AppendSrc
import Derived.Deep.Upon
set_option linter.unusedSectionVars false
set_option linter.unusedSimpArgs false
set_option linter.unusedVariables false
/- Operations that make one new block. -/
namespace Go.AX

def Mu.add (μ : Mu) (b : Nat) (m : M) : Mu := fun k => if k = b then some m else μ k

theorem Mu.add_self (μ : Mu) (b : Nat) (m : M) : μ.add b m b = some m := by simp [Mu.add]
theorem Mu.add_ne (μ : Mu) {b k : Nat} (m : M) (h : k ≠ b) : μ.add b m k = μ k := by simp [Mu.add, h]

theorem HR.fresh {μ : Mu} {h : H} {w : World} (hr : HR μ h w) : μ h.next = none := by
  cases e : μ h.next with
  | none => rfl
  | some m => exact absurd (hr.lt _ _ e) (Nat.lt_irrefl _)

theorem HR.le_add {μ : Mu} {h : H} {w : World} (hr : HR μ h w) (m : M) : μ.le (μ.add h.next m) := by
  intro b m' e
  rw [Mu.add_ne _ _ (by have := hr.lt _ _ e; omega)]
  exact e

theorem OR.mono {μ μ' : Mu} {m : M} {w w' : World} {o : AObj} (h : OR μ m w o) (hm : μ.le μ') (hw : w'.heap[m.B]? = w.heap[m.B]?) : OR μ' m w' o := by
  cases o with
  | dead => trivial
  | cells c n cap tw =>
    obtain ⟨h1, h2, cs, el, fz, h3, h4, h5, h6⟩ := h
    exact ⟨h1, ⟨h2.1, let ⟨cs, fz, a, b⟩ := h2.2; ⟨cs, fz, hw.trans a, b⟩⟩, cs, el, fz, hw.trans h3, h4, h5, fun i v hi hv => let ⟨v', a, b⟩ := h6 i v hi hv; ⟨v', a, b.mono hm⟩⟩
  | map es =>
    obtain ⟨ents, clock, h1, h2, h3⟩ := h
    exact ⟨ents, clock, hw.trans h1, h2.mono hm, h3⟩
  | iter l pos => exact ⟨h.1, hw.trans h.2⟩
  | loop ready tm params assign body =>
    obtain ⟨fn, tm', d, N, h1, h2, h3, h4, h5, h7⟩ := h
    exact ⟨fn, tm', d, N, hw.trans h1, h2, h3, h4, h5, fun t => (h7 t).mono hm⟩
  | dfr => exact hw.trans h

theorem OR.lt {μ : Mu} {m : M} {w : World} {o : AObj} (h : OR μ m w o) (hd : o ≠ .dead) : m.B < w.heap.size := by
  have key : ∀ {x : Obj}, w.heap[m.B]? = some x → m.B < w.heap.size := fun h => (Array.getElem?_eq_some_iff.1 h).1
  cases o with
  | dead => exact absurd rfl hd
  | cells c n cap tw => obtain ⟨h1, h2, cs, el, fz, h3, _⟩ := h; exact key h3
  | map es => obtain ⟨ents, clock, h1, _⟩ := h; exact key h1
  | iter l pos => exact key h.2
  | loop ready tm params assign body => obtain ⟨fn, tm', d, N, h1, _⟩ := h; exact key h1
  | dfr => exact key h

theorem RO.dead_or {o : AObj} (h : ¬ RO o) : o ≠ .dead := fun e => h (e ▸ trivial)

/-- a new block -/
theorem HR.alloc {μ : Mu} {h : H} {w w' : World} {obj : Obj} {x : AObj} {room : Nat} (hr : HR μ h w) (hw : w'.heap = w.heap.push obj) (hos : w'.os = w.os) (htape : w'.tape = w.tape) (hout : w'.output = w.output)
    (htw : ∀ t, x.twin = some t → ∃ mt, μ t = some mt) (hx : OR (μ.add h.next ⟨w.heap.size, 0, room⟩) ⟨w.heap.size, 0, room⟩ w' x) :
    HR (μ.add h.next ⟨w.heap.size, 0, room⟩) (h.new x) w' ∧ Ext μ h w (μ.add h.next ⟨w.heap.size, 0, room⟩) (h.new x) w' := by
  have hle := hr.le_add ⟨w.heap.size, 0, room⟩
  have hold : ∀ B, B < w.heap.size → w'.heap[B]? = w.heap[B]? := by
    intro B hB
    rw [hw, Array.getElem?_push, if_neg (by omega)]
  have hobj : ∀ b, b ≠ h.next → (h.new x).obj b = h.obj b := fun b hb => by rw [H.obj_new, if_neg (Ne.symm hb)]
  have hsome : ∀ b m, μ.add h.next ⟨w.heap.size, 0, room⟩ b = some m → b ≠ h.next → μ b = some m := fun b m e hb => by rwa [Mu.add_ne _ _ hb] at e
  have hself : ∀ m, μ.add h.next ⟨w.heap.size, 0, room⟩ h.next = some m → m = ⟨w.heap.size, 0, room⟩ := fun m e => by rw [Mu.add_self] at e; exact (Option.some.inj e).symm
  constructor
  · constructor
    · intro b m e
      by_cases hb : b = h.next
      · subst hb; exact Nat.lt_succ_self _
      · exact Nat.lt_succ_of_lt (hr.lt b m (hsome b m e hb))
    · intro b m e
      by_cases hb : b = h.next
      · subst hb
        rw [hself m e, H.obj_new, if_pos rfl]
        exact hx
      · have e' := hsome b m e hb
        rw [hobj b hb]
        have ho := hr.ok b m e'
        by_cases hd : h.obj b = .dead
        · rw [hd]; trivial
        · exact ho.mono hle (hold _ (ho.lt hd))
    · intro b b' m m' e e' hne hB hro
      by_cases hb : b = h.next
      · have hb' : b' ≠ h.next := fun hh => hne (hb.trans hh.symm)
        subst hb
        have e2 := hsome b' m' e' hb'
        rw [hself m e] at hB
        rw [hobj b' hb']
        by_cases hd : h.obj b' = .dead
        · exact .inl hd
        · have := (hr.ok b' m' e2).lt hd
          simp only at hB
          omega
      · have e1 := hsome b m e hb
        rw [hobj b hb] at hro ⊢
        by_cases hb' : b' = h.next
        · subst hb'
          rw [hself m' e'] at hB
          have := (hr.ok b m e1).lt (RO.dead_or hro)
          simp only at hB
          omega
        · rw [hobj b' hb']
          exact hr.apart b b' m m' e1 (hsome b' m' e' hb') hne hB hro
    · intro b m t e ht
      by_cases hb : b = h.next
      · subst hb
        rw [H.obj_new, if_pos rfl] at ht
        obtain ⟨mt, h1⟩ := htw t ht
        exact ⟨mt, hle _ _ h1⟩
      · rw [hobj b hb] at ht
        obtain ⟨mt, h1⟩ := hr.tw b m t (hsome b m e hb) ht
        exact ⟨mt, hle _ _ h1⟩
  · constructor
    · exact hle
    · intro b m e
      by_cases hb : b = h.next
      · subst hb
        rw [hself m e]
        exact .inr ⟨Nat.le_refl _, .inl (Nat.le_refl _)⟩
      · exact .inl (hsome b m e hb)
    · intro b hb hro
      rwa [hobj b (by omega)]
    · exact Nat.le_succ _
    · intro b hb _
      exact hobj b (by omega)
    · exact ⟨hos, htape, hout, by rw [hw]; simp, fun B hB _ => hold B hB⟩

theorem getElem?_push_size {α : Type} (a : Array α) (x : α) : (a.push x)[a.size]? = some x := by simp

/-- the cells of a new row -/
theorem OR.row' {μ : Mu} {w' : World} {B o n room : Nat} {cap : Cap} {tw : Tw} {c : T Value} {l l' : List Value} {cs : Array Value} {el : TypeId} {fz : Nat × Nat} (hw : w'.heap[B]? = some (.cells cs el fz))
    (hc : ∀ (k : Nat) (v : Value), k < n → c.get k = some v → l[k]? = some v)
    (hl : VRL μ l l') (hcs : ∀ (i : Nat) (v : Value), l'[i]? = some v → cs[o + i]? = some v) (hroom : n ≤ room) (hcap : cap = .exact → n = room) (hsz : o + room ≤ cs.size)
    (hfz : cap = .stale ∨ fz.1 = fz.2 ∨ cs.size ≤ fz.1) (hel : tw.el = el) (hex : cap = .exact → o = 0 ∧ cs.size = n) : OR μ ⟨B, o, room⟩ w' (.cells c n cap tw) := by
  refine ⟨hroom, ⟨hcap, cs, fz, by rw [hel]; exact hw, hex⟩, cs, el, fz, hw, by simpa using hsz, hfz, fun i v hi hv => ?_⟩
  obtain ⟨v', h1, h2⟩ := hl.get (hc i v hi hv)
  exact ⟨v', hcs i v' h1, h2⟩

theorem OR.row {μ : Mu} {w' : World} {B n room : Nat} {cap : Cap} {tw : Tw} {l l' : List Value} {cs : Array Value} {el : TypeId} {fz : Nat × Nat} (hw : w'.heap[B]? = some (.cells cs el fz))
    (hl : VRL μ l l') (hcs : ∀ (i : Nat) (v : Value), l'[i]? = some v → cs[i]? = some v) (hroom : n ≤ room) (hcap : cap = .exact → n = room) (hsz : room ≤ cs.size)
    (hfz : cap = .stale ∨ fz.1 = fz.2 ∨ cs.size ≤ fz.1) (hel : tw.el = el) (hex : cap = .exact → cs.size = n) : OR μ ⟨B, 0, room⟩ w' (.cells (T.ofList l) n cap tw) :=
  OR.row' hw (fun k v _ hv => by rwa [T.get_ofList] at hv) hl (by simpa using hcs) hroom hcap (by simpa using hsz) hfz hel (fun h => ⟨rfl, hex h⟩)

theorem repl_length (z : List Value) : ∀ n, (repl z n).length = n * z.length
  | 0 => by simp [repl]
  | n + 1 => by simp [repl, repl_length z n, Nat.succ_mul, Nat.add_comm]

theorem repl_get (z : List Value) (hz : 0 < z.length) : ∀ (n i : Nat), i < n * z.length → (repl z n)[i]? = z[i % z.length]?
  | 0, i, h => by simp at h
  | n + 1, i, h => by
    simp only [repl, List.getElem?_append]
    by_cases hi : i < z.length
    · rw [if_pos hi, Nat.mod_eq_of_lt hi]
    · rw [if_neg hi, repl_get z hz n (i - z.length) (by rw [Nat.succ_mul] at h; omega)]
      congr 1
      rw [Nat.mod_eq_sub_mod (Nat.le_of_not_lt hi)]

/-- the zero cells of a row, as the model writes them -/
theorem zeros_eq (z : Array Value) (hz : 0 < z.size) (n : Nat) : ((Array.range (n * z.size)).map fun i => z[i % z.size]!).toList = repl z.toList n := by
  apply List.ext_getElem?
  intro i
  by_cases hi : i < n * z.size
  · have h2 := repl_get z.toList (by simpa using hz) n i (by simpa using hi)
    rw [h2]
    have h3 : i % z.size < z.size := Nat.mod_lt _ hz
    simp [hi, h3]
  · rw [List.getElem?_eq_none (by simp; omega), List.getElem?_eq_none (by rw [repl_length]; simp; omega)]

end Go.AX

namespace Go.AX

theorem fillA_length {pl : Nat → Option (Nat × Nat)} : ∀ {ps : List (Nat × Value)} {c r : List Value}, fillA pl c ps = some r → r.length = c.length
  | [], c, r, h => by simp [fillA] at h; rw [h]
  | (i, v) :: ps, c, r, h => by
    simp only [fillA] at h
    split at h
    · cases h
    · rename_i off sz hp
      split at h
      · rename_i h3 h4
        have h3 : v.cells.size = sz := by simpa using h3
        have h4 : off + sz ≤ c.length := by simpa using h4
        rw [fillA_length h]
        simp [placeList]
        omega
      · cases h

theorem push_modify (objs : Array Obj) (o : Obj) (g : Obj → Obj) : (objs.push o).modify objs.size g = objs.push (g o) := by
  apply Array.ext
  · simp
  · intro i h1 h2
    simp only [Array.getElem_modify, Array.getElem_push]
    simp at h2
    by_cases h : i < objs.size
    · simp [h]; omega
    · have : i = objs.size := by omega
      simp [this]

set_option maxHeartbeats 1000000 in
theorem afresh_core {E : Env} (hE : EnvOk E) {μ : Mu} {w : World} {ρ a : Operand → Value} {o : Oper} {x : AObj} {f : Nat → Value}
    (hx : ∀ y ∈ o.op.operands, VR μ (ρ y) (a y)) (e : afresh E ρ o = some (x, f)) :
    ∃ w' obj room v', (execOp a o).run E.P w = .ok (.value v') w' ∧ w'.heap = w.heap.push obj ∧ w'.os = w.os ∧ w'.tape = w.tape ∧ w'.output = w.output ∧ x.twin = none ∧
      (∀ μ', μ.le μ' → OR μ' ⟨w.heap.size, 0, room⟩ w' x) ∧ ∀ μ' b, μ' b = some ⟨w.heap.size, 0, room⟩ → VR μ' (f b) v' := by
  obtain ⟨dst, op, type, pos, after, guard⟩ := o
  unfold afresh at e
  dsimp only at e hx
  split at e
  · -- alloc
    rename_i t
    split at e
    · rename_i z hz
      split at e
      · rename_i ho
        cases e
        have hzr := fun μ' => flat_refl μ' z (zero_flat hE hz)
        have hOR : ∀ μ', μ.le μ' → OR μ' ⟨w.heap.size, 0, z.cells.size⟩ ({ w with heap := w.heap.push (.cells z.cells t) } : World) (.cells (T.ofList z.cells.toList) z.cells.size .exact ⟨none, t⟩) := fun μ' hle => OR.row (getElem?_push_size _ _) (hzr μ').cells (by intro i v hv; simpa using hv) (Nat.le_refl _) (fun _ => rfl) (Nat.le_refl _) (.inr (.inl rfl)) rfl (fun _ => rfl)
        refine ⟨{ w with heap := w.heap.push (.cells z.cells t) }, .cells z.cells t, z.cells.size, .pointer (some ⟨w.heap.size, 0, none⟩), ?_, rfl, rfl, rfl, rfl, rfl, hOR, fun μ' b hb => .ptr hb⟩
        simp only [execOp]
        apply run_v
        simp [Instr.alloc, run_zero hE hz, newVar, newRow]
      · cases e
    · cases e
  · -- box
    rename_i t y
    have hc := hx y (by simp [Op.operands])
    split at e
    · rename_i ho
      cases e
      have hlen : (ρ y).cells.size = (a y).cells.size := by have := hc.cells.length; simpa using this
      have hm : ∀ μ', μ.le μ' → VR μ' (ρ y) (a y) := fun μ' hle => hc.mono hle
      have hOR : ∀ μ', μ.le μ' → OR μ' ⟨w.heap.size, 0, (ρ y).cells.size⟩ ({ w with heap := w.heap.push (.cells (a y).cells t) } : World) (.cells (T.ofList (ρ y).cells.toList) (ρ y).cells.size .exact ⟨none, t⟩) := fun μ' hle => OR.row (getElem?_push_size _ _) (hm μ' hle).cells (by intro i v hv; simpa using hv) (Nat.le_refl _) (fun _ => rfl) (by omega) (.inr (.inl rfl)) rfl (fun _ => hlen.symm)
      refine ⟨{ w with heap := w.heap.push (.cells (a y).cells t) }, .cells (a y).cells t, (ρ y).cells.size, .pointer (some ⟨w.heap.size, 0, none⟩), ?_, rfl, rfl, rfl, rfl, rfl, hOR, fun μ' b hb => .ptr hb⟩
      simp only [execOp]
      apply run_v
      simp [Instr.box, newVar, newRow]
    · cases e
  · -- buildSlice
    rename_i t len parts
    split at e
    · rename_i el hu
      split at e
      · rename_i ti hti
        split at e
        · rename_i z w1 hz hsz
          split at e
          · rename_i l hzs hlim hl
            have hzs : z.cells.size = w1 + 1 := by simpa using hzs
            have hlim : len * (w1 + 1) ≤ 16777216 := Nat.le_of_ble_eq_true hlim
            split at e
            · rename_i ho
              cases e
              have hzr := flat_refl μ z (hE.zero _ _ _ hti hz)
              obtain ⟨p1, p2⟩ := parts_rel (a := a) (fun x hm => hx x (by simpa [Op.operands] using hm))
              have hsz' : (sizeOf el).run E.P w = .ok (w1 + 1) w := by rw [run_size' hE hti, hsz]
              obtain ⟨l', h1, h2⟩ := fill_sound (cells' := (repl z.cells.toList len).toArray) (by simpa using hzr.cells.repl len) p1 p2 hl
              have hl2 : l.length = len * (w1 + 1) := by rw [fillA_length hl, repl_length]; simp [hzs]
              have hl3 : l'.size = len * (w1 + 1) := by have := h2.length; simp at this; omega
              have hm := fun (μ' : Mu) (hle : μ.le μ') => h2.mono hle
              have hOR : ∀ μ', μ.le μ' → OR μ' ⟨w.heap.size, 0, len * (w1 + 1)⟩ ({ w with heap := w.heap.push (.cells l' el) } : World) (.cells (T.ofList l) (len * (w1 + 1)) .exact ⟨none, el⟩) := fun μ' hle => OR.row (getElem?_push_size _ _) (hm μ' hle) (by intro i v hv; simpa using hv) (Nat.le_refl _) (fun _ => rfl) (by omega) (.inr (.inl rfl)) rfl (fun _ => hl3)
              refine ⟨{ w with heap := w.heap.push (.cells l' el) }, .cells l' el, len * (w1 + 1), .slice (some ⟨w.heap.size, 0, none⟩) len len, ?_, rfl, rfl, rfl, rfl, rfl, hOR, fun μ' b hb => .slice hb rfl (Nat.le_refl _)⟩
              simp only [execOp]
              apply run_v
              have hcells : ((Array.range (len * (w1 + 1))).map fun i => (if len * (w1 + 1) = 0 then #[] else z.cells)[i % (if len * (w1 + 1) = 0 then #[] else z.cells).size]!) = (repl z.cells.toList len).toArray := by
                by_cases h0 : len * (w1 + 1) = 0
                · have : len = 0 := by
                    rcases Nat.mul_eq_zero.1 h0 with h0 | h0
                    · exact h0
                    · omega
                  subst this
                  simp [repl]
                · rw [if_neg h0, ← hzs]
                  apply Array.ext'
                  rw [zeros_eq z.cells (by omega) len]
              simp only [Instr.buildSlice, Sem.run_bind, run_und hE hu, Result.andThen_ok, hsz']
              rw [if_neg (by omega)]
              by_cases h0 : len * (w1 + 1) = 0
              · simp only [h0, if_true] at hcells
                simp only [h0, if_true]
                simp only [Sem.run_bind, Sem.run_pure, Result.andThen_ok]
                rw [hcells]
                simp only [h1]
                simp [newRow]
              · simp only [h0, if_false] at hcells
                simp only [Sem.run_pure, Result.andThen_ok, h0, if_false, Sem.run_bind, run_zero' hE hti hz]
                rw [hcells]
                simp only [h1]
                simp [newRow]
            · cases e
          · cases e
        · cases e
      · cases e
    · cases e
  · -- makeMap
    rename_i t
    cases e
    have hOR : ∀ μ', μ.le μ' → OR μ' ⟨w.heap.size, 0, 0⟩ ({ w with heap := w.heap.push (.map #[] 0) } : World) (.map []) := fun μ' hle => ⟨#[], 0, getElem?_push_size _ _, .nil, rfl⟩
    refine ⟨{ w with heap := w.heap.push (.map #[] 0) }, .map #[] 0, 0, .map (some w.heap.size), ?_, rfl, rfl, rfl, rfl, rfl, hOR, fun μ' b hb => .map hb⟩
    simp only [execOp]
    apply run_v
    simp [Instr.makeMap]
  · -- makeSlice
    rename_i t lo co
    have hlo := hx lo (by simp [Op.operands])
    have hco := hx co (by simp [Op.operands])
    generalize hla : a lo = la at hlo
    generalize hca : a co = ca at hco
    split at e
    · rename_i el kl l kc c hu hbl hbc
      rw [hbl] at hlo
      rw [hbc] at hco
      cases hlo
      cases hco
      split at e
      · rename_i ti hti
        split at e
        · rename_i z w1 hz hsz
          split at e
          · rename_i hzs hlc hbytes hcs ho
            have hzs : z.cells.size = w1 + 1 := by simpa using hzs
            have hlc : l ≤ c := Nat.le_of_ble_eq_true hlc
            have hbytes : c * ti.info.bytes ≤ 1073741824 := Nat.le_of_ble_eq_true hbytes
            have hcs : c ≤ 1073741824 := Nat.le_of_ble_eq_true hcs
            cases e
            have hzr := flat_refl μ z (hE.zero _ _ _ hti hz)
            have hsz' : (sizeOf el).run E.P w = .ok (w1 + 1) w := by rw [run_size' hE hti, hsz]
            have hm := fun (μ' : Mu) (hle : μ.le μ') => (hzr.cells.repl c).mono hle
            have hOR : ∀ μ', μ.le μ' → OR μ' ⟨w.heap.size, 0, c * (w1 + 1)⟩ ({ w with heap := w.heap.push (.cells (repl z.cells.toList c).toArray el) } : World) (.cells (T.ofList (repl z.cells.toList c)) (c * (w1 + 1)) .exact ⟨none, el⟩) := fun μ' hle => OR.row (getElem?_push_size _ _) (hm μ' hle) (by intro i v hv; simpa using hv) (Nat.le_refl _) (fun _ => rfl) (by simp [repl_length, hzs]) (.inr (.inl rfl)) rfl (fun _ => by simp [repl_length, hzs])
            refine ⟨{ w with heap := w.heap.push (.cells (repl z.cells.toList c).toArray el) }, .cells (repl z.cells.toList c).toArray el, c * (w1 + 1), .slice (some ⟨w.heap.size, 0, none⟩) l c, ?_, rfl, rfl, rfl, rfl, rfl, hOR, fun μ' b hb => .slice hb rfl hlc⟩
            simp only [execOp]
            apply run_v
            have hwl : IntKind.i64.wrap (Int.ofNat l) = Int.ofNat l := IntWalk.i64_in _ (by show -9223372036854775808 ≤ (l : Int) ∧ (l : Int) ≤ 9223372036854775807; omega)
            have hwc : IntKind.i64.wrap (Int.ofNat c) = Int.ofNat c := IntWalk.i64_in _ (by show -9223372036854775808 ≤ (c : Int) ∧ (c : Int) ≤ 9223372036854775807; omega)
            have hcells : ∀ zz : Array Value, (c ≠ 0 → zz = z.cells) → ((Array.range (c * (w1 + 1))).map fun i => zz[i % zz.size]!) = (repl z.cells.toList c).toArray := by
              intro zz hzz
              by_cases h0 : c = 0
              · subst h0; simp [repl]
              · rw [hzz h0, ← hzs]
                apply Array.ext'
                rw [zeros_eq z.cells (by omega) c]
            have hmul : (ti.info.bytes : Int) * (c : Int) ≤ 1073741824 := by
              have h5 := Int.ofNat_le.2 hbytes
              rw [Int.natCast_mul, Int.mul_comm] at h5
              exact h5
            have hmul2 : (ti.info.bytes : Int) * (l : Int) ≤ 1073741824 := Int.le_trans (Int.mul_le_mul_of_nonneg_left (by omega) (by omega)) hmul
            simp only [Instr.makeSlice, Sem.run_bind, run_und hE hu, Result.andThen_ok, hla, hca, asInt, asIntOf, Sem.run_pure, run_info hE hti, hwl, hwc]
            rw [if_neg (by
              simp only [Int.ofNat_eq_natCast, Bool.or_eq_true, decide_eq_true_eq, not_or]
              refine ⟨⟨⟨by omega, by omega⟩, by omega⟩, by omega⟩)]
            simp only [Sem.run_bind, Result.andThen_ok, run_askRoom, hsz', Int.ofNat_eq_natCast, Int.toNat_natCast]
            by_cases h0 : c = 0
            · have := hcells #[] (fun hh => absurd h0 hh)
              subst h0
              simp only [Nat.zero_mul, if_true, Sem.run_pure, Sem.run_bind, Result.andThen_ok]
              simp only [Nat.zero_mul] at this
              rw [this]
              simp [newRow]
            · have := hcells z.cells (fun _ => rfl)
              rw [if_neg (by intro hh; rcases Nat.mul_eq_zero.1 hh with hh | hh <;> omega)]
              simp only [Sem.run_pure, Sem.run_bind, Result.andThen_ok, run_zero' hE hti hz]
              rw [this]
              simp [newRow]
          · cases e
        · cases e
      · cases e
    · cases e
  · -- string to bytes
    rename_i src dst' y
    have hc := hx y (by simp [Op.operands])
    generalize hac : a y = ac at hc
    split at e
    · rename_i el s hs hd hb
      rw [hb] at hc
      cases hc
      split at e
      · rename_i he hsz
        cases e
        obtain ⟨n, hnE⟩ : ∃ n, n = (Question.appendCap s.size 0 el).cut (w.tape w.drawn (.appendCap s.size 0 el)) := ⟨_, rfl⟩
        have hn : s.size ≤ n := by simp only [hnE, Question.cut]; omega
        obtain ⟨cells, hcE⟩ : ∃ cells : Array Value, cells = s.data.map (fun b => Value.int .u8 b.toNat) ++ Array.replicate (n - s.size) (.int .u8 0) := ⟨_, rfl⟩
        have hcs : cells.size = n := by
          have : s.data.size = s.size := rfl
          simp only [hcE, Array.size_append, Array.size_map, Array.size_replicate]
          omega
        have hrel : ∀ μ', VRL μ' (s.data.toList.map fun c => Value.int .u8 c.toNat) (s.data.toList.map fun c => Value.int .u8 c.toNat) := fun μ' => VRL.map _ fun _ _ => .int _ _
        have hOR : ∀ μ', μ.le μ' → OR μ' ⟨w.heap.size, 0, n⟩ ({ w with heap := w.heap.push (.cells cells el (n, n + 1)), drawn := w.drawn + 1 } : World) (.cells (T.ofList (s.data.toList.map fun c => Value.int .u8 c.toNat)) s.size .grown ⟨none, el⟩) := fun μ' hle => OR.row (getElem?_push_size _ _) (hrel μ') (by
            intro i v hv
            rw [hcE, Array.getElem?_append_left (by
              have := (List.getElem?_eq_some_iff.1 hv).1
              simpa using this)]
            simpa using hv) hn (fun hh => by cases hh) (by omega) (.inr (.inr (by omega))) rfl (fun hh => by cases hh)
        refine ⟨{ w with heap := w.heap.push (.cells cells el (n, n + 1)), drawn := w.drawn + 1 }, .cells cells el (n, n + 1), n, .slice (some ⟨w.heap.size, 0, none⟩) s.size n, ?_, rfl, rfl, rfl, rfl, rfl, hOR, fun μ' b hb => .slice (w := 0) hb (by simp) hn⟩
        simp only [execOp]
        apply run_v
        simp only [convert, Sem.run_bind, run_und hE hs, run_und hE hd, run_und hE he, Result.andThen_ok, hac, Conv.stringToBytes, run_choose, Question.forced, Bool.false_eq_true, if_false, newRow, run_newObj, Sem.run_pure, markStringish, run_shape]
        have hsh : ({ w with heap := w.heap.push (.cells cells el), drawn := w.drawn + 1 } : World).shape? w.heap.size = some (el, n) := by
          simp [World.shape?, hcs]
        rw [← hnE, ← hcE, hsh]
        simp [World.freeze, push_modify]
      · cases e
    · cases e
  · -- range
    rename_i t y
    have hc := hx y (by simp [Op.operands])
    generalize hac : a y = ac at hc
    split at e
    · rename_i s hu hb
      rw [hb] at hc
      cases hc
      cases e
      have hOR : ∀ μ', μ.le μ' → OR μ' ⟨w.heap.size, 0, 0⟩ ({ w with heap := w.heap.push (.stringIter s 0) } : World) (.iter s.data.toList 0) := fun μ' hle => ⟨rfl, by show (w.heap.push (.stringIter s 0))[w.heap.size]? = _; rw [getElem?_push_size]⟩
      refine ⟨{ w with heap := w.heap.push (.stringIter s 0) }, .stringIter s 0, 0, .pointer (some ⟨w.heap.size, 0, none⟩), ?_, rfl, rfl, rfl, rfl, rfl, hOR, fun μ' b hb => .ptr hb⟩
      simp only [execOp]
      apply run_v
      simp [Instr.range, run_und hE hu, hac]
    · cases e
  · cases e

theorem afresh_sound {E : Env} (hE : EnvOk E) {μ : Mu} {h : H} {w : World} (hr : HR μ h w) {ρ a : Operand → Value} {o : Oper} {x : AObj} {f : Nat → Value}
    (hx : ∀ y ∈ o.op.operands, VR μ (ρ y) (a y)) (e : afresh E ρ o = some (x, f)) :
    ∃ w' room v', (execOp a o).run E.P w = .ok (.value v') w' ∧ HR (μ.add h.next ⟨w.heap.size, 0, room⟩) (h.new x) w' ∧
      Ext μ h w (μ.add h.next ⟨w.heap.size, 0, room⟩) (h.new x) w' ∧ VR (μ.add h.next ⟨w.heap.size, 0, room⟩) (f h.next) v' := by
  obtain ⟨w', obj, room, v', h1, h2, h3, h4, h5, h6, h7, h8⟩ := afresh_core hE (w := w) hx e
  obtain ⟨g1, g2⟩ := hr.alloc h2 h3 h4 h5 (fun t ht => by rw [h6] at ht; cases ht) (h7 _ (hr.le_add _))
  exact ⟨w', room, v', h1, g1, g2, h8 _ _ (Mu.add_self _ _ _)⟩

end Go.AX

/- Stores. -/
namespace Go.AX

def setL (cs : Array Value) (o : Nat) : List Value → Array Value
  | [] => cs
  | v :: vs => setL (cs.setIfInBounds o v) (o + 1) vs

theorem setL_size : ∀ (vs : List Value) (cs : Array Value) (o : Nat), (setL cs o vs).size = cs.size
  | [], _, _ => rfl
  | v :: vs, cs, o => by simp [setL, setL_size vs]

theorem setL_get : ∀ (vs : List Value) (cs : Array Value) (o k : Nat), o + vs.length ≤ cs.size → (setL cs o vs)[k]? = if o ≤ k ∧ k < o + vs.length then vs[k - o]? else cs[k]?
  | [], cs, o, k, _ => by simp [setL]; intro _ _; omega
  | v :: vs, cs, o, k, h => by
    simp only [List.length_cons] at h
    simp only [setL, List.length_cons]
    rw [setL_get vs _ _ _ (by simp; omega)]
    by_cases h1 : o + 1 ≤ k ∧ k < o + 1 + vs.length
    · rw [if_pos h1, if_pos (by omega), show k - o = (k - (o + 1)) + 1 by omega, List.getElem?_cons_succ]
    · rw [if_neg h1]
      by_cases h2 : k = o
      · subst h2
        rw [if_pos (by omega), Array.getElem?_setIfInBounds, if_pos rfl, if_pos (by omega)]
        simp
      · rw [if_neg (by omega), Array.getElem?_setIfInBounds, if_neg (Ne.symm h2)]

theorem setCells_heap : ∀ (vs : List Value) (b o : Nat) (w : World) {cs : Array Value} {el : TypeId} {fz : Nat × Nat}, w.heap[b]? = some (.cells cs el fz) →
    (w.setCells b o vs).heap[b]? = some (.cells (setL cs o vs) el fz)
  | [], b, o, w, cs, el, fz, h => h
  | v :: vs, b, o, w, cs, el, fz, h => by
    rw [World.setCells]
    exact setCells_heap vs b (o + 1) _ (cs := cs.setIfInBounds o v) (by simp [World.setCell, Array.getElem?_modify, h])

theorem setCells_other : ∀ (vs : List Value) (b o : Nat) (w : World) (b' : Nat), b' ≠ b → (w.setCells b o vs).heap[b']? = w.heap[b']?
  | [], b, o, w, b', h => rfl
  | v :: vs, b, o, w, b', h => by
    rw [World.setCells, setCells_other vs b _ _ b' h]
    simp [World.setCell, Array.getElem?_modify, Ne.symm h]

theorem setCells_keep : ∀ (vs : List Value) (b o : Nat) (w : World), (w.setCells b o vs).heap.size = w.heap.size ∧ (w.setCells b o vs).os = w.os ∧ (w.setCells b o vs).tape = w.tape ∧ (w.setCells b o vs).output = w.output
  | [], b, o, w => ⟨rfl, rfl, rfl, rfl⟩
  | v :: vs, b, o, w => by
    rw [World.setCells]
    obtain ⟨h1, h2, h3, h4⟩ := setCells_keep vs b (o + 1) (w.setCell ⟨b, o, none⟩ v)
    exact ⟨by rw [h1]; simp [World.setCell], h2, h3, h4⟩

/-- a change of one block that may be written: what becomes of the rest -/
theorem HR.change {μ : Mu} {h : H} {w w' : World} (hr : HR μ h w) {b : Nat} {m : M} (hm : μ b = some m) {x : AObj} {h1 : H}
    (hnro : ¬ RO (h.obj b)) (hkill : h1 = h.kill (h.obj b).twin) (htw : ∀ t, x.twin = some t → (h.obj b).twin = some t)
    (hheap : ∀ B, B ≠ m.B → w'.heap[B]? = w.heap[B]?) (hsize : w'.heap.size = w.heap.size) (hos : w'.os = w.os) (htape : w'.tape = w.tape) (hout : w'.output = w.output)
    (hor : OR μ m w' x) : HR μ (h1.upd b x) w' ∧ Ext μ h w μ (h1.upd b x) w' := by
  subst hkill
  have hobj : ∀ k, ((h.kill (h.obj b).twin).upd b x).obj k = if b = k then x else if (h.obj b).twin = some k then .dead else h.obj k := by
    intro k; rw [H.obj_upd, H.obj_kill]
  constructor
  · constructor
    · intro k mk e
      simpa using hr.lt k mk e
    · intro k mk e
      rw [hobj]
      by_cases hk : b = k
      · subst hk
        rw [if_pos rfl]
        rw [hm] at e
        cases e
        exact hor
      · rw [if_neg hk]
        by_cases ht : (h.obj b).twin = some k
        · rw [if_pos ht]; trivial
        · rw [if_neg ht]
          have ho := hr.ok k mk e
          by_cases hd : h.obj k = .dead
          · rw [hd]; trivial
          · refine ho.mono (Mu.le_refl _) (hheap _ ?_)
            intro hB
            rcases hr.apart b k m mk hm e hk hB.symm hnro with h2 | h2
            · exact hd h2
            · exact ht h2
    · intro k k' mk mk' e e' hne hB hro
      rw [hobj] at hro ⊢
      rw [hobj]
      by_cases hk : b = k
      · subst hk
        rw [if_pos rfl] at hro ⊢
        rw [hm] at e
        cases e
        rw [if_neg hne]
        by_cases ht : (h.obj b).twin = some k'
        · rw [if_pos ht]; exact .inl rfl
        · rw [if_neg ht]
          rcases hr.apart b k' m mk' hm e' hne hB hnro with h2 | h2
          · exact .inl h2
          · exact absurd h2 ht
      · rw [if_neg hk] at hro ⊢
        by_cases ht : (h.obj b).twin = some k
        · rw [if_pos ht] at hro; exact absurd trivial hro
        · rw [if_neg ht] at hro ⊢
          by_cases hk' : b = k'
          · subst hk'
            rw [if_pos rfl]
            rw [hm] at e'
            cases e'
            rcases hr.apart k b mk m e hm hne hB hro with h2 | h2
            · exact absurd (h2 ▸ trivial) hnro
            · exact .inr h2
          · rw [if_neg hk']
            by_cases ht' : (h.obj b).twin = some k'
            · rw [if_pos ht']; exact .inl rfl
            · rw [if_neg ht']
              exact hr.apart k k' mk mk' e e' hne hB hro
    · intro k mk t e ht
      rw [hobj] at ht
      by_cases hk : b = k
      · subst hk
        rw [if_pos rfl] at ht
        exact hr.tw b m t hm (htw t ht)
      · rw [if_neg hk] at ht
        by_cases ht' : (h.obj b).twin = some k
        · rw [if_pos ht'] at ht; cases ht
        · rw [if_neg ht'] at ht
          exact hr.tw k mk t e ht
  · constructor
    · exact Mu.le_refl _
    · intro k mk e; exact .inl e
    · intro k hk hro
      rw [hobj]
      by_cases hb : b = k
      · subst hb; exact absurd hro hnro
      · rw [if_neg hb]
        by_cases ht : (h.obj b).twin = some k
        · rw [if_pos ht]; trivial
        · rw [if_neg ht]; exact hro
    · simp
    · intro k hk hn
      rw [hobj, if_neg (by rintro rfl; rw [hm] at hn; cases hn), if_neg ?_]
      intro ht
      obtain ⟨mt, h1⟩ := hr.tw b m k hm ht
      rw [hn] at h1
      cases h1
    · refine ⟨hos, htape, hout, by omega, fun B hB hro => hheap B ?_⟩
      intro hBm
      exact hnro (hro b m hm hBm.symm)

theorem not_frozen {μ : Mu} {m : M} {w : World} {c : T Value} {n : Nat} {cap : Cap} {tw : Tw} (h : OR μ m w (.cells c n cap tw)) (hcap : cap ≠ .stale) {k : Nat} (hk : k < m.room) :
    (w.cell? ⟨m.B, m.o + k, none⟩).isSome = true ∧ w.frozen? ⟨m.B, m.o + k, none⟩ = false := by
  obtain ⟨_, _, cs, el, fz, hw, hsz, hfz, _⟩ := h
  have hlt : m.o + k < cs.size := by omega
  constructor
  · simp [World.cell?, hw, hlt]
  · obtain ⟨lo, hi⟩ := fz
    simp only [World.frozen?, hw]
    rcases hfz with h1 | h1 | h1
    · exact absurd h1 hcap
    · simp only at h1; subst h1
      simp
    · simp only at h1
      simp; omega

theorem VRL.getSome {μ : Mu} {l l' : List Value} (h : VRL μ l l') {i : Nat} {v' : Value} (hv : l'[i]? = some v') : ∃ v, l[i]? = some v ∧ VR μ v v' := by
  have hlt : i < l'.length := (List.getElem?_eq_some_iff.1 hv).1
  have hlt2 : i < l.length := by rw [h.length]; exact hlt
  obtain ⟨u, h1, h2⟩ := h.get (List.getElem?_eq_getElem hlt2)
  rw [hv] at h1
  cases h1
  exact ⟨_, List.getElem?_eq_getElem hlt2, h2⟩

theorem Typ.set {m : M} {w : World} {n : Nat} {cap cap' : Cap} {t : TypeId} (h : Typ m w n cap t) (hc : cap' = .exact → cap = .exact) (o : Nat) (vs : List Value) : Typ m (w.setCells m.B o vs) n cap' t := by
  obtain ⟨cs, fz, h1, h2⟩ := h
  exact ⟨_, fz, setCells_heap vs m.B o w h1, fun h => ⟨(h2 (hc h)).1, by rw [setL_size]; exact (h2 (hc h)).2⟩⟩

/-- cells written within the block -/
theorem HR.write {μ : Mu} {h h' : H} {w : World} (hr : HR μ h w) {b i : Nat} {m : M} {vs vs' : List Value} (hm : μ b = some m) (e : h.write b i vs = some h') (hv : VRL μ vs vs') :
    (∀ j, j < vs'.length → (w.cell? ⟨m.B, m.o + i + j, none⟩).isSome = true) ∧ (∀ j, j < vs'.length → w.frozen? ⟨m.B, m.o + i + j, none⟩ = false) ∧ (∀ v ∈ vs', v.oneCell' = true) ∧
    HR μ h' (w.setCells m.B (m.o + i) vs') ∧ Ext μ h w μ h' (w.setCells m.B (m.o + i) vs') := by
  unfold H.write at e
  split at e
  · rename_i c sz cap tw hobj
    split at e
    · cases e
    · rename_i cap' hst
      split at e
      · rename_i hle hone
        have hle := Nat.le_of_ble_eq_true hle
        cases e
        have ho := hr.ok b m hm
        rw [hobj] at ho
        have hlen := hv.length
        have ho' := ho
        obtain ⟨hroom, hex, cs, el, fz, hw, hsz, hfz, hcells⟩ := ho'
        have hns : cap ≠ .stale := hst
        refine ⟨fun j hj => ?_, fun j hj => ?_, hv.oneCells hone, ?_⟩
        · rw [show m.o + i + j = m.o + (i + j) by omega]; exact (not_frozen ho hns (by omega)).1
        · rw [show m.o + i + j = m.o + (i + j) by omega]; exact (not_frozen ho hns (by omega)).2
        · obtain ⟨k1, k2, k3, k4⟩ := setCells_keep vs' m.B (m.o + i) w
          refine hr.change hm (x := .cells (c.putList i vs) sz cap ⟨none, tw.el⟩) (h1 := h.kill tw.t) ?_ (by rw [hobj]; rfl) (by intro t ht; cases ht) (fun B hB => setCells_other _ _ _ _ _ hB) k1 k2 k3 k4 ?_
          · rw [hobj]
            cases cap <;> first | exact (fun h => h) | exact absurd rfl hns
          · refine ⟨hroom, ⟨hex.1, hex.2.set id _ _⟩, setL cs (m.o + i) vs', el, fz, setCells_heap _ _ _ _ hw, by rw [setL_size]; exact hsz, by rw [setL_size]; exact hfz, fun k v hk hkv => ?_⟩
            rw [T.get_putList] at hkv
            rw [setL_get vs' cs (m.o + i) (m.o + k) (by omega)]
            by_cases h1 : i ≤ k ∧ k < i + vs.length
            · rw [if_pos h1] at hkv
              obtain ⟨v', h2, h3⟩ := hv.get hkv
              rw [if_pos (by omega)]
              exact ⟨v', by rw [show m.o + k - (m.o + i) = k - i by omega]; exact h2, h3⟩
            · rw [if_neg h1] at hkv
              rw [if_neg (by omega)]
              exact hcells k v hk hkv
      · cases e
  · cases e

end Go.AX

/- append. -/
namespace Go.AX

theorem afirst_sound {E : Env} {μ : Mu} {h : H} {w : World} (hr : HR μ h w) {sz n k : Nat} {x x' : Value} {l : List Value} (hx : VR μ x x') (hk : alenOf x = some k) (hn : n ≤ k) (e : afirst h sz n x = some l) :
    ∃ l', VRL μ l l' ∧ l'.length = n * sz ∧ (Builtin.firstCells sz n x').run E.P w = .ok l'.toArray w ∧ (Builtin.firstCells sz n x').run E.P w.drew = .ok l'.toArray w.drew := by
  unfold afirst at e
  split at e
  · rename_i b i len z
    simp only [alenOf, Option.some.injEq] at hk
    subst hk
    cases hx with
    | slice hm hroom hle =>
      rename_i w1 cap m
      split at e
      · rename_i hz
        have hz := Nat.eq_of_beq_eq_true hz
        subst hz
        obtain ⟨l', h1, h2, h3⟩ := read_sound hr hm e
        refine ⟨l', h1, h2, run_firstCells_some _ _ _ _ _ _ _ h2 ?_, run_firstCells_some _ _ _ _ _ _ _ h2 ?_⟩
        · intro j v hj; rw [Addr.add_mk]; exact h3 j v hj
        · intro j v hj; rw [Addr.add_mk]; exact h3 j v hj
      · split at e
        · cases e
          exact ⟨[], .nil, by simp, by simp [Builtin.firstCells, loadCells, loadCellsFrom], by simp [Builtin.firstCells, loadCells, loadCellsFrom]⟩
        · cases e
    | slice0 h0 =>
      have hn0 : n = 0 := by omega
      subst hn0
      have hl : l = [] := by
        split at e
        · simp only [Nat.zero_mul] at e
          unfold H.read at e
          split at e
          · split at e
            · simpa [getCells] using e.symm
            · cases e
          · cases e
        · simpa using e.symm
      subst hl
      exact ⟨[], .nil, by simp, by simp [Builtin.firstCells, loadCells, loadCellsFrom], by simp [Builtin.firstCells, loadCells, loadCellsFrom]⟩
  · cases hx
    split at e
    · cases e
      exact ⟨[], .nil, by simp, by simp [Builtin.firstCells], by simp [Builtin.firstCells]⟩
    · cases e
  · rename_i s
    cases hx
    split at e
    · rename_i h1 h2
      have h1 := Nat.eq_of_beq_eq_true h1
      have h2 := Nat.le_of_ble_eq_true h2
      subst h1
      cases e
      refine ⟨_, VRL.map (g := fun b : UInt8 => Value.int .u8 b.toNat) _ (fun _ _ => .int _ _), ?_, ?_⟩
      · have : s.data.size = s.size := rfl
        simp
        omega
      · have key : ((s.extract 0 n).data.map fun b => Value.int .u8 b.toNat) = ((s.data.toList.take n).map fun b : UInt8 => Value.int .u8 b.toNat).toArray := by
          apply Array.ext'
          simp [ByteArray.data_extract]
        constructor <;> (simp only [Builtin.firstCells, Sem.run_pure]; rw [key])
    · cases e
  · cases e

theorem alenOf_sound {P : Program} {μ : Mu} {x x' : Value} {k : Nat} (hx : VR μ x x') (hk : alenOf x = some k) : ∀ w' : World, (Builtin.lenOf x').run P w' = .ok k w' := by
  intro w'
  unfold alenOf at hk
  split at hk
  · cases hk; cases hx <;> rfl
  · cases hk; cases hx; rfl
  · cases hk

/-- what the second argument of an append yields -/
theorem src_sound {E : Env} {μ : Mu} {h : H} {w : World} (hr : HR μ h w) {tx : TypeId} (htx : (∃ e', E.P.underlying tx = some (.slice e')) ∨ E.P.underlying tx = some .string) {sz n : Nat} {x x' : Value} {l : List Value}
    (hx : VR μ x x') (hk : alenOf x = some n) (e : afirst h sz n x = some l) (ho : oneCells l = true) : ∃ l', VRL μ l l' ∧ Src E.P sz tx x' n l' w := by
  obtain ⟨l', h1, h2, h3, h4⟩ := afirst_sound (E := E) hr hx hk (Nat.le_refl _) e
  exact ⟨l', h1, ⟨htx, alenOf_sound hx hk, h3, h4, h2, h1.oneCells ho⟩⟩

theorem nextcap_le (n c : Nat) (h : c < n) : Builtin.nextslicecap n c ≤ 2 * n + 1024 := by
  unfold Builtin.nextslicecap
  split
  · omega
  · split
    · omega
    · have key : ∀ r c, c ≤ 2 * n + 1024 → Builtin.growBy n r c ≤ 2 * n + 1024 := by
        intro r
        induction r with
        | zero => intro c hc; simpa [Builtin.growBy] using hc
        | succ r ih =>
          intro c hc
          simp only [Builtin.growBy]
          split
          · exact hc
          · exact ih _ (by omega)
      exact key 4 c (by omega)

theorem fit_le {need c bytes : Nat} (h : c < need) (h1 : need * bytes ≤ 1099511627776) (h2 : bytes ≤ 65536) : Builtin.nextslicecap need c * bytes ≤ 281474976710656 := by
  have h3 := nextcap_le need c h
  have h4 : Builtin.nextslicecap need c * bytes ≤ (2 * need + 1024) * bytes := Nat.mul_le_mul_right _ h3
  rw [Nat.add_mul, Nat.mul_assoc] at h4
  omega

/-- an append without room: a new row -/
theorem grow_sound {E : Env} (hE : EnvOk E) {μ : Mu} {h h1 : H} {w : World} {t tx ty elem : TypeId} {ti : TI} {zv : Value} {w1 len n cap : Nat} {base : Option Addr} {x' : Value} {old new old' new' : List Value} {c : T Value} {tw : Tw}
    (hr : HR μ h1 w) (hext : Ext μ h w μ h1 w) (hlt : ∀ b m, μ b = some m → b < h.next) (hn : h1.next = h.next) (ht : E.P.underlying t = some (.slice elem)) (hti : E.ty.get elem = some ti) (hsz : ti.info.size = w1 + 1) (hz : ti.info.zero = some zv)
    (hs : Src E.P ti.info.size tx x' n new' w) (hnew : VRL μ new new') (hold : VRL μ old old') (holdl : old'.length = len * (w1 + 1)) (holdr : (Builtin.firstCells ti.info.size len (.slice base len cap)).run E.P w.drew = .ok old'.toArray w.drew)
    (hg : cap < len + n) (hb1 : (len + n) * ti.info.bytes ≤ 1099511627776) (hb2 : ti.info.bytes ≤ 65536) (hb3 : len + n ≤ 1099511627776)
    (hzs : zv.cells.size = w1 + 1) (hc : ∀ (k : Nat) (v : Value), k < (len + n) * (w1 + 1) → c.get k = some v → (old ++ new)[k]? = some v) (htw : ∀ t, tw.t = some t → ∃ mt, μ t = some mt) (hel : tw.el = elem) :
    ∃ w' μ' v', (Builtin.append_ #[t, tx] ty #[.slice base len cap, x']).run E.P w = .ok v' w' ∧ HR μ' (h1.new (.cells c ((len + n) * (w1 + 1)) .grown tw)) w' ∧
      Ext μ h w μ' (h1.new (.cells c ((len + n) * (w1 + 1)) .grown tw)) w' ∧ VR μ' (.slice (some ⟨h.next, 0, none⟩) (len + n) (w1 + 1)) v' := by
  have hrun := run_append_grow_src w t tx ty elem ti.info zv ht (hE.ty _ _ hti).1 hz base len cap old' holdr x' n new' hs hg (by omega) (fit_le hg hb1 hb2)
  have hge := grownCap_ge w (len + n) cap elem
  generalize grownCap w (len + n) cap elem = G at hrun hge
  have hsz2 : ((old' ++ new').toArray ++ Builtin.zeroCells zv.cells (G - (len + n))).size = G * (w1 + 1) := by
    have h2 : new'.length = n * (w1 + 1) := by rw [hs.newsLen, hsz]
    simp only [Builtin.zeroCells, Array.size_append, List.size_toArray, List.length_append, Array.size_map, Array.size_range, holdl, h2, hzs]
    rw [← Nat.add_mul, ← Nat.add_mul]
    congr 1
    omega
  have hle := hr.le_add ⟨w.heap.size, 0, G * (w1 + 1)⟩
  obtain ⟨g1, g2⟩ := hr.alloc (w' := w.drew.alloc (.cells ((old' ++ new').toArray ++ Builtin.zeroCells zv.cells (G - (len + n))) elem)) (obj := .cells ((old' ++ new').toArray ++ Builtin.zeroCells zv.cells (G - (len + n))) elem)
    (x := .cells c ((len + n) * (w1 + 1)) .grown tw) (room := G * (w1 + 1)) rfl rfl rfl rfl htw
    (OR.row' (l := old ++ new) (l' := old' ++ new') (getElem?_push_size _ _) hc ((hold.append hnew).mono hle) (by
      intro i v hv
      rw [Nat.zero_add, Array.getElem?_append_left (by simpa using (List.getElem?_eq_some_iff.1 hv).1)]
      simpa using hv) (Nat.mul_le_mul_right _ hge) (fun hh => by cases hh) (by omega) (.inr (.inl rfl)) hel (fun hh => by cases hh))
  refine ⟨_, _, _, hrun, g1, hext.trans hlt g2, ?_⟩
  rw [← hn]
  exact .slice (m := ⟨w.heap.size, 0, G * (w1 + 1)⟩) (Mu.add_self _ _ _) rfl hge

end Go.AX

namespace Go.AX

theorem HR.same {μ : Mu} {h : H} {w w' : World} (hr : HR μ h w) (hw : w'.heap = w.heap) : HR μ h w' :=
  ⟨hr.lt, fun b m e => (hr.ok b m e).mono (Mu.le_refl _) (by rw [hw]), hr.apart, hr.tw⟩

theorem getCells_get {c : T Value} : ∀ {n i : Nat} {l : List Value}, getCells c i n = some l → l.length = n ∧ ∀ k, k < n → c.get (i + k) = l[k]?
  | 0, i, l, e => by simp [getCells] at e; subst e; exact ⟨rfl, fun k hk => by omega⟩
  | n + 1, i, l, e => by
    simp only [getCells] at e
    split at e
    · rename_i v hv
      split at e
      · rename_i vs hvs
        cases e
        obtain ⟨h1, h2⟩ := getCells_get hvs
        refine ⟨by simp [h1], fun k hk => ?_⟩
        cases k with
        | zero => simpa using hv
        | succ k => have := h2 k (by omega); rw [show i + (k + 1) = i + 1 + k by omega, this]; simp
      · cases e
    · cases e

/-- the grown row that may or may not lie where the elder one did -/
theorem inplace_sound {E : Env} (hE : EnvOk E) {μ : Mu} {h : H} {w : World} {t tx ty elem : TypeId} {ti : TI} {w1 len n i b sz cap : Nat} {m : M} {c : T Value} {tw : Tw} {x' : Value} {old new new' : List Value} {c' : T Value}
    (hr : HR μ h w) (hm : μ b = some m) (hobj : h.obj b = .cells c sz .grown tw) (ht : E.P.underlying t = some (.slice elem)) (hti : E.ty.get elem = some ti) (hsz : ti.info.size = w1 + 1)
    (hs : Src E.P ti.info.size tx x' n new' w) (hnew : VRL μ new new') (hroom : cap * (w1 + 1) + i = m.room) (hend : i + len * (w1 + 1) = sz) (hg : len + n ≤ cap)
    (hread : h.read b i (len * (w1 + 1)) = some old) (hel : tw.el = elem) (hc : ∀ (k : Nat) (v : Value), k < (len + n) * (w1 + 1) → c'.get k = some v → (old ++ new)[k]? = some v) :
    ∃ w' μ' v', (Builtin.append_ #[t, tx] ty #[.slice (some ⟨m.B, m.o + i, none⟩) len cap, x']).run E.P w = .ok v' w' ∧
      HR μ' (((h.kill tw.t).upd b (.cells c sz .stale ⟨none, tw.el⟩)).new (.cells c' ((len + n) * (w1 + 1)) .grown ⟨some b, tw.el⟩)) w' ∧
      Ext μ h w μ' (((h.kill tw.t).upd b (.cells c sz .stale ⟨none, tw.el⟩)).new (.cells c' ((len + n) * (w1 + 1)) .grown ⟨some b, tw.el⟩)) w' ∧ VR μ' (.slice (some ⟨h.next, 0, none⟩) (len + n) (w1 + 1)) v' := by
  have ho := hr.ok b m hm
  rw [hobj] at ho
  have hnl : new'.length = n * (w1 + 1) := by rw [hs.newsLen, hsz]
  have hmul : (len + n) * (w1 + 1) ≤ cap * (w1 + 1) := Nat.mul_le_mul_right _ hg
  rw [Nat.add_mul] at hmul
  have hcell : ∀ j, j < new'.length → (w.cell? ⟨m.B, m.o + i + len * ti.info.size + j, none⟩).isSome = true ∧ w.frozen? ⟨m.B, m.o + i + len * ti.info.size + j, none⟩ = false := by
    intro j hj
    rw [hsz, show m.o + i + len * (w1 + 1) + j = m.o + (i + len * (w1 + 1) + j) by omega]
    exact not_frozen ho (by intro hh; cases hh) (by omega)
  have hrun := run_append_room_src w t tx ty elem ti.info ht (hE.ty _ _ hti).1 m.B (m.o + i) len cap x' n new' hs hg (fun j hj => (hcell j hj).1) (fun j hj => (hcell j hj).2)
  obtain ⟨h1, h2, cs, el, fz, hw, hcs, hfz, hcells⟩ := ho
  obtain ⟨k1, k2, k3, k4⟩ := setCells_keep new' m.B (m.o + i + len * ti.info.size) w
  have hnro : ¬ RO (h.obj b) := by rw [hobj]; exact fun h => h
  have hel2 : tw.el = el := by
    obtain ⟨_, _, q, _⟩ := h2.2
    rw [hw] at q
    cases q
    rfl
  have hwh := setCells_heap new' m.B (m.o + i + len * ti.info.size) w hw
  have hget : ∀ k, k < m.o + sz → (setL cs (m.o + i + len * ti.info.size) new')[k]? = cs[k]? := by
    intro k hk
    rw [setL_get _ _ _ _ (by rw [hsz]; omega), if_neg (by rw [hsz]; omega)]
  obtain ⟨g1, g2⟩ := hr.change (w' := w.setCells m.B (m.o + i + len * ti.info.size) new') hm (x := .cells c sz .stale ⟨none, tw.el⟩) (h1 := h.kill tw.t) hnro (by rw [hobj]; rfl) (by intro t ht; cases ht) (fun B hB => setCells_other _ _ _ _ _ hB) k1 k2 k3 k4
    ⟨h1, ⟨(fun hh => by cases hh), h2.2.set (fun hh => by cases hh) _ _⟩, _, el, fz, hwh, by rw [setL_size]; exact hcs, .inl rfl, fun k v hk hv => by
      obtain ⟨v', h3, h4⟩ := hcells k v hk hv
      exact ⟨v', by rw [hget _ (by omega)]; exact h3, h4⟩⟩
  generalize hh1 : (h.kill tw.t).upd b (.cells c sz .stale ⟨none, tw.el⟩) = hb at g1 g2 ⊢
  have hbn : hb.next = h.next := by rw [← hh1]; simp
  have hle := g1.le_add ⟨m.B, m.o + i, m.room - i⟩
  obtain ⟨l', r1, r2, r3⟩ := read_sound hr hm hread
  have hold : ∀ (k : Nat) (v : Value), l'[k]? = some v → cs[m.o + i + k]? = some v := by
    intro k v hk
    have := r3 k v hk
    simpa [World.cell?, hw] using this
  have hobjb : hb.obj b = .cells c sz .stale ⟨none, tw.el⟩ := by rw [← hh1, H.obj_upd, if_pos rfl]
  have hblt := hr.lt b m hm
  have hself : ∀ mk, μ.add hb.next ⟨m.B, m.o + i, m.room - i⟩ hb.next = some mk → mk = ⟨m.B, m.o + i, m.room - i⟩ := fun mk e => by rw [Mu.add_self] at e; exact (Option.some.inj e).symm
  have hsome : ∀ k mk, μ.add hb.next ⟨m.B, m.o + i, m.room - i⟩ k = some mk → k ≠ hb.next → μ k = some mk := fun k mk e hk => by rwa [Mu.add_ne _ _ hk] at e
  have hnobj : ∀ (x : AObj) k, k ≠ hb.next → (hb.new x).obj k = hb.obj k := fun x k hk => by rw [H.obj_new, if_neg (Ne.symm hk)]
  -- whoever else lies in that block is dead now
  have halone : ∀ k mk, μ k = some mk → k ≠ b → mk.B = m.B → hb.obj k = .dead := by
    intro k mk e hk hB
    rw [← hh1, H.obj_upd, if_neg (Ne.symm hk), H.obj_kill]
    rcases hr.apart b k m mk hm e (Ne.symm hk) hB.symm hnro with h3 | h3
    · split
      · rfl
      · exact h3
    · rw [hobj] at h3
      have h3 : tw.t = some k := h3
      rw [if_pos h3]
  refine ⟨_, μ.add hb.next ⟨m.B, m.o + i, m.room - i⟩, _, hrun, ?_, ?_, ?_⟩
  · constructor
    · intro k mk e
      by_cases hk : k = hb.next
      · subst hk; exact Nat.lt_succ_self _
      · exact Nat.lt_succ_of_lt (g1.lt k mk (hsome k mk e hk))
    · intro k mk e
      by_cases hk : k = hb.next
      · subst hk
        rw [hself mk e, H.obj_new, if_pos rfl]
        refine OR.row' (l := old ++ new) (l' := l' ++ new') hwh hc ((r1.append hnew).mono hle) ?_ ?_ (fun hh => by cases hh) (by rw [setL_size]; omega) ?_ hel2 (fun hh => by cases hh)
        · intro k v hv
          rw [List.getElem?_append] at hv
          rw [setL_get _ _ _ _ (by rw [hsz]; omega)]
          by_cases h5 : k < l'.length
          · rw [if_pos h5] at hv
            rw [if_neg (by rw [hsz]; omega)]
            exact hold k v hv
          · rw [if_neg h5] at hv
            have h6 : k - l'.length < new'.length := (List.getElem?_eq_some_iff.1 hv).1
            rw [if_pos (by rw [hsz]; omega), show m.o + i + k - (m.o + i + len * ti.info.size) = k - l'.length by rw [hsz]; omega]
            exact hv
        · show (len + n) * (w1 + 1) ≤ m.room - i
          rw [Nat.add_mul]; omega
        · rw [setL_size]; exact .inr (hfz.resolve_left (by intro hh; cases hh))
      · rw [hnobj _ k hk]
        exact (g1.ok k mk (hsome k mk e hk)).mono hle rfl
    · intro k k' mk mk' e e' hne hB hro
      by_cases hk : k = hb.next
      · have hk' : k' ≠ hb.next := fun hh => hne (hk.trans hh.symm)
        subst hk
        have e2 := hsome k' mk' e' hk'
        rw [hself mk e] at hB
        rw [hnobj _ k' hk', H.obj_new, if_pos rfl]
        by_cases hbk : k' = b
        · subst hbk; exact .inr rfl
        · exact .inl (halone k' mk' e2 hbk hB.symm)
      · have e1 := hsome k mk e hk
        rw [hnobj _ k hk] at hro ⊢
        by_cases hk' : k' = hb.next
        · subst hk'
          rw [hself mk' e'] at hB
          exfalso
          by_cases hbk : k = b
          · subst hbk; rw [hobjb] at hro; exact hro trivial
          · rw [halone k mk e1 hbk hB] at hro; exact hro trivial
        · rw [hnobj _ k' hk']
          exact g1.apart k k' mk mk' e1 (hsome k' mk' e' hk') hne hB hro
    · intro k mk t e ht'
      by_cases hk : k = hb.next
      · subst hk
        rw [H.obj_new, if_pos rfl] at ht'
        cases ht'
        exact ⟨m, hle _ _ hm⟩
      · rw [hnobj _ k hk] at ht'
        obtain ⟨mt, h5⟩ := g1.tw k mk t (hsome k mk e hk) ht'
        exact ⟨mt, hle _ _ h5⟩
  · constructor
    · exact hle
    · intro k mk e
      by_cases hk : k = hb.next
      · subst hk
        rw [hself mk e]
        exact .inr ⟨Nat.le_of_eq hbn.symm, .inr ⟨b, m, hm, rfl, hnro⟩⟩
      · exact .inl (hsome k mk e hk)
    · intro k hk hro
      rw [hnobj _ k (by omega)]
      exact g2.ro k hk hro
    · show h.next ≤ hb.next + 1
      omega
    · intro k hk hn
      rw [hnobj _ k (by omega)]
      exact g2.quiet k hk hn
    · exact g2.keep
  · rw [← hbn]
    have := VR.slice (μ := μ.add hb.next ⟨m.B, m.o + i, m.room - i⟩) (b := hb.next) (i := 0) (len := len + n) (w := w1) (cap := cap) (m := ⟨m.B, m.o + i, m.room - i⟩) (Mu.add_self _ _ _) (by show cap * (w1 + 1) + 0 = m.room - i; omega) hg
    simpa using this

set_option maxHeartbeats 1000000 in
theorem aappend_sound {E : Env} (hE : EnvOk E) {μ : Mu} {h h' : H} {w : World} (hr : HR μ h w) {t tx ty elem : TypeId} (ht : E.P.underlying t = some (.slice elem)) (htx : (∃ e', E.P.underlying tx = some (.slice e')) ∨ E.P.underlying tx = some .string)
    {sv xv sv' xv' v : Value} (h1 : VR μ sv sv') (h2 : VR μ xv xv') (e : aappend E elem sv xv h = some (v, h')) :
    ∃ w' μ' v', (Builtin.append_ #[t, tx] ty #[sv', xv']).run E.P w = .ok v' w' ∧ HR μ' h' w' ∧ Ext μ h w μ' h' w' ∧ VR μ' v v' := by
  unfold aappend at e
  split at e
  · rename_i ti hti
    split at e
    · rename_i w1 zv hsz hz
      split at e
      · rename_i base len z n hzs hk
        have hzs := Nat.eq_of_beq_eq_true hzs
        split at e
        · rename_i new haf hb1 hb2 hb3
          have hb1 := Nat.le_of_ble_eq_true hb1
          have hb2 := Nat.le_of_ble_eq_true hb2
          have hb3 := Nat.le_of_ble_eq_true hb3
          split at e
          · rename_i hone hpos
            have haf' : afirst h ti.info.size n xv = some new := by rw [hsz]; exact haf
            obtain ⟨new', hnew, hs⟩ := src_sound hr htx h2 hk haf' hone
            split at e
            · -- onto nil
              cases h1
              cases n with
              | zero =>
                dsimp only at e
                cases e
                have hn0 : new' = [] := List.eq_nil_of_length_eq_zero (by rw [hs.newsLen]; simp)
                subst hn0
                exact ⟨w, μ, _, run_append_nothing w t tx ty elem ti.info ht (hE.ty _ _ hti).1 none 0 0 (Nat.le_refl _) xv' hs, hr, Ext.refl _ _ _, .nilSlice⟩
              | succ n =>
                dsimp only at e
                cases e
                have := grow_sound hE (ty := ty) (h := h) (h1 := h) (w := w) (base := none) (len := 0) (cap := 0) (n := n + 1) (old := []) (old' := []) (c := T.ofList new) (tw := ⟨none, elem⟩) hr (Ext.refl _ _ _) hr.lt rfl ht hti hsz hz hs hnew .nil (by simp)
                  (by simp [Builtin.firstCells]) (by omega) hb1 hb2 hb3 hzs (fun k v _ hv => by rwa [T.get_ofList] at hv) (fun t ht => by cases ht) rfl
                simpa [grownRow] using this
            · rename_i b i
              cases n with
              | zero =>
                dsimp only at e
                cases e
                have hn0 : new' = [] := List.eq_nil_of_length_eq_zero (by rw [hs.newsLen]; simp)
                subst hn0
                cases h1 with
                | slice hm hroom hle => exact ⟨w, μ, _, run_append_nothing w t tx ty elem ti.info ht (hE.ty _ _ hti).1 _ _ _ hle xv' hs, hr, Ext.refl _ _ _, .slice hm hroom hle⟩
                | slice0 h0 => exact ⟨w, μ, _, run_append_nothing w t tx ty elem ti.info ht (hE.ty _ _ hti).1 _ _ _ (Nat.le_refl _) xv' hs, hr, Ext.refl _ _ _, .slice0 h0⟩
              | succ n =>
                dsimp only at e
                -- a slice without any room behind no element
                have zero : ∀ {A : Addr} {h9 : H} {c : T Value} {tw : Tw} {old : List Value}, old = [] → HR μ h9 w → Ext μ h w μ h9 w → h9.next = h.next → (∀ (k : Nat) (v : Value), k < (0 + (n + 1)) * (w1 + 1) → c.get k = some v → (old ++ new)[k]? = some v) → (∀ t, tw.t = some t → ∃ mt, μ t = some mt) → tw.el = elem → len = 0 →
                    ∃ w' μ' v', (Builtin.append_ #[t, tx] ty #[.slice (some A) 0 0, xv']).run E.P w = .ok v' w' ∧ HR μ' (h9.new (.cells c ((0 + (n + 1)) * (w1 + 1)) .grown tw)) w' ∧ Ext μ h w μ' (h9.new (.cells c ((0 + (n + 1)) * (w1 + 1)) .grown tw)) w' ∧ VR μ' (.slice (some ⟨h.next, 0, none⟩) (0 + (n + 1)) (w1 + 1)) v' := by
                  intro A h9 c tw old hold0 hr1 hext hnx hc htw hel hl0
                  subst hold0
                  subst hl0
                  exact grow_sound hE (ty := ty) (h := h) (h1 := h9) (w := w) (base := some A) (len := 0) (cap := 0) (n := n + 1) (old := []) (old' := []) (c := c) (tw := tw) hr1 hext hr.lt hnx ht hti hsz hz hs hnew .nil (by simp)
                    (by simp [Builtin.firstCells, loadCells, loadCellsFrom]) (by omega) hb1 hb2 hb3 hzs hc htw hel
                cases z with
                | zero =>
                  dsimp only at e
                  cases e
                  cases h1 with
                  | slice0 h0 =>
                    rw [show n + 1 = 0 + (n + 1) by omega]
                    exact zero (h9 := h) (c := T.ofList new) (tw := ⟨none, elem⟩) (old := []) rfl hr (Ext.refl _ _ _) rfl (fun k v _ hv => by rwa [T.get_ofList] at hv) (fun t ht => by cases ht) rfl rfl
                | succ z =>
                  dsimp only at e
                  split at e
                  · rename_i c sz cap tw hz1 hobj
                    have hz1 : z = w1 := by have := Nat.eq_of_beq_eq_true hz1; omega
                    subst hz1
                    have hsz : ti.info.size = z + 1 := hsz
                    split at e
                    · -- in place
                      rename_i hle2
                      have hle2 := Nat.le_of_ble_eq_true hle2
                      split at e
                      · rename_i h2' hwr
                        cases e
                        cases h1 with
                        | slice hm hroom hle =>
                          rename_i cap2 m
                          have ho := hr.ok b m hm
                          rw [hobj] at ho
                          have hszr := ho.1
                          have hg : len + (n + 1) ≤ cap2 := by
                            have : (len + (n + 1)) * (z + 1) ≤ cap2 * (z + 1) := by omega
                            exact Nat.le_of_mul_le_mul_right this (by omega)
                          obtain ⟨k1, k2, k3, k4, k5⟩ := hr.write hm hwr hnew
                          have hrun := run_append_room_src w t tx ty elem ti.info ht (hE.ty _ _ hti).1 m.B (m.o + i) len cap2 xv' (n + 1) new' hs hg
                            (fun j hj => by have := k1 j hj; rwa [show m.o + i + len * ti.info.size + j = m.o + (i + len * (z + 1)) + j by rw [hsz]; omega])
                            (fun j hj => by have := k2 j hj; rwa [show m.o + i + len * ti.info.size + j = m.o + (i + len * (z + 1)) + j by rw [hsz]; omega])
                          rw [show m.o + i + len * ti.info.size = m.o + (i + len * (z + 1)) by rw [hsz]; omega] at hrun
                          exact ⟨_, μ, _, hrun, k4, k5, .slice hm hroom hg⟩
                        | slice0 h0 =>
                          exfalso
                          rcases h0 with h0 | ⟨m, hm, hi⟩
                          · cases h0
                          · have ho := hr.ok b m hm
                            rw [hobj] at ho
                            have hszr := ho.1
                            have : 1 * (z + 1) ≤ (0 + (n + 1)) * (z + 1) := Nat.mul_le_mul_right _ (by omega)
                            omega
                      · cases e
                    · rename_i hle2
                      have hle2 : ¬ i + (len + (n + 1)) * (z + 1) ≤ sz := fun hh => by
                        have := Nat.ble_eq_true_of_le hh
                        rw [this] at hle2; cases hle2
                      split at e
                      · cases e
                      · rename_i old hread
                        split at e
                        · cases e
                        · rename_i holdone
                          -- what is read
                          have hcread : ∃ (hle3 : i + len * (z + 1) ≤ sz), getCells c i (len * (z + 1)) = some old := by
                            unfold H.read at hread
                            rw [hobj] at hread
                            dsimp only at hread
                            split at hread
                            · rename_i h5; exact ⟨Nat.le_of_ble_eq_true h5, hread⟩
                            · cases hread
                          obtain ⟨hle3, hgc⟩ := hcread
                          obtain ⟨holdlen, holdget⟩ := getCells_get hgc
                          split at e
                          · -- exact
                            cases e
                            cases h1 with
                            | slice hm hroom hle =>
                              rename_i cap2 m
                              have ho := hr.ok b m hm
                              rw [hobj] at ho
                              have hszr := ho.2.1.1 rfl
                              obtain ⟨old', r1, r2, r3⟩ := read_sound hr hm hread
                              have hg : cap2 < len + (n + 1) := by
                                refine Nat.lt_of_not_le fun hh => hle2 ?_
                                have : (len + (n + 1)) * (z + 1) ≤ cap2 * (z + 1) := Nat.mul_le_mul_right _ hh
                                omega
                              have := grow_sound hE (ty := ty) (h := h) (h1 := h) (w := w) (base := some ⟨m.B, m.o + i, none⟩) (len := len) (cap := cap2) (n := n + 1) (old := old) (old' := old') (c := T.ofList (old ++ new)) (tw := ⟨none, elem⟩) hr (Ext.refl _ _ _) hr.lt rfl ht hti hsz hz hs hnew r1 r2
                                (run_firstCells_some _ _ _ _ _ _ _ (by rw [hsz]; exact r2) (fun j v hj => by rw [Addr.add_mk]; exact r3 j v hj)) hg hb1 hb2 hb3 hzs (fun k v _ hv => by rwa [T.get_ofList] at hv) (fun t ht => by cases ht) rfl
                              simpa [grownRow] using this
                            | slice0 h0 =>
                              have hold0 : old = [] := List.eq_nil_of_length_eq_zero (by rw [holdlen]; simp)
                              exact zero (h9 := h) (c := T.ofList (old ++ new)) (tw := ⟨none, elem⟩) (old := old) hold0 hr (Ext.refl _ _ _) rfl (fun k v _ hv => by rwa [T.get_ofList] at hv) (fun t ht => by cases ht) rfl rfl
                          · cases e
                          · split at e
                            · cases e
                            · rename_i hend
                              have hend := Nat.eq_of_beq_eq_true hend
                              split at e
                              · cases e
                              rename_i hel
                              have hel := Nat.eq_of_beq_eq_true hel
                              cases e
                              -- the tree of the new row
                              have hc : ∀ (k : Nat) (v : Value), k < (len + (n + 1)) * (z + 1) → (match i with | 0 => c.putList sz new | _ => T.ofList (old ++ new)).get k = some v → (old ++ new)[k]? = some v := by
                                intro k v hk hv
                                split at hv
                                · rw [T.get_putList] at hv
                                  rw [List.getElem?_append]
                                  by_cases h5 : sz ≤ k ∧ k < sz + new.length
                                  · rw [if_pos h5] at hv
                                    rw [if_neg (by omega), show k - old.length = k - sz by omega]
                                    exact hv
                                  · rw [if_neg h5] at hv
                                    have hnl : new.length = (n + 1) * (z + 1) := by rw [hnew.length, hs.newsLen, hsz]
                                    rw [Nat.add_mul] at hk
                                    rw [if_pos (by omega), ← holdget k (by omega)]
                                    simpa using hv
                                · rwa [T.get_ofList] at hv
                              have hnro : ¬ RO (h.obj b) := by rw [hobj]; exact fun h => h
                              have hstale : ∀ m, μ b = some m → HR μ ((h.kill tw.t).upd b (.cells c sz .stale ⟨none, tw.el⟩)) w ∧ Ext μ h w μ ((h.kill tw.t).upd b (.cells c sz .stale ⟨none, tw.el⟩)) w := by
                                intro m hm
                                have ho := hr.ok b m hm
                                rw [hobj] at ho
                                obtain ⟨q1, q2, cs, el, fz, q3, q4, q5, q6⟩ := ho
                                exact hr.change (w' := w) hm (x := .cells c sz .stale ⟨none, tw.el⟩) (h1 := h.kill tw.t) hnro (by rw [hobj]; rfl) (by intro t ht; cases ht) (fun _ _ => rfl) rfl rfl rfl rfl
                                  ⟨q1, ⟨(fun hh => by cases hh), let ⟨cs', fz', a1, _⟩ := q2.2; ⟨cs', fz', a1, (fun hh => by cases hh)⟩⟩, cs, el, fz, q3, q4, .inl rfl, q6⟩
                              cases h1 with
                              | slice hm hroom hle =>
                                rename_i cap2 m
                                by_cases hg : len + (n + 1) ≤ cap2
                                · exact inplace_sound hE hr hm hobj ht hti hsz hs hnew hroom hend hg hread hel hc
                                · obtain ⟨q1, q2⟩ := hstale m hm
                                  obtain ⟨old', r1, r2, r3⟩ := read_sound hr hm hread
                                  exact grow_sound hE (ty := ty) (h := h) (h1 := (h.kill tw.t).upd b (.cells c sz .stale ⟨none, tw.el⟩)) (w := w) (base := some ⟨m.B, m.o + i, none⟩) (len := len) (cap := cap2) (n := n + 1) (old := old) (old' := old') (tw := ⟨some b, tw.el⟩) q1 q2 hr.lt (by simp) ht hti hsz hz hs hnew r1 r2
                                    (run_firstCells_some _ _ _ _ _ _ _ (by rw [hsz]; exact r2) (fun j v hj => by rw [Addr.add_mk]; exact r3 j v hj)) (by omega) hb1 hb2 hb3 hzs hc (fun t ht => by cases ht; exact ⟨m, hm⟩) hel
                              | slice0 h0 =>
                                rcases h0 with h0 | ⟨m, hm, hi⟩
                                · cases h0
                                · obtain ⟨q1, q2⟩ := hstale m hm
                                  have hold0 : old = [] := List.eq_nil_of_length_eq_zero (by rw [holdlen]; simp)
                                  exact zero (h9 := (h.kill tw.t).upd b (.cells c sz .stale ⟨none, tw.el⟩)) (tw := ⟨some b, tw.el⟩) (old := old) hold0 q1 q2 (by simp) hc (fun t ht => by cases ht; exact ⟨m, hm⟩) hel rfl
                  · cases e
            · cases e
          · cases e
        · cases e
      · cases e
    · cases e
  · cases e

end Go.AX

/- append(nil, make([]T, n)...). -/
namespace Go.AX

theorem zeroCells_eq (z : Array Value) (hz : 0 < z.size) (n : Nat) : (Builtin.zeroCells z n).toList = repl z.toList n := by
  unfold Builtin.zeroCells
  exact zeros_eq z hz n

theorem azeros_sound {E : Env} (hE : EnvOk E) {μ : Mu} {h h' : H} {w : World} (hr : HR μ h w) {t tx ty elem : TypeId} {ik : IntKind} (ht : E.P.underlying t = some (.slice elem)) (htx : E.P.underlying tx = some (.int ik))
    {sv xv sv' xv' v : Value} (h1 : VR μ sv sv') (h2 : VR μ xv xv') (e : azeros E elem sv xv h = some (v, h')) :
    ∃ w' μ' v', (Builtin.append_ #[t, tx] ty #[sv', xv']).run E.P w = .ok v' w' ∧ HR μ' h' w' ∧ Ext μ h w μ' h' w' ∧ VR μ' v v' := by
  unfold azeros at e
  split at e
  · rename_i n
    cases h1
    cases h2
    split at e
    · rename_i ti hti
      split at e
      · rename_i w1 zv hsz hz
        split at e
        · rename_i hzs hb1 hb2 hb3 ho
          have hzs := Nat.eq_of_beq_eq_true hzs
          have hb1 := Nat.le_of_ble_eq_true hb1
          have hb2 := Nat.le_of_ble_eq_true hb2
          have hb3 := Nat.le_of_ble_eq_true hb3
          have hti' := (hE.ty _ _ hti).1
          have hwn : IntKind.i64.wrap (Int.ofNat n) = Int.ofNat n := IntWalk.i64_in _ (by show -9223372036854775808 ≤ (n : Int) ∧ (n : Int) ≤ 9223372036854775807; omega)
          have hmul : ¬ ((n : Int) * (ti.info.bytes : Int) > 281474976710656) := by
            rw [← Int.natCast_mul]
            omega
          have hneg : ¬ ((n : Int) < 0) := by omega
          cases n with
          | zero =>
            cases e
            refine ⟨w, μ, .slice none 0 0, ?_, hr, Ext.refl _ _ _, .nilSlice⟩
            have hw0 : IntKind.i64.wrap 0 = 0 := rfl
            simp [Builtin.append_, run_underlying ht, run_underlying htx, sizeOf, typeInfo, hti', asInt, asIntOf, hw0]
          | succ n =>
            cases e
            have hfit := fit_le (need := n + 1) (c := 0) (bytes := ti.info.bytes) (by omega) hb1 hb2
            have hge := grownCap_ge w (n + 1) 0 elem
            obtain ⟨G, hG⟩ : ∃ G, G = grownCap w (n + 1) 0 elem := ⟨_, rfl⟩
            rw [← hG] at hge
            have hzr := flat_refl μ zv (hE.zero _ _ _ hti hz)
            obtain ⟨cells, hcl⟩ : ∃ cells, cells = Builtin.zeroCells zv.cells (n + 1) ++ Builtin.zeroCells zv.cells (G - (n + 1)) := ⟨_, rfl⟩
            have hsize : ∀ k, (Builtin.zeroCells zv.cells k).size = k * (w1 + 1) := by
              intro k
              simp [Builtin.zeroCells, hzs]
            have hcs : cells.size = G * (w1 + 1) := by
              rw [hcl, Array.size_append, hsize, hsize, ← Nat.add_mul]
              congr 1
              omega
            obtain ⟨g1, g2⟩ := hr.alloc (w' := w.drew.alloc (.cells cells elem)) (obj := .cells cells elem) (x := .cells (T.ofList (repl zv.cells.toList (n + 1))) ((n + 1) * (w1 + 1)) .grown ⟨none, elem⟩) (room := G * (w1 + 1)) rfl rfl rfl rfl (fun t ht => by cases ht)
              (OR.row (l' := repl zv.cells.toList (n + 1)) (getElem?_push_size _ _) ((hzr.cells.repl (n + 1)).mono (hr.le_add _)) (by
                intro i v hv
                have hlt := (List.getElem?_eq_some_iff.1 hv).1
                rw [repl_length] at hlt
                rw [hcl, Array.getElem?_append_left (by rw [hsize]; simpa [hzs] using hlt)]
                have := zeroCells_eq zv.cells (by omega) (n + 1)
                rw [← this] at hv
                simpa using hv) (Nat.mul_le_mul_right _ hge) (fun hh => by cases hh) (by omega) (.inr (.inl rfl)) rfl (fun hh => by cases hh))
            refine ⟨_, _, .slice (some ⟨w.heap.size, 0, none⟩) (n + 1) G, ?_, g1, g2, .slice (m := ⟨w.heap.size, 0, G * (w1 + 1)⟩) (Mu.add_self _ _ _) rfl hge⟩
            have hns : ¬ ((n + 1) * (w1 + 1) = 0) := by
              intro hh
              rcases Nat.mul_eq_zero.1 hh with hh | hh <;> omega
            have hns' : ¬ (n + 1 ≤ 0) := by omega
            have hmul' : ¬ (281474976710656 < ((n : Int) + 1) * (ti.info.bytes : Int)) := by
              have := hmul
              simp only [Int.natCast_add, Int.natCast_one] at this
              omega
            have h63' : ¬ (9223372036854775807 < ((n : Int) + 1)) := by omega
            have hneg' : ¬ ((n : Int) + 1 < 0) := by omega
            have h48' : ¬ (281474976710656 < Builtin.nextslicecap (n + 1) 0 * ti.info.bytes) := by omega
            have hwn' : IntKind.i64.wrap ((n : Int) + 1) = (n : Int) + 1 := hwn
            rw [hcl, hG]
            simp [Builtin.append_, run_underlying ht, run_underlying htx, sizeOf, typeInfo, zeroValue, hti', hz, hsz, asInt, asIntOf, hwn', hneg', hmul', h48', Question.forced, newRow, grownCap, Builtin.firstCells]
            rw [if_neg (by omega), if_neg (by omega)]
        · cases e
      · cases e
    · cases e
  · cases e

end Go.AX

/- unsafe.String, bytealg.MakeNoZero. -/
namespace Go.AX

theorem digits_size : ∀ (n t : Nat) (acc : Array Value), (Extern.BytealgMakeNoZero.digits n t acc).size = acc.size + n
  | 0, t, acc => rfl
  | n + 1, t, acc => by
    simp only [Extern.BytealgMakeNoZero.digits, digits_size n, Array.size_push]
    omega

theorem T.get_e0 {α : Type} (i : Nat) : (T.e : T α).get i = none := by cases i <;> rfl

theorem anoZero_sound {E : Env} (hE : EnvOk E) {μ : Mu} {h : H} {w : World} (hr : HR μ h w) {f : FuncId} {fn : Func} (hf : E.fn.get f = some fn) (hb : fn.body = none) (hn : isFn fn "internal/bytealg.MakeNoZero" = true) {args : List Value} {args' : Array Value}
    (ha : VRL μ args args'.toList) {r : R1} (e : anoZero E h fn args = some r) :
    ∃ v h' w' μ' v', r = .value v h' ∧ (callFunc f args').run E.P w = .ok (.value v') w' ∧ HR μ' h' w' ∧ Ext μ h w μ' h' w' ∧ VR μ' v v' := by
  unfold anoZero at e
  split at e
  · rename_i n t hres
    split at e
    · rename_i elem hn1 hu
      have hn1 := Nat.le_of_ble_eq_true hn1
      split at e
      · rename_i hsz
        cases e
        obtain ⟨args'⟩ := args'
        cases ha with
        | cons hv ht =>
        cases ht
        cases hv
        have h1 := next_of hn (by kernel_rfl)
        have h2 : Extern.find fn = some (Extern.BytealgMakeNoZero.makeNoZero fn.params fn.resultTypes) := by
          obtain ⟨h3, h4⟩ := isFn_spec hn
          have g1 : Extern.allGenericRows.lookup "internal/bytealg.MakeNoZero" = none := by kernel_rfl
          have g2 : Extern.allTypedRows.lookup "internal/bytealg.MakeNoZero" = some Extern.BytealgMakeNoZero.makeNoZero := by kernel_rfl
          simp only [Extern.find, h3, g1, g2]
          rfl
        have h5 := (isFn_spec hn).1
        have hne : ¬ fn.name = "runtime.NumGoroutine" := by rw [h5]; decide
        have hres' : fn.resultTypes[0]? = some t := by
          have : fn.resultTypes = #[t] := Array.ext' hres
          rw [this]; rfl
        obtain ⟨G, hG⟩ : ∃ G, G = grownCap w n 0 elem := ⟨_, rfl⟩
        have hge := grownCap_ge w n 0 elem
        rw [← hG] at hge
        obtain ⟨cells, hcells⟩ : ∃ cells, cells = Extern.BytealgMakeNoZero.digits G ((Question.extern "internal/bytealg.MakeNoZero.bytes" 0).cut (w.drew.tape w.drew.drawn (.extern "internal/bytealg.MakeNoZero.bytes" 0))) #[] := ⟨_, rfl⟩
        have hcs : cells.size = G := by rw [hcells, digits_size]; simp
        obtain ⟨g1, g2⟩ := hr.alloc (w' := w.drew.drew.alloc (.cells cells elem)) (obj := .cells cells elem) (x := .cells .e n .grown ⟨none, elem⟩) (room := G) rfl rfl rfl rfl (fun t ht => by cases ht)
          (OR.row' (l := []) (l' := []) (getElem?_push_size _ _) (fun k v _ hv => by rw [T.get_e] at hv; cases hv) .nil (fun i v hv => by simp at hv) hge (fun hh => by cases hh) (by omega) (.inr (.inl rfl)) rfl (fun hh => by cases hh))
        refine ⟨_, _, _, _, .slice (some ⟨w.heap.size, 0, none⟩) n G, rfl, ?_, g1, g2, .slice (w := 0) (m := ⟨w.heap.size, 0, G⟩) (Mu.add_self _ _ _) (by simp) hge⟩
        have hm : (Extern.BytealgMakeNoZero.makeNoZero fn.params fn.resultTypes #[.int .i64 (Int.ofNat n)]).run E.P w = .ok (.slice (some ⟨w.heap.size, 0, none⟩) n G) (w.drew.drew.alloc (.cells cells elem)) := by
          conv in (Extern.BytealgMakeNoZero.makeNoZero _ _ _) => whnf
          have hneg : ¬ ((n : Int) < 0) := by omega
          have hbig : ¬ (281474976710656 < (n : Int)) := by omega
          simp [hres', run_und hE hu, hneg, hbig, Question.forced, newRow]
          rw [hcells, hG]
          simp [grownCap]
        have hP := hE.fn _ _ hf
        have hm' : (Extern.BytealgMakeNoZero.makeNoZero fn.params fn.resultTypes ⟨[.int .i64 (n : Int)]⟩).run E.P w = .ok (.slice (some ⟨w.heap.size, 0, none⟩) n G) (w.drew.drew.alloc (.cells cells elem)) := hm
        have hmark : ∀ (k : Sem Unit), (Sem.mark (Mark.extern f) k).run E.P w = k.run E.P w := fun _ => rfl
        simp [callFunc, hP, hne, hb, h1, h2, mark, hmark, hm']
      · cases e
    · cases e
  · cases e

theorem run_loadBytes {P : Program} {w : World} {B : Nat} : ∀ (r : List UInt8) (o : Nat) (acc : ByteArray), (∀ j b, r[j]? = some b → w.cell? ⟨B, o + j, none⟩ = some (.int .u8 b.toNat)) →
    (loadBytes ⟨B, o, none⟩ acc r.length).run P w = .ok ⟨(acc.data.toList ++ r).toArray⟩ w
  | [], o, acc, _ => by simp [loadBytes]
  | b :: r, o, acc, h => by
    have h0 := h 0 b (by simp)
    have ih := run_loadBytes (P := P) (w := w) r (o + 1) (acc.push b) (fun j b' hj => by
      have := h (j + 1) b' (by simpa using hj)
      rwa [show o + (j + 1) = o + 1 + j by omega] at this)
    simp only [List.length_cons, loadBytes, Sem.run_bind]
    have hl : (load ⟨B, o, none⟩).run P w = .ok (.int .u8 b.toNat) w := by
      simp only [Nat.add_zero] at h0
      simp [load, Sem.run, h0]
    rw [hl]
    simp only [Result.andThen_ok]
    have hb : (b.toNat : Int).toNat.toUInt8 = b := by simp
    rw [hb, Addr.add_mk, ih]
    congr 2
    apply Array.ext'
    simp [ByteArray.push]

theorem lies_row {P : Program} {el u : TypeId} {sz o n : Nat} (h1 : P.cellsOf el = 1) (h2 : sameLayout P P.depth el u = true) (h3 : o + n ≤ sz) : liesAt P P.depth el (sz / P.cellsOf el) o u n = true := by
  obtain ⟨d, hd⟩ : ∃ d, P.depth = d + 1 := ⟨_, rfl⟩
  have hrow : rowAt P (sameLayout P P.depth · u) P.depth el (sz / P.cellsOf el) o n = true := by
    rw [hd, rowAt, ← hd]
    simp only [h1, Nat.div_one, Nat.mod_one]
    simp [h2, h3]
  rw [hd] at hrow ⊢
  rw [liesAt]
  rw [hd, hrow, Bool.true_or]

/-- freezing leaves the cells -/
theorem freeze_heap {w : World} {B o n : Nat} {cs : Array Value} {el : TypeId} {fz : Nat × Nat} (h : w.heap[B]? = some (.cells cs el fz)) : ∃ fz', (w.freeze ⟨B, o, none⟩ n).heap[B]? = some (.cells cs el fz') := by
  obtain ⟨lo, hi⟩ := fz
  by_cases hn : n = 0
  · exact ⟨(lo, hi), by simp [World.freeze, hn, h]⟩
  · simp [World.freeze, hn, Array.getElem?_modify, h]

theorem aunsafeString_sound {E : Env} (hE : EnvOk E) {μ : Mu} {h : H} {w : World} (hr : HR μ h w) {ats : Array TypeId} {pt : TypeId} {rest : List TypeId} (hats : ats.toList = pt :: rest) {ty : TypeId} {p n p' n' : Value} (hp : VR μ p p') (hn : VR μ n n') {r : R1}
    (e : aunsafeString E h pt p n = some r) :
    ∃ v h' w' μ' v', r = .value v h' ∧ (Builtin.unsafeString_ ats ty #[p', n']).run E.P w = .ok v' w' ∧ HR μ' h' w' ∧ Ext μ h w μ' h' w' ∧ VR μ' v v' := by
  have h0 : ats[0]? = some pt := by
    have : ats = (pt :: rest).toArray := Array.ext' (by simpa using hats)
    rw [this]; rfl
  unfold aunsafeString at e
  split at e
  · rename_i b i ik k u hu
    cases hp with
    | ptr hm =>
    rename_i m
    cases hn
    split at e
    · rename_i c sz cap tw hobj
      split at e
      · cases e
      · rename_i cap' hst
        split at e
        · rename_i l hread hcell hk hsame
          have hcell := Nat.eq_of_beq_eq_true hcell
          have hk := Nat.le_of_ble_eq_true hk
          split at e
          · rename_i rb hb
            cases e
            have ho := hr.ok b m hm
            rw [hobj] at ho
            obtain ⟨S, hsh, hroom, _, hnr⟩ := shape_of ho
            obtain ⟨l', r1, r2, r3⟩ := read_sound hr hm hread
            have hle : i + (k + 1) ≤ sz := by
              unfold H.read at hread
              rw [hobj] at hread
              dsimp only at hread
              split at hread
              · rename_i h5; exact Nat.le_of_ble_eq_true h5
              · cases hread
            have hl' := bytesOf_sound r1 hb
            have hlen : rb.length = k + 1 := by rw [← r2, hl']; simp
            have hbytes := run_loadBytes (P := E.P) (w := w) (B := m.B) rb (m.o + i) .empty (fun j bb hj => by
              apply r3
              rw [hl']
              simp [hj])
            rw [hlen] at hbytes
            obtain ⟨q1, q2, cs, el, fz, q3, q4, q5, q6⟩ := ho
            obtain ⟨fz', hfz'⟩ := freeze_heap (o := m.o + i) (n := k + 1) q3
            have hother : ∀ B, B ≠ m.B → (w.freeze ⟨m.B, m.o + i, none⟩ (k + 1)).heap[B]? = w.heap[B]? := by
              intro B hB
              simp [World.freeze, Array.getElem?_modify, Ne.symm hB]
            have hns : cap ≠ .stale := hst
            have hnro : ¬ RO (h.obj b) := by
              rw [hobj]
              cases cap <;> first | exact (fun h => h) | exact absurd rfl hns
            obtain ⟨g1, g2⟩ := hr.change (w' := w.freeze ⟨m.B, m.o + i, none⟩ (k + 1)) hm (x := .cells c sz .stale ⟨none, tw.el⟩) (h1 := h.kill tw.t) hnro (by rw [hobj]; rfl) (by intro t ht; cases ht) hother (by simp [World.freeze]) rfl rfl rfl
              ⟨q1, ⟨(fun hh => by cases hh), let ⟨cs', fz1, a1, _⟩ := q2.2; ⟨cs, fz', by rw [q3] at a1; cases a1; exact hfz', (fun hh => by cases hh)⟩⟩, cs, el, fz', hfz', q4, .inl rfl, q6⟩
            refine ⟨_, _, _, μ, .string ⟨rb.toArray⟩, rfl, ?_, g1, g2, .string _⟩
            have hneg : ¬ ((k : Int) + 1 < 0) := by omega
            have hbig : ¬ (9223372036854775807 < (k : Int) + 1) := by omega
            have hlies : liesAt E.P E.P.depth tw.el (S / E.P.cellsOf tw.el) (m.o + i) u (k + 1) = true := lies_row hcell hsame (by omega)
            conv in (Builtin.unsafeString_ _ _ _) => whnf
            simp [h0, hneg, hbig, elemOf, run_und hE hu, variablesAt, hsh, hlies, hbytes]
            omega
          · cases e
        · cases e
    · cases e
  · cases e
    refine ⟨_, _, w, μ, .string .empty, rfl, ?_, hr, Ext.refl _ _ _, .string _⟩
    cases hn
    have key : ∀ q ik, (Builtin.unsafeString_ ats ty #[.pointer q, .int ik (Int.ofNat 0)]).run E.P w = .ok (.string .empty) w := by
      intro q ik
      conv in (Builtin.unsafeString_ _ _ _) => whnf
      simp [h0]
      cases q <;> rfl
    cases hp with
    | nilPtr => exact key _ _
    | ptr hm => exact key _ _
  · cases e

end Go.AX

/- Operations that change memory, call or leave. -/
namespace Go.AX

/-- a deferred call, or the mark that a range over a function leaves -/
def DR (μ : Mu) (d d' : Deferred) : Prop := (∃ f cap cap', d.target = .fn (.func f) cap ∧ d'.target = .fn (.func f) cap' ∧ VRL μ cap.toList cap'.toList ∧ VRL μ d.args.toList d'.args.toList) ∨
  ∃ L r, d.target = .collected L ∧ d'.target = .collected r ∧ μ L = some ⟨r, 0, 0⟩

theorem DR.mono {μ μ' : Mu} (hm : μ.le μ') {d d' : Deferred} (h : DR μ d d') : DR μ' d d' :=
  h.imp (fun ⟨f, c, c', h1, h2, h3, h4⟩ => ⟨f, c, c', h1, h2, h3.mono hm, h4.mono hm⟩) (fun ⟨L, r, h1, h2, h3⟩ => ⟨L, r, h1, h2, hm _ _ h3⟩)

/-- what an operation gives: a value, or nothing -/
def Gives (nx : Next) (v : Value) : Prop := nx = .value v ∨ (nx = .skip ∧ v = undef)

/-- what the evaluator says of a loud operation, held against the model -/
def LoudOk (E : Env) (μ : Mu) (h : H) (w : World) (s : Sem Next) : R1 → Prop
  | .value v h' => ∃ nx w' μ' v', s.run E.P w = .ok nx w' ∧ Gives nx v' ∧ HR μ' h' w' ∧ Ext μ h w μ' h' w' ∧ VR μ' v v'
  | .enter f args => ∃ args', VRL μ args.toList args'.toList ∧ ∀ r, (callFunc f args').run E.P w = r → s.run E.P w = r
  | .panic v => ∃ v', s.run E.P w = .halt (.panic v') w ∧ VR μ v v'
  | .defer d => ∃ d', s.run E.P w = .ok (.defer d') w ∧ DR μ d d'
  | .recover => s.run E.P w = .ok .recover w
  | .round L args => ∃ l args', μ L = some ⟨l, 0, 0⟩ ∧ VRL μ args args'.toList ∧ ∀ r, (Instr.yield l args').run E.P w = r → s.run E.P w = r

theorem undef_rel (μ : Mu) : VR μ undef undef := .tuple .nil

theorem mapPut_sound {μ : Mu} {kd : TypeDesc} {k v v' : Value} (hv : VR μ v v') (hk : (∃ ik, kd = .int ik ∧ ∃ x n, k = .int x n) ∨ (kd = .string ∧ ∃ s, k = .string s)) :
    ∀ {es es' : List (Value × Value)} {ents : List MapEntry} (j : Nat), VRL μ (es.map (·.2)) (ents.map (·.val)) → es.map (·.1) = ents.map (·.key) → mapPut k v es = some es' →
      (∃ i ent, Instr.findNow kd k ents j = some (some (j + i, ent.val)) ∧ ents[i]? = some ent ∧ keyEq k ent.key = some true ∧
        VRL μ (es'.map (·.2)) ((ents.modify i fun e => { e with key := k, val := v' }).map (·.val)) ∧ es'.map (·.1) = (ents.modify i fun e => { e with key := k, val := v' }).map (·.key)) ∨
      (Instr.findNow kd k ents j = some none ∧ ∀ born, VRL μ (es'.map (·.2)) ((ents ++ [(⟨k, v', born⟩ : MapEntry)]).map (·.val)) ∧ es'.map (·.1) = (ents ++ [(⟨k, v', born⟩ : MapEntry)]).map (·.key))
  | [], es', [], j, _, _, e => by
    simp [mapPut] at e
    subst e
    exact .inr ⟨rfl, fun born => ⟨.cons hv .nil, rfl⟩⟩
  | [], _, _ :: _, _, _, h, _ => by simp at h
  | _ :: _, _, [], _, _, h, _ => by simp at h
  | (a, u) :: es, es', ent :: ents, j, hvs, hkeys, e => by
    simp only [List.map_cons, List.cons.injEq] at hkeys
    obtain ⟨rfl, hkeys⟩ := hkeys
    cases hvs with
    | cons h1 h2 =>
      simp only [mapPut] at e
      split at e
      · rename_i hke
        cases e
        exact .inl ⟨0, ent, by simp [Instr.findNow, keyEq_sameNow hk hke], rfl, hke, by simp; exact .cons hv h2, by simpa using hkeys⟩
      · rename_i hke
        have hs := keyEq_sameNow hk hke
        split at e
        · rename_i r hr
          cases e
          rcases mapPut_sound hv hk (j + 1) h2 hkeys hr with ⟨i, ent', h3, h4, h5, h6, h7⟩ | ⟨h3, h4⟩
          · refine .inl ⟨i + 1, ent', ?_, by simpa using h4, h5, by simp; exact .cons h1 h6, by simp [h7]⟩
            simp only [Instr.findNow, hs, h3]
            simp; omega
          · refine .inr ⟨by simp [Instr.findNow, hs, h3], fun born => ⟨by simp; exact .cons h1 (by simpa using (h4 born).1), by simpa using (h4 born).2⟩⟩
        · cases e
      · cases e

theorem bytes_beq (a b : ByteArray) : (a == b) = true ↔ a = b := by
  constructor
  · intro h
    have : (a.data == b.data) = true := h
    have := eq_of_beq this
    cases a; cases b; simp_all
  · rintro rfl
    show (a.data == a.data) = true
    simp

theorem sameBits_key {k a : Value} (hk : (∃ x n, k = .int x n) ∨ ∃ s, k = .string s) (e : keyEq k a = some true) (n : Nat) : Instr.sameBits n a k = true := by
  rcases hk with ⟨x, m, rfl⟩ | ⟨s, rfl⟩
  · cases a <;> simp only [keyEq] at e <;> try (cases e)
    rename_i x' m'
    split at e
    · rename_i hx
      have : x = x' := by simpa using hx
      have h2 : (m == m') = true := by simpa using e
      have h2 : m = m' := by simpa using h2
      subst this; subst h2
      simp [Instr.sameBits]
    · cases e
  · cases a <;> simp only [keyEq] at e <;> try (cases e)
    rename_i s'
    have h2 : (s == s') = true := by simpa using e
    have h2 : s = s' := (bytes_beq _ _).1 h2
    subst h2
    simp only [Instr.sameBits]
    exact (bytes_beq _ _).2 rfl

theorem run_setObj {P : Program} {w : World} {r : Nat} {o o' : Obj} (h : w.heap[r]? = some o) (hn : ∀ c e f, o ≠ .cells c e f) : (setObj r o').run P w = .ok () { w with heap := w.heap.setIfInBounds r o' } := by
  simp only [setObj, Sem.run, h]

/-- an object of a block of its own is turned -/
theorem HR.setObj {μ : Mu} {h : H} {w : World} (hr : HR μ h w) {r : Nat} {m : M} (hm : μ r = some m) {x : AObj} {o : Obj} (hnro : ¬ RO (h.obj r)) (htw : (h.obj r).twin = none) (hx : x.twin = none)
    (hor : OR μ m { w with heap := w.heap.setIfInBounds m.B o } x) : HR μ (h.upd r x) { w with heap := w.heap.setIfInBounds m.B o } ∧ Ext μ h w μ (h.upd r x) { w with heap := w.heap.setIfInBounds m.B o } := by
  have hk : h = h.kill (h.obj r).twin := by rw [htw]; rfl
  exact hr.change (w' := { w with heap := w.heap.setIfInBounds m.B o }) hm hnro hk (by intro t ht; rw [hx] at ht; cases ht)
    (fun B hB => by simp [Ne.symm hB]) (by simp) rfl rfl rfl hor

theorem run_u {P : Program} {w w' : World} {s : Sem Unit} (h : s.run P w = .ok () w') : (do s; pure .skip : Sem Next).run P w = .ok .skip w' := by
  simp [h]

theorem mapUpd {E : Env} (hE : EnvOk E) {μ : Mu} {h : H} {w : World} (hr : HR μ h w) {t : TypeId} {m k v m' k' v' : Value} {r : R1} {s : Sem Next} (hm : VR μ m m') (hk : VR μ k k') (hv : VR μ v v')
    (e : amapUpd E h t m k v = some r) (hs : ∀ w', (Instr.mapUpdate t m' k' v').run E.P w = .ok () w' → s.run E.P w = .ok .skip w') : LoudOk E μ h w s r := by
  unfold amapUpd at e
  split at e
  · rename_i r0 kt el hu
    cases hm with
    | map hm =>
      rename_i mm
      split at e
      · rename_i es kd hobj hkt
        split at e
        · rename_i hkk
          have hkk := akey_spec hkk
          have := kd_of hk hkk
          subst this
          split at e
          · rename_i es' hmp
            cases e
            have ho := hr.ok r0 mm hm
            rw [hobj] at ho
            obtain ⟨ents, clock, h1, h2, h3⟩ := ho
            have hg := run_getObj (P := E.P) h1 (by intro _ _ _ h; cases h)
            have hck := run_checkKey (w := w) (und_P hE hkt) hkk false 9999
            have hlt : mm.B < w.heap.size := (Array.getElem?_eq_some_iff.1 h1).1
            have hnro : ¬ RO (h.obj r0) := by rw [hobj]; exact fun h => h
            have hkk2 : (∃ x n, k' = .int x n) ∨ ∃ s, k' = .string s := by
              rcases hkk with ⟨_, _, x, n, rfl⟩ | ⟨_, s, rfl⟩
              · exact .inl ⟨x, n, rfl⟩
              · exact .inr ⟨s, rfl⟩
            have fin : ∀ (o : Obj), (∃ ents' clock', o = .map ents' clock' ∧ VRL μ (es'.map (·.2)) (ents'.toList.map (·.val)) ∧ es'.map (·.1) = ents'.toList.map (·.key)) →
                (Instr.mapUpdate t (.map (some mm.B)) k' v').run E.P w = .ok () { w with heap := w.heap.setIfInBounds mm.B o } → LoudOk E μ h w s (.value undef (h.upd r0 (.map es'))) := by
              rintro o ⟨ents', clock', rfl, h4, h5⟩ hrun
              obtain ⟨g1, g2⟩ := hr.setObj hm (x := .map es') (o := .map ents' clock') hnro (by rw [hobj]; rfl) rfl ⟨ents', clock', by simp [hlt], h4, h5⟩
              exact ⟨.skip, _, μ, undef, hs _ hrun, .inr ⟨rfl, rfl⟩, g1, g2, undef_rel _⟩
            rcases mapPut_sound hv hkk 0 h2 h3 hmp with ⟨i, ent, h4, h5, h6, h7, h8⟩ | ⟨h4, h5⟩
            · refine fin (.map (ents.modify i fun e => { e with key := k', val := v' }) clock) ⟨_, _, rfl, by simpa using h7, by simpa using h8⟩ ?_
              have hei : ents[i]? = some ent := by simpa using h5
              simp only [Instr.mapUpdate, Sem.run_bind, run_und hE hu, Result.andThen_ok, hg, hck, run_findKey (und_P hE hkt) h4, Nat.zero_add, hei, Option.map_some, Option.getD_some]
              have hks : (Instr.keyThatStays ent.key k').run E.P w = .ok k' w := by
                simp [Instr.keyThatStays, sameBits_key hkk2 h6]
              simp only [hks, Result.andThen_ok, run_setObj h1 (by intro _ _ _ h; cases h)]
            · refine fin (.map (ents.push { key := k', val := v', born := clock }) (clock + 1)) ⟨_, _, rfl, by simpa using (h5 clock).1, by simpa using (h5 clock).2⟩ ?_
              simp only [Instr.mapUpdate, Sem.run_bind, run_und hE hu, Result.andThen_ok, hg, hck, run_findKey (und_P hE hkt) h4, run_setObj h1 (by intro _ _ _ h; cases h)]
          · cases e
        · cases e
      · cases e
  · cases e

theorem store_sound {E : Env} (hE : EnvOk E) {μ : Mu} {h : H} {w : World} (hr : HR μ h w) {t : TypeId} {p v p' v' : Value} {r : R1} {s : Sem Next} (hp : VR μ p p') (hv : VR μ v v')
    (e : astore E h t p v = some r) (hs : ∀ w', (Instr.storeAt t p' v').run E.P w = .ok () w' → s.run E.P w = .ok .skip w') : LoudOk E μ h w s r := by
  unfold astore at e
  split at e
  · rename_i b i n hsz
    cases hp with
    | ptr hm =>
      rename_i m
      split at e
      · rename_i hn
        have hn := Nat.eq_of_beq_eq_true hn
        split at e
        · rename_i h' hwr
          cases e
          obtain ⟨k1, k2, k3, k4, k5⟩ := hr.write hm hwr hv.cells
          have hlen : v'.cells.size = n := by have := hv.cells.length; simp at this; omega
          refine ⟨.skip, _, μ, undef, hs _ ?_, .inr ⟨rfl, rfl⟩, k4, k5, undef_rel _⟩
          have hst := run_storeCells_cells (P := E.P) m.B (m.o + i) v'.cells.toList 0 w (by simpa using k1) (by simpa using k2) k3
          simp only [Instr.storeAt, Instr.sureAddr, Sem.run_bind, Sem.run_pure, Result.andThen_ok, storeVar, run_size hE hsz, hlen, ne_eq, not_true_eq_false, if_false]
          exact hst
        · cases e
      · cases e
  · cases e

theorem next_sound {E : Env} {μ : Mu} {h : H} {w : World} (hr : HR μ h w) {x x' : Value} {ty : TypeId} {r : R1} {s : Sem Next} (hx : VR μ x x')
    (e : anext h x = some r) (hs : ∀ v w', (Instr.next x' true ty).run E.P w = .ok v w' → s.run E.P w = .ok (.value v) w') : LoudOk E μ h w s r := by
  unfold anext at e
  split at e
  · rename_i b
    cases hx with
    | ptr hm =>
      rename_i m
      split at e
      · rename_i l pos hobj
        have ho := hr.ok b m hm
        rw [hobj] at ho
        obtain ⟨hm0, ho⟩ : m.o = 0 ∧ w.heap[m.B]? = some (.stringIter ⟨l.toArray⟩ pos) := ho
        have hg := run_getObj (P := E.P) ho (by intro _ _ _ h; cases h)
        have hlt : m.B < w.heap.size := (Array.getElem?_eq_some_iff.1 ho).1
        have hnro : ¬ RO (h.obj b) := by rw [hobj]; exact fun h => h
        have hsz : (⟨l.toArray⟩ : ByteArray).size = l.length := by show l.toArray.size = _; simp
        rw [hm0] at hs
        split at e
        · rename_i hp
          have hp : pos < l.length := by simpa [Nat.blt_eq] using hp
          cases e
          obtain ⟨g1, g2⟩ := hr.setObj hm (x := .iter l (pos + (Utf8.decode ⟨l.toArray⟩ pos).2)) (o := .stringIter ⟨l.toArray⟩ (pos + (Utf8.decode ⟨l.toArray⟩ pos).2)) hnro (by rw [hobj]; rfl) rfl ⟨hm0, by simp [hlt]⟩
          refine ⟨_, _, μ, .tuple #[.bool true, .int .i64 pos, .int .i32 (Utf8.decode ⟨l.toArray⟩ pos).1], hs _ _ ?_, .inl rfl, g1, g2, .tuple (.cons (.bool _) (.cons (.int _ _) (.cons (.int _ _) .nil)))⟩
          simp only [Instr.next, Sem.run_bind, hg, Result.andThen_ok, hsz, hp, if_true, run_setObj ho (by intro _ _ _ h; cases h), Sem.run_pure, goInt]
        · rename_i hp
          have hp : ¬ pos < l.length := by
            intro hh
            have : Nat.blt pos l.length = true := by simpa [Nat.blt_eq] using hh
            rw [this] at hp; cases hp
          cases e
          refine ⟨_, w, μ, .tuple #[.bool false], hs _ _ ?_, .inl rfl, hr, Ext.refl _ _ _, .tuple (.cons (.bool _) .nil)⟩
          simp only [Instr.next, Sem.run_bind, hg, Result.andThen_ok, hsz, hp, if_false, Sem.run_pure]
      · cases e
  · cases e

theorem mark_sound {E : Env} (hE : EnvOk E) {μ : Mu} {h : H} {w : World} (hr : HR μ h w) {src dst : TypeId} {x x' : Value} {r : R1} {s : Sem Next} (hx : VR μ x x')
    (e : amark E h src dst x = some r) (hs : ∀ v w', (convert src dst x').run E.P w = .ok v w' → s.run E.P w = .ok (.value v) w') : LoudOk E μ h w s r := by
  unfold amark at e
  split at e
  · rename_i el1 el b i l w1 hsrc hdst
    split at e
    · rename_i c n cap tw hsd he hobj
      have hsd := Nat.eq_of_beq_eq_true hsd
      subst hsd
      rw [hsrc] at hdst
      cases hdst
      split at e
      · cases e
      · rename_i cap' hst
        cases e
        cases hx with
        | slice hm hroom hle =>
          rename_i cap2 m
          have hor := hr.ok b m hm
          rw [hobj] at hor
          obtain ⟨q1, q2, cs, et, fz, q3, q4, q5, q6⟩ := hor
          have hfz : fz.1 = fz.2 ∨ cs.size ≤ fz.1 := q5.resolve_left hst
          obtain ⟨fz', hfz'⟩ : ∃ fz', fz' = (if fz.1 == fz.2 then (cs.size, cs.size + 1) else (min fz.1 cs.size, max fz.2 (cs.size + 1))) := ⟨_, rfl⟩
          have hge : cs.size ≤ fz'.1 := by
            rw [hfz']
            split
            · exact Nat.le_refl _
            · rename_i hne
              have hne : ¬ fz.1 = fz.2 := by simpa using hne
              have := hfz.resolve_left hne
              simp; omega
          have hw' : (w.freeze ⟨m.B, cs.size, none⟩ 1).heap[m.B]? = some (.cells cs et fz') := by
            obtain ⟨lo, hi⟩ := fz
            simp [World.freeze, Array.getElem?_modify, q3, hfz']
          have hw2 : ∀ B, B ≠ m.B → (w.freeze ⟨m.B, cs.size, none⟩ 1).heap[B]? = w.heap[B]? := by
            intro B hB
            simp [World.freeze, Array.getElem?_modify, Ne.symm hB]
          have hoall : ∀ k mk, μ k = some mk → OR μ mk (w.freeze ⟨m.B, cs.size, none⟩ 1) (h.obj k) := by
            intro k mk ek
            have ho := hr.ok k mk ek
            by_cases hB : mk.B = m.B
            · cases hk : h.obj k with
              | dead => trivial
              | cells c2 n2 cap3 tw2 =>
                rw [hk] at ho
                obtain ⟨p1, p2, cs2, et2, fz2, p3, p4, p5, p6⟩ := ho
                rw [hB, q3] at p3
                cases p3
                refine ⟨p1, ⟨p2.1, ?_⟩, cs, et, fz', by rw [hB]; exact hw', p4, .inr (.inr hge), p6⟩
                obtain ⟨cs', fz9, z1, z2⟩ := p2.2
                rw [hB, q3] at z1
                cases z1
                exact ⟨cs, fz', by rw [hB]; exact hw', z2⟩
              | map es =>
                rw [hk] at ho
                obtain ⟨ents, clock, p1, _⟩ := ho
                rw [hB, q3] at p1
                cases p1
              | iter l2 pos =>
                rw [hk] at ho
                have p1 := ho.2
                rw [hB, q3] at p1
                cases p1
              | loop ready tm params assign body =>
                rw [hk] at ho
                obtain ⟨fn, tm', d, N, p1, _⟩ := ho
                rw [hB, q3] at p1
                cases p1
              | dfr =>
                rw [hk] at ho
                have p1 : w.heap[mk.B]? = _ := ho
                rw [hB, q3] at p1
                cases p1
            · by_cases hd : h.obj k = .dead
              · rw [hd]; trivial
              · exact ho.mono (Mu.le_refl _) (hw2 _ hB)
          have hnro : ¬ RO (h.obj b) := by
            rw [hobj]
            cases cap <;> first | exact (fun h => h) | exact absurd rfl hst
          refine ⟨_, w.freeze ⟨m.B, cs.size, none⟩ 1, μ, .slice (some ⟨m.B, m.o + i, none⟩) (l + 1) cap2, hs _ _ ?_, .inl rfl, ⟨hr.lt, hoall, hr.apart, hr.tw⟩, ?_, .slice hm hroom hle⟩
          · have hsh : w.shape? m.B = some (et, cs.size) := by simp [World.shape?, q3]
            simp only [convert, Sem.run_bind, run_und hE hsrc, run_und hE he, Result.andThen_ok, beq_self_eq_true, markStringish, run_shape, hsh, run_freeze, Sem.run_pure]
          · refine ⟨Mu.le_refl _, fun _ _ h => .inl h, fun _ _ h => h, Nat.le_refl _, fun _ _ _ => rfl, ?_, ?_, ?_, ?_, ?_⟩
            · simp [World.freeze]
            · simp [World.freeze]
            · simp [World.freeze]
            · simp [World.freeze]
            · intro B hB hro
              exact hw2 B fun hh => hnro (hro b m hm hh.symm)
    · cases e
  · cases e

theorem slice3_sound {E : Env} (hE : EnvOk E) {μ : Mu} {h : H} {w : World} (hr : HR μ h w) {ρ a : Operand → Value} {t : TypeId} {x x' : Value} {lo hi : Option Operand} {mx : Operand} {r : R1} {s : Sem Next} (hx : VR μ x x')
    (hlo : ∀ y ∈ lo, VR μ (ρ y) (a y)) (hhi : ∀ y ∈ hi, VR μ (ρ y) (a y)) (hmx : VR μ (ρ mx) (a mx))
    (e : aslice3 E ρ h t x lo hi mx = some r) (hs : ∀ v w', (Instr.sliceAt t x' (lo.map a) (hi.map a) (some (a mx))).run E.P w = .ok v w' → s.run E.P w = .ok (.value v) w') : LoudOk E μ h w s r := by
  -- the three bounds
  have bounds : ∀ {m hv l cap : Nat} {y : Operand}, hi = some y → (∃ kd, a mx = .int kd (m : Int)) → m ≤ cap → (∃ kd, a y = .int kd (hv : Int)) → hv ≤ m → ((lo = none ∧ l = 0) ∨ ∃ z kd, lo = some z ∧ a z = .int kd (l : Int)) → l ≤ hv → ∀ len,
      (Instr.sliceBounds true len cap (lo.map a) (hi.map a) (some (a mx))).run E.P w = .ok (l, hv, m) w := by
    intro m hv l cap y hy ⟨k1, hm⟩ hmc ⟨k2, hh⟩ hhm hl hlh len
    subst hy
    rcases hl with ⟨rfl, rfl⟩ | ⟨z, k3, rfl, hz⟩
    · simp only [Instr.sliceBounds, Option.map_some, Option.map_none, Sem.run_bind, hm, run_bound hmc, hh, run_bound hhm, Result.andThen_ok, Sem.run_pure]
    · simp only [Instr.sliceBounds, Option.map_some, Sem.run_bind, hm, run_bound hmc, hh, run_bound hhm, hz, run_bound hlh, Result.andThen_ok, Sem.run_pure]
  have lof : ∀ {hv l : Nat}, asBound (lo.map ρ) 0 hv = some l → l ≤ hv ∧ ((lo = none ∧ l = 0) ∨ ∃ z kd, lo = some z ∧ a z = .int kd (l : Int)) := by
    intro hv l e2
    cases lo with
    | none => have := asBound_none e2; subst this; exact ⟨Nat.zero_le _, .inl ⟨rfl, rfl⟩⟩
    | some z => obtain ⟨kd, e3, hle⟩ := asBound_some (hlo z rfl) e2; exact ⟨hle, .inr ⟨z, kd, rfl, e3⟩⟩
  unfold aslice3 at e
  split at e
  · rename_i b i len z el hu
    have hund := run_und hE hu w
    split at e
    · rename_i w' w1 c n cap twin hsz hobj
      split at e
      · rename_i m hw hin hmb
        have hw := Nat.eq_of_beq_eq_true hw
        subst hw
        have hin := Nat.le_of_ble_eq_true hin
        obtain ⟨kd, hma, hmn⟩ := asBound_some hmx hmb
        split at e
        · rename_i hv hhb
          split at e
          · rename_i l hlb
            obtain ⟨hlh, hl⟩ := lof hlb
            split at e
            · -- nothing
              rename_i y hml
              have hml := Nat.eq_of_beq_eq_true hml
              subst hml
              cases e
              obtain ⟨kd2, hya, hhm⟩ := asBound_some (hhi y rfl) hhb
              have hhv : hv = m := by omega
              subst hhv
              cases hx with
              | slice hm hroom hle =>
                rename_i cap2 mm
                have ho := hr.ok b mm hm
                rw [hobj] at ho
                have hcap : hv ≤ cap2 := by
                  refine Nat.le_trans hmn ?_
                  have : n - i ≤ cap2 * (w1 + 1) := by have := ho.1; omega
                  exact Nat.div_le_of_le_mul (by rw [Nat.mul_comm]; exact this)
                have hb := bounds rfl ⟨kd, hma⟩ hcap ⟨kd2, hya⟩ hhm hl hlh len
                refine ⟨_, w, μ, .slice (some ⟨mm.B, mm.o + i, none⟩) 0 0, hs _ _ ?_, .inl rfl, hr, Ext.refl _ _ _, .slice0 (.inl rfl)⟩
                simp only [Instr.sliceAt, Sem.run_bind, hund, Result.andThen_ok, Instr.slice, hb, run_size hE hsz, Sem.run_pure, if_true, Nat.sub_self]
              | slice0 h0 =>
                rename_i A
                rcases h0 with h0 | ⟨mm, hm, hi'⟩
                · cases h0
                · have ho := hr.ok b mm hm
                  rw [hobj] at ho
                  have hn0 : n - i = 0 := by have := ho.1; omega
                  rw [hn0, Nat.zero_div] at hmn
                  have hv0 : hv = 0 := by omega
                  subst hv0
                  have hb := bounds rfl ⟨kd, hma⟩ (Nat.le_refl 0) ⟨kd2, hya⟩ hhm hl hlh 0
                  refine ⟨_, w, μ, .slice (some A) 0 0, hs _ _ ?_, .inl rfl, hr, Ext.refl _ _ _, .slice0 (.inl rfl)⟩
                  simp only [Instr.sliceAt, Sem.run_bind, hund, Result.andThen_ok, Instr.slice, hb, run_size hE hsz, Sem.run_pure, if_true, Nat.sub_self]
            · rename_i y hml
              have hml := Nat.ne_of_beq_eq_false hml
              split at e
              · rename_i old hmh hread
                have hmh := Nat.eq_of_beq_eq_true hmh
                subst hmh
                split at e
                · cases e
                · rename_i cap' hst
                  cases e
                  obtain ⟨kd2, hya, hhm⟩ := asBound_some (hhi y rfl) hhb
                  cases hx with
                  | slice0 h0 =>
                    exfalso
                    rcases h0 with h0 | ⟨mm, hm, hi'⟩
                    · cases h0
                    · have ho := hr.ok b mm hm
                      rw [hobj] at ho
                      have hn0 : n - i = 0 := by have := ho.1; omega
                      rw [hn0, Nat.zero_div] at hmn
                      omega
                  | slice hm hroom hle =>
                    rename_i cap2 mm
                    have ho := hr.ok b mm hm
                    rw [hobj] at ho
                    have hcap : m ≤ cap2 := by
                      refine Nat.le_trans hmn ?_
                      have : n - i ≤ cap2 * (w1 + 1) := by have := ho.1; omega
                      exact Nat.div_le_of_le_mul (by rw [Nat.mul_comm]; exact this)
                    have hb := bounds rfl ⟨kd, hma⟩ hcap ⟨kd2, hya⟩ hhm hl hlh len
                    simp only [Option.map_some] at hb
                    have hrun : (Instr.sliceAt t (.slice (some ⟨mm.B, mm.o + i, none⟩) len cap2) (lo.map a) ((some y).map a) (some (a mx))).run E.P w = .ok (.slice (some ⟨mm.B, mm.o + i + l * (w1 + 1), none⟩) (m - l) (m - l)) w := by
                      simp only [Instr.sliceAt, Sem.run_bind, hund, Result.andThen_ok, Instr.slice, hb, run_size hE hsz, Sem.run_pure, if_neg hml, Option.map_some, Addr.add_mk]
                    -- the elder block, whose twin is killed and which the view is now twin of
                    obtain ⟨q1, q2, cs, et, fz, q3, q4, q5, q6⟩ := ho
                    have hnro : ¬ RO (h.obj b) := by
                      rw [hobj]
                      cases cap <;> first | exact (fun h => h) | exact absurd rfl hst
                    obtain ⟨l', r1, r2, r3⟩ := read_sound hr hm hread
                    obtain ⟨hb', hhb'⟩ : ∃ hb', hb' = (h.kill twin.t).upd b (.cells c n cap ⟨some h.next, twin.el⟩) := ⟨_, rfl⟩
                    have hbn : hb'.next = h.next := by rw [hhb']; simp
                    have hblt := hr.lt b mm hm
                    have hobjb : hb'.obj b = .cells c n cap ⟨some h.next, twin.el⟩ := by rw [hhb', H.obj_upd, if_pos rfl]
                    have hobjk : ∀ k, k ≠ b → hb'.obj k = if twin.t = some k then .dead else h.obj k := by
                      intro k hk
                      rw [hhb', H.obj_upd, if_neg (Ne.symm hk), H.obj_kill]
                    have htwin : (h.obj b).twin = twin.t := by rw [hobj]; rfl
                    have halone : ∀ k mk, μ k = some mk → k ≠ b → mk.B = mm.B → hb'.obj k = .dead := by
                      intro k mk ek hk hB
                      rw [hobjk k hk]
                      rcases hr.apart b k mm mk hm ek (Ne.symm hk) hB.symm hnro with h3 | h3
                      · split
                        · rfl
                        · exact h3
                      · rw [htwin] at h3
                        rw [if_pos h3]
                    have hle' := hr.le_add ⟨mm.B, mm.o + i + l * (w1 + 1), (m - l) * (w1 + 1)⟩
                    have hself : ∀ mk, μ.add h.next ⟨mm.B, mm.o + i + l * (w1 + 1), (m - l) * (w1 + 1)⟩ h.next = some mk → mk = ⟨mm.B, mm.o + i + l * (w1 + 1), (m - l) * (w1 + 1)⟩ := fun mk ek => by rw [Mu.add_self] at ek; exact (Option.some.inj ek).symm
                    have hsome : ∀ k mk, μ.add h.next ⟨mm.B, mm.o + i + l * (w1 + 1), (m - l) * (w1 + 1)⟩ k = some mk → k ≠ h.next → μ k = some mk := fun k mk ek hk => by rwa [Mu.add_ne _ _ hk] at ek
                    have hnobj : ∀ (x : AObj) k, k ≠ h.next → (hb'.new x).obj k = hb'.obj k := fun x k hk => by rw [H.obj_new, hbn, if_neg (Ne.symm hk)]
                    have hnself : ∀ (x : AObj), (hb'.new x).obj h.next = x := fun x => by rw [H.obj_new, hbn, if_pos rfl]
                    rw [← hhb']
                    refine ⟨_, w, μ.add h.next ⟨mm.B, mm.o + i + l * (w1 + 1), (m - l) * (w1 + 1)⟩, _, hs _ _ hrun, .inl rfl, ?_, ?_, ?_⟩
                    · constructor
                      · intro k mk ek
                        show k < hb'.next + 1
                        by_cases hk : k = h.next
                        · omega
                        · have := hr.lt k mk (hsome k mk ek hk); omega
                      · intro k mk ek
                        by_cases hk : k = h.next
                        · subst hk
                          rw [hself mk ek, hnself]
                          refine OR.row' (l := old) (l' := l') q3 (fun k v _ hv => by rwa [T.get_ofList] at hv) (r1.mono hle') ?_ (Nat.le_refl _) (fun hh => by cases hh) ?_ (.inl rfl) (by obtain ⟨_, _, z, _⟩ := q2.2; rw [q3] at z; cases z; rfl) (fun hh => by cases hh)
                          · intro k v hv
                            have := r3 k v hv
                            rw [show mm.o + (i + l * (w1 + 1)) + k = mm.o + i + l * (w1 + 1) + k by omega] at this
                            simpa [World.cell?, q3] using this
                          · have h7 : (m - l) * (w1 + 1) + l * (w1 + 1) = m * (w1 + 1) := by rw [← Nat.add_mul]; congr 1; omega
                            have h8 : m * (w1 + 1) ≤ cap2 * (w1 + 1) := Nat.mul_le_mul_right _ hcap
                            show mm.o + i + l * (w1 + 1) + (m - l) * (w1 + 1) ≤ cs.size
                            omega
                        · rw [hnobj _ k hk]
                          have ek' := hsome k mk ek hk
                          by_cases hkb : k = b
                          · subst hkb
                            rw [hm] at ek'
                            cases ek'
                            rw [hobjb]
                            exact OR.mono (μ := μ) ⟨q1, q2, cs, et, fz, q3, q4, q5, q6⟩ hle' rfl
                          · rw [hobjk k hkb]
                            split
                            · trivial
                            · exact (hr.ok k mk ek').mono hle' rfl
                      · intro k k' mk mk' ek ek' hne hB hro
                        by_cases hk : k = h.next
                        · subst hk
                          rw [hnself] at hro
                          exact absurd trivial hro
                        · have e1 := hsome k mk ek hk
                          rw [hnobj _ k hk] at hro ⊢
                          by_cases hk' : k' = h.next
                          · subst hk'
                            rw [hself mk' ek'] at hB
                            by_cases hkb : k = b
                            · subst hkb; rw [hobjb]; exact .inr rfl
                            · rw [halone k mk e1 hkb hB] at hro; exact absurd trivial hro
                          · rw [hnobj _ k' hk']
                            have e2 := hsome k' mk' ek' hk'
                            by_cases hkb : k = b
                            · subst hkb
                              rw [hm] at e1
                              cases e1
                              exact .inl (halone k' mk' e2 (Ne.symm hne) hB.symm)
                            · rw [hobjk k hkb] at hro ⊢
                              split at hro
                              · exact absurd trivial hro
                              · rename_i htk
                                rw [if_neg htk]
                                by_cases hkb' : k' = b
                                · subst hkb'
                                  rw [hm] at e2
                                  cases e2
                                  have := halone k mk e1 hkb hB
                                  rw [hobjk k hkb, if_neg htk] at this
                                  rw [this] at hro
                                  exact absurd trivial hro
                                · rw [hobjk k' hkb']
                                  split
                                  · exact .inl rfl
                                  · exact hr.apart k k' mk mk' e1 e2 hne hB hro
                      · intro k mk t ek ht
                        by_cases hk : k = h.next
                        · subst hk
                          rw [hnself] at ht
                          cases ht
                        · rw [hnobj _ k hk] at ht
                          by_cases hkb : k = b
                          · subst hkb
                            rw [hobjb] at ht
                            cases ht
                            exact ⟨_, Mu.add_self _ _ _⟩
                          · rw [hobjk k hkb] at ht
                            split at ht
                            · cases ht
                            · obtain ⟨mt, h5⟩ := hr.tw k mk t (hsome k mk ek hk) ht
                              exact ⟨mt, hle' _ _ h5⟩
                    · refine ⟨hle', ?_, ?_, ?_, ?_, Keep.refl _ _ _⟩
                      · intro k mk ek
                        by_cases hk : k = h.next
                        · subst hk
                          rw [hself mk ek]
                          exact .inr ⟨Nat.le_refl _, .inr ⟨b, mm, hm, rfl, hnro⟩⟩
                        · exact .inl (hsome k mk ek hk)
                      · intro k hk hro
                        rw [hnobj _ k (by omega)]
                        by_cases hkb : k = b
                        · subst hkb; exact absurd hro hnro
                        · rw [hobjk k hkb]
                          split
                          · trivial
                          · exact hro
                      · show h.next ≤ hb'.next + 1
                        omega
                      · intro k hk hn
                        rw [hnobj _ k (by omega), hobjk k (by rintro rfl; rw [hm] at hn; cases hn), if_neg ?_]
                        intro ht
                        obtain ⟨mt, h5⟩ := hr.tw b mm k hm (by rw [htwin]; exact ht)
                        rw [hn] at h5
                        cases h5
                    · have := VR.slice (μ := μ.add h.next ⟨mm.B, mm.o + i + l * (w1 + 1), (m - l) * (w1 + 1)⟩) (b := h.next) (i := 0) (len := m - l) (w := w1) (cap := m - l) (m := ⟨mm.B, mm.o + i + l * (w1 + 1), (m - l) * (w1 + 1)⟩) (Mu.add_self _ _ _) rfl (Nat.le_refl _)
                      exact this
              · cases e
            · cases e
          · cases e
        · cases e
      · cases e
    · rename_i w' hsz
      split at e
      · rename_i m y hmb
        split at e
        · rename_i hv hhb
          split at e
          · rename_i l hlb
            cases e
            obtain ⟨hlh, hl⟩ := lof hlb
            obtain ⟨kd, hma, hmn⟩ := asBound_some hmx hmb
            obtain ⟨kd2, hya, hhm⟩ := asBound_some (hhi y rfl) hhb
            have hm0 : m = 0 := by omega
            have hv0 : hv = 0 := by omega
            have hl0 : l = 0 := by omega
            subst hm0; subst hv0; subst hl0
            cases hx with
            | slice0 h0 =>
              rename_i A
              have hb := bounds rfl ⟨kd, hma⟩ (Nat.le_refl 0) ⟨kd2, hya⟩ hhm hl hlh 0
              refine ⟨_, w, μ, .slice (some A) 0 0, hs _ _ ?_, .inl rfl, hr, Ext.refl _ _ _, .slice0 (.inl rfl)⟩
              simp only [Instr.sliceAt, Sem.run_bind, hund, Result.andThen_ok, Instr.slice, hb, run_size hE hsz, Sem.run_pure, if_true, Nat.sub_self]
          · cases e
        · cases e
      · cases e
    · cases e
  · rename_i n1 n2 el hu
    have hund := run_und hE hu w
    cases hx
    split at e
    · rename_i w' m y hsz hmb
      split at e
      · rename_i hv l hhb hlb
        cases e
        obtain ⟨hlh, hl⟩ := lof hlb
        obtain ⟨kd, hma, hmn⟩ := asBound_some hmx hmb
        obtain ⟨kd2, hya, hhm⟩ := asBound_some (hhi y rfl) hhb
        have hm0 : m = 0 := by omega
        have hv0 : hv = 0 := by omega
        have hl0 : l = 0 := by omega
        subst hm0; subst hv0; subst hl0
        have hb := bounds rfl ⟨kd, hma⟩ (Nat.le_refl 0) ⟨kd2, hya⟩ hhm hl hlh 0
        refine ⟨_, w, μ, .slice none 0 0, hs _ _ ?_, .inl rfl, hr, Ext.refl _ _ _, .nilSlice⟩
        simp only [Instr.sliceAt, Sem.run_bind, hund, Result.andThen_ok, Instr.slice, hb, run_size hE hsz, Sem.run_pure, if_true, Nat.sub_self]
      · cases e
    · cases e
  · cases e

theorem copy_sound {E : Env} (hE : EnvOk E) {μ : Mu} {h : H} {w : World} (hr : HR μ h w) {t : TypeId} {ts : List TypeId} {argTypes : Array TypeId} (hat : argTypes.toList = t :: ts) {ty : TypeId} {dv xv dv' xv' : Value} {r : R1} {s : Sem Next} (h1 : VR μ dv dv') (h2 : VR μ xv xv')
    (e : acopy E h t dv xv = some r) (hs : ∀ v w', (Builtin.copy_ argTypes ty #[dv', xv']).run E.P w = .ok v w' → s.run E.P w = .ok (.value v) w') : LoudOk E μ h w s r := by
  have h0 : argTypes[0]? = some t := by
    have : argTypes.toList[0]? = some t := by rw [hat]; rfl
    simpa using this
  unfold acopy at e
  split at e
  · rename_i base dlen z el m hu hlen
    split at e
    · rename_i wd hsz
      split at e
      · rename_i l haf
        obtain ⟨l', k1, k2, k3, k4⟩ := afirst_sound (E := E) hr h2 hlen (Nat.min_le_left m dlen) haf
        have hl := alenOf_sound (P := E.P) h2 hlen
        split at e
        · rename_i b i
          split at e
          · -- nothing
            rename_i hmin
            have hmin : min m dlen = 0 := hmin
            cases e
            rw [hmin] at k2 k3
            have hl0 : l' = [] := List.eq_nil_of_length_eq_zero (by rw [k2]; simp)
            subst hl0
            refine ⟨_, w, μ, .int .i64 0, hs _ _ ?_, .inl rfl, hr, Ext.refl _ _ _, .int _ _⟩
            cases h1 <;> simp [Builtin.copy_, h0, run_und hE hu, hl, run_size hE hsz, hmin, k3, storeCells, goInt]
          · rename_i k hmin
            split at e
            · rename_i h' hz hwr
              have hz := Nat.eq_of_beq_eq_true hz
              subst hz
              cases e
              have hmin : min m dlen = k + 1 := hmin
              rw [hmin] at k2 k3
              cases h1 with
              | slice hm hroom hle =>
                rename_i w1 cap mm
                obtain ⟨q1, q2, q3, q4, q5⟩ := hr.write hm hwr k1
                have hst := run_storeCells_cells (P := E.P) mm.B (mm.o + i) l' 0 w (by simpa using q1) (by simpa using q2) q3
                refine ⟨_, _, μ, .int .i64 ((k + 1 : Nat) : Int), hs _ _ ?_, .inl rfl, q4, q5, .int _ _⟩
                simp [Builtin.copy_, h0, run_und hE hu, hl, run_size hE hsz, hmin, k3, hst, goInt]
              | slice0 h5 =>
                rw [Nat.min_zero] at hmin
                cases hmin
            · cases e
        · cases h1
          cases e
          rw [Nat.min_zero] at k2 k3
          refine ⟨_, w, μ, .int .i64 (Nat.min m 0 : Nat), hs _ _ ?_, .inl rfl, hr, Ext.refl _ _ _, .int _ _⟩
          simp [Builtin.copy_, h0, run_und hE hu, hl, run_size hE hsz, k3, goInt]
        · cases e
      · cases e
    · cases e
  · cases e

theorem clear_sound {E : Env} (hE : EnvOk E) {μ : Mu} {h : H} {w : World} (hr : HR μ h w) {t : TypeId} {ts : List TypeId} {argTypes : Array TypeId} (hat : argTypes.toList = t :: ts) {ty : TypeId} {x x' : Value} {r : R1} {s : Sem Next} (h1 : VR μ x x')
    (e : aclear E h t x = some r) (hs : ∀ v w', (Builtin.clear_ argTypes ty #[x']).run E.P w = .ok v w' → s.run E.P w = .ok (.value v) w') : LoudOk E μ h w s r := by
  have h0 : argTypes[0]? = some t := by
    have : argTypes.toList[0]? = some t := by rw [hat]; rfl
    simpa using this
  unfold aclear at e
  split at e
  · rename_i base len z el hu
    split at e
    · cases e
      cases h1
      refine ⟨_, w, μ, undef, hs _ _ ?_, .inl rfl, hr, Ext.refl _ _ _, undef_rel _⟩
      simp [Builtin.clear_, h0, run_und hE hu, undef]
    · cases e
      refine ⟨_, w, μ, undef, hs _ _ ?_, .inl rfl, hr, Ext.refl _ _ _, undef_rel _⟩
      cases h1 <;> simp [Builtin.clear_, h0, run_und hE hu, undef]
    · rename_i b i len
      split at e
      · rename_i zv wd hz hsz
        split at e
        · rename_i h' hz1 hzs hwr
          have hz1 := Nat.eq_of_beq_eq_true hz1
          have hzs := Nat.eq_of_beq_eq_true hzs
          subst hz1
          cases e
          cases h1 with
          | slice hm hroom hle =>
            rename_i cap m
            have hzr := flat_refl μ zv (zero_flat hE hz)
            obtain ⟨q1, q2, q3, q4, q5⟩ := hr.write hm hwr (hzr.cells.repl (len + 1))
            have hst := run_storeCells_cells (P := E.P) m.B (m.o + i) (repl zv.cells.toList (len + 1)) 0 w (by simpa using q1) (by simpa using q2) q3
            refine ⟨_, _, μ, undef, hs _ _ ?_, .inl rfl, q4, q5, undef_rel _⟩
            have hzc : (Builtin.zeroCells zv.cells (len + 1)).toList = repl zv.cells.toList (len + 1) := zeros_eq zv.cells (by omega) (len + 1)
            simp [Builtin.clear_, h0, run_und hE hu, undef, run_zero hE hz, hzc, hst]
        · cases e
      · cases e
    · cases e
  · cases e

theorem invoke_sound {E : Env} (hE : EnvOk E) {μ : Mu} {h : H} {w : World} {x x' : Value} {name : String} {args args' : Array Value} {r : R1} {s : Sem Next} (h1 : VR μ x x') (h2 : VRL μ args.toList args'.toList)
    (e : ainvoke E x name args = some r) (hs : s.run E.P w = (callMethod x' name args').run E.P w) : LoudOk E μ h w s r := by
  unfold ainvoke at e
  split at e
  · rename_i t v
    cases h1 with
    | iface hv =>
      rename_i v'
      split at e
      · rename_i ti hti
        split at e
        · rename_i m hfind
          have hmeth : ∀ f pr, m.path.toList = [] → m.func = some (f, pr) → ((∃ el, ti.u = .pointer el) ∧ pr = true ∨ (∀ el, ti.u ≠ .pointer el) ∧ pr = false) → ∀ n, (method (n + 1) t v' name).run E.P w = .ok (f, v') w := by
            intro f pr hpath hfunc hpr n
            have hund := run_underlying (hE.ty _ _ hti).2 w
            simp only [method, Sem.run_bind, run_info hE hti, Result.andThen_ok, hfind, hpath, follow, Sem.run_pure, hfunc, receiverAt, hund]
            rcases hpr with ⟨⟨el, hu⟩, rfl⟩ | ⟨hu, rfl⟩
            · rw [hu]
              simp [Place.get]
            · cases hd : ti.u <;> first | (simp [Place.get]; done) | exact absurd hd (hu _)
          split at e
          · rename_i f pr hpath hfunc
            have fin : ((∃ el, ti.u = .pointer el) ∧ pr = true ∨ (∀ el, ti.u ≠ .pointer el) ∧ pr = false) → LoudOk E μ h w s (.enter f (#[v] ++ args)) := by
              intro hpr
              refine ⟨#[v'] ++ args', ?_, ?_⟩
              · simp only [Array.toList_append]
                exact VRL.append (.cons hv .nil) h2
              · intro r hr
                rw [hs]
                simp only [callMethod, Sem.run_bind, run_program, Result.andThen_ok]
                rw [show E.P.types.size + Made.depth = (E.P.types.size + 99) + 1 from rfl, hmeth f pr hpath hfunc hpr]
                exact hr
            split at e
            · cases e
              rename_i hu
              exact fin (.inl ⟨⟨_, hu⟩, rfl⟩)
            · cases e
            · cases e
              rename_i hu
              exact fin (.inr ⟨fun el hh => hu _ hh, rfl⟩)
            · cases e
          · cases e
        · cases e
      · cases e
  · cases e

set_option maxHeartbeats 2000000 in
theorem aloud_sound {E : Env} (hE : EnvOk E) {μ : Mu} {h : H} {w : World} (hr : HR μ h w) {ρ a : Operand → Value} {o : Oper} {r : R1}
    (hx : ∀ y ∈ o.op.operands, VR μ (ρ y) (a y)) (e : aloud E ρ h o = some r) : LoudOk E μ h w (execOp a o) r := by
  obtain ⟨dst, op, type, pos, after, guard⟩ := o
  unfold aloud at e
  dsimp only at e hx
  split at e
  · exact store_sound hE hr (hx _ (by simp [Op.operands])) (hx _ (by simp [Op.operands])) e fun w' hw => by simp only [execOp]; exact run_u hw
  · rename_i t x lo hi mx
    exact slice3_sound hE hr (a := a) (hx x (by simp [Op.operands])) (fun y hy => hx y (by simp [Op.operands]; simp at hy; simp [hy])) (fun y hy => hx y (by simp [Op.operands]; simp at hy; simp [hy])) (hx mx (by simp [Op.operands])) e
      fun v w' hw => by simp only [execOp]; exact run_v hw
  · rename_i t m k v
    exact mapUpd hE hr (hx m (by simp [Op.operands])) (hx k (by simp [Op.operands])) (hx v (by simp [Op.operands])) e fun w' hw => by simp only [execOp]; exact run_u hw
  · rename_i t m k v
    exact mapUpd hE hr (hx m (by simp [Op.operands])) (hx k (by simp [Op.operands])) (hx v (by simp [Op.operands])) e fun w' hw => by simp only [execOp]; exact run_u hw
  · exact mark_sound hE hr (hx _ (by simp [Op.operands])) e fun v w' hw => by simp only [execOp]; exact run_v hw
  · exact next_sound hr (hx _ (by simp [Op.operands])) e fun v w' hw => by simp only [execOp]; exact run_v hw
  · -- panic
    rename_i x
    have hc := hx x (by simp [Op.operands])
    generalize hac : a x = ac at hc
    split at e
    · rename_i t v hb
      rw [hb] at hc
      cases e
      cases hc with
      | iface hv => exact ⟨_, by simp only [execOp, Sem.run_bind, hac, Instr.panic, run_goPanic]; rfl, .iface hv⟩
    · cases e
  · -- defer
    rename_i c
    split at e
    · rename_i f hcal
      have hf := hx f (by simp [Op.operands, Call.operands, hcal])
      generalize hac : a f = ac at hf
      split at e
      · rename_i f' first cap hb
        rw [hb] at hf
        cases e
        cases hf with
        | func h1 h2 =>
          rename_i first' cap'
          refine ⟨{ target := .fn (.func f') cap', args := first' ++ c.args.map a }, by simp only [execOp, resolve, hcal, hac, Deferred.ofValue, Sem.run_bind, Sem.run_pure, Result.andThen_ok], .inl ⟨f', cap, cap', rfl, rfl, h2, ?_⟩⟩
          simp only [Array.toList_append, Array.toList_map]
          exact h1.append (VRL.map _ fun x hm => hx x (by simp [Op.operands, Call.operands]; simp at hm; exact .inr hm))
      · cases e
    · cases e
  · -- call
    rename_i c
    have hargs : VRL μ (c.args.toList.map ρ) (c.args.map a).toList := argsRel fun x hm => hx x (by simp [Op.operands, Call.operands]; simp at hm; exact .inr hm)
    split at e
    · -- a function value
      rename_i f hcal
      have hf := hx f (by simp [Op.operands, Call.operands, hcal])
      generalize hac : a f = ac at hf
      split at e
      · -- a round
        rename_i L first cap hb
        rw [hb] at hf
        cases e
        cases hf with
        | yield hL =>
          rename_i l
          refine ⟨l, c.args.map a, hL, hargs, fun r hr' => ?_⟩
          simp only [execOp, resolve, hcal, hac, Deferred.ofValue, Sem.run_bind, Sem.run_pure, Result.andThen_ok, invoke]
          simpa using hr'
      · rename_i f' first cap hb
        rw [hb] at hf
        cases hf with
        | func h1 h2 =>
          rename_i first' cap'
          have hall : VRL μ (first ++ c.args.map ρ ++ cap).toList (first' ++ c.args.map a ++ cap').toList := by
            simp only [Array.toList_append, Array.toList_map] at hargs ⊢
            exact (h1.append hargs).append h2
          have hrun : ∀ r, (callFunc f' (first' ++ c.args.map a ++ cap')).run E.P w = r → (execOp a ⟨dst, .call c, type, pos, after, guard⟩).run E.P w = r := by
            intro r hr'
            simp only [execOp, resolve, hcal, hac, Deferred.ofValue, Sem.run_bind, Sem.run_pure, Result.andThen_ok, invoke]
            exact hr'
          split at e
          · rename_i fn hfn
            split at e
            · cases e
              exact ⟨_, hall, hrun⟩
            · rename_i hbody
              split at e
              · rename_i hname
                obtain ⟨v, h', w', μ', v', q1, q2, q3, q4, q5⟩ := anoZero_sound hE hr hfn hbody hname hall e
                subst q1
                exact ⟨.value v', w', μ', v', hrun _ q2, .inl rfl, q3, q4, q5⟩
              · cases e
          · cases e
      · cases e
    · rename_i hcal
      cases e
      show Sem.run _ _ _ = _
      simp only [execOp, resolve, hcal, Sem.run_bind, Sem.run_pure, Result.andThen_ok, invoke, builtin]
    · -- unsafe.String
      rename_i hcal
      split at e
      · rename_i pt rest p n hty hav
        rw [hav] at hargs
        obtain ⟨p', n', harr, h1, h2⟩ := two_args hargs
        obtain ⟨v, h', w', μ', v', q1, q2, q3, q4, q5⟩ := aunsafeString_sound hE hr hty (ty := type) h1 h2 e
        subst q1
        refine ⟨.value v', w', μ', v', ?_, .inl rfl, q3, q4, q5⟩
        simp only [execOp, resolve, hcal, Sem.run_bind, Sem.run_pure, Result.andThen_ok, invoke, builtin, harr, q2]
      · cases e
    · -- append
      rename_i hcal
      split at e
      · rename_i t t' sv xv hty hav
        rw [hav] at hargs
        obtain ⟨sv', xv', harr, h1, h2⟩ := two_args hargs
        have hat : c.argTypes = #[t, t'] := Array.ext' hty
        have fin : ∀ {el : TypeId} {v : Value} {h' : H}, E.und t = some (.slice el) → ((∃ e', E.P.underlying t' = some (.slice e')) ∨ E.P.underlying t' = some .string) → aappend E el sv xv h = some (v, h') → LoudOk E μ h w (execOp a ⟨dst, .call c, type, pos, after, guard⟩) (.value v h') := by
          intro el v h' hu hk hap
          obtain ⟨w', μ', v', k1, k2, k3, k4⟩ := aappend_sound hE hr (ty := type) (und_P hE hu) hk h1 h2 hap
          refine ⟨.value v', w', μ', v', ?_, .inl rfl, k2, k3, k4⟩
          simp only [execOp, resolve, hcal, Sem.run_bind, Sem.run_pure, Result.andThen_ok, invoke, builtin, hat, harr, k1]
        split at e
        · rename_i el e2 hu hu2
          split at e
          · rename_i v h' hap
            cases e
            exact fin hu (.inl ⟨_, und_P hE hu2⟩) hap
          · cases e
        · rename_i el hu hu2
          split at e
          · rename_i v h' hap
            cases e
            exact fin hu (.inr (und_P hE hu2)) hap
          · cases e
        · rename_i el ik hu hu2
          split at e
          · rename_i v h' hap
            cases e
            obtain ⟨w', μ', v', k1, k2, k3, k4⟩ := azeros_sound hE hr (ty := type) (und_P hE hu) (und_P hE hu2) h1 h2 hap
            refine ⟨.value v', w', μ', v', ?_, .inl rfl, k2, k3, k4⟩
            simp only [execOp, resolve, hcal, Sem.run_bind, Sem.run_pure, Result.andThen_ok, invoke, builtin, hat, harr, k1]
          · cases e
        · cases e
      · cases e
    · -- copy
      rename_i hcal
      split at e
      · rename_i t ts dv xv hty hav
        rw [hav] at hargs
        obtain ⟨dv', xv', harr, h1, h2⟩ := two_args hargs
        refine copy_sound hE hr hty (ty := type) h1 h2 e fun v w' hw => ?_
        simp only [execOp, resolve, hcal, Sem.run_bind, Sem.run_pure, Result.andThen_ok, invoke, builtin, harr, hw]
      · cases e
    · -- clear
      rename_i hcal
      split at e
      · rename_i t ts x hty hav
        rw [hav] at hargs
        obtain ⟨x', harr, h1⟩ := one_arg hargs
        refine clear_sound hE hr hty (ty := type) h1 e fun v w' hw => ?_
        simp only [execOp, resolve, hcal, Sem.run_bind, Sem.run_pure, Result.andThen_ok, invoke, builtin, harr, hw]
      · cases e
    · cases e
    · -- invoke
      rename_i recv name hcal
      refine invoke_sound hE (args' := c.args.map a) (hx recv (by simp [Op.operands, Call.operands, hcal])) (by simpa using hargs) e ?_
      have he : (#[a recv] ++ c.args.map a).extract 1 (#[a recv] ++ c.args.map a).size = c.args.map a := by
        apply Array.ext'
        simp
        exact List.take_of_length_le (by simp)
      have h0 : (#[a recv] ++ c.args.map a)[0]? = some (a recv) := by
        rw [Array.getElem?_append_left (by show 0 < 1; omega)]
        rfl
      have hres : resolve a c type = pure { target := .fn (.method name) #[], args := #[a recv] ++ c.args.map a } := by simp only [resolve, hcal]
      simp only [execOp, hres, Sem.run_bind, Sem.run_pure, Result.andThen_ok, invoke]
      rw [h0, he]
  · cases e

end Go.AX
