/-
  The law's call returns true for every integer, over the machine; a start that meets the row's conditions.
-/
import Derived.Test.YtkdjecbkgmkngaaGreatDoorLaw
import Derived.Test.YtkdjecbkgmkngaaGreatDoorAxE
import Derived.Test.YtkdjecbkgmkngaaGreatDoorCards
import Derived.Test.YtkdjecbkgmkngaaGreatDoorTie
import Derived.ProofKit
import Derived.OpenShut
import Derived.Deep.DeepHandedRow
import Derived.Deep.DeepWitnessRowRef
import Derived.Lib.LaidTab
import Derived.Lay
import Derived.MakeChecks
set_option linter.unusedSectionVars false
set_option linter.unusedSimpArgs false
set_option linter.unusedVariables false
namespace Go.Proofs.YtkdjecbkgmkngaaGreatDoor
open Go Go.AX Go.ChangeShapes Go.WideShapes Go.ChangeAt Go.RowKit Go.Proofs.SO

theorem own : ownKnob Tryz.prog.godebug = none := by kernel_rfl

/-! ### what the row's list gives -/
theorem laidVars_mem {P : Program} {w : World} {name : String} {d : DataW Unit} : ∀ {l : List (String × DataW Unit)} {ps : List MemPlace}, DataW.LaidVars P w l ps → (name, d) ∈ l →
    ∃ g t cs fuel p, P.globalNamed name = some g ∧ (P.globals[g]?).map (·.type) = some t ∧ w.var? P name = some cs ∧ DataW.trod (fun _ => ()) P w 0 (fun _ => true) false fuel t cs.toList = some (d, p)
  | [], _, _, h => by cases h
  | (n, x) :: r, ps, h, hm => by
    obtain ⟨g, t, cs, fuel, p, q, h1, h2, h3, h4, h5, _⟩ := h
    rcases List.mem_cons.1 hm with e | hm
    · cases e; exact ⟨g, t, cs, fuel, p, h1, h2, h3, h4⟩
    · exact laidVars_mem h5 hm

theorem tab_of {W : World} {laid : List (String × DataW Unit)} (h : laidMet Tryz.prog laid W) {name : String} {k : IntKind} {zs : List Int} (hm : (name, Lib.tabData k zs) ∈ laid) {g : Nat} {t e : TypeId} {n : Nat}
    (hg : Tryz.prog.globalNamed name = some g) (hty : (Tryz.prog.globals[g]?).map (·.type) = some t) (ht : Tryz.prog.underlying t = some (.array n e)) (he : Tryz.prog.underlying e = some (.int k)) (hce : Tryz.prog.cellsOf e = 1) (hct : Tryz.prog.cellsOf t = n) :
    W.var? Tryz.prog name = some (zs.map fun z => Value.int k z).toArray := by
  obtain ⟨ps, hv, _⟩ := h
  obtain ⟨g', t', cs, fuel, p, hg', ht', hvar, hd⟩ := laidVars_mem hv hm
  obtain rfl := Option.some.inj (hg.symm.trans hg')
  obtain rfl := Option.some.inj (hty.symm.trans ht')
  rw [hvar, ← Lib.cells_of_tab ht he hce hct hd]

theorem heap_of {W : World} {name : String} {g : Nat} {cs : Array Value} (hg : Tryz.prog.globalNamed name = some g) (hv : W.var? Tryz.prog name = some cs) : ∃ el fz, W.heap[g]? = some (.cells cs el fz) := by
  unfold World.var? at hv
  rw [hg] at hv
  simp only [Option.bind_some] at hv
  split at hv
  · rename_i c el fz hb
    cases hv
    exact ⟨el, fz, hb⟩
  · cases hv

/-- the types that the door gives its variables -/
noncomputable def rowAt (g : Nat) : Option (Array Value × TypeId) := ((begin Tryz.prog (fun _ _ => 0) default).world.heap[g]?).bind Obj.row?
noncomputable def zeroAt (g : Nat) : Array Value := match rowAt g with | some (z, _) => z | none => #[]
theorem row5 : rowAt 5 = some (zeroAt 5, 334) := by kernel_rfl
theorem row6 : rowAt 6 = some (zeroAt 6, 422) := by kernel_rfl
theorem row7 : rowAt 7 = some (zeroAt 7, 423) := by kernel_rfl
theorem globals8 : Tryz.prog.globals.size = 8 := by kernel_rfl

theorem or_tab {W : World} (hsh : W.ShapedOpen Tryz.prog) {name : String} {k : IntKind} {zs : List Int} {g : Nat} {t : TypeId} (hlt : g < 8) (hr : rowAt g = some (zeroAt g, t)) (hg : Tryz.prog.globalNamed name = some g) (hv : W.var? Tryz.prog name = some (zs.map fun z => Value.int k z).toArray) (μ : Mu) :
    OR μ ⟨g, 0, (zs.map fun z => Value.int k z).length⟩ W (.cells (T.ofList (zs.map fun z => Value.int k z)) (zs.map fun z => Value.int k z).length .stale ⟨none, t⟩) := by
  obtain ⟨el, fz, hb⟩ := heap_of hg hv
  obtain ⟨cs, hb2, _⟩ := hsh.1 g (zeroAt g) t (by rw [globals8]; exact hlt) hr
  rw [hb] at hb2
  cases hb2
  refine OR_of_table ?_ hb (by simp) (fun i v hi => by simpa using hi)
  generalize zs = l
  induction l with
  | nil => rfl
  | cons z zs ih => simp only [List.map_cons, flatL, flat]; exact ih

def rooms (g : Nat) : Nat := match g with | 5 => 20 | 6 => 32 | 7 => 64 | _ => 0

theorem tables {W : World} (hsh : W.ShapedOpen Tryz.prog) (h : laidMetH Tryz.prog Rows.scriptOptionsRow.laid W) : ∀ g, g < 8 → ∀ μ, OR μ ⟨g, 0, rooms g⟩ W (h0.obj g) := by
  rw [MakeChecks.laidMetH_plain _ _ _ (by kernel_rfl)] at h
  have v5 := tab_of (zs := zs5) h (k := .u64) (name := "internal/strconv.uint64pow10") (by simp only [Rows.scriptOptionsRow]; exact .tail _ (.tail _ (.head _))) (g := 5) (t := 334) (e := 278) (n := 20) (by kernel_rfl) (by kernel_rfl) (by kernel_rfl) (by kernel_rfl) (by kernel_rfl) (by kernel_rfl)
  have v6 := tab_of (zs := zs6) h (k := .u8) (name := "math/bits.deBruijn32tab") (by simp only [Rows.scriptOptionsRow]; exact .head _) (g := 6) (t := 422) (e := 5) (n := 32) (by kernel_rfl) (by kernel_rfl) (by kernel_rfl) (by kernel_rfl) (by kernel_rfl) (by kernel_rfl)
  have v7 := tab_of (zs := zs7) h (k := .u8) (name := "math/bits.deBruijn64tab") (by simp only [Rows.scriptOptionsRow]; exact .tail _ (.head _)) (g := 7) (t := 423) (e := 5) (n := 64) (by kernel_rfl) (by kernel_rfl) (by kernel_rfl) (by kernel_rfl) (by kernel_rfl) (by kernel_rfl)
  intro g hg μ
  match g, hg with
  | 0, _ => exact trivial
  | 1, _ => exact trivial
  | 2, _ => exact trivial
  | 3, _ => exact trivial
  | 4, _ => exact trivial
  | 5, _ => exact or_tab hsh (by decide) row5 (by kernel_rfl) v5 μ
  | 6, _ => exact or_tab hsh (by decide) row6 (by kernel_rfl) v6 μ
  | 7, _ => exact or_tab hsh (by decide) row7 (by kernel_rfl) v7 μ

/-! ### the call -/
theorem law_calls {W : World} (hsh : W.ShapedOpen Tryz.prog) (h : laidMetH Tryz.prog Rows.scriptOptionsRow.laid W) (n : Int) (h1 : -9223372036854775808 ≤ n) (h2 : n ≤ 9223372036854775807) :
    Calls Tryz.prog 3 #[.int .i64 n] W fun e w' => e = .returned (.bool true) ∧ Same W w' := by
  obtain ⟨h', e⟩ := law n h1 h2
  obtain ⟨n0, e2⟩ := (fcallN_ok (plans_of plans_all) 101).ret _ _ _ _ _ _ _ e
  exact calls_of (E := En o2) (envOf_sound pf orc2 n0) rfl rfl (e2 n0 (Nat.le_refl _)) ro0 rooms (tables hsh h)

set_option maxRecDepth 100000 in
theorem contract (H : Type) (enc : TypeId × Value → H) (W : World) (base : Nat) (args : Array Value) (ds gs : List (DataW H)) (before : List MemPlace)
    (hval : ∀ (j : Nat) t v, Tryz.f3.params[j]? = some t → args[j]? = some v → Value.okWide Tryz.prog W .any base t v)
    (hW : DataW.Whole enc Tryz.prog Tryz.f3.params.toList Rows.scriptOptionsSpec.vars false W args.toList ds gs before) (hL : laidMetH Tryz.prog Rows.scriptOptionsRow.laid W) (hsh : W.ShapedOpen Tryz.prog) :
    Calls Tryz.prog 3 args W fun e W' => ∃ v, e = .returned v ∧ Rows.scriptOptionsSpec.post enc Tryz.prog Tryz.f3 false true false false W args v W' := by
  have hW' := hW
  obtain ⟨p, q, hA0, hV, rfl, hfz, hnd⟩ := hW
  have hA : DataW.TrodAll enc Tryz.prog W 0 (fun _ => true) true Tryz.f3.params.toList args.toList ds p := hA0
  rw [Tryz.params3] at hA hval
  obtain ⟨v0, vs0, d0, ds0, p0, q0, hargs, rfl, rfl, h0, r0⟩ := trodAll_cons hA
  obtain ⟨rfl, rfl, rfl⟩ := trodAll_nil r0
  obtain rfl : args = #[v0] := by cases args; simp_all
  obtain ⟨rfl, rfl⟩ := trodVars_none hV
  obtain ⟨n, rfl, rfl, rfl, hwf⟩ := open_int Tryz.underlying3 (hval 0 3 v0 rfl rfl) h0
  clear hA0
  simp only [List.append_nil] at hW'
  have hb : -9223372036854775808 ≤ n ∧ n ≤ 9223372036854775807 := by
    simp only [Lit.wf, Bool.and_eq_true, decide_eq_true_eq] at hwf
    have e1 : IntKind.i64.min = -9223372036854775808 := by kernel_rfl
    have e2 : IntKind.i64.max = 9223372036854775807 := by kernel_rfl
    rw [e1, e2] at hwf
    exact hwf
  refine (law_calls hsh hL n hb.1 hb.2).mono fun e W' ⟨he, hs⟩ => ?_
  subst he
  refine ⟨_, rfl, _, _, [], [], [], [], hW', ?_, ?_, ?_, hs.kept _, fun h => by cases h⟩
  · exact trodAll_cons_mk (shut_bool Tryz.underlying4 _) trodAll_mk0
  · exact trodAll_cons_mk (shut_int Tryz.underlying3 hwf) trodAll_mk0
  · exact rfl

/-! ### a start that meets the row's conditions -/
noncomputable def laidWorld (os : Os) : World := World.laidAll Tryz.prog os Rows.scriptOptionsRow.laid
theorem laid_met (os : Os) : laidMet Tryz.prog Rows.scriptOptionsRow.laid ((laidWorld os).forCall (fun _ _ => 0) ⟨#[], #[.int .i64 0], []⟩).memory :=
  laidMet_laidAll _ (by kernel_rfl) (by kernel_rfl)
theorem reads (os : Os) {H : Type} (enc : TypeId × Value → H) : ∃ places, DataW.whole enc Tryz.prog ((laidWorld os).forCall (fun _ _ => 0) ⟨#[], #[.int .i64 0], []⟩).memory Tryz.f3.params.toList Rows.scriptOptionsSpec.vars false #[Value.int .i64 0].toList 8 = some ([.lit (.int .i64 0)], [], places) :=
  ⟨[], by kernel_rfl⟩
end Go.Proofs.YtkdjecbkgmkngaaGreatDoor
