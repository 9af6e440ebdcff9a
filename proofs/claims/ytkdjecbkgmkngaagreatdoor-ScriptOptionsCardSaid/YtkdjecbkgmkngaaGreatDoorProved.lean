/-
  For every integer the law returns true and its argument reads behind the call as it read before; the tables that the row lists are tied to the program's text. No further condition.
-/
import Derived.Test.YtkdjecbkgmkngaaGreatDoorTop
import Derived.Test.YtkdjecbkgmkngaaGreatDoorFacts
import Derived.Test.YtkdjecbkgmkngaaGreatDoorGoes
set_option linter.unusedSectionVars false
set_option linter.unusedSimpArgs false
set_option linter.unusedVariables false
namespace Go.Proofs.YtkdjecbkgmkngaaGreatDoor
open Go Go.AX Go.ChangeShapes Go.WideShapes Go.ChangeAt Go.RowKit Go.Proofs.SO

set_option maxRecDepth 100000 in
theorem lifted (os : Os) (started : os.Started) (H : Type) (enc : TypeId × Value → H) (F : Stop.Interp) :
    ReturnsInHanded {} Tryz.checked os 3 .any ((OpenSpec.ofChange Rows.scriptOptionsSpec).preRow enc Tryz.prog Tryz.f3 Rows.scriptOptionsRow.domain false Rows.scriptOptionsRow.laid) (((OpenSpec.ofChange Rows.scriptOptionsSpec).at F).post enc Tryz.prog Tryz.f3 false true false false) := by
  obtain ⟨places, hx⟩ := reads os enc
  refine returnsInHanded_of_row (C := Tryz.checked) (s := OpenSpec.ofChange Rows.scriptOptionsSpec) own started (by kernel_rfl) Tryz.func3
    (witness_row_atRef (enc := enc) (C := Tryz.checked) false (laidWorld os) #[.int .i64 0] (World.laidAll_os _ _ _) (by kernel_rfl) (by kernel_rfl) (by kernel_rfl)
      (OpenSpec.preRow_of_cond 8 hx (by kernel_rfl) (fun k hk => by cases hk) (by kernel_rfl) (laid_met os))) ?_
  intro W base args ds gs before hval hW _ _ _ hL hsh _
  exact contract H enc W base args ds gs before hval hW hL hsh

theorem named : Tryz.pinned.checked.prog.funcNamed Rows.scriptOptionsRow.func = some 3 := by kernel_rfl
theorem inst : Tryz.f3.isInstance Tryz.pinned.checked.prog Rows.scriptOptionsRow.origin Rows.scriptOptionsRow.targs := of_decide_eq_true (by kernel_rfl)
theorem wrap : Tryz.f3.isWrapper Tryz.pinned.checked.prog Rows.scriptOptionsRow.wrapper Rows.scriptOptionsRow.mainSum := by
  unfold Func.isWrapper
  first | (rw [if_pos (by decide +kernel)]; kernel_rfl) | (rw [if_neg (by decide +kernel)]; exact ⟨rfl, rfl⟩)

theorem said : Rows.ScriptOptionsSaid :=
  OpenClaim.holds_of_cond 3 Tryz.f3 rfl rfl rfl rfl rfl rfl rfl ⟨rfl, rfl, rfl, rfl, rfl⟩ rfl rfl rfl rfl rfl named Tryz.func3 Facts.closed
    inst wrap (fun os started H enc _ F => by rw [OpenClaim.pre_eq_preRow]; exact lifted os started H enc F)

theorem looks_true : true = Tryz.prog.looks [] := by kernel_rfl
theorem wants3 : Tryz.prog.wantsStandIn 3 = false := by kernel_rfl
theorem by_text : Rows.scriptOptionsRow.wfByText (OpenSpec.ofChange Rows.scriptOptionsSpec) = true := by kernel_rfl
theorem main_is : Tryz.pinned.checked.prog.mainIs = some (true, "5d8dd6ef8ea2e7563f46287b71484fbb207e52053a2841f63015e439182cf503".toList) := by kernel_rfl

theorem plain (f : FuncId) (fn : Func) (hf : Tryz.pinned.checked.prog.funcNamed "lurcher/lurcherlaw24.ScriptOptions" = some f) (hfn : Tryz.pinned.checked.prog.funcs[f]? = some fn) :
    true = Tryz.pinned.checked.prog.looks [] ∧ ∀ (j : Nat) t, fn.params[j]? = some t → Tryz.pinned.checked.prog.wantsStandIn t = false := by
  obtain rfl : f = 3 := Option.some.inj (named.symm.trans hf) |>.symm
  obtain rfl : fn = Tryz.f3 := (Option.some.inj (Tryz.func3.symm.trans hfn)).symm
  refine ⟨looks_true, fun j t ht => ?_⟩
  rw [Tryz.params3] at ht
  obtain rfl : t = 3 := by simpa using Array.mem_of_getElem? ht
  exact wants3

/-- For every integer the law lurcherlaw24.ScriptOptions returns true; the card ties the listed tables to the program's text. -/
theorem card : Rows.ScriptOptionsCardSaid :=
  Claim7.holds_tied_plain_at .later [] _ _ _ _ said (fun _ h => by cases h) by_text (fun _ h => by cases h) scriptOptions_row_tie rfl ⟨rfl, rfl⟩ main_is rfl plain goes
end Go.Proofs.YtkdjecbkgmkngaaGreatDoor
