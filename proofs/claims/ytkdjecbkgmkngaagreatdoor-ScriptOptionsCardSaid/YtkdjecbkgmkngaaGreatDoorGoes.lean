/-
  No function of the program starts a goroutine.
-/
import Derived.Test.YtkdjecbkgmkngaaGreatDoorRows
import GoSem.ClaimSeven
import Derived.KernelRfl
set_option linter.unusedSectionVars false
set_option linter.unusedSimpArgs false
set_option linter.unusedVariables false
namespace Go.Proofs.YtkdjecbkgmkngaaGreatDoor
open Go
theorem nogo : Tryz.prog.funcs.toList.any Func.goes = false := by kernel_rfl
theorem nogo_at (g : FuncId) : (Tryz.prog.funcs[g]?).any Func.goes = false := by
  cases h : Tryz.prog.funcs[g]? with
  | none => rfl
  | some fn =>
    have := List.any_eq_false.1 nogo fn (by simpa using Array.mem_of_getElem? h)
    simpa using this
theorem nogoes (f : FuncId) : Tryz.prog.goes f = false := by
  unfold Program.goes
  have h1 : ((Tryz.prog.closure f).any fun g => (Tryz.prog.funcs[g]?).any Func.goes) = false := by
    simp only [List.any_eq_false, nogo_at]
    simp
  have h2 : Tryz.prog.funcs.any Func.goes = false := by rw [← Array.any_toList]; exact nogo
  rw [h1, h2]; simp
theorem goesBy_false (c : OpenClaim) (hs : c.start = .entering) : c.goesBy Tryz.prog = false := by
  unfold OpenClaim.goesBy Program.goesAt Program.goesFrom
  rw [hs]
  cases Tryz.prog.funcNamed c.func with
  | none => rfl
  | some f => simp only [Option.any_some, nogoes, Bool.or_false]
theorem goes : false = Rows.scriptOptionsRow.goesBy Tryz.pinned.checked.prog := (goesBy_false _ rfl).symm
end Go.Proofs.YtkdjecbkgmkngaaGreatDoor
