/-
  Scripts' runs.
-/
import Derived.Test.YtkdjecbkgmkngaaGreatDoorFind
set_option linter.unusedSectionVars false
set_option linter.unusedSimpArgs false
set_option linter.unusedVariables false
open Go Go.AX
namespace Go.Proofs.SO
def s14S : ByteArray := ⟨#[99, 111, 109, 112, 105, 108, 101, 32, 45, 32, 39, 97, 124, 97, 98, 39, 10, 109, 97, 116, 99, 104, 32, 104, 32, 48, 32, 39, 99, 97, 39, 10]⟩
def s14T : ByteArray := ⟨#[111, 107, 32, 48, 10, 109, 97, 116, 99, 104, 32, 49, 45, 50, 10]⟩
theorem s14_run : okC (fcallN (En o1) pts 100000 5 [.string s14S] .run h0) (.tuple #[.string s14T, .int .i64 0, .int .i64 0]) = true := by kernel_rfl
theorem s14_ran : (told s14S s14T 0 0).Ran (En o1) h0 := ranE rfl rfl s14_run
def s15S : ByteArray := ⟨#[99, 111, 109, 112, 105, 108, 101, 32, 111, 113, 32, 39, 97, 42, 98, 39, 10, 109, 97, 116, 99, 104, 32, 111, 113, 32, 48, 32, 39, 97, 97, 98, 39, 10]⟩
def s15T : ByteArray := ⟨#[111, 107, 32, 48, 10, 109, 97, 116, 99, 104, 32, 48, 45, 51, 10]⟩
theorem s15_run : okC (fcallN (En o1) pts 100000 5 [.string s15S] .run h0) (.tuple #[.string s15T, .int .i64 0, .int .i64 0]) = true := by kernel_rfl
theorem s15_ran : (told s15S s15T 0 0).Ran (En o1) h0 := ranE rfl rfl s15_run
end Go.Proofs.SO
