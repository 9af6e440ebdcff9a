/-
  A script's run.
-/
import Derived.Test.YtkdjecbkgmkngaaGreatDoorFind
set_option linter.unusedSectionVars false
set_option linter.unusedSimpArgs false
set_option linter.unusedVariables false
open Go Go.AX
namespace Go.Proofs.SO
def a1S : ByteArray := ⟨#[99, 111, 109, 112, 105, 108, 101, 32, 105, 32, 39, 40, 63, 60, 110, 62, 97, 41, 124, 98, 39, 10, 109, 97, 116, 99, 104, 32, 45, 32, 48, 32, 39, 120, 65, 39, 10, 97, 108, 108, 32, 45, 32, 39, 97, 98, 39, 10, 114, 101, 112, 108, 97, 99, 101, 32, 45, 32, 39, 60, 36, 48, 62, 39, 32, 39, 99, 97, 98, 39, 10]⟩
def a1T : ByteArray := ⟨#[111, 107, 32, 49, 32, 39, 110, 39, 58, 49, 10, 109, 97, 116, 99, 104, 32, 49, 45, 50, 32, 49, 45, 50, 10, 97, 108, 108, 32, 50, 10, 109, 97, 116, 99, 104, 32, 48, 45, 49, 32, 48, 45, 49, 10, 109, 97, 116, 99, 104, 32, 49, 45, 50, 32, 45, 10, 50, 32, 39, 99, 60, 97, 62, 60, 98, 62, 39, 10]⟩
theorem a1_run : okC (fcallN (En o1) pts 100000 5 [.string a1S] .run h0) (.tuple #[.string a1T, .int .i64 0, .int .i64 0]) = true := by kernel_rfl
theorem a1_ran : (told a1S a1T 0 0).Ran (En o1) h0 := ranE rfl rfl a1_run
end Go.Proofs.SO
