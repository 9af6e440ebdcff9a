/-
  Scripts' runs.
-/
import Derived.Test.YtkdjecbkgmkngaaGreatDoorFind
set_option linter.unusedSectionVars false
set_option linter.unusedSimpArgs false
set_option linter.unusedVariables false
open Go Go.AX
namespace Go.Proofs.SO
def s10S : ByteArray := ⟨#[99, 111, 109, 112, 105, 108, 101, 32, 45, 32, 39, 97, 36, 39, 10, 109, 97, 116, 99, 104, 32, 108, 32, 48, 32, 39, 97, 39, 10]⟩
def s10T : ByteArray := ⟨#[111, 107, 32, 48, 10, 110, 111, 10]⟩
theorem s10_run : okC (fcallN (En o1) pts 100000 5 [.string s10S] .run h0) (.tuple #[.string s10T, .int .i64 0, .int .i64 0]) = true := by kernel_rfl
theorem s10_ran : (told s10S s10T 0 0).Ran (En o1) h0 := ranE rfl rfl s10_run
def s11S : ByteArray := ⟨#[99, 111, 109, 112, 105, 108, 101, 32, 45, 32, 39, 97, 42, 39, 10, 109, 97, 116, 99, 104, 32, 110, 32, 48, 32, 39, 98, 39, 10]⟩
def s11T : ByteArray := ⟨#[111, 107, 32, 48, 10, 110, 111, 10]⟩
theorem s11_run : okC (fcallN (En o1) pts 100000 5 [.string s11S] .run h0) (.tuple #[.string s11T, .int .i64 0, .int .i64 0]) = true := by kernel_rfl
theorem s11_ran : (told s11S s11T 0 0).Ran (En o1) h0 := ranE rfl rfl s11_run
def s12S : ByteArray := ⟨#[99, 111, 109, 112, 105, 108, 101, 32, 45, 32, 39, 97, 42, 39, 10, 109, 97, 116, 99, 104, 32, 116, 32, 48, 32, 39, 98, 39, 10]⟩
def s12T : ByteArray := ⟨#[111, 107, 32, 48, 10, 109, 97, 116, 99, 104, 32, 49, 45, 49, 10]⟩
theorem s12_run : okC (fcallN (En o1) pts 100000 5 [.string s12S] .run h0) (.tuple #[.string s12T, .int .i64 0, .int .i64 0]) = true := by kernel_rfl
theorem s12_ran : (told s12S s12T 0 0).Ran (En o1) h0 := ranE rfl rfl s12_run
def s13S : ByteArray := ⟨#[99, 111, 109, 112, 105, 108, 101, 32, 45, 32, 39, 97, 98, 39, 10, 109, 97, 116, 99, 104, 32, 112, 32, 48, 32, 39, 99, 97, 39, 10]⟩
def s13T : ByteArray := ⟨#[111, 107, 32, 48, 10, 112, 97, 114, 116, 105, 97, 108, 32, 49, 45, 50, 10]⟩
theorem s13_run : okC (fcallN (En o1) pts 100000 5 [.string s13S] .run h0) (.tuple #[.string s13T, .int .i64 0, .int .i64 0]) = true := by kernel_rfl
theorem s13_ran : (told s13S s13T 0 0).Ran (En o1) h0 := ranE rfl rfl s13_run
end Go.Proofs.SO
