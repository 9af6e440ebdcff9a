/-
  Scripts' runs.
-/
import Derived.Test.YtkdjecbkgmkngaaGreatDoorFind
set_option linter.unusedSectionVars false
set_option linter.unusedSimpArgs false
set_option linter.unusedVariables false
open Go Go.AX
namespace Go.Proofs.SO
def s4S : ByteArray := ⟨#[99, 111, 109, 112, 105, 108, 101, 32, 120, 32, 39, 97, 92, 120, 50, 48, 98, 39, 10, 109, 97, 116, 99, 104, 32, 45, 32, 48, 32, 39, 97, 98, 39, 10]⟩
def s4T : ByteArray := ⟨#[111, 107, 32, 48, 10, 109, 97, 116, 99, 104, 32, 48, 45, 50, 10]⟩
theorem s4_run : okC (fcallN (En o1) pts 100000 5 [.string s4S] .run h0) (.tuple #[.string s4T, .int .i64 0, .int .i64 0]) = true := by kernel_rfl
theorem s4_ran : (told s4S s4T 0 0).Ran (En o1) h0 := ranE rfl rfl s4_run
def s5S : ByteArray := ⟨#[99, 111, 109, 112, 105, 108, 101, 32, 103, 32, 39, 97, 42, 39, 10, 109, 97, 116, 99, 104, 32, 45, 32, 48, 32, 39, 97, 97, 39, 10]⟩
def s5T : ByteArray := ⟨#[111, 107, 32, 48, 10, 109, 97, 116, 99, 104, 32, 48, 45, 48, 10]⟩
theorem s5_run : okC (fcallN (En o1) pts 100000 5 [.string s5S] .run h0) (.tuple #[.string s5T, .int .i64 0, .int .i64 0]) = true := by kernel_rfl
theorem s5_ran : (told s5S s5T 0 0).Ran (En o1) h0 := ranE rfl rfl s5_run
def s6S : ByteArray := ⟨#[99, 111, 109, 112, 105, 108, 101, 32, 117, 32, 39, 46, 39, 10, 109, 97, 116, 99, 104, 32, 45, 32, 48, 32, 39, 92, 120, 99, 51, 92, 120, 97, 57, 39, 10]⟩
def s6T : ByteArray := ⟨#[111, 107, 32, 48, 10, 109, 97, 116, 99, 104, 32, 48, 45, 50, 10]⟩
theorem s6_run : okC (fcallN (En o1) pts 100000 5 [.string s6S] .run h0) (.tuple #[.string s6T, .int .i64 0, .int .i64 0]) = true := by kernel_rfl
theorem s6_ran : (told s6S s6T 0 0).Ran (En o1) h0 := ranE rfl rfl s6_run
def s7S : ByteArray := ⟨#[99, 111, 109, 112, 105, 108, 101, 32, 97, 32, 39, 98, 39, 10, 109, 97, 116, 99, 104, 32, 45, 32, 48, 32, 39, 97, 98, 39, 10]⟩
def s7T : ByteArray := ⟨#[111, 107, 32, 48, 10, 110, 111, 10]⟩
theorem s7_run : okC (fcallN (En o1) pts 100000 5 [.string s7S] .run h0) (.tuple #[.string s7T, .int .i64 0, .int .i64 0]) = true := by kernel_rfl
theorem s7_ran : (told s7S s7T 0 0).Ran (En o1) h0 := ranE rfl rfl s7_run
def s8S : ByteArray := ⟨#[99, 111, 109, 112, 105, 108, 101, 32, 45, 32, 39, 97, 39, 10, 109, 97, 116, 99, 104, 32, 101, 32, 48, 32, 39, 97, 98, 39, 10]⟩
def s8T : ByteArray := ⟨#[111, 107, 32, 48, 10, 110, 111, 10]⟩
theorem s8_run : okC (fcallN (En o1) pts 100000 5 [.string s8S] .run h0) (.tuple #[.string s8T, .int .i64 0, .int .i64 0]) = true := by kernel_rfl
theorem s8_ran : (told s8S s8T 0 0).Ran (En o1) h0 := ranE rfl rfl s8_run
def s9S : ByteArray := ⟨#[99, 111, 109, 112, 105, 108, 101, 32, 45, 32, 39, 94, 97, 39, 10, 109, 97, 116, 99, 104, 32, 98, 32, 48, 32, 39, 97, 39, 10]⟩
def s9T : ByteArray := ⟨#[111, 107, 32, 48, 10, 110, 111, 10]⟩
theorem s9_run : okC (fcallN (En o1) pts 100000 5 [.string s9S] .run h0) (.tuple #[.string s9T, .int .i64 0, .int .i64 0]) = true := by kernel_rfl
theorem s9_ran : (told s9S s9T 0 0).Ran (En o1) h0 := ranE rfl rfl s9_run
end Go.Proofs.SO
