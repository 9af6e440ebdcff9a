/-
  Scripts' runs.
-/
import Derived.Test.YtkdjecbkgmkngaaGreatDoorFind
set_option linter.unusedSectionVars false
set_option linter.unusedSimpArgs false
set_option linter.unusedVariables false
open Go Go.AX
namespace Go.Proofs.SO
def a2S : ByteArray := ⟨#[99, 111, 109, 112, 105, 108, 101, 32, 45, 32, 39, 97, 40, 39, 10, 109, 97, 116, 99, 104, 32, 45, 32, 48, 32, 39, 97, 39, 10]⟩
def a2T : ByteArray := ⟨#[101, 114, 114, 111, 114, 32, 50, 48, 32, 50, 10]⟩
theorem a2_run : okC (fcallN (En o1) pts 100000 5 [.string a2S] .run h0) (.tuple #[.string a2T, .int .i64 60, .int .i64 2]) = true := by kernel_rfl
theorem a2_ran : (told a2S a2T 60 2).Ran (En o1) h0 := ranE rfl rfl a2_run
def s0S : ByteArray := ⟨#[99, 111, 109, 112, 105, 108, 101, 32, 45, 32, 39, 65, 39, 10, 109, 97, 116, 99, 104, 32, 45, 32, 48, 32, 39, 97, 39, 10]⟩
def s0T : ByteArray := ⟨#[111, 107, 32, 48, 10, 110, 111, 10]⟩
theorem s0_run : okC (fcallN (En o1) pts 100000 5 [.string s0S] .run h0) (.tuple #[.string s0T, .int .i64 0, .int .i64 0]) = true := by kernel_rfl
theorem s0_ran : (told s0S s0T 0 0).Ran (En o1) h0 := ranE rfl rfl s0_run
def s1S : ByteArray := ⟨#[99, 111, 109, 112, 105, 108, 101, 32, 105, 32, 39, 65, 39, 10, 109, 97, 116, 99, 104, 32, 45, 32, 48, 32, 39, 97, 39, 10]⟩
def s1T : ByteArray := ⟨#[111, 107, 32, 48, 10, 109, 97, 116, 99, 104, 32, 48, 45, 49, 10]⟩
theorem s1_run : okC (fcallN (En o1) pts 100000 5 [.string s1S] .run h0) (.tuple #[.string s1T, .int .i64 0, .int .i64 0]) = true := by kernel_rfl
theorem s1_ran : (told s1S s1T 0 0).Ran (En o1) h0 := ranE rfl rfl s1_run
def s2S : ByteArray := ⟨#[99, 111, 109, 112, 105, 108, 101, 32, 109, 32, 39, 94, 98, 39, 10, 109, 97, 116, 99, 104, 32, 45, 32, 48, 32, 39, 97, 92, 120, 48, 97, 98, 39, 10]⟩
def s2T : ByteArray := ⟨#[111, 107, 32, 48, 10, 109, 97, 116, 99, 104, 32, 50, 45, 51, 10]⟩
theorem s2_run : okC (fcallN (En o1) pts 100000 5 [.string s2S] .run h0) (.tuple #[.string s2T, .int .i64 0, .int .i64 0]) = true := by kernel_rfl
theorem s2_ran : (told s2S s2T 0 0).Ran (En o1) h0 := ranE rfl rfl s2_run
def s3S : ByteArray := ⟨#[99, 111, 109, 112, 105, 108, 101, 32, 115, 32, 39, 97, 46, 98, 39, 10, 109, 97, 116, 99, 104, 32, 45, 32, 48, 32, 39, 97, 92, 120, 48, 97, 98, 39, 10]⟩
def s3T : ByteArray := ⟨#[111, 107, 32, 48, 10, 109, 97, 116, 99, 104, 32, 48, 45, 51, 10]⟩
theorem s3_run : okC (fcallN (En o1) pts 100000 5 [.string s3S] .run h0) (.tuple #[.string s3T, .int .i64 0, .int .i64 0]) = true := by kernel_rfl
theorem s3_ran : (told s3S s3T 0 0).Ran (En o1) h0 := ranE rfl rfl s3_run
end Go.Proofs.SO
