/-
  The law's code comes to true for every integer, over the evaluator.
-/
import Derived.Test.YtkdjecbkgmkngaaGreatDoorRunA
import Derived.Test.YtkdjecbkgmkngaaGreatDoorRunB
import Derived.Test.YtkdjecbkgmkngaaGreatDoorRunC
import Derived.Test.YtkdjecbkgmkngaaGreatDoorRunD
import Derived.Test.YtkdjecbkgmkngaaGreatDoorRunE
import Derived.Test.YtkdjecbkgmkngaaGreatDoorAxE
import Derived.IntWalk
set_option linter.unusedSectionVars false
set_option linter.unusedSimpArgs false
set_option linter.unusedVariables false
open Go Go.AX
namespace Go.Proofs.SO
def ks2 : List Known := [told a1S a1T 0 0, told a2S a2T 60 2, told s0S s0T 0 0, told s1S s1T 0 0, told s2S s2T 0 0, told s3S s3T 0 0, told s4S s4T 0 0, told s5S s5T 0 0, told s6S s6T 0 0, told s7S s7T 0 0, told s8S s8T 0 0, told s9S s9T 0 0, told s10S s10T 0 0, told s11S s11T 0 0, told s12S s12T 0 0, told s13S s13T 0 0, told s14S s14T 0 0, told s15S s15T 0 0]
theorem ks2_ran : ∀ k ∈ ks2, k.Ran (En o1) h0 := by
  intro k hk
  simp only [ks2, List.mem_cons, List.mem_nil_iff, or_false] at hk
  rcases hk with rfl | rfl | rfl | rfl | rfl | rfl | rfl | rfl | rfl | rfl | rfl | rfl | rfl | rfl | rfl | rfl | rfl | rfl
  · exact a1_ran
  · exact a2_ran
  · exact s0_ran
  · exact s1_ran
  · exact s2_ran
  · exact s3_ran
  · exact s4_ran
  · exact s5_ran
  · exact s6_ran
  · exact s7_ran
  · exact s8_ran
  · exact s9_ran
  · exact s10_ran
  · exact s11_ran
  · exact s12_ran
  · exact s13_ran
  · exact s14_ran
  · exact s15_ran
noncomputable def o2 : Orc := knownOrc h0 [5, 6, 7] ks2
theorem orc2 : OrcOk (En o2) := orcE orc1 ks2_ran
end Go.Proofs.SO

open Go Go.AX
namespace Go.Proofs.SO
noncomputable section
def fn3 : Func := match P.funcs.toList with | _ :: _ :: _ :: f :: _ => f | _ => default
def c3 : Code := match fn3.body with | some c => c | none => .skip
def sL : Code → Code | .seq a _ => a | c => c
def sR : Code → Code | .seq _ b => b | c => c
def cT : Code → Code | .cond _ a _ => a | c => c
def cE : Code → Code | .cond _ _ b => b | c => c
abbrev E2 : Env := En o2
def cf2 : CF := fcallN E2 pts 100
def go (r : FR) (c : Code) : FR := bindR E2 (planTab pts 3) cf2 100 r c
def x1 : Code := sR c3
def x2 : Code := sR x1
def x3 : Code := sR x2
def x4 : Code := sR x3
def x5 : Code := sR x4
def x6 : Code := sR x5
def x7 : Code := sR x6
theorem e0 : c3 = .seq (sL c3) x1 := by kernel_rfl
theorem e1 : x1 = .seq (sL x1) x2 := by kernel_rfl
theorem e2 : x2 = .seq (sL x2) x3 := by kernel_rfl
theorem e3 : x3 = .seq (.seq (sL (sL x3)) (.cond (.tmp 14) (cT (sR (sL x3))) (cE (sR (sL x3))))) x4 := by kernel_rfl
theorem e4 : x4 = .seq (sL x4) x5 := by kernel_rfl
theorem e5 : x5 = .seq (sL x5) x6 := by kernel_rfl
theorem e6 : x6 = .seq (sL x6) x7 := by kernel_rfl
/-- up to the test of the sign -/
def r3 (w : Int) : FR := go (go (go (go (startR (T.ofList [.int .i64 w]) h0) (sL c3)) (sL x1)) (sL x2)) (sL (sL x3))
theorem r3_ok (w : Int) : isN (r3 w) = true := by kernel_rfl
theorem r3_test (w : Int) : evT (nT (r3 w)) (.tmp 14) = .bool (decide (w < 0)) := by kernel_rfl
/-- behind it, up to the remainder -/
def r5 (b : Bool) (w : Int) : FR := go (go (go (r3 w) (if b then cT (sR (sL x3)) else cE (sR (sL x3)))) (sL x4)) (sL x5)
theorem r5_ok (b : Bool) (w : Int) : isN (r5 b w) = true := by cases b <;> kernel_rfl
def pos (b : Bool) (w : Int) : Int := match b with | true => IntKind.i64.wrap (0 - IntKind.i64.wrap (w + 1)) | false => w
def g6 (t : T Value) (m : Int) : T Value := ((((t.put 20 (evT t (.tmp 0))).put 21 (evT t (.tmp 4))).put 22 (.int .i64 16)).put 23 (.int .i64 m)).put 6 (.int .i64 m)
theorem r6_eq (b : Bool) (w : Int) : go (r5 b w) (sL x6) = .norm (g6 (nT (r5 b w)) ((pos b w).tmod 16)) [] .run (nH (r5 b w)) := by cases b <;> kernel_rfl

theorem fin0 (b : Bool) (w : Int) : retsV E2 fn3 (.bool true) (go (.norm (g6 (nT (r5 b w)) 0) [] .run (nH (r5 b w))) x7) = true := by cases b <;> kernel_rfl
theorem fin1 (b : Bool) (w : Int) : retsV E2 fn3 (.bool true) (go (.norm (g6 (nT (r5 b w)) 1) [] .run (nH (r5 b w))) x7) = true := by cases b <;> kernel_rfl
theorem fin2 (b : Bool) (w : Int) : retsV E2 fn3 (.bool true) (go (.norm (g6 (nT (r5 b w)) 2) [] .run (nH (r5 b w))) x7) = true := by cases b <;> kernel_rfl
theorem fin3 (b : Bool) (w : Int) : retsV E2 fn3 (.bool true) (go (.norm (g6 (nT (r5 b w)) 3) [] .run (nH (r5 b w))) x7) = true := by cases b <;> kernel_rfl
theorem fin4 (b : Bool) (w : Int) : retsV E2 fn3 (.bool true) (go (.norm (g6 (nT (r5 b w)) 4) [] .run (nH (r5 b w))) x7) = true := by cases b <;> kernel_rfl
theorem fin5 (b : Bool) (w : Int) : retsV E2 fn3 (.bool true) (go (.norm (g6 (nT (r5 b w)) 5) [] .run (nH (r5 b w))) x7) = true := by cases b <;> kernel_rfl
theorem fin6 (b : Bool) (w : Int) : retsV E2 fn3 (.bool true) (go (.norm (g6 (nT (r5 b w)) 6) [] .run (nH (r5 b w))) x7) = true := by cases b <;> kernel_rfl
theorem fin7 (b : Bool) (w : Int) : retsV E2 fn3 (.bool true) (go (.norm (g6 (nT (r5 b w)) 7) [] .run (nH (r5 b w))) x7) = true := by cases b <;> kernel_rfl
theorem fin8 (b : Bool) (w : Int) : retsV E2 fn3 (.bool true) (go (.norm (g6 (nT (r5 b w)) 8) [] .run (nH (r5 b w))) x7) = true := by cases b <;> kernel_rfl
theorem fin9 (b : Bool) (w : Int) : retsV E2 fn3 (.bool true) (go (.norm (g6 (nT (r5 b w)) 9) [] .run (nH (r5 b w))) x7) = true := by cases b <;> kernel_rfl
theorem fin10 (b : Bool) (w : Int) : retsV E2 fn3 (.bool true) (go (.norm (g6 (nT (r5 b w)) 10) [] .run (nH (r5 b w))) x7) = true := by cases b <;> kernel_rfl
theorem fin11 (b : Bool) (w : Int) : retsV E2 fn3 (.bool true) (go (.norm (g6 (nT (r5 b w)) 11) [] .run (nH (r5 b w))) x7) = true := by cases b <;> kernel_rfl
theorem fin12 (b : Bool) (w : Int) : retsV E2 fn3 (.bool true) (go (.norm (g6 (nT (r5 b w)) 12) [] .run (nH (r5 b w))) x7) = true := by cases b <;> kernel_rfl
theorem fin13 (b : Bool) (w : Int) : retsV E2 fn3 (.bool true) (go (.norm (g6 (nT (r5 b w)) 13) [] .run (nH (r5 b w))) x7) = true := by cases b <;> kernel_rfl
theorem fin14 (b : Bool) (w : Int) : retsV E2 fn3 (.bool true) (go (.norm (g6 (nT (r5 b w)) 14) [] .run (nH (r5 b w))) x7) = true := by cases b <;> kernel_rfl
theorem fin15 (b : Bool) (w : Int) : retsV E2 fn3 (.bool true) (go (.norm (g6 (nT (r5 b w)) 15) [] .run (nH (r5 b w))) x7) = true := by cases b <;> kernel_rfl

theorem fin (b : Bool) (w m : Int) (h1 : 0 ≤ m) (h2 : m < 16) : retsV E2 fn3 (.bool true) (go (.norm (g6 (nT (r5 b w)) m) [] .run (nH (r5 b w))) x7) = true := by
  have : m = 0 ∨ m = 1 ∨ m = 2 ∨ m = 3 ∨ m = 4 ∨ m = 5 ∨ m = 6 ∨ m = 7 ∨ m = 8 ∨ m = 9 ∨ m = 10 ∨ m = 11 ∨ m = 12 ∨ m = 13 ∨ m = 14 ∨ m = 15 := by omega
  rcases this with rfl | rfl | rfl | rfl | rfl | rfl | rfl | rfl | rfl | rfl | rfl | rfl | rfl | rfl | rfl | rfl
  · exact fin0 b w
  · exact fin1 b w
  · exact fin2 b w
  · exact fin3 b w
  · exact fin4 b w
  · exact fin5 b w
  · exact fin6 b w
  · exact fin7 b w
  · exact fin8 b w
  · exact fin9 b w
  · exact fin10 b w
  · exact fin11 b w
  · exact fin12 b w
  · exact fin13 b w
  · exact fin14 b w
  · exact fin15 b w

theorem wrap_in {n : Int} (h1 : -9223372036854775808 ≤ n) (h2 : n ≤ 9223372036854775807) : IntKind.i64.wrap n = n := IntWalk.i64_in _ ⟨h1, h2⟩

theorem pos_nonneg {w : Int} (h1 : -9223372036854775808 ≤ w) (h2 : w ≤ 9223372036854775807) : 0 ≤ pos (decide (w < 0)) w := by
  by_cases h : w < 0
  · simp only [h, decide_true, pos]
    have e1 : IntKind.i64.wrap (w + 1) = w + 1 := wrap_in (by omega) (by omega)
    rw [e1, wrap_in (by omega) (by omega)]
    omega
  · simp only [h, decide_false, pos]
    omega

theorem law (w : Int) (h1 : -9223372036854775808 ≤ w) (h2 : w ≤ 9223372036854775807) : ∃ h', fcallN E2 pts 101 3 [.int .i64 w] .run h0 = .ret (.bool true) .run h' := by
  have hfn : E2.fn.get 3 = some fn3 := by kernel_rfl
  have hb : fn3.body = some c3 := by kernel_rfl
  have ho : askO E2 3 ([Value.int .i64 w] : List Value).toArray .run h0 = none := by kernel_rfl
  refine call_of hfn hb ho ?_
  show retsV E2 fn3 (.bool true) (go (startR (T.ofList [.int .i64 w]) h0) c3) = true
  have step : ∀ (r : FR) (a b : Code), go r (.seq a b) = go (go r a) b := fun r a b => bindR_seq _ _ _ _ r a b
  rw [e0, step, e1, step, e2, step, e3, step, step]
  show retsV E2 fn3 (.bool true) (go (go (r3 w) (.cond (.tmp 14) (cT (sR (sL x3))) (cE (sR (sL x3))))) x4) = true
  have hc : go (r3 w) (.cond (.tmp 14) (cT (sR (sL x3))) (cE (sR (sL x3)))) = go (r3 w) (if decide (w < 0) then cT (sR (sL x3)) else cE (sR (sL x3))) := by
    rw [isN_eq (r3_ok w)]
    exact bindR_cond _ _ _ _ _ _ _ _ _ _ _ (by rw [← r3_test w])
  rw [hc, e4, step, e5, step]
  show retsV E2 fn3 (.bool true) (go (r5 (decide (w < 0)) w) x6) = true
  rw [e6, step, r6_eq]
  have hp := pos_nonneg h1 h2
  exact fin _ _ _ (Int.tmod_nonneg _ hp) (Int.tmod_lt_of_pos _ (by omega))
end
end Go.Proofs.SO
