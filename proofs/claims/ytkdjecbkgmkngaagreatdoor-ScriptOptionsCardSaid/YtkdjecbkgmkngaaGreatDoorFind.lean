/-
  Two rows of the character table, as the program finds them.
-/
import Derived.Test.YtkdjecbkgmkngaaGreatDoorEnv
import Derived.Test.YtkdjecbkgmkngaaGreatDoorAxE
set_option linter.unusedSectionVars false
set_option linter.unusedSimpArgs false
set_option linter.unusedVariables false
open Go Go.AX
namespace Go.Proofs.SO
theorem plans_all : plansAll (envOf P 8) pts P.funcs.toList 0 = true := plans_ok
abbrev Orc := FuncId → List Value → H → Option (Res × H)
noncomputable def En (o : Orc) : Env := { envOf P 8 with orc := o }
def orc0 : Orc := fun _ _ _ => none
theorem ranE {o : Orc} {n : Nat} {f : FuncId} {args : List Value} {v : Value} (ha : flatL args = true) (hv : flat v = true) (e : okC (fcallN (En o) pts n f args .run h0) v = true) : Known.Ran (En o) h0 ⟨f, args, v⟩ :=
  ran plans_all ha hv e
theorem orcOk0 : OrcOk (En orc0) := fun _ _ _ _ _ e => by cases e
def row65 : Value := .agg #[.int .i64 65, .int .i64 90, .string ⟨#[76, 117]⟩, .string ⟨#[76, 97, 116, 105, 110]⟩, .int .i64 32]
def row97 : Value := .agg #[.int .i64 97, .int .i64 122, .string ⟨#[76, 108]⟩, .string ⟨#[76, 97, 116, 105, 110]⟩, .int .i64 (-32)]
theorem find65 : okC (fcallN (En orc0) pts 100000 397 [.int .i64 65] .run h0) row65 = true := by kernel_rfl
theorem find97 : okC (fcallN (En orc0) pts 100000 397 [.int .i64 97] .run h0) row97 = true := by kernel_rfl
def ks1 : List Known := [⟨397, [.int .i64 65], row65⟩, ⟨397, [.int .i64 97], row97⟩]
noncomputable def o1 : Orc := knownOrc h0 [5, 6, 7] ks1
theorem ro0 : roHeap 8 h0 := by
  refine ⟨fun g hg => ?_, by decide⟩
  have h5 : h0.obj 5 = tab .u64 zs5 334 := rfl
  have h6 : h0.obj 6 = tab .u8 zs6 422 := rfl
  have h7 : h0.obj 7 = tab .u8 zs7 423 := rfl
  match g, hg with
  | 0, _ => exact .inl rfl
  | 1, _ => exact .inl rfl
  | 2, _ => exact .inl rfl
  | 3, _ => exact .inl rfl
  | 4, _ => exact .inl rfl
  | 5, _ => rw [h5]; exact .inr ⟨_, _, _, rfl, rfl⟩
  | 6, _ => rw [h6]; exact .inr ⟨_, _, _, rfl, rfl⟩
  | 7, _ => rw [h7]; exact .inr ⟨_, _, _, rfl, rfl⟩
theorem gs0 : ∀ g, g < 8 → h0.obj g = .dead ∨ g ∈ [5, 6, 7] := by
  intro g hg
  match g, hg with
  | 0, _ => exact .inl rfl
  | 1, _ => exact .inl rfl
  | 2, _ => exact .inl rfl
  | 3, _ => exact .inl rfl
  | 4, _ => exact .inl rfl
  | 5, _ => exact .inr (by simp)
  | 6, _ => exact .inr (by simp)
  | 7, _ => exact .inr (by simp)
theorem orcE {o : Orc} (ho : OrcOk (En o)) {ks : List Known} (hk : ∀ k ∈ ks, k.Ran (En o) h0) : OrcOk (En (knownOrc h0 [5, 6, 7] ks)) := knownOrc_ok pf ho ro0 gs0 hk
theorem orc1 : OrcOk (En o1) := orcE orcOk0 (by
  intro k hk
  simp only [ks1, List.mem_cons, List.mem_nil_iff, or_false] at hk
  rcases hk with rfl | rfl
  · exact ranE rfl rfl find65
  · exact ranE rfl rfl find97)
/-- a script, and what it tells -/
def told (s t : ByteArray) (e n : Int) : Known := ⟨5, [.string s], .tuple #[.string t, .int .i64 e, .int .i64 n]⟩
end Go.Proofs.SO
