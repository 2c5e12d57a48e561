/- Of the law FnExactPlacesRight: what is known of what comes in, and the plain statement. No statement is proved here. -/
import Derived.Test.YtgmdakcfcmkhkaaPFnExactPlacesRightx6
import Derived.Test.YtgmdakcfcmkhkaaOpen
namespace Go.Proofs.Ytgmdakcfcmkhkaa.PFnExactPlacesRight
open Go.RowKit Go.Proofs.YtgmdakcfcmkhkaaW.PrintWords Go.Proofs.Ytgmdakcfcmkhkaa.Opening
set_option linter.unusedVariables false
def ok103 (y : S103) : Prop := y.f0.size ≤ 9223372036854775807 ∧ y.f1.size ≤ 9223372036854775807 ∧ (Lit.int .i64 y.f2).wf = true ∧ (Lit.int .i64 y.f3).wf = true ∧ (Lit.int .i64 y.f4).wf = true
theorem opens103 : Opens Try.prog k103 103 ok103 := opens_iso (fun x => ⟨x.1, x.2.1, x.2.2.1, x.2.2.2.1, x.2.2.2.2⟩) (fun _ => rfl) (opens_struct Try.underlying103 (by kernel_rfl) (opens_cons rfl (opens_string Try.underlying9 (by kernel_rfl)) (opens_cons rfl (opens_string Try.underlying9 (by kernel_rfl)) (opens_cons rfl (opens_int Try.underlying2 (by kernel_rfl)) (opens_cons rfl (opens_int Try.underlying2 (by kernel_rfl)) (opens_last rfl (opens_int Try.underlying2 (by kernel_rfl))))))))
/-- THE PLAIN STATEMENT of FnExactPlacesRight. -/
def FnExactPlacesRight_Pure : Prop := ∀ (l0 : List (S103)), l0.length ≤ 9223372036854775807 → (∀ x ∈ l0, ok103 x) → ∃ k : Nat, laws_FnExactPlacesRight.f k l0 = some true
end Go.Proofs.Ytgmdakcfcmkhkaa.PFnExactPlacesRight
