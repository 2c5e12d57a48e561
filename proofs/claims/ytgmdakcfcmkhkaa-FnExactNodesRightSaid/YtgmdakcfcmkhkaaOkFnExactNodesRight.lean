/- Of the law FnExactNodesRight: what is known of what comes in, and the plain statement. No statement is proved here. -/
import Derived.Test.YtgmdakcfcmkhkaaPFnExactNodesRightx6
import Derived.Test.YtgmdakcfcmkhkaaOpen
namespace Go.Proofs.Ytgmdakcfcmkhkaa.PFnExactNodesRight
open Go.RowKit Go.Proofs.YtgmdakcfcmkhkaaW.PrintWords Go.Proofs.Ytgmdakcfcmkhkaa.Opening
set_option linter.unusedVariables false
def ok111 (y : S111) : Prop := y.f0.size ≤ 9223372036854775807 ∧ True ∧ (Lit.int .i64 y.f2).wf = true ∧ ((y.f3.length ≤ 9223372036854775807 ∧ ∀ x ∈ y.f3, x.size ≤ 9223372036854775807))
theorem opens111 : Opens Try.prog k111 111 ok111 := opens_iso (fun x => ⟨x.1, x.2.1, x.2.2.1, x.2.2.2⟩) (fun _ => rfl) (opens_struct Try.underlying111 (by kernel_rfl) (opens_cons rfl (opens_string Try.underlying9 (by kernel_rfl)) (opens_cons rfl (opens_bool Try.underlying4 (by kernel_rfl)) (opens_cons rfl (opens_int Try.underlying2 (by kernel_rfl)) (opens_last rfl (opens_slice Try.underlying109 (by kernel_rfl) (opens_string Try.underlying9 (by kernel_rfl))))))))
/-- THE PLAIN STATEMENT of FnExactNodesRight. -/
def FnExactNodesRight_Pure : Prop := ∀ (l0 : List (S111)), l0.length ≤ 9223372036854775807 → (∀ x ∈ l0, ok111 x) → ∃ k : Nat, laws_FnExactNodesRight.f k l0 = some true
end Go.Proofs.Ytgmdakcfcmkhkaa.PFnExactNodesRight
