/- Of the law FnExactSnapsRight: what is known of what comes in, and the plain statement. No statement is proved here. -/
import Derived.Test.YtgmdakcfcmkhkaaPFnExactSnapsRightx5
import Derived.Test.YtgmdakcfcmkhkaaOpen
namespace Go.Proofs.Ytgmdakcfcmkhkaa.PFnExactSnapsRight
open Go.RowKit Go.Proofs.YtgmdakcfcmkhkaaW.PrintWords Go.Proofs.Ytgmdakcfcmkhkaa.Opening
set_option linter.unusedVariables false
def ok37 (y : S37) : Prop := y.f0.size ≤ 9223372036854775807 ∧ (Lit.int .i64 y.f1).wf = true ∧ y.f2.size ≤ 9223372036854775807
theorem opens37 : Opens Try.prog k37 37 ok37 := opens_iso (fun x => ⟨x.1, x.2.1, x.2.2⟩) (fun _ => rfl) (opens_struct Try.underlying37 (by kernel_rfl) (opens_cons rfl (opens_string Try.underlying9 (by kernel_rfl)) (opens_cons rfl (opens_int Try.underlying2 (by kernel_rfl)) (opens_last rfl (opens_string Try.underlying9 (by kernel_rfl))))))
/-- THE PLAIN STATEMENT of FnExactSnapsRight. -/
def FnExactSnapsRight_Pure : Prop := ∀ (l0 : List (S37)), l0.length ≤ 9223372036854775807 → (∀ x ∈ l0, ok37 x) → ∃ k : Nat, laws_FnExactSnapsRight.f k l0 = some true
end Go.Proofs.Ytgmdakcfcmkhkaa.PFnExactSnapsRight
