/- Of the law FnExactFilesRight: what is known of what comes in, and the plain statement. No statement is proved here. -/
import Derived.Test.YtfffdndeccipnaaDoorPFnExactFilesRightx6
import Derived.Test.YtfffdndeccipnaaDoorVOpenFnExactFilesRight
namespace Go.Proofs.YtfffdndeccipnaaDoor.PFnExactFilesRight
open Go.RowKit Go.Proofs.YtfffdndeccipnaaDoorW.PrintWords Go.Proofs.YtfffdndeccipnaaDoor.Opening
set_option linter.unusedVariables false
def ok88 (y : S88) : Prop := y.f0.size ≤ 9223372036854775807 ∧ y.f1.size ≤ 9223372036854775807
theorem opens88 : Opens Tryd.prog k88 88 ok88 := opens_iso (fun x => ⟨x.1, x.2⟩) (fun _ => rfl) (opens_struct Tryd.underlying88 (by kernel_rfl) (opens_cons rfl (opens_string Tryd.underlying9 (by kernel_rfl)) (opens_last rfl (opens_string Tryd.underlying9 (by kernel_rfl)))))
/-- THE PLAIN STATEMENT of FnExactFilesRight. -/
def FnExactFilesRight_Pure : Prop := ∀ (l0 : List (S88)), l0.length ≤ 9223372036854775807 → (∀ x ∈ l0, ok88 x) → ∃ k : Nat, laws_FnExactFilesRight.f k l0 = some true
end Go.Proofs.YtfffdndeccipnaaDoor.PFnExactFilesRight
