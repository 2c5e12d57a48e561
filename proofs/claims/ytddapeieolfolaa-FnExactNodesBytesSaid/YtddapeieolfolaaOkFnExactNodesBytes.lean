/- Of the law FnExactNodesBytes: what is known of what comes in, and the plain statement. No statement is proved here. -/
import Derived.Test.YtddapeieolfolaaPFnExactNodesBytesx8
import Derived.Test.YtddapeieolfolaaVOpenFnExactNodesBytes
namespace Go.Proofs.Ytddapeieolfolaa.PFnExactNodesBytes
open Go.RowKit Go.Proofs.YtddapeieolfolaaW.PrintWords Go.Proofs.Ytddapeieolfolaa.Opening
set_option linter.unusedVariables false
def ok78 (y : S78) : Prop := y.f0.size ≤ 9223372036854775807 ∧ True ∧ (Lit.int .i64 y.f2).wf = true ∧ ((y.f3.length ≤ 9223372036854775807 ∧ ∀ x ∈ y.f3, x.size ≤ 9223372036854775807))
theorem opens78 : Opens Try.prog k78 78 ok78 := opens_iso (fun x => ⟨x.1, x.2.1, x.2.2.1, x.2.2.2⟩) (fun _ => rfl) (opens_struct Try.underlying78 (by kernel_rfl) (opens_cons rfl (opens_string Try.underlying9 (by kernel_rfl)) (opens_cons rfl (opens_bool Try.underlying4 (by kernel_rfl)) (opens_cons rfl (opens_int Try.underlying2 (by kernel_rfl)) (opens_last rfl (opens_slice Try.underlying25 (by kernel_rfl) (opens_string Try.underlying9 (by kernel_rfl))))))))
/-- THE PLAIN STATEMENT of FnExactNodesBytes. -/
def FnExactNodesBytes_Pure : Prop := ∀ (l0 : List (S78)), l0.length ≤ 9223372036854775807 → (∀ x ∈ l0, ok78 x) → ∃ k : Nat, laws_FnExactNodesBytes.f k l0 = some true
end Go.Proofs.Ytddapeieolfolaa.PFnExactNodesBytes
