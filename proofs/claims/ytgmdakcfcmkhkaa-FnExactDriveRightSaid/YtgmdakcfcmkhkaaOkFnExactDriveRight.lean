/- Of the law FnExactDriveRight: what is known of what comes in, and the plain statement. No statement is proved here. -/
import Derived.Test.YtgmdakcfcmkhkaaPFnExactDriveRightx5
import Derived.Test.YtgmdakcfcmkhkaaOpen
namespace Go.Proofs.Ytgmdakcfcmkhkaa.PFnExactDriveRight
open Go.RowKit Go.Proofs.YtgmdakcfcmkhkaaW.PrintWords Go.Proofs.Ytgmdakcfcmkhkaa.Opening
set_option linter.unusedVariables false
def ok121 (y : S121) : Prop := y.f0.size ≤ 9223372036854775807 ∧ y.f1.size ≤ 9223372036854775807 ∧ (Lit.int .i64 y.f2).wf = true
theorem opens121 : Opens Try.prog k121 121 ok121 := opens_iso (fun x => ⟨x.1, x.2.1, x.2.2⟩) (fun _ => rfl) (opens_struct Try.underlying121 (by kernel_rfl) (opens_cons rfl (opens_string Try.underlying9 (by kernel_rfl)) (opens_cons rfl (opens_string Try.underlying9 (by kernel_rfl)) (opens_last rfl (opens_int Try.underlying2 (by kernel_rfl))))))
set_option maxRecDepth 100000 in
theorem opensp60 : Opens Try.prog (Kd.pair (Kd.slice 121 k121) (Kd.int .i64)) 60 (okp (fun x => (x.length ≤ 9223372036854775807 ∧ ∀ y ∈ x, ok121 y)) (fun x => (Lit.int .i64 x).wf = true)) := opens_struct Try.underlying60 (by kernel_rfl) (opens_cons rfl (opens_slice Try.underlying58 (by kernel_rfl) opens121) (opens_last rfl (opens_int Try.underlying2 (by kernel_rfl))))
/-- THE PLAIN STATEMENT of FnExactDriveRight. -/
def FnExactDriveRight_Pure : Prop := ∀ (l0_0 : List (S121)) (a0_1 : Int), l0_0.length ≤ 9223372036854775807 → (∀ x ∈ l0_0, ok121 x) → (Lit.int .i64 a0_1).wf = true → ∃ k : Nat, laws_FnExactDriveRight.f k l0_0 a0_1 = some true
end Go.Proofs.Ytgmdakcfcmkhkaa.PFnExactDriveRight
