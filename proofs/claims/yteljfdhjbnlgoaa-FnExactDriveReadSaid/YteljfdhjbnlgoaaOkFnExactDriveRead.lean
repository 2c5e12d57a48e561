/- Of the law FnExactDriveRead: what is known of what comes in, and the plain statement. No statement is proved here. -/
import Derived.Test.YteljfdhjbnlgoaaPFnExactDriveReadx7
import Derived.Test.YteljfdhjbnlgoaaOpen
namespace Go.Proofs.Yteljfdhjbnlgoaa.PFnExactDriveRead
open Go.RowKit Go.Proofs.YteljfdhjbnlgoaaW.PrintWords Go.Proofs.Yteljfdhjbnlgoaa.Opening
set_option linter.unusedVariables false
def ok163 (y : S163) : Prop := y.f0.size ≤ 9223372036854775807 ∧ y.f1.size ≤ 9223372036854775807 ∧ (Lit.int .i64 y.f2).wf = true
theorem opens163 : Opens Try.prog k163 163 ok163 := opens_iso (fun x => ⟨x.1, x.2.1, x.2.2⟩) (fun _ => rfl) (opens_struct Try.underlying163 (by kernel_rfl) (opens_cons rfl (opens_string Try.underlying9 (by kernel_rfl)) (opens_cons rfl (opens_string Try.underlying9 (by kernel_rfl)) (opens_last rfl (opens_int Try.underlying2 (by kernel_rfl))))))
set_option maxRecDepth 100000 in
theorem opensp61 : Opens Try.prog (Kd.pair (Kd.slice 163 k163) (Kd.int .i64)) 61 (okp (fun x => (x.length ≤ 9223372036854775807 ∧ ∀ y ∈ x, ok163 y)) (fun x => (Lit.int .i64 x).wf = true)) := opens_struct Try.underlying61 (by kernel_rfl) (opens_cons rfl (opens_slice Try.underlying59 (by kernel_rfl) opens163) (opens_last rfl (opens_int Try.underlying2 (by kernel_rfl))))
/-- THE PLAIN STATEMENT of FnExactDriveRead. -/
def FnExactDriveRead_Pure : Prop := ∀ (l0_0 : List (S163)) (a0_1 : Int) (a1 : ByteArray), l0_0.length ≤ 9223372036854775807 → (∀ x ∈ l0_0, ok163 x) → (Lit.int .i64 a0_1).wf = true → a1.size ≤ 140737488351232 → ∃ k : Nat, laws_FnExactDriveRead.f k l0_0 a0_1 a1 = some true
end Go.Proofs.Yteljfdhjbnlgoaa.PFnExactDriveRead
