/- Of the law FnExactArrayRight: what is known of what comes in, and the plain statement. No statement is proved here. -/
import Derived.Test.YteljfdhjbnlgoaaPFnExactArrayRightx8
import Derived.Test.YteljfdhjbnlgoaaOpen
namespace Go.Proofs.Yteljfdhjbnlgoaa.PFnExactArrayRight
open Go.RowKit Go.Proofs.YteljfdhjbnlgoaaW.PrintWords Go.Proofs.Yteljfdhjbnlgoaa.Opening
set_option linter.unusedVariables false
def ok163 (y : S163) : Prop := y.f0.size ≤ 9223372036854775807 ∧ y.f1.size ≤ 9223372036854775807 ∧ (Lit.int .i64 y.f2).wf = true
theorem opens163 : Opens Try.prog k163 163 ok163 := opens_iso (fun x => ⟨x.1, x.2.1, x.2.2⟩) (fun _ => rfl) (opens_struct Try.underlying163 (by kernel_rfl) (opens_cons rfl (opens_string Try.underlying9 (by kernel_rfl)) (opens_cons rfl (opens_string Try.underlying9 (by kernel_rfl)) (opens_last rfl (opens_int Try.underlying2 (by kernel_rfl))))))
def ok61 (y : S61) : Prop := ((y.f0.length ≤ 9223372036854775807 ∧ ∀ x ∈ y.f0, ok163 x)) ∧ (Lit.int .i64 y.f1).wf = true
theorem opens61 : Opens Try.prog k61 61 ok61 := opens_iso (fun x => ⟨x.1, x.2⟩) (fun _ => rfl) (opens_struct Try.underlying61 (by kernel_rfl) (opens_cons rfl (opens_slice Try.underlying59 (by kernel_rfl) opens163) (opens_last rfl (opens_int Try.underlying2 (by kernel_rfl)))))
set_option maxRecDepth 100000 in
theorem opensp87 : Opens Try.prog (Kd.pair (Kd.int .i64) (Kd.pair (Kd.int .i64) (Kd.slice 61 k61))) 87 (okp (fun x => (Lit.int .i64 x).wf = true) (okp (fun x => (Lit.int .i64 x).wf = true) (fun x => (x.length ≤ 9223372036854775807 ∧ ∀ y ∈ x, ok61 y)))) := opens_struct Try.underlying87 (by kernel_rfl) (opens_cons rfl (opens_int Try.underlying2 (by kernel_rfl)) (opens_cons rfl (opens_int Try.underlying2 (by kernel_rfl)) (opens_last rfl (opens_slice Try.underlying85 (by kernel_rfl) opens61))))
/-- THE PLAIN STATEMENT of FnExactArrayRight. -/
def FnExactArrayRight_Pure : Prop := ∀ (a0_0 : Int) (a0_1 : Int) (l0_2 : List (S61)), (Lit.int .i64 a0_0).wf = true → (Lit.int .i64 a0_1).wf = true → l0_2.length ≤ 9223372036854775807 → (∀ x ∈ l0_2, ok61 x) → ∃ k : Nat, laws_FnExactArrayRight.f k a0_0 a0_1 l0_2 = some true
end Go.Proofs.Yteljfdhjbnlgoaa.PFnExactArrayRight
