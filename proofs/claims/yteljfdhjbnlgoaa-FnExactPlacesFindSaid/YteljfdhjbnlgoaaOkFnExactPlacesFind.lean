/- Of the law FnExactPlacesFind: what is known of what comes in, and the plain statement. No statement is proved here. -/
import Derived.Test.YteljfdhjbnlgoaaPFnExactPlacesFindx7
import Derived.Test.YteljfdhjbnlgoaaOpen
namespace Go.Proofs.Yteljfdhjbnlgoaa.PFnExactPlacesFind
open Go.RowKit Go.Proofs.YteljfdhjbnlgoaaW.PrintWords Go.Proofs.Yteljfdhjbnlgoaa.Opening
set_option linter.unusedVariables false
def ok117 (y : S117) : Prop := y.f0.size ≤ 9223372036854775807 ∧ y.f1.size ≤ 9223372036854775807 ∧ (Lit.int .i64 y.f2).wf = true ∧ (Lit.int .i64 y.f3).wf = true ∧ (Lit.int .i64 y.f4).wf = true
theorem opens117 : Opens Try.prog k117 117 ok117 := opens_iso (fun x => ⟨x.1, x.2.1, x.2.2.1, x.2.2.2.1, x.2.2.2.2⟩) (fun _ => rfl) (opens_struct Try.underlying117 (by kernel_rfl) (opens_cons rfl (opens_string Try.underlying9 (by kernel_rfl)) (opens_cons rfl (opens_string Try.underlying9 (by kernel_rfl)) (opens_cons rfl (opens_int Try.underlying2 (by kernel_rfl)) (opens_cons rfl (opens_int Try.underlying2 (by kernel_rfl)) (opens_last rfl (opens_int Try.underlying2 (by kernel_rfl))))))))
/-- THE PLAIN STATEMENT of FnExactPlacesFind. -/
def FnExactPlacesFind_Pure : Prop := ∀ (l0 : List (S117)) (a1 : ByteArray), l0.length ≤ 9223372036854775807 → (∀ x ∈ l0, ok117 x) → a1.size ≤ 140737488351232 → ∃ k : Nat, laws_FnExactPlacesFind.f k l0 a1 = some true
end Go.Proofs.Yteljfdhjbnlgoaa.PFnExactPlacesFind
