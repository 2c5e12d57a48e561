/- Of the law FnExactPlacesDrop: what is known of what comes in, and the plain statement. No statement is proved here. -/
import Derived.Test.YtggbpjfgfenpdaaPFnExactPlacesDropx9
import Derived.Test.YtggbpjfgfenpdaaVOpenFnExactPlacesDrop
namespace Go.Proofs.Ytggbpjfgfenpdaa.PFnExactPlacesDrop
open Go.RowKit Go.Proofs.YtggbpjfgfenpdaaW.PrintWords Go.Proofs.Ytggbpjfgfenpdaa.Opening
set_option linter.unusedVariables false
def ok63 (y : S63) : Prop := y.f0.size ≤ 9223372036854775807 ∧ y.f1.size ≤ 9223372036854775807 ∧ (Lit.int .i64 y.f2).wf = true ∧ (Lit.int .i64 y.f3).wf = true ∧ (Lit.int .i64 y.f4).wf = true
theorem opens63 : Opens Try.prog k63 63 ok63 := opens_iso (fun x => ⟨x.1, x.2.1, x.2.2.1, x.2.2.2.1, x.2.2.2.2⟩) (fun _ => rfl) (opens_struct Try.underlying63 (by kernel_rfl) (opens_cons rfl (opens_string Try.underlying9 (by kernel_rfl)) (opens_cons rfl (opens_string Try.underlying9 (by kernel_rfl)) (opens_cons rfl (opens_int Try.underlying2 (by kernel_rfl)) (opens_cons rfl (opens_int Try.underlying2 (by kernel_rfl)) (opens_last rfl (opens_int Try.underlying2 (by kernel_rfl))))))))
/-- THE PLAIN STATEMENT of FnExactPlacesDrop. -/
def FnExactPlacesDrop_Pure : Prop := ∀ (l0 : List (S63)) (a1 : ByteArray), l0.length ≤ 9223372036854775807 → (∀ x ∈ l0, ok63 x) → a1.size ≤ 140737488351232 → ∃ k : Nat, laws_FnExactPlacesDrop.f k l0 a1 = some true
end Go.Proofs.Ytggbpjfgfenpdaa.PFnExactPlacesDrop
