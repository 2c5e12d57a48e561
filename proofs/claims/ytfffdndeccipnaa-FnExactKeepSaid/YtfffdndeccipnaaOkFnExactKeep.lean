/- Of the law FnExactKeep: what is known of what comes in, and the plain statement. No statement is proved here. -/
import Derived.Test.YtfffdndeccipnaaPFnExactKeepx11
import Derived.Test.YtfffdndeccipnaaVOpenFnExactKeep
namespace Go.Proofs.Ytfffdndeccipnaa.PFnExactKeep
open Go.RowKit Go.Proofs.YtfffdndeccipnaaW.PrintWords Go.Proofs.Ytfffdndeccipnaa.Opening
set_option linter.unusedVariables false
def ok129 (y : S129) : Prop := y.f0.size ≤ 9223372036854775807 ∧ (Lit.int .i64 y.f1).wf = true ∧ y.f2.size ≤ 9223372036854775807
theorem opens129 : Opens Try.prog k129 129 ok129 := opens_iso (fun x => ⟨x.1, x.2.1, x.2.2⟩) (fun _ => rfl) (opens_struct Try.underlying129 (by kernel_rfl) (opens_cons rfl (opens_string Try.underlying9 (by kernel_rfl)) (opens_cons rfl (opens_int Try.underlying2 (by kernel_rfl)) (opens_last rfl (opens_string Try.underlying9 (by kernel_rfl))))))
set_option maxRecDepth 100000 in
theorem opensp51 : Opens Try.prog (Kd.pair (Kd.int .i64) (Kd.pair (Kd.int .i64) (Kd.pair (Kd.int .i64) (Kd.int .i64)))) 51 (okp (fun x => (Lit.int .i64 x).wf = true) (okp (fun x => (Lit.int .i64 x).wf = true) (okp (fun x => (Lit.int .i64 x).wf = true) (fun x => (Lit.int .i64 x).wf = true)))) := opens_struct Try.underlying51 (by kernel_rfl) (opens_cons rfl (opens_int Try.underlying2 (by kernel_rfl)) (opens_cons rfl (opens_int Try.underlying2 (by kernel_rfl)) (opens_cons rfl (opens_int Try.underlying2 (by kernel_rfl)) (opens_last rfl (opens_int Try.underlying2 (by kernel_rfl))))))
/-- THE PLAIN STATEMENT of FnExactKeep. -/
def FnExactKeep_Pure : Prop := ∀ (a0_0 : Int) (a0_1 : Int) (a0_2 : Int) (a0_3 : Int) (l1 : List (S129)), (Lit.int .i64 a0_0).wf = true → (Lit.int .i64 a0_1).wf = true → (Lit.int .i64 a0_2).wf = true → (Lit.int .i64 a0_3).wf = true → l1.length ≤ 9223372036854775807 → (∀ x ∈ l1, ok129 x) → ∃ k : Nat, laws_FnExactKeep.f k a0_0 a0_1 a0_2 a0_3 l1 = some true
end Go.Proofs.Ytfffdndeccipnaa.PFnExactKeep
