/- Of the law FnExactPolicyRight: what is known of what comes in, and the plain statement. No statement is proved here. -/
import Derived.Test.YtgmdakcfcmkhkaaPFnExactPolicyRightx1
import Derived.Test.YtgmdakcfcmkhkaaOpen
namespace Go.Proofs.Ytgmdakcfcmkhkaa.PFnExactPolicyRight
open Go.RowKit Go.Proofs.YtgmdakcfcmkhkaaW.PrintWords Go.Proofs.Ytgmdakcfcmkhkaa.Opening
set_option linter.unusedVariables false
set_option maxRecDepth 100000 in
theorem opensp23 : Opens Try.prog (Kd.pair (Kd.int .i64) (Kd.pair (Kd.int .i64) (Kd.pair (Kd.int .i64) (Kd.int .i64)))) 23 (okp (fun x => (Lit.int .i64 x).wf = true) (okp (fun x => (Lit.int .i64 x).wf = true) (okp (fun x => (Lit.int .i64 x).wf = true) (fun x => (Lit.int .i64 x).wf = true)))) := opens_struct Try.underlying23 (by kernel_rfl) (opens_cons rfl (opens_int Try.underlying2 (by kernel_rfl)) (opens_cons rfl (opens_int Try.underlying2 (by kernel_rfl)) (opens_cons rfl (opens_int Try.underlying2 (by kernel_rfl)) (opens_last rfl (opens_int Try.underlying2 (by kernel_rfl))))))
/-- THE PLAIN STATEMENT of FnExactPolicyRight. -/
def FnExactPolicyRight_Pure : Prop := ∀ (a0_0 : Int) (a0_1 : Int) (a0_2 : Int) (a0_3 : Int), (Lit.int .i64 a0_0).wf = true → (Lit.int .i64 a0_1).wf = true → (Lit.int .i64 a0_2).wf = true → (Lit.int .i64 a0_3).wf = true → ∃ k : Nat, laws_FnExactPolicyRight.f a0_0 a0_1 a0_2 a0_3 = some true
end Go.Proofs.Ytgmdakcfcmkhkaa.PFnExactPolicyRight
