/- Of the law FnExactOpRight: what is known of what comes in, and the plain statement. No statement is proved here. -/
import Derived.Test.YtgmdakcfcmkhkaaPFnExactOpRightx2
import Derived.Test.YtgmdakcfcmkhkaaOpen
namespace Go.Proofs.Ytgmdakcfcmkhkaa.PFnExactOpRight
open Go.RowKit Go.Proofs.YtgmdakcfcmkhkaaW.PrintWords Go.Proofs.Ytgmdakcfcmkhkaa.Opening
set_option linter.unusedVariables false
set_option maxRecDepth 100000 in
theorem opensp44 : Opens Try.prog (Kd.pair (Kd.int .i64) (Kd.pair Kd.string (Kd.pair Kd.string Kd.string))) 44 (okp (fun x => (Lit.int .i64 x).wf = true) (okp (fun x => x.size ≤ 9223372036854775807) (okp (fun x => x.size ≤ 9223372036854775807) (fun x => x.size ≤ 9223372036854775807)))) := opens_struct Try.underlying44 (by kernel_rfl) (opens_cons rfl (opens_int Try.underlying2 (by kernel_rfl)) (opens_cons rfl (opens_string Try.underlying9 (by kernel_rfl)) (opens_cons rfl (opens_string Try.underlying9 (by kernel_rfl)) (opens_last rfl (opens_string Try.underlying9 (by kernel_rfl))))))
/-- THE PLAIN STATEMENT of FnExactOpRight. -/
def FnExactOpRight_Pure : Prop := ∀ (a0_0 : Int) (a0_1 : ByteArray) (a0_2 : ByteArray) (a0_3 : ByteArray), (Lit.int .i64 a0_0).wf = true → a0_1.size ≤ 9223372036854775807 → a0_2.size ≤ 9223372036854775807 → a0_3.size ≤ 9223372036854775807 → ∃ k : Nat, laws_FnExactOpRight.f k a0_0 a0_1 a0_2 a0_3 = some true
end Go.Proofs.Ytgmdakcfcmkhkaa.PFnExactOpRight
