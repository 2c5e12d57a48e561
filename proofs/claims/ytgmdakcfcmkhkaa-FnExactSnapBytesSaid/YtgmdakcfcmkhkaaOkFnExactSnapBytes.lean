/- Of the law FnExactSnapBytes: what is known of what comes in, and the plain statement. No statement is proved here. -/
import Derived.Test.YtgmdakcfcmkhkaaPFnExactSnapBytesx3
import Derived.Test.YtgmdakcfcmkhkaaOpen
namespace Go.Proofs.Ytgmdakcfcmkhkaa.PFnExactSnapBytes
open Go.RowKit Go.Proofs.YtgmdakcfcmkhkaaW.PrintWords Go.Proofs.Ytgmdakcfcmkhkaa.Opening
set_option linter.unusedVariables false
set_option maxRecDepth 100000 in
theorem opensp37 : Opens Try.prog (Kd.pair Kd.string (Kd.pair (Kd.int .i64) Kd.string)) 37 (okp (fun x => x.size ≤ 9223372036854775807) (okp (fun x => (Lit.int .i64 x).wf = true) (fun x => x.size ≤ 9223372036854775807))) := opens_struct Try.underlying37 (by kernel_rfl) (opens_cons rfl (opens_string Try.underlying9 (by kernel_rfl)) (opens_cons rfl (opens_int Try.underlying2 (by kernel_rfl)) (opens_last rfl (opens_string Try.underlying9 (by kernel_rfl)))))
/-- THE PLAIN STATEMENT of FnExactSnapBytes. -/
def FnExactSnapBytes_Pure : Prop := ∀ (a0_0 : ByteArray) (a0_1 : Int) (a0_2 : ByteArray), a0_0.size ≤ 9223372036854775807 → (Lit.int .i64 a0_1).wf = true → a0_2.size ≤ 9223372036854775807 → ∃ k : Nat, laws_FnExactSnapBytes.f k a0_0 a0_1 a0_2 = some true
end Go.Proofs.Ytgmdakcfcmkhkaa.PFnExactSnapBytes
