/- Of the law FnExactFrameRight: what is known of what comes in, and the plain statement. No statement is proved here. -/
import Derived.Test.YtgmdakcfcmkhkaaPFnExactFrameRightx5
import Derived.Test.YtgmdakcfcmkhkaaOpen
namespace Go.Proofs.Ytgmdakcfcmkhkaa.PFnExactFrameRight
open Go.RowKit Go.Proofs.YtgmdakcfcmkhkaaW.PrintWords Go.Proofs.Ytgmdakcfcmkhkaa.Opening
set_option linter.unusedVariables false
set_option maxRecDepth 100000 in
theorem opensp30 : Opens Try.prog (Kd.pair (Kd.int .i64) (Kd.pair (Kd.int .i64) (Kd.pair (Kd.int .i64) (Kd.pair (Kd.int .i64) (Kd.pair Kd.string Kd.string))))) 30 (okp (fun x => (Lit.int .i64 x).wf = true) (okp (fun x => (Lit.int .i64 x).wf = true) (okp (fun x => (Lit.int .i64 x).wf = true) (okp (fun x => (Lit.int .i64 x).wf = true) (okp (fun x => x.size ≤ 9223372036854775807) (fun x => x.size ≤ 9223372036854775807)))))) := opens_struct Try.underlying30 (by kernel_rfl) (opens_cons rfl (opens_int Try.underlying2 (by kernel_rfl)) (opens_cons rfl (opens_int Try.underlying2 (by kernel_rfl)) (opens_cons rfl (opens_int Try.underlying2 (by kernel_rfl)) (opens_cons rfl (opens_int Try.underlying2 (by kernel_rfl)) (opens_cons rfl (opens_string Try.underlying9 (by kernel_rfl)) (opens_last rfl (opens_string Try.underlying9 (by kernel_rfl))))))))
/-- THE PLAIN STATEMENT of FnExactFrameRight. -/
def FnExactFrameRight_Pure : Prop := ∀ (a0_0 : Int) (a0_1 : Int) (a0_2 : Int) (a0_3 : Int) (a0_4 : ByteArray) (a0_5 : ByteArray), (Lit.int .i64 a0_0).wf = true → (Lit.int .i64 a0_1).wf = true → (Lit.int .i64 a0_2).wf = true → (Lit.int .i64 a0_3).wf = true → a0_4.size ≤ 9223372036854775807 → a0_5.size ≤ 9223372036854775807 → ∃ k : Nat, laws_FnExactFrameRight.f a0_0 a0_1 a0_2 a0_3 a0_4 a0_5 = some true
end Go.Proofs.Ytgmdakcfcmkhkaa.PFnExactFrameRight
