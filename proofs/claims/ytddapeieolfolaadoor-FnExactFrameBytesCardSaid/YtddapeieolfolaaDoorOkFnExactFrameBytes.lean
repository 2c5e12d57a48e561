/- Of the law FnExactFrameBytes: what is known of what comes in, and the plain statement. No statement is proved here. -/
import Derived.Test.YtddapeieolfolaaDoorPFnExactFrameBytesx7
import Derived.Test.YtddapeieolfolaaDoorVOpenFnExactFrameBytes
namespace Go.Proofs.YtddapeieolfolaaDoor.PFnExactFrameBytes
open Go.RowKit Go.Proofs.YtddapeieolfolaaDoorW.PrintWords Go.Proofs.YtddapeieolfolaaDoor.Opening
set_option linter.unusedVariables false
set_option maxRecDepth 100000 in
theorem opensp25 : Opens Tryd.prog (Kd.pair (Kd.int .i64) (Kd.pair (Kd.int .i64) (Kd.pair (Kd.int .i64) (Kd.pair (Kd.int .i64) (Kd.pair Kd.string Kd.string))))) 25 (okp (fun x => (Lit.int .i64 x).wf = true) (okp (fun x => (Lit.int .i64 x).wf = true) (okp (fun x => (Lit.int .i64 x).wf = true) (okp (fun x => (Lit.int .i64 x).wf = true) (okp (fun x => x.size ≤ 9223372036854775807) (fun x => x.size ≤ 9223372036854775807)))))) := opens_struct Tryd.underlying25 (by kernel_rfl) (opens_cons rfl (opens_int Tryd.underlying2 (by kernel_rfl)) (opens_cons rfl (opens_int Tryd.underlying2 (by kernel_rfl)) (opens_cons rfl (opens_int Tryd.underlying2 (by kernel_rfl)) (opens_cons rfl (opens_int Tryd.underlying2 (by kernel_rfl)) (opens_cons rfl (opens_string Tryd.underlying9 (by kernel_rfl)) (opens_last rfl (opens_string Tryd.underlying9 (by kernel_rfl))))))))
/-- THE PLAIN STATEMENT of FnExactFrameBytes. -/
def FnExactFrameBytes_Pure : Prop := ∀ (a0_0 : Int) (a0_1 : Int) (a0_2 : Int) (a0_3 : Int) (a0_4 : ByteArray) (a0_5 : ByteArray), (Lit.int .i64 a0_0).wf = true → (Lit.int .i64 a0_1).wf = true → (Lit.int .i64 a0_2).wf = true → (Lit.int .i64 a0_3).wf = true → a0_4.size ≤ 9223372036854775807 → a0_5.size ≤ 9223372036854775807 → ∃ k : Nat, laws_FnExactFrameBytes.f k a0_0 a0_1 a0_2 a0_3 a0_4 a0_5 = some true
end Go.Proofs.YtddapeieolfolaaDoor.PFnExactFrameBytes
