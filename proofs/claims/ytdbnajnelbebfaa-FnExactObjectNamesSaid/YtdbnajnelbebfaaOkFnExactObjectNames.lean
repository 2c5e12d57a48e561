/- Of the law FnExactObjectNames: what is known of what comes in, and the plain statement. No statement is proved here. -/
import Derived.Test.YtdbnajnelbebfaaPFnExactObjectNamesx19
import Derived.Test.YtdbnajnelbebfaaVOpenFnExactObjectNames
namespace Go.Proofs.Ytdbnajnelbebfaa.PFnExactObjectNames
open Go.RowKit Go.Proofs.YtdbnajnelbebfaaW.PrintWords Go.Proofs.Ytdbnajnelbebfaa.Opening
set_option linter.unusedVariables false
def ok247 (y : S247) : Prop := y.f0.size ≤ 9223372036854775807 ∧ y.f1.size ≤ 9223372036854775807 ∧ (Lit.int .i64 y.f2).wf = true
theorem opens247 : Opens Try.prog k247 247 ok247 := opens_iso (fun x => ⟨x.1, x.2.1, x.2.2⟩) (fun _ => rfl) (opens_struct Try.underlying247 (by kernel_rfl) (opens_cons rfl (opens_string Try.underlying9 (by kernel_rfl)) (opens_cons rfl (opens_string Try.underlying9 (by kernel_rfl)) (opens_last rfl (opens_int Try.underlying2 (by kernel_rfl))))))
def ok188 (y : S188) : Prop := ((y.f0.length ≤ 9223372036854775807 ∧ ∀ x ∈ y.f0, ok247 x)) ∧ (Lit.int .i64 y.f1).wf = true
theorem opens188 : Opens Try.prog k188 188 ok188 := opens_iso (fun x => ⟨x.1, x.2⟩) (fun _ => rfl) (opens_struct Try.underlying188 (by kernel_rfl) (opens_cons rfl (opens_slice Try.underlying186 (by kernel_rfl) opens247) (opens_last rfl (opens_int Try.underlying2 (by kernel_rfl)))))
set_option maxRecDepth 100000 in
theorem opensp59 : Opens Try.prog (Kd.pair (Kd.int .i64) (Kd.pair (Kd.int .i64) (Kd.slice 188 k188))) 59 (okp (fun x => (Lit.int .i64 x).wf = true) (okp (fun x => (Lit.int .i64 x).wf = true) (fun x => (x.length ≤ 9223372036854775807 ∧ ∀ y ∈ x, ok188 y)))) := opens_struct Try.underlying59 (by kernel_rfl) (opens_cons rfl (opens_int Try.underlying2 (by kernel_rfl)) (opens_cons rfl (opens_int Try.underlying2 (by kernel_rfl)) (opens_last rfl (opens_slice Try.underlying57 (by kernel_rfl) opens188))))
/-- THE PLAIN STATEMENT of FnExactObjectNames. -/
def FnExactObjectNames_Pure : Prop := ∀ (a0_0 : Int) (a0_1 : Int) (l0_2 : List (S188)), (Lit.int .i64 a0_0).wf = true → (Lit.int .i64 a0_1).wf = true → l0_2.length ≤ 9223372036854775807 → (∀ x ∈ l0_2, ok188 x) → ∃ k : Nat, laws_FnExactObjectNames.f k a0_0 a0_1 l0_2 = some true
end Go.Proofs.Ytdbnajnelbebfaa.PFnExactObjectNames
