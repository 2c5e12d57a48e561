/- The plain law of FnExactPolicyRight: at every policy PolicyRight answers as the reference. -/
import Derived.Test.YtgmdakcfcmkhkaaOkFnExactPolicyRight
import Derived.Test.YtgmdakcfcmkhkaaLib
namespace Go.Proofs.Ytgmdakcfcmkhkaa.Pure
open Go.RowKit Go.Proofs.Ytgmdakcfcmkhkaa.PFnExactPolicyRight Go.Proofs.Ytgmdakcfcmkhkaa.Lib Go.Proofs.YtgmdakcfcmkhkaaW.PrintWords Go.Proofs.YtgmdakcfcmkhkaaW.PrintLast
set_option linter.unusedVariables false
set_option linter.unusedSimpArgs false
theorem FnExactPolicyRight : FnExactPolicyRight_Pure := by
  intro a0 a1 a2 a3 _ _ _ _
  refine ⟨0, ?_⟩
  simp only [laws_FnExactPolicyRight.f, laws_toPolicy.f, spec_PolicyRight.f, impl_PolicyRight.f, impl_within.f, Option.bind_some]
  by_cases h1 : a0 ≥ 0 <;> by_cases h2 : a0 ≤ 100 <;> by_cases h3 : a1 ≥ 0 <;> by_cases h4 : a1 ≤ 100 <;> by_cases h5 : a2 ≥ 0 <;> by_cases h6 : a2 ≤ 100 <;> by_cases h7 : a3 ≥ 0 <;> simp [h1, h2, h3, h4, h5, h6, h7]
end Go.Proofs.Ytgmdakcfcmkhkaa.Pure
