/- Of the law FnExactObjectRight: what is known of what comes in, and the plain statement. No statement is proved here. -/
import Derived.Test.YtgmdakcfcmkhkaaPFnExactObjectRightx2
import Derived.Test.YtgmdakcfcmkhkaaOpen
namespace Go.Proofs.Ytgmdakcfcmkhkaa.PFnExactObjectRight
open Go.RowKit Go.Proofs.YtgmdakcfcmkhkaaW.PrintWords Go.Proofs.Ytgmdakcfcmkhkaa.Opening
set_option linter.unusedVariables false
/-- THE PLAIN STATEMENT of FnExactObjectRight. -/
def FnExactObjectRight_Pure : Prop := ∀ (a0 : ByteArray), a0.size ≤ 140737488351232 → ∃ k : Nat, laws_FnExactObjectRight.f k a0 = some true
end Go.Proofs.Ytgmdakcfcmkhkaa.PFnExactObjectRight
