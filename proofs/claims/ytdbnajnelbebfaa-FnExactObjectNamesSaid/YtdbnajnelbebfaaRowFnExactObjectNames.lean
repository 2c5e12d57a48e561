/- The statement of the law FnExactObjectNames: whatever comes in, the call returns true, and each argument reads as it did. It joins the walk of the Go code with the plain law. -/
import Derived.Test.YtdbnajnelbebfaaRows
import Derived.Test.YtdbnajnelbebfaaPFnExactObjectNamesx19
import Derived.Test.YtdbnajnelbebfaaVOpenFnExactObjectNames
import Derived.Test.YtdbnajnelbebfaaPureFnExactObjectNames
import Derived.WalkKit
import Derived.ProofKit
import Derived.OpenShut
import Derived.ShutString
import Derived.ChangeOld
import Derived.Below
import Derived.SizedLaws
import Derived.Carry
namespace Go.Proofs.Ytdbnajnelbebfaa.fnExactObjectNames
open Go.ChangeShapes Go.WideShapes Go.ChangeAt Go.RowKit Go.Proofs.YtdbnajnelbebfaaW.PrintWords Go.Proofs.Ytdbnajnelbebfaa.Opening Go.Proofs.Ytdbnajnelbebfaa.PFnExactObjectNames
open Go.ChangeMaps (open_string shut_string)
set_option linter.unusedVariables false
theorem own : ownKnob Try.prog.godebug = none := by kernel_rfl
theorem laidOut : laidOutB Try.prog = true := by kernel_rfl
set_option maxRecDepth 100000 in
theorem lifted (os : Os) (started : os.Started) (H : Type) (enc : TypeId × Value → H) :
    ReturnsInHanded {} Try.checked os 6 .any (Rows.fnExactObjectNamesSpec.pre6 enc Try.prog Try.f6 Rows.fnExactObjectNamesRow.domain false) (Rows.fnExactObjectNamesSpec.post enc Try.prog Try.f6 false true false false) := by
  refine returnsInHanded_of_change_sized (C := Try.checked) own started (by kernel_rfl) Try.func6
    (ChangeSpec.witness6 (enc := enc) (C := Try.checked) false ⟨#[], #[.agg #[.int .i64 0, .int .i64 0, .slice none 0 0]], []⟩ 8 (by kernel_rfl) (by kernel_rfl) (by kernel_rfl) (by kernel_rfl)) ?_
  intro W base args ds gs before hval0 hW hcnd hsz0 _
  have hsz : (DataW.weightsEach Try.prog (Try.f6.params.toList ++ Rows.fnExactObjectNamesSpec.plain.varTypes Try.prog) (ds ++ gs)).all (· ≤ reachBytes) = true := hsz0
  have hval : ∀ (j : Nat) t v, Try.f6.params[j]? = some t → args[j]? = some v → Value.okWide Try.prog W .any base t v := hval0
  have hW' := hW
  obtain ⟨p, q, hA0, hV, rfl, hfz, hnd⟩ := hW
  have hA : DataW.TrodAll enc Try.prog W 0 (fun _ => true) true Try.f6.params.toList args.toList ds p := hA0
  rw [Try.params6] at hA hval hsz
  obtain ⟨v0, vs0, d0, ds0, p0, q0, hargs, rfl, rfl, h0, r0⟩ := trodAll_cons hA
  obtain ⟨rfl, rfl, rfl⟩ := trodAll_nil r0
  obtain rfl : args = #[v0] := by cases args; simp_all
  obtain ⟨rfl, rfl⟩ := trodVars_none hV
  have lt0 := trod_lt' h0
  obtain ⟨cs0, ⟨a0_0, a0_1, l0_2⟩, rfl, K0, O0⟩ := open_agg opensp59 Try.underlying59 (hval 0 59 v0 rfl rfl) h0
  obtain ⟨_, _, rfl, rfl, ⟨_, _, rfl, rfl, ⟨A0_2, c0_2, rfl, lc0_2, hr0_2⟩⟩⟩ := K0
  obtain ⟨w0_0, w0_1, ⟨ll0_2, lo0_2⟩⟩ := O0
  clear hA0 hval0 hsz0 hsz
  obtain ⟨k, h⟩ := Pure.FnExactObjectNames a0_0 a0_1 l0_2 w0_0 w0_1 ll0_2 lo0_2
  refine (laws_FnExactObjectNames.calls k a0_0 a0_1 _ _ l0_2 true W hr0_2 lc0_2 h).mono fun e W' he => ?_
  obtain ⟨he, bel0⟩ := he
  have bel : Below W.heap.size W W' := by first | exact bel0 | exact bel0.below
  subst he
  exact ⟨_, rfl, _, _, _, [], _, [], hW', trodAll_mk1 (shut_bool Try.underlying4 _), (trodAll_cons_mk (Below.trod laidOut (by kernel_rfl) (of_decide_eq_true (by kernel_rfl)) h0 bel lt0) trodAll_mk0), rfl, bel.frame _, fun h => by cases h⟩
theorem over : Rows.fnExactObjectNamesRow.holds Try.pinned (OpenSpec.ofChange Rows.fnExactObjectNamesSpec) :=
  OpenClaim.holds_of_wide 6 Try.f6 rfl rfl rfl rfl rfl rfl rfl ⟨rfl, rfl, rfl, rfl, rfl⟩ rfl rfl rfl rfl rfl (by kernel_rfl) Try.func6 (by kernel_rfl)
    (of_decide_eq_true (by kernel_rfl)) (by unfold Func.isWrapper; first | (rw [if_pos (by decide +kernel)]; kernel_rfl) | (rw [if_neg (by decide +kernel)]; exact ⟨rfl, rfl⟩))
    (fun os started H enc _ => lifted os started H enc)
theorem proved : Rows.FnExactObjectNamesSaid := over
#print axioms proved
end Go.Proofs.Ytdbnajnelbebfaa.fnExactObjectNames
