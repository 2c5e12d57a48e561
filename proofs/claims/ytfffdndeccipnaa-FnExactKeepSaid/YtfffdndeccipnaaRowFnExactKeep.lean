/- The statement of the law FnExactKeep: whatever comes in, the call returns true, and each argument reads as it did. It joins the walk of the Go code with the plain law. -/
import Derived.Test.YtfffdndeccipnaaRows
import Derived.Test.YtfffdndeccipnaaPFnExactKeepx11
import Derived.Test.YtfffdndeccipnaaVOpenFnExactKeep
import Derived.Test.YtfffdndeccipnaaPureFnExactKeep
import Derived.WalkKit
import Derived.ProofKit
import Derived.OpenShut
import Derived.ShutString
import Derived.ChangeOld
import Derived.Below
import Derived.SizedLaws
import Derived.Carry
namespace Go.Proofs.Ytfffdndeccipnaa.fnExactKeep
open Go.ChangeShapes Go.WideShapes Go.ChangeAt Go.RowKit Go.Proofs.YtfffdndeccipnaaW.PrintWords Go.Proofs.Ytfffdndeccipnaa.Opening Go.Proofs.Ytfffdndeccipnaa.PFnExactKeep
open Go.ChangeMaps (open_string shut_string)
set_option linter.unusedVariables false
theorem own : ownKnob Try.prog.godebug = none := by kernel_rfl
theorem laidOut : laidOutB Try.prog = true := by kernel_rfl
set_option maxRecDepth 100000 in
theorem lifted (os : Os) (started : os.Started) (H : Type) (enc : TypeId × Value → H) :
    ReturnsInHanded {} Try.checked os 5 .any (Rows.fnExactKeepSpec.pre6 enc Try.prog Try.f5 Rows.fnExactKeepRow.domain false) (Rows.fnExactKeepSpec.post enc Try.prog Try.f5 false true false false) := by
  refine returnsInHanded_of_change_sized (C := Try.checked) own started (by kernel_rfl) Try.func5
    (ChangeSpec.witness6 (enc := enc) (C := Try.checked) false ⟨#[], #[.agg #[.int .i64 0, .int .i64 0, .int .i64 0, .int .i64 0], .slice none 0 0], []⟩ 8 (by kernel_rfl) (by kernel_rfl) (by kernel_rfl) (by kernel_rfl)) ?_
  intro W base args ds gs before hval0 hW hcnd hsz0 _
  have hsz : (DataW.weightsEach Try.prog (Try.f5.params.toList ++ Rows.fnExactKeepSpec.plain.varTypes Try.prog) (ds ++ gs)).all (· ≤ reachBytes) = true := hsz0
  have hval : ∀ (j : Nat) t v, Try.f5.params[j]? = some t → args[j]? = some v → Value.okWide Try.prog W .any base t v := hval0
  have hW' := hW
  obtain ⟨p, q, hA0, hV, rfl, hfz, hnd⟩ := hW
  have hA : DataW.TrodAll enc Try.prog W 0 (fun _ => true) true Try.f5.params.toList args.toList ds p := hA0
  rw [Try.params5] at hA hval hsz
  obtain ⟨v0, vs0, d0, ds0, p0, q0, hargs, rfl, rfl, h0, r0⟩ := trodAll_cons hA
  obtain ⟨v1, vs1, d1, ds1, p1, q1, rfl, rfl, rfl, h1, r1⟩ := trodAll_cons r0
  obtain ⟨rfl, rfl, rfl⟩ := trodAll_nil r1
  obtain rfl : args = #[v0, v1] := by cases args; simp_all
  obtain ⟨rfl, rfl⟩ := trodVars_none hV
  have lt0 := trod_lt' h0
  obtain ⟨cs0, ⟨a0_0, a0_1, a0_2, a0_3⟩, rfl, K0, O0⟩ := open_agg opensp51 Try.underlying51 (hval 0 51 v0 rfl rfl) h0
  obtain ⟨_, _, rfl, rfl, ⟨_, _, rfl, rfl, ⟨_, _, rfl, rfl, rfl⟩⟩⟩ := K0
  obtain ⟨w0_0, w0_1, w0_2, w0_3⟩ := O0
  have lt1 := trod_lt' h1
  obtain ⟨A1, c1, l1, rfl, lc1, hr1, ll1, lo1⟩ := open_row opens129 Try.underlying52 (by kernel_rfl) (hval 1 52 v1 rfl rfl) h1
  clear hA0 hval0 hsz0 hsz
  obtain ⟨k, h⟩ := Pure.FnExactKeep a0_0 a0_1 a0_2 a0_3 l1 w0_0 w0_1 w0_2 w0_3 ll1 lo1
  refine (laws_FnExactKeep.calls k a0_0 a0_1 a0_2 a0_3 _ _ l1 true W hr1 lc1 h).mono fun e W' he => ?_
  obtain ⟨he, bel0⟩ := he
  have bel : Below W.heap.size W W' := by first | exact bel0 | exact bel0.below
  subst he
  exact ⟨_, rfl, _, _, _, [], _, [], hW', trodAll_mk1 (shut_bool Try.underlying4 _), (trodAll_cons_mk (Below.trod laidOut (by kernel_rfl) (of_decide_eq_true (by kernel_rfl)) h0 bel lt0) (trodAll_cons_mk (Below.trod laidOut (by kernel_rfl) (of_decide_eq_true (by kernel_rfl)) h1 bel lt1) trodAll_mk0)), rfl, bel.frame _, fun h => by cases h⟩
theorem over : Rows.fnExactKeepRow.holds Try.pinned (OpenSpec.ofChange Rows.fnExactKeepSpec) :=
  OpenClaim.holds_of_wide 5 Try.f5 rfl rfl rfl rfl rfl rfl rfl ⟨rfl, rfl, rfl, rfl, rfl⟩ rfl rfl rfl rfl rfl (by kernel_rfl) Try.func5 (by kernel_rfl)
    (of_decide_eq_true (by kernel_rfl)) (by unfold Func.isWrapper; first | (rw [if_pos (by decide +kernel)]; kernel_rfl) | (rw [if_neg (by decide +kernel)]; exact ⟨rfl, rfl⟩))
    (fun os started H enc _ => lifted os started H enc)
theorem proved : Rows.FnExactKeepSaid := over
#print axioms proved
end Go.Proofs.Ytfffdndeccipnaa.fnExactKeep
