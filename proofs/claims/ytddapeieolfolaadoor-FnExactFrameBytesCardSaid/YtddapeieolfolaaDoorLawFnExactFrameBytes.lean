/- The row of FnExactFrameBytes with its two laid tables, proved out of the walk and the plain law; then the tied card. -/
import Derived.Test.YtddapeieolfolaaDoorRows
import Derived.Test.YtddapeieolfolaaDoorTie
import Derived.Test.YtddapeieolfolaaDoorCards
import Derived.Test.YtddapeieolfolaaDoorPFnExactFrameBytesx7
import Derived.Test.YtddapeieolfolaaDoorPureFnExactFrameBytes
import Derived.Test.YtddapeieolfolaaDoorVOpenFnExactFrameBytes
import Derived.Carry
import Derived.WalkKit
import Derived.ProofKit
import Derived.OpenShut
import Derived.ShutString
import Derived.ChangeOld
import Derived.Below
import Derived.SizedLaws
import Derived.OpenVars
import Derived.Handed
import Derived.LaidMore
import Derived.LaidHandle
import Derived.MakeChecks
import Derived.Lib.LaidTab
import Derived.Stop.LaidErr
import Derived.Stop.Joined
import Derived.SevenTiedAt
namespace Go.Proofs.YtddapeieolfolaaDoor.fnExactFrameBytes
open Go.ChangeShapes Go.WideShapes Go.ChangeAt Go.RowKit Go.Proofs.YtddapeieolfolaaDoorW.PrintWords Go.Proofs.YtddapeieolfolaaDoor.Opening Go.Proofs.YtddapeieolfolaaDoor.PFnExactFrameBytes
open Go.ChangeMaps (open_string shut_string)
set_option linter.unusedVariables false
theorem own : ownKnob Tryd.prog.godebug = none := by kernel_rfl
theorem laidOut : laidOutB Tryd.prog = true := by kernel_rfl
theorem gF : Tryd.prog.globalNamed "loop.example/g00259/impl.firstState" = some 0 := by kernel_rfl
theorem gR : Tryd.prog.globalNamed "loop.example/g00259/impl.roots" = some 1 := by kernel_rfl
theorem tF : (Tryd.prog.globals[0]?).map (·.type) = some 90 := by kernel_rfl
theorem tR : (Tryd.prog.globals[1]?).map (·.type) = some 124 := by kernel_rfl
theorem c1 : Tryd.prog.cellsOf 89 = 1 := by kernel_rfl
theorem c8 : Tryd.prog.cellsOf 90 = 8 := by kernel_rfl
theorem c64 : Tryd.prog.cellsOf 124 = 64 := by kernel_rfl
/-- what the row's condition gives the walk. -/
theorem tables {W : World} (h : laidMetH Tryd.prog Rows.fnExactFrameBytesRow.laid W) : Hand.LaidG W := by
  rw [MakeChecks.laidMetH_plain _ _ _ (by kernel_rfl)] at h
  have h' : laidMet Tryd.prog (("loop.example/g00259/impl.firstState", Lib.tabData .u32 Hand.firstL) :: [("loop.example/g00259/impl.roots", Lib.tabData .u32 Hand.rootsL)]) W := h
  have a := Lib.tabIs_of_head gF tF Tryd.underlying90 Tryd.underlying89 c1 c8 h'
  have b := Lib.tabIs_of_head gR tR Tryd.underlying124 Tryd.underlying89 c1 c64 (laidMet.tail h')
  have ha := fun i => World.var?_cell gF a i
  have hb := fun i => World.var?_cell gR b i
  refine ⟨fun i hi => ?_, fun i hi => ?_⟩
  · rw [ha i]
    have hl : i < Hand.firstL.length := hi
    simp [List.getD_eq_getElem?_getD, hl]
  · rw [hb i]
    have hl : i < Hand.rootsL.length := hi
    simp [List.getD_eq_getElem?_getD, hl]
theorem door_met (os : Os) (args : Array Value) : laidMetH Tryd.prog Rows.fnExactFrameBytesRow.laid ((World.doorLaid Tryd.prog 400 os).forCall (fun _ _ => 0) ⟨#[], args, []⟩).memory :=
  laidMetH_of_parts3 (fuel := 8) (laidMet_of_run' 8 (by kernel_rfl) (by kernel_rfl)) (by kernel_rfl) (by kernel_rfl)
set_option maxRecDepth 100000 in
theorem lifted (os : Os) (started : os.Started) (H : Type) (enc : TypeId × Value → H) :
    ReturnsInHanded {} Tryd.checked os 4 .any (fun w args => (Rows.fnExactFrameBytesSpec.pre enc Tryd.prog Tryd.f4 [] false w args ∧ laidMetH Tryd.prog Rows.fnExactFrameBytesRow.laid w) ∧ sizedMet enc Tryd.prog Tryd.f4 (OpenSpec.ofChange Rows.fnExactFrameBytesSpec) false w args)
      (Rows.fnExactFrameBytesSpec.post enc Tryd.prog Tryd.f4 false true false false) := by
  refine returnsInHanded_of_change_and (C := Tryd.checked) (X := fun w _ => laidMetH Tryd.prog Rows.fnExactFrameBytesRow.laid w) (fun _ _ _ hh h => h.of_heap hh) own started (by kernel_rfl) Tryd.func4
    (ChangeSpec.witness_shaped (enc := enc) (C := Tryd.checked) (os := os) (X := fun w _ => laidMetH Tryd.prog Rows.fnExactFrameBytesRow.laid w) false (World.doorLaid Tryd.prog 400 os) #[.agg #[.int .i64 0, .int .i64 0, .int .i64 0, .int .i64 0, .string ByteArray.empty, .string ByteArray.empty]] 8 rfl (World.shaped_of_RefB (by kernel_rfl) (by kernel_rfl)) (by kernel_rfl) (by kernel_rfl) (by kernel_rfl) (door_met os _)) ?_
  intro W base args ds gs before hval0 hW hcnd hsz0 hL _
  have hsz : (DataW.weightsEach Tryd.prog (Tryd.f4.params.toList ++ Rows.fnExactFrameBytesSpec.plain.varTypes Tryd.prog) (ds ++ gs)).all (· ≤ reachBytes) = true := hsz0
  have hval : ∀ (j : Nat) t v, Tryd.f4.params[j]? = some t → args[j]? = some v → Value.okWide Tryd.prog W .any base t v := hval0
  have hG := tables hL
  have hW' := hW
  obtain ⟨p, q, hA0, hV0, rfl, hfz, hnd⟩ := hW
  have hA : DataW.TrodAll enc Tryd.prog W 0 (fun _ => true) true Tryd.f4.params.toList args.toList ds p := hA0
  have hV : DataW.TrodVars enc Tryd.prog W (fun _ => true) ["loop.example/g00259/impl.firstState", "loop.example/g00259/impl.roots"] gs q := hV0
  have hV2 := hV
  obtain ⟨_, _, _, _, e0, _, _, _, _, _, e1, _, rfl, _⟩ := trodVars_two hV
  rw [Tryd.params4] at hA hval hsz
  obtain ⟨v0, vs0, d0, ds0, p0, q0, hargs, rfl, rfl, h0, r0⟩ := trodAll_cons hA
  obtain ⟨rfl, rfl, rfl⟩ := trodAll_nil r0
  obtain rfl : args = #[v0] := by cases args; simp_all
  have lt0 := trod_lt' h0
  obtain ⟨cs0, ⟨a0_0, a0_1, a0_2, a0_3, a0_4, a0_5⟩, rfl, K0, O0⟩ := open_agg opensp25 Tryd.underlying25 (hval 0 25 v0 rfl rfl) h0
  obtain ⟨_, _, rfl, rfl, ⟨_, _, rfl, rfl, ⟨_, _, rfl, rfl, ⟨_, _, rfl, rfl, ⟨_, _, rfl, rfl, rfl⟩⟩⟩⟩⟩ := K0
  obtain ⟨w0_0, w0_1, w0_2, w0_3, w0_4, w0_5⟩ := O0
  clear hA0 hval0 hsz0 hsz
  obtain ⟨k, h⟩ := Pure.FnExactFrameBytes a0_0 a0_1 a0_2 a0_3 a0_4 a0_5 w0_0 w0_1 w0_2 w0_3 w0_4 w0_5
  refine (laws_FnExactFrameBytes.calls k a0_0 a0_1 a0_2 a0_3 a0_4 a0_5 true W h hG).mono fun e W' he => ?_
  obtain ⟨he, bel0⟩ := he
  have bel : Below W.heap.size W W' := by first | exact bel0 | exact bel0.below
  subst he
  exact ⟨_, rfl, _, _, _, [], _, _, hW', trodAll_mk1 (shut_bool Tryd.underlying4 _), (trodAll_cons_mk (Below.trod laidOut (by kernel_rfl) (of_decide_eq_true (by kernel_rfl)) h0 bel lt0) trodAll_mk0), Below.trodVars laidOut bel (by kernel_rfl) hV2, bel.frame _, fun h => by cases h⟩
theorem over : Rows.fnExactFrameBytesRow.holds Tryd.pinned (OpenSpec.ofChange Rows.fnExactFrameBytesSpec) :=
  OpenClaim.holds_of_wide 4 Tryd.f4 rfl rfl rfl rfl rfl rfl rfl ⟨rfl, rfl, rfl, rfl, rfl⟩ rfl rfl rfl rfl rfl (by kernel_rfl) Tryd.func4 (by kernel_rfl)
    (of_decide_eq_true (by kernel_rfl)) (by unfold Func.isWrapper; first | (rw [if_pos (by decide +kernel)]; kernel_rfl) | (rw [if_neg (by decide +kernel)]; exact ⟨rfl, rfl⟩))
    (fun os started H enc _ => lifted os started H enc)
/-- THE TIED CARD. -/
theorem proved : Rows.FnExactFrameBytesCardSaid :=
  Claim7.holds_tied_plain_at .later [] [.data, .data] true (true, "4da610ab44ef8a4ec9ef2151130d270f5fd2563e2701357bf3adbdc4eea9ae75") false
    over (fun _ h => by cases h) (by kernel_rfl) (fun _ h => by cases h) fnExactFrameBytes_row_tie rfl ⟨rfl, rfl⟩ (by kernel_rfl) rfl
    (fun f fn hf hfn => by
      obtain rfl : f = 4 := Option.some.inj ((show Tryd.prog.funcNamed "loop.example/g00259/laws.FnExactFrameBytes" = some 4 by kernel_rfl).symm.trans hf) |>.symm
      obtain rfl : fn = Tryd.f4 := (Option.some.inj (Tryd.func4.symm.trans hfn)).symm
      exact ⟨by kernel_rfl, fun j t ht => by
        rw [Tryd.params4] at ht
        have h3 : t = 25 := by
          have hm : t ∈ [25] := by
            have h4 : [25][j]? = some t := by simpa using ht
            exact List.mem_of_getElem? h4
          simpa using hm
        subst h3
        exact (show Tryd.prog.wantsStandIn 25 = false by kernel_rfl)⟩)
    (by kernel_rfl)
#print axioms proved
end Go.Proofs.YtddapeieolfolaaDoor.fnExactFrameBytes
namespace Go.Proofs.YtddapeieolfolaaDoor
/-- The card, under a short name, for the claim. -/
theorem fnExactFrameBytes_holds : Rows.FnExactFrameBytesCardSaid := fnExactFrameBytes.proved
end Go.Proofs.YtddapeieolfolaaDoor
