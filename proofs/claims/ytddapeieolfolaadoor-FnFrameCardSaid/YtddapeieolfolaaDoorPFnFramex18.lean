/- Functions of the law FnFrame: the print's, with walks of this session's own. No statement is proved here. -/
import Derived.WalkLawsBesides
import Derived.Test.YtddapeieolfolaaDoorVRegFnFrame
-- A program of this session wrote this text: a changed copy of the kit print, with given functions.
import Derived.Test.YtddapeieolfolaaDoorPFnFramex0
import Derived.Test.YtddapeieolfolaaDoorPFnFramex1
import Derived.Test.YtddapeieolfolaaDoorPFnFramex6
import Derived.Test.YtddapeieolfolaaDoorPFnFramex7
import Derived.Test.YtddapeieolfolaaDoorPFnFramex8
import Derived.Test.YtddapeieolfolaaDoorPFnFramex11
import Derived.Test.YtddapeieolfolaaDoorPFnFramex14
import Derived.Test.YtddapeieolfolaaDoorPFnFramex16
import Derived.Test.YtddapeieolfolaaDoorPFnFramex17
namespace Go.Proofs.YtddapeieolfolaaDoor.PFnFrame
open Go.RowKit Go.Proofs.YtddapeieolfolaaDoorW.PrintWords Go.Proofs.YtddapeieolfolaaDoorW.PrintLast Go.Proofs.YtddapeieolfolaaDoorW.PrintMore Go.Proofs.YtddapeieolfolaaDoor.Reg Go.Proofs.YtddapeieolfolaaDoor.Aut
attribute [local go_sem] max2_int min2_int max_two min_two max_three min_three max_four min_four   -- for this text's walks alone
set_option linter.unusedVariables false
set_option linter.unusedSimpArgs false

attribute [local go_sem high] eqA50
/-! ### laws_FnFrame: function 10 -/
mutual
def laws_FnFrame.j0 : Nat → List Int → List Int → Bool → Option (Bool)
  | 0, _, _, _ => none
  | k + 1, x0, x1, x16 => if x16 = true then (some true) else ((spec_DrawFrameBytes.f k x0).bind fun bt463 => ((impl_FrameBytes.f k bt463.1 bt463.2.1 bt463.2.2.1 bt463.2.2.2.1 bt463.2.2.2.2.1 bt463.2.2.2.2.2).bind fun t470 => ((spec_FrameBytes.f k bt463.1 bt463.2.1 bt463.2.2.1 bt463.2.2.2.1 bt463.2.2.2.2.1 bt463.2.2.2.2.2).bind fun t471 => (if t470.toList = t471.toList then ((impl_FrameRight.f bt463.1 bt463.2.1 bt463.2.2.1 bt463.2.2.2.1 bt463.2.2.2.2.1 bt463.2.2.2.2.2).bind fun t472 => (laws_FnFrame.j1 k x1 t470 (t472 != (t470.toList != ([] : List UInt8))) bt463.1 bt463.2.1 bt463.2.2.1 bt463.2.2.2.1 bt463.2.2.2.2.1 bt463.2.2.2.2.2)) else (laws_FnFrame.j1 k x1 t470 true bt463.1 bt463.2.1 bt463.2.2.1 bt463.2.2.2.1 bt463.2.2.2.2.1 bt463.2.2.2.2.2)))))
def laws_FnFrame.j1 : Nat → List Int → ByteArray → Bool → Int → Int → Int → Int → ByteArray → ByteArray → Option (Bool)
  | 0, _, _, _, _, _, _, _, _, _ => none
  | k + 1, x1, x6, x31, x470000, x470001, x470002, x470003, x470004, x470005 => if x31 = true then (some false) else (if x6.toList = ([] : List UInt8) then (laws_FnFrame.j2 k x1 false) else ((impl_FrameRead.f k x6).bind fun bt473 => (laws_FnFrame.j2 k x1 ((!(bt473.1 == x470000) || (!(bt473.2.1 == x470001) || (!(bt473.2.2.1 == x470002) || (!(bt473.2.2.2.1 == x470003) || (!(bt473.2.2.2.2.1.toList == x470004.toList) || (!(bt473.2.2.2.2.2.1.toList == x470005.toList))))))) || (!(bt473.2.2.2.2.2.2 == 0))))))
def laws_FnFrame.j2 : Nat → List Int → Bool → Option (Bool)
  | 0, _, _ => none
  | k + 1, x1, x40 => if x40 = true then (some false) else ((spec_DrawFrameRead.f k x1).bind fun t480 => ((impl_FrameRead.f k t480).bind fun bt481 => ((spec_FrameRead.f k t480).bind fun bt489 => (if ((bt481.1 == bt489.1 && (bt481.2.1 == bt489.2.1 && (bt481.2.2.1 == bt489.2.2.1 && (bt481.2.2.2.1 == bt489.2.2.2.1 && (bt481.2.2.2.2.1.toList == bt489.2.2.2.2.1.toList && (bt481.2.2.2.2.2.1.toList == bt489.2.2.2.2.2.1.toList)))))) && (bt481.2.2.2.2.2.2 == bt489.2.2.2.2.2.2)) = true then (if bt481.2.2.2.2.2.2 = 0 then ((impl_FrameBytes.f k bt481.1 bt481.2.1 bt481.2.2.1 bt481.2.2.2.1 bt481.2.2.2.2.1 bt481.2.2.2.2.2.1).bind fun t496 => (some (t496.toList == t480.toList))) else (some true)) else (some false)))))
end
def laws_FnFrame.f (k : Nat) (l0 : List Int) (l1 : List Int) : Option (Bool) := if (l0.length : Int) > 1048576 then (laws_FnFrame.j0 k l0 l1 true) else (laws_FnFrame.j0 k l0 l1 (decide ((l1.length : Int) > 1048576)))
theorem laws_FnFrame.mono_l : ∀ k, (∀ y0 y1 y2, LeO (laws_FnFrame.j0 k y0 y1 y2) (laws_FnFrame.j0 (k + 1) y0 y1 y2)) ∧ (∀ y0 y1 y2 y3 y4 y5 y6 y7 y8, LeO (laws_FnFrame.j1 k y0 y1 y2 y3 y4 y5 y6 y7 y8) (laws_FnFrame.j1 (k + 1) y0 y1 y2 y3 y4 y5 y6 y7 y8)) ∧ (∀ y0 y1, LeO (laws_FnFrame.j2 k y0 y1) (laws_FnFrame.j2 (k + 1) y0 y1))
  | 0 => ⟨fun _ _ _ r h => by simp [laws_FnFrame.j0] at h, fun _ _ _ _ _ _ _ _ _ r h => by simp [laws_FnFrame.j1] at h, fun _ _ r h => by simp [laws_FnFrame.j2] at h⟩
  | k + 1 => by
    obtain ⟨ih0, ih1, ih2⟩ := laws_FnFrame.mono_l k
    refine ⟨?_, ?_, ?_⟩
    · intro y0 y1 y2
      unfold laws_FnFrame.j0
      repeat' first
      | (with_reducible exact ih0 _ _ _)
      | (with_reducible exact ih1 _ _ _ _ _ _ _ _ _)
      | (with_reducible exact ih2 _ _)
      | (with_reducible exact impl_FrameBytes.mono _ _ _ _ _ _ _)
      | (with_reducible exact impl_FrameRead.mono _ _)
      | (with_reducible exact spec_DrawFrameBytes.mono _ _)
      | (with_reducible exact spec_DrawFrameRead.mono _ _)
      | (with_reducible exact spec_FrameBytes.mono _ _ _ _ _ _ _)
      | (with_reducible exact spec_FrameRead.mono _ _)
      | (with_reducible exact LeO.refl _)
      | (with_reducible exact LeO.none _)
      | (with_reducible refine LeO.ite ?_ ?_)
      | (with_reducible refine LeO.bind ?_ (fun _ => ?_))
      | exact ih0 _ _ _
      | exact ih1 _ _ _ _ _ _ _ _ _
      | exact ih2 _ _
      | exact impl_FrameBytes.mono _ _ _ _ _ _ _
      | exact impl_FrameRead.mono _ _
      | exact spec_DrawFrameBytes.mono _ _
      | exact spec_DrawFrameRead.mono _ _
      | exact spec_FrameBytes.mono _ _ _ _ _ _ _
      | exact spec_FrameRead.mono _ _
      | exact LeO.none _
      | refine LeO.ite ?_ ?_
      | refine LeO.bind ?_ (fun _ => ?_)
    · intro y0 y1 y2 y3 y4 y5 y6 y7 y8
      unfold laws_FnFrame.j1
      repeat' first
      | (with_reducible exact ih0 _ _ _)
      | (with_reducible exact ih1 _ _ _ _ _ _ _ _ _)
      | (with_reducible exact ih2 _ _)
      | (with_reducible exact impl_FrameBytes.mono _ _ _ _ _ _ _)
      | (with_reducible exact impl_FrameRead.mono _ _)
      | (with_reducible exact spec_DrawFrameBytes.mono _ _)
      | (with_reducible exact spec_DrawFrameRead.mono _ _)
      | (with_reducible exact spec_FrameBytes.mono _ _ _ _ _ _ _)
      | (with_reducible exact spec_FrameRead.mono _ _)
      | (with_reducible exact LeO.refl _)
      | (with_reducible exact LeO.none _)
      | (with_reducible refine LeO.ite ?_ ?_)
      | (with_reducible refine LeO.bind ?_ (fun _ => ?_))
      | exact ih0 _ _ _
      | exact ih1 _ _ _ _ _ _ _ _ _
      | exact ih2 _ _
      | exact impl_FrameBytes.mono _ _ _ _ _ _ _
      | exact impl_FrameRead.mono _ _
      | exact spec_DrawFrameBytes.mono _ _
      | exact spec_DrawFrameRead.mono _ _
      | exact spec_FrameBytes.mono _ _ _ _ _ _ _
      | exact spec_FrameRead.mono _ _
      | exact LeO.none _
      | refine LeO.ite ?_ ?_
      | refine LeO.bind ?_ (fun _ => ?_)
    · intro y0 y1
      unfold laws_FnFrame.j2
      repeat' first
      | (with_reducible exact ih0 _ _ _)
      | (with_reducible exact ih1 _ _ _ _ _ _ _ _ _)
      | (with_reducible exact ih2 _ _)
      | (with_reducible exact impl_FrameBytes.mono _ _ _ _ _ _ _)
      | (with_reducible exact impl_FrameRead.mono _ _)
      | (with_reducible exact spec_DrawFrameBytes.mono _ _)
      | (with_reducible exact spec_DrawFrameRead.mono _ _)
      | (with_reducible exact spec_FrameBytes.mono _ _ _ _ _ _ _)
      | (with_reducible exact spec_FrameRead.mono _ _)
      | (with_reducible exact LeO.refl _)
      | (with_reducible exact LeO.none _)
      | (with_reducible refine LeO.ite ?_ ?_)
      | (with_reducible refine LeO.bind ?_ (fun _ => ?_))
      | exact ih0 _ _ _
      | exact ih1 _ _ _ _ _ _ _ _ _
      | exact ih2 _ _
      | exact impl_FrameBytes.mono _ _ _ _ _ _ _
      | exact impl_FrameRead.mono _ _
      | exact spec_DrawFrameBytes.mono _ _
      | exact spec_DrawFrameRead.mono _ _
      | exact spec_FrameBytes.mono _ _ _ _ _ _ _
      | exact spec_FrameRead.mono _ _
      | exact LeO.none _
      | refine LeO.ite ?_ ?_
      | refine LeO.bind ?_ (fun _ => ?_)
theorem laws_FnFrame.mono : ∀ a0 a1 k, LeO (laws_FnFrame.f k a0 a1) (laws_FnFrame.f (k + 1) a0 a1) := by
  intro a0 a1 k
  obtain ⟨ih0, ih1, ih2⟩ := laws_FnFrame.mono_l k
  unfold laws_FnFrame.f
  repeat' first
      | (with_reducible exact ih0 _ _ _)
      | (with_reducible exact ih1 _ _ _ _ _ _ _ _ _)
      | (with_reducible exact ih2 _ _)
      | (with_reducible exact impl_FrameBytes.mono _ _ _ _ _ _ _)
      | (with_reducible exact impl_FrameRead.mono _ _)
      | (with_reducible exact spec_DrawFrameBytes.mono _ _)
      | (with_reducible exact spec_DrawFrameRead.mono _ _)
      | (with_reducible exact spec_FrameBytes.mono _ _ _ _ _ _ _)
      | (with_reducible exact spec_FrameRead.mono _ _)
      | (with_reducible exact LeO.refl _)
      | (with_reducible exact LeO.none _)
      | (with_reducible refine LeO.ite ?_ ?_)
      | (with_reducible refine LeO.bind ?_ (fun _ => ?_))
      | exact ih0 _ _ _
      | exact ih1 _ _ _ _ _ _ _ _ _
      | exact ih2 _ _
      | exact impl_FrameBytes.mono _ _ _ _ _ _ _
      | exact impl_FrameRead.mono _ _
      | exact spec_DrawFrameBytes.mono _ _
      | exact spec_DrawFrameRead.mono _ _
      | exact spec_FrameBytes.mono _ _ _ _ _ _ _
      | exact spec_FrameRead.mono _ _
      | exact LeO.none _
      | refine LeO.ite ?_ ?_
      | refine LeO.bind ?_ (fun _ => ?_)
def laws_FnFrame.T7 : Bool × List (List Nat × List Nat) := (true, [([], []), ([0], [0]), ([1], [1]), ([2], [2]), ([3, 2, 2], [2, 3]), ([2], [2]), ([5, 2], [2, 5]), ([4, 6, 2], [2, 4, 6]), ([2, 7], [2, 7])])
def laws_FnFrame.B7 : List Nat := [0, 1, 3, 7, 15, 7, 39, 127, 255]
theorem laws_FnFrame.tab7 : rtab .any (opsOf Tryd.f10 7) = laws_FnFrame.T7 := by kernel_rfl
theorem laws_FnFrame.bits7 : waitsOk laws_FnFrame.T7.2 laws_FnFrame.B7 = true := by kernel_rfl
def laws_FnFrame.T11 : Bool × List (List Nat × List Nat) := (true, [([], []), ([], []), ([1], [1]), ([0, 2], [0, 2]), ([3, 2], [3]), ([4], [4]), ([5, 4], [4, 5]), ([6, 4], [4, 6]), ([7, 4, 4], [4, 7]), ([8], [8]), ([9, 8], [8, 9]), ([10, 8, 8], [8, 10]), ([8], [8]), ([11, 12, 8], [8, 11, 12]), ([8, 13, 4], [4, 8, 13]), ([4, 14], [4, 14]), ([15, 11, 0, 1, 2, 3, 4, 5, 6, 7, 8, 9, 10, 11, 12, 13, 14, 15], [15])])
def laws_FnFrame.B11 : List Nat := [0, 0, 2, 7, 15, 31, 63, 127, 255, 511, 1023, 2047, 511, 8191, 16383, 32767, 65535]
theorem laws_FnFrame.tab11 : rtab .any (opsOf Tryd.f10 11) = laws_FnFrame.T11 := by kernel_rfl
theorem laws_FnFrame.bits11 : waitsOk laws_FnFrame.T11.2 laws_FnFrame.B11 = true := by kernel_rfl
set_option maxHeartbeats 8000000 in
set_option maxRecDepth 100000 in
theorem laws_FnFrame.calls (k : Nat) (A0 : Option Addr) (c0 : Nat) (l0 : List Int) (A1 : Option Addr) (c1 : Nat) (l1 : List Int) (r : Bool) (w : World) (hr0 : Kd.C (Kd.int .u8) w A0 l0.length l0) (hc0 : l0.length ≤ c0) (hr1 : Kd.C (Kd.int .u8) w A1 l1.length l1) (hc1 : l1.length ≤ c1) (h : laws_FnFrame.f k l0 l1 = some r) (hL : Hand.LaidG w := by first | exact hL | exact Hand.LaidG.below hL bel_) :
    Calls Tryd.prog 10 #[.slice A0 l0.length c0, .slice A1 l1.length c1] w fun e w' => e = .returned (.bool r) ∧ Below w.heap.size w w' := by
  have hu28 := Tryd.underlying28
  have hu50 := Tryd.underlying50
  have HR0 := AM hr0
  have HC0 := AM hc0
  clear hr0 hc0
  have HR1 := AM hr1
  have HC1 := AM hc1
  clear hr1 hc1
  have HB := AM (Below.refl w.heap.size w)
  have H : (if (l0.length : Int) > 1048576 then (laws_FnFrame.j0 k l0 l1 true) else (laws_FnFrame.j0 k l0 l1 (decide ((l1.length : Int) > 1048576)))) = some r := h
  clear h
  have HC3 := AM H
  clear H
  go_enter Tryd.func10, Tryd.ntmps10
  go_upto_region 1 with (fail)
  go_cut [16] (fun v16 wc => ∃ (kq : Nat) (x16_2 : Bool), v16 = .bool x16_2 ∧ Aside0 (laws_FnFrame.j0 kq l0 l1 x16_2 = some r) ∧ Aside0 (kq ≤ k) ∧ Aside0 (Below w.heap.size w wc))
  case first =>
    have H := HC3.out
    clear HC3
    by_cases c4 : (l0.length : Int) > 1048576
    · rw [if_pos c4] at H
      have c4b0 : decide (1048576 < (l0.length : Int)) = true := decide_eq_true c4
      have c4b1 : decide (1048576 < l0.length) = true := decide_eq_true (by omega)
      clear c4
      (first | rw [c4b0] | (simp only [i64_w, i32_w]; rw [c4b0]) | skip)
      have H' := AM H
      clear H
      go_wp2
      go_meet
      case rel => exact ⟨_, (true), (by first | rfl | (simp; done) | (simp [*]; done)), H', ⟨by first | omega | exact Nat.le_refl _⟩, ⟨bel_⟩⟩
    · rw [if_neg c4] at H
      have c4b0 : decide (1048576 < (l0.length : Int)) = false := decide_eq_false c4
      have c4b1 : decide (1048576 < l0.length) = false := decide_eq_false (by omega)
      clear c4
      (first | rw [c4b0] | (simp only [i64_w, i32_w]; rw [c4b0]) | skip)
      have H' := AM H
      clear H
      go_wp2
      go_meet
      case rel => exact ⟨_, (decide ((l1.length : Int) > 1048576)), (by first | rfl | (simp; done) | (simp [*]; done)), H', ⟨by first | omega | exact Nat.le_refl _⟩, ⟨bel_⟩⟩
  case rest =>
    clear HC3
    (try clear c1); (try clear p2); (try clear c4); (try clear c4b0); (try clear c4b1)
    obtain ⟨kq, x16_2, rfl, HA, HJ2, HB⟩ := hcut
    cases kq with
    | zero => exact absurd HA.out (by simp [laws_FnFrame.j0])
    | succ kj2 =>
      have H := HA.out
      clear HA
      simp only [laws_FnFrame.j0] at H
      by_cases c5 : x16_2 = true
      · subst c5
        rw [if_pos rfl] at H
        obtain rfl := Option.some.inj H
        go_wp2
        go_ret
        exact ⟨ri_, bel_⟩
      · replace c5 := Bool.eq_false_iff.mpr c5
        subst c5
        rw [if_neg (show ¬ (false = true) by decide)] at H
        obtain ⟨⟨t463, t464, t465, t466, t467, t468⟩, A6, H⟩ := OB H
        try dsimp only at H
        replace A6 := AM A6
        obtain ⟨t470, A7, H⟩ := OB H
        try dsimp only at H
        replace A7 := AM A7
        have HC8 := AM H
        clear H
        go_upto_region 5 with (first | ((with_reducible refine gate_callee (f := 44) rfl ?_); refine gl_ (some 18) Tryd.func44 #[.slice A0 l0.length c0] ?_; (with_reducible refine (spec_DrawFrameBytes.calls kj2 _ _ l0 t463 t464 t465 t466 t467 t468 _ ?side1 ?side2 A6.out).mono ?_); (case side1 => repeat (first | exact (Kd.C_below HR0.out HB.out) | (with_reducible refine Kd.C_alloc ?_ _) | (with_reducible refine Kd.C_drewN ?_ _) | (with_reducible refine Kd.C_drew ?_))); (case side2 => exact HC0.out); rintro e w9 ⟨rfl, hb⟩; refine ⟨_, rfl, ?_⟩; replace HB := AM (below_step bel_ hb); (try clear hb); (try clear hb2); (try clear hk); (try clear hi)) | ((with_reducible refine gate_dst (N := 5) rfl ?_); (try (refine gate_guard (by rfl) ?_; dsimp only)); refine be_ 5 #[.int .i64 0, .int .i64 0, .int .i64 0, .int .i64 0, .string (⟨#[]⟩ : ByteArray), .string (⟨#[]⟩ : ByteArray)] 28 ?_; intro gb469 hg w10 hbox hb; have BK469 := AM hbox; have GW469 := AM ((by rw [hg]; exact (below_size bel_) : w.heap.size ≤ gb469)); have GE469 := AM ((by rw [hg]; exact (below_size bel_) : w.heap.size ≤ gb469)); replace HB := AM (below_step bel_ hb); clear hb hbox hg; have hcz11_0 : w10.cell? ⟨gb469, 0, none⟩ = some (.int .i64 0) := (blk_cell BK469.out 0).trans rfl; have hcz11_1 : w10.cell? ⟨gb469, 1, none⟩ = some (.int .i64 0) := (blk_cell BK469.out 1).trans rfl; have hcz11_2 : w10.cell? ⟨gb469, 2, none⟩ = some (.int .i64 0) := (blk_cell BK469.out 2).trans rfl; have hcz11_3 : w10.cell? ⟨gb469, 3, none⟩ = some (.int .i64 0) := (blk_cell BK469.out 3).trans rfl; have hcz11_4 : w10.cell? ⟨gb469, 4, none⟩ = some (.string (⟨#[]⟩ : ByteArray)) := (blk_cell BK469.out 4).trans rfl; have hcz11_5 : w10.cell? ⟨gb469, 5, none⟩ = some (.string (⟨#[]⟩ : ByteArray)) := (blk_cell BK469.out 5).trans rfl; have hfz11_0 := blk_frozen BK469.out 0; have hfz11_1 := blk_frozen BK469.out 1; have hfz11_2 := blk_frozen BK469.out 2; have hfz11_3 := blk_frozen BK469.out 3; have hfz11_4 := blk_frozen BK469.out 4; have hfz11_5 := blk_frozen BK469.out 5) | ((with_reducible refine gate_callee (f := 16) rfl ?_); refine gl_ (some 20) Tryd.func16 #[.agg #[.int .i64 t463, .int .i64 t464, .int .i64 t465, .int .i64 t466, .string t467, .string t468]] ?_; (with_reducible refine (impl_FrameBytes.calls kj2 t463 t464 t465 t466 t467 t468 t470 _ A7.out).mono ?_); rintro e w12 ⟨rfl, hb⟩; refine ⟨_, rfl, ?_⟩; replace BK469 := AM (blk_below (g := gb469) (o := .cells #[.int .i64 t463, .int .i64 t464, .int .i64 t465, .int .i64 t466, .string t467, .string t468] 28 (0, 0)) bka_ hb); replace HB := AM (below_step bel_ hb); (try clear hb); (try clear hb2); (try clear hk); (try clear hi)))
        (try simp only [Act.put, List.setIfInBounds_toArray, List.set_cons_zero, List.set_cons_succ])
        go_cut [31] (fun v31 wc => ∃ (kq : Nat) (x31_7 : Bool), v31 = .bool x31_7 ∧ Aside0 (laws_FnFrame.j1 kq l1 t470 x31_7 t463 t464 t465 t466 t467 t468 = some r) ∧ Aside0 (kq ≤ kj2) ∧ Aside0 (wc.heap[gb469]? = some (.cells #[.int .i64 t463, .int .i64 t464, .int .i64 t465, .int .i64 t466, .string t467, .string t468] 28 (0, 0))) ∧ Aside0 (Below w.heap.size w wc))
        case first =>
          have H := HC8.out
          clear HC8
          obtain ⟨t471, A13, H⟩ := OB H
          try dsimp only at H
          replace A13 := AM A13
          by_cases c14 : t470.toList = t471.toList
          · rw [if_pos c14] at H
            have c14b0 : (t470.toList == t471.toList) = true := beq_iff_eq.mpr c14
            have c14b1 : (t470.toList != t471.toList) = false := bne_eq_false_iff_eq.mpr c14
            clear c14
            (first | rw [c14b0] | (simp only [i64_w, i32_w]; rw [c14b0]) | skip)
            obtain ⟨t472, A15, H⟩ := OB H
            try dsimp only at H
            replace A15 := AM A15
            have H' := AM H
            clear H
            have hcz16_0 : w12.cell? ⟨gb469, 0, none⟩ = some (.int .i64 t463) := (blk_cell BK469.out 0).trans rfl
            have hcz16_1 : w12.cell? ⟨gb469, 1, none⟩ = some (.int .i64 t464) := (blk_cell BK469.out 1).trans rfl
            have hcz16_2 : w12.cell? ⟨gb469, 2, none⟩ = some (.int .i64 t465) := (blk_cell BK469.out 2).trans rfl
            have hcz16_3 : w12.cell? ⟨gb469, 3, none⟩ = some (.int .i64 t466) := (blk_cell BK469.out 3).trans rfl
            have hcz16_4 : w12.cell? ⟨gb469, 4, none⟩ = some (.string t467) := (blk_cell BK469.out 4).trans rfl
            have hcz16_5 : w12.cell? ⟨gb469, 5, none⟩ = some (.string t468) := (blk_cell BK469.out 5).trans rfl
            have hfz16_0 := blk_frozen BK469.out 0
            have hfz16_1 := blk_frozen BK469.out 1
            have hfz16_2 := blk_frozen BK469.out 2
            have hfz16_3 := blk_frozen BK469.out 3
            have hfz16_4 := blk_frozen BK469.out 4
            have hfz16_5 := blk_frozen BK469.out 5
            go_wp2_with (first | ((with_reducible refine gate_callee (f := 14) rfl ?_); refine gl_ (some 23) Tryd.func14 #[.agg #[.int .i64 t463, .int .i64 t464, .int .i64 t465, .int .i64 t466, .string t467, .string t468]] ?_; (with_reducible refine (spec_FrameBytes.calls kj2 t463 t464 t465 t466 t467 t468 t471 _ A13.out).mono ?_); rintro e w17 ⟨rfl, hb⟩; refine ⟨_, rfl, ?_⟩; replace BK469 := AM (blk_below (g := gb469) (o := .cells #[.int .i64 t463, .int .i64 t464, .int .i64 t465, .int .i64 t466, .string t467, .string t468] 28 (0, 0)) (bk_ BK469.out) hb); replace HB := AM (below_step bel_ hb); (try clear hb); (try clear hb2); (try clear hk); (try clear hi); have hcz18_0 : w17.cell? ⟨gb469, 0, none⟩ = some (.int .i64 t463) := (blk_cell BK469.out 0).trans rfl; have hcz18_1 : w17.cell? ⟨gb469, 1, none⟩ = some (.int .i64 t464) := (blk_cell BK469.out 1).trans rfl; have hcz18_2 : w17.cell? ⟨gb469, 2, none⟩ = some (.int .i64 t465) := (blk_cell BK469.out 2).trans rfl; have hcz18_3 : w17.cell? ⟨gb469, 3, none⟩ = some (.int .i64 t466) := (blk_cell BK469.out 3).trans rfl; have hcz18_4 : w17.cell? ⟨gb469, 4, none⟩ = some (.string t467) := (blk_cell BK469.out 4).trans rfl; have hcz18_5 : w17.cell? ⟨gb469, 5, none⟩ = some (.string t468) := (blk_cell BK469.out 5).trans rfl; have hfz18_0 := blk_frozen BK469.out 0; have hfz18_1 := blk_frozen BK469.out 1; have hfz18_2 := blk_frozen BK469.out 2; have hfz18_3 := blk_frozen BK469.out 3; have hfz18_4 := blk_frozen BK469.out 4; have hfz18_5 := blk_frozen BK469.out 5) | (go_at_call 45; (with_reducible refine (impl_FrameRight.calls t463 t464 t465 t466 t467 t468 t472 _ A15.out).mono ?_); rintro e w19 ⟨rfl, hb⟩; replace BK469 := AM (blk_below (g := gb469) (o := .cells #[.int .i64 t463, .int .i64 t464, .int .i64 t465, .int .i64 t466, .string t467, .string t468] 28 (0, 0)) (bk_ BK469.out) hb); replace HB := AM (below_step bel_ hb); (try clear hb); (try clear hb2); (try clear hk); (try clear hi)))
            go_meet
            case rel => exact ⟨_, ((t472 != (t470.toList != ([] : List UInt8)))), (by clear HB BK469 H' HJ2; generalize t470.toList = u_; cases t472 <;> cases u_ <;> simp), H', ⟨by have := HJ2.out; first | omega | exact Nat.le_refl _⟩, ⟨bk_ BK469.out⟩, ⟨bel_⟩⟩
          · rw [if_neg c14] at H
            have c14b0 : (t470.toList == t471.toList) = false := beq_eq_false_iff_ne.mpr c14
            have c14b1 : (t470.toList != t471.toList) = true := bne_iff_ne.mpr c14
            (first | rw [c14b0] | (simp only [i64_w, i32_w]; rw [c14b0]) | skip)
            have H' := AM H
            clear H
            have hcz20_0 : w12.cell? ⟨gb469, 0, none⟩ = some (.int .i64 t463) := (blk_cell BK469.out 0).trans rfl
            have hcz20_1 : w12.cell? ⟨gb469, 1, none⟩ = some (.int .i64 t464) := (blk_cell BK469.out 1).trans rfl
            have hcz20_2 : w12.cell? ⟨gb469, 2, none⟩ = some (.int .i64 t465) := (blk_cell BK469.out 2).trans rfl
            have hcz20_3 : w12.cell? ⟨gb469, 3, none⟩ = some (.int .i64 t466) := (blk_cell BK469.out 3).trans rfl
            have hcz20_4 : w12.cell? ⟨gb469, 4, none⟩ = some (.string t467) := (blk_cell BK469.out 4).trans rfl
            have hcz20_5 : w12.cell? ⟨gb469, 5, none⟩ = some (.string t468) := (blk_cell BK469.out 5).trans rfl
            have hfz20_0 := blk_frozen BK469.out 0
            have hfz20_1 := blk_frozen BK469.out 1
            have hfz20_2 := blk_frozen BK469.out 2
            have hfz20_3 := blk_frozen BK469.out 3
            have hfz20_4 := blk_frozen BK469.out 4
            have hfz20_5 := blk_frozen BK469.out 5
            go_wp2_with (first | ((with_reducible refine gate_callee (f := 14) rfl ?_); refine gl_ (some 23) Tryd.func14 #[.agg #[.int .i64 t463, .int .i64 t464, .int .i64 t465, .int .i64 t466, .string t467, .string t468]] ?_; (with_reducible refine (spec_FrameBytes.calls kj2 t463 t464 t465 t466 t467 t468 t471 _ A13.out).mono ?_); rintro e w21 ⟨rfl, hb⟩; refine ⟨_, rfl, ?_⟩; replace BK469 := AM (blk_below (g := gb469) (o := .cells #[.int .i64 t463, .int .i64 t464, .int .i64 t465, .int .i64 t466, .string t467, .string t468] 28 (0, 0)) (bk_ BK469.out) hb); replace HB := AM (below_step bel_ hb); (try clear hb); (try clear hb2); (try clear hk); (try clear hi)))
            go_meet
            case rel => exact ⟨_, (true), (by first | rfl | (simp; done) | (simp [*]; done)), H', ⟨by have := HJ2.out; first | omega | exact Nat.le_refl _⟩, ⟨bk_ BK469.out⟩, ⟨bel_⟩⟩
        case rest =>
          clear HC8
          (try clear c1); (try clear p2); (try clear c4); (try clear c4b0); (try clear c4b1); (try clear c5); (try clear c10); (try clear c14); (try clear c14b0); (try clear c14b1); (try clear c16); (try clear hcz11_0); (try clear hcz11_1); (try clear hcz11_2); (try clear hcz11_3); (try clear hcz11_4); (try clear hcz11_5); (try clear hcz16_0); (try clear hcz16_1); (try clear hcz16_2); (try clear hcz16_3); (try clear hcz16_4); (try clear hcz16_5); (try clear hcz18_0); (try clear hcz18_1); (try clear hcz18_2); (try clear hcz18_3); (try clear hcz18_4); (try clear hcz18_5); (try clear hcz20_0); (try clear hcz20_1); (try clear hcz20_2); (try clear hcz20_3); (try clear hcz20_4); (try clear hcz20_5); (try clear hfz11_0); (try clear hfz11_1); (try clear hfz11_2); (try clear hfz11_3); (try clear hfz11_4); (try clear hfz11_5); (try clear hfz16_0); (try clear hfz16_1); (try clear hfz16_2); (try clear hfz16_3); (try clear hfz16_4); (try clear hfz16_5); (try clear hfz18_0); (try clear hfz18_1); (try clear hfz18_2); (try clear hfz18_3); (try clear hfz18_4); (try clear hfz18_5); (try clear hfz20_0); (try clear hfz20_1); (try clear hfz20_2); (try clear hfz20_3); (try clear hfz20_4); (try clear hfz20_5); (try clear p2)
          obtain ⟨kq, x31_7, rfl, HA, HJ7, BK469, HB⟩ := hcut
          cases kq with
          | zero => exact absurd HA.out (by simp [laws_FnFrame.j1])
          | succ kj7 =>
            have H := HA.out
            clear HA
            simp only [laws_FnFrame.j1] at H
            by_cases c22 : x31_7 = true
            · subst c22
              rw [if_pos rfl] at H
              obtain rfl := Option.some.inj H
              go_wp2
              go_ret
              exact ⟨ri_, bel_⟩
            · replace c22 := Bool.eq_false_iff.mpr c22
              subst c22
              rw [if_neg (show ¬ (false = true) by decide)] at H
              have HC23 := AM H
              clear H
              go_upto_region 7 with (fail)
              go_cut [40] (fun v40 wc => ∃ (kq : Nat) (x40_22 : Bool), v40 = .bool x40_22 ∧ Aside0 (laws_FnFrame.j2 kq l1 x40_22 = some r) ∧ Aside0 (kq ≤ kj7) ∧ Aside0 (wc.heap[gb469]? = some (.cells #[.int .i64 t463, .int .i64 t464, .int .i64 t465, .int .i64 t466, .string t467, .string t468] 28 (0, 0))) ∧ Aside0 (Below w.heap.size w wc))
              case first =>
                have H := HC23.out
                clear HC23
                by_cases c24 : t470.toList = ([] : List UInt8)
                · rw [if_pos c24] at H
                  have c24b0 : (t470.toList == ([] : List UInt8)) = true := beq_iff_eq.mpr c24
                  have c24b1 : (t470.toList != ([] : List UInt8)) = false := bne_eq_false_iff_eq.mpr c24
                  clear c24
                  (first | rw [c24b0] | (simp only [i64_w, i32_w]; rw [c24b0]) | skip)
                  have H' := AM H
                  clear H
                  try go_wp2
                  replace BK469 := AM (blk_drew BK469.out)
                  replace HB := AM (below_drew1 HB.out)
                  refine start_ (n := 9) (S := fun w' => True) (ds := []) (Array.replicate 9 false) (by kernel_rfl) rfl rfl trivial (fun hHeld => ?_); refine with_tabW laws_FnFrame.tab7 laws_FnFrame.bits7 (fun HT_ HW_ => ?_)
                  generalize wc.drew = w25 at BK469 HB hHeld ⊢
                  refine pu_ HT_ 0 (some 32) (bA 9 1) ?_
                  refine pu_ HT_ 1 (some 33) (bA 9 3) ?_
                  refine pu_ HT_ 2 (some 34) (bA 9 7) ?_
                  refine pu_ HT_ 3 (some 35) (bA 9 15) ?_
                  refine pu_ HT_ 4 (some 36) (bA 9 31) ?_
                  refine pu_ HT_ 5 (some 37) (bA 9 63) ?_
                  refine pu_ HT_ 6 (some 38) (bA 9 127) ?_
                  refine pu_ HT_ 7 (some 39) (bA 9 255) ?_
                  refine pu_ HT_ 8 (some 40) (bA 9 511) ?_
                  refine dn_ HT_ ?_
                  try go_wp2
                  go_meet
                  case rel => exact ⟨_, (false), (by first | rfl | (simp; done) | (simp [*]; done)), H', ⟨by have := HJ2.out; have := HJ7.out; first | omega | exact Nat.le_refl _⟩, ⟨bk_ BK469.out⟩, ⟨bel_⟩⟩
                · rw [if_neg c24] at H
                  have c24b0 : (t470.toList == ([] : List UInt8)) = false := beq_eq_false_iff_ne.mpr c24
                  have c24b1 : (t470.toList != ([] : List UInt8)) = true := bne_iff_ne.mpr c24
                  (first | rw [c24b0] | (simp only [i64_w, i32_w]; rw [c24b0]) | skip)
                  obtain ⟨⟨t473, t474, t475, t476, t477, t478, t479⟩, A26, H⟩ := OB H
                  try dsimp only at H
                  replace A26 := AM A26
                  have H' := AM H
                  clear H
                  try go_wp2
                  replace BK469 := AM (blk_drew BK469.out)
                  replace HB := AM (below_drew1 HB.out)
                  refine start_ (n := 9) (S := fun w' => w'.cell? ⟨gb469, 0, none⟩ = some (.int .i64 t463) ∧ w'.cell? ⟨gb469, 1, none⟩ = some (.int .i64 t464) ∧ w'.cell? ⟨gb469, 2, none⟩ = some (.int .i64 t465) ∧ w'.cell? ⟨gb469, 3, none⟩ = some (.int .i64 t466) ∧ w'.cell? ⟨gb469, 4, none⟩ = some (.string t467) ∧ w'.cell? ⟨gb469, 5, none⟩ = some (.string t468)) (ds := []) (Array.replicate 9 false) (by kernel_rfl) rfl rfl ⟨(blk_cell BK469.out 0).trans rfl, (blk_cell BK469.out 1).trans rfl, (blk_cell BK469.out 2).trans rfl, (blk_cell BK469.out 3).trans rfl, (blk_cell BK469.out 4).trans rfl, (blk_cell BK469.out 5).trans rfl⟩ (fun hHeld => ?_); refine with_tabW laws_FnFrame.tab7 laws_FnFrame.bits7 (fun HT_ HW_ => ?_)
                  generalize wc.drew = w27 at BK469 HB hHeld ⊢
                  refine pu_ HT_ 0 (some 32) (bA 9 1) ?_
                  refine pu_ HT_ 1 (some 33) (bA 9 3) ?_
                  refine pu_ HT_ 2 (some 34) (bA 9 7) ?_
                  refine pu_ HT_ 3 (some 35) (bA 9 15) ?_
                  refine ta_ HT_ HW_ 5 (some 37) (bA 9 47) hHeld ?_
                  refine pu_ HT_ 6 (some 38) (bA 9 111) ?_
                  refine on_ HT_ 4 (some 36) (bA 9 127) (fun K hK => ?_)
                  refine go1_ Tryd.func33 #[.string t470] ?_
                  with_reducible refine (impl_FrameRead.calls kj7 t470 t473 t474 t475 t476 t477 t478 t479 _ A26.out).mono ?_
                  rintro e w28 ⟨rfl, hb⟩
                  refine ⟨_, rfl, ?_⟩
                  replace BK469 := AM (blk_below (g := gb469) (o := .cells #[.int .i64 t463, .int .i64 t464, .int .i64 t465, .int .i64 t466, .string t467, .string t468] 28 (0, 0)) (bk_ BK469.out) hb)
                  replace HB := AM (below_step bel_ hb)
                  (try clear hb); (try clear hb2); (try clear hk); (try clear hi)
                  refine hK.out _ _ ⟨(blk_cell BK469.out 0).trans rfl, (blk_cell BK469.out 1).trans rfl, (blk_cell BK469.out 2).trans rfl, (blk_cell BK469.out 3).trans rfl, (blk_cell BK469.out 4).trans rfl, (blk_cell BK469.out 5).trans rfl⟩ (fun hHeld => ?_)
                  clear hK K
                  refine nm_ ?_
                  refine pu_ HT_ 7 (some 39) (bA 9 255) ?_
                  refine pu_ HT_ 8 (some 40) (bA 9 511) ?_
                  refine dn_ HT_ ?_
                  try go_wp2
                  go_meet
                  case rel => exact ⟨_, (((!(t473 == t463) || (!(t474 == t464) || (!(t475 == t465) || (!(t476 == t466) || (!(t477.toList == t467.toList) || (!(t478.toList == t468.toList))))))) || (!(t479 == 0)))), (by first | rfl | (simp; done) | (simp [*]; done)), H', ⟨by have := HJ2.out; have := HJ7.out; first | omega | exact Nat.le_refl _⟩, ⟨bk_ BK469.out⟩, ⟨bel_⟩⟩
              case rest =>
                clear HC23
                (try clear c1); (try clear c2); (try clear p2); (try clear c3); (try clear c4); (try clear c4b0); (try clear c4b1); (try clear c5); (try clear c10); (try clear c14); (try clear c14b0); (try clear c14b1); (try clear c16); (try clear c22); (try clear c24); (try clear c24b0); (try clear c24b1); (try clear hcz11_0); (try clear hcz11_1); (try clear hcz11_2); (try clear hcz11_3); (try clear hcz11_4); (try clear hcz11_5); (try clear hcz16_0); (try clear hcz16_1); (try clear hcz16_2); (try clear hcz16_3); (try clear hcz16_4); (try clear hcz16_5); (try clear hcz18_0); (try clear hcz18_1); (try clear hcz18_2); (try clear hcz18_3); (try clear hcz18_4); (try clear hcz18_5); (try clear hcz20_0); (try clear hcz20_1); (try clear hcz20_2); (try clear hcz20_3); (try clear hcz20_4); (try clear hcz20_5); (try clear hfz11_0); (try clear hfz11_1); (try clear hfz11_2); (try clear hfz11_3); (try clear hfz11_4); (try clear hfz11_5); (try clear hfz16_0); (try clear hfz16_1); (try clear hfz16_2); (try clear hfz16_3); (try clear hfz16_4); (try clear hfz16_5); (try clear hfz18_0); (try clear hfz18_1); (try clear hfz18_2); (try clear hfz18_3); (try clear hfz18_4); (try clear hfz18_5); (try clear hfz20_0); (try clear hfz20_1); (try clear hfz20_2); (try clear hfz20_3); (try clear hfz20_4); (try clear hfz20_5); (try clear p2)
                obtain ⟨kq, x40_22, rfl, HA, HJ22, BK469, HB⟩ := hcut
                cases kq with
                | zero => exact absurd HA.out (by simp [laws_FnFrame.j2])
                | succ kj22 =>
                  have H := HA.out
                  clear HA
                  simp only [laws_FnFrame.j2] at H
                  by_cases c29 : x40_22 = true
                  · subst c29
                    rw [if_pos rfl] at H
                    obtain rfl := Option.some.inj H
                    go_wp2
                    go_ret
                    exact ⟨ri_, bel_⟩
                  · replace c29 := Bool.eq_false_iff.mpr c29
                    subst c29
                    rw [if_neg (show ¬ (false = true) by decide)] at H
                    obtain ⟨t480, A30, H⟩ := OB H
                    try dsimp only at H
                    replace A30 := AM A30
                    obtain ⟨⟨t481, t482, t483, t484, t485, t486, t487⟩, A31, H⟩ := OB H
                    try dsimp only at H
                    replace A31 := AM A31
                    obtain ⟨⟨t489, t490, t491, t492, t493, t494, t495⟩, A32, H⟩ := OB H
                    try dsimp only at H
                    replace A32 := AM A32
                    by_cases c33 : ((t481 == t489 && (t482 == t490 && (t483 == t491 && (t484 == t492 && (t485.toList == t493.toList && (t486.toList == t494.toList)))))) && (t487 == t495)) = true
                    · rw [if_pos c33] at H
                      have c33b0 : ((t481 == t489 && (t482 == t490 && (t483 == t491 && (t484 == t492 && (t485.toList == t493.toList && (t486.toList == t494.toList)))))) && (t487 == t495)) = true := c33
                      try have c33p : (((t481 = t489 ∧ (t482 = t490 ∧ (t483 = t491 ∧ (t484 = t492 ∧ (t485.toList = t493.toList ∧ (t486.toList = t494.toList)))))) ∧ (t487 = t495))) = True := eq_true (by have z_ := c33b0; simpa [] using z_)
                      clear c33
                      by_cases c34 : t487 = 0
                      · rw [if_pos c34] at H
                        have c34b0 : (t487 == 0) = true := beq_iff_eq.mpr c34
                        have c34b1 : (t487 != 0) = false := bne_eq_false_iff_eq.mpr c34
                        clear c34
                        obtain ⟨t496, A35, H⟩ := OB H
                        try dsimp only at H
                        replace A35 := AM A35
                        obtain rfl := Option.some.inj H
                        try go_wp2_with (first | ((with_reducible refine gate_callee (f := 46) rfl ?_); refine gl_ (some 42) Tryd.func46 #[.slice A1 l1.length c1] ?_; (with_reducible refine (spec_DrawFrameRead.calls kj22 _ _ l1 t480 _ ?side1 ?side2 A30.out).mono ?_); (case side1 => repeat (first | exact (Kd.C_below HR1.out HB.out) | (with_reducible refine Kd.C_alloc ?_ _) | (with_reducible refine Kd.C_drewN ?_ _) | (with_reducible refine Kd.C_drew ?_))); (case side2 => exact HC1.out); rintro e w36 ⟨rfl, hb⟩; refine ⟨_, rfl, ?_⟩; replace BK469 := AM (blk_below (g := gb469) (o := .cells #[.int .i64 t463, .int .i64 t464, .int .i64 t465, .int .i64 t466, .string t467, .string t468] 28 (0, 0)) (bk_ BK469.out) hb); replace HB := AM (below_step bel_ hb); (try clear hb); (try clear hb2); (try clear hk); (try clear hi)) | ((with_reducible refine gate_callee (f := 33) rfl ?_); refine gl_ (some 44) Tryd.func33 #[.string t480] ?_; (with_reducible refine (impl_FrameRead.calls kj22 t480 t481 t482 t483 t484 t485 t486 t487 _ A31.out).mono ?_); rintro e w37 ⟨rfl, hb⟩; refine ⟨_, rfl, ?_⟩; replace BK469 := AM (blk_below (g := gb469) (o := .cells #[.int .i64 t463, .int .i64 t464, .int .i64 t465, .int .i64 t466, .string t467, .string t468] 28 (0, 0)) (bk_ BK469.out) hb); replace HB := AM (below_step bel_ hb); (try clear hb); (try clear hb2); (try clear hk); (try clear hi)) | ((with_reducible refine gate_dst (N := 8) rfl ?_); (try (refine gate_guard (by rfl) ?_; dsimp only)); refine be_ 8 #[.int .i64 0, .int .i64 0, .int .i64 0, .int .i64 0, .string (⟨#[]⟩ : ByteArray), .string (⟨#[]⟩ : ByteArray), .int .i64 0] 50 ?_; intro gb488 hg w38 hbox hb; have BK488 := AM hbox; have GW488 := AM ((by rw [hg]; exact (below_size bel_) : w.heap.size ≤ gb488)); have GE488 := AM ((by rw [hg]; exact (below_size bel_) : w.heap.size ≤ gb488)); replace HB := AM (below_step bel_ hb); have NB469_488 := AM ((by rw [hg]; exact Nat.ne_of_lt (blk_lt (g := gb469) (o := .cells #[.int .i64 t463, .int .i64 t464, .int .i64 t465, .int .i64 t466, .string t467, .string t468] 28 (0, 0)) (bk_ BK469.out)) : gb469 ≠ gb488)); have NB488_469 := AM ((by rw [hg]; exact Nat.ne_of_gt (blk_lt (g := gb469) (o := .cells #[.int .i64 t463, .int .i64 t464, .int .i64 t465, .int .i64 t466, .string t467, .string t468] 28 (0, 0)) (bk_ BK469.out)) : gb488 ≠ gb469)); replace BK469 := AM (blk_below (g := gb469) (o := .cells #[.int .i64 t463, .int .i64 t464, .int .i64 t465, .int .i64 t466, .string t467, .string t468] 28 (0, 0)) (bk_ BK469.out) hb); clear hb hbox hg; have hnb39 := NB488_469.out; have hnc39 := NB469_488.out; have hcz40_0 : w38.cell? ⟨gb488, 0, none⟩ = some (.int .i64 0) := (blk_cell BK488.out 0).trans rfl; have hcz40_1 : w38.cell? ⟨gb488, 1, none⟩ = some (.int .i64 0) := (blk_cell BK488.out 1).trans rfl; have hcz40_2 : w38.cell? ⟨gb488, 2, none⟩ = some (.int .i64 0) := (blk_cell BK488.out 2).trans rfl; have hcz40_3 : w38.cell? ⟨gb488, 3, none⟩ = some (.int .i64 0) := (blk_cell BK488.out 3).trans rfl; have hcz40_4 : w38.cell? ⟨gb488, 4, none⟩ = some (.string (⟨#[]⟩ : ByteArray)) := (blk_cell BK488.out 4).trans rfl; have hcz40_5 : w38.cell? ⟨gb488, 5, none⟩ = some (.string (⟨#[]⟩ : ByteArray)) := (blk_cell BK488.out 5).trans rfl; have hcz40_6 : w38.cell? ⟨gb488, 6, none⟩ = some (.int .i64 0) := (blk_cell BK488.out 6).trans rfl; have hfz40_0 := blk_frozen BK488.out 0; have hfz40_1 := blk_frozen BK488.out 1; have hfz40_2 := blk_frozen BK488.out 2; have hfz40_3 := blk_frozen BK488.out 3; have hfz40_4 := blk_frozen BK488.out 4; have hfz40_5 := blk_frozen BK488.out 5; have hfz40_6 := blk_frozen BK488.out 6))
                        have n0_ : Aside0 ((((((((w38.setCell ⟨gb488, 0, none⟩ (.int .i64 t481)).setCell ⟨gb488, 1, none⟩ (.int .i64 t482)).setCell ⟨gb488, 2, none⟩ (.int .i64 t483)).setCell ⟨gb488, 3, none⟩ (.int .i64 t484)).setCell ⟨gb488, 4, none⟩ (.string t485)).setCell ⟨gb488, 5, none⟩ (.string t486)).setCell ⟨gb488, 6, none⟩ (.int .i64 t487)).heap[gb469]? = some (.cells #[.int .i64 t463, .int .i64 t464, .int .i64 t465, .int .i64 t466, .string t467, .string t468] 28 (0, 0))) := ⟨bka_⟩
                        have n1_ : Aside0 ((((((((w38.setCell ⟨gb488, 0, none⟩ (.int .i64 t481)).setCell ⟨gb488, 1, none⟩ (.int .i64 t482)).setCell ⟨gb488, 2, none⟩ (.int .i64 t483)).setCell ⟨gb488, 3, none⟩ (.int .i64 t484)).setCell ⟨gb488, 4, none⟩ (.string t485)).setCell ⟨gb488, 5, none⟩ (.string t486)).setCell ⟨gb488, 6, none⟩ (.int .i64 t487)).heap[gb488]? = some (.cells #[.int .i64 t481, .int .i64 t482, .int .i64 t483, .int .i64 t484, .string t485, .string t486, .int .i64 t487] 50 (0, 0))) := ⟨bka_⟩
                        have n2_ : Aside0 (Below w.heap.size w (((((((w38.setCell ⟨gb488, 0, none⟩ (.int .i64 t481)).setCell ⟨gb488, 1, none⟩ (.int .i64 t482)).setCell ⟨gb488, 2, none⟩ (.int .i64 t483)).setCell ⟨gb488, 3, none⟩ (.int .i64 t484)).setCell ⟨gb488, 4, none⟩ (.string t485)).setCell ⟨gb488, 5, none⟩ (.string t486)).setCell ⟨gb488, 6, none⟩ (.int .i64 t487))) := ⟨bel_⟩
                        (try clear BK469); (try clear BK488); (try clear HB)
                        generalize (((((((w38.setCell ⟨gb488, 0, none⟩ (.int .i64 t481)).setCell ⟨gb488, 1, none⟩ (.int .i64 t482)).setCell ⟨gb488, 2, none⟩ (.int .i64 t483)).setCell ⟨gb488, 3, none⟩ (.int .i64 t484)).setCell ⟨gb488, 4, none⟩ (.string t485)).setCell ⟨gb488, 5, none⟩ (.string t486)).setCell ⟨gb488, 6, none⟩ (.int .i64 t487)) = w41 at n0_ n1_ n2_ ⊢
                        have BK469 := n0_
                        have BK488 := n1_
                        have HB := n2_
                        clear n0_ n1_ n2_
                        replace BK469 := AM (blk_drew BK469.out)
                        replace BK488 := AM (blk_drew BK488.out)
                        replace HB := AM (below_drew1 HB.out)
                        refine start_ (n := 17) (S := fun w' => w'.cell? ⟨gb488, 0, none⟩ = some (.int .i64 t481) ∧ w'.cell? ⟨gb488, 1, none⟩ = some (.int .i64 t482) ∧ w'.cell? ⟨gb488, 2, none⟩ = some (.int .i64 t483) ∧ w'.cell? ⟨gb488, 3, none⟩ = some (.int .i64 t484) ∧ w'.cell? ⟨gb488, 4, none⟩ = some (.string t485) ∧ w'.cell? ⟨gb488, 5, none⟩ = some (.string t486) ∧ w'.cell? ⟨gb488, 6, none⟩ = some (.int .i64 t487)) (ds := []) (Array.replicate 17 false) (by kernel_rfl) rfl rfl ⟨(blk_cell BK488.out 0).trans rfl, (blk_cell BK488.out 1).trans rfl, (blk_cell BK488.out 2).trans rfl, (blk_cell BK488.out 3).trans rfl, (blk_cell BK488.out 4).trans rfl, (blk_cell BK488.out 5).trans rfl, (blk_cell BK488.out 6).trans rfl⟩ (fun hHeld => ?_); refine with_tabW laws_FnFrame.tab11 laws_FnFrame.bits11 (fun HT_ HW_ => ?_)
                        generalize w41.drew = w42 at BK469 BK488 HB hHeld ⊢
                        refine pu_ HT_ 1 (some 46) (bA 17 2) ?_
                        refine ta_ HT_ HW_ 0 (some 45) (bA 17 3) hHeld ?_
                        refine on_ HT_ 2 (some 47) (bA 17 7) (fun K hK => ?_)
                        refine go1_ Tryd.func32 #[.string t480] ?_
                        with_reducible refine (spec_FrameRead.calls kj22 t480 t489 t490 t491 t492 t493 t494 t495 _ A32.out).mono ?_
                        rintro e w43 ⟨rfl, hb⟩
                        refine ⟨_, rfl, ?_⟩
                        replace BK469 := AM (blk_below (g := gb469) (o := .cells #[.int .i64 t463, .int .i64 t464, .int .i64 t465, .int .i64 t466, .string t467, .string t468] 28 (0, 0)) (bk_ BK469.out) hb)
                        replace BK488 := AM (blk_below (g := gb488) (o := .cells #[.int .i64 t481, .int .i64 t482, .int .i64 t483, .int .i64 t484, .string t485, .string t486, .int .i64 t487] 50 (0, 0)) (bk_ BK488.out) hb)
                        replace HB := AM (below_step bel_ hb)
                        (try clear hb); (try clear hb2); (try clear hk); (try clear hi)
                        refine hK.out _ _ ⟨(blk_cell BK488.out 0).trans rfl, (blk_cell BK488.out 1).trans rfl, (blk_cell BK488.out 2).trans rfl, (blk_cell BK488.out 3).trans rfl, (blk_cell BK488.out 4).trans rfl, (blk_cell BK488.out 5).trans rfl, (blk_cell BK488.out 6).trans rfl⟩ (fun hHeld => ?_)
                        clear hK K
                        refine nm_ ?_
                        refine pu_ HT_ 3 (some 48) (bA 17 15) ?_
                        refine pu_ HT_ 4 (some 49) (bA 17 31) ?_
                        refine pu_ HT_ 5 (some 50) (bA 17 63) ?_
                        refine ta_ HT_ HW_ 6 (some 51) (bA 17 127) hHeld ?_
                        refine pu_ HT_ 7 (some 52) (bA 17 255) ?_
                        refine pu_ HT_ 8 (some 53) (bA 17 511) ?_
                        refine pu_ HT_ 9 (some 54) (bA 17 1023) ?_
                        refine pu_ HT_ 12 (some 57) (bA 17 5119) ?_
                        refine ta_ HT_ HW_ 10 (some 55) (bA 17 6143) hHeld ?_
                        refine on_ HT_ 11 (some 56) (bA 17 8191) (fun K hK => ?_)
                        refine go1_ Tryd.func16 #[.agg #[.int .i64 t481, .int .i64 t482, .int .i64 t483, .int .i64 t484, .string t485, .string t486]] ?_
                        with_reducible refine (impl_FrameBytes.calls kj22 t481 t482 t483 t484 t485 t486 t496 _ A35.out).mono ?_
                        rintro e w44 ⟨rfl, hb⟩
                        refine ⟨_, rfl, ?_⟩
                        replace BK469 := AM (blk_below (g := gb469) (o := .cells #[.int .i64 t463, .int .i64 t464, .int .i64 t465, .int .i64 t466, .string t467, .string t468] 28 (0, 0)) (bk_ BK469.out) hb)
                        replace BK488 := AM (blk_below (g := gb488) (o := .cells #[.int .i64 t481, .int .i64 t482, .int .i64 t483, .int .i64 t484, .string t485, .string t486, .int .i64 t487] 50 (0, 0)) (bk_ BK488.out) hb)
                        replace HB := AM (below_step bel_ hb)
                        (try clear hb); (try clear hb2); (try clear hk); (try clear hi)
                        refine hK.out _ _ ⟨(blk_cell BK488.out 0).trans rfl, (blk_cell BK488.out 1).trans rfl, (blk_cell BK488.out 2).trans rfl, (blk_cell BK488.out 3).trans rfl, (blk_cell BK488.out 4).trans rfl, (blk_cell BK488.out 5).trans rfl, (blk_cell BK488.out 6).trans rfl⟩ (fun hHeld => ?_)
                        clear hK K
                        refine nm_ ?_
                        refine pu_ HT_ 13 (some 58) (bA 17 16383) ?_
                        refine pu_ HT_ 14 (some 59) (bA 17 32767) ?_
                        refine pu_ HT_ 15 (some 60) (bA 17 65535) ?_
                        refine pu_ HT_ 16 (some 4) (bA 17 131071) ?_
                        refine dn_ HT_ ?_
                        try go_wp2
                        go_ret
                        exact ⟨ri_, bel_⟩
                      · rw [if_neg c34] at H
                        have c34b0 : (t487 == 0) = false := beq_eq_false_iff_ne.mpr c34
                        have c34b1 : (t487 != 0) = true := bne_iff_ne.mpr c34
                        obtain rfl := Option.some.inj H
                        try go_wp2_with (first | ((with_reducible refine gate_callee (f := 46) rfl ?_); refine gl_ (some 42) Tryd.func46 #[.slice A1 l1.length c1] ?_; (with_reducible refine (spec_DrawFrameRead.calls kj22 _ _ l1 t480 _ ?side1 ?side2 A30.out).mono ?_); (case side1 => repeat (first | exact (Kd.C_below HR1.out HB.out) | (with_reducible refine Kd.C_alloc ?_ _) | (with_reducible refine Kd.C_drewN ?_ _) | (with_reducible refine Kd.C_drew ?_))); (case side2 => exact HC1.out); rintro e w45 ⟨rfl, hb⟩; refine ⟨_, rfl, ?_⟩; replace BK469 := AM (blk_below (g := gb469) (o := .cells #[.int .i64 t463, .int .i64 t464, .int .i64 t465, .int .i64 t466, .string t467, .string t468] 28 (0, 0)) (bk_ BK469.out) hb); replace HB := AM (below_step bel_ hb); (try clear hb); (try clear hb2); (try clear hk); (try clear hi)) | ((with_reducible refine gate_callee (f := 33) rfl ?_); refine gl_ (some 44) Tryd.func33 #[.string t480] ?_; (with_reducible refine (impl_FrameRead.calls kj22 t480 t481 t482 t483 t484 t485 t486 t487 _ A31.out).mono ?_); rintro e w46 ⟨rfl, hb⟩; refine ⟨_, rfl, ?_⟩; replace BK469 := AM (blk_below (g := gb469) (o := .cells #[.int .i64 t463, .int .i64 t464, .int .i64 t465, .int .i64 t466, .string t467, .string t468] 28 (0, 0)) (bk_ BK469.out) hb); replace HB := AM (below_step bel_ hb); (try clear hb); (try clear hb2); (try clear hk); (try clear hi)) | ((with_reducible refine gate_dst (N := 8) rfl ?_); (try (refine gate_guard (by rfl) ?_; dsimp only)); refine be_ 8 #[.int .i64 0, .int .i64 0, .int .i64 0, .int .i64 0, .string (⟨#[]⟩ : ByteArray), .string (⟨#[]⟩ : ByteArray), .int .i64 0] 50 ?_; intro gb488 hg w47 hbox hb; have BK488 := AM hbox; have GW488 := AM ((by rw [hg]; exact (below_size bel_) : w.heap.size ≤ gb488)); have GE488 := AM ((by rw [hg]; exact (below_size bel_) : w.heap.size ≤ gb488)); replace HB := AM (below_step bel_ hb); have NB469_488 := AM ((by rw [hg]; exact Nat.ne_of_lt (blk_lt (g := gb469) (o := .cells #[.int .i64 t463, .int .i64 t464, .int .i64 t465, .int .i64 t466, .string t467, .string t468] 28 (0, 0)) (bk_ BK469.out)) : gb469 ≠ gb488)); have NB488_469 := AM ((by rw [hg]; exact Nat.ne_of_gt (blk_lt (g := gb469) (o := .cells #[.int .i64 t463, .int .i64 t464, .int .i64 t465, .int .i64 t466, .string t467, .string t468] 28 (0, 0)) (bk_ BK469.out)) : gb488 ≠ gb469)); replace BK469 := AM (blk_below (g := gb469) (o := .cells #[.int .i64 t463, .int .i64 t464, .int .i64 t465, .int .i64 t466, .string t467, .string t468] 28 (0, 0)) (bk_ BK469.out) hb); clear hb hbox hg; have hnb48 := NB488_469.out; have hnc48 := NB469_488.out; have hcz49_0 : w47.cell? ⟨gb488, 0, none⟩ = some (.int .i64 0) := (blk_cell BK488.out 0).trans rfl; have hcz49_1 : w47.cell? ⟨gb488, 1, none⟩ = some (.int .i64 0) := (blk_cell BK488.out 1).trans rfl; have hcz49_2 : w47.cell? ⟨gb488, 2, none⟩ = some (.int .i64 0) := (blk_cell BK488.out 2).trans rfl; have hcz49_3 : w47.cell? ⟨gb488, 3, none⟩ = some (.int .i64 0) := (blk_cell BK488.out 3).trans rfl; have hcz49_4 : w47.cell? ⟨gb488, 4, none⟩ = some (.string (⟨#[]⟩ : ByteArray)) := (blk_cell BK488.out 4).trans rfl; have hcz49_5 : w47.cell? ⟨gb488, 5, none⟩ = some (.string (⟨#[]⟩ : ByteArray)) := (blk_cell BK488.out 5).trans rfl; have hcz49_6 : w47.cell? ⟨gb488, 6, none⟩ = some (.int .i64 0) := (blk_cell BK488.out 6).trans rfl; have hfz49_0 := blk_frozen BK488.out 0; have hfz49_1 := blk_frozen BK488.out 1; have hfz49_2 := blk_frozen BK488.out 2; have hfz49_3 := blk_frozen BK488.out 3; have hfz49_4 := blk_frozen BK488.out 4; have hfz49_5 := blk_frozen BK488.out 5; have hfz49_6 := blk_frozen BK488.out 6))
                        have n0_ : Aside0 ((((((((w47.setCell ⟨gb488, 0, none⟩ (.int .i64 t481)).setCell ⟨gb488, 1, none⟩ (.int .i64 t482)).setCell ⟨gb488, 2, none⟩ (.int .i64 t483)).setCell ⟨gb488, 3, none⟩ (.int .i64 t484)).setCell ⟨gb488, 4, none⟩ (.string t485)).setCell ⟨gb488, 5, none⟩ (.string t486)).setCell ⟨gb488, 6, none⟩ (.int .i64 t487)).heap[gb469]? = some (.cells #[.int .i64 t463, .int .i64 t464, .int .i64 t465, .int .i64 t466, .string t467, .string t468] 28 (0, 0))) := ⟨bka_⟩
                        have n1_ : Aside0 ((((((((w47.setCell ⟨gb488, 0, none⟩ (.int .i64 t481)).setCell ⟨gb488, 1, none⟩ (.int .i64 t482)).setCell ⟨gb488, 2, none⟩ (.int .i64 t483)).setCell ⟨gb488, 3, none⟩ (.int .i64 t484)).setCell ⟨gb488, 4, none⟩ (.string t485)).setCell ⟨gb488, 5, none⟩ (.string t486)).setCell ⟨gb488, 6, none⟩ (.int .i64 t487)).heap[gb488]? = some (.cells #[.int .i64 t481, .int .i64 t482, .int .i64 t483, .int .i64 t484, .string t485, .string t486, .int .i64 t487] 50 (0, 0))) := ⟨bka_⟩
                        have n2_ : Aside0 (Below w.heap.size w (((((((w47.setCell ⟨gb488, 0, none⟩ (.int .i64 t481)).setCell ⟨gb488, 1, none⟩ (.int .i64 t482)).setCell ⟨gb488, 2, none⟩ (.int .i64 t483)).setCell ⟨gb488, 3, none⟩ (.int .i64 t484)).setCell ⟨gb488, 4, none⟩ (.string t485)).setCell ⟨gb488, 5, none⟩ (.string t486)).setCell ⟨gb488, 6, none⟩ (.int .i64 t487))) := ⟨bel_⟩
                        (try clear BK469); (try clear BK488); (try clear HB)
                        generalize (((((((w47.setCell ⟨gb488, 0, none⟩ (.int .i64 t481)).setCell ⟨gb488, 1, none⟩ (.int .i64 t482)).setCell ⟨gb488, 2, none⟩ (.int .i64 t483)).setCell ⟨gb488, 3, none⟩ (.int .i64 t484)).setCell ⟨gb488, 4, none⟩ (.string t485)).setCell ⟨gb488, 5, none⟩ (.string t486)).setCell ⟨gb488, 6, none⟩ (.int .i64 t487)) = w50 at n0_ n1_ n2_ ⊢
                        have BK469 := n0_
                        have BK488 := n1_
                        have HB := n2_
                        clear n0_ n1_ n2_
                        replace BK469 := AM (blk_drew BK469.out)
                        replace BK488 := AM (blk_drew BK488.out)
                        replace HB := AM (below_drew1 HB.out)
                        refine start_ (n := 17) (S := fun w' => w'.cell? ⟨gb488, 0, none⟩ = some (.int .i64 t481) ∧ w'.cell? ⟨gb488, 1, none⟩ = some (.int .i64 t482) ∧ w'.cell? ⟨gb488, 2, none⟩ = some (.int .i64 t483) ∧ w'.cell? ⟨gb488, 3, none⟩ = some (.int .i64 t484) ∧ w'.cell? ⟨gb488, 4, none⟩ = some (.string t485) ∧ w'.cell? ⟨gb488, 5, none⟩ = some (.string t486) ∧ w'.cell? ⟨gb488, 6, none⟩ = some (.int .i64 t487)) (ds := []) (Array.replicate 17 false) (by kernel_rfl) rfl rfl ⟨(blk_cell BK488.out 0).trans rfl, (blk_cell BK488.out 1).trans rfl, (blk_cell BK488.out 2).trans rfl, (blk_cell BK488.out 3).trans rfl, (blk_cell BK488.out 4).trans rfl, (blk_cell BK488.out 5).trans rfl, (blk_cell BK488.out 6).trans rfl⟩ (fun hHeld => ?_); refine with_tabW laws_FnFrame.tab11 laws_FnFrame.bits11 (fun HT_ HW_ => ?_)
                        generalize w50.drew = w51 at BK469 BK488 HB hHeld ⊢
                        refine pu_ HT_ 1 (some 46) (bA 17 2) ?_
                        refine ta_ HT_ HW_ 0 (some 45) (bA 17 3) hHeld ?_
                        refine on_ HT_ 2 (some 47) (bA 17 7) (fun K hK => ?_)
                        refine go1_ Tryd.func32 #[.string t480] ?_
                        with_reducible refine (spec_FrameRead.calls kj22 t480 t489 t490 t491 t492 t493 t494 t495 _ A32.out).mono ?_
                        rintro e w52 ⟨rfl, hb⟩
                        refine ⟨_, rfl, ?_⟩
                        replace BK469 := AM (blk_below (g := gb469) (o := .cells #[.int .i64 t463, .int .i64 t464, .int .i64 t465, .int .i64 t466, .string t467, .string t468] 28 (0, 0)) (bk_ BK469.out) hb)
                        replace BK488 := AM (blk_below (g := gb488) (o := .cells #[.int .i64 t481, .int .i64 t482, .int .i64 t483, .int .i64 t484, .string t485, .string t486, .int .i64 t487] 50 (0, 0)) (bk_ BK488.out) hb)
                        replace HB := AM (below_step bel_ hb)
                        (try clear hb); (try clear hb2); (try clear hk); (try clear hi)
                        refine hK.out _ _ ⟨(blk_cell BK488.out 0).trans rfl, (blk_cell BK488.out 1).trans rfl, (blk_cell BK488.out 2).trans rfl, (blk_cell BK488.out 3).trans rfl, (blk_cell BK488.out 4).trans rfl, (blk_cell BK488.out 5).trans rfl, (blk_cell BK488.out 6).trans rfl⟩ (fun hHeld => ?_)
                        clear hK K
                        refine nm_ ?_
                        refine pu_ HT_ 3 (some 48) (bA 17 15) ?_
                        refine pu_ HT_ 4 (some 49) (bA 17 31) ?_
                        refine pu_ HT_ 5 (some 50) (bA 17 63) ?_
                        refine ta_ HT_ HW_ 6 (some 51) (bA 17 127) hHeld ?_
                        refine pu_ HT_ 7 (some 52) (bA 17 255) ?_
                        refine pu_ HT_ 8 (some 53) (bA 17 511) ?_
                        refine pu_ HT_ 9 (some 54) (bA 17 1023) ?_
                        refine pu_ HT_ 10 (some 55) (bA 17 2047) ?_
                        refine pu_ HT_ 11 (some 56) (bA 17 4095) ?_
                        refine pu_ HT_ 12 (some 57) (bA 17 8191) ?_
                        refine pu_ HT_ 13 (some 58) (bA 17 16383) ?_
                        refine pu_ HT_ 14 (some 59) (bA 17 32767) ?_
                        refine pu_ HT_ 15 (some 60) (bA 17 65535) ?_
                        refine pu_ HT_ 16 (some 4) (bA 17 131071) ?_
                        refine dn_ HT_ ?_
                        try go_wp2
                        go_ret
                        exact ⟨ri_, bel_⟩
                    · rw [if_neg c33] at H
                      have c33b0 : ((t481 == t489 && (t482 == t490 && (t483 == t491 && (t484 == t492 && (t485.toList == t493.toList && (t486.toList == t494.toList)))))) && (t487 == t495)) = false := by simpa using c33
                      try have c33p : (((t481 = t489 ∧ (t482 = t490 ∧ (t483 = t491 ∧ (t484 = t492 ∧ (t485.toList = t493.toList ∧ (t486.toList = t494.toList)))))) ∧ (t487 = t495))) = False := eq_false (fun q_ => by have z_ := c33b0; simp [q_.1, q_.2] at z_)
                      clear c33
                      obtain rfl := Option.some.inj H
                      try go_wp2_with (first | ((with_reducible refine gate_callee (f := 46) rfl ?_); refine gl_ (some 42) Tryd.func46 #[.slice A1 l1.length c1] ?_; (with_reducible refine (spec_DrawFrameRead.calls kj22 _ _ l1 t480 _ ?side1 ?side2 A30.out).mono ?_); (case side1 => repeat (first | exact (Kd.C_below HR1.out HB.out) | (with_reducible refine Kd.C_alloc ?_ _) | (with_reducible refine Kd.C_drewN ?_ _) | (with_reducible refine Kd.C_drew ?_))); (case side2 => exact HC1.out); rintro e w53 ⟨rfl, hb⟩; refine ⟨_, rfl, ?_⟩; replace BK469 := AM (blk_below (g := gb469) (o := .cells #[.int .i64 t463, .int .i64 t464, .int .i64 t465, .int .i64 t466, .string t467, .string t468] 28 (0, 0)) (bk_ BK469.out) hb); replace HB := AM (below_step bel_ hb); (try clear hb); (try clear hb2); (try clear hk); (try clear hi)) | ((with_reducible refine gate_callee (f := 33) rfl ?_); refine gl_ (some 44) Tryd.func33 #[.string t480] ?_; (with_reducible refine (impl_FrameRead.calls kj22 t480 t481 t482 t483 t484 t485 t486 t487 _ A31.out).mono ?_); rintro e w54 ⟨rfl, hb⟩; refine ⟨_, rfl, ?_⟩; replace BK469 := AM (blk_below (g := gb469) (o := .cells #[.int .i64 t463, .int .i64 t464, .int .i64 t465, .int .i64 t466, .string t467, .string t468] 28 (0, 0)) (bk_ BK469.out) hb); replace HB := AM (below_step bel_ hb); (try clear hb); (try clear hb2); (try clear hk); (try clear hi)) | ((with_reducible refine gate_dst (N := 8) rfl ?_); (try (refine gate_guard (by rfl) ?_; dsimp only)); refine be_ 8 #[.int .i64 0, .int .i64 0, .int .i64 0, .int .i64 0, .string (⟨#[]⟩ : ByteArray), .string (⟨#[]⟩ : ByteArray), .int .i64 0] 50 ?_; intro gb488 hg w55 hbox hb; have BK488 := AM hbox; have GW488 := AM ((by rw [hg]; exact (below_size bel_) : w.heap.size ≤ gb488)); have GE488 := AM ((by rw [hg]; exact (below_size bel_) : w.heap.size ≤ gb488)); replace HB := AM (below_step bel_ hb); have NB469_488 := AM ((by rw [hg]; exact Nat.ne_of_lt (blk_lt (g := gb469) (o := .cells #[.int .i64 t463, .int .i64 t464, .int .i64 t465, .int .i64 t466, .string t467, .string t468] 28 (0, 0)) (bk_ BK469.out)) : gb469 ≠ gb488)); have NB488_469 := AM ((by rw [hg]; exact Nat.ne_of_gt (blk_lt (g := gb469) (o := .cells #[.int .i64 t463, .int .i64 t464, .int .i64 t465, .int .i64 t466, .string t467, .string t468] 28 (0, 0)) (bk_ BK469.out)) : gb488 ≠ gb469)); replace BK469 := AM (blk_below (g := gb469) (o := .cells #[.int .i64 t463, .int .i64 t464, .int .i64 t465, .int .i64 t466, .string t467, .string t468] 28 (0, 0)) (bk_ BK469.out) hb); clear hb hbox hg; have hnb56 := NB488_469.out; have hnc56 := NB469_488.out; have hcz57_0 : w55.cell? ⟨gb488, 0, none⟩ = some (.int .i64 0) := (blk_cell BK488.out 0).trans rfl; have hcz57_1 : w55.cell? ⟨gb488, 1, none⟩ = some (.int .i64 0) := (blk_cell BK488.out 1).trans rfl; have hcz57_2 : w55.cell? ⟨gb488, 2, none⟩ = some (.int .i64 0) := (blk_cell BK488.out 2).trans rfl; have hcz57_3 : w55.cell? ⟨gb488, 3, none⟩ = some (.int .i64 0) := (blk_cell BK488.out 3).trans rfl; have hcz57_4 : w55.cell? ⟨gb488, 4, none⟩ = some (.string (⟨#[]⟩ : ByteArray)) := (blk_cell BK488.out 4).trans rfl; have hcz57_5 : w55.cell? ⟨gb488, 5, none⟩ = some (.string (⟨#[]⟩ : ByteArray)) := (blk_cell BK488.out 5).trans rfl; have hcz57_6 : w55.cell? ⟨gb488, 6, none⟩ = some (.int .i64 0) := (blk_cell BK488.out 6).trans rfl; have hfz57_0 := blk_frozen BK488.out 0; have hfz57_1 := blk_frozen BK488.out 1; have hfz57_2 := blk_frozen BK488.out 2; have hfz57_3 := blk_frozen BK488.out 3; have hfz57_4 := blk_frozen BK488.out 4; have hfz57_5 := blk_frozen BK488.out 5; have hfz57_6 := blk_frozen BK488.out 6))
                      have n0_ : Aside0 ((((((((w55.setCell ⟨gb488, 0, none⟩ (.int .i64 t481)).setCell ⟨gb488, 1, none⟩ (.int .i64 t482)).setCell ⟨gb488, 2, none⟩ (.int .i64 t483)).setCell ⟨gb488, 3, none⟩ (.int .i64 t484)).setCell ⟨gb488, 4, none⟩ (.string t485)).setCell ⟨gb488, 5, none⟩ (.string t486)).setCell ⟨gb488, 6, none⟩ (.int .i64 t487)).heap[gb469]? = some (.cells #[.int .i64 t463, .int .i64 t464, .int .i64 t465, .int .i64 t466, .string t467, .string t468] 28 (0, 0))) := ⟨bka_⟩
                      have n1_ : Aside0 ((((((((w55.setCell ⟨gb488, 0, none⟩ (.int .i64 t481)).setCell ⟨gb488, 1, none⟩ (.int .i64 t482)).setCell ⟨gb488, 2, none⟩ (.int .i64 t483)).setCell ⟨gb488, 3, none⟩ (.int .i64 t484)).setCell ⟨gb488, 4, none⟩ (.string t485)).setCell ⟨gb488, 5, none⟩ (.string t486)).setCell ⟨gb488, 6, none⟩ (.int .i64 t487)).heap[gb488]? = some (.cells #[.int .i64 t481, .int .i64 t482, .int .i64 t483, .int .i64 t484, .string t485, .string t486, .int .i64 t487] 50 (0, 0))) := ⟨bka_⟩
                      have n2_ : Aside0 (Below w.heap.size w (((((((w55.setCell ⟨gb488, 0, none⟩ (.int .i64 t481)).setCell ⟨gb488, 1, none⟩ (.int .i64 t482)).setCell ⟨gb488, 2, none⟩ (.int .i64 t483)).setCell ⟨gb488, 3, none⟩ (.int .i64 t484)).setCell ⟨gb488, 4, none⟩ (.string t485)).setCell ⟨gb488, 5, none⟩ (.string t486)).setCell ⟨gb488, 6, none⟩ (.int .i64 t487))) := ⟨bel_⟩
                      (try clear BK469); (try clear BK488); (try clear HB)
                      generalize (((((((w55.setCell ⟨gb488, 0, none⟩ (.int .i64 t481)).setCell ⟨gb488, 1, none⟩ (.int .i64 t482)).setCell ⟨gb488, 2, none⟩ (.int .i64 t483)).setCell ⟨gb488, 3, none⟩ (.int .i64 t484)).setCell ⟨gb488, 4, none⟩ (.string t485)).setCell ⟨gb488, 5, none⟩ (.string t486)).setCell ⟨gb488, 6, none⟩ (.int .i64 t487)) = w58 at n0_ n1_ n2_ ⊢
                      have BK469 := n0_
                      have BK488 := n1_
                      have HB := n2_
                      clear n0_ n1_ n2_
                      replace BK469 := AM (blk_drew BK469.out)
                      replace BK488 := AM (blk_drew BK488.out)
                      replace HB := AM (below_drew1 HB.out)
                      refine start_ (n := 17) (S := fun w' => w'.cell? ⟨gb488, 0, none⟩ = some (.int .i64 t481) ∧ w'.cell? ⟨gb488, 1, none⟩ = some (.int .i64 t482) ∧ w'.cell? ⟨gb488, 2, none⟩ = some (.int .i64 t483) ∧ w'.cell? ⟨gb488, 3, none⟩ = some (.int .i64 t484) ∧ w'.cell? ⟨gb488, 4, none⟩ = some (.string t485) ∧ w'.cell? ⟨gb488, 5, none⟩ = some (.string t486) ∧ w'.cell? ⟨gb488, 6, none⟩ = some (.int .i64 t487)) (ds := []) (Array.replicate 17 false) (by kernel_rfl) rfl rfl ⟨(blk_cell BK488.out 0).trans rfl, (blk_cell BK488.out 1).trans rfl, (blk_cell BK488.out 2).trans rfl, (blk_cell BK488.out 3).trans rfl, (blk_cell BK488.out 4).trans rfl, (blk_cell BK488.out 5).trans rfl, (blk_cell BK488.out 6).trans rfl⟩ (fun hHeld => ?_); refine with_tabW laws_FnFrame.tab11 laws_FnFrame.bits11 (fun HT_ HW_ => ?_)
                      generalize w58.drew = w59 at BK469 BK488 HB hHeld ⊢
                      refine pu_ HT_ 1 (some 46) (bA 17 2) ?_
                      refine ta_ HT_ HW_ 0 (some 45) (bA 17 3) hHeld ?_
                      refine on_ HT_ 2 (some 47) (bA 17 7) (fun K hK => ?_)
                      refine go1_ Tryd.func32 #[.string t480] ?_
                      with_reducible refine (spec_FrameRead.calls kj22 t480 t489 t490 t491 t492 t493 t494 t495 _ A32.out).mono ?_
                      rintro e w60 ⟨rfl, hb⟩
                      refine ⟨_, rfl, ?_⟩
                      replace BK469 := AM (blk_below (g := gb469) (o := .cells #[.int .i64 t463, .int .i64 t464, .int .i64 t465, .int .i64 t466, .string t467, .string t468] 28 (0, 0)) (bk_ BK469.out) hb)
                      replace BK488 := AM (blk_below (g := gb488) (o := .cells #[.int .i64 t481, .int .i64 t482, .int .i64 t483, .int .i64 t484, .string t485, .string t486, .int .i64 t487] 50 (0, 0)) (bk_ BK488.out) hb)
                      replace HB := AM (below_step bel_ hb)
                      (try clear hb); (try clear hb2); (try clear hk); (try clear hi)
                      refine hK.out _ _ ⟨(blk_cell BK488.out 0).trans rfl, (blk_cell BK488.out 1).trans rfl, (blk_cell BK488.out 2).trans rfl, (blk_cell BK488.out 3).trans rfl, (blk_cell BK488.out 4).trans rfl, (blk_cell BK488.out 5).trans rfl, (blk_cell BK488.out 6).trans rfl⟩ (fun hHeld => ?_)
                      clear hK K
                      refine nm_ ?_
                      refine pu_ HT_ 3 (some 48) (bA 17 15) ?_
                      refine pu_ HT_ 4 (some 49) (bA 17 31) ?_
                      refine pu_ HT_ 5 (some 50) (bA 17 63) ?_
                      refine pu_ HT_ 6 (some 51) (bA 17 127) ?_
                      refine pu_ HT_ 7 (some 52) (bA 17 255) ?_
                      refine pu_ HT_ 8 (some 53) (bA 17 511) ?_
                      refine pu_ HT_ 9 (some 54) (bA 17 1023) ?_
                      refine pu_ HT_ 10 (some 55) (bA 17 2047) ?_
                      refine pu_ HT_ 11 (some 56) (bA 17 4095) ?_
                      refine pu_ HT_ 12 (some 57) (bA 17 8191) ?_
                      refine pu_ HT_ 13 (some 58) (bA 17 16383) ?_
                      refine pu_ HT_ 14 (some 59) (bA 17 32767) ?_
                      refine pu_ HT_ 15 (some 60) (bA 17 65535) ?_
                      refine pu_ HT_ 16 (some 4) (bA 17 131071) ?_
                      refine dn_ HT_ ?_
                      try go_wp2
                      go_ret
                      exact ⟨ri_, bel_⟩

/-- THE ONE PURE STATEMENT of laws_FnFrame: yours. -/
def laws_FnFrame.Pure : Prop := ∀ (l0 : List Int) (l1 : List Int), l0.length ≤ maxLen → l0.length * 1 ≤ 140737488351232 → (∀ x ∈ l0, (Lit.int .u8 x).wf = true) → l1.length ≤ maxLen → l1.length * 1 ≤ 140737488351232 → (∀ x ∈ l1, (Lit.int .u8 x).wf = true) → ∃ k, laws_FnFrame.f k l0 l1 = some true
theorem laws_FnFrame.walk (P : laws_FnFrame.Pure) (a0 : Option Addr) (len0 cap0 : Nat) (z0 : List Int) (a1 : Option Addr) (len1 cap1 : Nat) (z1 : List Int) (w : World) (w0 : (a0 = none ∧ len0 = 0 ∧ cap0 = 0 ∧ z0 = []) ∨ ∃ x, a0 = some x ∧ len0 ≤ cap0 ∧ cap0 ≤ maxLen ∧ z0.length = cap0 ∧ (∀ i, i < z0.length → w.cell? (x.add i) = some (.int .u8 (z0.getD i 0))) ∧ ∀ n ∈ z0, (Lit.int .u8 n).wf = true) (y0 : len0 * 1 ≤ 140737488351232) (w1 : (a1 = none ∧ len1 = 0 ∧ cap1 = 0 ∧ z1 = []) ∨ ∃ x, a1 = some x ∧ len1 ≤ cap1 ∧ cap1 ≤ maxLen ∧ z1.length = cap1 ∧ (∀ i, i < z1.length → w.cell? (x.add i) = some (.int .u8 (z1.getD i 0))) ∧ ∀ n ∈ z1, (Lit.int .u8 n).wf = true) (y1 : len1 * 1 ≤ 140737488351232) (hL : Hand.LaidG w := by first | exact hL | exact Hand.LaidG.below hL bel_) :
    Calls Tryd.prog 10 #[.slice a0 len0 cap0, .slice a1 len1 cap1] w fun e w' => e = .returned (.bool true) ∧ Below w.heap.size w w' := by
  obtain ⟨l0, rfl, hr0, hm0, hw0, hc0⟩ := ReadsInt.ofRowC w0
  obtain ⟨l1, rfl, hr1, hm1, hw1, hc1⟩ := ReadsInt.ofRowC w1
  obtain ⟨k, h⟩ := P l0 l1 hm0 y0 hw0 hm1 y1 hw1
  refine (laws_FnFrame.calls k _ _ l0 _ _ l1 true w (Kd.C_of_reads (d := (0 : Int)) (h1 := fun _ => rfl) hr0) hc0 (Kd.C_of_reads (d := (0 : Int)) (h1 := fun _ => rfl) hr1) hc1 h).mono ?_
  rintro e w' ⟨rfl, hd⟩
  exact ⟨rfl, hd⟩

end Go.Proofs.YtddapeieolfolaaDoor.PFnFrame
