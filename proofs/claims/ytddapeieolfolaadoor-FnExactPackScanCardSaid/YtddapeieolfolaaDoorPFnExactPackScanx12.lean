/- Functions of the law FnExactPackScan: the print's, with walks of this session's own. No statement is proved here. -/
import Derived.WalkLawsBesides
import Derived.Test.YtddapeieolfolaaDoorVRegFnExactPackScan
-- A program of this session wrote this text: a changed copy of the kit print, with given functions.
import Derived.Test.YtddapeieolfolaaDoorPFnExactPackScanx0
import Derived.Test.YtddapeieolfolaaDoorPFnExactPackScanx11
namespace Go.Proofs.YtddapeieolfolaaDoor.PFnExactPackScan
open Go.RowKit Go.Proofs.YtddapeieolfolaaDoorW.PrintWords Go.Proofs.YtddapeieolfolaaDoorW.PrintLast Go.Proofs.YtddapeieolfolaaDoorW.PrintMore Go.Proofs.YtddapeieolfolaaDoor.Reg Go.Proofs.YtddapeieolfolaaDoor.Aut
attribute [local go_sem] max2_int min2_int max_two min_two max_three min_three max_four min_four   -- for this text's walks alone
set_option linter.unusedVariables false
set_option linter.unusedSimpArgs false

/-! ### laws_heldEntryS: function 39 -/
def laws_heldEntryS.l0 : Nat → List (S61) → Int → Int → Option (Int)
  | 0, _, _, _ => none
  | k + 1, x0, x1, x5 => if x5 < (x0.length : Int) then (if 0 ≤ x5 then ((laws_markText.f k x1).bind fun t298 => (if ((rd_T61 x0 x5).f0).toList = t298.toList then (if ((rd_T61 x0 x5).f1) = (wrap64 (x1 + 1)) then (if ((rd_T61 x0 x5).f2) = (wrap64 ((wrap64 (x1 + 1)) + 1)) then (if ((rd_T61 x0 x5).f3) = (wrap64 ((wrap64 ((wrap64 (x1 + 1)) + 1)) + 1)) then (laws_heldEntryS.l0 k x0 (wrap64 ((wrap64 ((wrap64 ((wrap64 (x1 + 1)) + 1)) + 1)) + 1)) (wrap64 (x5 + 1))) else (some (-1))) else (some (-1))) else (some (-1))) else (some (-1)))) else (none)) else (some x1)
def laws_heldEntryS.f (k : Nat) (l0 : List (S61)) (a1 : Int) : Option (Int) := laws_heldEntryS.l0 k l0 a1 0
theorem laws_heldEntryS.mono_l : ∀ k, (∀ y0 y1 y2, LeO (laws_heldEntryS.l0 k y0 y1 y2) (laws_heldEntryS.l0 (k + 1) y0 y1 y2))
  | 0 => fun _ _ _ r h => by simp [laws_heldEntryS.l0] at h
  | k + 1 => by
    have ih0 := laws_heldEntryS.mono_l k
    · intro y0 y1 y2
      unfold laws_heldEntryS.l0
      repeat' first
      | (with_reducible exact ih0 _ _ _)
      | (with_reducible exact laws_markText.mono _ _)
      | (with_reducible exact LeO.refl _)
      | (with_reducible exact LeO.none _)
      | (with_reducible refine LeO.ite ?_ ?_)
      | (with_reducible refine LeO.bind ?_ (fun _ => ?_))
      | exact ih0 _ _ _
      | exact laws_markText.mono _ _
      | exact LeO.none _
      | refine LeO.ite ?_ ?_
      | refine LeO.bind ?_ (fun _ => ?_)
theorem laws_heldEntryS.mono : ∀ a0 a1 k, LeO (laws_heldEntryS.f k a0 a1) (laws_heldEntryS.f (k + 1) a0 a1) := by
  intro a0 a1 k
  have ih0 := laws_heldEntryS.mono_l k
  unfold laws_heldEntryS.f
  repeat' first
      | (with_reducible exact ih0 _ _ _)
      | (with_reducible exact laws_markText.mono _ _)
      | (with_reducible exact LeO.refl _)
      | (with_reducible exact LeO.none _)
      | (with_reducible refine LeO.ite ?_ ?_)
      | (with_reducible refine LeO.bind ?_ (fun _ => ?_))
      | exact ih0 _ _ _
      | exact laws_markText.mono _ _
      | exact LeO.none _
      | refine LeO.ite ?_ ?_
      | refine LeO.bind ?_ (fun _ => ?_)
def laws_heldEntryS.T4 : Bool × List (List Nat × List Nat) := (true, [([], []), ([], []), ([0, 1], [0, 1]), ([2], [2]), ([3], [3]), ([], []), ([5], [5]), ([4, 6], [4, 6])])
def laws_heldEntryS.B4 : List Nat := [0, 0, 3, 7, 15, 0, 32, 127]
theorem laws_heldEntryS.tab4 : rtab .any (opsOf Tryd.f39 4) = laws_heldEntryS.T4 := by kernel_rfl
theorem laws_heldEntryS.bits4 : waitsOk laws_heldEntryS.T4.2 laws_heldEntryS.B4 = true := by kernel_rfl
set_option maxHeartbeats 8000000 in
set_option maxRecDepth 100000 in
theorem laws_heldEntryS.calls (k : Nat) (A0 : Option Addr) (c0 : Nat) (l0 : List (S61)) (a1 : Int) (r : Int) (w : World) (hr0 : Kd.C k61 w A0 l0.length l0) (hc0 : l0.length ≤ c0) (h : laws_heldEntryS.f k l0 a1 = some r) :
    Calls Tryd.prog 39 #[.slice A0 l0.length c0, .int .i64 a1] w fun e w' => e = .returned (.int .i64 r) ∧ Below w.heap.size w w' := by
  have HR0 := AM hr0
  have HC0 := AM hc0
  clear hr0 hc0
  have HB := AM (Below.refl w.heap.size w)
  have H : (laws_heldEntryS.l0 k l0 a1 0) = some r := h
  clear h
  have H' := AM H
  clear H
  go_enter Tryd.func39, Tryd.ntmps39
  go_wp2
  go_loopg [1, 5] k (fun kq v1 v5 w' => ∃ (x1_1 : Int) (x5_1 : Int), v1 = .int .i64 x1_1 ∧ v5 = .int .i64 x5_1 ∧ Aside0 (laws_heldEntryS.l0 kq l0 x1_1 x5_1 = some r) ∧ Aside0 (kq ≤ k) ∧ Aside0 (Below w.heap.size w w'))
  case atStart => exact ⟨(a1), (0), (by first | rfl | (simp; done) | (simp [*]; done)), (by first | rfl | (simp; done) | (simp [*]; done)), H', ⟨Nat.le_refl _⟩, ⟨bel_⟩⟩
  case round =>
    clear H'
    try clear p2
    obtain ⟨x1_1, x5_1, rfl, rfl, HA, HK1, HB⟩ := hrel
    cases gk with
    | zero => exact absurd HA.out (by simp [laws_heldEntryS.l0])
    | succ k1 =>
      have H := HA.out
      clear HA
      simp only [laws_heldEntryS.l0] at H
      by_cases c3 : x5_1 < (l0.length : Int)
      · rw [if_pos c3] at H
        have c3b0 : decide (x5_1 < (l0.length : Int)) = true := decide_eq_true c3
        clear c3
        by_cases c4 : 0 ≤ x5_1
        · rw [if_pos c4] at H
          have c4b0 : decide (0 ≤ x5_1) = true := decide_eq_true c4
          clear c4
          obtain ⟨t298, A5, H⟩ := OB H
          try dsimp only at H
          replace A5 := AM A5
          by_cases c6 : ((rd_T61 l0 x5_1).f0).toList = t298.toList
          · rw [if_pos c6] at H
            have c6b0 : (((rd_T61 l0 x5_1).f0).toList == t298.toList) = true := beq_iff_eq.mpr c6
            have c6b1 : (((rd_T61 l0 x5_1).f0).toList != t298.toList) = false := bne_eq_false_iff_eq.mpr c6
            clear c6
            by_cases c7 : ((rd_T61 l0 x5_1).f1) = (wrap64 (x1_1 + 1))
            · rw [if_pos c7] at H
              have c7b0 : (((rd_T61 l0 x5_1).f1) == (wrap64 (x1_1 + 1))) = true := beq_iff_eq.mpr c7
              try have c7b9 : ((((rd_T61 l0 x5_1).f1) == ((x1_1 + 1)))) = true := (by have hw0 : wrap64 (x1_1 + 1) = x1_1 + 1 := (by unfold wrap64; omega); have z_ := c7b0; simp only [hw0] at z_; exact z_)
              have c7b1 : (((rd_T61 l0 x5_1).f1) != (wrap64 (x1_1 + 1))) = false := bne_eq_false_iff_eq.mpr c7
              clear c7
              by_cases c8 : ((rd_T61 l0 x5_1).f2) = (wrap64 ((wrap64 (x1_1 + 1)) + 1))
              · rw [if_pos c8] at H
                have c8b0 : (((rd_T61 l0 x5_1).f2) == (wrap64 ((wrap64 (x1_1 + 1)) + 1))) = true := beq_iff_eq.mpr c8
                try have c8b9 : ((((rd_T61 l0 x5_1).f2) == ((((x1_1 + 1)) + 1)))) = true := (by have hw0 : wrap64 (x1_1 + 1) = x1_1 + 1 := (by unfold wrap64; omega); have hw1 : wrap64 (((x1_1 + 1)) + 1) = ((x1_1 + 1)) + 1 := (by unfold wrap64; omega); have z_ := c8b0; simp only [hw0, hw1] at z_; exact z_)
                have c8b1 : (((rd_T61 l0 x5_1).f2) != (wrap64 ((wrap64 (x1_1 + 1)) + 1))) = false := bne_eq_false_iff_eq.mpr c8
                clear c8
                by_cases c9 : ((rd_T61 l0 x5_1).f3) = (wrap64 ((wrap64 ((wrap64 (x1_1 + 1)) + 1)) + 1))
                · rw [if_pos c9] at H
                  have c9b0 : (((rd_T61 l0 x5_1).f3) == (wrap64 ((wrap64 ((wrap64 (x1_1 + 1)) + 1)) + 1))) = true := beq_iff_eq.mpr c9
                  try have c9b9 : ((((rd_T61 l0 x5_1).f3) == ((((((x1_1 + 1)) + 1)) + 1)))) = true := (by have hw0 : wrap64 (x1_1 + 1) = x1_1 + 1 := (by unfold wrap64; omega); have hw1 : wrap64 (((x1_1 + 1)) + 1) = ((x1_1 + 1)) + 1 := (by unfold wrap64; omega); have hw2 : wrap64 (((((x1_1 + 1)) + 1)) + 1) = ((((x1_1 + 1)) + 1)) + 1 := (by unfold wrap64; omega); have z_ := c9b0; simp only [hw0, hw1, hw2] at z_; exact z_)
                  have c9b1 : (((rd_T61 l0 x5_1).f3) != (wrap64 ((wrap64 ((wrap64 (x1_1 + 1)) + 1)) + 1))) = false := bne_eq_false_iff_eq.mpr c9
                  clear c9
                  have H' := AM H
                  clear H
                  try go_wp2
                  replace HB := AM (below_drew1 HB.out)
                  have p297 : 0 ≤ (x5_1 : Int) := of_decide_eq_true (by first | (with_reducible assumption) | assumption)
                  have q297 : x5_1 < (l0.length : Int) := of_decide_eq_true (by first | (with_reducible assumption) | assumption)
                  obtain ⟨ad297, e297, hx297_0, hx297_1, hx297_2, hx297_3⟩ := at_T61 HR0.out x5_1 p297 q297
                  have hw297_3 := hx297_3
                  have hw297_2 := hx297_2
                  have hw297_1 := hx297_1
                  have hw297_0 := hx297_0
                  cases e297
                  replace hx297_0 := (HB.out.cell (World.block_lt_of_cell? w _ hx297_0)).trans hx297_0
                  replace hx297_1 := (HB.out.cell (World.block_lt_of_cell? w _ hx297_1)).trans hx297_1
                  replace hx297_2 := (HB.out.cell (World.block_lt_of_cell? w _ hx297_2)).trans hx297_2
                  replace hx297_3 := (HB.out.cell (World.block_lt_of_cell? w _ hx297_3)).trans hx297_3
                  replace p297 := eq_true p297
                  replace q297 := eq_true q297
                  refine start_ (n := 8) (S := fun w' => w'.cell? (ad297.add ((x5_1).toNat * 4)) = some (.string ((rd_T61 l0 x5_1).f0)) ∧ w'.cell? ⟨(ad297.add ((x5_1).toNat * 4)).block, (ad297.add ((x5_1).toNat * 4)).off + 1, none⟩ = some (.int .i64 ((rd_T61 l0 x5_1).f1)) ∧ w'.cell? ⟨(ad297.add ((x5_1).toNat * 4)).block, (ad297.add ((x5_1).toNat * 4)).off + 2, none⟩ = some (.int .i64 ((rd_T61 l0 x5_1).f2)) ∧ w'.cell? ⟨(ad297.add ((x5_1).toNat * 4)).block, (ad297.add ((x5_1).toNat * 4)).off + 3, none⟩ = some (.int .i64 ((rd_T61 l0 x5_1).f3))) (ds := []) #[false, false, false, false, false, false, false, false] (by kernel_rfl) rfl rfl ⟨((HB.out.cell (World.block_lt_of_cell? w _ hw297_0)).trans hw297_0), ((HB.out.cell (World.block_lt_of_cell? w _ hw297_1)).trans hw297_1), ((HB.out.cell (World.block_lt_of_cell? w _ hw297_2)).trans hw297_2), ((HB.out.cell (World.block_lt_of_cell? w _ hw297_3)).trans hw297_3)⟩ (fun hHeld => ?_); refine with_tabW laws_heldEntryS.tab4 laws_heldEntryS.bits4 (fun HT_ HW_ => ?_)
                  generalize wr.drew = w10 at HB hx297_0 hx297_1 hx297_2 hx297_3 hHeld ⊢
                  refine pu_ HT_ 0 (some 12) #[true, false, false, false, false, false, false, false] ?_
                  refine pu_ HT_ 1 (some 13) #[true, true, false, false, false, false, false, false] ?_
                  refine pu_ HT_ 2 (some 14) #[true, true, true, false, false, false, false, false] ?_
                  refine pu_ HT_ 3 (some 15) #[true, true, true, true, false, false, false, false] ?_
                  refine pu_ HT_ 5 (some 17) #[true, true, true, true, false, true, false, false] ?_
                  refine ta_ HT_ HW_ 4 (some 16) #[true, true, true, true, true, true, false, false] hHeld ?_
                  refine on_ HT_ 6 (some 18) #[true, true, true, true, true, true, true, false] (fun K hK => ?_)
                  refine go1_ Tryd.func86 #[.int .i64 x1_1] ?_
                  with_reducible refine (laws_markText.calls k1 x1_1 t298 _ A5.out).mono ?_
                  rintro e w11 ⟨rfl, hb⟩
                  refine ⟨_, rfl, ?_⟩
                  replace HB := AM (below_step bel_ hb)
                  (try clear hb)
                  (try clear hb2)
                  (try clear hk)
                  (try clear hi)
                  refine hK.out _ _ ⟨((HB.out.cell (World.block_lt_of_cell? w _ hw297_0)).trans hw297_0), ((HB.out.cell (World.block_lt_of_cell? w _ hw297_1)).trans hw297_1), ((HB.out.cell (World.block_lt_of_cell? w _ hw297_2)).trans hw297_2), ((HB.out.cell (World.block_lt_of_cell? w _ hw297_3)).trans hw297_3)⟩ (fun hHeld => ?_)
                  clear hK K
                  refine nm_ ?_
                  refine pu_ HT_ 7 (some 19) #[true, true, true, true, true, true, true, true] ?_
                  refine dn_ HT_ ?_
                  have p299 : 0 ≤ (x5_1 : Int) := of_decide_eq_true (by first | (with_reducible assumption) | assumption)
                  have q299 : x5_1 < (l0.length : Int) := of_decide_eq_true (by first | (with_reducible assumption) | assumption)
                  obtain ⟨ad299, e299, hx299_0, hx299_1, hx299_2, hx299_3⟩ := at_T61 HR0.out x5_1 p299 q299
                  obtain rfl : ad297 = ad299 := (by injection e299)
                  replace hx299_0 := (HB.out.cell (World.block_lt_of_cell? w _ hx299_0)).trans hx299_0
                  replace hx299_1 := (HB.out.cell (World.block_lt_of_cell? w _ hx299_1)).trans hx299_1
                  replace hx299_2 := (HB.out.cell (World.block_lt_of_cell? w _ hx299_2)).trans hx299_2
                  replace hx299_3 := (HB.out.cell (World.block_lt_of_cell? w _ hx299_3)).trans hx299_3
                  replace p299 := eq_true p299
                  replace q299 := eq_true q299
                  have p300 : 0 ≤ (x5_1 : Int) := of_decide_eq_true (by first | (with_reducible assumption) | assumption)
                  have q300 : x5_1 < (l0.length : Int) := of_decide_eq_true (by first | (with_reducible assumption) | assumption)
                  obtain ⟨ad300, e300, hx300_0, hx300_1, hx300_2, hx300_3⟩ := at_T61 HR0.out x5_1 p300 q300
                  obtain rfl : ad297 = ad300 := (by injection e300)
                  replace hx300_0 := (HB.out.cell (World.block_lt_of_cell? w _ hx300_0)).trans hx300_0
                  replace hx300_1 := (HB.out.cell (World.block_lt_of_cell? w _ hx300_1)).trans hx300_1
                  replace hx300_2 := (HB.out.cell (World.block_lt_of_cell? w _ hx300_2)).trans hx300_2
                  replace hx300_3 := (HB.out.cell (World.block_lt_of_cell? w _ hx300_3)).trans hx300_3
                  replace p300 := eq_true p300
                  replace q300 := eq_true q300
                  have p301 : 0 ≤ (x5_1 : Int) := of_decide_eq_true (by first | (with_reducible assumption) | assumption)
                  have q301 : x5_1 < (l0.length : Int) := of_decide_eq_true (by first | (with_reducible assumption) | assumption)
                  obtain ⟨ad301, e301, hx301_0, hx301_1, hx301_2, hx301_3⟩ := at_T61 HR0.out x5_1 p301 q301
                  obtain rfl : ad297 = ad301 := (by injection e301)
                  replace hx301_0 := (HB.out.cell (World.block_lt_of_cell? w _ hx301_0)).trans hx301_0
                  replace hx301_1 := (HB.out.cell (World.block_lt_of_cell? w _ hx301_1)).trans hx301_1
                  replace hx301_2 := (HB.out.cell (World.block_lt_of_cell? w _ hx301_2)).trans hx301_2
                  replace hx301_3 := (HB.out.cell (World.block_lt_of_cell? w _ hx301_3)).trans hx301_3
                  replace p301 := eq_true p301
                  replace q301 := eq_true q301
                  try go_wp2
                  go_roundg k1
                  case measure => have := HK1.out; omega
                  case rel => exact ⟨(wrap64 ((wrap64 ((wrap64 ((wrap64 (x1_1 + 1)) + 1)) + 1)) + 1)), (wrap64 (x5_1 + 1)), (by first | rfl | (simp; done) | (simp [*]; done)), (by first | rfl | (simp; done) | (simp [*]; done)), H', ⟨by have := HK1.out; omega⟩, ⟨bel_⟩⟩
                · rw [if_neg c9] at H
                  have c9b0 : (((rd_T61 l0 x5_1).f3) == (wrap64 ((wrap64 ((wrap64 (x1_1 + 1)) + 1)) + 1))) = false := beq_eq_false_iff_ne.mpr c9
                  try have c9b9 : ((((rd_T61 l0 x5_1).f3) == ((((((x1_1 + 1)) + 1)) + 1)))) = false := (by have hw0 : wrap64 (x1_1 + 1) = x1_1 + 1 := (by unfold wrap64; omega); have hw1 : wrap64 (((x1_1 + 1)) + 1) = ((x1_1 + 1)) + 1 := (by unfold wrap64; omega); have hw2 : wrap64 (((((x1_1 + 1)) + 1)) + 1) = ((((x1_1 + 1)) + 1)) + 1 := (by unfold wrap64; omega); have z_ := c9b0; simp only [hw0, hw1, hw2] at z_; exact z_)
                  have c9b1 : (((rd_T61 l0 x5_1).f3) != (wrap64 ((wrap64 ((wrap64 (x1_1 + 1)) + 1)) + 1))) = true := bne_iff_ne.mpr c9
                  obtain rfl := Option.some.inj H
                  try go_wp2
                  replace HB := AM (below_drew1 HB.out)
                  have p297 : 0 ≤ (x5_1 : Int) := of_decide_eq_true (by first | (with_reducible assumption) | assumption)
                  have q297 : x5_1 < (l0.length : Int) := of_decide_eq_true (by first | (with_reducible assumption) | assumption)
                  obtain ⟨ad297, e297, hx297_0, hx297_1, hx297_2, hx297_3⟩ := at_T61 HR0.out x5_1 p297 q297
                  have hw297_3 := hx297_3
                  have hw297_2 := hx297_2
                  have hw297_1 := hx297_1
                  have hw297_0 := hx297_0
                  cases e297
                  replace hx297_0 := (HB.out.cell (World.block_lt_of_cell? w _ hx297_0)).trans hx297_0
                  replace hx297_1 := (HB.out.cell (World.block_lt_of_cell? w _ hx297_1)).trans hx297_1
                  replace hx297_2 := (HB.out.cell (World.block_lt_of_cell? w _ hx297_2)).trans hx297_2
                  replace hx297_3 := (HB.out.cell (World.block_lt_of_cell? w _ hx297_3)).trans hx297_3
                  replace p297 := eq_true p297
                  replace q297 := eq_true q297
                  refine start_ (n := 8) (S := fun w' => w'.cell? (ad297.add ((x5_1).toNat * 4)) = some (.string ((rd_T61 l0 x5_1).f0)) ∧ w'.cell? ⟨(ad297.add ((x5_1).toNat * 4)).block, (ad297.add ((x5_1).toNat * 4)).off + 1, none⟩ = some (.int .i64 ((rd_T61 l0 x5_1).f1)) ∧ w'.cell? ⟨(ad297.add ((x5_1).toNat * 4)).block, (ad297.add ((x5_1).toNat * 4)).off + 2, none⟩ = some (.int .i64 ((rd_T61 l0 x5_1).f2)) ∧ w'.cell? ⟨(ad297.add ((x5_1).toNat * 4)).block, (ad297.add ((x5_1).toNat * 4)).off + 3, none⟩ = some (.int .i64 ((rd_T61 l0 x5_1).f3))) (ds := []) #[false, false, false, false, false, false, false, false] (by kernel_rfl) rfl rfl ⟨((HB.out.cell (World.block_lt_of_cell? w _ hw297_0)).trans hw297_0), ((HB.out.cell (World.block_lt_of_cell? w _ hw297_1)).trans hw297_1), ((HB.out.cell (World.block_lt_of_cell? w _ hw297_2)).trans hw297_2), ((HB.out.cell (World.block_lt_of_cell? w _ hw297_3)).trans hw297_3)⟩ (fun hHeld => ?_); refine with_tabW laws_heldEntryS.tab4 laws_heldEntryS.bits4 (fun HT_ HW_ => ?_)
                  generalize wr.drew = w12 at HB hx297_0 hx297_1 hx297_2 hx297_3 hHeld ⊢
                  refine pu_ HT_ 0 (some 12) #[true, false, false, false, false, false, false, false] ?_
                  refine pu_ HT_ 1 (some 13) #[true, true, false, false, false, false, false, false] ?_
                  refine pu_ HT_ 2 (some 14) #[true, true, true, false, false, false, false, false] ?_
                  refine pu_ HT_ 3 (some 15) #[true, true, true, true, false, false, false, false] ?_
                  refine pu_ HT_ 5 (some 17) #[true, true, true, true, false, true, false, false] ?_
                  refine ta_ HT_ HW_ 4 (some 16) #[true, true, true, true, true, true, false, false] hHeld ?_
                  refine on_ HT_ 6 (some 18) #[true, true, true, true, true, true, true, false] (fun K hK => ?_)
                  refine go1_ Tryd.func86 #[.int .i64 x1_1] ?_
                  with_reducible refine (laws_markText.calls k1 x1_1 t298 _ A5.out).mono ?_
                  rintro e w13 ⟨rfl, hb⟩
                  refine ⟨_, rfl, ?_⟩
                  replace HB := AM (below_step bel_ hb)
                  (try clear hb)
                  (try clear hb2)
                  (try clear hk)
                  (try clear hi)
                  refine hK.out _ _ ⟨((HB.out.cell (World.block_lt_of_cell? w _ hw297_0)).trans hw297_0), ((HB.out.cell (World.block_lt_of_cell? w _ hw297_1)).trans hw297_1), ((HB.out.cell (World.block_lt_of_cell? w _ hw297_2)).trans hw297_2), ((HB.out.cell (World.block_lt_of_cell? w _ hw297_3)).trans hw297_3)⟩ (fun hHeld => ?_)
                  clear hK K
                  refine nm_ ?_
                  refine pu_ HT_ 7 (some 19) #[true, true, true, true, true, true, true, true] ?_
                  refine dn_ HT_ ?_
                  have p299 : 0 ≤ (x5_1 : Int) := of_decide_eq_true (by first | (with_reducible assumption) | assumption)
                  have q299 : x5_1 < (l0.length : Int) := of_decide_eq_true (by first | (with_reducible assumption) | assumption)
                  obtain ⟨ad299, e299, hx299_0, hx299_1, hx299_2, hx299_3⟩ := at_T61 HR0.out x5_1 p299 q299
                  obtain rfl : ad297 = ad299 := (by injection e299)
                  replace hx299_0 := (HB.out.cell (World.block_lt_of_cell? w _ hx299_0)).trans hx299_0
                  replace hx299_1 := (HB.out.cell (World.block_lt_of_cell? w _ hx299_1)).trans hx299_1
                  replace hx299_2 := (HB.out.cell (World.block_lt_of_cell? w _ hx299_2)).trans hx299_2
                  replace hx299_3 := (HB.out.cell (World.block_lt_of_cell? w _ hx299_3)).trans hx299_3
                  replace p299 := eq_true p299
                  replace q299 := eq_true q299
                  have p300 : 0 ≤ (x5_1 : Int) := of_decide_eq_true (by first | (with_reducible assumption) | assumption)
                  have q300 : x5_1 < (l0.length : Int) := of_decide_eq_true (by first | (with_reducible assumption) | assumption)
                  obtain ⟨ad300, e300, hx300_0, hx300_1, hx300_2, hx300_3⟩ := at_T61 HR0.out x5_1 p300 q300
                  obtain rfl : ad297 = ad300 := (by injection e300)
                  replace hx300_0 := (HB.out.cell (World.block_lt_of_cell? w _ hx300_0)).trans hx300_0
                  replace hx300_1 := (HB.out.cell (World.block_lt_of_cell? w _ hx300_1)).trans hx300_1
                  replace hx300_2 := (HB.out.cell (World.block_lt_of_cell? w _ hx300_2)).trans hx300_2
                  replace hx300_3 := (HB.out.cell (World.block_lt_of_cell? w _ hx300_3)).trans hx300_3
                  replace p300 := eq_true p300
                  replace q300 := eq_true q300
                  have p301 : 0 ≤ (x5_1 : Int) := of_decide_eq_true (by first | (with_reducible assumption) | assumption)
                  have q301 : x5_1 < (l0.length : Int) := of_decide_eq_true (by first | (with_reducible assumption) | assumption)
                  obtain ⟨ad301, e301, hx301_0, hx301_1, hx301_2, hx301_3⟩ := at_T61 HR0.out x5_1 p301 q301
                  obtain rfl : ad297 = ad301 := (by injection e301)
                  replace hx301_0 := (HB.out.cell (World.block_lt_of_cell? w _ hx301_0)).trans hx301_0
                  replace hx301_1 := (HB.out.cell (World.block_lt_of_cell? w _ hx301_1)).trans hx301_1
                  replace hx301_2 := (HB.out.cell (World.block_lt_of_cell? w _ hx301_2)).trans hx301_2
                  replace hx301_3 := (HB.out.cell (World.block_lt_of_cell? w _ hx301_3)).trans hx301_3
                  replace p301 := eq_true p301
                  replace q301 := eq_true q301
                  try go_wp2
                  go_ret
                  exact ⟨ri_, bel_⟩
              · rw [if_neg c8] at H
                have c8b0 : (((rd_T61 l0 x5_1).f2) == (wrap64 ((wrap64 (x1_1 + 1)) + 1))) = false := beq_eq_false_iff_ne.mpr c8
                try have c8b9 : ((((rd_T61 l0 x5_1).f2) == ((((x1_1 + 1)) + 1)))) = false := (by have hw0 : wrap64 (x1_1 + 1) = x1_1 + 1 := (by unfold wrap64; omega); have hw1 : wrap64 (((x1_1 + 1)) + 1) = ((x1_1 + 1)) + 1 := (by unfold wrap64; omega); have z_ := c8b0; simp only [hw0, hw1] at z_; exact z_)
                have c8b1 : (((rd_T61 l0 x5_1).f2) != (wrap64 ((wrap64 (x1_1 + 1)) + 1))) = true := bne_iff_ne.mpr c8
                obtain rfl := Option.some.inj H
                try go_wp2
                replace HB := AM (below_drew1 HB.out)
                have p297 : 0 ≤ (x5_1 : Int) := of_decide_eq_true (by first | (with_reducible assumption) | assumption)
                have q297 : x5_1 < (l0.length : Int) := of_decide_eq_true (by first | (with_reducible assumption) | assumption)
                obtain ⟨ad297, e297, hx297_0, hx297_1, hx297_2, hx297_3⟩ := at_T61 HR0.out x5_1 p297 q297
                have hw297_3 := hx297_3
                have hw297_2 := hx297_2
                have hw297_1 := hx297_1
                have hw297_0 := hx297_0
                cases e297
                replace hx297_0 := (HB.out.cell (World.block_lt_of_cell? w _ hx297_0)).trans hx297_0
                replace hx297_1 := (HB.out.cell (World.block_lt_of_cell? w _ hx297_1)).trans hx297_1
                replace hx297_2 := (HB.out.cell (World.block_lt_of_cell? w _ hx297_2)).trans hx297_2
                replace hx297_3 := (HB.out.cell (World.block_lt_of_cell? w _ hx297_3)).trans hx297_3
                replace p297 := eq_true p297
                replace q297 := eq_true q297
                refine start_ (n := 8) (S := fun w' => w'.cell? (ad297.add ((x5_1).toNat * 4)) = some (.string ((rd_T61 l0 x5_1).f0)) ∧ w'.cell? ⟨(ad297.add ((x5_1).toNat * 4)).block, (ad297.add ((x5_1).toNat * 4)).off + 1, none⟩ = some (.int .i64 ((rd_T61 l0 x5_1).f1)) ∧ w'.cell? ⟨(ad297.add ((x5_1).toNat * 4)).block, (ad297.add ((x5_1).toNat * 4)).off + 2, none⟩ = some (.int .i64 ((rd_T61 l0 x5_1).f2)) ∧ w'.cell? ⟨(ad297.add ((x5_1).toNat * 4)).block, (ad297.add ((x5_1).toNat * 4)).off + 3, none⟩ = some (.int .i64 ((rd_T61 l0 x5_1).f3))) (ds := []) #[false, false, false, false, false, false, false, false] (by kernel_rfl) rfl rfl ⟨((HB.out.cell (World.block_lt_of_cell? w _ hw297_0)).trans hw297_0), ((HB.out.cell (World.block_lt_of_cell? w _ hw297_1)).trans hw297_1), ((HB.out.cell (World.block_lt_of_cell? w _ hw297_2)).trans hw297_2), ((HB.out.cell (World.block_lt_of_cell? w _ hw297_3)).trans hw297_3)⟩ (fun hHeld => ?_); refine with_tabW laws_heldEntryS.tab4 laws_heldEntryS.bits4 (fun HT_ HW_ => ?_)
                generalize wr.drew = w14 at HB hx297_0 hx297_1 hx297_2 hx297_3 hHeld ⊢
                refine pu_ HT_ 0 (some 12) #[true, false, false, false, false, false, false, false] ?_
                refine pu_ HT_ 1 (some 13) #[true, true, false, false, false, false, false, false] ?_
                refine pu_ HT_ 2 (some 14) #[true, true, true, false, false, false, false, false] ?_
                refine pu_ HT_ 3 (some 15) #[true, true, true, true, false, false, false, false] ?_
                refine pu_ HT_ 5 (some 17) #[true, true, true, true, false, true, false, false] ?_
                refine ta_ HT_ HW_ 4 (some 16) #[true, true, true, true, true, true, false, false] hHeld ?_
                refine on_ HT_ 6 (some 18) #[true, true, true, true, true, true, true, false] (fun K hK => ?_)
                refine go1_ Tryd.func86 #[.int .i64 x1_1] ?_
                with_reducible refine (laws_markText.calls k1 x1_1 t298 _ A5.out).mono ?_
                rintro e w15 ⟨rfl, hb⟩
                refine ⟨_, rfl, ?_⟩
                replace HB := AM (below_step bel_ hb)
                (try clear hb)
                (try clear hb2)
                (try clear hk)
                (try clear hi)
                refine hK.out _ _ ⟨((HB.out.cell (World.block_lt_of_cell? w _ hw297_0)).trans hw297_0), ((HB.out.cell (World.block_lt_of_cell? w _ hw297_1)).trans hw297_1), ((HB.out.cell (World.block_lt_of_cell? w _ hw297_2)).trans hw297_2), ((HB.out.cell (World.block_lt_of_cell? w _ hw297_3)).trans hw297_3)⟩ (fun hHeld => ?_)
                clear hK K
                refine nm_ ?_
                refine pu_ HT_ 7 (some 19) #[true, true, true, true, true, true, true, true] ?_
                refine dn_ HT_ ?_
                have p299 : 0 ≤ (x5_1 : Int) := of_decide_eq_true (by first | (with_reducible assumption) | assumption)
                have q299 : x5_1 < (l0.length : Int) := of_decide_eq_true (by first | (with_reducible assumption) | assumption)
                obtain ⟨ad299, e299, hx299_0, hx299_1, hx299_2, hx299_3⟩ := at_T61 HR0.out x5_1 p299 q299
                obtain rfl : ad297 = ad299 := (by injection e299)
                replace hx299_0 := (HB.out.cell (World.block_lt_of_cell? w _ hx299_0)).trans hx299_0
                replace hx299_1 := (HB.out.cell (World.block_lt_of_cell? w _ hx299_1)).trans hx299_1
                replace hx299_2 := (HB.out.cell (World.block_lt_of_cell? w _ hx299_2)).trans hx299_2
                replace hx299_3 := (HB.out.cell (World.block_lt_of_cell? w _ hx299_3)).trans hx299_3
                replace p299 := eq_true p299
                replace q299 := eq_true q299
                have p300 : 0 ≤ (x5_1 : Int) := of_decide_eq_true (by first | (with_reducible assumption) | assumption)
                have q300 : x5_1 < (l0.length : Int) := of_decide_eq_true (by first | (with_reducible assumption) | assumption)
                obtain ⟨ad300, e300, hx300_0, hx300_1, hx300_2, hx300_3⟩ := at_T61 HR0.out x5_1 p300 q300
                obtain rfl : ad297 = ad300 := (by injection e300)
                replace hx300_0 := (HB.out.cell (World.block_lt_of_cell? w _ hx300_0)).trans hx300_0
                replace hx300_1 := (HB.out.cell (World.block_lt_of_cell? w _ hx300_1)).trans hx300_1
                replace hx300_2 := (HB.out.cell (World.block_lt_of_cell? w _ hx300_2)).trans hx300_2
                replace hx300_3 := (HB.out.cell (World.block_lt_of_cell? w _ hx300_3)).trans hx300_3
                replace p300 := eq_true p300
                replace q300 := eq_true q300
                try go_wp2
                go_ret
                exact ⟨ri_, bel_⟩
            · rw [if_neg c7] at H
              have c7b0 : (((rd_T61 l0 x5_1).f1) == (wrap64 (x1_1 + 1))) = false := beq_eq_false_iff_ne.mpr c7
              try have c7b9 : ((((rd_T61 l0 x5_1).f1) == ((x1_1 + 1)))) = false := (by have hw0 : wrap64 (x1_1 + 1) = x1_1 + 1 := (by unfold wrap64; omega); have z_ := c7b0; simp only [hw0] at z_; exact z_)
              have c7b1 : (((rd_T61 l0 x5_1).f1) != (wrap64 (x1_1 + 1))) = true := bne_iff_ne.mpr c7
              obtain rfl := Option.some.inj H
              try go_wp2
              replace HB := AM (below_drew1 HB.out)
              have p297 : 0 ≤ (x5_1 : Int) := of_decide_eq_true (by first | (with_reducible assumption) | assumption)
              have q297 : x5_1 < (l0.length : Int) := of_decide_eq_true (by first | (with_reducible assumption) | assumption)
              obtain ⟨ad297, e297, hx297_0, hx297_1, hx297_2, hx297_3⟩ := at_T61 HR0.out x5_1 p297 q297
              have hw297_3 := hx297_3
              have hw297_2 := hx297_2
              have hw297_1 := hx297_1
              have hw297_0 := hx297_0
              cases e297
              replace hx297_0 := (HB.out.cell (World.block_lt_of_cell? w _ hx297_0)).trans hx297_0
              replace hx297_1 := (HB.out.cell (World.block_lt_of_cell? w _ hx297_1)).trans hx297_1
              replace hx297_2 := (HB.out.cell (World.block_lt_of_cell? w _ hx297_2)).trans hx297_2
              replace hx297_3 := (HB.out.cell (World.block_lt_of_cell? w _ hx297_3)).trans hx297_3
              replace p297 := eq_true p297
              replace q297 := eq_true q297
              refine start_ (n := 8) (S := fun w' => w'.cell? (ad297.add ((x5_1).toNat * 4)) = some (.string ((rd_T61 l0 x5_1).f0)) ∧ w'.cell? ⟨(ad297.add ((x5_1).toNat * 4)).block, (ad297.add ((x5_1).toNat * 4)).off + 1, none⟩ = some (.int .i64 ((rd_T61 l0 x5_1).f1)) ∧ w'.cell? ⟨(ad297.add ((x5_1).toNat * 4)).block, (ad297.add ((x5_1).toNat * 4)).off + 2, none⟩ = some (.int .i64 ((rd_T61 l0 x5_1).f2)) ∧ w'.cell? ⟨(ad297.add ((x5_1).toNat * 4)).block, (ad297.add ((x5_1).toNat * 4)).off + 3, none⟩ = some (.int .i64 ((rd_T61 l0 x5_1).f3))) (ds := []) #[false, false, false, false, false, false, false, false] (by kernel_rfl) rfl rfl ⟨((HB.out.cell (World.block_lt_of_cell? w _ hw297_0)).trans hw297_0), ((HB.out.cell (World.block_lt_of_cell? w _ hw297_1)).trans hw297_1), ((HB.out.cell (World.block_lt_of_cell? w _ hw297_2)).trans hw297_2), ((HB.out.cell (World.block_lt_of_cell? w _ hw297_3)).trans hw297_3)⟩ (fun hHeld => ?_); refine with_tabW laws_heldEntryS.tab4 laws_heldEntryS.bits4 (fun HT_ HW_ => ?_)
              generalize wr.drew = w16 at HB hx297_0 hx297_1 hx297_2 hx297_3 hHeld ⊢
              refine pu_ HT_ 0 (some 12) #[true, false, false, false, false, false, false, false] ?_
              refine pu_ HT_ 1 (some 13) #[true, true, false, false, false, false, false, false] ?_
              refine pu_ HT_ 2 (some 14) #[true, true, true, false, false, false, false, false] ?_
              refine pu_ HT_ 3 (some 15) #[true, true, true, true, false, false, false, false] ?_
              refine pu_ HT_ 5 (some 17) #[true, true, true, true, false, true, false, false] ?_
              refine ta_ HT_ HW_ 4 (some 16) #[true, true, true, true, true, true, false, false] hHeld ?_
              refine on_ HT_ 6 (some 18) #[true, true, true, true, true, true, true, false] (fun K hK => ?_)
              refine go1_ Tryd.func86 #[.int .i64 x1_1] ?_
              with_reducible refine (laws_markText.calls k1 x1_1 t298 _ A5.out).mono ?_
              rintro e w17 ⟨rfl, hb⟩
              refine ⟨_, rfl, ?_⟩
              replace HB := AM (below_step bel_ hb)
              (try clear hb)
              (try clear hb2)
              (try clear hk)
              (try clear hi)
              refine hK.out _ _ ⟨((HB.out.cell (World.block_lt_of_cell? w _ hw297_0)).trans hw297_0), ((HB.out.cell (World.block_lt_of_cell? w _ hw297_1)).trans hw297_1), ((HB.out.cell (World.block_lt_of_cell? w _ hw297_2)).trans hw297_2), ((HB.out.cell (World.block_lt_of_cell? w _ hw297_3)).trans hw297_3)⟩ (fun hHeld => ?_)
              clear hK K
              refine nm_ ?_
              refine pu_ HT_ 7 (some 19) #[true, true, true, true, true, true, true, true] ?_
              refine dn_ HT_ ?_
              have p299 : 0 ≤ (x5_1 : Int) := of_decide_eq_true (by first | (with_reducible assumption) | assumption)
              have q299 : x5_1 < (l0.length : Int) := of_decide_eq_true (by first | (with_reducible assumption) | assumption)
              obtain ⟨ad299, e299, hx299_0, hx299_1, hx299_2, hx299_3⟩ := at_T61 HR0.out x5_1 p299 q299
              obtain rfl : ad297 = ad299 := (by injection e299)
              replace hx299_0 := (HB.out.cell (World.block_lt_of_cell? w _ hx299_0)).trans hx299_0
              replace hx299_1 := (HB.out.cell (World.block_lt_of_cell? w _ hx299_1)).trans hx299_1
              replace hx299_2 := (HB.out.cell (World.block_lt_of_cell? w _ hx299_2)).trans hx299_2
              replace hx299_3 := (HB.out.cell (World.block_lt_of_cell? w _ hx299_3)).trans hx299_3
              replace p299 := eq_true p299
              replace q299 := eq_true q299
              try go_wp2
              go_ret
              exact ⟨ri_, bel_⟩
          · rw [if_neg c6] at H
            have c6b0 : (((rd_T61 l0 x5_1).f0).toList == t298.toList) = false := beq_eq_false_iff_ne.mpr c6
            have c6b1 : (((rd_T61 l0 x5_1).f0).toList != t298.toList) = true := bne_iff_ne.mpr c6
            obtain rfl := Option.some.inj H
            try go_wp2
            replace HB := AM (below_drew1 HB.out)
            have p297 : 0 ≤ (x5_1 : Int) := of_decide_eq_true (by first | (with_reducible assumption) | assumption)
            have q297 : x5_1 < (l0.length : Int) := of_decide_eq_true (by first | (with_reducible assumption) | assumption)
            obtain ⟨ad297, e297, hx297_0, hx297_1, hx297_2, hx297_3⟩ := at_T61 HR0.out x5_1 p297 q297
            have hw297_3 := hx297_3
            have hw297_2 := hx297_2
            have hw297_1 := hx297_1
            have hw297_0 := hx297_0
            cases e297
            replace hx297_0 := (HB.out.cell (World.block_lt_of_cell? w _ hx297_0)).trans hx297_0
            replace hx297_1 := (HB.out.cell (World.block_lt_of_cell? w _ hx297_1)).trans hx297_1
            replace hx297_2 := (HB.out.cell (World.block_lt_of_cell? w _ hx297_2)).trans hx297_2
            replace hx297_3 := (HB.out.cell (World.block_lt_of_cell? w _ hx297_3)).trans hx297_3
            replace p297 := eq_true p297
            replace q297 := eq_true q297
            refine start_ (n := 8) (S := fun w' => w'.cell? (ad297.add ((x5_1).toNat * 4)) = some (.string ((rd_T61 l0 x5_1).f0)) ∧ w'.cell? ⟨(ad297.add ((x5_1).toNat * 4)).block, (ad297.add ((x5_1).toNat * 4)).off + 1, none⟩ = some (.int .i64 ((rd_T61 l0 x5_1).f1)) ∧ w'.cell? ⟨(ad297.add ((x5_1).toNat * 4)).block, (ad297.add ((x5_1).toNat * 4)).off + 2, none⟩ = some (.int .i64 ((rd_T61 l0 x5_1).f2)) ∧ w'.cell? ⟨(ad297.add ((x5_1).toNat * 4)).block, (ad297.add ((x5_1).toNat * 4)).off + 3, none⟩ = some (.int .i64 ((rd_T61 l0 x5_1).f3))) (ds := []) #[false, false, false, false, false, false, false, false] (by kernel_rfl) rfl rfl ⟨((HB.out.cell (World.block_lt_of_cell? w _ hw297_0)).trans hw297_0), ((HB.out.cell (World.block_lt_of_cell? w _ hw297_1)).trans hw297_1), ((HB.out.cell (World.block_lt_of_cell? w _ hw297_2)).trans hw297_2), ((HB.out.cell (World.block_lt_of_cell? w _ hw297_3)).trans hw297_3)⟩ (fun hHeld => ?_); refine with_tabW laws_heldEntryS.tab4 laws_heldEntryS.bits4 (fun HT_ HW_ => ?_)
            generalize wr.drew = w18 at HB hx297_0 hx297_1 hx297_2 hx297_3 hHeld ⊢
            refine pu_ HT_ 0 (some 12) #[true, false, false, false, false, false, false, false] ?_
            refine pu_ HT_ 1 (some 13) #[true, true, false, false, false, false, false, false] ?_
            refine pu_ HT_ 2 (some 14) #[true, true, true, false, false, false, false, false] ?_
            refine pu_ HT_ 3 (some 15) #[true, true, true, true, false, false, false, false] ?_
            refine pu_ HT_ 5 (some 17) #[true, true, true, true, false, true, false, false] ?_
            refine ta_ HT_ HW_ 4 (some 16) #[true, true, true, true, true, true, false, false] hHeld ?_
            refine on_ HT_ 6 (some 18) #[true, true, true, true, true, true, true, false] (fun K hK => ?_)
            refine go1_ Tryd.func86 #[.int .i64 x1_1] ?_
            with_reducible refine (laws_markText.calls k1 x1_1 t298 _ A5.out).mono ?_
            rintro e w19 ⟨rfl, hb⟩
            refine ⟨_, rfl, ?_⟩
            replace HB := AM (below_step bel_ hb)
            (try clear hb)
            (try clear hb2)
            (try clear hk)
            (try clear hi)
            refine hK.out _ _ ⟨((HB.out.cell (World.block_lt_of_cell? w _ hw297_0)).trans hw297_0), ((HB.out.cell (World.block_lt_of_cell? w _ hw297_1)).trans hw297_1), ((HB.out.cell (World.block_lt_of_cell? w _ hw297_2)).trans hw297_2), ((HB.out.cell (World.block_lt_of_cell? w _ hw297_3)).trans hw297_3)⟩ (fun hHeld => ?_)
            clear hK K
            refine nm_ ?_
            refine pu_ HT_ 7 (some 19) #[true, true, true, true, true, true, true, true] ?_
            refine dn_ HT_ ?_
            try go_wp2
            go_ret
            exact ⟨ri_, bel_⟩
        · rw [if_neg c4] at H
          exact absurd H (by simp)
      · rw [if_neg c3] at H
        have c3b0 : decide (x5_1 < (l0.length : Int)) = false := decide_eq_false c3
        clear c3
        obtain rfl := Option.some.inj H
        go_wp2
        go_ret
        exact ⟨ri_, bel_⟩

end Go.Proofs.YtddapeieolfolaaDoor.PFnExactPackScan
