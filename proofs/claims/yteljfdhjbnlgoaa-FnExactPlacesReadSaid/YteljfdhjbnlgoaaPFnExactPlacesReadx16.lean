/- Functions of the law FnExactPlacesRead: the print's, with walks of this session's own. No statement is proved here. -/
import Derived.WalkLawsBesides
import Derived.Test.YteljfdhjbnlgoaaVRegFnExactPlacesRead
-- A program of this session wrote this text: a changed copy of the kit print, with given functions.
import Derived.Test.YteljfdhjbnlgoaaPFnExactPlacesReadx0
import Derived.Test.YteljfdhjbnlgoaaPFnExactPlacesReadx15
namespace Go.Proofs.Yteljfdhjbnlgoaa.PFnExactPlacesRead
open Go.RowKit Go.Proofs.YteljfdhjbnlgoaaW.PrintWords Go.Proofs.YteljfdhjbnlgoaaW.PrintLast Go.Proofs.YteljfdhjbnlgoaaW.PrintMore Go.Proofs.Yteljfdhjbnlgoaa.Reg Go.Proofs.Yteljfdhjbnlgoaa.Aut
attribute [local go_sem] max2_int min2_int max_two min_two max_three min_three max_four min_four   -- for this text's walks alone
set_option linter.unusedVariables false
set_option linter.unusedSimpArgs false

/-! ### laws_heldPlaceS: function 69 -/
def laws_heldPlaceS.l0 : Nat → List (S50) → Int → Int → Option (Int)
  | 0, _, _, _ => none
  | k + 1, x0, x1, x5 => if x5 < (x0.length : Int) then (if 0 ≤ x5 then ((laws_markText.f k x1).bind fun t257 => (if ((rd_T50 x0 x5).f0).toList = t257.toList then ((laws_markText.f k (wrap64 (x1 + 1))).bind fun t259 => (if ((rd_T50 x0 x5).f1).toList = t259.toList then (if ((rd_T50 x0 x5).f2) = (wrap64 ((wrap64 (x1 + 1)) + 1)) then (if ((rd_T50 x0 x5).f3) = (wrap64 ((wrap64 ((wrap64 (x1 + 1)) + 1)) + 1)) then (if ((rd_T50 x0 x5).f4) = (wrap64 ((wrap64 ((wrap64 ((wrap64 (x1 + 1)) + 1)) + 1)) + 1)) then (laws_heldPlaceS.l0 k x0 (wrap64 ((wrap64 ((wrap64 ((wrap64 ((wrap64 (x1 + 1)) + 1)) + 1)) + 1)) + 1)) (wrap64 (x5 + 1))) else (some (-1))) else (some (-1))) else (some (-1))) else (some (-1)))) else (some (-1)))) else (none)) else (some x1)
def laws_heldPlaceS.f (k : Nat) (l0 : List (S50)) (a1 : Int) : Option (Int) := laws_heldPlaceS.l0 k l0 a1 0
theorem laws_heldPlaceS.mono_l : ∀ k, (∀ y0 y1 y2, LeO (laws_heldPlaceS.l0 k y0 y1 y2) (laws_heldPlaceS.l0 (k + 1) y0 y1 y2))
  | 0 => fun _ _ _ r h => by simp [laws_heldPlaceS.l0] at h
  | k + 1 => by
    have ih0 := laws_heldPlaceS.mono_l k
    · intro y0 y1 y2
      unfold laws_heldPlaceS.l0
      repeat' first
      | (with_reducible exact ih0 _ _ _)
      | (with_reducible exact laws_markText.mono _ _)
      | (with_reducible exact LeO.refl _)
      | (with_reducible exact LeO.none _)
      | (with_reducible refine LeO.ite ?_ ?_)
      | (with_reducible refine LeO.bind ?_ (fun _ => ?_))
      | exact ih0 _ _ _
      | exact laws_markText.mono _ _
      | exact LeO.none _
      | refine LeO.ite ?_ ?_
      | refine LeO.bind ?_ (fun _ => ?_)
theorem laws_heldPlaceS.mono : ∀ a0 a1 k, LeO (laws_heldPlaceS.f k a0 a1) (laws_heldPlaceS.f (k + 1) a0 a1) := by
  intro a0 a1 k
  have ih0 := laws_heldPlaceS.mono_l k
  unfold laws_heldPlaceS.f
  repeat' first
      | (with_reducible exact ih0 _ _ _)
      | (with_reducible exact laws_markText.mono _ _)
      | (with_reducible exact LeO.refl _)
      | (with_reducible exact LeO.none _)
      | (with_reducible refine LeO.ite ?_ ?_)
      | (with_reducible refine LeO.bind ?_ (fun _ => ?_))
      | exact ih0 _ _ _
      | exact laws_markText.mono _ _
      | exact LeO.none _
      | refine LeO.ite ?_ ?_
      | refine LeO.bind ?_ (fun _ => ?_)
def laws_heldPlaceS.T4 : Bool × List (List Nat × List Nat) := (true, [([], []), ([], []), ([0, 1], [0, 1]), ([2], [2]), ([3], [3]), ([], []), ([5], [5]), ([4, 6], [4, 6])])
def laws_heldPlaceS.B4 : List Nat := [0, 0, 3, 7, 15, 0, 32, 127]
theorem laws_heldPlaceS.tab4 : rtab .any (opsOf Try.f69 4) = laws_heldPlaceS.T4 := by kernel_rfl
theorem laws_heldPlaceS.bits4 : waitsOk laws_heldPlaceS.T4.2 laws_heldPlaceS.B4 = true := by kernel_rfl
def laws_heldPlaceS.T7 : Bool × List (List Nat × List Nat) := (true, [([], []), ([], []), ([0, 1], [0, 1]), ([2], [2]), ([3], [3]), ([], []), ([5], [5]), ([4, 6], [4, 6])])
def laws_heldPlaceS.B7 : List Nat := [0, 0, 3, 7, 15, 0, 32, 127]
theorem laws_heldPlaceS.tab7 : rtab .any (opsOf Try.f69 7) = laws_heldPlaceS.T7 := by kernel_rfl
theorem laws_heldPlaceS.bits7 : waitsOk laws_heldPlaceS.T7.2 laws_heldPlaceS.B7 = true := by kernel_rfl
set_option maxHeartbeats 8000000 in
set_option maxRecDepth 100000 in
theorem laws_heldPlaceS.calls (k : Nat) (A0 : Option Addr) (c0 : Nat) (l0 : List (S50)) (a1 : Int) (r : Int) (w : World) (hr0 : Kd.C k50 w A0 l0.length l0) (hc0 : l0.length ≤ c0) (h : laws_heldPlaceS.f k l0 a1 = some r) :
    Calls Try.prog 69 #[.slice A0 l0.length c0, .int .i64 a1] w fun e w' => e = .returned (.int .i64 r) ∧ Below w.heap.size w w' := by
  have HR0 := AM hr0
  have HC0 := AM hc0
  clear hr0 hc0
  have HB := AM (Below.refl w.heap.size w)
  have H : (laws_heldPlaceS.l0 k l0 a1 0) = some r := h
  clear h
  have H' := AM H
  clear H
  go_enter Try.func69, Try.ntmps69
  go_wp2
  go_loopg [1, 5] k (fun kq v1 v5 w' => ∃ (x1_1 : Int) (x5_1 : Int), v1 = .int .i64 x1_1 ∧ v5 = .int .i64 x5_1 ∧ Aside0 (laws_heldPlaceS.l0 kq l0 x1_1 x5_1 = some r) ∧ Aside0 (kq ≤ k) ∧ Aside0 (Below w.heap.size w w'))
  case atStart => exact ⟨(a1), (0), (by first | rfl | (simp; done) | (simp [*]; done)), (by first | rfl | (simp; done) | (simp [*]; done)), H', ⟨Nat.le_refl _⟩, ⟨bel_⟩⟩
  case round =>
    clear H'
    try clear p2
    obtain ⟨x1_1, x5_1, rfl, rfl, HA, HK1, HB⟩ := hrel
    cases gk with
    | zero => exact absurd HA.out (by simp [laws_heldPlaceS.l0])
    | succ k1 =>
      have H := HA.out
      clear HA
      simp only [laws_heldPlaceS.l0] at H
      by_cases c3 : x5_1 < (l0.length : Int)
      · rw [if_pos c3] at H
        have c3b0 : decide (x5_1 < (l0.length : Int)) = true := decide_eq_true c3
        clear c3
        by_cases c4 : 0 ≤ x5_1
        · rw [if_pos c4] at H
          have c4b0 : decide (0 ≤ x5_1) = true := decide_eq_true c4
          clear c4
          obtain ⟨t257, A5, H⟩ := OB H
          try dsimp only at H
          replace A5 := AM A5
          by_cases c6 : ((rd_T50 l0 x5_1).f0).toList = t257.toList
          · rw [if_pos c6] at H
            have c6b0 : (((rd_T50 l0 x5_1).f0).toList == t257.toList) = true := beq_iff_eq.mpr c6
            have c6b1 : (((rd_T50 l0 x5_1).f0).toList != t257.toList) = false := bne_eq_false_iff_eq.mpr c6
            clear c6
            obtain ⟨t259, A7, H⟩ := OB H
            try dsimp only at H
            replace A7 := AM A7
            by_cases c8 : ((rd_T50 l0 x5_1).f1).toList = t259.toList
            · rw [if_pos c8] at H
              have c8b0 : (((rd_T50 l0 x5_1).f1).toList == t259.toList) = true := beq_iff_eq.mpr c8
              have c8b1 : (((rd_T50 l0 x5_1).f1).toList != t259.toList) = false := bne_eq_false_iff_eq.mpr c8
              clear c8
              by_cases c9 : ((rd_T50 l0 x5_1).f2) = (wrap64 ((wrap64 (x1_1 + 1)) + 1))
              · rw [if_pos c9] at H
                have c9b0 : (((rd_T50 l0 x5_1).f2) == (wrap64 ((wrap64 (x1_1 + 1)) + 1))) = true := beq_iff_eq.mpr c9
                try have c9b9 : ((((rd_T50 l0 x5_1).f2) == ((((x1_1 + 1)) + 1)))) = true := (by have hw0 : wrap64 (x1_1 + 1) = x1_1 + 1 := (by unfold wrap64; omega); have hw1 : wrap64 (((x1_1 + 1)) + 1) = ((x1_1 + 1)) + 1 := (by unfold wrap64; omega); have z_ := c9b0; simp only [hw0, hw1] at z_; exact z_)
                have c9b1 : (((rd_T50 l0 x5_1).f2) != (wrap64 ((wrap64 (x1_1 + 1)) + 1))) = false := bne_eq_false_iff_eq.mpr c9
                clear c9
                by_cases c10 : ((rd_T50 l0 x5_1).f3) = (wrap64 ((wrap64 ((wrap64 (x1_1 + 1)) + 1)) + 1))
                · rw [if_pos c10] at H
                  have c10b0 : (((rd_T50 l0 x5_1).f3) == (wrap64 ((wrap64 ((wrap64 (x1_1 + 1)) + 1)) + 1))) = true := beq_iff_eq.mpr c10
                  try have c10b9 : ((((rd_T50 l0 x5_1).f3) == ((((((x1_1 + 1)) + 1)) + 1)))) = true := (by have hw0 : wrap64 (x1_1 + 1) = x1_1 + 1 := (by unfold wrap64; omega); have hw1 : wrap64 (((x1_1 + 1)) + 1) = ((x1_1 + 1)) + 1 := (by unfold wrap64; omega); have hw2 : wrap64 (((((x1_1 + 1)) + 1)) + 1) = ((((x1_1 + 1)) + 1)) + 1 := (by unfold wrap64; omega); have z_ := c10b0; simp only [hw0, hw1, hw2] at z_; exact z_)
                  have c10b1 : (((rd_T50 l0 x5_1).f3) != (wrap64 ((wrap64 ((wrap64 (x1_1 + 1)) + 1)) + 1))) = false := bne_eq_false_iff_eq.mpr c10
                  clear c10
                  by_cases c11 : ((rd_T50 l0 x5_1).f4) = (wrap64 ((wrap64 ((wrap64 ((wrap64 (x1_1 + 1)) + 1)) + 1)) + 1))
                  · rw [if_pos c11] at H
                    have c11b0 : (((rd_T50 l0 x5_1).f4) == (wrap64 ((wrap64 ((wrap64 ((wrap64 (x1_1 + 1)) + 1)) + 1)) + 1))) = true := beq_iff_eq.mpr c11
                    have c11b1 : (((rd_T50 l0 x5_1).f4) != (wrap64 ((wrap64 ((wrap64 ((wrap64 (x1_1 + 1)) + 1)) + 1)) + 1))) = false := bne_eq_false_iff_eq.mpr c11
                    clear c11
                    have H' := AM H
                    clear H
                    try go_wp2
                    replace HB := AM (below_drew1 HB.out)
                    have p256 : 0 ≤ (x5_1 : Int) := of_decide_eq_true (by first | (with_reducible assumption) | assumption)
                    have q256 : x5_1 < (l0.length : Int) := of_decide_eq_true (by first | (with_reducible assumption) | assumption)
                    obtain ⟨ad256, e256, hx256_0, hx256_1, hx256_2, hx256_3, hx256_4⟩ := at_T50 HR0.out x5_1 p256 q256
                    have hw256_4 := hx256_4
                    have hw256_3 := hx256_3
                    have hw256_2 := hx256_2
                    have hw256_1 := hx256_1
                    have hw256_0 := hx256_0
                    cases e256
                    replace hx256_0 := (HB.out.cell (World.block_lt_of_cell? w _ hx256_0)).trans hx256_0
                    replace hx256_1 := (HB.out.cell (World.block_lt_of_cell? w _ hx256_1)).trans hx256_1
                    replace hx256_2 := (HB.out.cell (World.block_lt_of_cell? w _ hx256_2)).trans hx256_2
                    replace hx256_3 := (HB.out.cell (World.block_lt_of_cell? w _ hx256_3)).trans hx256_3
                    replace hx256_4 := (HB.out.cell (World.block_lt_of_cell? w _ hx256_4)).trans hx256_4
                    replace p256 := eq_true p256
                    replace q256 := eq_true q256
                    refine start_ (n := 8) (S := fun w' => w'.cell? (ad256.add ((x5_1).toNat * 5)) = some (.string ((rd_T50 l0 x5_1).f0)) ∧ w'.cell? ⟨(ad256.add ((x5_1).toNat * 5)).block, (ad256.add ((x5_1).toNat * 5)).off + 1, none⟩ = some (.string ((rd_T50 l0 x5_1).f1)) ∧ w'.cell? ⟨(ad256.add ((x5_1).toNat * 5)).block, (ad256.add ((x5_1).toNat * 5)).off + 2, none⟩ = some (.int .i64 ((rd_T50 l0 x5_1).f2)) ∧ w'.cell? ⟨(ad256.add ((x5_1).toNat * 5)).block, (ad256.add ((x5_1).toNat * 5)).off + 3, none⟩ = some (.int .i64 ((rd_T50 l0 x5_1).f3)) ∧ w'.cell? ⟨(ad256.add ((x5_1).toNat * 5)).block, (ad256.add ((x5_1).toNat * 5)).off + 4, none⟩ = some (.int .i64 ((rd_T50 l0 x5_1).f4))) (ds := []) #[false, false, false, false, false, false, false, false] (by kernel_rfl) rfl rfl ⟨((HB.out.cell (World.block_lt_of_cell? w _ hw256_0)).trans hw256_0), ((HB.out.cell (World.block_lt_of_cell? w _ hw256_1)).trans hw256_1), ((HB.out.cell (World.block_lt_of_cell? w _ hw256_2)).trans hw256_2), ((HB.out.cell (World.block_lt_of_cell? w _ hw256_3)).trans hw256_3), ((HB.out.cell (World.block_lt_of_cell? w _ hw256_4)).trans hw256_4)⟩ (fun hHeld => ?_); refine with_tabW laws_heldPlaceS.tab4 laws_heldPlaceS.bits4 (fun HT_ HW_ => ?_)
                    generalize wr.drew = w12 at HB hx256_0 hx256_1 hx256_2 hx256_3 hx256_4 hHeld ⊢
                    refine pu_ HT_ 0 (some 12) #[true, false, false, false, false, false, false, false] ?_
                    refine pu_ HT_ 1 (some 13) #[true, true, false, false, false, false, false, false] ?_
                    refine pu_ HT_ 2 (some 14) #[true, true, true, false, false, false, false, false] ?_
                    refine pu_ HT_ 3 (some 15) #[true, true, true, true, false, false, false, false] ?_
                    refine pu_ HT_ 5 (some 17) #[true, true, true, true, false, true, false, false] ?_
                    refine ta_ HT_ HW_ 4 (some 16) #[true, true, true, true, true, true, false, false] hHeld ?_
                    refine on_ HT_ 6 (some 18) #[true, true, true, true, true, true, true, false] (fun K hK => ?_)
                    refine go1_ Try.func121 #[.int .i64 x1_1] ?_
                    with_reducible refine (laws_markText.calls k1 x1_1 t257 _ A5.out).mono ?_
                    rintro e w13 ⟨rfl, hb⟩
                    refine ⟨_, rfl, ?_⟩
                    replace HB := AM (below_step bel_ hb)
                    (try clear hb)
                    (try clear hb2)
                    (try clear hk)
                    (try clear hi)
                    refine hK.out _ _ ⟨((HB.out.cell (World.block_lt_of_cell? w _ hw256_0)).trans hw256_0), ((HB.out.cell (World.block_lt_of_cell? w _ hw256_1)).trans hw256_1), ((HB.out.cell (World.block_lt_of_cell? w _ hw256_2)).trans hw256_2), ((HB.out.cell (World.block_lt_of_cell? w _ hw256_3)).trans hw256_3), ((HB.out.cell (World.block_lt_of_cell? w _ hw256_4)).trans hw256_4)⟩ (fun hHeld => ?_)
                    clear hK K
                    refine nm_ ?_
                    refine pu_ HT_ 7 (some 19) #[true, true, true, true, true, true, true, true] ?_
                    refine dn_ HT_ ?_
                    try go_wp2
                    replace HB := AM (below_drew1 HB.out)
                    have p258 : 0 ≤ (x5_1 : Int) := of_decide_eq_true (by first | (with_reducible assumption) | assumption)
                    have q258 : x5_1 < (l0.length : Int) := of_decide_eq_true (by first | (with_reducible assumption) | assumption)
                    obtain ⟨ad258, e258, hx258_0, hx258_1, hx258_2, hx258_3, hx258_4⟩ := at_T50 HR0.out x5_1 p258 q258
                    have hw258_4 := hx258_4
                    have hw258_3 := hx258_3
                    have hw258_2 := hx258_2
                    have hw258_1 := hx258_1
                    have hw258_0 := hx258_0
                    obtain rfl : ad256 = ad258 := (by injection e258)
                    replace hx258_0 := (HB.out.cell (World.block_lt_of_cell? w _ hx258_0)).trans hx258_0
                    replace hx258_1 := (HB.out.cell (World.block_lt_of_cell? w _ hx258_1)).trans hx258_1
                    replace hx258_2 := (HB.out.cell (World.block_lt_of_cell? w _ hx258_2)).trans hx258_2
                    replace hx258_3 := (HB.out.cell (World.block_lt_of_cell? w _ hx258_3)).trans hx258_3
                    replace hx258_4 := (HB.out.cell (World.block_lt_of_cell? w _ hx258_4)).trans hx258_4
                    replace p258 := eq_true p258
                    replace q258 := eq_true q258
                    refine start_ (n := 8) (S := fun w' => w'.cell? (ad256.add ((x5_1).toNat * 5)) = some (.string ((rd_T50 l0 x5_1).f0)) ∧ w'.cell? ⟨(ad256.add ((x5_1).toNat * 5)).block, (ad256.add ((x5_1).toNat * 5)).off + 1, none⟩ = some (.string ((rd_T50 l0 x5_1).f1)) ∧ w'.cell? ⟨(ad256.add ((x5_1).toNat * 5)).block, (ad256.add ((x5_1).toNat * 5)).off + 2, none⟩ = some (.int .i64 ((rd_T50 l0 x5_1).f2)) ∧ w'.cell? ⟨(ad256.add ((x5_1).toNat * 5)).block, (ad256.add ((x5_1).toNat * 5)).off + 3, none⟩ = some (.int .i64 ((rd_T50 l0 x5_1).f3)) ∧ w'.cell? ⟨(ad256.add ((x5_1).toNat * 5)).block, (ad256.add ((x5_1).toNat * 5)).off + 4, none⟩ = some (.int .i64 ((rd_T50 l0 x5_1).f4))) (ds := []) #[false, false, false, false, false, false, false, false] (by kernel_rfl) rfl rfl ⟨((HB.out.cell (World.block_lt_of_cell? w _ hw258_0)).trans hw258_0), ((HB.out.cell (World.block_lt_of_cell? w _ hw258_1)).trans hw258_1), ((HB.out.cell (World.block_lt_of_cell? w _ hw258_2)).trans hw258_2), ((HB.out.cell (World.block_lt_of_cell? w _ hw258_3)).trans hw258_3), ((HB.out.cell (World.block_lt_of_cell? w _ hw258_4)).trans hw258_4)⟩ (fun hHeld => ?_); refine with_tabW laws_heldPlaceS.tab7 laws_heldPlaceS.bits7 (fun HT_ HW_ => ?_)
                    generalize w13.drew = w14 at HB hx258_0 hx258_1 hx258_2 hx258_3 hx258_4 hHeld ⊢
                    refine pu_ HT_ 0 (some 22) #[true, false, false, false, false, false, false, false] ?_
                    refine pu_ HT_ 1 (some 23) #[true, true, false, false, false, false, false, false] ?_
                    refine pu_ HT_ 2 (some 24) #[true, true, true, false, false, false, false, false] ?_
                    refine pu_ HT_ 3 (some 25) #[true, true, true, true, false, false, false, false] ?_
                    refine pu_ HT_ 5 (some 27) #[true, true, true, true, false, true, false, false] ?_
                    refine ta_ HT_ HW_ 4 (some 26) #[true, true, true, true, true, true, false, false] hHeld ?_
                    refine on_ HT_ 6 (some 28) #[true, true, true, true, true, true, true, false] (fun K hK => ?_)
                    refine go1_ Try.func121 #[.int .i64 (wrap64 (x1_1 + 1))] ?_
                    with_reducible refine (laws_markText.calls k1 (wrap64 (x1_1 + 1)) t259 _ A7.out).mono ?_
                    rintro e w15 ⟨rfl, hb⟩
                    refine ⟨_, rfl, ?_⟩
                    replace HB := AM (below_step bel_ hb)
                    (try clear hb)
                    (try clear hb2)
                    (try clear hk)
                    (try clear hi)
                    refine hK.out _ _ ⟨((HB.out.cell (World.block_lt_of_cell? w _ hw258_0)).trans hw258_0), ((HB.out.cell (World.block_lt_of_cell? w _ hw258_1)).trans hw258_1), ((HB.out.cell (World.block_lt_of_cell? w _ hw258_2)).trans hw258_2), ((HB.out.cell (World.block_lt_of_cell? w _ hw258_3)).trans hw258_3), ((HB.out.cell (World.block_lt_of_cell? w _ hw258_4)).trans hw258_4)⟩ (fun hHeld => ?_)
                    clear hK K
                    refine nm_ ?_
                    refine pu_ HT_ 7 (some 29) #[true, true, true, true, true, true, true, true] ?_
                    refine dn_ HT_ ?_
                    have p260 : 0 ≤ (x5_1 : Int) := of_decide_eq_true (by first | (with_reducible assumption) | assumption)
                    have q260 : x5_1 < (l0.length : Int) := of_decide_eq_true (by first | (with_reducible assumption) | assumption)
                    obtain ⟨ad260, e260, hx260_0, hx260_1, hx260_2, hx260_3, hx260_4⟩ := at_T50 HR0.out x5_1 p260 q260
                    obtain rfl : ad256 = ad260 := (by injection e260)
                    replace hx260_0 := (HB.out.cell (World.block_lt_of_cell? w _ hx260_0)).trans hx260_0
                    replace hx260_1 := (HB.out.cell (World.block_lt_of_cell? w _ hx260_1)).trans hx260_1
                    replace hx260_2 := (HB.out.cell (World.block_lt_of_cell? w _ hx260_2)).trans hx260_2
                    replace hx260_3 := (HB.out.cell (World.block_lt_of_cell? w _ hx260_3)).trans hx260_3
                    replace hx260_4 := (HB.out.cell (World.block_lt_of_cell? w _ hx260_4)).trans hx260_4
                    replace p260 := eq_true p260
                    replace q260 := eq_true q260
                    have p261 : 0 ≤ (x5_1 : Int) := of_decide_eq_true (by first | (with_reducible assumption) | assumption)
                    have q261 : x5_1 < (l0.length : Int) := of_decide_eq_true (by first | (with_reducible assumption) | assumption)
                    obtain ⟨ad261, e261, hx261_0, hx261_1, hx261_2, hx261_3, hx261_4⟩ := at_T50 HR0.out x5_1 p261 q261
                    obtain rfl : ad256 = ad261 := (by injection e261)
                    replace hx261_0 := (HB.out.cell (World.block_lt_of_cell? w _ hx261_0)).trans hx261_0
                    replace hx261_1 := (HB.out.cell (World.block_lt_of_cell? w _ hx261_1)).trans hx261_1
                    replace hx261_2 := (HB.out.cell (World.block_lt_of_cell? w _ hx261_2)).trans hx261_2
                    replace hx261_3 := (HB.out.cell (World.block_lt_of_cell? w _ hx261_3)).trans hx261_3
                    replace hx261_4 := (HB.out.cell (World.block_lt_of_cell? w _ hx261_4)).trans hx261_4
                    replace p261 := eq_true p261
                    replace q261 := eq_true q261
                    have p262 : 0 ≤ (x5_1 : Int) := of_decide_eq_true (by first | (with_reducible assumption) | assumption)
                    have q262 : x5_1 < (l0.length : Int) := of_decide_eq_true (by first | (with_reducible assumption) | assumption)
                    obtain ⟨ad262, e262, hx262_0, hx262_1, hx262_2, hx262_3, hx262_4⟩ := at_T50 HR0.out x5_1 p262 q262
                    obtain rfl : ad256 = ad262 := (by injection e262)
                    replace hx262_0 := (HB.out.cell (World.block_lt_of_cell? w _ hx262_0)).trans hx262_0
                    replace hx262_1 := (HB.out.cell (World.block_lt_of_cell? w _ hx262_1)).trans hx262_1
                    replace hx262_2 := (HB.out.cell (World.block_lt_of_cell? w _ hx262_2)).trans hx262_2
                    replace hx262_3 := (HB.out.cell (World.block_lt_of_cell? w _ hx262_3)).trans hx262_3
                    replace hx262_4 := (HB.out.cell (World.block_lt_of_cell? w _ hx262_4)).trans hx262_4
                    replace p262 := eq_true p262
                    replace q262 := eq_true q262
                    try go_wp2
                    go_roundg k1
                    case measure => have := HK1.out; omega
                    case rel => exact ⟨(wrap64 ((wrap64 ((wrap64 ((wrap64 ((wrap64 (x1_1 + 1)) + 1)) + 1)) + 1)) + 1)), (wrap64 (x5_1 + 1)), (by first | rfl | (simp; done) | (simp [*]; done)), (by first | rfl | (simp; done) | (simp [*]; done)), H', ⟨by have := HK1.out; omega⟩, ⟨bel_⟩⟩
                  · rw [if_neg c11] at H
                    have c11b0 : (((rd_T50 l0 x5_1).f4) == (wrap64 ((wrap64 ((wrap64 ((wrap64 (x1_1 + 1)) + 1)) + 1)) + 1))) = false := beq_eq_false_iff_ne.mpr c11
                    have c11b1 : (((rd_T50 l0 x5_1).f4) != (wrap64 ((wrap64 ((wrap64 ((wrap64 (x1_1 + 1)) + 1)) + 1)) + 1))) = true := bne_iff_ne.mpr c11
                    obtain rfl := Option.some.inj H
                    try go_wp2
                    replace HB := AM (below_drew1 HB.out)
                    have p256 : 0 ≤ (x5_1 : Int) := of_decide_eq_true (by first | (with_reducible assumption) | assumption)
                    have q256 : x5_1 < (l0.length : Int) := of_decide_eq_true (by first | (with_reducible assumption) | assumption)
                    obtain ⟨ad256, e256, hx256_0, hx256_1, hx256_2, hx256_3, hx256_4⟩ := at_T50 HR0.out x5_1 p256 q256
                    have hw256_4 := hx256_4
                    have hw256_3 := hx256_3
                    have hw256_2 := hx256_2
                    have hw256_1 := hx256_1
                    have hw256_0 := hx256_0
                    cases e256
                    replace hx256_0 := (HB.out.cell (World.block_lt_of_cell? w _ hx256_0)).trans hx256_0
                    replace hx256_1 := (HB.out.cell (World.block_lt_of_cell? w _ hx256_1)).trans hx256_1
                    replace hx256_2 := (HB.out.cell (World.block_lt_of_cell? w _ hx256_2)).trans hx256_2
                    replace hx256_3 := (HB.out.cell (World.block_lt_of_cell? w _ hx256_3)).trans hx256_3
                    replace hx256_4 := (HB.out.cell (World.block_lt_of_cell? w _ hx256_4)).trans hx256_4
                    replace p256 := eq_true p256
                    replace q256 := eq_true q256
                    refine start_ (n := 8) (S := fun w' => w'.cell? (ad256.add ((x5_1).toNat * 5)) = some (.string ((rd_T50 l0 x5_1).f0)) ∧ w'.cell? ⟨(ad256.add ((x5_1).toNat * 5)).block, (ad256.add ((x5_1).toNat * 5)).off + 1, none⟩ = some (.string ((rd_T50 l0 x5_1).f1)) ∧ w'.cell? ⟨(ad256.add ((x5_1).toNat * 5)).block, (ad256.add ((x5_1).toNat * 5)).off + 2, none⟩ = some (.int .i64 ((rd_T50 l0 x5_1).f2)) ∧ w'.cell? ⟨(ad256.add ((x5_1).toNat * 5)).block, (ad256.add ((x5_1).toNat * 5)).off + 3, none⟩ = some (.int .i64 ((rd_T50 l0 x5_1).f3)) ∧ w'.cell? ⟨(ad256.add ((x5_1).toNat * 5)).block, (ad256.add ((x5_1).toNat * 5)).off + 4, none⟩ = some (.int .i64 ((rd_T50 l0 x5_1).f4))) (ds := []) #[false, false, false, false, false, false, false, false] (by kernel_rfl) rfl rfl ⟨((HB.out.cell (World.block_lt_of_cell? w _ hw256_0)).trans hw256_0), ((HB.out.cell (World.block_lt_of_cell? w _ hw256_1)).trans hw256_1), ((HB.out.cell (World.block_lt_of_cell? w _ hw256_2)).trans hw256_2), ((HB.out.cell (World.block_lt_of_cell? w _ hw256_3)).trans hw256_3), ((HB.out.cell (World.block_lt_of_cell? w _ hw256_4)).trans hw256_4)⟩ (fun hHeld => ?_); refine with_tabW laws_heldPlaceS.tab4 laws_heldPlaceS.bits4 (fun HT_ HW_ => ?_)
                    generalize wr.drew = w16 at HB hx256_0 hx256_1 hx256_2 hx256_3 hx256_4 hHeld ⊢
                    refine pu_ HT_ 0 (some 12) #[true, false, false, false, false, false, false, false] ?_
                    refine pu_ HT_ 1 (some 13) #[true, true, false, false, false, false, false, false] ?_
                    refine pu_ HT_ 2 (some 14) #[true, true, true, false, false, false, false, false] ?_
                    refine pu_ HT_ 3 (some 15) #[true, true, true, true, false, false, false, false] ?_
                    refine pu_ HT_ 5 (some 17) #[true, true, true, true, false, true, false, false] ?_
                    refine ta_ HT_ HW_ 4 (some 16) #[true, true, true, true, true, true, false, false] hHeld ?_
                    refine on_ HT_ 6 (some 18) #[true, true, true, true, true, true, true, false] (fun K hK => ?_)
                    refine go1_ Try.func121 #[.int .i64 x1_1] ?_
                    with_reducible refine (laws_markText.calls k1 x1_1 t257 _ A5.out).mono ?_
                    rintro e w17 ⟨rfl, hb⟩
                    refine ⟨_, rfl, ?_⟩
                    replace HB := AM (below_step bel_ hb)
                    (try clear hb)
                    (try clear hb2)
                    (try clear hk)
                    (try clear hi)
                    refine hK.out _ _ ⟨((HB.out.cell (World.block_lt_of_cell? w _ hw256_0)).trans hw256_0), ((HB.out.cell (World.block_lt_of_cell? w _ hw256_1)).trans hw256_1), ((HB.out.cell (World.block_lt_of_cell? w _ hw256_2)).trans hw256_2), ((HB.out.cell (World.block_lt_of_cell? w _ hw256_3)).trans hw256_3), ((HB.out.cell (World.block_lt_of_cell? w _ hw256_4)).trans hw256_4)⟩ (fun hHeld => ?_)
                    clear hK K
                    refine nm_ ?_
                    refine pu_ HT_ 7 (some 19) #[true, true, true, true, true, true, true, true] ?_
                    refine dn_ HT_ ?_
                    try go_wp2
                    replace HB := AM (below_drew1 HB.out)
                    have p258 : 0 ≤ (x5_1 : Int) := of_decide_eq_true (by first | (with_reducible assumption) | assumption)
                    have q258 : x5_1 < (l0.length : Int) := of_decide_eq_true (by first | (with_reducible assumption) | assumption)
                    obtain ⟨ad258, e258, hx258_0, hx258_1, hx258_2, hx258_3, hx258_4⟩ := at_T50 HR0.out x5_1 p258 q258
                    have hw258_4 := hx258_4
                    have hw258_3 := hx258_3
                    have hw258_2 := hx258_2
                    have hw258_1 := hx258_1
                    have hw258_0 := hx258_0
                    obtain rfl : ad256 = ad258 := (by injection e258)
                    replace hx258_0 := (HB.out.cell (World.block_lt_of_cell? w _ hx258_0)).trans hx258_0
                    replace hx258_1 := (HB.out.cell (World.block_lt_of_cell? w _ hx258_1)).trans hx258_1
                    replace hx258_2 := (HB.out.cell (World.block_lt_of_cell? w _ hx258_2)).trans hx258_2
                    replace hx258_3 := (HB.out.cell (World.block_lt_of_cell? w _ hx258_3)).trans hx258_3
                    replace hx258_4 := (HB.out.cell (World.block_lt_of_cell? w _ hx258_4)).trans hx258_4
                    replace p258 := eq_true p258
                    replace q258 := eq_true q258
                    refine start_ (n := 8) (S := fun w' => w'.cell? (ad256.add ((x5_1).toNat * 5)) = some (.string ((rd_T50 l0 x5_1).f0)) ∧ w'.cell? ⟨(ad256.add ((x5_1).toNat * 5)).block, (ad256.add ((x5_1).toNat * 5)).off + 1, none⟩ = some (.string ((rd_T50 l0 x5_1).f1)) ∧ w'.cell? ⟨(ad256.add ((x5_1).toNat * 5)).block, (ad256.add ((x5_1).toNat * 5)).off + 2, none⟩ = some (.int .i64 ((rd_T50 l0 x5_1).f2)) ∧ w'.cell? ⟨(ad256.add ((x5_1).toNat * 5)).block, (ad256.add ((x5_1).toNat * 5)).off + 3, none⟩ = some (.int .i64 ((rd_T50 l0 x5_1).f3)) ∧ w'.cell? ⟨(ad256.add ((x5_1).toNat * 5)).block, (ad256.add ((x5_1).toNat * 5)).off + 4, none⟩ = some (.int .i64 ((rd_T50 l0 x5_1).f4))) (ds := []) #[false, false, false, false, false, false, false, false] (by kernel_rfl) rfl rfl ⟨((HB.out.cell (World.block_lt_of_cell? w _ hw258_0)).trans hw258_0), ((HB.out.cell (World.block_lt_of_cell? w _ hw258_1)).trans hw258_1), ((HB.out.cell (World.block_lt_of_cell? w _ hw258_2)).trans hw258_2), ((HB.out.cell (World.block_lt_of_cell? w _ hw258_3)).trans hw258_3), ((HB.out.cell (World.block_lt_of_cell? w _ hw258_4)).trans hw258_4)⟩ (fun hHeld => ?_); refine with_tabW laws_heldPlaceS.tab7 laws_heldPlaceS.bits7 (fun HT_ HW_ => ?_)
                    generalize w17.drew = w18 at HB hx258_0 hx258_1 hx258_2 hx258_3 hx258_4 hHeld ⊢
                    refine pu_ HT_ 0 (some 22) #[true, false, false, false, false, false, false, false] ?_
                    refine pu_ HT_ 1 (some 23) #[true, true, false, false, false, false, false, false] ?_
                    refine pu_ HT_ 2 (some 24) #[true, true, true, false, false, false, false, false] ?_
                    refine pu_ HT_ 3 (some 25) #[true, true, true, true, false, false, false, false] ?_
                    refine pu_ HT_ 5 (some 27) #[true, true, true, true, false, true, false, false] ?_
                    refine ta_ HT_ HW_ 4 (some 26) #[true, true, true, true, true, true, false, false] hHeld ?_
                    refine on_ HT_ 6 (some 28) #[true, true, true, true, true, true, true, false] (fun K hK => ?_)
                    refine go1_ Try.func121 #[.int .i64 (wrap64 (x1_1 + 1))] ?_
                    with_reducible refine (laws_markText.calls k1 (wrap64 (x1_1 + 1)) t259 _ A7.out).mono ?_
                    rintro e w19 ⟨rfl, hb⟩
                    refine ⟨_, rfl, ?_⟩
                    replace HB := AM (below_step bel_ hb)
                    (try clear hb)
                    (try clear hb2)
                    (try clear hk)
                    (try clear hi)
                    refine hK.out _ _ ⟨((HB.out.cell (World.block_lt_of_cell? w _ hw258_0)).trans hw258_0), ((HB.out.cell (World.block_lt_of_cell? w _ hw258_1)).trans hw258_1), ((HB.out.cell (World.block_lt_of_cell? w _ hw258_2)).trans hw258_2), ((HB.out.cell (World.block_lt_of_cell? w _ hw258_3)).trans hw258_3), ((HB.out.cell (World.block_lt_of_cell? w _ hw258_4)).trans hw258_4)⟩ (fun hHeld => ?_)
                    clear hK K
                    refine nm_ ?_
                    refine pu_ HT_ 7 (some 29) #[true, true, true, true, true, true, true, true] ?_
                    refine dn_ HT_ ?_
                    have p260 : 0 ≤ (x5_1 : Int) := of_decide_eq_true (by first | (with_reducible assumption) | assumption)
                    have q260 : x5_1 < (l0.length : Int) := of_decide_eq_true (by first | (with_reducible assumption) | assumption)
                    obtain ⟨ad260, e260, hx260_0, hx260_1, hx260_2, hx260_3, hx260_4⟩ := at_T50 HR0.out x5_1 p260 q260
                    obtain rfl : ad256 = ad260 := (by injection e260)
                    replace hx260_0 := (HB.out.cell (World.block_lt_of_cell? w _ hx260_0)).trans hx260_0
                    replace hx260_1 := (HB.out.cell (World.block_lt_of_cell? w _ hx260_1)).trans hx260_1
                    replace hx260_2 := (HB.out.cell (World.block_lt_of_cell? w _ hx260_2)).trans hx260_2
                    replace hx260_3 := (HB.out.cell (World.block_lt_of_cell? w _ hx260_3)).trans hx260_3
                    replace hx260_4 := (HB.out.cell (World.block_lt_of_cell? w _ hx260_4)).trans hx260_4
                    replace p260 := eq_true p260
                    replace q260 := eq_true q260
                    have p261 : 0 ≤ (x5_1 : Int) := of_decide_eq_true (by first | (with_reducible assumption) | assumption)
                    have q261 : x5_1 < (l0.length : Int) := of_decide_eq_true (by first | (with_reducible assumption) | assumption)
                    obtain ⟨ad261, e261, hx261_0, hx261_1, hx261_2, hx261_3, hx261_4⟩ := at_T50 HR0.out x5_1 p261 q261
                    obtain rfl : ad256 = ad261 := (by injection e261)
                    replace hx261_0 := (HB.out.cell (World.block_lt_of_cell? w _ hx261_0)).trans hx261_0
                    replace hx261_1 := (HB.out.cell (World.block_lt_of_cell? w _ hx261_1)).trans hx261_1
                    replace hx261_2 := (HB.out.cell (World.block_lt_of_cell? w _ hx261_2)).trans hx261_2
                    replace hx261_3 := (HB.out.cell (World.block_lt_of_cell? w _ hx261_3)).trans hx261_3
                    replace hx261_4 := (HB.out.cell (World.block_lt_of_cell? w _ hx261_4)).trans hx261_4
                    replace p261 := eq_true p261
                    replace q261 := eq_true q261
                    have p262 : 0 ≤ (x5_1 : Int) := of_decide_eq_true (by first | (with_reducible assumption) | assumption)
                    have q262 : x5_1 < (l0.length : Int) := of_decide_eq_true (by first | (with_reducible assumption) | assumption)
                    obtain ⟨ad262, e262, hx262_0, hx262_1, hx262_2, hx262_3, hx262_4⟩ := at_T50 HR0.out x5_1 p262 q262
                    obtain rfl : ad256 = ad262 := (by injection e262)
                    replace hx262_0 := (HB.out.cell (World.block_lt_of_cell? w _ hx262_0)).trans hx262_0
                    replace hx262_1 := (HB.out.cell (World.block_lt_of_cell? w _ hx262_1)).trans hx262_1
                    replace hx262_2 := (HB.out.cell (World.block_lt_of_cell? w _ hx262_2)).trans hx262_2
                    replace hx262_3 := (HB.out.cell (World.block_lt_of_cell? w _ hx262_3)).trans hx262_3
                    replace hx262_4 := (HB.out.cell (World.block_lt_of_cell? w _ hx262_4)).trans hx262_4
                    replace p262 := eq_true p262
                    replace q262 := eq_true q262
                    try go_wp2
                    go_ret
                    exact ⟨ri_, bel_⟩
                · rw [if_neg c10] at H
                  have c10b0 : (((rd_T50 l0 x5_1).f3) == (wrap64 ((wrap64 ((wrap64 (x1_1 + 1)) + 1)) + 1))) = false := beq_eq_false_iff_ne.mpr c10
                  try have c10b9 : ((((rd_T50 l0 x5_1).f3) == ((((((x1_1 + 1)) + 1)) + 1)))) = false := (by have hw0 : wrap64 (x1_1 + 1) = x1_1 + 1 := (by unfold wrap64; omega); have hw1 : wrap64 (((x1_1 + 1)) + 1) = ((x1_1 + 1)) + 1 := (by unfold wrap64; omega); have hw2 : wrap64 (((((x1_1 + 1)) + 1)) + 1) = ((((x1_1 + 1)) + 1)) + 1 := (by unfold wrap64; omega); have z_ := c10b0; simp only [hw0, hw1, hw2] at z_; exact z_)
                  have c10b1 : (((rd_T50 l0 x5_1).f3) != (wrap64 ((wrap64 ((wrap64 (x1_1 + 1)) + 1)) + 1))) = true := bne_iff_ne.mpr c10
                  obtain rfl := Option.some.inj H
                  try go_wp2
                  replace HB := AM (below_drew1 HB.out)
                  have p256 : 0 ≤ (x5_1 : Int) := of_decide_eq_true (by first | (with_reducible assumption) | assumption)
                  have q256 : x5_1 < (l0.length : Int) := of_decide_eq_true (by first | (with_reducible assumption) | assumption)
                  obtain ⟨ad256, e256, hx256_0, hx256_1, hx256_2, hx256_3, hx256_4⟩ := at_T50 HR0.out x5_1 p256 q256
                  have hw256_4 := hx256_4
                  have hw256_3 := hx256_3
                  have hw256_2 := hx256_2
                  have hw256_1 := hx256_1
                  have hw256_0 := hx256_0
                  cases e256
                  replace hx256_0 := (HB.out.cell (World.block_lt_of_cell? w _ hx256_0)).trans hx256_0
                  replace hx256_1 := (HB.out.cell (World.block_lt_of_cell? w _ hx256_1)).trans hx256_1
                  replace hx256_2 := (HB.out.cell (World.block_lt_of_cell? w _ hx256_2)).trans hx256_2
                  replace hx256_3 := (HB.out.cell (World.block_lt_of_cell? w _ hx256_3)).trans hx256_3
                  replace hx256_4 := (HB.out.cell (World.block_lt_of_cell? w _ hx256_4)).trans hx256_4
                  replace p256 := eq_true p256
                  replace q256 := eq_true q256
                  refine start_ (n := 8) (S := fun w' => w'.cell? (ad256.add ((x5_1).toNat * 5)) = some (.string ((rd_T50 l0 x5_1).f0)) ∧ w'.cell? ⟨(ad256.add ((x5_1).toNat * 5)).block, (ad256.add ((x5_1).toNat * 5)).off + 1, none⟩ = some (.string ((rd_T50 l0 x5_1).f1)) ∧ w'.cell? ⟨(ad256.add ((x5_1).toNat * 5)).block, (ad256.add ((x5_1).toNat * 5)).off + 2, none⟩ = some (.int .i64 ((rd_T50 l0 x5_1).f2)) ∧ w'.cell? ⟨(ad256.add ((x5_1).toNat * 5)).block, (ad256.add ((x5_1).toNat * 5)).off + 3, none⟩ = some (.int .i64 ((rd_T50 l0 x5_1).f3)) ∧ w'.cell? ⟨(ad256.add ((x5_1).toNat * 5)).block, (ad256.add ((x5_1).toNat * 5)).off + 4, none⟩ = some (.int .i64 ((rd_T50 l0 x5_1).f4))) (ds := []) #[false, false, false, false, false, false, false, false] (by kernel_rfl) rfl rfl ⟨((HB.out.cell (World.block_lt_of_cell? w _ hw256_0)).trans hw256_0), ((HB.out.cell (World.block_lt_of_cell? w _ hw256_1)).trans hw256_1), ((HB.out.cell (World.block_lt_of_cell? w _ hw256_2)).trans hw256_2), ((HB.out.cell (World.block_lt_of_cell? w _ hw256_3)).trans hw256_3), ((HB.out.cell (World.block_lt_of_cell? w _ hw256_4)).trans hw256_4)⟩ (fun hHeld => ?_); refine with_tabW laws_heldPlaceS.tab4 laws_heldPlaceS.bits4 (fun HT_ HW_ => ?_)
                  generalize wr.drew = w20 at HB hx256_0 hx256_1 hx256_2 hx256_3 hx256_4 hHeld ⊢
                  refine pu_ HT_ 0 (some 12) #[true, false, false, false, false, false, false, false] ?_
                  refine pu_ HT_ 1 (some 13) #[true, true, false, false, false, false, false, false] ?_
                  refine pu_ HT_ 2 (some 14) #[true, true, true, false, false, false, false, false] ?_
                  refine pu_ HT_ 3 (some 15) #[true, true, true, true, false, false, false, false] ?_
                  refine pu_ HT_ 5 (some 17) #[true, true, true, true, false, true, false, false] ?_
                  refine ta_ HT_ HW_ 4 (some 16) #[true, true, true, true, true, true, false, false] hHeld ?_
                  refine on_ HT_ 6 (some 18) #[true, true, true, true, true, true, true, false] (fun K hK => ?_)
                  refine go1_ Try.func121 #[.int .i64 x1_1] ?_
                  with_reducible refine (laws_markText.calls k1 x1_1 t257 _ A5.out).mono ?_
                  rintro e w21 ⟨rfl, hb⟩
                  refine ⟨_, rfl, ?_⟩
                  replace HB := AM (below_step bel_ hb)
                  (try clear hb)
                  (try clear hb2)
                  (try clear hk)
                  (try clear hi)
                  refine hK.out _ _ ⟨((HB.out.cell (World.block_lt_of_cell? w _ hw256_0)).trans hw256_0), ((HB.out.cell (World.block_lt_of_cell? w _ hw256_1)).trans hw256_1), ((HB.out.cell (World.block_lt_of_cell? w _ hw256_2)).trans hw256_2), ((HB.out.cell (World.block_lt_of_cell? w _ hw256_3)).trans hw256_3), ((HB.out.cell (World.block_lt_of_cell? w _ hw256_4)).trans hw256_4)⟩ (fun hHeld => ?_)
                  clear hK K
                  refine nm_ ?_
                  refine pu_ HT_ 7 (some 19) #[true, true, true, true, true, true, true, true] ?_
                  refine dn_ HT_ ?_
                  try go_wp2
                  replace HB := AM (below_drew1 HB.out)
                  have p258 : 0 ≤ (x5_1 : Int) := of_decide_eq_true (by first | (with_reducible assumption) | assumption)
                  have q258 : x5_1 < (l0.length : Int) := of_decide_eq_true (by first | (with_reducible assumption) | assumption)
                  obtain ⟨ad258, e258, hx258_0, hx258_1, hx258_2, hx258_3, hx258_4⟩ := at_T50 HR0.out x5_1 p258 q258
                  have hw258_4 := hx258_4
                  have hw258_3 := hx258_3
                  have hw258_2 := hx258_2
                  have hw258_1 := hx258_1
                  have hw258_0 := hx258_0
                  obtain rfl : ad256 = ad258 := (by injection e258)
                  replace hx258_0 := (HB.out.cell (World.block_lt_of_cell? w _ hx258_0)).trans hx258_0
                  replace hx258_1 := (HB.out.cell (World.block_lt_of_cell? w _ hx258_1)).trans hx258_1
                  replace hx258_2 := (HB.out.cell (World.block_lt_of_cell? w _ hx258_2)).trans hx258_2
                  replace hx258_3 := (HB.out.cell (World.block_lt_of_cell? w _ hx258_3)).trans hx258_3
                  replace hx258_4 := (HB.out.cell (World.block_lt_of_cell? w _ hx258_4)).trans hx258_4
                  replace p258 := eq_true p258
                  replace q258 := eq_true q258
                  refine start_ (n := 8) (S := fun w' => w'.cell? (ad256.add ((x5_1).toNat * 5)) = some (.string ((rd_T50 l0 x5_1).f0)) ∧ w'.cell? ⟨(ad256.add ((x5_1).toNat * 5)).block, (ad256.add ((x5_1).toNat * 5)).off + 1, none⟩ = some (.string ((rd_T50 l0 x5_1).f1)) ∧ w'.cell? ⟨(ad256.add ((x5_1).toNat * 5)).block, (ad256.add ((x5_1).toNat * 5)).off + 2, none⟩ = some (.int .i64 ((rd_T50 l0 x5_1).f2)) ∧ w'.cell? ⟨(ad256.add ((x5_1).toNat * 5)).block, (ad256.add ((x5_1).toNat * 5)).off + 3, none⟩ = some (.int .i64 ((rd_T50 l0 x5_1).f3)) ∧ w'.cell? ⟨(ad256.add ((x5_1).toNat * 5)).block, (ad256.add ((x5_1).toNat * 5)).off + 4, none⟩ = some (.int .i64 ((rd_T50 l0 x5_1).f4))) (ds := []) #[false, false, false, false, false, false, false, false] (by kernel_rfl) rfl rfl ⟨((HB.out.cell (World.block_lt_of_cell? w _ hw258_0)).trans hw258_0), ((HB.out.cell (World.block_lt_of_cell? w _ hw258_1)).trans hw258_1), ((HB.out.cell (World.block_lt_of_cell? w _ hw258_2)).trans hw258_2), ((HB.out.cell (World.block_lt_of_cell? w _ hw258_3)).trans hw258_3), ((HB.out.cell (World.block_lt_of_cell? w _ hw258_4)).trans hw258_4)⟩ (fun hHeld => ?_); refine with_tabW laws_heldPlaceS.tab7 laws_heldPlaceS.bits7 (fun HT_ HW_ => ?_)
                  generalize w21.drew = w22 at HB hx258_0 hx258_1 hx258_2 hx258_3 hx258_4 hHeld ⊢
                  refine pu_ HT_ 0 (some 22) #[true, false, false, false, false, false, false, false] ?_
                  refine pu_ HT_ 1 (some 23) #[true, true, false, false, false, false, false, false] ?_
                  refine pu_ HT_ 2 (some 24) #[true, true, true, false, false, false, false, false] ?_
                  refine pu_ HT_ 3 (some 25) #[true, true, true, true, false, false, false, false] ?_
                  refine pu_ HT_ 5 (some 27) #[true, true, true, true, false, true, false, false] ?_
                  refine ta_ HT_ HW_ 4 (some 26) #[true, true, true, true, true, true, false, false] hHeld ?_
                  refine on_ HT_ 6 (some 28) #[true, true, true, true, true, true, true, false] (fun K hK => ?_)
                  refine go1_ Try.func121 #[.int .i64 (wrap64 (x1_1 + 1))] ?_
                  with_reducible refine (laws_markText.calls k1 (wrap64 (x1_1 + 1)) t259 _ A7.out).mono ?_
                  rintro e w23 ⟨rfl, hb⟩
                  refine ⟨_, rfl, ?_⟩
                  replace HB := AM (below_step bel_ hb)
                  (try clear hb)
                  (try clear hb2)
                  (try clear hk)
                  (try clear hi)
                  refine hK.out _ _ ⟨((HB.out.cell (World.block_lt_of_cell? w _ hw258_0)).trans hw258_0), ((HB.out.cell (World.block_lt_of_cell? w _ hw258_1)).trans hw258_1), ((HB.out.cell (World.block_lt_of_cell? w _ hw258_2)).trans hw258_2), ((HB.out.cell (World.block_lt_of_cell? w _ hw258_3)).trans hw258_3), ((HB.out.cell (World.block_lt_of_cell? w _ hw258_4)).trans hw258_4)⟩ (fun hHeld => ?_)
                  clear hK K
                  refine nm_ ?_
                  refine pu_ HT_ 7 (some 29) #[true, true, true, true, true, true, true, true] ?_
                  refine dn_ HT_ ?_
                  have p260 : 0 ≤ (x5_1 : Int) := of_decide_eq_true (by first | (with_reducible assumption) | assumption)
                  have q260 : x5_1 < (l0.length : Int) := of_decide_eq_true (by first | (with_reducible assumption) | assumption)
                  obtain ⟨ad260, e260, hx260_0, hx260_1, hx260_2, hx260_3, hx260_4⟩ := at_T50 HR0.out x5_1 p260 q260
                  obtain rfl : ad256 = ad260 := (by injection e260)
                  replace hx260_0 := (HB.out.cell (World.block_lt_of_cell? w _ hx260_0)).trans hx260_0
                  replace hx260_1 := (HB.out.cell (World.block_lt_of_cell? w _ hx260_1)).trans hx260_1
                  replace hx260_2 := (HB.out.cell (World.block_lt_of_cell? w _ hx260_2)).trans hx260_2
                  replace hx260_3 := (HB.out.cell (World.block_lt_of_cell? w _ hx260_3)).trans hx260_3
                  replace hx260_4 := (HB.out.cell (World.block_lt_of_cell? w _ hx260_4)).trans hx260_4
                  replace p260 := eq_true p260
                  replace q260 := eq_true q260
                  have p261 : 0 ≤ (x5_1 : Int) := of_decide_eq_true (by first | (with_reducible assumption) | assumption)
                  have q261 : x5_1 < (l0.length : Int) := of_decide_eq_true (by first | (with_reducible assumption) | assumption)
                  obtain ⟨ad261, e261, hx261_0, hx261_1, hx261_2, hx261_3, hx261_4⟩ := at_T50 HR0.out x5_1 p261 q261
                  obtain rfl : ad256 = ad261 := (by injection e261)
                  replace hx261_0 := (HB.out.cell (World.block_lt_of_cell? w _ hx261_0)).trans hx261_0
                  replace hx261_1 := (HB.out.cell (World.block_lt_of_cell? w _ hx261_1)).trans hx261_1
                  replace hx261_2 := (HB.out.cell (World.block_lt_of_cell? w _ hx261_2)).trans hx261_2
                  replace hx261_3 := (HB.out.cell (World.block_lt_of_cell? w _ hx261_3)).trans hx261_3
                  replace hx261_4 := (HB.out.cell (World.block_lt_of_cell? w _ hx261_4)).trans hx261_4
                  replace p261 := eq_true p261
                  replace q261 := eq_true q261
                  try go_wp2
                  go_ret
                  exact ⟨ri_, bel_⟩
              · rw [if_neg c9] at H
                have c9b0 : (((rd_T50 l0 x5_1).f2) == (wrap64 ((wrap64 (x1_1 + 1)) + 1))) = false := beq_eq_false_iff_ne.mpr c9
                try have c9b9 : ((((rd_T50 l0 x5_1).f2) == ((((x1_1 + 1)) + 1)))) = false := (by have hw0 : wrap64 (x1_1 + 1) = x1_1 + 1 := (by unfold wrap64; omega); have hw1 : wrap64 (((x1_1 + 1)) + 1) = ((x1_1 + 1)) + 1 := (by unfold wrap64; omega); have z_ := c9b0; simp only [hw0, hw1] at z_; exact z_)
                have c9b1 : (((rd_T50 l0 x5_1).f2) != (wrap64 ((wrap64 (x1_1 + 1)) + 1))) = true := bne_iff_ne.mpr c9
                obtain rfl := Option.some.inj H
                try go_wp2
                replace HB := AM (below_drew1 HB.out)
                have p256 : 0 ≤ (x5_1 : Int) := of_decide_eq_true (by first | (with_reducible assumption) | assumption)
                have q256 : x5_1 < (l0.length : Int) := of_decide_eq_true (by first | (with_reducible assumption) | assumption)
                obtain ⟨ad256, e256, hx256_0, hx256_1, hx256_2, hx256_3, hx256_4⟩ := at_T50 HR0.out x5_1 p256 q256
                have hw256_4 := hx256_4
                have hw256_3 := hx256_3
                have hw256_2 := hx256_2
                have hw256_1 := hx256_1
                have hw256_0 := hx256_0
                cases e256
                replace hx256_0 := (HB.out.cell (World.block_lt_of_cell? w _ hx256_0)).trans hx256_0
                replace hx256_1 := (HB.out.cell (World.block_lt_of_cell? w _ hx256_1)).trans hx256_1
                replace hx256_2 := (HB.out.cell (World.block_lt_of_cell? w _ hx256_2)).trans hx256_2
                replace hx256_3 := (HB.out.cell (World.block_lt_of_cell? w _ hx256_3)).trans hx256_3
                replace hx256_4 := (HB.out.cell (World.block_lt_of_cell? w _ hx256_4)).trans hx256_4
                replace p256 := eq_true p256
                replace q256 := eq_true q256
                refine start_ (n := 8) (S := fun w' => w'.cell? (ad256.add ((x5_1).toNat * 5)) = some (.string ((rd_T50 l0 x5_1).f0)) ∧ w'.cell? ⟨(ad256.add ((x5_1).toNat * 5)).block, (ad256.add ((x5_1).toNat * 5)).off + 1, none⟩ = some (.string ((rd_T50 l0 x5_1).f1)) ∧ w'.cell? ⟨(ad256.add ((x5_1).toNat * 5)).block, (ad256.add ((x5_1).toNat * 5)).off + 2, none⟩ = some (.int .i64 ((rd_T50 l0 x5_1).f2)) ∧ w'.cell? ⟨(ad256.add ((x5_1).toNat * 5)).block, (ad256.add ((x5_1).toNat * 5)).off + 3, none⟩ = some (.int .i64 ((rd_T50 l0 x5_1).f3)) ∧ w'.cell? ⟨(ad256.add ((x5_1).toNat * 5)).block, (ad256.add ((x5_1).toNat * 5)).off + 4, none⟩ = some (.int .i64 ((rd_T50 l0 x5_1).f4))) (ds := []) #[false, false, false, false, false, false, false, false] (by kernel_rfl) rfl rfl ⟨((HB.out.cell (World.block_lt_of_cell? w _ hw256_0)).trans hw256_0), ((HB.out.cell (World.block_lt_of_cell? w _ hw256_1)).trans hw256_1), ((HB.out.cell (World.block_lt_of_cell? w _ hw256_2)).trans hw256_2), ((HB.out.cell (World.block_lt_of_cell? w _ hw256_3)).trans hw256_3), ((HB.out.cell (World.block_lt_of_cell? w _ hw256_4)).trans hw256_4)⟩ (fun hHeld => ?_); refine with_tabW laws_heldPlaceS.tab4 laws_heldPlaceS.bits4 (fun HT_ HW_ => ?_)
                generalize wr.drew = w24 at HB hx256_0 hx256_1 hx256_2 hx256_3 hx256_4 hHeld ⊢
                refine pu_ HT_ 0 (some 12) #[true, false, false, false, false, false, false, false] ?_
                refine pu_ HT_ 1 (some 13) #[true, true, false, false, false, false, false, false] ?_
                refine pu_ HT_ 2 (some 14) #[true, true, true, false, false, false, false, false] ?_
                refine pu_ HT_ 3 (some 15) #[true, true, true, true, false, false, false, false] ?_
                refine pu_ HT_ 5 (some 17) #[true, true, true, true, false, true, false, false] ?_
                refine ta_ HT_ HW_ 4 (some 16) #[true, true, true, true, true, true, false, false] hHeld ?_
                refine on_ HT_ 6 (some 18) #[true, true, true, true, true, true, true, false] (fun K hK => ?_)
                refine go1_ Try.func121 #[.int .i64 x1_1] ?_
                with_reducible refine (laws_markText.calls k1 x1_1 t257 _ A5.out).mono ?_
                rintro e w25 ⟨rfl, hb⟩
                refine ⟨_, rfl, ?_⟩
                replace HB := AM (below_step bel_ hb)
                (try clear hb)
                (try clear hb2)
                (try clear hk)
                (try clear hi)
                refine hK.out _ _ ⟨((HB.out.cell (World.block_lt_of_cell? w _ hw256_0)).trans hw256_0), ((HB.out.cell (World.block_lt_of_cell? w _ hw256_1)).trans hw256_1), ((HB.out.cell (World.block_lt_of_cell? w _ hw256_2)).trans hw256_2), ((HB.out.cell (World.block_lt_of_cell? w _ hw256_3)).trans hw256_3), ((HB.out.cell (World.block_lt_of_cell? w _ hw256_4)).trans hw256_4)⟩ (fun hHeld => ?_)
                clear hK K
                refine nm_ ?_
                refine pu_ HT_ 7 (some 19) #[true, true, true, true, true, true, true, true] ?_
                refine dn_ HT_ ?_
                try go_wp2
                replace HB := AM (below_drew1 HB.out)
                have p258 : 0 ≤ (x5_1 : Int) := of_decide_eq_true (by first | (with_reducible assumption) | assumption)
                have q258 : x5_1 < (l0.length : Int) := of_decide_eq_true (by first | (with_reducible assumption) | assumption)
                obtain ⟨ad258, e258, hx258_0, hx258_1, hx258_2, hx258_3, hx258_4⟩ := at_T50 HR0.out x5_1 p258 q258
                have hw258_4 := hx258_4
                have hw258_3 := hx258_3
                have hw258_2 := hx258_2
                have hw258_1 := hx258_1
                have hw258_0 := hx258_0
                obtain rfl : ad256 = ad258 := (by injection e258)
                replace hx258_0 := (HB.out.cell (World.block_lt_of_cell? w _ hx258_0)).trans hx258_0
                replace hx258_1 := (HB.out.cell (World.block_lt_of_cell? w _ hx258_1)).trans hx258_1
                replace hx258_2 := (HB.out.cell (World.block_lt_of_cell? w _ hx258_2)).trans hx258_2
                replace hx258_3 := (HB.out.cell (World.block_lt_of_cell? w _ hx258_3)).trans hx258_3
                replace hx258_4 := (HB.out.cell (World.block_lt_of_cell? w _ hx258_4)).trans hx258_4
                replace p258 := eq_true p258
                replace q258 := eq_true q258
                refine start_ (n := 8) (S := fun w' => w'.cell? (ad256.add ((x5_1).toNat * 5)) = some (.string ((rd_T50 l0 x5_1).f0)) ∧ w'.cell? ⟨(ad256.add ((x5_1).toNat * 5)).block, (ad256.add ((x5_1).toNat * 5)).off + 1, none⟩ = some (.string ((rd_T50 l0 x5_1).f1)) ∧ w'.cell? ⟨(ad256.add ((x5_1).toNat * 5)).block, (ad256.add ((x5_1).toNat * 5)).off + 2, none⟩ = some (.int .i64 ((rd_T50 l0 x5_1).f2)) ∧ w'.cell? ⟨(ad256.add ((x5_1).toNat * 5)).block, (ad256.add ((x5_1).toNat * 5)).off + 3, none⟩ = some (.int .i64 ((rd_T50 l0 x5_1).f3)) ∧ w'.cell? ⟨(ad256.add ((x5_1).toNat * 5)).block, (ad256.add ((x5_1).toNat * 5)).off + 4, none⟩ = some (.int .i64 ((rd_T50 l0 x5_1).f4))) (ds := []) #[false, false, false, false, false, false, false, false] (by kernel_rfl) rfl rfl ⟨((HB.out.cell (World.block_lt_of_cell? w _ hw258_0)).trans hw258_0), ((HB.out.cell (World.block_lt_of_cell? w _ hw258_1)).trans hw258_1), ((HB.out.cell (World.block_lt_of_cell? w _ hw258_2)).trans hw258_2), ((HB.out.cell (World.block_lt_of_cell? w _ hw258_3)).trans hw258_3), ((HB.out.cell (World.block_lt_of_cell? w _ hw258_4)).trans hw258_4)⟩ (fun hHeld => ?_); refine with_tabW laws_heldPlaceS.tab7 laws_heldPlaceS.bits7 (fun HT_ HW_ => ?_)
                generalize w25.drew = w26 at HB hx258_0 hx258_1 hx258_2 hx258_3 hx258_4 hHeld ⊢
                refine pu_ HT_ 0 (some 22) #[true, false, false, false, false, false, false, false] ?_
                refine pu_ HT_ 1 (some 23) #[true, true, false, false, false, false, false, false] ?_
                refine pu_ HT_ 2 (some 24) #[true, true, true, false, false, false, false, false] ?_
                refine pu_ HT_ 3 (some 25) #[true, true, true, true, false, false, false, false] ?_
                refine pu_ HT_ 5 (some 27) #[true, true, true, true, false, true, false, false] ?_
                refine ta_ HT_ HW_ 4 (some 26) #[true, true, true, true, true, true, false, false] hHeld ?_
                refine on_ HT_ 6 (some 28) #[true, true, true, true, true, true, true, false] (fun K hK => ?_)
                refine go1_ Try.func121 #[.int .i64 (wrap64 (x1_1 + 1))] ?_
                with_reducible refine (laws_markText.calls k1 (wrap64 (x1_1 + 1)) t259 _ A7.out).mono ?_
                rintro e w27 ⟨rfl, hb⟩
                refine ⟨_, rfl, ?_⟩
                replace HB := AM (below_step bel_ hb)
                (try clear hb)
                (try clear hb2)
                (try clear hk)
                (try clear hi)
                refine hK.out _ _ ⟨((HB.out.cell (World.block_lt_of_cell? w _ hw258_0)).trans hw258_0), ((HB.out.cell (World.block_lt_of_cell? w _ hw258_1)).trans hw258_1), ((HB.out.cell (World.block_lt_of_cell? w _ hw258_2)).trans hw258_2), ((HB.out.cell (World.block_lt_of_cell? w _ hw258_3)).trans hw258_3), ((HB.out.cell (World.block_lt_of_cell? w _ hw258_4)).trans hw258_4)⟩ (fun hHeld => ?_)
                clear hK K
                refine nm_ ?_
                refine pu_ HT_ 7 (some 29) #[true, true, true, true, true, true, true, true] ?_
                refine dn_ HT_ ?_
                have p260 : 0 ≤ (x5_1 : Int) := of_decide_eq_true (by first | (with_reducible assumption) | assumption)
                have q260 : x5_1 < (l0.length : Int) := of_decide_eq_true (by first | (with_reducible assumption) | assumption)
                obtain ⟨ad260, e260, hx260_0, hx260_1, hx260_2, hx260_3, hx260_4⟩ := at_T50 HR0.out x5_1 p260 q260
                obtain rfl : ad256 = ad260 := (by injection e260)
                replace hx260_0 := (HB.out.cell (World.block_lt_of_cell? w _ hx260_0)).trans hx260_0
                replace hx260_1 := (HB.out.cell (World.block_lt_of_cell? w _ hx260_1)).trans hx260_1
                replace hx260_2 := (HB.out.cell (World.block_lt_of_cell? w _ hx260_2)).trans hx260_2
                replace hx260_3 := (HB.out.cell (World.block_lt_of_cell? w _ hx260_3)).trans hx260_3
                replace hx260_4 := (HB.out.cell (World.block_lt_of_cell? w _ hx260_4)).trans hx260_4
                replace p260 := eq_true p260
                replace q260 := eq_true q260
                try go_wp2
                go_ret
                exact ⟨ri_, bel_⟩
            · rw [if_neg c8] at H
              have c8b0 : (((rd_T50 l0 x5_1).f1).toList == t259.toList) = false := beq_eq_false_iff_ne.mpr c8
              have c8b1 : (((rd_T50 l0 x5_1).f1).toList != t259.toList) = true := bne_iff_ne.mpr c8
              obtain rfl := Option.some.inj H
              try go_wp2
              replace HB := AM (below_drew1 HB.out)
              have p256 : 0 ≤ (x5_1 : Int) := of_decide_eq_true (by first | (with_reducible assumption) | assumption)
              have q256 : x5_1 < (l0.length : Int) := of_decide_eq_true (by first | (with_reducible assumption) | assumption)
              obtain ⟨ad256, e256, hx256_0, hx256_1, hx256_2, hx256_3, hx256_4⟩ := at_T50 HR0.out x5_1 p256 q256
              have hw256_4 := hx256_4
              have hw256_3 := hx256_3
              have hw256_2 := hx256_2
              have hw256_1 := hx256_1
              have hw256_0 := hx256_0
              cases e256
              replace hx256_0 := (HB.out.cell (World.block_lt_of_cell? w _ hx256_0)).trans hx256_0
              replace hx256_1 := (HB.out.cell (World.block_lt_of_cell? w _ hx256_1)).trans hx256_1
              replace hx256_2 := (HB.out.cell (World.block_lt_of_cell? w _ hx256_2)).trans hx256_2
              replace hx256_3 := (HB.out.cell (World.block_lt_of_cell? w _ hx256_3)).trans hx256_3
              replace hx256_4 := (HB.out.cell (World.block_lt_of_cell? w _ hx256_4)).trans hx256_4
              replace p256 := eq_true p256
              replace q256 := eq_true q256
              refine start_ (n := 8) (S := fun w' => w'.cell? (ad256.add ((x5_1).toNat * 5)) = some (.string ((rd_T50 l0 x5_1).f0)) ∧ w'.cell? ⟨(ad256.add ((x5_1).toNat * 5)).block, (ad256.add ((x5_1).toNat * 5)).off + 1, none⟩ = some (.string ((rd_T50 l0 x5_1).f1)) ∧ w'.cell? ⟨(ad256.add ((x5_1).toNat * 5)).block, (ad256.add ((x5_1).toNat * 5)).off + 2, none⟩ = some (.int .i64 ((rd_T50 l0 x5_1).f2)) ∧ w'.cell? ⟨(ad256.add ((x5_1).toNat * 5)).block, (ad256.add ((x5_1).toNat * 5)).off + 3, none⟩ = some (.int .i64 ((rd_T50 l0 x5_1).f3)) ∧ w'.cell? ⟨(ad256.add ((x5_1).toNat * 5)).block, (ad256.add ((x5_1).toNat * 5)).off + 4, none⟩ = some (.int .i64 ((rd_T50 l0 x5_1).f4))) (ds := []) #[false, false, false, false, false, false, false, false] (by kernel_rfl) rfl rfl ⟨((HB.out.cell (World.block_lt_of_cell? w _ hw256_0)).trans hw256_0), ((HB.out.cell (World.block_lt_of_cell? w _ hw256_1)).trans hw256_1), ((HB.out.cell (World.block_lt_of_cell? w _ hw256_2)).trans hw256_2), ((HB.out.cell (World.block_lt_of_cell? w _ hw256_3)).trans hw256_3), ((HB.out.cell (World.block_lt_of_cell? w _ hw256_4)).trans hw256_4)⟩ (fun hHeld => ?_); refine with_tabW laws_heldPlaceS.tab4 laws_heldPlaceS.bits4 (fun HT_ HW_ => ?_)
              generalize wr.drew = w28 at HB hx256_0 hx256_1 hx256_2 hx256_3 hx256_4 hHeld ⊢
              refine pu_ HT_ 0 (some 12) #[true, false, false, false, false, false, false, false] ?_
              refine pu_ HT_ 1 (some 13) #[true, true, false, false, false, false, false, false] ?_
              refine pu_ HT_ 2 (some 14) #[true, true, true, false, false, false, false, false] ?_
              refine pu_ HT_ 3 (some 15) #[true, true, true, true, false, false, false, false] ?_
              refine pu_ HT_ 5 (some 17) #[true, true, true, true, false, true, false, false] ?_
              refine ta_ HT_ HW_ 4 (some 16) #[true, true, true, true, true, true, false, false] hHeld ?_
              refine on_ HT_ 6 (some 18) #[true, true, true, true, true, true, true, false] (fun K hK => ?_)
              refine go1_ Try.func121 #[.int .i64 x1_1] ?_
              with_reducible refine (laws_markText.calls k1 x1_1 t257 _ A5.out).mono ?_
              rintro e w29 ⟨rfl, hb⟩
              refine ⟨_, rfl, ?_⟩
              replace HB := AM (below_step bel_ hb)
              (try clear hb)
              (try clear hb2)
              (try clear hk)
              (try clear hi)
              refine hK.out _ _ ⟨((HB.out.cell (World.block_lt_of_cell? w _ hw256_0)).trans hw256_0), ((HB.out.cell (World.block_lt_of_cell? w _ hw256_1)).trans hw256_1), ((HB.out.cell (World.block_lt_of_cell? w _ hw256_2)).trans hw256_2), ((HB.out.cell (World.block_lt_of_cell? w _ hw256_3)).trans hw256_3), ((HB.out.cell (World.block_lt_of_cell? w _ hw256_4)).trans hw256_4)⟩ (fun hHeld => ?_)
              clear hK K
              refine nm_ ?_
              refine pu_ HT_ 7 (some 19) #[true, true, true, true, true, true, true, true] ?_
              refine dn_ HT_ ?_
              try go_wp2
              replace HB := AM (below_drew1 HB.out)
              have p258 : 0 ≤ (x5_1 : Int) := of_decide_eq_true (by first | (with_reducible assumption) | assumption)
              have q258 : x5_1 < (l0.length : Int) := of_decide_eq_true (by first | (with_reducible assumption) | assumption)
              obtain ⟨ad258, e258, hx258_0, hx258_1, hx258_2, hx258_3, hx258_4⟩ := at_T50 HR0.out x5_1 p258 q258
              have hw258_4 := hx258_4
              have hw258_3 := hx258_3
              have hw258_2 := hx258_2
              have hw258_1 := hx258_1
              have hw258_0 := hx258_0
              obtain rfl : ad256 = ad258 := (by injection e258)
              replace hx258_0 := (HB.out.cell (World.block_lt_of_cell? w _ hx258_0)).trans hx258_0
              replace hx258_1 := (HB.out.cell (World.block_lt_of_cell? w _ hx258_1)).trans hx258_1
              replace hx258_2 := (HB.out.cell (World.block_lt_of_cell? w _ hx258_2)).trans hx258_2
              replace hx258_3 := (HB.out.cell (World.block_lt_of_cell? w _ hx258_3)).trans hx258_3
              replace hx258_4 := (HB.out.cell (World.block_lt_of_cell? w _ hx258_4)).trans hx258_4
              replace p258 := eq_true p258
              replace q258 := eq_true q258
              refine start_ (n := 8) (S := fun w' => w'.cell? (ad256.add ((x5_1).toNat * 5)) = some (.string ((rd_T50 l0 x5_1).f0)) ∧ w'.cell? ⟨(ad256.add ((x5_1).toNat * 5)).block, (ad256.add ((x5_1).toNat * 5)).off + 1, none⟩ = some (.string ((rd_T50 l0 x5_1).f1)) ∧ w'.cell? ⟨(ad256.add ((x5_1).toNat * 5)).block, (ad256.add ((x5_1).toNat * 5)).off + 2, none⟩ = some (.int .i64 ((rd_T50 l0 x5_1).f2)) ∧ w'.cell? ⟨(ad256.add ((x5_1).toNat * 5)).block, (ad256.add ((x5_1).toNat * 5)).off + 3, none⟩ = some (.int .i64 ((rd_T50 l0 x5_1).f3)) ∧ w'.cell? ⟨(ad256.add ((x5_1).toNat * 5)).block, (ad256.add ((x5_1).toNat * 5)).off + 4, none⟩ = some (.int .i64 ((rd_T50 l0 x5_1).f4))) (ds := []) #[false, false, false, false, false, false, false, false] (by kernel_rfl) rfl rfl ⟨((HB.out.cell (World.block_lt_of_cell? w _ hw258_0)).trans hw258_0), ((HB.out.cell (World.block_lt_of_cell? w _ hw258_1)).trans hw258_1), ((HB.out.cell (World.block_lt_of_cell? w _ hw258_2)).trans hw258_2), ((HB.out.cell (World.block_lt_of_cell? w _ hw258_3)).trans hw258_3), ((HB.out.cell (World.block_lt_of_cell? w _ hw258_4)).trans hw258_4)⟩ (fun hHeld => ?_); refine with_tabW laws_heldPlaceS.tab7 laws_heldPlaceS.bits7 (fun HT_ HW_ => ?_)
              generalize w29.drew = w30 at HB hx258_0 hx258_1 hx258_2 hx258_3 hx258_4 hHeld ⊢
              refine pu_ HT_ 0 (some 22) #[true, false, false, false, false, false, false, false] ?_
              refine pu_ HT_ 1 (some 23) #[true, true, false, false, false, false, false, false] ?_
              refine pu_ HT_ 2 (some 24) #[true, true, true, false, false, false, false, false] ?_
              refine pu_ HT_ 3 (some 25) #[true, true, true, true, false, false, false, false] ?_
              refine pu_ HT_ 5 (some 27) #[true, true, true, true, false, true, false, false] ?_
              refine ta_ HT_ HW_ 4 (some 26) #[true, true, true, true, true, true, false, false] hHeld ?_
              refine on_ HT_ 6 (some 28) #[true, true, true, true, true, true, true, false] (fun K hK => ?_)
              refine go1_ Try.func121 #[.int .i64 (wrap64 (x1_1 + 1))] ?_
              with_reducible refine (laws_markText.calls k1 (wrap64 (x1_1 + 1)) t259 _ A7.out).mono ?_
              rintro e w31 ⟨rfl, hb⟩
              refine ⟨_, rfl, ?_⟩
              replace HB := AM (below_step bel_ hb)
              (try clear hb)
              (try clear hb2)
              (try clear hk)
              (try clear hi)
              refine hK.out _ _ ⟨((HB.out.cell (World.block_lt_of_cell? w _ hw258_0)).trans hw258_0), ((HB.out.cell (World.block_lt_of_cell? w _ hw258_1)).trans hw258_1), ((HB.out.cell (World.block_lt_of_cell? w _ hw258_2)).trans hw258_2), ((HB.out.cell (World.block_lt_of_cell? w _ hw258_3)).trans hw258_3), ((HB.out.cell (World.block_lt_of_cell? w _ hw258_4)).trans hw258_4)⟩ (fun hHeld => ?_)
              clear hK K
              refine nm_ ?_
              refine pu_ HT_ 7 (some 29) #[true, true, true, true, true, true, true, true] ?_
              refine dn_ HT_ ?_
              try go_wp2
              go_ret
              exact ⟨ri_, bel_⟩
          · rw [if_neg c6] at H
            have c6b0 : (((rd_T50 l0 x5_1).f0).toList == t257.toList) = false := beq_eq_false_iff_ne.mpr c6
            have c6b1 : (((rd_T50 l0 x5_1).f0).toList != t257.toList) = true := bne_iff_ne.mpr c6
            obtain rfl := Option.some.inj H
            try go_wp2
            replace HB := AM (below_drew1 HB.out)
            have p256 : 0 ≤ (x5_1 : Int) := of_decide_eq_true (by first | (with_reducible assumption) | assumption)
            have q256 : x5_1 < (l0.length : Int) := of_decide_eq_true (by first | (with_reducible assumption) | assumption)
            obtain ⟨ad256, e256, hx256_0, hx256_1, hx256_2, hx256_3, hx256_4⟩ := at_T50 HR0.out x5_1 p256 q256
            have hw256_4 := hx256_4
            have hw256_3 := hx256_3
            have hw256_2 := hx256_2
            have hw256_1 := hx256_1
            have hw256_0 := hx256_0
            cases e256
            replace hx256_0 := (HB.out.cell (World.block_lt_of_cell? w _ hx256_0)).trans hx256_0
            replace hx256_1 := (HB.out.cell (World.block_lt_of_cell? w _ hx256_1)).trans hx256_1
            replace hx256_2 := (HB.out.cell (World.block_lt_of_cell? w _ hx256_2)).trans hx256_2
            replace hx256_3 := (HB.out.cell (World.block_lt_of_cell? w _ hx256_3)).trans hx256_3
            replace hx256_4 := (HB.out.cell (World.block_lt_of_cell? w _ hx256_4)).trans hx256_4
            replace p256 := eq_true p256
            replace q256 := eq_true q256
            refine start_ (n := 8) (S := fun w' => w'.cell? (ad256.add ((x5_1).toNat * 5)) = some (.string ((rd_T50 l0 x5_1).f0)) ∧ w'.cell? ⟨(ad256.add ((x5_1).toNat * 5)).block, (ad256.add ((x5_1).toNat * 5)).off + 1, none⟩ = some (.string ((rd_T50 l0 x5_1).f1)) ∧ w'.cell? ⟨(ad256.add ((x5_1).toNat * 5)).block, (ad256.add ((x5_1).toNat * 5)).off + 2, none⟩ = some (.int .i64 ((rd_T50 l0 x5_1).f2)) ∧ w'.cell? ⟨(ad256.add ((x5_1).toNat * 5)).block, (ad256.add ((x5_1).toNat * 5)).off + 3, none⟩ = some (.int .i64 ((rd_T50 l0 x5_1).f3)) ∧ w'.cell? ⟨(ad256.add ((x5_1).toNat * 5)).block, (ad256.add ((x5_1).toNat * 5)).off + 4, none⟩ = some (.int .i64 ((rd_T50 l0 x5_1).f4))) (ds := []) #[false, false, false, false, false, false, false, false] (by kernel_rfl) rfl rfl ⟨((HB.out.cell (World.block_lt_of_cell? w _ hw256_0)).trans hw256_0), ((HB.out.cell (World.block_lt_of_cell? w _ hw256_1)).trans hw256_1), ((HB.out.cell (World.block_lt_of_cell? w _ hw256_2)).trans hw256_2), ((HB.out.cell (World.block_lt_of_cell? w _ hw256_3)).trans hw256_3), ((HB.out.cell (World.block_lt_of_cell? w _ hw256_4)).trans hw256_4)⟩ (fun hHeld => ?_); refine with_tabW laws_heldPlaceS.tab4 laws_heldPlaceS.bits4 (fun HT_ HW_ => ?_)
            generalize wr.drew = w32 at HB hx256_0 hx256_1 hx256_2 hx256_3 hx256_4 hHeld ⊢
            refine pu_ HT_ 0 (some 12) #[true, false, false, false, false, false, false, false] ?_
            refine pu_ HT_ 1 (some 13) #[true, true, false, false, false, false, false, false] ?_
            refine pu_ HT_ 2 (some 14) #[true, true, true, false, false, false, false, false] ?_
            refine pu_ HT_ 3 (some 15) #[true, true, true, true, false, false, false, false] ?_
            refine pu_ HT_ 5 (some 17) #[true, true, true, true, false, true, false, false] ?_
            refine ta_ HT_ HW_ 4 (some 16) #[true, true, true, true, true, true, false, false] hHeld ?_
            refine on_ HT_ 6 (some 18) #[true, true, true, true, true, true, true, false] (fun K hK => ?_)
            refine go1_ Try.func121 #[.int .i64 x1_1] ?_
            with_reducible refine (laws_markText.calls k1 x1_1 t257 _ A5.out).mono ?_
            rintro e w33 ⟨rfl, hb⟩
            refine ⟨_, rfl, ?_⟩
            replace HB := AM (below_step bel_ hb)
            (try clear hb)
            (try clear hb2)
            (try clear hk)
            (try clear hi)
            refine hK.out _ _ ⟨((HB.out.cell (World.block_lt_of_cell? w _ hw256_0)).trans hw256_0), ((HB.out.cell (World.block_lt_of_cell? w _ hw256_1)).trans hw256_1), ((HB.out.cell (World.block_lt_of_cell? w _ hw256_2)).trans hw256_2), ((HB.out.cell (World.block_lt_of_cell? w _ hw256_3)).trans hw256_3), ((HB.out.cell (World.block_lt_of_cell? w _ hw256_4)).trans hw256_4)⟩ (fun hHeld => ?_)
            clear hK K
            refine nm_ ?_
            refine pu_ HT_ 7 (some 19) #[true, true, true, true, true, true, true, true] ?_
            refine dn_ HT_ ?_
            try go_wp2
            go_ret
            exact ⟨ri_, bel_⟩
        · rw [if_neg c4] at H
          exact absurd H (by simp)
      · rw [if_neg c3] at H
        have c3b0 : decide (x5_1 < (l0.length : Int)) = false := decide_eq_false c3
        clear c3
        obtain rfl := Option.some.inj H
        go_wp2
        go_ret
        exact ⟨ri_, bel_⟩

end Go.Proofs.Yteljfdhjbnlgoaa.PFnExactPlacesRead
