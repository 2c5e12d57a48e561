/- Functions of the law FnExactPlacesDrop: the print's, with walks of this session's own. No statement is proved here. -/
import Derived.WalkLawsBesides
import Derived.Test.YtggbpjfgfenpdaaVRegFnExactPlacesDrop
-- A program of this session wrote this text: a changed copy of the kit print, with given functions.
import Derived.Test.YtggbpjfgfenpdaaPFnExactPlacesDropx0
import Derived.Test.YtggbpjfgfenpdaaPFnExactPlacesDropx7
namespace Go.Proofs.Ytggbpjfgfenpdaa.PFnExactPlacesDrop
open Go.RowKit Go.Proofs.YtggbpjfgfenpdaaW.PrintWords Go.Proofs.YtggbpjfgfenpdaaW.PrintLast Go.Proofs.YtggbpjfgfenpdaaW.PrintMore Go.Proofs.Ytggbpjfgfenpdaa.Reg Go.Proofs.Ytggbpjfgfenpdaa.Aut
attribute [local go_sem] max2_int min2_int max_two min_two max_three min_three max_four min_four   -- for this text's walks alone
set_option linter.unusedVariables false
set_option linter.unusedSimpArgs false

/-! ### laws_heldPlaceS: function 27 -/
def laws_heldPlaceS.l0 : Nat → List (S66) → Int → Int → Option (Int)
  | 0, _, _, _ => none
  | k + 1, x0, x1, x5 => if x5 < (x0.length : Int) then (if 0 ≤ x5 then ((laws_markText.f k x1).bind fun t173 => (if ((rd_T66 x0 x5).f0).toList = t173.toList then ((laws_markText.f k (wrap64 (x1 + 1))).bind fun t175 => (if ((rd_T66 x0 x5).f1).toList = t175.toList then (if ((rd_T66 x0 x5).f2) = (wrap64 ((wrap64 (x1 + 1)) + 1)) then (if ((rd_T66 x0 x5).f3) = (wrap64 ((wrap64 ((wrap64 (x1 + 1)) + 1)) + 1)) then (if ((rd_T66 x0 x5).f4) = (wrap64 ((wrap64 ((wrap64 ((wrap64 (x1 + 1)) + 1)) + 1)) + 1)) then (laws_heldPlaceS.l0 k x0 (wrap64 ((wrap64 ((wrap64 ((wrap64 ((wrap64 (x1 + 1)) + 1)) + 1)) + 1)) + 1)) (wrap64 (x5 + 1))) else (some (-1))) else (some (-1))) else (some (-1))) else (some (-1)))) else (some (-1)))) else (none)) else (some x1)
def laws_heldPlaceS.f (k : Nat) (l0 : List (S66)) (a1 : Int) : Option (Int) := laws_heldPlaceS.l0 k l0 a1 0
theorem laws_heldPlaceS.mono_l : ∀ k, (∀ y0 y1 y2, LeO (laws_heldPlaceS.l0 k y0 y1 y2) (laws_heldPlaceS.l0 (k + 1) y0 y1 y2))
  | 0 => fun _ _ _ r h => by simp [laws_heldPlaceS.l0] at h
  | k + 1 => by
    have ih0 := laws_heldPlaceS.mono_l k
    · intro y0 y1 y2
      unfold laws_heldPlaceS.l0
      repeat' first
      | (with_reducible exact ih0 _ _ _)
      | (with_reducible exact laws_markText.mono _ _)
      | (with_reducible exact LeO.refl _)
      | (with_reducible exact LeO.none _)
      | (with_reducible refine LeO.ite ?_ ?_)
      | (with_reducible refine LeO.bind ?_ (fun _ => ?_))
      | exact ih0 _ _ _
      | exact laws_markText.mono _ _
      | exact LeO.none _
      | refine LeO.ite ?_ ?_
      | refine LeO.bind ?_ (fun _ => ?_)
theorem laws_heldPlaceS.mono : ∀ a0 a1 k, LeO (laws_heldPlaceS.f k a0 a1) (laws_heldPlaceS.f (k + 1) a0 a1) := by
  intro a0 a1 k
  have ih0 := laws_heldPlaceS.mono_l k
  unfold laws_heldPlaceS.f
  repeat' first
      | (with_reducible exact ih0 _ _ _)
      | (with_reducible exact laws_markText.mono _ _)
      | (with_reducible exact LeO.refl _)
      | (with_reducible exact LeO.none _)
      | (with_reducible refine LeO.ite ?_ ?_)
      | (with_reducible refine LeO.bind ?_ (fun _ => ?_))
      | exact ih0 _ _ _
      | exact laws_markText.mono _ _
      | exact LeO.none _
      | refine LeO.ite ?_ ?_
      | refine LeO.bind ?_ (fun _ => ?_)
def laws_heldPlaceS.T4 : Bool × List (List Nat × List Nat) := (true, [([], []), ([], []), ([0, 1], [0, 1]), ([2], [2]), ([3], [3]), ([], []), ([5], [5]), ([4, 6], [4, 6])])
def laws_heldPlaceS.B4 : List Nat := [0, 0, 3, 7, 15, 0, 32, 127]
theorem laws_heldPlaceS.tab4 : rtab .any (opsOf Try.f27 4) = laws_heldPlaceS.T4 := by kernel_rfl
theorem laws_heldPlaceS.bits4 : waitsOk laws_heldPlaceS.T4.2 laws_heldPlaceS.B4 = true := by kernel_rfl
def laws_heldPlaceS.T7 : Bool × List (List Nat × List Nat) := (true, [([], []), ([], []), ([0, 1], [0, 1]), ([2], [2]), ([3], [3]), ([], []), ([5], [5]), ([4, 6], [4, 6])])
def laws_heldPlaceS.B7 : List Nat := [0, 0, 3, 7, 15, 0, 32, 127]
theorem laws_heldPlaceS.tab7 : rtab .any (opsOf Try.f27 7) = laws_heldPlaceS.T7 := by kernel_rfl
theorem laws_heldPlaceS.bits7 : waitsOk laws_heldPlaceS.T7.2 laws_heldPlaceS.B7 = true := by kernel_rfl
set_option maxHeartbeats 8000000 in
set_option maxRecDepth 100000 in
theorem laws_heldPlaceS.calls (k : Nat) (A0 : Option Addr) (c0 : Nat) (l0 : List (S66)) (a1 : Int) (r : Int) (w : World) (hr0 : Kd.C k66 w A0 l0.length l0) (hc0 : l0.length ≤ c0) (h : laws_heldPlaceS.f k l0 a1 = some r) :
    Calls Try.prog 27 #[.slice A0 l0.length c0, .int .i64 a1] w fun e w' => e = .returned (.int .i64 r) ∧ Below w.heap.size w w' := by
  have HR0 := AM hr0
  have HC0 := AM hc0
  clear hr0 hc0
  have HB := AM (Below.refl w.heap.size w)
  have H : (laws_heldPlaceS.l0 k l0 a1 0) = some r := h
  clear h
  have H' := AM H
  clear H
  go_enter Try.func27, Try.ntmps27
  go_wp2
  go_loopg [1, 5] k (fun kq v1 v5 w' => ∃ (x1_1 : Int) (x5_1 : Int), v1 = .int .i64 x1_1 ∧ v5 = .int .i64 x5_1 ∧ Aside0 (laws_heldPlaceS.l0 kq l0 x1_1 x5_1 = some r) ∧ Aside0 (kq ≤ k) ∧ Aside0 (Below w.heap.size w w'))
  case atStart => exact ⟨(a1), (0), (by first | rfl | (simp; done) | (simp [*]; done)), (by first | rfl | (simp; done) | (simp [*]; done)), H', ⟨Nat.le_refl _⟩, ⟨bel_⟩⟩
  case round =>
    clear H'
    try clear c2
    try clear p2
    obtain ⟨x1_1, x5_1, rfl, rfl, HA, HK1, HB⟩ := hrel
    cases gk with
    | zero => exact absurd HA.out (by simp [laws_heldPlaceS.l0])
    | succ k1 =>
      have H := HA.out
      clear HA
      simp only [laws_heldPlaceS.l0] at H
      by_cases c3 : x5_1 < (l0.length : Int)
      · rw [if_pos c3] at H
        have c3b0 : decide (x5_1 < (l0.length : Int)) = true := decide_eq_true c3
        clear c3
        by_cases c4 : 0 ≤ x5_1
        · rw [if_pos c4] at H
          have c4b0 : decide (0 ≤ x5_1) = true := decide_eq_true c4
          clear c4
          obtain ⟨t173, A5, H⟩ := OB H
          try dsimp only at H
          replace A5 := AM A5
          by_cases c6 : ((rd_T66 l0 x5_1).f0).toList = t173.toList
          · rw [if_pos c6] at H
            have c6b0 : (((rd_T66 l0 x5_1).f0).toList == t173.toList) = true := beq_iff_eq.mpr c6
            have c6b1 : (((rd_T66 l0 x5_1).f0).toList != t173.toList) = false := bne_eq_false_iff_eq.mpr c6
            clear c6
            obtain ⟨t175, A7, H⟩ := OB H
            try dsimp only at H
            replace A7 := AM A7
            by_cases c8 : ((rd_T66 l0 x5_1).f1).toList = t175.toList
            · rw [if_pos c8] at H
              have c8b0 : (((rd_T66 l0 x5_1).f1).toList == t175.toList) = true := beq_iff_eq.mpr c8
              have c8b1 : (((rd_T66 l0 x5_1).f1).toList != t175.toList) = false := bne_eq_false_iff_eq.mpr c8
              clear c8
              by_cases c9 : ((rd_T66 l0 x5_1).f2) = (wrap64 ((wrap64 (x1_1 + 1)) + 1))
              · rw [if_pos c9] at H
                have c9b0 : (((rd_T66 l0 x5_1).f2) == (wrap64 ((wrap64 (x1_1 + 1)) + 1))) = true := beq_iff_eq.mpr c9
                try have c9b9 : ((((rd_T66 l0 x5_1).f2) == ((((x1_1 + 1)) + 1)))) = true := (by have hw0 : wrap64 (x1_1 + 1) = x1_1 + 1 := (by unfold wrap64; omega); have hw1 : wrap64 (((x1_1 + 1)) + 1) = ((x1_1 + 1)) + 1 := (by unfold wrap64; omega); have z_ := c9b0; simp only [hw0, hw1] at z_; exact z_)
                have c9b1 : (((rd_T66 l0 x5_1).f2) != (wrap64 ((wrap64 (x1_1 + 1)) + 1))) = false := bne_eq_false_iff_eq.mpr c9
                clear c9
                by_cases c10 : ((rd_T66 l0 x5_1).f3) = (wrap64 ((wrap64 ((wrap64 (x1_1 + 1)) + 1)) + 1))
                · rw [if_pos c10] at H
                  have c10b0 : (((rd_T66 l0 x5_1).f3) == (wrap64 ((wrap64 ((wrap64 (x1_1 + 1)) + 1)) + 1))) = true := beq_iff_eq.mpr c10
                  try have c10b9 : ((((rd_T66 l0 x5_1).f3) == ((((((x1_1 + 1)) + 1)) + 1)))) = true := (by have hw0 : wrap64 (x1_1 + 1) = x1_1 + 1 := (by unfold wrap64; omega); have hw1 : wrap64 (((x1_1 + 1)) + 1) = ((x1_1 + 1)) + 1 := (by unfold wrap64; omega); have hw2 : wrap64 (((((x1_1 + 1)) + 1)) + 1) = ((((x1_1 + 1)) + 1)) + 1 := (by unfold wrap64; omega); have z_ := c10b0; simp only [hw0, hw1, hw2] at z_; exact z_)
                  have c10b1 : (((rd_T66 l0 x5_1).f3) != (wrap64 ((wrap64 ((wrap64 (x1_1 + 1)) + 1)) + 1))) = false := bne_eq_false_iff_eq.mpr c10
                  clear c10
                  by_cases c11 : ((rd_T66 l0 x5_1).f4) = (wrap64 ((wrap64 ((wrap64 ((wrap64 (x1_1 + 1)) + 1)) + 1)) + 1))
                  · rw [if_pos c11] at H
                    have c11b0 : (((rd_T66 l0 x5_1).f4) == (wrap64 ((wrap64 ((wrap64 ((wrap64 (x1_1 + 1)) + 1)) + 1)) + 1))) = true := beq_iff_eq.mpr c11
                    have c11b1 : (((rd_T66 l0 x5_1).f4) != (wrap64 ((wrap64 ((wrap64 ((wrap64 (x1_1 + 1)) + 1)) + 1)) + 1))) = false := bne_eq_false_iff_eq.mpr c11
                    clear c11
                    have H' := AM H
                    clear H
                    try go_wp2
                    replace HB := AM (below_drew1 HB.out)
                    have p172 : 0 ≤ (x5_1 : Int) := of_decide_eq_true (by first | (with_reducible assumption) | assumption)
                    have q172 : x5_1 < (l0.length : Int) := of_decide_eq_true (by first | (with_reducible assumption) | assumption)
                    obtain ⟨ad172, e172, hx172_0, hx172_1, hx172_2, hx172_3, hx172_4⟩ := at_T66 HR0.out x5_1 p172 q172
                    have hw172_4 := hx172_4
                    have hw172_3 := hx172_3
                    have hw172_2 := hx172_2
                    have hw172_1 := hx172_1
                    have hw172_0 := hx172_0
                    cases e172
                    replace hx172_0 := (HB.out.cell (World.block_lt_of_cell? w _ hx172_0)).trans hx172_0
                    replace hx172_1 := (HB.out.cell (World.block_lt_of_cell? w _ hx172_1)).trans hx172_1
                    replace hx172_2 := (HB.out.cell (World.block_lt_of_cell? w _ hx172_2)).trans hx172_2
                    replace hx172_3 := (HB.out.cell (World.block_lt_of_cell? w _ hx172_3)).trans hx172_3
                    replace hx172_4 := (HB.out.cell (World.block_lt_of_cell? w _ hx172_4)).trans hx172_4
                    replace p172 := eq_true p172
                    replace q172 := eq_true q172
                    refine start_ (n := 8) (S := fun w' => w'.cell? (ad172.add ((x5_1).toNat * 5)) = some (.string ((rd_T66 l0 x5_1).f0)) ∧ w'.cell? ⟨(ad172.add ((x5_1).toNat * 5)).block, (ad172.add ((x5_1).toNat * 5)).off + 1, none⟩ = some (.string ((rd_T66 l0 x5_1).f1)) ∧ w'.cell? ⟨(ad172.add ((x5_1).toNat * 5)).block, (ad172.add ((x5_1).toNat * 5)).off + 2, none⟩ = some (.int .i64 ((rd_T66 l0 x5_1).f2)) ∧ w'.cell? ⟨(ad172.add ((x5_1).toNat * 5)).block, (ad172.add ((x5_1).toNat * 5)).off + 3, none⟩ = some (.int .i64 ((rd_T66 l0 x5_1).f3)) ∧ w'.cell? ⟨(ad172.add ((x5_1).toNat * 5)).block, (ad172.add ((x5_1).toNat * 5)).off + 4, none⟩ = some (.int .i64 ((rd_T66 l0 x5_1).f4))) (ds := []) #[false, false, false, false, false, false, false, false] (by kernel_rfl) rfl rfl ⟨((HB.out.cell (World.block_lt_of_cell? w _ hw172_0)).trans hw172_0), ((HB.out.cell (World.block_lt_of_cell? w _ hw172_1)).trans hw172_1), ((HB.out.cell (World.block_lt_of_cell? w _ hw172_2)).trans hw172_2), ((HB.out.cell (World.block_lt_of_cell? w _ hw172_3)).trans hw172_3), ((HB.out.cell (World.block_lt_of_cell? w _ hw172_4)).trans hw172_4)⟩ (fun hHeld => ?_); refine with_tabW laws_heldPlaceS.tab4 laws_heldPlaceS.bits4 (fun HT_ HW_ => ?_)
                    generalize wr.drew = w12 at HB hx172_0 hx172_1 hx172_2 hx172_3 hx172_4 hHeld ⊢
                    refine pu_ HT_ 0 (some 12) #[true, false, false, false, false, false, false, false] ?_
                    refine pu_ HT_ 1 (some 13) #[true, true, false, false, false, false, false, false] ?_
                    refine pu_ HT_ 2 (some 14) #[true, true, true, false, false, false, false, false] ?_
                    refine pu_ HT_ 3 (some 15) #[true, true, true, true, false, false, false, false] ?_
                    refine pu_ HT_ 5 (some 17) #[true, true, true, true, false, true, false, false] ?_
                    refine ta_ HT_ HW_ 4 (some 16) #[true, true, true, true, true, true, false, false] hHeld ?_
                    refine on_ HT_ 6 (some 18) #[true, true, true, true, true, true, true, false] (fun K hK => ?_)
                    refine go1_ Try.func63 #[.int .i64 x1_1] ?_
                    with_reducible refine (laws_markText.calls k1 x1_1 t173 _ A5.out).mono ?_
                    rintro e w13 ⟨rfl, hb⟩
                    refine ⟨_, rfl, ?_⟩
                    replace HB := AM (below_step bel_ hb)
                    (try clear hb)
                    (try clear hb2)
                    (try clear hk)
                    (try clear hi)
                    refine hK.out _ _ ⟨((HB.out.cell (World.block_lt_of_cell? w _ hw172_0)).trans hw172_0), ((HB.out.cell (World.block_lt_of_cell? w _ hw172_1)).trans hw172_1), ((HB.out.cell (World.block_lt_of_cell? w _ hw172_2)).trans hw172_2), ((HB.out.cell (World.block_lt_of_cell? w _ hw172_3)).trans hw172_3), ((HB.out.cell (World.block_lt_of_cell? w _ hw172_4)).trans hw172_4)⟩ (fun hHeld => ?_)
                    clear hK K
                    refine nm_ ?_
                    refine pu_ HT_ 7 (some 19) #[true, true, true, true, true, true, true, true] ?_
                    refine dn_ HT_ ?_
                    try go_wp2
                    replace HB := AM (below_drew1 HB.out)
                    have p174 : 0 ≤ (x5_1 : Int) := of_decide_eq_true (by first | (with_reducible assumption) | assumption)
                    have q174 : x5_1 < (l0.length : Int) := of_decide_eq_true (by first | (with_reducible assumption) | assumption)
                    obtain ⟨ad174, e174, hx174_0, hx174_1, hx174_2, hx174_3, hx174_4⟩ := at_T66 HR0.out x5_1 p174 q174
                    have hw174_4 := hx174_4
                    have hw174_3 := hx174_3
                    have hw174_2 := hx174_2
                    have hw174_1 := hx174_1
                    have hw174_0 := hx174_0
                    obtain rfl : ad172 = ad174 := (by injection e174)
                    replace hx174_0 := (HB.out.cell (World.block_lt_of_cell? w _ hx174_0)).trans hx174_0
                    replace hx174_1 := (HB.out.cell (World.block_lt_of_cell? w _ hx174_1)).trans hx174_1
                    replace hx174_2 := (HB.out.cell (World.block_lt_of_cell? w _ hx174_2)).trans hx174_2
                    replace hx174_3 := (HB.out.cell (World.block_lt_of_cell? w _ hx174_3)).trans hx174_3
                    replace hx174_4 := (HB.out.cell (World.block_lt_of_cell? w _ hx174_4)).trans hx174_4
                    replace p174 := eq_true p174
                    replace q174 := eq_true q174
                    refine start_ (n := 8) (S := fun w' => w'.cell? (ad172.add ((x5_1).toNat * 5)) = some (.string ((rd_T66 l0 x5_1).f0)) ∧ w'.cell? ⟨(ad172.add ((x5_1).toNat * 5)).block, (ad172.add ((x5_1).toNat * 5)).off + 1, none⟩ = some (.string ((rd_T66 l0 x5_1).f1)) ∧ w'.cell? ⟨(ad172.add ((x5_1).toNat * 5)).block, (ad172.add ((x5_1).toNat * 5)).off + 2, none⟩ = some (.int .i64 ((rd_T66 l0 x5_1).f2)) ∧ w'.cell? ⟨(ad172.add ((x5_1).toNat * 5)).block, (ad172.add ((x5_1).toNat * 5)).off + 3, none⟩ = some (.int .i64 ((rd_T66 l0 x5_1).f3)) ∧ w'.cell? ⟨(ad172.add ((x5_1).toNat * 5)).block, (ad172.add ((x5_1).toNat * 5)).off + 4, none⟩ = some (.int .i64 ((rd_T66 l0 x5_1).f4))) (ds := []) #[false, false, false, false, false, false, false, false] (by kernel_rfl) rfl rfl ⟨((HB.out.cell (World.block_lt_of_cell? w _ hw174_0)).trans hw174_0), ((HB.out.cell (World.block_lt_of_cell? w _ hw174_1)).trans hw174_1), ((HB.out.cell (World.block_lt_of_cell? w _ hw174_2)).trans hw174_2), ((HB.out.cell (World.block_lt_of_cell? w _ hw174_3)).trans hw174_3), ((HB.out.cell (World.block_lt_of_cell? w _ hw174_4)).trans hw174_4)⟩ (fun hHeld => ?_); refine with_tabW laws_heldPlaceS.tab7 laws_heldPlaceS.bits7 (fun HT_ HW_ => ?_)
                    generalize w13.drew = w14 at HB hx174_0 hx174_1 hx174_2 hx174_3 hx174_4 hHeld ⊢
                    refine pu_ HT_ 0 (some 22) #[true, false, false, false, false, false, false, false] ?_
                    refine pu_ HT_ 1 (some 23) #[true, true, false, false, false, false, false, false] ?_
                    refine pu_ HT_ 2 (some 24) #[true, true, true, false, false, false, false, false] ?_
                    refine pu_ HT_ 3 (some 25) #[true, true, true, true, false, false, false, false] ?_
                    refine pu_ HT_ 5 (some 27) #[true, true, true, true, false, true, false, false] ?_
                    refine ta_ HT_ HW_ 4 (some 26) #[true, true, true, true, true, true, false, false] hHeld ?_
                    refine on_ HT_ 6 (some 28) #[true, true, true, true, true, true, true, false] (fun K hK => ?_)
                    refine go1_ Try.func63 #[.int .i64 (wrap64 (x1_1 + 1))] ?_
                    with_reducible refine (laws_markText.calls k1 (wrap64 (x1_1 + 1)) t175 _ A7.out).mono ?_
                    rintro e w15 ⟨rfl, hb⟩
                    refine ⟨_, rfl, ?_⟩
                    replace HB := AM (below_step bel_ hb)
                    (try clear hb)
                    (try clear hb2)
                    (try clear hk)
                    (try clear hi)
                    refine hK.out _ _ ⟨((HB.out.cell (World.block_lt_of_cell? w _ hw174_0)).trans hw174_0), ((HB.out.cell (World.block_lt_of_cell? w _ hw174_1)).trans hw174_1), ((HB.out.cell (World.block_lt_of_cell? w _ hw174_2)).trans hw174_2), ((HB.out.cell (World.block_lt_of_cell? w _ hw174_3)).trans hw174_3), ((HB.out.cell (World.block_lt_of_cell? w _ hw174_4)).trans hw174_4)⟩ (fun hHeld => ?_)
                    clear hK K
                    refine nm_ ?_
                    refine pu_ HT_ 7 (some 29) #[true, true, true, true, true, true, true, true] ?_
                    refine dn_ HT_ ?_
                    have p176 : 0 ≤ (x5_1 : Int) := of_decide_eq_true (by first | (with_reducible assumption) | assumption)
                    have q176 : x5_1 < (l0.length : Int) := of_decide_eq_true (by first | (with_reducible assumption) | assumption)
                    obtain ⟨ad176, e176, hx176_0, hx176_1, hx176_2, hx176_3, hx176_4⟩ := at_T66 HR0.out x5_1 p176 q176
                    obtain rfl : ad172 = ad176 := (by injection e176)
                    replace hx176_0 := (HB.out.cell (World.block_lt_of_cell? w _ hx176_0)).trans hx176_0
                    replace hx176_1 := (HB.out.cell (World.block_lt_of_cell? w _ hx176_1)).trans hx176_1
                    replace hx176_2 := (HB.out.cell (World.block_lt_of_cell? w _ hx176_2)).trans hx176_2
                    replace hx176_3 := (HB.out.cell (World.block_lt_of_cell? w _ hx176_3)).trans hx176_3
                    replace hx176_4 := (HB.out.cell (World.block_lt_of_cell? w _ hx176_4)).trans hx176_4
                    replace p176 := eq_true p176
                    replace q176 := eq_true q176
                    have p177 : 0 ≤ (x5_1 : Int) := of_decide_eq_true (by first | (with_reducible assumption) | assumption)
                    have q177 : x5_1 < (l0.length : Int) := of_decide_eq_true (by first | (with_reducible assumption) | assumption)
                    obtain ⟨ad177, e177, hx177_0, hx177_1, hx177_2, hx177_3, hx177_4⟩ := at_T66 HR0.out x5_1 p177 q177
                    obtain rfl : ad172 = ad177 := (by injection e177)
                    replace hx177_0 := (HB.out.cell (World.block_lt_of_cell? w _ hx177_0)).trans hx177_0
                    replace hx177_1 := (HB.out.cell (World.block_lt_of_cell? w _ hx177_1)).trans hx177_1
                    replace hx177_2 := (HB.out.cell (World.block_lt_of_cell? w _ hx177_2)).trans hx177_2
                    replace hx177_3 := (HB.out.cell (World.block_lt_of_cell? w _ hx177_3)).trans hx177_3
                    replace hx177_4 := (HB.out.cell (World.block_lt_of_cell? w _ hx177_4)).trans hx177_4
                    replace p177 := eq_true p177
                    replace q177 := eq_true q177
                    have p178 : 0 ≤ (x5_1 : Int) := of_decide_eq_true (by first | (with_reducible assumption) | assumption)
                    have q178 : x5_1 < (l0.length : Int) := of_decide_eq_true (by first | (with_reducible assumption) | assumption)
                    obtain ⟨ad178, e178, hx178_0, hx178_1, hx178_2, hx178_3, hx178_4⟩ := at_T66 HR0.out x5_1 p178 q178
                    obtain rfl : ad172 = ad178 := (by injection e178)
                    replace hx178_0 := (HB.out.cell (World.block_lt_of_cell? w _ hx178_0)).trans hx178_0
                    replace hx178_1 := (HB.out.cell (World.block_lt_of_cell? w _ hx178_1)).trans hx178_1
                    replace hx178_2 := (HB.out.cell (World.block_lt_of_cell? w _ hx178_2)).trans hx178_2
                    replace hx178_3 := (HB.out.cell (World.block_lt_of_cell? w _ hx178_3)).trans hx178_3
                    replace hx178_4 := (HB.out.cell (World.block_lt_of_cell? w _ hx178_4)).trans hx178_4
                    replace p178 := eq_true p178
                    replace q178 := eq_true q178
                    try go_wp2
                    go_roundg k1
                    case measure => have := HK1.out; omega
                    case rel => exact ⟨(wrap64 ((wrap64 ((wrap64 ((wrap64 ((wrap64 (x1_1 + 1)) + 1)) + 1)) + 1)) + 1)), (wrap64 (x5_1 + 1)), (by first | rfl | (simp; done) | (simp [*]; done)), (by first | rfl | (simp; done) | (simp [*]; done)), H', ⟨by have := HK1.out; omega⟩, ⟨bel_⟩⟩
                  · rw [if_neg c11] at H
                    have c11b0 : (((rd_T66 l0 x5_1).f4) == (wrap64 ((wrap64 ((wrap64 ((wrap64 (x1_1 + 1)) + 1)) + 1)) + 1))) = false := beq_eq_false_iff_ne.mpr c11
                    have c11b1 : (((rd_T66 l0 x5_1).f4) != (wrap64 ((wrap64 ((wrap64 ((wrap64 (x1_1 + 1)) + 1)) + 1)) + 1))) = true := bne_iff_ne.mpr c11
                    obtain rfl := Option.some.inj H
                    try go_wp2
                    replace HB := AM (below_drew1 HB.out)
                    have p172 : 0 ≤ (x5_1 : Int) := of_decide_eq_true (by first | (with_reducible assumption) | assumption)
                    have q172 : x5_1 < (l0.length : Int) := of_decide_eq_true (by first | (with_reducible assumption) | assumption)
                    obtain ⟨ad172, e172, hx172_0, hx172_1, hx172_2, hx172_3, hx172_4⟩ := at_T66 HR0.out x5_1 p172 q172
                    have hw172_4 := hx172_4
                    have hw172_3 := hx172_3
                    have hw172_2 := hx172_2
                    have hw172_1 := hx172_1
                    have hw172_0 := hx172_0
                    cases e172
                    replace hx172_0 := (HB.out.cell (World.block_lt_of_cell? w _ hx172_0)).trans hx172_0
                    replace hx172_1 := (HB.out.cell (World.block_lt_of_cell? w _ hx172_1)).trans hx172_1
                    replace hx172_2 := (HB.out.cell (World.block_lt_of_cell? w _ hx172_2)).trans hx172_2
                    replace hx172_3 := (HB.out.cell (World.block_lt_of_cell? w _ hx172_3)).trans hx172_3
                    replace hx172_4 := (HB.out.cell (World.block_lt_of_cell? w _ hx172_4)).trans hx172_4
                    replace p172 := eq_true p172
                    replace q172 := eq_true q172
                    refine start_ (n := 8) (S := fun w' => w'.cell? (ad172.add ((x5_1).toNat * 5)) = some (.string ((rd_T66 l0 x5_1).f0)) ∧ w'.cell? ⟨(ad172.add ((x5_1).toNat * 5)).block, (ad172.add ((x5_1).toNat * 5)).off + 1, none⟩ = some (.string ((rd_T66 l0 x5_1).f1)) ∧ w'.cell? ⟨(ad172.add ((x5_1).toNat * 5)).block, (ad172.add ((x5_1).toNat * 5)).off + 2, none⟩ = some (.int .i64 ((rd_T66 l0 x5_1).f2)) ∧ w'.cell? ⟨(ad172.add ((x5_1).toNat * 5)).block, (ad172.add ((x5_1).toNat * 5)).off + 3, none⟩ = some (.int .i64 ((rd_T66 l0 x5_1).f3)) ∧ w'.cell? ⟨(ad172.add ((x5_1).toNat * 5)).block, (ad172.add ((x5_1).toNat * 5)).off + 4, none⟩ = some (.int .i64 ((rd_T66 l0 x5_1).f4))) (ds := []) #[false, false, false, false, false, false, false, false] (by kernel_rfl) rfl rfl ⟨((HB.out.cell (World.block_lt_of_cell? w _ hw172_0)).trans hw172_0), ((HB.out.cell (World.block_lt_of_cell? w _ hw172_1)).trans hw172_1), ((HB.out.cell (World.block_lt_of_cell? w _ hw172_2)).trans hw172_2), ((HB.out.cell (World.block_lt_of_cell? w _ hw172_3)).trans hw172_3), ((HB.out.cell (World.block_lt_of_cell? w _ hw172_4)).trans hw172_4)⟩ (fun hHeld => ?_); refine with_tabW laws_heldPlaceS.tab4 laws_heldPlaceS.bits4 (fun HT_ HW_ => ?_)
                    generalize wr.drew = w16 at HB hx172_0 hx172_1 hx172_2 hx172_3 hx172_4 hHeld ⊢
                    refine pu_ HT_ 0 (some 12) #[true, false, false, false, false, false, false, false] ?_
                    refine pu_ HT_ 1 (some 13) #[true, true, false, false, false, false, false, false] ?_
                    refine pu_ HT_ 2 (some 14) #[true, true, true, false, false, false, false, false] ?_
                    refine pu_ HT_ 3 (some 15) #[true, true, true, true, false, false, false, false] ?_
                    refine pu_ HT_ 5 (some 17) #[true, true, true, true, false, true, false, false] ?_
                    refine ta_ HT_ HW_ 4 (some 16) #[true, true, true, true, true, true, false, false] hHeld ?_
                    refine on_ HT_ 6 (some 18) #[true, true, true, true, true, true, true, false] (fun K hK => ?_)
                    refine go1_ Try.func63 #[.int .i64 x1_1] ?_
                    with_reducible refine (laws_markText.calls k1 x1_1 t173 _ A5.out).mono ?_
                    rintro e w17 ⟨rfl, hb⟩
                    refine ⟨_, rfl, ?_⟩
                    replace HB := AM (below_step bel_ hb)
                    (try clear hb)
                    (try clear hb2)
                    (try clear hk)
                    (try clear hi)
                    refine hK.out _ _ ⟨((HB.out.cell (World.block_lt_of_cell? w _ hw172_0)).trans hw172_0), ((HB.out.cell (World.block_lt_of_cell? w _ hw172_1)).trans hw172_1), ((HB.out.cell (World.block_lt_of_cell? w _ hw172_2)).trans hw172_2), ((HB.out.cell (World.block_lt_of_cell? w _ hw172_3)).trans hw172_3), ((HB.out.cell (World.block_lt_of_cell? w _ hw172_4)).trans hw172_4)⟩ (fun hHeld => ?_)
                    clear hK K
                    refine nm_ ?_
                    refine pu_ HT_ 7 (some 19) #[true, true, true, true, true, true, true, true] ?_
                    refine dn_ HT_ ?_
                    try go_wp2
                    replace HB := AM (below_drew1 HB.out)
                    have p174 : 0 ≤ (x5_1 : Int) := of_decide_eq_true (by first | (with_reducible assumption) | assumption)
                    have q174 : x5_1 < (l0.length : Int) := of_decide_eq_true (by first | (with_reducible assumption) | assumption)
                    obtain ⟨ad174, e174, hx174_0, hx174_1, hx174_2, hx174_3, hx174_4⟩ := at_T66 HR0.out x5_1 p174 q174
                    have hw174_4 := hx174_4
                    have hw174_3 := hx174_3
                    have hw174_2 := hx174_2
                    have hw174_1 := hx174_1
                    have hw174_0 := hx174_0
                    obtain rfl : ad172 = ad174 := (by injection e174)
                    replace hx174_0 := (HB.out.cell (World.block_lt_of_cell? w _ hx174_0)).trans hx174_0
                    replace hx174_1 := (HB.out.cell (World.block_lt_of_cell? w _ hx174_1)).trans hx174_1
                    replace hx174_2 := (HB.out.cell (World.block_lt_of_cell? w _ hx174_2)).trans hx174_2
                    replace hx174_3 := (HB.out.cell (World.block_lt_of_cell? w _ hx174_3)).trans hx174_3
                    replace hx174_4 := (HB.out.cell (World.block_lt_of_cell? w _ hx174_4)).trans hx174_4
                    replace p174 := eq_true p174
                    replace q174 := eq_true q174
                    refine start_ (n := 8) (S := fun w' => w'.cell? (ad172.add ((x5_1).toNat * 5)) = some (.string ((rd_T66 l0 x5_1).f0)) ∧ w'.cell? ⟨(ad172.add ((x5_1).toNat * 5)).block, (ad172.add ((x5_1).toNat * 5)).off + 1, none⟩ = some (.string ((rd_T66 l0 x5_1).f1)) ∧ w'.cell? ⟨(ad172.add ((x5_1).toNat * 5)).block, (ad172.add ((x5_1).toNat * 5)).off + 2, none⟩ = some (.int .i64 ((rd_T66 l0 x5_1).f2)) ∧ w'.cell? ⟨(ad172.add ((x5_1).toNat * 5)).block, (ad172.add ((x5_1).toNat * 5)).off + 3, none⟩ = some (.int .i64 ((rd_T66 l0 x5_1).f3)) ∧ w'.cell? ⟨(ad172.add ((x5_1).toNat * 5)).block, (ad172.add ((x5_1).toNat * 5)).off + 4, none⟩ = some (.int .i64 ((rd_T66 l0 x5_1).f4))) (ds := []) #[false, false, false, false, false, false, false, false] (by kernel_rfl) rfl rfl ⟨((HB.out.cell (World.block_lt_of_cell? w _ hw174_0)).trans hw174_0), ((HB.out.cell (World.block_lt_of_cell? w _ hw174_1)).trans hw174_1), ((HB.out.cell (World.block_lt_of_cell? w _ hw174_2)).trans hw174_2), ((HB.out.cell (World.block_lt_of_cell? w _ hw174_3)).trans hw174_3), ((HB.out.cell (World.block_lt_of_cell? w _ hw174_4)).trans hw174_4)⟩ (fun hHeld => ?_); refine with_tabW laws_heldPlaceS.tab7 laws_heldPlaceS.bits7 (fun HT_ HW_ => ?_)
                    generalize w17.drew = w18 at HB hx174_0 hx174_1 hx174_2 hx174_3 hx174_4 hHeld ⊢
                    refine pu_ HT_ 0 (some 22) #[true, false, false, false, false, false, false, false] ?_
                    refine pu_ HT_ 1 (some 23) #[true, true, false, false, false, false, false, false] ?_
                    refine pu_ HT_ 2 (some 24) #[true, true, true, false, false, false, false, false] ?_
                    refine pu_ HT_ 3 (some 25) #[true, true, true, true, false, false, false, false] ?_
                    refine pu_ HT_ 5 (some 27) #[true, true, true, true, false, true, false, false] ?_
                    refine ta_ HT_ HW_ 4 (some 26) #[true, true, true, true, true, true, false, false] hHeld ?_
                    refine on_ HT_ 6 (some 28) #[true, true, true, true, true, true, true, false] (fun K hK => ?_)
                    refine go1_ Try.func63 #[.int .i64 (wrap64 (x1_1 + 1))] ?_
                    with_reducible refine (laws_markText.calls k1 (wrap64 (x1_1 + 1)) t175 _ A7.out).mono ?_
                    rintro e w19 ⟨rfl, hb⟩
                    refine ⟨_, rfl, ?_⟩
                    replace HB := AM (below_step bel_ hb)
                    (try clear hb)
                    (try clear hb2)
                    (try clear hk)
                    (try clear hi)
                    refine hK.out _ _ ⟨((HB.out.cell (World.block_lt_of_cell? w _ hw174_0)).trans hw174_0), ((HB.out.cell (World.block_lt_of_cell? w _ hw174_1)).trans hw174_1), ((HB.out.cell (World.block_lt_of_cell? w _ hw174_2)).trans hw174_2), ((HB.out.cell (World.block_lt_of_cell? w _ hw174_3)).trans hw174_3), ((HB.out.cell (World.block_lt_of_cell? w _ hw174_4)).trans hw174_4)⟩ (fun hHeld => ?_)
                    clear hK K
                    refine nm_ ?_
                    refine pu_ HT_ 7 (some 29) #[true, true, true, true, true, true, true, true] ?_
                    refine dn_ HT_ ?_
                    have p176 : 0 ≤ (x5_1 : Int) := of_decide_eq_true (by first | (with_reducible assumption) | assumption)
                    have q176 : x5_1 < (l0.length : Int) := of_decide_eq_true (by first | (with_reducible assumption) | assumption)
                    obtain ⟨ad176, e176, hx176_0, hx176_1, hx176_2, hx176_3, hx176_4⟩ := at_T66 HR0.out x5_1 p176 q176
                    obtain rfl : ad172 = ad176 := (by injection e176)
                    replace hx176_0 := (HB.out.cell (World.block_lt_of_cell? w _ hx176_0)).trans hx176_0
                    replace hx176_1 := (HB.out.cell (World.block_lt_of_cell? w _ hx176_1)).trans hx176_1
                    replace hx176_2 := (HB.out.cell (World.block_lt_of_cell? w _ hx176_2)).trans hx176_2
                    replace hx176_3 := (HB.out.cell (World.block_lt_of_cell? w _ hx176_3)).trans hx176_3
                    replace hx176_4 := (HB.out.cell (World.block_lt_of_cell? w _ hx176_4)).trans hx176_4
                    replace p176 := eq_true p176
                    replace q176 := eq_true q176
                    have p177 : 0 ≤ (x5_1 : Int) := of_decide_eq_true (by first | (with_reducible assumption) | assumption)
                    have q177 : x5_1 < (l0.length : Int) := of_decide_eq_true (by first | (with_reducible assumption) | assumption)
                    obtain ⟨ad177, e177, hx177_0, hx177_1, hx177_2, hx177_3, hx177_4⟩ := at_T66 HR0.out x5_1 p177 q177
                    obtain rfl : ad172 = ad177 := (by injection e177)
                    replace hx177_0 := (HB.out.cell (World.block_lt_of_cell? w _ hx177_0)).trans hx177_0
                    replace hx177_1 := (HB.out.cell (World.block_lt_of_cell? w _ hx177_1)).trans hx177_1
                    replace hx177_2 := (HB.out.cell (World.block_lt_of_cell? w _ hx177_2)).trans hx177_2
                    replace hx177_3 := (HB.out.cell (World.block_lt_of_cell? w _ hx177_3)).trans hx177_3
                    replace hx177_4 := (HB.out.cell (World.block_lt_of_cell? w _ hx177_4)).trans hx177_4
                    replace p177 := eq_true p177
                    replace q177 := eq_true q177
                    have p178 : 0 ≤ (x5_1 : Int) := of_decide_eq_true (by first | (with_reducible assumption) | assumption)
                    have q178 : x5_1 < (l0.length : Int) := of_decide_eq_true (by first | (with_reducible assumption) | assumption)
                    obtain ⟨ad178, e178, hx178_0, hx178_1, hx178_2, hx178_3, hx178_4⟩ := at_T66 HR0.out x5_1 p178 q178
                    obtain rfl : ad172 = ad178 := (by injection e178)
                    replace hx178_0 := (HB.out.cell (World.block_lt_of_cell? w _ hx178_0)).trans hx178_0
                    replace hx178_1 := (HB.out.cell (World.block_lt_of_cell? w _ hx178_1)).trans hx178_1
                    replace hx178_2 := (HB.out.cell (World.block_lt_of_cell? w _ hx178_2)).trans hx178_2
                    replace hx178_3 := (HB.out.cell (World.block_lt_of_cell? w _ hx178_3)).trans hx178_3
                    replace hx178_4 := (HB.out.cell (World.block_lt_of_cell? w _ hx178_4)).trans hx178_4
                    replace p178 := eq_true p178
                    replace q178 := eq_true q178
                    try go_wp2
                    go_ret
                    exact ⟨ri_, bel_⟩
                · rw [if_neg c10] at H
                  have c10b0 : (((rd_T66 l0 x5_1).f3) == (wrap64 ((wrap64 ((wrap64 (x1_1 + 1)) + 1)) + 1))) = false := beq_eq_false_iff_ne.mpr c10
                  try have c10b9 : ((((rd_T66 l0 x5_1).f3) == ((((((x1_1 + 1)) + 1)) + 1)))) = false := (by have hw0 : wrap64 (x1_1 + 1) = x1_1 + 1 := (by unfold wrap64; omega); have hw1 : wrap64 (((x1_1 + 1)) + 1) = ((x1_1 + 1)) + 1 := (by unfold wrap64; omega); have hw2 : wrap64 (((((x1_1 + 1)) + 1)) + 1) = ((((x1_1 + 1)) + 1)) + 1 := (by unfold wrap64; omega); have z_ := c10b0; simp only [hw0, hw1, hw2] at z_; exact z_)
                  have c10b1 : (((rd_T66 l0 x5_1).f3) != (wrap64 ((wrap64 ((wrap64 (x1_1 + 1)) + 1)) + 1))) = true := bne_iff_ne.mpr c10
                  obtain rfl := Option.some.inj H
                  try go_wp2
                  replace HB := AM (below_drew1 HB.out)
                  have p172 : 0 ≤ (x5_1 : Int) := of_decide_eq_true (by first | (with_reducible assumption) | assumption)
                  have q172 : x5_1 < (l0.length : Int) := of_decide_eq_true (by first | (with_reducible assumption) | assumption)
                  obtain ⟨ad172, e172, hx172_0, hx172_1, hx172_2, hx172_3, hx172_4⟩ := at_T66 HR0.out x5_1 p172 q172
                  have hw172_4 := hx172_4
                  have hw172_3 := hx172_3
                  have hw172_2 := hx172_2
                  have hw172_1 := hx172_1
                  have hw172_0 := hx172_0
                  cases e172
                  replace hx172_0 := (HB.out.cell (World.block_lt_of_cell? w _ hx172_0)).trans hx172_0
                  replace hx172_1 := (HB.out.cell (World.block_lt_of_cell? w _ hx172_1)).trans hx172_1
                  replace hx172_2 := (HB.out.cell (World.block_lt_of_cell? w _ hx172_2)).trans hx172_2
                  replace hx172_3 := (HB.out.cell (World.block_lt_of_cell? w _ hx172_3)).trans hx172_3
                  replace hx172_4 := (HB.out.cell (World.block_lt_of_cell? w _ hx172_4)).trans hx172_4
                  replace p172 := eq_true p172
                  replace q172 := eq_true q172
                  refine start_ (n := 8) (S := fun w' => w'.cell? (ad172.add ((x5_1).toNat * 5)) = some (.string ((rd_T66 l0 x5_1).f0)) ∧ w'.cell? ⟨(ad172.add ((x5_1).toNat * 5)).block, (ad172.add ((x5_1).toNat * 5)).off + 1, none⟩ = some (.string ((rd_T66 l0 x5_1).f1)) ∧ w'.cell? ⟨(ad172.add ((x5_1).toNat * 5)).block, (ad172.add ((x5_1).toNat * 5)).off + 2, none⟩ = some (.int .i64 ((rd_T66 l0 x5_1).f2)) ∧ w'.cell? ⟨(ad172.add ((x5_1).toNat * 5)).block, (ad172.add ((x5_1).toNat * 5)).off + 3, none⟩ = some (.int .i64 ((rd_T66 l0 x5_1).f3)) ∧ w'.cell? ⟨(ad172.add ((x5_1).toNat * 5)).block, (ad172.add ((x5_1).toNat * 5)).off + 4, none⟩ = some (.int .i64 ((rd_T66 l0 x5_1).f4))) (ds := []) #[false, false, false, false, false, false, false, false] (by kernel_rfl) rfl rfl ⟨((HB.out.cell (World.block_lt_of_cell? w _ hw172_0)).trans hw172_0), ((HB.out.cell (World.block_lt_of_cell? w _ hw172_1)).trans hw172_1), ((HB.out.cell (World.block_lt_of_cell? w _ hw172_2)).trans hw172_2), ((HB.out.cell (World.block_lt_of_cell? w _ hw172_3)).trans hw172_3), ((HB.out.cell (World.block_lt_of_cell? w _ hw172_4)).trans hw172_4)⟩ (fun hHeld => ?_); refine with_tabW laws_heldPlaceS.tab4 laws_heldPlaceS.bits4 (fun HT_ HW_ => ?_)
                  generalize wr.drew = w20 at HB hx172_0 hx172_1 hx172_2 hx172_3 hx172_4 hHeld ⊢
                  refine pu_ HT_ 0 (some 12) #[true, false, false, false, false, false, false, false] ?_
                  refine pu_ HT_ 1 (some 13) #[true, true, false, false, false, false, false, false] ?_
                  refine pu_ HT_ 2 (some 14) #[true, true, true, false, false, false, false, false] ?_
                  refine pu_ HT_ 3 (some 15) #[true, true, true, true, false, false, false, false] ?_
                  refine pu_ HT_ 5 (some 17) #[true, true, true, true, false, true, false, false] ?_
                  refine ta_ HT_ HW_ 4 (some 16) #[true, true, true, true, true, true, false, false] hHeld ?_
                  refine on_ HT_ 6 (some 18) #[true, true, true, true, true, true, true, false] (fun K hK => ?_)
                  refine go1_ Try.func63 #[.int .i64 x1_1] ?_
                  with_reducible refine (laws_markText.calls k1 x1_1 t173 _ A5.out).mono ?_
                  rintro e w21 ⟨rfl, hb⟩
                  refine ⟨_, rfl, ?_⟩
                  replace HB := AM (below_step bel_ hb)
                  (try clear hb)
                  (try clear hb2)
                  (try clear hk)
                  (try clear hi)
                  refine hK.out _ _ ⟨((HB.out.cell (World.block_lt_of_cell? w _ hw172_0)).trans hw172_0), ((HB.out.cell (World.block_lt_of_cell? w _ hw172_1)).trans hw172_1), ((HB.out.cell (World.block_lt_of_cell? w _ hw172_2)).trans hw172_2), ((HB.out.cell (World.block_lt_of_cell? w _ hw172_3)).trans hw172_3), ((HB.out.cell (World.block_lt_of_cell? w _ hw172_4)).trans hw172_4)⟩ (fun hHeld => ?_)
                  clear hK K
                  refine nm_ ?_
                  refine pu_ HT_ 7 (some 19) #[true, true, true, true, true, true, true, true] ?_
                  refine dn_ HT_ ?_
                  try go_wp2
                  replace HB := AM (below_drew1 HB.out)
                  have p174 : 0 ≤ (x5_1 : Int) := of_decide_eq_true (by first | (with_reducible assumption) | assumption)
                  have q174 : x5_1 < (l0.length : Int) := of_decide_eq_true (by first | (with_reducible assumption) | assumption)
                  obtain ⟨ad174, e174, hx174_0, hx174_1, hx174_2, hx174_3, hx174_4⟩ := at_T66 HR0.out x5_1 p174 q174
                  have hw174_4 := hx174_4
                  have hw174_3 := hx174_3
                  have hw174_2 := hx174_2
                  have hw174_1 := hx174_1
                  have hw174_0 := hx174_0
                  obtain rfl : ad172 = ad174 := (by injection e174)
                  replace hx174_0 := (HB.out.cell (World.block_lt_of_cell? w _ hx174_0)).trans hx174_0
                  replace hx174_1 := (HB.out.cell (World.block_lt_of_cell? w _ hx174_1)).trans hx174_1
                  replace hx174_2 := (HB.out.cell (World.block_lt_of_cell? w _ hx174_2)).trans hx174_2
                  replace hx174_3 := (HB.out.cell (World.block_lt_of_cell? w _ hx174_3)).trans hx174_3
                  replace hx174_4 := (HB.out.cell (World.block_lt_of_cell? w _ hx174_4)).trans hx174_4
                  replace p174 := eq_true p174
                  replace q174 := eq_true q174
                  refine start_ (n := 8) (S := fun w' => w'.cell? (ad172.add ((x5_1).toNat * 5)) = some (.string ((rd_T66 l0 x5_1).f0)) ∧ w'.cell? ⟨(ad172.add ((x5_1).toNat * 5)).block, (ad172.add ((x5_1).toNat * 5)).off + 1, none⟩ = some (.string ((rd_T66 l0 x5_1).f1)) ∧ w'.cell? ⟨(ad172.add ((x5_1).toNat * 5)).block, (ad172.add ((x5_1).toNat * 5)).off + 2, none⟩ = some (.int .i64 ((rd_T66 l0 x5_1).f2)) ∧ w'.cell? ⟨(ad172.add ((x5_1).toNat * 5)).block, (ad172.add ((x5_1).toNat * 5)).off + 3, none⟩ = some (.int .i64 ((rd_T66 l0 x5_1).f3)) ∧ w'.cell? ⟨(ad172.add ((x5_1).toNat * 5)).block, (ad172.add ((x5_1).toNat * 5)).off + 4, none⟩ = some (.int .i64 ((rd_T66 l0 x5_1).f4))) (ds := []) #[false, false, false, false, false, false, false, false] (by kernel_rfl) rfl rfl ⟨((HB.out.cell (World.block_lt_of_cell? w _ hw174_0)).trans hw174_0), ((HB.out.cell (World.block_lt_of_cell? w _ hw174_1)).trans hw174_1), ((HB.out.cell (World.block_lt_of_cell? w _ hw174_2)).trans hw174_2), ((HB.out.cell (World.block_lt_of_cell? w _ hw174_3)).trans hw174_3), ((HB.out.cell (World.block_lt_of_cell? w _ hw174_4)).trans hw174_4)⟩ (fun hHeld => ?_); refine with_tabW laws_heldPlaceS.tab7 laws_heldPlaceS.bits7 (fun HT_ HW_ => ?_)
                  generalize w21.drew = w22 at HB hx174_0 hx174_1 hx174_2 hx174_3 hx174_4 hHeld ⊢
                  refine pu_ HT_ 0 (some 22) #[true, false, false, false, false, false, false, false] ?_
                  refine pu_ HT_ 1 (some 23) #[true, true, false, false, false, false, false, false] ?_
                  refine pu_ HT_ 2 (some 24) #[true, true, true, false, false, false, false, false] ?_
                  refine pu_ HT_ 3 (some 25) #[true, true, true, true, false, false, false, false] ?_
                  refine pu_ HT_ 5 (some 27) #[true, true, true, true, false, true, false, false] ?_
                  refine ta_ HT_ HW_ 4 (some 26) #[true, true, true, true, true, true, false, false] hHeld ?_
                  refine on_ HT_ 6 (some 28) #[true, true, true, true, true, true, true, false] (fun K hK => ?_)
                  refine go1_ Try.func63 #[.int .i64 (wrap64 (x1_1 + 1))] ?_
                  with_reducible refine (laws_markText.calls k1 (wrap64 (x1_1 + 1)) t175 _ A7.out).mono ?_
                  rintro e w23 ⟨rfl, hb⟩
                  refine ⟨_, rfl, ?_⟩
                  replace HB := AM (below_step bel_ hb)
                  (try clear hb)
                  (try clear hb2)
                  (try clear hk)
                  (try clear hi)
                  refine hK.out _ _ ⟨((HB.out.cell (World.block_lt_of_cell? w _ hw174_0)).trans hw174_0), ((HB.out.cell (World.block_lt_of_cell? w _ hw174_1)).trans hw174_1), ((HB.out.cell (World.block_lt_of_cell? w _ hw174_2)).trans hw174_2), ((HB.out.cell (World.block_lt_of_cell? w _ hw174_3)).trans hw174_3), ((HB.out.cell (World.block_lt_of_cell? w _ hw174_4)).trans hw174_4)⟩ (fun hHeld => ?_)
                  clear hK K
                  refine nm_ ?_
                  refine pu_ HT_ 7 (some 29) #[true, true, true, true, true, true, true, true] ?_
                  refine dn_ HT_ ?_
                  have p176 : 0 ≤ (x5_1 : Int) := of_decide_eq_true (by first | (with_reducible assumption) | assumption)
                  have q176 : x5_1 < (l0.length : Int) := of_decide_eq_true (by first | (with_reducible assumption) | assumption)
                  obtain ⟨ad176, e176, hx176_0, hx176_1, hx176_2, hx176_3, hx176_4⟩ := at_T66 HR0.out x5_1 p176 q176
                  obtain rfl : ad172 = ad176 := (by injection e176)
                  replace hx176_0 := (HB.out.cell (World.block_lt_of_cell? w _ hx176_0)).trans hx176_0
                  replace hx176_1 := (HB.out.cell (World.block_lt_of_cell? w _ hx176_1)).trans hx176_1
                  replace hx176_2 := (HB.out.cell (World.block_lt_of_cell? w _ hx176_2)).trans hx176_2
                  replace hx176_3 := (HB.out.cell (World.block_lt_of_cell? w _ hx176_3)).trans hx176_3
                  replace hx176_4 := (HB.out.cell (World.block_lt_of_cell? w _ hx176_4)).trans hx176_4
                  replace p176 := eq_true p176
                  replace q176 := eq_true q176
                  have p177 : 0 ≤ (x5_1 : Int) := of_decide_eq_true (by first | (with_reducible assumption) | assumption)
                  have q177 : x5_1 < (l0.length : Int) := of_decide_eq_true (by first | (with_reducible assumption) | assumption)
                  obtain ⟨ad177, e177, hx177_0, hx177_1, hx177_2, hx177_3, hx177_4⟩ := at_T66 HR0.out x5_1 p177 q177
                  obtain rfl : ad172 = ad177 := (by injection e177)
                  replace hx177_0 := (HB.out.cell (World.block_lt_of_cell? w _ hx177_0)).trans hx177_0
                  replace hx177_1 := (HB.out.cell (World.block_lt_of_cell? w _ hx177_1)).trans hx177_1
                  replace hx177_2 := (HB.out.cell (World.block_lt_of_cell? w _ hx177_2)).trans hx177_2
                  replace hx177_3 := (HB.out.cell (World.block_lt_of_cell? w _ hx177_3)).trans hx177_3
                  replace hx177_4 := (HB.out.cell (World.block_lt_of_cell? w _ hx177_4)).trans hx177_4
                  replace p177 := eq_true p177
                  replace q177 := eq_true q177
                  try go_wp2
                  go_ret
                  exact ⟨ri_, bel_⟩
              · rw [if_neg c9] at H
                have c9b0 : (((rd_T66 l0 x5_1).f2) == (wrap64 ((wrap64 (x1_1 + 1)) + 1))) = false := beq_eq_false_iff_ne.mpr c9
                try have c9b9 : ((((rd_T66 l0 x5_1).f2) == ((((x1_1 + 1)) + 1)))) = false := (by have hw0 : wrap64 (x1_1 + 1) = x1_1 + 1 := (by unfold wrap64; omega); have hw1 : wrap64 (((x1_1 + 1)) + 1) = ((x1_1 + 1)) + 1 := (by unfold wrap64; omega); have z_ := c9b0; simp only [hw0, hw1] at z_; exact z_)
                have c9b1 : (((rd_T66 l0 x5_1).f2) != (wrap64 ((wrap64 (x1_1 + 1)) + 1))) = true := bne_iff_ne.mpr c9
                obtain rfl := Option.some.inj H
                try go_wp2
                replace HB := AM (below_drew1 HB.out)
                have p172 : 0 ≤ (x5_1 : Int) := of_decide_eq_true (by first | (with_reducible assumption) | assumption)
                have q172 : x5_1 < (l0.length : Int) := of_decide_eq_true (by first | (with_reducible assumption) | assumption)
                obtain ⟨ad172, e172, hx172_0, hx172_1, hx172_2, hx172_3, hx172_4⟩ := at_T66 HR0.out x5_1 p172 q172
                have hw172_4 := hx172_4
                have hw172_3 := hx172_3
                have hw172_2 := hx172_2
                have hw172_1 := hx172_1
                have hw172_0 := hx172_0
                cases e172
                replace hx172_0 := (HB.out.cell (World.block_lt_of_cell? w _ hx172_0)).trans hx172_0
                replace hx172_1 := (HB.out.cell (World.block_lt_of_cell? w _ hx172_1)).trans hx172_1
                replace hx172_2 := (HB.out.cell (World.block_lt_of_cell? w _ hx172_2)).trans hx172_2
                replace hx172_3 := (HB.out.cell (World.block_lt_of_cell? w _ hx172_3)).trans hx172_3
                replace hx172_4 := (HB.out.cell (World.block_lt_of_cell? w _ hx172_4)).trans hx172_4
                replace p172 := eq_true p172
                replace q172 := eq_true q172
                refine start_ (n := 8) (S := fun w' => w'.cell? (ad172.add ((x5_1).toNat * 5)) = some (.string ((rd_T66 l0 x5_1).f0)) ∧ w'.cell? ⟨(ad172.add ((x5_1).toNat * 5)).block, (ad172.add ((x5_1).toNat * 5)).off + 1, none⟩ = some (.string ((rd_T66 l0 x5_1).f1)) ∧ w'.cell? ⟨(ad172.add ((x5_1).toNat * 5)).block, (ad172.add ((x5_1).toNat * 5)).off + 2, none⟩ = some (.int .i64 ((rd_T66 l0 x5_1).f2)) ∧ w'.cell? ⟨(ad172.add ((x5_1).toNat * 5)).block, (ad172.add ((x5_1).toNat * 5)).off + 3, none⟩ = some (.int .i64 ((rd_T66 l0 x5_1).f3)) ∧ w'.cell? ⟨(ad172.add ((x5_1).toNat * 5)).block, (ad172.add ((x5_1).toNat * 5)).off + 4, none⟩ = some (.int .i64 ((rd_T66 l0 x5_1).f4))) (ds := []) #[false, false, false, false, false, false, false, false] (by kernel_rfl) rfl rfl ⟨((HB.out.cell (World.block_lt_of_cell? w _ hw172_0)).trans hw172_0), ((HB.out.cell (World.block_lt_of_cell? w _ hw172_1)).trans hw172_1), ((HB.out.cell (World.block_lt_of_cell? w _ hw172_2)).trans hw172_2), ((HB.out.cell (World.block_lt_of_cell? w _ hw172_3)).trans hw172_3), ((HB.out.cell (World.block_lt_of_cell? w _ hw172_4)).trans hw172_4)⟩ (fun hHeld => ?_); refine with_tabW laws_heldPlaceS.tab4 laws_heldPlaceS.bits4 (fun HT_ HW_ => ?_)
                generalize wr.drew = w24 at HB hx172_0 hx172_1 hx172_2 hx172_3 hx172_4 hHeld ⊢
                refine pu_ HT_ 0 (some 12) #[true, false, false, false, false, false, false, false] ?_
                refine pu_ HT_ 1 (some 13) #[true, true, false, false, false, false, false, false] ?_
                refine pu_ HT_ 2 (some 14) #[true, true, true, false, false, false, false, false] ?_
                refine pu_ HT_ 3 (some 15) #[true, true, true, true, false, false, false, false] ?_
                refine pu_ HT_ 5 (some 17) #[true, true, true, true, false, true, false, false] ?_
                refine ta_ HT_ HW_ 4 (some 16) #[true, true, true, true, true, true, false, false] hHeld ?_
                refine on_ HT_ 6 (some 18) #[true, true, true, true, true, true, true, false] (fun K hK => ?_)
                refine go1_ Try.func63 #[.int .i64 x1_1] ?_
                with_reducible refine (laws_markText.calls k1 x1_1 t173 _ A5.out).mono ?_
                rintro e w25 ⟨rfl, hb⟩
                refine ⟨_, rfl, ?_⟩
                replace HB := AM (below_step bel_ hb)
                (try clear hb)
                (try clear hb2)
                (try clear hk)
                (try clear hi)
                refine hK.out _ _ ⟨((HB.out.cell (World.block_lt_of_cell? w _ hw172_0)).trans hw172_0), ((HB.out.cell (World.block_lt_of_cell? w _ hw172_1)).trans hw172_1), ((HB.out.cell (World.block_lt_of_cell? w _ hw172_2)).trans hw172_2), ((HB.out.cell (World.block_lt_of_cell? w _ hw172_3)).trans hw172_3), ((HB.out.cell (World.block_lt_of_cell? w _ hw172_4)).trans hw172_4)⟩ (fun hHeld => ?_)
                clear hK K
                refine nm_ ?_
                refine pu_ HT_ 7 (some 19) #[true, true, true, true, true, true, true, true] ?_
                refine dn_ HT_ ?_
                try go_wp2
                replace HB := AM (below_drew1 HB.out)
                have p174 : 0 ≤ (x5_1 : Int) := of_decide_eq_true (by first | (with_reducible assumption) | assumption)
                have q174 : x5_1 < (l0.length : Int) := of_decide_eq_true (by first | (with_reducible assumption) | assumption)
                obtain ⟨ad174, e174, hx174_0, hx174_1, hx174_2, hx174_3, hx174_4⟩ := at_T66 HR0.out x5_1 p174 q174
                have hw174_4 := hx174_4
                have hw174_3 := hx174_3
                have hw174_2 := hx174_2
                have hw174_1 := hx174_1
                have hw174_0 := hx174_0
                obtain rfl : ad172 = ad174 := (by injection e174)
                replace hx174_0 := (HB.out.cell (World.block_lt_of_cell? w _ hx174_0)).trans hx174_0
                replace hx174_1 := (HB.out.cell (World.block_lt_of_cell? w _ hx174_1)).trans hx174_1
                replace hx174_2 := (HB.out.cell (World.block_lt_of_cell? w _ hx174_2)).trans hx174_2
                replace hx174_3 := (HB.out.cell (World.block_lt_of_cell? w _ hx174_3)).trans hx174_3
                replace hx174_4 := (HB.out.cell (World.block_lt_of_cell? w _ hx174_4)).trans hx174_4
                replace p174 := eq_true p174
                replace q174 := eq_true q174
                refine start_ (n := 8) (S := fun w' => w'.cell? (ad172.add ((x5_1).toNat * 5)) = some (.string ((rd_T66 l0 x5_1).f0)) ∧ w'.cell? ⟨(ad172.add ((x5_1).toNat * 5)).block, (ad172.add ((x5_1).toNat * 5)).off + 1, none⟩ = some (.string ((rd_T66 l0 x5_1).f1)) ∧ w'.cell? ⟨(ad172.add ((x5_1).toNat * 5)).block, (ad172.add ((x5_1).toNat * 5)).off + 2, none⟩ = some (.int .i64 ((rd_T66 l0 x5_1).f2)) ∧ w'.cell? ⟨(ad172.add ((x5_1).toNat * 5)).block, (ad172.add ((x5_1).toNat * 5)).off + 3, none⟩ = some (.int .i64 ((rd_T66 l0 x5_1).f3)) ∧ w'.cell? ⟨(ad172.add ((x5_1).toNat * 5)).block, (ad172.add ((x5_1).toNat * 5)).off + 4, none⟩ = some (.int .i64 ((rd_T66 l0 x5_1).f4))) (ds := []) #[false, false, false, false, false, false, false, false] (by kernel_rfl) rfl rfl ⟨((HB.out.cell (World.block_lt_of_cell? w _ hw174_0)).trans hw174_0), ((HB.out.cell (World.block_lt_of_cell? w _ hw174_1)).trans hw174_1), ((HB.out.cell (World.block_lt_of_cell? w _ hw174_2)).trans hw174_2), ((HB.out.cell (World.block_lt_of_cell? w _ hw174_3)).trans hw174_3), ((HB.out.cell (World.block_lt_of_cell? w _ hw174_4)).trans hw174_4)⟩ (fun hHeld => ?_); refine with_tabW laws_heldPlaceS.tab7 laws_heldPlaceS.bits7 (fun HT_ HW_ => ?_)
                generalize w25.drew = w26 at HB hx174_0 hx174_1 hx174_2 hx174_3 hx174_4 hHeld ⊢
                refine pu_ HT_ 0 (some 22) #[true, false, false, false, false, false, false, false] ?_
                refine pu_ HT_ 1 (some 23) #[true, true, false, false, false, false, false, false] ?_
                refine pu_ HT_ 2 (some 24) #[true, true, true, false, false, false, false, false] ?_
                refine pu_ HT_ 3 (some 25) #[true, true, true, true, false, false, false, false] ?_
                refine pu_ HT_ 5 (some 27) #[true, true, true, true, false, true, false, false] ?_
                refine ta_ HT_ HW_ 4 (some 26) #[true, true, true, true, true, true, false, false] hHeld ?_
                refine on_ HT_ 6 (some 28) #[true, true, true, true, true, true, true, false] (fun K hK => ?_)
                refine go1_ Try.func63 #[.int .i64 (wrap64 (x1_1 + 1))] ?_
                with_reducible refine (laws_markText.calls k1 (wrap64 (x1_1 + 1)) t175 _ A7.out).mono ?_
                rintro e w27 ⟨rfl, hb⟩
                refine ⟨_, rfl, ?_⟩
                replace HB := AM (below_step bel_ hb)
                (try clear hb)
                (try clear hb2)
                (try clear hk)
                (try clear hi)
                refine hK.out _ _ ⟨((HB.out.cell (World.block_lt_of_cell? w _ hw174_0)).trans hw174_0), ((HB.out.cell (World.block_lt_of_cell? w _ hw174_1)).trans hw174_1), ((HB.out.cell (World.block_lt_of_cell? w _ hw174_2)).trans hw174_2), ((HB.out.cell (World.block_lt_of_cell? w _ hw174_3)).trans hw174_3), ((HB.out.cell (World.block_lt_of_cell? w _ hw174_4)).trans hw174_4)⟩ (fun hHeld => ?_)
                clear hK K
                refine nm_ ?_
                refine pu_ HT_ 7 (some 29) #[true, true, true, true, true, true, true, true] ?_
                refine dn_ HT_ ?_
                have p176 : 0 ≤ (x5_1 : Int) := of_decide_eq_true (by first | (with_reducible assumption) | assumption)
                have q176 : x5_1 < (l0.length : Int) := of_decide_eq_true (by first | (with_reducible assumption) | assumption)
                obtain ⟨ad176, e176, hx176_0, hx176_1, hx176_2, hx176_3, hx176_4⟩ := at_T66 HR0.out x5_1 p176 q176
                obtain rfl : ad172 = ad176 := (by injection e176)
                replace hx176_0 := (HB.out.cell (World.block_lt_of_cell? w _ hx176_0)).trans hx176_0
                replace hx176_1 := (HB.out.cell (World.block_lt_of_cell? w _ hx176_1)).trans hx176_1
                replace hx176_2 := (HB.out.cell (World.block_lt_of_cell? w _ hx176_2)).trans hx176_2
                replace hx176_3 := (HB.out.cell (World.block_lt_of_cell? w _ hx176_3)).trans hx176_3
                replace hx176_4 := (HB.out.cell (World.block_lt_of_cell? w _ hx176_4)).trans hx176_4
                replace p176 := eq_true p176
                replace q176 := eq_true q176
                try go_wp2
                go_ret
                exact ⟨ri_, bel_⟩
            · rw [if_neg c8] at H
              have c8b0 : (((rd_T66 l0 x5_1).f1).toList == t175.toList) = false := beq_eq_false_iff_ne.mpr c8
              have c8b1 : (((rd_T66 l0 x5_1).f1).toList != t175.toList) = true := bne_iff_ne.mpr c8
              obtain rfl := Option.some.inj H
              try go_wp2
              replace HB := AM (below_drew1 HB.out)
              have p172 : 0 ≤ (x5_1 : Int) := of_decide_eq_true (by first | (with_reducible assumption) | assumption)
              have q172 : x5_1 < (l0.length : Int) := of_decide_eq_true (by first | (with_reducible assumption) | assumption)
              obtain ⟨ad172, e172, hx172_0, hx172_1, hx172_2, hx172_3, hx172_4⟩ := at_T66 HR0.out x5_1 p172 q172
              have hw172_4 := hx172_4
              have hw172_3 := hx172_3
              have hw172_2 := hx172_2
              have hw172_1 := hx172_1
              have hw172_0 := hx172_0
              cases e172
              replace hx172_0 := (HB.out.cell (World.block_lt_of_cell? w _ hx172_0)).trans hx172_0
              replace hx172_1 := (HB.out.cell (World.block_lt_of_cell? w _ hx172_1)).trans hx172_1
              replace hx172_2 := (HB.out.cell (World.block_lt_of_cell? w _ hx172_2)).trans hx172_2
              replace hx172_3 := (HB.out.cell (World.block_lt_of_cell? w _ hx172_3)).trans hx172_3
              replace hx172_4 := (HB.out.cell (World.block_lt_of_cell? w _ hx172_4)).trans hx172_4
              replace p172 := eq_true p172
              replace q172 := eq_true q172
              refine start_ (n := 8) (S := fun w' => w'.cell? (ad172.add ((x5_1).toNat * 5)) = some (.string ((rd_T66 l0 x5_1).f0)) ∧ w'.cell? ⟨(ad172.add ((x5_1).toNat * 5)).block, (ad172.add ((x5_1).toNat * 5)).off + 1, none⟩ = some (.string ((rd_T66 l0 x5_1).f1)) ∧ w'.cell? ⟨(ad172.add ((x5_1).toNat * 5)).block, (ad172.add ((x5_1).toNat * 5)).off + 2, none⟩ = some (.int .i64 ((rd_T66 l0 x5_1).f2)) ∧ w'.cell? ⟨(ad172.add ((x5_1).toNat * 5)).block, (ad172.add ((x5_1).toNat * 5)).off + 3, none⟩ = some (.int .i64 ((rd_T66 l0 x5_1).f3)) ∧ w'.cell? ⟨(ad172.add ((x5_1).toNat * 5)).block, (ad172.add ((x5_1).toNat * 5)).off + 4, none⟩ = some (.int .i64 ((rd_T66 l0 x5_1).f4))) (ds := []) #[false, false, false, false, false, false, false, false] (by kernel_rfl) rfl rfl ⟨((HB.out.cell (World.block_lt_of_cell? w _ hw172_0)).trans hw172_0), ((HB.out.cell (World.block_lt_of_cell? w _ hw172_1)).trans hw172_1), ((HB.out.cell (World.block_lt_of_cell? w _ hw172_2)).trans hw172_2), ((HB.out.cell (World.block_lt_of_cell? w _ hw172_3)).trans hw172_3), ((HB.out.cell (World.block_lt_of_cell? w _ hw172_4)).trans hw172_4)⟩ (fun hHeld => ?_); refine with_tabW laws_heldPlaceS.tab4 laws_heldPlaceS.bits4 (fun HT_ HW_ => ?_)
              generalize wr.drew = w28 at HB hx172_0 hx172_1 hx172_2 hx172_3 hx172_4 hHeld ⊢
              refine pu_ HT_ 0 (some 12) #[true, false, false, false, false, false, false, false] ?_
              refine pu_ HT_ 1 (some 13) #[true, true, false, false, false, false, false, false] ?_
              refine pu_ HT_ 2 (some 14) #[true, true, true, false, false, false, false, false] ?_
              refine pu_ HT_ 3 (some 15) #[true, true, true, true, false, false, false, false] ?_
              refine pu_ HT_ 5 (some 17) #[true, true, true, true, false, true, false, false] ?_
              refine ta_ HT_ HW_ 4 (some 16) #[true, true, true, true, true, true, false, false] hHeld ?_
              refine on_ HT_ 6 (some 18) #[true, true, true, true, true, true, true, false] (fun K hK => ?_)
              refine go1_ Try.func63 #[.int .i64 x1_1] ?_
              with_reducible refine (laws_markText.calls k1 x1_1 t173 _ A5.out).mono ?_
              rintro e w29 ⟨rfl, hb⟩
              refine ⟨_, rfl, ?_⟩
              replace HB := AM (below_step bel_ hb)
              (try clear hb)
              (try clear hb2)
              (try clear hk)
              (try clear hi)
              refine hK.out _ _ ⟨((HB.out.cell (World.block_lt_of_cell? w _ hw172_0)).trans hw172_0), ((HB.out.cell (World.block_lt_of_cell? w _ hw172_1)).trans hw172_1), ((HB.out.cell (World.block_lt_of_cell? w _ hw172_2)).trans hw172_2), ((HB.out.cell (World.block_lt_of_cell? w _ hw172_3)).trans hw172_3), ((HB.out.cell (World.block_lt_of_cell? w _ hw172_4)).trans hw172_4)⟩ (fun hHeld => ?_)
              clear hK K
              refine nm_ ?_
              refine pu_ HT_ 7 (some 19) #[true, true, true, true, true, true, true, true] ?_
              refine dn_ HT_ ?_
              try go_wp2
              replace HB := AM (below_drew1 HB.out)
              have p174 : 0 ≤ (x5_1 : Int) := of_decide_eq_true (by first | (with_reducible assumption) | assumption)
              have q174 : x5_1 < (l0.length : Int) := of_decide_eq_true (by first | (with_reducible assumption) | assumption)
              obtain ⟨ad174, e174, hx174_0, hx174_1, hx174_2, hx174_3, hx174_4⟩ := at_T66 HR0.out x5_1 p174 q174
              have hw174_4 := hx174_4
              have hw174_3 := hx174_3
              have hw174_2 := hx174_2
              have hw174_1 := hx174_1
              have hw174_0 := hx174_0
              obtain rfl : ad172 = ad174 := (by injection e174)
              replace hx174_0 := (HB.out.cell (World.block_lt_of_cell? w _ hx174_0)).trans hx174_0
              replace hx174_1 := (HB.out.cell (World.block_lt_of_cell? w _ hx174_1)).trans hx174_1
              replace hx174_2 := (HB.out.cell (World.block_lt_of_cell? w _ hx174_2)).trans hx174_2
              replace hx174_3 := (HB.out.cell (World.block_lt_of_cell? w _ hx174_3)).trans hx174_3
              replace hx174_4 := (HB.out.cell (World.block_lt_of_cell? w _ hx174_4)).trans hx174_4
              replace p174 := eq_true p174
              replace q174 := eq_true q174
              refine start_ (n := 8) (S := fun w' => w'.cell? (ad172.add ((x5_1).toNat * 5)) = some (.string ((rd_T66 l0 x5_1).f0)) ∧ w'.cell? ⟨(ad172.add ((x5_1).toNat * 5)).block, (ad172.add ((x5_1).toNat * 5)).off + 1, none⟩ = some (.string ((rd_T66 l0 x5_1).f1)) ∧ w'.cell? ⟨(ad172.add ((x5_1).toNat * 5)).block, (ad172.add ((x5_1).toNat * 5)).off + 2, none⟩ = some (.int .i64 ((rd_T66 l0 x5_1).f2)) ∧ w'.cell? ⟨(ad172.add ((x5_1).toNat * 5)).block, (ad172.add ((x5_1).toNat * 5)).off + 3, none⟩ = some (.int .i64 ((rd_T66 l0 x5_1).f3)) ∧ w'.cell? ⟨(ad172.add ((x5_1).toNat * 5)).block, (ad172.add ((x5_1).toNat * 5)).off + 4, none⟩ = some (.int .i64 ((rd_T66 l0 x5_1).f4))) (ds := []) #[false, false, false, false, false, false, false, false] (by kernel_rfl) rfl rfl ⟨((HB.out.cell (World.block_lt_of_cell? w _ hw174_0)).trans hw174_0), ((HB.out.cell (World.block_lt_of_cell? w _ hw174_1)).trans hw174_1), ((HB.out.cell (World.block_lt_of_cell? w _ hw174_2)).trans hw174_2), ((HB.out.cell (World.block_lt_of_cell? w _ hw174_3)).trans hw174_3), ((HB.out.cell (World.block_lt_of_cell? w _ hw174_4)).trans hw174_4)⟩ (fun hHeld => ?_); refine with_tabW laws_heldPlaceS.tab7 laws_heldPlaceS.bits7 (fun HT_ HW_ => ?_)
              generalize w29.drew = w30 at HB hx174_0 hx174_1 hx174_2 hx174_3 hx174_4 hHeld ⊢
              refine pu_ HT_ 0 (some 22) #[true, false, false, false, false, false, false, false] ?_
              refine pu_ HT_ 1 (some 23) #[true, true, false, false, false, false, false, false] ?_
              refine pu_ HT_ 2 (some 24) #[true, true, true, false, false, false, false, false] ?_
              refine pu_ HT_ 3 (some 25) #[true, true, true, true, false, false, false, false] ?_
              refine pu_ HT_ 5 (some 27) #[true, true, true, true, false, true, false, false] ?_
              refine ta_ HT_ HW_ 4 (some 26) #[true, true, true, true, true, true, false, false] hHeld ?_
              refine on_ HT_ 6 (some 28) #[true, true, true, true, true, true, true, false] (fun K hK => ?_)
              refine go1_ Try.func63 #[.int .i64 (wrap64 (x1_1 + 1))] ?_
              with_reducible refine (laws_markText.calls k1 (wrap64 (x1_1 + 1)) t175 _ A7.out).mono ?_
              rintro e w31 ⟨rfl, hb⟩
              refine ⟨_, rfl, ?_⟩
              replace HB := AM (below_step bel_ hb)
              (try clear hb)
              (try clear hb2)
              (try clear hk)
              (try clear hi)
              refine hK.out _ _ ⟨((HB.out.cell (World.block_lt_of_cell? w _ hw174_0)).trans hw174_0), ((HB.out.cell (World.block_lt_of_cell? w _ hw174_1)).trans hw174_1), ((HB.out.cell (World.block_lt_of_cell? w _ hw174_2)).trans hw174_2), ((HB.out.cell (World.block_lt_of_cell? w _ hw174_3)).trans hw174_3), ((HB.out.cell (World.block_lt_of_cell? w _ hw174_4)).trans hw174_4)⟩ (fun hHeld => ?_)
              clear hK K
              refine nm_ ?_
              refine pu_ HT_ 7 (some 29) #[true, true, true, true, true, true, true, true] ?_
              refine dn_ HT_ ?_
              try go_wp2
              go_ret
              exact ⟨ri_, bel_⟩
          · rw [if_neg c6] at H
            have c6b0 : (((rd_T66 l0 x5_1).f0).toList == t173.toList) = false := beq_eq_false_iff_ne.mpr c6
            have c6b1 : (((rd_T66 l0 x5_1).f0).toList != t173.toList) = true := bne_iff_ne.mpr c6
            obtain rfl := Option.some.inj H
            try go_wp2
            replace HB := AM (below_drew1 HB.out)
            have p172 : 0 ≤ (x5_1 : Int) := of_decide_eq_true (by first | (with_reducible assumption) | assumption)
            have q172 : x5_1 < (l0.length : Int) := of_decide_eq_true (by first | (with_reducible assumption) | assumption)
            obtain ⟨ad172, e172, hx172_0, hx172_1, hx172_2, hx172_3, hx172_4⟩ := at_T66 HR0.out x5_1 p172 q172
            have hw172_4 := hx172_4
            have hw172_3 := hx172_3
            have hw172_2 := hx172_2
            have hw172_1 := hx172_1
            have hw172_0 := hx172_0
            cases e172
            replace hx172_0 := (HB.out.cell (World.block_lt_of_cell? w _ hx172_0)).trans hx172_0
            replace hx172_1 := (HB.out.cell (World.block_lt_of_cell? w _ hx172_1)).trans hx172_1
            replace hx172_2 := (HB.out.cell (World.block_lt_of_cell? w _ hx172_2)).trans hx172_2
            replace hx172_3 := (HB.out.cell (World.block_lt_of_cell? w _ hx172_3)).trans hx172_3
            replace hx172_4 := (HB.out.cell (World.block_lt_of_cell? w _ hx172_4)).trans hx172_4
            replace p172 := eq_true p172
            replace q172 := eq_true q172
            refine start_ (n := 8) (S := fun w' => w'.cell? (ad172.add ((x5_1).toNat * 5)) = some (.string ((rd_T66 l0 x5_1).f0)) ∧ w'.cell? ⟨(ad172.add ((x5_1).toNat * 5)).block, (ad172.add ((x5_1).toNat * 5)).off + 1, none⟩ = some (.string ((rd_T66 l0 x5_1).f1)) ∧ w'.cell? ⟨(ad172.add ((x5_1).toNat * 5)).block, (ad172.add ((x5_1).toNat * 5)).off + 2, none⟩ = some (.int .i64 ((rd_T66 l0 x5_1).f2)) ∧ w'.cell? ⟨(ad172.add ((x5_1).toNat * 5)).block, (ad172.add ((x5_1).toNat * 5)).off + 3, none⟩ = some (.int .i64 ((rd_T66 l0 x5_1).f3)) ∧ w'.cell? ⟨(ad172.add ((x5_1).toNat * 5)).block, (ad172.add ((x5_1).toNat * 5)).off + 4, none⟩ = some (.int .i64 ((rd_T66 l0 x5_1).f4))) (ds := []) #[false, false, false, false, false, false, false, false] (by kernel_rfl) rfl rfl ⟨((HB.out.cell (World.block_lt_of_cell? w _ hw172_0)).trans hw172_0), ((HB.out.cell (World.block_lt_of_cell? w _ hw172_1)).trans hw172_1), ((HB.out.cell (World.block_lt_of_cell? w _ hw172_2)).trans hw172_2), ((HB.out.cell (World.block_lt_of_cell? w _ hw172_3)).trans hw172_3), ((HB.out.cell (World.block_lt_of_cell? w _ hw172_4)).trans hw172_4)⟩ (fun hHeld => ?_); refine with_tabW laws_heldPlaceS.tab4 laws_heldPlaceS.bits4 (fun HT_ HW_ => ?_)
            generalize wr.drew = w32 at HB hx172_0 hx172_1 hx172_2 hx172_3 hx172_4 hHeld ⊢
            refine pu_ HT_ 0 (some 12) #[true, false, false, false, false, false, false, false] ?_
            refine pu_ HT_ 1 (some 13) #[true, true, false, false, false, false, false, false] ?_
            refine pu_ HT_ 2 (some 14) #[true, true, true, false, false, false, false, false] ?_
            refine pu_ HT_ 3 (some 15) #[true, true, true, true, false, false, false, false] ?_
            refine pu_ HT_ 5 (some 17) #[true, true, true, true, false, true, false, false] ?_
            refine ta_ HT_ HW_ 4 (some 16) #[true, true, true, true, true, true, false, false] hHeld ?_
            refine on_ HT_ 6 (some 18) #[true, true, true, true, true, true, true, false] (fun K hK => ?_)
            refine go1_ Try.func63 #[.int .i64 x1_1] ?_
            with_reducible refine (laws_markText.calls k1 x1_1 t173 _ A5.out).mono ?_
            rintro e w33 ⟨rfl, hb⟩
            refine ⟨_, rfl, ?_⟩
            replace HB := AM (below_step bel_ hb)
            (try clear hb)
            (try clear hb2)
            (try clear hk)
            (try clear hi)
            refine hK.out _ _ ⟨((HB.out.cell (World.block_lt_of_cell? w _ hw172_0)).trans hw172_0), ((HB.out.cell (World.block_lt_of_cell? w _ hw172_1)).trans hw172_1), ((HB.out.cell (World.block_lt_of_cell? w _ hw172_2)).trans hw172_2), ((HB.out.cell (World.block_lt_of_cell? w _ hw172_3)).trans hw172_3), ((HB.out.cell (World.block_lt_of_cell? w _ hw172_4)).trans hw172_4)⟩ (fun hHeld => ?_)
            clear hK K
            refine nm_ ?_
            refine pu_ HT_ 7 (some 19) #[true, true, true, true, true, true, true, true] ?_
            refine dn_ HT_ ?_
            try go_wp2
            go_ret
            exact ⟨ri_, bel_⟩
        · rw [if_neg c4] at H
          exact absurd H (by simp)
      · rw [if_neg c3] at H
        have c3b0 : decide (x5_1 < (l0.length : Int)) = false := decide_eq_false c3
        clear c3
        obtain rfl := Option.some.inj H
        go_wp2
        go_ret
        exact ⟨ri_, bel_⟩

end Go.Proofs.Ytggbpjfgfenpdaa.PFnExactPlacesDrop
