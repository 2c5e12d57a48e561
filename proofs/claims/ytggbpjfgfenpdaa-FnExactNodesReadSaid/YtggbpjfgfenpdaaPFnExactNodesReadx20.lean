/- Functions of the law FnExactNodesRead: the print's, with walks of this session's own. No statement is proved here. -/
import Derived.WalkLawsBesides
import Derived.Test.YtggbpjfgfenpdaaVRegFnExactNodesRead
-- A program of this session wrote this text: a changed copy of the kit print, with given functions.
import Derived.Test.YtggbpjfgfenpdaaPFnExactNodesReadx0
import Derived.Test.YtggbpjfgfenpdaaPFnExactNodesReadx19
namespace Go.Proofs.Ytggbpjfgfenpdaa.PFnExactNodesRead
open Go.RowKit Go.Proofs.YtggbpjfgfenpdaaW.PrintWords Go.Proofs.YtggbpjfgfenpdaaW.PrintLast Go.Proofs.YtggbpjfgfenpdaaW.PrintMore Go.Proofs.Ytggbpjfgfenpdaa.Reg Go.Proofs.Ytggbpjfgfenpdaa.Aut
attribute [local go_sem] max2_int min2_int max_two min_two max_three min_three max_four min_four   -- for this text's walks alone
set_option linter.unusedVariables false
set_option linter.unusedSimpArgs false

/-! ### laws_heldNodeS: function 59 -/
def laws_heldNodeS.l0 : Nat → List (S74) → Int → Int → Option (Int)
  | 0, _, _, _ => none
  | k + 1, x0, x1, x5 => if x5 < (x0.length : Int) then (if 0 ≤ x5 then ((laws_markText.f k x1).bind fun t266 => (if ((rd_T74 x0 x5).f0).toList = t266.toList then (if (((rd_T74 x0 x5).f1) != ((Int.tmod (wrap64 (x1 + 1)) 3) == 0)) = true then (some (-1)) else (if ((rd_T74 x0 x5).f2) = (wrap64 ((wrap64 (x1 + 1)) + 1)) then ((laws_heldStringS.f k ((rd_T74 x0 x5).f3) (wrap64 ((wrap64 ((wrap64 (x1 + 1)) + 1)) + 1))).bind fun t270 => (if t270 < 0 then (some (-1)) else (laws_heldNodeS.l0 k x0 t270 (wrap64 (x5 + 1))))) else (some (-1)))) else (some (-1)))) else (none)) else (some x1)
def laws_heldNodeS.f (k : Nat) (l0 : List (S74)) (a1 : Int) : Option (Int) := laws_heldNodeS.l0 k l0 a1 0
theorem laws_heldNodeS.mono_l : ∀ k, (∀ y0 y1 y2, LeO (laws_heldNodeS.l0 k y0 y1 y2) (laws_heldNodeS.l0 (k + 1) y0 y1 y2))
  | 0 => fun _ _ _ r h => by simp [laws_heldNodeS.l0] at h
  | k + 1 => by
    have ih0 := laws_heldNodeS.mono_l k
    · intro y0 y1 y2
      unfold laws_heldNodeS.l0
      repeat' first
      | (with_reducible exact ih0 _ _ _)
      | (with_reducible exact laws_heldStringS.mono _ _ _)
      | (with_reducible exact laws_markText.mono _ _)
      | (with_reducible exact LeO.refl _)
      | (with_reducible exact LeO.none _)
      | (with_reducible refine LeO.ite ?_ ?_)
      | (with_reducible refine LeO.bind ?_ (fun _ => ?_))
      | exact ih0 _ _ _
      | exact laws_heldStringS.mono _ _ _
      | exact laws_markText.mono _ _
      | exact LeO.none _
      | refine LeO.ite ?_ ?_
      | refine LeO.bind ?_ (fun _ => ?_)
theorem laws_heldNodeS.mono : ∀ a0 a1 k, LeO (laws_heldNodeS.f k a0 a1) (laws_heldNodeS.f (k + 1) a0 a1) := by
  intro a0 a1 k
  have ih0 := laws_heldNodeS.mono_l k
  unfold laws_heldNodeS.f
  repeat' first
      | (with_reducible exact ih0 _ _ _)
      | (with_reducible exact laws_heldStringS.mono _ _ _)
      | (with_reducible exact laws_markText.mono _ _)
      | (with_reducible exact LeO.refl _)
      | (with_reducible exact LeO.none _)
      | (with_reducible refine LeO.ite ?_ ?_)
      | (with_reducible refine LeO.bind ?_ (fun _ => ?_))
      | exact ih0 _ _ _
      | exact laws_heldStringS.mono _ _ _
      | exact laws_markText.mono _ _
      | exact LeO.none _
      | refine LeO.ite ?_ ?_
      | refine LeO.bind ?_ (fun _ => ?_)
def laws_heldNodeS.T4 : Bool × List (List Nat × List Nat) := (true, [([], []), ([], []), ([0, 1], [0, 1]), ([2], [2]), ([3], [3]), ([], []), ([5], [5]), ([4, 6], [4, 6])])
def laws_heldNodeS.B4 : List Nat := [0, 0, 3, 7, 15, 0, 32, 127]
theorem laws_heldNodeS.tab4 : rtab .any (opsOf Try.f59 4) = laws_heldNodeS.T4 := by kernel_rfl
theorem laws_heldNodeS.bits4 : waitsOk laws_heldNodeS.T4.2 laws_heldNodeS.B4 = true := by kernel_rfl
set_option maxHeartbeats 8000000 in
set_option maxRecDepth 100000 in
theorem laws_heldNodeS.calls (k : Nat) (A0 : Option Addr) (c0 : Nat) (l0 : List (S74)) (a1 : Int) (r : Int) (w : World) (hr0 : Kd.C k74 w A0 l0.length l0) (hc0 : l0.length ≤ c0) (h : laws_heldNodeS.f k l0 a1 = some r) :
    Calls Try.prog 59 #[.slice A0 l0.length c0, .int .i64 a1] w fun e w' => e = .returned (.int .i64 r) ∧ Below w.heap.size w w' := by
  have HR0 := AM hr0
  have HC0 := AM hc0
  clear hr0 hc0
  have HB := AM (Below.refl w.heap.size w)
  have H : (laws_heldNodeS.l0 k l0 a1 0) = some r := h
  clear h
  have H' := AM H
  clear H
  go_enter Try.func59, Try.ntmps59
  go_wp2
  go_loopg [1, 5] k (fun kq v1 v5 w' => ∃ (x1_1 : Int) (x5_1 : Int), v1 = .int .i64 x1_1 ∧ v5 = .int .i64 x5_1 ∧ Aside0 (laws_heldNodeS.l0 kq l0 x1_1 x5_1 = some r) ∧ Aside0 (kq ≤ k) ∧ Aside0 (Below w.heap.size w w'))
  case atStart => exact ⟨(a1), (0), (by first | rfl | (simp; done) | (simp [*]; done)), (by first | rfl | (simp; done) | (simp [*]; done)), H', ⟨Nat.le_refl _⟩, ⟨bel_⟩⟩
  case round =>
    clear H'
    try clear p2
    obtain ⟨x1_1, x5_1, rfl, rfl, HA, HK1, HB⟩ := hrel
    cases gk with
    | zero => exact absurd HA.out (by simp [laws_heldNodeS.l0])
    | succ k1 =>
      have H := HA.out
      clear HA
      simp only [laws_heldNodeS.l0] at H
      by_cases c3 : x5_1 < (l0.length : Int)
      · rw [if_pos c3] at H
        have c3b0 : decide (x5_1 < (l0.length : Int)) = true := decide_eq_true c3
        clear c3
        by_cases c4 : 0 ≤ x5_1
        · rw [if_pos c4] at H
          have c4b0 : decide (0 ≤ x5_1) = true := decide_eq_true c4
          clear c4
          obtain ⟨t266, A5, H⟩ := OB H
          try dsimp only at H
          replace A5 := AM A5
          by_cases c6 : ((rd_T74 l0 x5_1).f0).toList = t266.toList
          · rw [if_pos c6] at H
            have c6b0 : (((rd_T74 l0 x5_1).f0).toList == t266.toList) = true := beq_iff_eq.mpr c6
            have c6b1 : (((rd_T74 l0 x5_1).f0).toList != t266.toList) = false := bne_eq_false_iff_eq.mpr c6
            clear c6
            by_cases c7 : (((rd_T74 l0 x5_1).f1) != ((Int.tmod (wrap64 (x1_1 + 1)) 3) == 0)) = true
            · rw [if_pos c7] at H
              have c7b0 : (((rd_T74 l0 x5_1).f1) != ((Int.tmod (wrap64 (x1_1 + 1)) 3) == 0)) = true := c7
              try have c7b9 : ((((rd_T74 l0 x5_1).f1) != ((Int.tmod ((x1_1 + 1)) 3) == 0))) = true := (by have hw0 : wrap64 (x1_1 + 1) = x1_1 + 1 := (by unfold wrap64; omega); have z_ := c7b0; simp only [hw0] at z_; exact z_)
              (try (have c7b1 : decide (((rd_T74 l0 x5_1).f1) = ((Int.tmod (wrap64 (x1_1 + 1)) 3) == 0)) = false := by simpa using c7))
              (try (have c7b2 : (((rd_T74 l0 x5_1).f1) == ((Int.tmod (wrap64 (x1_1 + 1)) 3) == 0)) = false := by simpa using c7))
              (try (have c7b3 : ¬ (((rd_T74 l0 x5_1).f1) = ((Int.tmod (wrap64 (x1_1 + 1)) 3) == 0)) := by simpa using c7))
              clear c7
              obtain rfl := Option.some.inj H
              try go_wp2
              replace HB := AM (below_drew1 HB.out)
              have p265 : 0 ≤ (x5_1 : Int) := of_decide_eq_true (by first | (with_reducible assumption) | assumption)
              have q265 : x5_1 < (l0.length : Int) := of_decide_eq_true (by first | (with_reducible assumption) | assumption)
              obtain ⟨ad265, A265_3, c265_3, e265, hx265_0, hx265_1, hx265_2, hx265_3, hl265_3, hi265_3⟩ := at_T74 HR0.out x5_1 p265 q265
              have hw265_3 := hx265_3
              have hw265_2 := hx265_2
              have hw265_1 := hx265_1
              have hw265_0 := hx265_0
              cases e265
              replace hx265_0 := (HB.out.cell (World.block_lt_of_cell? w _ hx265_0)).trans hx265_0
              replace hx265_1 := (HB.out.cell (World.block_lt_of_cell? w _ hx265_1)).trans hx265_1
              replace hx265_2 := (HB.out.cell (World.block_lt_of_cell? w _ hx265_2)).trans hx265_2
              replace hx265_3 := (HB.out.cell (World.block_lt_of_cell? w _ hx265_3)).trans hx265_3
              have HR265_3 := AM hi265_3
              have HC265_3 := AM hl265_3
              clear hi265_3 hl265_3
              replace p265 := eq_true p265
              replace q265 := eq_true q265
              refine start_ (n := 8) (S := fun w' => w'.cell? (ad265.add ((x5_1).toNat * 4)) = some (.string ((rd_T74 l0 x5_1).f0)) ∧ w'.cell? ⟨(ad265.add ((x5_1).toNat * 4)).block, (ad265.add ((x5_1).toNat * 4)).off + 1, none⟩ = some (.bool ((rd_T74 l0 x5_1).f1)) ∧ w'.cell? ⟨(ad265.add ((x5_1).toNat * 4)).block, (ad265.add ((x5_1).toNat * 4)).off + 2, none⟩ = some (.int .i64 ((rd_T74 l0 x5_1).f2)) ∧ w'.cell? ⟨(ad265.add ((x5_1).toNat * 4)).block, (ad265.add ((x5_1).toNat * 4)).off + 3, none⟩ = some (.slice A265_3 ((rd_T74 l0 x5_1).f3).length c265_3)) (ds := []) #[false, false, false, false, false, false, false, false] (by kernel_rfl) rfl rfl ⟨((HB.out.cell (World.block_lt_of_cell? w _ hw265_0)).trans hw265_0), ((HB.out.cell (World.block_lt_of_cell? w _ hw265_1)).trans hw265_1), ((HB.out.cell (World.block_lt_of_cell? w _ hw265_2)).trans hw265_2), ((HB.out.cell (World.block_lt_of_cell? w _ hw265_3)).trans hw265_3)⟩ (fun hHeld => ?_); refine with_tabW laws_heldNodeS.tab4 laws_heldNodeS.bits4 (fun HT_ HW_ => ?_)
              generalize wr.drew = w8 at HB HR265_3 hx265_0 hx265_1 hx265_2 hx265_3 hHeld ⊢
              refine pu_ HT_ 0 (some 12) #[true, false, false, false, false, false, false, false] ?_
              refine pu_ HT_ 1 (some 13) #[true, true, false, false, false, false, false, false] ?_
              refine pu_ HT_ 2 (some 14) #[true, true, true, false, false, false, false, false] ?_
              refine pu_ HT_ 3 (some 15) #[true, true, true, true, false, false, false, false] ?_
              refine pu_ HT_ 5 (some 17) #[true, true, true, true, false, true, false, false] ?_
              refine ta_ HT_ HW_ 4 (some 16) #[true, true, true, true, true, true, false, false] hHeld ?_
              refine on_ HT_ 6 (some 18) #[true, true, true, true, true, true, true, false] (fun K hK => ?_)
              refine go1_ Try.func63 #[.int .i64 x1_1] ?_
              with_reducible refine (laws_markText.calls k1 x1_1 t266 _ A5.out).mono ?_
              rintro e w9 ⟨rfl, hb⟩
              refine ⟨_, rfl, ?_⟩
              replace HB := AM (below_step bel_ hb)
              (try clear hb)
              (try clear hb2)
              (try clear hk)
              (try clear hi)
              refine hK.out _ _ ⟨((HB.out.cell (World.block_lt_of_cell? w _ hw265_0)).trans hw265_0), ((HB.out.cell (World.block_lt_of_cell? w _ hw265_1)).trans hw265_1), ((HB.out.cell (World.block_lt_of_cell? w _ hw265_2)).trans hw265_2), ((HB.out.cell (World.block_lt_of_cell? w _ hw265_3)).trans hw265_3)⟩ (fun hHeld => ?_)
              clear hK K
              refine nm_ ?_
              refine pu_ HT_ 7 (some 19) #[true, true, true, true, true, true, true, true] ?_
              refine dn_ HT_ ?_
              have p267 : 0 ≤ (x5_1 : Int) := of_decide_eq_true (by first | (with_reducible assumption) | assumption)
              have q267 : x5_1 < (l0.length : Int) := of_decide_eq_true (by first | (with_reducible assumption) | assumption)
              obtain ⟨ad267, A267_3, c267_3, e267, hx267_0, hx267_1, hx267_2, hx267_3, hl267_3, hi267_3⟩ := at_T74 HR0.out x5_1 p267 q267
              obtain rfl : ad265 = ad267 := (by injection e267)
              replace hx267_0 := (HB.out.cell (World.block_lt_of_cell? w _ hx267_0)).trans hx267_0
              replace hx267_1 := (HB.out.cell (World.block_lt_of_cell? w _ hx267_1)).trans hx267_1
              replace hx267_2 := (HB.out.cell (World.block_lt_of_cell? w _ hx267_2)).trans hx267_2
              replace hx267_3 := (HB.out.cell (World.block_lt_of_cell? w _ hx267_3)).trans hx267_3
              have HR267_3 := AM hi267_3
              have HC267_3 := AM hl267_3
              clear hi267_3 hl267_3
              have ea_ := Option.some.inj (hx267_3.symm.trans hHeld.2.2.2)
              injection ea_ with ea_ en_ ec_
              subst ea_
              subst ec_
              clear en_
              replace p267 := eq_true p267
              replace q267 := eq_true q267
              try go_wp2
              go_ret
              exact ⟨ri_, bel_⟩
            · rw [if_neg c7] at H
              have c7b0 : (((rd_T74 l0 x5_1).f1) != ((Int.tmod (wrap64 (x1_1 + 1)) 3) == 0)) = false := by simpa using c7
              try have c7b9 : ((((rd_T74 l0 x5_1).f1) != ((Int.tmod ((x1_1 + 1)) 3) == 0))) = false := (by have hw0 : wrap64 (x1_1 + 1) = x1_1 + 1 := (by unfold wrap64; omega); have z_ := c7b0; simp only [hw0] at z_; exact z_)
              (try (have c7b1 : decide (((rd_T74 l0 x5_1).f1) = ((Int.tmod (wrap64 (x1_1 + 1)) 3) == 0)) = true := by simpa using c7))
              (try (have c7b2 : (((rd_T74 l0 x5_1).f1) == ((Int.tmod (wrap64 (x1_1 + 1)) 3) == 0)) = true := by simpa using c7))
              clear c7
              by_cases c10 : ((rd_T74 l0 x5_1).f2) = (wrap64 ((wrap64 (x1_1 + 1)) + 1))
              · rw [if_pos c10] at H
                have c10b0 : (((rd_T74 l0 x5_1).f2) == (wrap64 ((wrap64 (x1_1 + 1)) + 1))) = true := beq_iff_eq.mpr c10
                try have c10b9 : ((((rd_T74 l0 x5_1).f2) == ((((x1_1 + 1)) + 1)))) = true := (by have hw0 : wrap64 (x1_1 + 1) = x1_1 + 1 := (by unfold wrap64; omega); have hw1 : wrap64 (((x1_1 + 1)) + 1) = ((x1_1 + 1)) + 1 := (by unfold wrap64; omega); have z_ := c10b0; simp only [hw0, hw1] at z_; exact z_)
                have c10b1 : (((rd_T74 l0 x5_1).f2) != (wrap64 ((wrap64 (x1_1 + 1)) + 1))) = false := bne_eq_false_iff_eq.mpr c10
                clear c10
                obtain ⟨t270, A11, H⟩ := OB H
                try dsimp only at H
                replace A11 := AM A11
                by_cases c12 : t270 < 0
                · rw [if_pos c12] at H
                  have c12b0 : decide (t270 < 0) = true := decide_eq_true c12
                  clear c12
                  obtain rfl := Option.some.inj H
                  try go_wp2
                  replace HB := AM (below_drew1 HB.out)
                  have p265 : 0 ≤ (x5_1 : Int) := of_decide_eq_true (by first | (with_reducible assumption) | assumption)
                  have q265 : x5_1 < (l0.length : Int) := of_decide_eq_true (by first | (with_reducible assumption) | assumption)
                  obtain ⟨ad265, A265_3, c265_3, e265, hx265_0, hx265_1, hx265_2, hx265_3, hl265_3, hi265_3⟩ := at_T74 HR0.out x5_1 p265 q265
                  have hw265_3 := hx265_3
                  have hw265_2 := hx265_2
                  have hw265_1 := hx265_1
                  have hw265_0 := hx265_0
                  cases e265
                  replace hx265_0 := (HB.out.cell (World.block_lt_of_cell? w _ hx265_0)).trans hx265_0
                  replace hx265_1 := (HB.out.cell (World.block_lt_of_cell? w _ hx265_1)).trans hx265_1
                  replace hx265_2 := (HB.out.cell (World.block_lt_of_cell? w _ hx265_2)).trans hx265_2
                  replace hx265_3 := (HB.out.cell (World.block_lt_of_cell? w _ hx265_3)).trans hx265_3
                  have HR265_3 := AM hi265_3
                  have HC265_3 := AM hl265_3
                  clear hi265_3 hl265_3
                  replace p265 := eq_true p265
                  replace q265 := eq_true q265
                  refine start_ (n := 8) (S := fun w' => w'.cell? (ad265.add ((x5_1).toNat * 4)) = some (.string ((rd_T74 l0 x5_1).f0)) ∧ w'.cell? ⟨(ad265.add ((x5_1).toNat * 4)).block, (ad265.add ((x5_1).toNat * 4)).off + 1, none⟩ = some (.bool ((rd_T74 l0 x5_1).f1)) ∧ w'.cell? ⟨(ad265.add ((x5_1).toNat * 4)).block, (ad265.add ((x5_1).toNat * 4)).off + 2, none⟩ = some (.int .i64 ((rd_T74 l0 x5_1).f2)) ∧ w'.cell? ⟨(ad265.add ((x5_1).toNat * 4)).block, (ad265.add ((x5_1).toNat * 4)).off + 3, none⟩ = some (.slice A265_3 ((rd_T74 l0 x5_1).f3).length c265_3)) (ds := []) #[false, false, false, false, false, false, false, false] (by kernel_rfl) rfl rfl ⟨((HB.out.cell (World.block_lt_of_cell? w _ hw265_0)).trans hw265_0), ((HB.out.cell (World.block_lt_of_cell? w _ hw265_1)).trans hw265_1), ((HB.out.cell (World.block_lt_of_cell? w _ hw265_2)).trans hw265_2), ((HB.out.cell (World.block_lt_of_cell? w _ hw265_3)).trans hw265_3)⟩ (fun hHeld => ?_); refine with_tabW laws_heldNodeS.tab4 laws_heldNodeS.bits4 (fun HT_ HW_ => ?_)
                  generalize wr.drew = w13 at HB HR265_3 hx265_0 hx265_1 hx265_2 hx265_3 hHeld ⊢
                  refine pu_ HT_ 0 (some 12) #[true, false, false, false, false, false, false, false] ?_
                  refine pu_ HT_ 1 (some 13) #[true, true, false, false, false, false, false, false] ?_
                  refine pu_ HT_ 2 (some 14) #[true, true, true, false, false, false, false, false] ?_
                  refine pu_ HT_ 3 (some 15) #[true, true, true, true, false, false, false, false] ?_
                  refine pu_ HT_ 5 (some 17) #[true, true, true, true, false, true, false, false] ?_
                  refine ta_ HT_ HW_ 4 (some 16) #[true, true, true, true, true, true, false, false] hHeld ?_
                  refine on_ HT_ 6 (some 18) #[true, true, true, true, true, true, true, false] (fun K hK => ?_)
                  refine go1_ Try.func63 #[.int .i64 x1_1] ?_
                  with_reducible refine (laws_markText.calls k1 x1_1 t266 _ A5.out).mono ?_
                  rintro e w14 ⟨rfl, hb⟩
                  refine ⟨_, rfl, ?_⟩
                  replace HB := AM (below_step bel_ hb)
                  (try clear hb)
                  (try clear hb2)
                  (try clear hk)
                  (try clear hi)
                  refine hK.out _ _ ⟨((HB.out.cell (World.block_lt_of_cell? w _ hw265_0)).trans hw265_0), ((HB.out.cell (World.block_lt_of_cell? w _ hw265_1)).trans hw265_1), ((HB.out.cell (World.block_lt_of_cell? w _ hw265_2)).trans hw265_2), ((HB.out.cell (World.block_lt_of_cell? w _ hw265_3)).trans hw265_3)⟩ (fun hHeld => ?_)
                  clear hK K
                  refine nm_ ?_
                  refine pu_ HT_ 7 (some 19) #[true, true, true, true, true, true, true, true] ?_
                  refine dn_ HT_ ?_
                  have p267 : 0 ≤ (x5_1 : Int) := of_decide_eq_true (by first | (with_reducible assumption) | assumption)
                  have q267 : x5_1 < (l0.length : Int) := of_decide_eq_true (by first | (with_reducible assumption) | assumption)
                  obtain ⟨ad267, A267_3, c267_3, e267, hx267_0, hx267_1, hx267_2, hx267_3, hl267_3, hi267_3⟩ := at_T74 HR0.out x5_1 p267 q267
                  obtain rfl : ad265 = ad267 := (by injection e267)
                  replace hx267_0 := (HB.out.cell (World.block_lt_of_cell? w _ hx267_0)).trans hx267_0
                  replace hx267_1 := (HB.out.cell (World.block_lt_of_cell? w _ hx267_1)).trans hx267_1
                  replace hx267_2 := (HB.out.cell (World.block_lt_of_cell? w _ hx267_2)).trans hx267_2
                  replace hx267_3 := (HB.out.cell (World.block_lt_of_cell? w _ hx267_3)).trans hx267_3
                  have HR267_3 := AM hi267_3
                  have HC267_3 := AM hl267_3
                  clear hi267_3 hl267_3
                  have ea_ := Option.some.inj (hx267_3.symm.trans hHeld.2.2.2)
                  injection ea_ with ea_ en_ ec_
                  subst ea_
                  subst ec_
                  clear en_
                  replace p267 := eq_true p267
                  replace q267 := eq_true q267
                  have p268 : 0 ≤ (x5_1 : Int) := of_decide_eq_true (by first | (with_reducible assumption) | assumption)
                  have q268 : x5_1 < (l0.length : Int) := of_decide_eq_true (by first | (with_reducible assumption) | assumption)
                  obtain ⟨ad268, A268_3, c268_3, e268, hx268_0, hx268_1, hx268_2, hx268_3, hl268_3, hi268_3⟩ := at_T74 HR0.out x5_1 p268 q268
                  obtain rfl : ad265 = ad268 := (by injection e268)
                  replace hx268_0 := (HB.out.cell (World.block_lt_of_cell? w _ hx268_0)).trans hx268_0
                  replace hx268_1 := (HB.out.cell (World.block_lt_of_cell? w _ hx268_1)).trans hx268_1
                  replace hx268_2 := (HB.out.cell (World.block_lt_of_cell? w _ hx268_2)).trans hx268_2
                  replace hx268_3 := (HB.out.cell (World.block_lt_of_cell? w _ hx268_3)).trans hx268_3
                  have HR268_3 := AM hi268_3
                  have HC268_3 := AM hl268_3
                  clear hi268_3 hl268_3
                  replace p268 := eq_true p268
                  replace q268 := eq_true q268
                  have ea_ := Option.some.inj (hx267_3.symm.trans hx268_3)
                  injection ea_ with ea_ en_ ec_
                  subst ea_
                  subst ec_
                  clear en_
                  have p269 : 0 ≤ (x5_1 : Int) := of_decide_eq_true (by first | (with_reducible assumption) | assumption)
                  have q269 : x5_1 < (l0.length : Int) := of_decide_eq_true (by first | (with_reducible assumption) | assumption)
                  obtain ⟨ad269, A269_3, c269_3, e269, hx269_0, hx269_1, hx269_2, hx269_3, hl269_3, hi269_3⟩ := at_T74 HR0.out x5_1 p269 q269
                  obtain rfl : ad265 = ad269 := (by injection e269)
                  replace hx269_0 := (HB.out.cell (World.block_lt_of_cell? w _ hx269_0)).trans hx269_0
                  replace hx269_1 := (HB.out.cell (World.block_lt_of_cell? w _ hx269_1)).trans hx269_1
                  replace hx269_2 := (HB.out.cell (World.block_lt_of_cell? w _ hx269_2)).trans hx269_2
                  replace hx269_3 := (HB.out.cell (World.block_lt_of_cell? w _ hx269_3)).trans hx269_3
                  have HR269_3 := AM hi269_3
                  have HC269_3 := AM hl269_3
                  clear hi269_3 hl269_3
                  replace p269 := eq_true p269
                  replace q269 := eq_true q269
                  have ea_ := Option.some.inj (hx267_3.symm.trans hx269_3)
                  injection ea_ with ea_ en_ ec_
                  subst ea_
                  subst ec_
                  clear en_
                  try go_wp2_with (first | ((with_reducible refine gate_callee (f := 113) rfl ?_); refine gl_ (some 48) Try.func113 #[.slice A267_3 ((rd_T74 l0 x5_1).f3).length c267_3, .int .i64 (wrap64 ((wrap64 ((wrap64 (x1_1 + 1)) + 1)) + 1))] ?_; (with_reducible refine (laws_heldStringS.calls k1 _ _ ((rd_T74 l0 x5_1).f3) (wrap64 ((wrap64 ((wrap64 (x1_1 + 1)) + 1)) + 1)) t270 _ ?side1 ?side2 A11.out).mono ?_); (case side1 => repeat (first | exact (Kd.C_below HR269_3.out HB.out) | (with_reducible refine Kd.C_alloc ?_ _) | (with_reducible refine Kd.C_drewN ?_ _) | (with_reducible refine Kd.C_drew ?_))); (case side2 => exact HC269_3.out); rintro e w15 ⟨rfl, hb⟩; refine ⟨_, rfl, ?_⟩; replace HB := AM (below_step bel_ hb); (try clear hb); (try clear hb2); (try clear hk); (try clear hi)))
                  go_ret
                  exact ⟨ri_, bel_⟩
                · rw [if_neg c12] at H
                  have c12b0 : decide (t270 < 0) = false := decide_eq_false c12
                  clear c12
                  have H' := AM H
                  clear H
                  try go_wp2
                  replace HB := AM (below_drew1 HB.out)
                  have p265 : 0 ≤ (x5_1 : Int) := of_decide_eq_true (by first | (with_reducible assumption) | assumption)
                  have q265 : x5_1 < (l0.length : Int) := of_decide_eq_true (by first | (with_reducible assumption) | assumption)
                  obtain ⟨ad265, A265_3, c265_3, e265, hx265_0, hx265_1, hx265_2, hx265_3, hl265_3, hi265_3⟩ := at_T74 HR0.out x5_1 p265 q265
                  have hw265_3 := hx265_3
                  have hw265_2 := hx265_2
                  have hw265_1 := hx265_1
                  have hw265_0 := hx265_0
                  cases e265
                  replace hx265_0 := (HB.out.cell (World.block_lt_of_cell? w _ hx265_0)).trans hx265_0
                  replace hx265_1 := (HB.out.cell (World.block_lt_of_cell? w _ hx265_1)).trans hx265_1
                  replace hx265_2 := (HB.out.cell (World.block_lt_of_cell? w _ hx265_2)).trans hx265_2
                  replace hx265_3 := (HB.out.cell (World.block_lt_of_cell? w _ hx265_3)).trans hx265_3
                  have HR265_3 := AM hi265_3
                  have HC265_3 := AM hl265_3
                  clear hi265_3 hl265_3
                  replace p265 := eq_true p265
                  replace q265 := eq_true q265
                  refine start_ (n := 8) (S := fun w' => w'.cell? (ad265.add ((x5_1).toNat * 4)) = some (.string ((rd_T74 l0 x5_1).f0)) ∧ w'.cell? ⟨(ad265.add ((x5_1).toNat * 4)).block, (ad265.add ((x5_1).toNat * 4)).off + 1, none⟩ = some (.bool ((rd_T74 l0 x5_1).f1)) ∧ w'.cell? ⟨(ad265.add ((x5_1).toNat * 4)).block, (ad265.add ((x5_1).toNat * 4)).off + 2, none⟩ = some (.int .i64 ((rd_T74 l0 x5_1).f2)) ∧ w'.cell? ⟨(ad265.add ((x5_1).toNat * 4)).block, (ad265.add ((x5_1).toNat * 4)).off + 3, none⟩ = some (.slice A265_3 ((rd_T74 l0 x5_1).f3).length c265_3)) (ds := []) #[false, false, false, false, false, false, false, false] (by kernel_rfl) rfl rfl ⟨((HB.out.cell (World.block_lt_of_cell? w _ hw265_0)).trans hw265_0), ((HB.out.cell (World.block_lt_of_cell? w _ hw265_1)).trans hw265_1), ((HB.out.cell (World.block_lt_of_cell? w _ hw265_2)).trans hw265_2), ((HB.out.cell (World.block_lt_of_cell? w _ hw265_3)).trans hw265_3)⟩ (fun hHeld => ?_); refine with_tabW laws_heldNodeS.tab4 laws_heldNodeS.bits4 (fun HT_ HW_ => ?_)
                  generalize wr.drew = w16 at HB HR265_3 hx265_0 hx265_1 hx265_2 hx265_3 hHeld ⊢
                  refine pu_ HT_ 0 (some 12) #[true, false, false, false, false, false, false, false] ?_
                  refine pu_ HT_ 1 (some 13) #[true, true, false, false, false, false, false, false] ?_
                  refine pu_ HT_ 2 (some 14) #[true, true, true, false, false, false, false, false] ?_
                  refine pu_ HT_ 3 (some 15) #[true, true, true, true, false, false, false, false] ?_
                  refine pu_ HT_ 5 (some 17) #[true, true, true, true, false, true, false, false] ?_
                  refine ta_ HT_ HW_ 4 (some 16) #[true, true, true, true, true, true, false, false] hHeld ?_
                  refine on_ HT_ 6 (some 18) #[true, true, true, true, true, true, true, false] (fun K hK => ?_)
                  refine go1_ Try.func63 #[.int .i64 x1_1] ?_
                  with_reducible refine (laws_markText.calls k1 x1_1 t266 _ A5.out).mono ?_
                  rintro e w17 ⟨rfl, hb⟩
                  refine ⟨_, rfl, ?_⟩
                  replace HB := AM (below_step bel_ hb)
                  (try clear hb)
                  (try clear hb2)
                  (try clear hk)
                  (try clear hi)
                  refine hK.out _ _ ⟨((HB.out.cell (World.block_lt_of_cell? w _ hw265_0)).trans hw265_0), ((HB.out.cell (World.block_lt_of_cell? w _ hw265_1)).trans hw265_1), ((HB.out.cell (World.block_lt_of_cell? w _ hw265_2)).trans hw265_2), ((HB.out.cell (World.block_lt_of_cell? w _ hw265_3)).trans hw265_3)⟩ (fun hHeld => ?_)
                  clear hK K
                  refine nm_ ?_
                  refine pu_ HT_ 7 (some 19) #[true, true, true, true, true, true, true, true] ?_
                  refine dn_ HT_ ?_
                  have p267 : 0 ≤ (x5_1 : Int) := of_decide_eq_true (by first | (with_reducible assumption) | assumption)
                  have q267 : x5_1 < (l0.length : Int) := of_decide_eq_true (by first | (with_reducible assumption) | assumption)
                  obtain ⟨ad267, A267_3, c267_3, e267, hx267_0, hx267_1, hx267_2, hx267_3, hl267_3, hi267_3⟩ := at_T74 HR0.out x5_1 p267 q267
                  obtain rfl : ad265 = ad267 := (by injection e267)
                  replace hx267_0 := (HB.out.cell (World.block_lt_of_cell? w _ hx267_0)).trans hx267_0
                  replace hx267_1 := (HB.out.cell (World.block_lt_of_cell? w _ hx267_1)).trans hx267_1
                  replace hx267_2 := (HB.out.cell (World.block_lt_of_cell? w _ hx267_2)).trans hx267_2
                  replace hx267_3 := (HB.out.cell (World.block_lt_of_cell? w _ hx267_3)).trans hx267_3
                  have HR267_3 := AM hi267_3
                  have HC267_3 := AM hl267_3
                  clear hi267_3 hl267_3
                  have ea_ := Option.some.inj (hx267_3.symm.trans hHeld.2.2.2)
                  injection ea_ with ea_ en_ ec_
                  subst ea_
                  subst ec_
                  clear en_
                  replace p267 := eq_true p267
                  replace q267 := eq_true q267
                  have p268 : 0 ≤ (x5_1 : Int) := of_decide_eq_true (by first | (with_reducible assumption) | assumption)
                  have q268 : x5_1 < (l0.length : Int) := of_decide_eq_true (by first | (with_reducible assumption) | assumption)
                  obtain ⟨ad268, A268_3, c268_3, e268, hx268_0, hx268_1, hx268_2, hx268_3, hl268_3, hi268_3⟩ := at_T74 HR0.out x5_1 p268 q268
                  obtain rfl : ad265 = ad268 := (by injection e268)
                  replace hx268_0 := (HB.out.cell (World.block_lt_of_cell? w _ hx268_0)).trans hx268_0
                  replace hx268_1 := (HB.out.cell (World.block_lt_of_cell? w _ hx268_1)).trans hx268_1
                  replace hx268_2 := (HB.out.cell (World.block_lt_of_cell? w _ hx268_2)).trans hx268_2
                  replace hx268_3 := (HB.out.cell (World.block_lt_of_cell? w _ hx268_3)).trans hx268_3
                  have HR268_3 := AM hi268_3
                  have HC268_3 := AM hl268_3
                  clear hi268_3 hl268_3
                  replace p268 := eq_true p268
                  replace q268 := eq_true q268
                  have ea_ := Option.some.inj (hx267_3.symm.trans hx268_3)
                  injection ea_ with ea_ en_ ec_
                  subst ea_
                  subst ec_
                  clear en_
                  have p269 : 0 ≤ (x5_1 : Int) := of_decide_eq_true (by first | (with_reducible assumption) | assumption)
                  have q269 : x5_1 < (l0.length : Int) := of_decide_eq_true (by first | (with_reducible assumption) | assumption)
                  obtain ⟨ad269, A269_3, c269_3, e269, hx269_0, hx269_1, hx269_2, hx269_3, hl269_3, hi269_3⟩ := at_T74 HR0.out x5_1 p269 q269
                  obtain rfl : ad265 = ad269 := (by injection e269)
                  replace hx269_0 := (HB.out.cell (World.block_lt_of_cell? w _ hx269_0)).trans hx269_0
                  replace hx269_1 := (HB.out.cell (World.block_lt_of_cell? w _ hx269_1)).trans hx269_1
                  replace hx269_2 := (HB.out.cell (World.block_lt_of_cell? w _ hx269_2)).trans hx269_2
                  replace hx269_3 := (HB.out.cell (World.block_lt_of_cell? w _ hx269_3)).trans hx269_3
                  have HR269_3 := AM hi269_3
                  have HC269_3 := AM hl269_3
                  clear hi269_3 hl269_3
                  replace p269 := eq_true p269
                  replace q269 := eq_true q269
                  have ea_ := Option.some.inj (hx267_3.symm.trans hx269_3)
                  injection ea_ with ea_ en_ ec_
                  subst ea_
                  subst ec_
                  clear en_
                  try go_wp2_with (first | ((with_reducible refine gate_callee (f := 113) rfl ?_); refine gl_ (some 48) Try.func113 #[.slice A267_3 ((rd_T74 l0 x5_1).f3).length c267_3, .int .i64 (wrap64 ((wrap64 ((wrap64 (x1_1 + 1)) + 1)) + 1))] ?_; (with_reducible refine (laws_heldStringS.calls k1 _ _ ((rd_T74 l0 x5_1).f3) (wrap64 ((wrap64 ((wrap64 (x1_1 + 1)) + 1)) + 1)) t270 _ ?side1 ?side2 A11.out).mono ?_); (case side1 => repeat (first | exact (Kd.C_below HR269_3.out HB.out) | (with_reducible refine Kd.C_alloc ?_ _) | (with_reducible refine Kd.C_drewN ?_ _) | (with_reducible refine Kd.C_drew ?_))); (case side2 => exact HC269_3.out); rintro e w18 ⟨rfl, hb⟩; refine ⟨_, rfl, ?_⟩; replace HB := AM (below_step bel_ hb); (try clear hb); (try clear hb2); (try clear hk); (try clear hi)))
                  go_roundg k1
                  case measure => have := HK1.out; omega
                  case rel => exact ⟨(t270), (wrap64 (x5_1 + 1)), (by first | rfl | (simp; done) | (simp [*]; done)), (by first | rfl | (simp; done) | (simp [*]; done)), H', ⟨by have := HK1.out; omega⟩, ⟨bel_⟩⟩
              · rw [if_neg c10] at H
                have c10b0 : (((rd_T74 l0 x5_1).f2) == (wrap64 ((wrap64 (x1_1 + 1)) + 1))) = false := beq_eq_false_iff_ne.mpr c10
                try have c10b9 : ((((rd_T74 l0 x5_1).f2) == ((((x1_1 + 1)) + 1)))) = false := (by have hw0 : wrap64 (x1_1 + 1) = x1_1 + 1 := (by unfold wrap64; omega); have hw1 : wrap64 (((x1_1 + 1)) + 1) = ((x1_1 + 1)) + 1 := (by unfold wrap64; omega); have z_ := c10b0; simp only [hw0, hw1] at z_; exact z_)
                have c10b1 : (((rd_T74 l0 x5_1).f2) != (wrap64 ((wrap64 (x1_1 + 1)) + 1))) = true := bne_iff_ne.mpr c10
                obtain rfl := Option.some.inj H
                try go_wp2
                replace HB := AM (below_drew1 HB.out)
                have p265 : 0 ≤ (x5_1 : Int) := of_decide_eq_true (by first | (with_reducible assumption) | assumption)
                have q265 : x5_1 < (l0.length : Int) := of_decide_eq_true (by first | (with_reducible assumption) | assumption)
                obtain ⟨ad265, A265_3, c265_3, e265, hx265_0, hx265_1, hx265_2, hx265_3, hl265_3, hi265_3⟩ := at_T74 HR0.out x5_1 p265 q265
                have hw265_3 := hx265_3
                have hw265_2 := hx265_2
                have hw265_1 := hx265_1
                have hw265_0 := hx265_0
                cases e265
                replace hx265_0 := (HB.out.cell (World.block_lt_of_cell? w _ hx265_0)).trans hx265_0
                replace hx265_1 := (HB.out.cell (World.block_lt_of_cell? w _ hx265_1)).trans hx265_1
                replace hx265_2 := (HB.out.cell (World.block_lt_of_cell? w _ hx265_2)).trans hx265_2
                replace hx265_3 := (HB.out.cell (World.block_lt_of_cell? w _ hx265_3)).trans hx265_3
                have HR265_3 := AM hi265_3
                have HC265_3 := AM hl265_3
                clear hi265_3 hl265_3
                replace p265 := eq_true p265
                replace q265 := eq_true q265
                refine start_ (n := 8) (S := fun w' => w'.cell? (ad265.add ((x5_1).toNat * 4)) = some (.string ((rd_T74 l0 x5_1).f0)) ∧ w'.cell? ⟨(ad265.add ((x5_1).toNat * 4)).block, (ad265.add ((x5_1).toNat * 4)).off + 1, none⟩ = some (.bool ((rd_T74 l0 x5_1).f1)) ∧ w'.cell? ⟨(ad265.add ((x5_1).toNat * 4)).block, (ad265.add ((x5_1).toNat * 4)).off + 2, none⟩ = some (.int .i64 ((rd_T74 l0 x5_1).f2)) ∧ w'.cell? ⟨(ad265.add ((x5_1).toNat * 4)).block, (ad265.add ((x5_1).toNat * 4)).off + 3, none⟩ = some (.slice A265_3 ((rd_T74 l0 x5_1).f3).length c265_3)) (ds := []) #[false, false, false, false, false, false, false, false] (by kernel_rfl) rfl rfl ⟨((HB.out.cell (World.block_lt_of_cell? w _ hw265_0)).trans hw265_0), ((HB.out.cell (World.block_lt_of_cell? w _ hw265_1)).trans hw265_1), ((HB.out.cell (World.block_lt_of_cell? w _ hw265_2)).trans hw265_2), ((HB.out.cell (World.block_lt_of_cell? w _ hw265_3)).trans hw265_3)⟩ (fun hHeld => ?_); refine with_tabW laws_heldNodeS.tab4 laws_heldNodeS.bits4 (fun HT_ HW_ => ?_)
                generalize wr.drew = w19 at HB HR265_3 hx265_0 hx265_1 hx265_2 hx265_3 hHeld ⊢
                refine pu_ HT_ 0 (some 12) #[true, false, false, false, false, false, false, false] ?_
                refine pu_ HT_ 1 (some 13) #[true, true, false, false, false, false, false, false] ?_
                refine pu_ HT_ 2 (some 14) #[true, true, true, false, false, false, false, false] ?_
                refine pu_ HT_ 3 (some 15) #[true, true, true, true, false, false, false, false] ?_
                refine pu_ HT_ 5 (some 17) #[true, true, true, true, false, true, false, false] ?_
                refine ta_ HT_ HW_ 4 (some 16) #[true, true, true, true, true, true, false, false] hHeld ?_
                refine on_ HT_ 6 (some 18) #[true, true, true, true, true, true, true, false] (fun K hK => ?_)
                refine go1_ Try.func63 #[.int .i64 x1_1] ?_
                with_reducible refine (laws_markText.calls k1 x1_1 t266 _ A5.out).mono ?_
                rintro e w20 ⟨rfl, hb⟩
                refine ⟨_, rfl, ?_⟩
                replace HB := AM (below_step bel_ hb)
                (try clear hb)
                (try clear hb2)
                (try clear hk)
                (try clear hi)
                refine hK.out _ _ ⟨((HB.out.cell (World.block_lt_of_cell? w _ hw265_0)).trans hw265_0), ((HB.out.cell (World.block_lt_of_cell? w _ hw265_1)).trans hw265_1), ((HB.out.cell (World.block_lt_of_cell? w _ hw265_2)).trans hw265_2), ((HB.out.cell (World.block_lt_of_cell? w _ hw265_3)).trans hw265_3)⟩ (fun hHeld => ?_)
                clear hK K
                refine nm_ ?_
                refine pu_ HT_ 7 (some 19) #[true, true, true, true, true, true, true, true] ?_
                refine dn_ HT_ ?_
                have p267 : 0 ≤ (x5_1 : Int) := of_decide_eq_true (by first | (with_reducible assumption) | assumption)
                have q267 : x5_1 < (l0.length : Int) := of_decide_eq_true (by first | (with_reducible assumption) | assumption)
                obtain ⟨ad267, A267_3, c267_3, e267, hx267_0, hx267_1, hx267_2, hx267_3, hl267_3, hi267_3⟩ := at_T74 HR0.out x5_1 p267 q267
                obtain rfl : ad265 = ad267 := (by injection e267)
                replace hx267_0 := (HB.out.cell (World.block_lt_of_cell? w _ hx267_0)).trans hx267_0
                replace hx267_1 := (HB.out.cell (World.block_lt_of_cell? w _ hx267_1)).trans hx267_1
                replace hx267_2 := (HB.out.cell (World.block_lt_of_cell? w _ hx267_2)).trans hx267_2
                replace hx267_3 := (HB.out.cell (World.block_lt_of_cell? w _ hx267_3)).trans hx267_3
                have HR267_3 := AM hi267_3
                have HC267_3 := AM hl267_3
                clear hi267_3 hl267_3
                have ea_ := Option.some.inj (hx267_3.symm.trans hHeld.2.2.2)
                injection ea_ with ea_ en_ ec_
                subst ea_
                subst ec_
                clear en_
                replace p267 := eq_true p267
                replace q267 := eq_true q267
                have p268 : 0 ≤ (x5_1 : Int) := of_decide_eq_true (by first | (with_reducible assumption) | assumption)
                have q268 : x5_1 < (l0.length : Int) := of_decide_eq_true (by first | (with_reducible assumption) | assumption)
                obtain ⟨ad268, A268_3, c268_3, e268, hx268_0, hx268_1, hx268_2, hx268_3, hl268_3, hi268_3⟩ := at_T74 HR0.out x5_1 p268 q268
                obtain rfl : ad265 = ad268 := (by injection e268)
                replace hx268_0 := (HB.out.cell (World.block_lt_of_cell? w _ hx268_0)).trans hx268_0
                replace hx268_1 := (HB.out.cell (World.block_lt_of_cell? w _ hx268_1)).trans hx268_1
                replace hx268_2 := (HB.out.cell (World.block_lt_of_cell? w _ hx268_2)).trans hx268_2
                replace hx268_3 := (HB.out.cell (World.block_lt_of_cell? w _ hx268_3)).trans hx268_3
                have HR268_3 := AM hi268_3
                have HC268_3 := AM hl268_3
                clear hi268_3 hl268_3
                replace p268 := eq_true p268
                replace q268 := eq_true q268
                have ea_ := Option.some.inj (hx267_3.symm.trans hx268_3)
                injection ea_ with ea_ en_ ec_
                subst ea_
                subst ec_
                clear en_
                try go_wp2
                go_ret
                exact ⟨ri_, bel_⟩
          · rw [if_neg c6] at H
            have c6b0 : (((rd_T74 l0 x5_1).f0).toList == t266.toList) = false := beq_eq_false_iff_ne.mpr c6
            have c6b1 : (((rd_T74 l0 x5_1).f0).toList != t266.toList) = true := bne_iff_ne.mpr c6
            obtain rfl := Option.some.inj H
            try go_wp2
            replace HB := AM (below_drew1 HB.out)
            have p265 : 0 ≤ (x5_1 : Int) := of_decide_eq_true (by first | (with_reducible assumption) | assumption)
            have q265 : x5_1 < (l0.length : Int) := of_decide_eq_true (by first | (with_reducible assumption) | assumption)
            obtain ⟨ad265, A265_3, c265_3, e265, hx265_0, hx265_1, hx265_2, hx265_3, hl265_3, hi265_3⟩ := at_T74 HR0.out x5_1 p265 q265
            have hw265_3 := hx265_3
            have hw265_2 := hx265_2
            have hw265_1 := hx265_1
            have hw265_0 := hx265_0
            cases e265
            replace hx265_0 := (HB.out.cell (World.block_lt_of_cell? w _ hx265_0)).trans hx265_0
            replace hx265_1 := (HB.out.cell (World.block_lt_of_cell? w _ hx265_1)).trans hx265_1
            replace hx265_2 := (HB.out.cell (World.block_lt_of_cell? w _ hx265_2)).trans hx265_2
            replace hx265_3 := (HB.out.cell (World.block_lt_of_cell? w _ hx265_3)).trans hx265_3
            have HR265_3 := AM hi265_3
            have HC265_3 := AM hl265_3
            clear hi265_3 hl265_3
            replace p265 := eq_true p265
            replace q265 := eq_true q265
            refine start_ (n := 8) (S := fun w' => w'.cell? (ad265.add ((x5_1).toNat * 4)) = some (.string ((rd_T74 l0 x5_1).f0)) ∧ w'.cell? ⟨(ad265.add ((x5_1).toNat * 4)).block, (ad265.add ((x5_1).toNat * 4)).off + 1, none⟩ = some (.bool ((rd_T74 l0 x5_1).f1)) ∧ w'.cell? ⟨(ad265.add ((x5_1).toNat * 4)).block, (ad265.add ((x5_1).toNat * 4)).off + 2, none⟩ = some (.int .i64 ((rd_T74 l0 x5_1).f2)) ∧ w'.cell? ⟨(ad265.add ((x5_1).toNat * 4)).block, (ad265.add ((x5_1).toNat * 4)).off + 3, none⟩ = some (.slice A265_3 ((rd_T74 l0 x5_1).f3).length c265_3)) (ds := []) #[false, false, false, false, false, false, false, false] (by kernel_rfl) rfl rfl ⟨((HB.out.cell (World.block_lt_of_cell? w _ hw265_0)).trans hw265_0), ((HB.out.cell (World.block_lt_of_cell? w _ hw265_1)).trans hw265_1), ((HB.out.cell (World.block_lt_of_cell? w _ hw265_2)).trans hw265_2), ((HB.out.cell (World.block_lt_of_cell? w _ hw265_3)).trans hw265_3)⟩ (fun hHeld => ?_); refine with_tabW laws_heldNodeS.tab4 laws_heldNodeS.bits4 (fun HT_ HW_ => ?_)
            generalize wr.drew = w21 at HB HR265_3 hx265_0 hx265_1 hx265_2 hx265_3 hHeld ⊢
            refine pu_ HT_ 0 (some 12) #[true, false, false, false, false, false, false, false] ?_
            refine pu_ HT_ 1 (some 13) #[true, true, false, false, false, false, false, false] ?_
            refine pu_ HT_ 2 (some 14) #[true, true, true, false, false, false, false, false] ?_
            refine pu_ HT_ 3 (some 15) #[true, true, true, true, false, false, false, false] ?_
            refine pu_ HT_ 5 (some 17) #[true, true, true, true, false, true, false, false] ?_
            refine ta_ HT_ HW_ 4 (some 16) #[true, true, true, true, true, true, false, false] hHeld ?_
            refine on_ HT_ 6 (some 18) #[true, true, true, true, true, true, true, false] (fun K hK => ?_)
            refine go1_ Try.func63 #[.int .i64 x1_1] ?_
            with_reducible refine (laws_markText.calls k1 x1_1 t266 _ A5.out).mono ?_
            rintro e w22 ⟨rfl, hb⟩
            refine ⟨_, rfl, ?_⟩
            replace HB := AM (below_step bel_ hb)
            (try clear hb)
            (try clear hb2)
            (try clear hk)
            (try clear hi)
            refine hK.out _ _ ⟨((HB.out.cell (World.block_lt_of_cell? w _ hw265_0)).trans hw265_0), ((HB.out.cell (World.block_lt_of_cell? w _ hw265_1)).trans hw265_1), ((HB.out.cell (World.block_lt_of_cell? w _ hw265_2)).trans hw265_2), ((HB.out.cell (World.block_lt_of_cell? w _ hw265_3)).trans hw265_3)⟩ (fun hHeld => ?_)
            clear hK K
            refine nm_ ?_
            refine pu_ HT_ 7 (some 19) #[true, true, true, true, true, true, true, true] ?_
            refine dn_ HT_ ?_
            try go_wp2
            go_ret
            exact ⟨ri_, bel_⟩
        · rw [if_neg c4] at H
          exact absurd H (by simp)
      · rw [if_neg c3] at H
        have c3b0 : decide (x5_1 < (l0.length : Int)) = false := decide_eq_false c3
        clear c3
        obtain rfl := Option.some.inj H
        go_wp2
        go_ret
        exact ⟨ri_, bel_⟩

/-! ### laws_heldNodesOut: function 23 -/
def laws_heldNodesOut.f (k : Nat) (l0_0 : List (S74)) (a0_1 : Int) (a1 : Int) : Option (Int) := (laws_heldNodeS.f k l0_0 a1).bind fun t272 => (if t272 < 0 then (some (-1)) else (some t272))
theorem laws_heldNodesOut.mono : ∀ a0 a1 a2 k, LeO (laws_heldNodesOut.f k a0 a1 a2) (laws_heldNodesOut.f (k + 1) a0 a1 a2) := by
  intro a0 a1 a2 k
  unfold laws_heldNodesOut.f
  repeat' first
      | (with_reducible exact laws_heldNodeS.mono _ _ _)
      | (with_reducible exact LeO.refl _)
      | (with_reducible exact LeO.none _)
      | (with_reducible refine LeO.ite ?_ ?_)
      | (with_reducible refine LeO.bind ?_ (fun _ => ?_))
      | exact laws_heldNodeS.mono _ _ _
      | exact LeO.none _
      | refine LeO.ite ?_ ?_
      | refine LeO.bind ?_ (fun _ => ?_)
set_option maxHeartbeats 8000000 in
set_option maxRecDepth 100000 in
theorem laws_heldNodesOut.calls (k : Nat) (A0_0 : Option Addr) (c0_0 : Nat) (l0_0 : List (S74)) (a0_1 : Int) (a1 : Int) (r : Int) (w : World) (hr0_0 : Kd.C k74 w A0_0 l0_0.length l0_0) (hc0_0 : l0_0.length ≤ c0_0) (h : laws_heldNodesOut.f k l0_0 a0_1 a1 = some r) :
    Calls Try.prog 23 #[.agg #[.slice A0_0 l0_0.length c0_0, .int .i64 a0_1], .int .i64 a1] w fun e w' => e = .returned (.int .i64 r) ∧ Below w.heap.size w w' := by
  have hu37 := Try.underlying37
  have HR0_0 := AM hr0_0
  have HC0_0 := AM hc0_0
  clear hr0_0 hc0_0
  have HB := AM (Below.refl w.heap.size w)
  have H : ((laws_heldNodeS.f k l0_0 a1).bind fun t272 => (if t272 < 0 then (some (-1)) else (some t272))) = some r := h
  clear h
  obtain ⟨t272, A3, H⟩ := OB H
  try dsimp only at H
  replace A3 := AM A3
  by_cases c4 : t272 < 0
  · rw [if_pos c4] at H
    have c4b0 : decide (t272 < 0) = true := decide_eq_true c4
    clear c4
    obtain rfl := Option.some.inj H
    go_enter Try.func23, Try.ntmps23
    go_wp2_with (first | ((with_reducible refine gate_dst (N := 2) rfl ?_); refine be_ 2 #[.slice A0_0 l0_0.length c0_0, .int .i64 a0_1] 37 ?_; intro gb271 hg w5 hbox hb; have BK271 := AM hbox; have GW271 := AM ((by rw [hg]; exact (below_size bel_) : w.heap.size ≤ gb271)); have GE271 := AM ((by rw [hg]; exact (below_size bel_) : w.heap.size ≤ gb271)); replace HB := AM (below_step bel_ hb); clear hb hbox hg; have hcz6_0 : w5.cell? ⟨gb271, 0, none⟩ = some (.slice A0_0 l0_0.length c0_0) := (blk_cell BK271.out 0).trans rfl; have hcz6_1 : w5.cell? ⟨gb271, 1, none⟩ = some (.int .i64 a0_1) := (blk_cell BK271.out 1).trans rfl; have hfz6_0 := blk_frozen BK271.out 0; have hfz6_1 := blk_frozen BK271.out 1) | ((with_reducible refine gate_callee (f := 59) rfl ?_); refine gl_ (some 8) Try.func59 #[.slice A0_0 l0_0.length c0_0, .int .i64 a1] ?_; (with_reducible refine (laws_heldNodeS.calls k _ _ l0_0 a1 t272 _ ?side1 ?side2 A3.out).mono ?_); (case side1 => repeat (first | exact (Kd.C_below HR0_0.out HB.out) | (with_reducible refine Kd.C_alloc ?_ _) | (with_reducible refine Kd.C_drewN ?_ _) | (with_reducible refine Kd.C_drew ?_))); (case side2 => exact HC0_0.out); rintro e w7 ⟨rfl, hb⟩; refine ⟨_, rfl, ?_⟩; replace BK271 := AM (blk_below (g := gb271) (o := .cells #[.slice A0_0 l0_0.length c0_0, .int .i64 a0_1] 37 (0, 0)) (bk_ BK271.out) hb); replace HB := AM (below_step bel_ hb); (try clear hb); (try clear hb2); (try clear hk); (try clear hi)))
    go_ret
    exact ⟨ri_, bel_⟩
  · rw [if_neg c4] at H
    have c4b0 : decide (t272 < 0) = false := decide_eq_false c4
    clear c4
    obtain rfl := Option.some.inj H
    go_enter Try.func23, Try.ntmps23
    go_wp2_with (first | ((with_reducible refine gate_dst (N := 2) rfl ?_); refine be_ 2 #[.slice A0_0 l0_0.length c0_0, .int .i64 a0_1] 37 ?_; intro gb271 hg w8 hbox hb; have BK271 := AM hbox; have GW271 := AM ((by rw [hg]; exact (below_size bel_) : w.heap.size ≤ gb271)); have GE271 := AM ((by rw [hg]; exact (below_size bel_) : w.heap.size ≤ gb271)); replace HB := AM (below_step bel_ hb); clear hb hbox hg; have hcz9_0 : w8.cell? ⟨gb271, 0, none⟩ = some (.slice A0_0 l0_0.length c0_0) := (blk_cell BK271.out 0).trans rfl; have hcz9_1 : w8.cell? ⟨gb271, 1, none⟩ = some (.int .i64 a0_1) := (blk_cell BK271.out 1).trans rfl; have hfz9_0 := blk_frozen BK271.out 0; have hfz9_1 := blk_frozen BK271.out 1) | ((with_reducible refine gate_callee (f := 59) rfl ?_); refine gl_ (some 8) Try.func59 #[.slice A0_0 l0_0.length c0_0, .int .i64 a1] ?_; (with_reducible refine (laws_heldNodeS.calls k _ _ l0_0 a1 t272 _ ?side1 ?side2 A3.out).mono ?_); (case side1 => repeat (first | exact (Kd.C_below HR0_0.out HB.out) | (with_reducible refine Kd.C_alloc ?_ _) | (with_reducible refine Kd.C_drewN ?_ _) | (with_reducible refine Kd.C_drew ?_))); (case side2 => exact HC0_0.out); rintro e w10 ⟨rfl, hb⟩; refine ⟨_, rfl, ?_⟩; replace BK271 := AM (blk_below (g := gb271) (o := .cells #[.slice A0_0 l0_0.length c0_0, .int .i64 a0_1] 37 (0, 0)) (bk_ BK271.out) hb); replace HB := AM (below_step bel_ hb); (try clear hb); (try clear hb2); (try clear hk); (try clear hi)))
    go_ret
    exact ⟨ri_, bel_⟩

end Go.Proofs.Ytggbpjfgfenpdaa.PFnExactNodesRead
