-- A program of this session wrote this text: a changed copy of the kit print, with given functions.
import Derived.Test.YtggbpjfgfenpdaaPFnExactPlacesDropx0
import Derived.Test.YtggbpjfgfenpdaaPFnExactPlacesDropx2
namespace Go.Proofs.Ytggbpjfgfenpdaa.PFnExactPlacesDrop
open Go.RowKit Go.Proofs.YtggbpjfgfenpdaaW.PrintWords Go.Proofs.YtggbpjfgfenpdaaW.PrintLast Go.Proofs.YtggbpjfgfenpdaaW.PrintMore Go.Proofs.Ytggbpjfgfenpdaa.Aut
attribute [local go_sem] max2_int min2_int max_two min_two max_three min_three max_four min_four   -- for this text's walks alone
set_option linter.unusedVariables false
set_option linter.unusedSimpArgs false

/-! ### spec_PlacesRight: function 39 -/
mutual
def spec_PlacesRight.l0 : Nat → List (S66) → Int → Option (Bool)
  | 0, _, _ => none
  | k + 1, x0, x3 => if x3 < (x0.length : Int) then (if 0 ≤ x3 then (if (((rd_T66 x0 x3).f0).size : Int) = 32 then ((spec_ObjectRight.f k ((rd_T66 x0 x3).f1)).bind fun t127 => (if t127 = true then (if ((rd_T66 x0 x3).f2) = 1 then (if ((rd_T66 x0 x3).f3) < 0 then (spec_PlacesRight.j1 k x0 x3 true ((rd_T66 x0 x3).f0) ((rd_T66 x0 x3).f1) ((rd_T66 x0 x3).f2) ((rd_T66 x0 x3).f3) ((rd_T66 x0 x3).f4)) else (if ((rd_T66 x0 x3).f3) > 12000 then (spec_PlacesRight.j1 k x0 x3 true ((rd_T66 x0 x3).f0) ((rd_T66 x0 x3).f1) ((rd_T66 x0 x3).f2) ((rd_T66 x0 x3).f3) ((rd_T66 x0 x3).f4)) else (if ((rd_T66 x0 x3).f4) < 0 then (spec_PlacesRight.j1 k x0 x3 true ((rd_T66 x0 x3).f0) ((rd_T66 x0 x3).f1) ((rd_T66 x0 x3).f2) ((rd_T66 x0 x3).f3) ((rd_T66 x0 x3).f4)) else (spec_PlacesRight.j1 k x0 x3 (decide (((rd_T66 x0 x3).f4) > 2000)) ((rd_T66 x0 x3).f0) ((rd_T66 x0 x3).f1) ((rd_T66 x0 x3).f2) ((rd_T66 x0 x3).f3) ((rd_T66 x0 x3).f4))))) else (if ((rd_T66 x0 x3).f2) = 2 then (if ((rd_T66 x0 x3).f3) < 0 then (spec_PlacesRight.j1 k x0 x3 true ((rd_T66 x0 x3).f0) ((rd_T66 x0 x3).f1) ((rd_T66 x0 x3).f2) ((rd_T66 x0 x3).f3) ((rd_T66 x0 x3).f4)) else (if ((rd_T66 x0 x3).f3) > 12000 then (spec_PlacesRight.j1 k x0 x3 true ((rd_T66 x0 x3).f0) ((rd_T66 x0 x3).f1) ((rd_T66 x0 x3).f2) ((rd_T66 x0 x3).f3) ((rd_T66 x0 x3).f4)) else (if ((rd_T66 x0 x3).f4) < 0 then (spec_PlacesRight.j1 k x0 x3 true ((rd_T66 x0 x3).f0) ((rd_T66 x0 x3).f1) ((rd_T66 x0 x3).f2) ((rd_T66 x0 x3).f3) ((rd_T66 x0 x3).f4)) else (spec_PlacesRight.j1 k x0 x3 (decide (((rd_T66 x0 x3).f4) > 2000)) ((rd_T66 x0 x3).f0) ((rd_T66 x0 x3).f1) ((rd_T66 x0 x3).f2) ((rd_T66 x0 x3).f3) ((rd_T66 x0 x3).f4))))) else (spec_PlacesRight.j1 k x0 x3 true ((rd_T66 x0 x3).f0) ((rd_T66 x0 x3).f1) ((rd_T66 x0 x3).f2) ((rd_T66 x0 x3).f3) ((rd_T66 x0 x3).f4)))) else (spec_PlacesRight.j1 k x0 x3 true ((rd_T66 x0 x3).f0) ((rd_T66 x0 x3).f1) ((rd_T66 x0 x3).f2) ((rd_T66 x0 x3).f3) ((rd_T66 x0 x3).f4)))) else (spec_PlacesRight.j1 k x0 x3 true ((rd_T66 x0 x3).f0) ((rd_T66 x0 x3).f1) ((rd_T66 x0 x3).f2) ((rd_T66 x0 x3).f3) ((rd_T66 x0 x3).f4))) else (none)) else (some true)
def spec_PlacesRight.j1 : Nat → List (S66) → Int → Bool → ByteArray → ByteArray → Int → Int → Int → Option (Bool)
  | 0, _, _, _, _, _, _, _, _ => none
  | k + 1, x0, x3, x57, x127000, x127001, x127002, x127003, x127004 => if x57 = true then (some false) else (if x3 > 0 then (if 0 ≤ (wrap64 (x3 - 1)) then (if (wrap64 (x3 - 1)) < (x0.length : Int) then ((spec_l10Less.f ((rd_T66 x0 (wrap64 (x3 - 1))).f0) ((rd_T66 x0 (wrap64 (x3 - 1))).f1) ((rd_T66 x0 (wrap64 (x3 - 1))).f2) ((rd_T66 x0 (wrap64 (x3 - 1))).f3) ((rd_T66 x0 (wrap64 (x3 - 1))).f4) x127000 x127001 x127002 x127003 x127004).bind fun t129 => (if t129 = true then (spec_PlacesRight.l0 k x0 (wrap64 (x3 + 1))) else (some false))) else (none)) else (none)) else (spec_PlacesRight.l0 k x0 (wrap64 (x3 + 1))))
end
def spec_PlacesRight.f (k : Nat) (l0 : List (S66)) : Option (Bool) := if (l0.length : Int) > 300 then (some false) else (spec_PlacesRight.l0 k l0 0)
theorem spec_PlacesRight.mono_l : ∀ k, (∀ y0 y1, LeO (spec_PlacesRight.l0 k y0 y1) (spec_PlacesRight.l0 (k + 1) y0 y1)) ∧ (∀ y0 y1 y2 y3 y4 y5 y6 y7, LeO (spec_PlacesRight.j1 k y0 y1 y2 y3 y4 y5 y6 y7) (spec_PlacesRight.j1 (k + 1) y0 y1 y2 y3 y4 y5 y6 y7))
  | 0 => ⟨fun _ _ r h => by simp [spec_PlacesRight.l0] at h, fun _ _ _ _ _ _ _ _ r h => by simp [spec_PlacesRight.j1] at h⟩
  | k + 1 => by
    obtain ⟨ih0, ih1⟩ := spec_PlacesRight.mono_l k
    refine ⟨?_, ?_⟩
    · intro y0 y1
      unfold spec_PlacesRight.l0
      repeat' first
      | (with_reducible exact ih0 _ _)
      | (with_reducible exact ih1 _ _ _ _ _ _ _ _)
      | (with_reducible exact spec_ObjectRight.mono _ _)
      | (with_reducible exact LeO.refl _)
      | (with_reducible exact LeO.none _)
      | (with_reducible refine LeO.ite ?_ ?_)
      | (with_reducible refine LeO.bind ?_ (fun _ => ?_))
      | exact ih0 _ _
      | exact ih1 _ _ _ _ _ _ _ _
      | exact spec_ObjectRight.mono _ _
      | exact LeO.none _
      | refine LeO.ite ?_ ?_
      | refine LeO.bind ?_ (fun _ => ?_)
    · intro y0 y1 y2 y3 y4 y5 y6 y7
      unfold spec_PlacesRight.j1
      repeat' first
      | (with_reducible exact ih0 _ _)
      | (with_reducible exact ih1 _ _ _ _ _ _ _ _)
      | (with_reducible exact spec_ObjectRight.mono _ _)
      | (with_reducible exact LeO.refl _)
      | (with_reducible exact LeO.none _)
      | (with_reducible refine LeO.ite ?_ ?_)
      | (with_reducible refine LeO.bind ?_ (fun _ => ?_))
      | exact ih0 _ _
      | exact ih1 _ _ _ _ _ _ _ _
      | exact spec_ObjectRight.mono _ _
      | exact LeO.none _
      | refine LeO.ite ?_ ?_
      | refine LeO.bind ?_ (fun _ => ?_)
theorem spec_PlacesRight.mono : ∀ a0 k, LeO (spec_PlacesRight.f k a0) (spec_PlacesRight.f (k + 1) a0) := by
  intro a0 k
  obtain ⟨ih0, ih1⟩ := spec_PlacesRight.mono_l k
  unfold spec_PlacesRight.f
  repeat' first
      | (with_reducible exact ih0 _ _)
      | (with_reducible exact ih1 _ _ _ _ _ _ _ _)
      | (with_reducible exact spec_ObjectRight.mono _ _)
      | (with_reducible exact LeO.refl _)
      | (with_reducible exact LeO.none _)
      | (with_reducible refine LeO.ite ?_ ?_)
      | (with_reducible refine LeO.bind ?_ (fun _ => ?_))
      | exact ih0 _ _
      | exact ih1 _ _ _ _ _ _ _ _
      | exact spec_ObjectRight.mono _ _
      | exact LeO.none _
      | refine LeO.ite ?_ ?_
      | refine LeO.bind ?_ (fun _ => ?_)
def spec_PlacesRight.T9 : Bool × List (List Nat × List Nat) := (true, [([], []), ([0], [0]), ([1], [1]), ([2], [2]), ([2], [2]), ([4, 2], [2, 4]), ([3, 5, 2], [2, 3, 5]), ([6, 2], [2, 6]), ([2], [2]), ([7, 8, 2, 2], [2, 7, 8]), ([9, 2], [2, 9]), ([2, 10], [2, 10])])
def spec_PlacesRight.B9 : List Nat := [0, 1, 3, 7, 7, 23, 63, 127, 7, 511, 1023, 2047]
theorem spec_PlacesRight.tab9 : rtab .any (opsOf Try.f39 9) = spec_PlacesRight.T9 := by kernel_rfl
theorem spec_PlacesRight.bits9 : waitsOk spec_PlacesRight.T9.2 spec_PlacesRight.B9 = true := by kernel_rfl
set_option maxHeartbeats 8000000 in
set_option maxRecDepth 100000 in
theorem spec_PlacesRight.calls (k : Nat) (A0 : Option Addr) (c0 : Nat) (l0 : List (S66)) (r : Bool) (w : World) (hr0 : Kd.C k66 w A0 l0.length l0) (hc0 : l0.length ≤ c0) (h : spec_PlacesRight.f k l0 = some r) :
    Calls Try.prog 39 #[.slice A0 l0.length c0] w fun e w' => e = .returned (.bool r) ∧ Below w.heap.size w w' := by
  have hu66 := Try.underlying66
  have HR0 := AM hr0
  have HC0 := AM hc0
  clear hr0 hc0
  have HB := AM (Below.refl w.heap.size w)
  have H : (if (l0.length : Int) > 300 then (some false) else (spec_PlacesRight.l0 k l0 0)) = some r := h
  clear h
  by_cases c2 : (l0.length : Int) > 300
  · rw [if_pos c2] at H
    have c2b0 : decide (300 < (l0.length : Int)) = true := decide_eq_true c2
    have c2b1 : decide (300 < l0.length) = true := decide_eq_true (by omega)
    clear c2
    obtain rfl := Option.some.inj H
    go_enter Try.func39, Try.ntmps39
    go_wp2
    go_ret
    exact ⟨ri_, bel_⟩
  · rw [if_neg c2] at H
    have c2b0 : decide (300 < (l0.length : Int)) = false := decide_eq_false c2
    have c2b1 : decide (300 < l0.length) = false := decide_eq_false (by omega)
    clear c2
    have H' := AM H
    clear H
    go_enter Try.func39, Try.ntmps39
    go_wp2
    go_loopg [3] k (fun kq v3 w' => ∃ (x3_1 : Int), v3 = .int .i64 x3_1 ∧ Aside0 (spec_PlacesRight.l0 kq l0 x3_1 = some r) ∧ Aside0 (kq ≤ k) ∧ Aside0 (Below w.heap.size w w'))
    case atStart => exact ⟨(0), (by first | rfl | (simp; done) | (simp [*]; done)), H', ⟨Nat.le_refl _⟩, ⟨bel_⟩⟩
    case round =>
      clear H'
      try clear c2
      try clear c2b0
      try clear c2b1
      try clear p2
      obtain ⟨x3_1, rfl, HA, HK1, HB⟩ := hrel
      cases gk with
      | zero => exact absurd HA.out (by simp [spec_PlacesRight.l0])
      | succ k1 =>
        have H := HA.out
        clear HA
        simp only [spec_PlacesRight.l0] at H
        by_cases c3 : x3_1 < (l0.length : Int)
        · rw [if_pos c3] at H
          have c3b0 : decide (x3_1 < (l0.length : Int)) = true := decide_eq_true c3
          clear c3
          by_cases c4 : 0 ≤ x3_1
          · rw [if_pos c4] at H
            have c4b0 : decide (0 ≤ x3_1) = true := decide_eq_true c4
            clear c4
            have HC5 := AM H
            clear H
            have p125 : 0 ≤ (x3_1 : Int) := of_decide_eq_true (by first | (with_reducible assumption) | assumption)
            have q125 : x3_1 < (l0.length : Int) := of_decide_eq_true (by first | (with_reducible assumption) | assumption)
            obtain ⟨ad125, e125, hx125_0, hx125_1, hx125_2, hx125_3, hx125_4⟩ := at_T66 HR0.out x3_1 p125 q125
            cases e125
            replace hx125_0 := (HB.out.cell (World.block_lt_of_cell? w _ hx125_0)).trans hx125_0
            replace hx125_1 := (HB.out.cell (World.block_lt_of_cell? w _ hx125_1)).trans hx125_1
            replace hx125_2 := (HB.out.cell (World.block_lt_of_cell? w _ hx125_2)).trans hx125_2
            replace hx125_3 := (HB.out.cell (World.block_lt_of_cell? w _ hx125_3)).trans hx125_3
            replace hx125_4 := (HB.out.cell (World.block_lt_of_cell? w _ hx125_4)).trans hx125_4
            replace p125 := eq_true p125
            replace q125 := eq_true q125
            go_upto_region 7 with (first | ((with_reducible refine gate_dst (N := 4) rfl ?_); refine be_ 4 #[.string (⟨#[]⟩ : ByteArray), .string (⟨#[]⟩ : ByteArray), .int .i64 0, .int .i64 0, .int .i64 0] 66 ?_; intro gb126 hg w6 hbox hb; have BK126 := AM hbox; have GW126 := AM ((by rw [hg]; exact (below_size bel_) : w.heap.size ≤ gb126)); have GE126 := AM ((by rw [hg]; exact (below_size bel_) : w.heap.size ≤ gb126)); replace HB := AM (below_step bel_ hb); clear hb hbox hg; have hcz7_0 : w6.cell? ⟨gb126, 0, none⟩ = some (.string (⟨#[]⟩ : ByteArray)) := (blk_cell BK126.out 0).trans rfl; have hcz7_1 : w6.cell? ⟨gb126, 1, none⟩ = some (.string (⟨#[]⟩ : ByteArray)) := (blk_cell BK126.out 1).trans rfl; have hcz7_2 : w6.cell? ⟨gb126, 2, none⟩ = some (.int .i64 0) := (blk_cell BK126.out 2).trans rfl; have hcz7_3 : w6.cell? ⟨gb126, 3, none⟩ = some (.int .i64 0) := (blk_cell BK126.out 3).trans rfl; have hcz7_4 : w6.cell? ⟨gb126, 4, none⟩ = some (.int .i64 0) := (blk_cell BK126.out 4).trans rfl; have hfz7_0 := blk_frozen BK126.out 0; have hfz7_1 := blk_frozen BK126.out 1; have hfz7_2 := blk_frozen BK126.out 2; have hfz7_3 := blk_frozen BK126.out 3; have hfz7_4 := blk_frozen BK126.out 4))
            (try simp only [Act.put, List.setIfInBounds_toArray, List.set_cons_zero, List.set_cons_succ])
            go_cut [57] (fun v57 wc => ∃ (kq : Nat) (x57_4 : Bool), v57 = .bool x57_4 ∧ Aside0 (spec_PlacesRight.j1 kq l0 x3_1 x57_4 ((rd_T66 l0 x3_1).f0) ((rd_T66 l0 x3_1).f1) ((rd_T66 l0 x3_1).f2) ((rd_T66 l0 x3_1).f3) ((rd_T66 l0 x3_1).f4) = some r) ∧ Aside0 (kq ≤ k1) ∧ Aside0 (wc.heap[gb126]? = some (.cells #[.string ((rd_T66 l0 x3_1).f0), .string ((rd_T66 l0 x3_1).f1), .int .i64 ((rd_T66 l0 x3_1).f2), .int .i64 ((rd_T66 l0 x3_1).f3), .int .i64 ((rd_T66 l0 x3_1).f4)] 66 (0, 0))) ∧ Aside0 (Below w.heap.size w wc))
            case first =>
              have H := HC5.out
              clear HC5
              by_cases c8 : (((rd_T66 l0 x3_1).f0).size : Int) = 32
              · rw [if_pos c8] at H
                have c8b0 : ((((rd_T66 l0 x3_1).f0).size : Int) == 32) = true := beq_iff_eq.mpr c8
                have c8b1 : ((((rd_T66 l0 x3_1).f0).size : Int) != 32) = false := bne_eq_false_iff_eq.mpr c8
                clear c8
                (first | rw [c8b0] | (simp only [i64_w, i32_w]; rw [c8b0]) | skip)
                obtain ⟨t127, A9, H⟩ := OB H
                try dsimp only at H
                replace A9 := AM A9
                by_cases c10 : t127 = true
                · subst c10
                  rw [if_pos rfl] at H
                  by_cases c11 : ((rd_T66 l0 x3_1).f2) = 1
                  · rw [if_pos c11] at H
                    have c11b0 : (((rd_T66 l0 x3_1).f2) == 1) = true := beq_iff_eq.mpr c11
                    have c11b1 : (((rd_T66 l0 x3_1).f2) != 1) = false := bne_eq_false_iff_eq.mpr c11
                    clear c11
                    by_cases c12 : ((rd_T66 l0 x3_1).f3) < 0
                    · rw [if_pos c12] at H
                      have c12b0 : decide (((rd_T66 l0 x3_1).f3) < 0) = true := decide_eq_true c12
                      clear c12
                      have H' := AM H
                      clear H
                      have hcz13_0 : w6.cell? ⟨gb126, 0, none⟩ = some (.string (⟨#[]⟩ : ByteArray)) := (blk_cell BK126.out 0).trans rfl
                      have hcz13_1 : w6.cell? ⟨gb126, 1, none⟩ = some (.string (⟨#[]⟩ : ByteArray)) := (blk_cell BK126.out 1).trans rfl
                      have hcz13_2 : w6.cell? ⟨gb126, 2, none⟩ = some (.int .i64 0) := (blk_cell BK126.out 2).trans rfl
                      have hcz13_3 : w6.cell? ⟨gb126, 3, none⟩ = some (.int .i64 0) := (blk_cell BK126.out 3).trans rfl
                      have hcz13_4 : w6.cell? ⟨gb126, 4, none⟩ = some (.int .i64 0) := (blk_cell BK126.out 4).trans rfl
                      have hfz13_0 := blk_frozen BK126.out 0
                      have hfz13_1 := blk_frozen BK126.out 1
                      have hfz13_2 := blk_frozen BK126.out 2
                      have hfz13_3 := blk_frozen BK126.out 3
                      have hfz13_4 := blk_frozen BK126.out 4
                      go_wp2_with (first | (go_at_call 86; (with_reducible refine (spec_ObjectRight.calls k1 ((rd_T66 l0 x3_1).f1) true _ A9.out).mono ?_); rintro e w' ⟨rfl, ⟨nd, rfl⟩⟩))
                      go_meet
                      case rel => exact ⟨_, (true), (by first | rfl | (simp; done) | (simp [*]; done)), H', ⟨by have := HK1.out; first | omega | exact Nat.le_refl _⟩, ⟨bka_⟩, ⟨bel_⟩⟩
                    · rw [if_neg c12] at H
                      have c12b0 : decide (((rd_T66 l0 x3_1).f3) < 0) = false := decide_eq_false c12
                      clear c12
                      by_cases c14 : ((rd_T66 l0 x3_1).f3) > 12000
                      · rw [if_pos c14] at H
                        have c14b0 : decide (12000 < ((rd_T66 l0 x3_1).f3)) = true := decide_eq_true c14
                        clear c14
                        have H' := AM H
                        clear H
                        have hcz15_0 : w6.cell? ⟨gb126, 0, none⟩ = some (.string (⟨#[]⟩ : ByteArray)) := (blk_cell BK126.out 0).trans rfl
                        have hcz15_1 : w6.cell? ⟨gb126, 1, none⟩ = some (.string (⟨#[]⟩ : ByteArray)) := (blk_cell BK126.out 1).trans rfl
                        have hcz15_2 : w6.cell? ⟨gb126, 2, none⟩ = some (.int .i64 0) := (blk_cell BK126.out 2).trans rfl
                        have hcz15_3 : w6.cell? ⟨gb126, 3, none⟩ = some (.int .i64 0) := (blk_cell BK126.out 3).trans rfl
                        have hcz15_4 : w6.cell? ⟨gb126, 4, none⟩ = some (.int .i64 0) := (blk_cell BK126.out 4).trans rfl
                        have hfz15_0 := blk_frozen BK126.out 0
                        have hfz15_1 := blk_frozen BK126.out 1
                        have hfz15_2 := blk_frozen BK126.out 2
                        have hfz15_3 := blk_frozen BK126.out 3
                        have hfz15_4 := blk_frozen BK126.out 4
                        go_wp2_with (first | (go_at_call 86; (with_reducible refine (spec_ObjectRight.calls k1 ((rd_T66 l0 x3_1).f1) true _ A9.out).mono ?_); rintro e w' ⟨rfl, ⟨nd, rfl⟩⟩))
                        go_meet
                        case rel => exact ⟨_, (true), (by first | rfl | (simp; done) | (simp [*]; done)), H', ⟨by have := HK1.out; first | omega | exact Nat.le_refl _⟩, ⟨bka_⟩, ⟨bel_⟩⟩
                      · rw [if_neg c14] at H
                        have c14b0 : decide (12000 < ((rd_T66 l0 x3_1).f3)) = false := decide_eq_false c14
                        clear c14
                        by_cases c16 : ((rd_T66 l0 x3_1).f4) < 0
                        · rw [if_pos c16] at H
                          have c16b0 : decide (((rd_T66 l0 x3_1).f4) < 0) = true := decide_eq_true c16
                          clear c16
                          have H' := AM H
                          clear H
                          have hcz17_0 : w6.cell? ⟨gb126, 0, none⟩ = some (.string (⟨#[]⟩ : ByteArray)) := (blk_cell BK126.out 0).trans rfl
                          have hcz17_1 : w6.cell? ⟨gb126, 1, none⟩ = some (.string (⟨#[]⟩ : ByteArray)) := (blk_cell BK126.out 1).trans rfl
                          have hcz17_2 : w6.cell? ⟨gb126, 2, none⟩ = some (.int .i64 0) := (blk_cell BK126.out 2).trans rfl
                          have hcz17_3 : w6.cell? ⟨gb126, 3, none⟩ = some (.int .i64 0) := (blk_cell BK126.out 3).trans rfl
                          have hcz17_4 : w6.cell? ⟨gb126, 4, none⟩ = some (.int .i64 0) := (blk_cell BK126.out 4).trans rfl
                          have hfz17_0 := blk_frozen BK126.out 0
                          have hfz17_1 := blk_frozen BK126.out 1
                          have hfz17_2 := blk_frozen BK126.out 2
                          have hfz17_3 := blk_frozen BK126.out 3
                          have hfz17_4 := blk_frozen BK126.out 4
                          go_wp2_with (first | (go_at_call 86; (with_reducible refine (spec_ObjectRight.calls k1 ((rd_T66 l0 x3_1).f1) true _ A9.out).mono ?_); rintro e w' ⟨rfl, ⟨nd, rfl⟩⟩))
                          go_meet
                          case rel => exact ⟨_, (true), (by first | rfl | (simp; done) | (simp [*]; done)), H', ⟨by have := HK1.out; first | omega | exact Nat.le_refl _⟩, ⟨bka_⟩, ⟨bel_⟩⟩
                        · rw [if_neg c16] at H
                          have c16b0 : decide (((rd_T66 l0 x3_1).f4) < 0) = false := decide_eq_false c16
                          clear c16
                          have H' := AM H
                          clear H
                          have hcz18_0 : w6.cell? ⟨gb126, 0, none⟩ = some (.string (⟨#[]⟩ : ByteArray)) := (blk_cell BK126.out 0).trans rfl
                          have hcz18_1 : w6.cell? ⟨gb126, 1, none⟩ = some (.string (⟨#[]⟩ : ByteArray)) := (blk_cell BK126.out 1).trans rfl
                          have hcz18_2 : w6.cell? ⟨gb126, 2, none⟩ = some (.int .i64 0) := (blk_cell BK126.out 2).trans rfl
                          have hcz18_3 : w6.cell? ⟨gb126, 3, none⟩ = some (.int .i64 0) := (blk_cell BK126.out 3).trans rfl
                          have hcz18_4 : w6.cell? ⟨gb126, 4, none⟩ = some (.int .i64 0) := (blk_cell BK126.out 4).trans rfl
                          have hfz18_0 := blk_frozen BK126.out 0
                          have hfz18_1 := blk_frozen BK126.out 1
                          have hfz18_2 := blk_frozen BK126.out 2
                          have hfz18_3 := blk_frozen BK126.out 3
                          have hfz18_4 := blk_frozen BK126.out 4
                          go_wp2_with (first | (go_at_call 86; (with_reducible refine (spec_ObjectRight.calls k1 ((rd_T66 l0 x3_1).f1) true _ A9.out).mono ?_); rintro e w' ⟨rfl, ⟨nd, rfl⟩⟩))
                          go_meet
                          case rel => exact ⟨_, (decide (((rd_T66 l0 x3_1).f4) > 2000)), (by first | rfl | (simp; done) | (simp [*]; done)), H', ⟨by have := HK1.out; first | omega | exact Nat.le_refl _⟩, ⟨bka_⟩, ⟨bel_⟩⟩
                  · rw [if_neg c11] at H
                    have c11b0 : (((rd_T66 l0 x3_1).f2) == 1) = false := beq_eq_false_iff_ne.mpr c11
                    have c11b1 : (((rd_T66 l0 x3_1).f2) != 1) = true := bne_iff_ne.mpr c11
                    by_cases c19 : ((rd_T66 l0 x3_1).f2) = 2
                    · rw [if_pos c19] at H
                      have c19b0 : (((rd_T66 l0 x3_1).f2) == 2) = true := beq_iff_eq.mpr c19
                      have c19b1 : (((rd_T66 l0 x3_1).f2) != 2) = false := bne_eq_false_iff_eq.mpr c19
                      clear c19
                      by_cases c20 : ((rd_T66 l0 x3_1).f3) < 0
                      · rw [if_pos c20] at H
                        have c20b0 : decide (((rd_T66 l0 x3_1).f3) < 0) = true := decide_eq_true c20
                        clear c20
                        have H' := AM H
                        clear H
                        have hcz21_0 : w6.cell? ⟨gb126, 0, none⟩ = some (.string (⟨#[]⟩ : ByteArray)) := (blk_cell BK126.out 0).trans rfl
                        have hcz21_1 : w6.cell? ⟨gb126, 1, none⟩ = some (.string (⟨#[]⟩ : ByteArray)) := (blk_cell BK126.out 1).trans rfl
                        have hcz21_2 : w6.cell? ⟨gb126, 2, none⟩ = some (.int .i64 0) := (blk_cell BK126.out 2).trans rfl
                        have hcz21_3 : w6.cell? ⟨gb126, 3, none⟩ = some (.int .i64 0) := (blk_cell BK126.out 3).trans rfl
                        have hcz21_4 : w6.cell? ⟨gb126, 4, none⟩ = some (.int .i64 0) := (blk_cell BK126.out 4).trans rfl
                        have hfz21_0 := blk_frozen BK126.out 0
                        have hfz21_1 := blk_frozen BK126.out 1
                        have hfz21_2 := blk_frozen BK126.out 2
                        have hfz21_3 := blk_frozen BK126.out 3
                        have hfz21_4 := blk_frozen BK126.out 4
                        go_wp2_with (first | (go_at_call 86; (with_reducible refine (spec_ObjectRight.calls k1 ((rd_T66 l0 x3_1).f1) true _ A9.out).mono ?_); rintro e w' ⟨rfl, ⟨nd, rfl⟩⟩))
                        go_meet
                        case rel => exact ⟨_, (true), (by first | rfl | (simp; done) | (simp [*]; done)), H', ⟨by have := HK1.out; first | omega | exact Nat.le_refl _⟩, ⟨bka_⟩, ⟨bel_⟩⟩
                      · rw [if_neg c20] at H
                        have c20b0 : decide (((rd_T66 l0 x3_1).f3) < 0) = false := decide_eq_false c20
                        clear c20
                        by_cases c22 : ((rd_T66 l0 x3_1).f3) > 12000
                        · rw [if_pos c22] at H
                          have c22b0 : decide (12000 < ((rd_T66 l0 x3_1).f3)) = true := decide_eq_true c22
                          clear c22
                          have H' := AM H
                          clear H
                          have hcz23_0 : w6.cell? ⟨gb126, 0, none⟩ = some (.string (⟨#[]⟩ : ByteArray)) := (blk_cell BK126.out 0).trans rfl
                          have hcz23_1 : w6.cell? ⟨gb126, 1, none⟩ = some (.string (⟨#[]⟩ : ByteArray)) := (blk_cell BK126.out 1).trans rfl
                          have hcz23_2 : w6.cell? ⟨gb126, 2, none⟩ = some (.int .i64 0) := (blk_cell BK126.out 2).trans rfl
                          have hcz23_3 : w6.cell? ⟨gb126, 3, none⟩ = some (.int .i64 0) := (blk_cell BK126.out 3).trans rfl
                          have hcz23_4 : w6.cell? ⟨gb126, 4, none⟩ = some (.int .i64 0) := (blk_cell BK126.out 4).trans rfl
                          have hfz23_0 := blk_frozen BK126.out 0
                          have hfz23_1 := blk_frozen BK126.out 1
                          have hfz23_2 := blk_frozen BK126.out 2
                          have hfz23_3 := blk_frozen BK126.out 3
                          have hfz23_4 := blk_frozen BK126.out 4
                          go_wp2_with (first | (go_at_call 86; (with_reducible refine (spec_ObjectRight.calls k1 ((rd_T66 l0 x3_1).f1) true _ A9.out).mono ?_); rintro e w' ⟨rfl, ⟨nd, rfl⟩⟩))
                          go_meet
                          case rel => exact ⟨_, (true), (by first | rfl | (simp; done) | (simp [*]; done)), H', ⟨by have := HK1.out; first | omega | exact Nat.le_refl _⟩, ⟨bka_⟩, ⟨bel_⟩⟩
                        · rw [if_neg c22] at H
                          have c22b0 : decide (12000 < ((rd_T66 l0 x3_1).f3)) = false := decide_eq_false c22
                          clear c22
                          by_cases c24 : ((rd_T66 l0 x3_1).f4) < 0
                          · rw [if_pos c24] at H
                            have c24b0 : decide (((rd_T66 l0 x3_1).f4) < 0) = true := decide_eq_true c24
                            clear c24
                            have H' := AM H
                            clear H
                            have hcz25_0 : w6.cell? ⟨gb126, 0, none⟩ = some (.string (⟨#[]⟩ : ByteArray)) := (blk_cell BK126.out 0).trans rfl
                            have hcz25_1 : w6.cell? ⟨gb126, 1, none⟩ = some (.string (⟨#[]⟩ : ByteArray)) := (blk_cell BK126.out 1).trans rfl
                            have hcz25_2 : w6.cell? ⟨gb126, 2, none⟩ = some (.int .i64 0) := (blk_cell BK126.out 2).trans rfl
                            have hcz25_3 : w6.cell? ⟨gb126, 3, none⟩ = some (.int .i64 0) := (blk_cell BK126.out 3).trans rfl
                            have hcz25_4 : w6.cell? ⟨gb126, 4, none⟩ = some (.int .i64 0) := (blk_cell BK126.out 4).trans rfl
                            have hfz25_0 := blk_frozen BK126.out 0
                            have hfz25_1 := blk_frozen BK126.out 1
                            have hfz25_2 := blk_frozen BK126.out 2
                            have hfz25_3 := blk_frozen BK126.out 3
                            have hfz25_4 := blk_frozen BK126.out 4
                            go_wp2_with (first | (go_at_call 86; (with_reducible refine (spec_ObjectRight.calls k1 ((rd_T66 l0 x3_1).f1) true _ A9.out).mono ?_); rintro e w' ⟨rfl, ⟨nd, rfl⟩⟩))
                            go_meet
                            case rel => exact ⟨_, (true), (by first | rfl | (simp; done) | (simp [*]; done)), H', ⟨by have := HK1.out; first | omega | exact Nat.le_refl _⟩, ⟨bka_⟩, ⟨bel_⟩⟩
                          · rw [if_neg c24] at H
                            have c24b0 : decide (((rd_T66 l0 x3_1).f4) < 0) = false := decide_eq_false c24
                            clear c24
                            have H' := AM H
                            clear H
                            have hcz26_0 : w6.cell? ⟨gb126, 0, none⟩ = some (.string (⟨#[]⟩ : ByteArray)) := (blk_cell BK126.out 0).trans rfl
                            have hcz26_1 : w6.cell? ⟨gb126, 1, none⟩ = some (.string (⟨#[]⟩ : ByteArray)) := (blk_cell BK126.out 1).trans rfl
                            have hcz26_2 : w6.cell? ⟨gb126, 2, none⟩ = some (.int .i64 0) := (blk_cell BK126.out 2).trans rfl
                            have hcz26_3 : w6.cell? ⟨gb126, 3, none⟩ = some (.int .i64 0) := (blk_cell BK126.out 3).trans rfl
                            have hcz26_4 : w6.cell? ⟨gb126, 4, none⟩ = some (.int .i64 0) := (blk_cell BK126.out 4).trans rfl
                            have hfz26_0 := blk_frozen BK126.out 0
                            have hfz26_1 := blk_frozen BK126.out 1
                            have hfz26_2 := blk_frozen BK126.out 2
                            have hfz26_3 := blk_frozen BK126.out 3
                            have hfz26_4 := blk_frozen BK126.out 4
                            go_wp2_with (first | (go_at_call 86; (with_reducible refine (spec_ObjectRight.calls k1 ((rd_T66 l0 x3_1).f1) true _ A9.out).mono ?_); rintro e w' ⟨rfl, ⟨nd, rfl⟩⟩))
                            go_meet
                            case rel => exact ⟨_, (decide (((rd_T66 l0 x3_1).f4) > 2000)), (by first | rfl | (simp; done) | (simp [*]; done)), H', ⟨by have := HK1.out; first | omega | exact Nat.le_refl _⟩, ⟨bka_⟩, ⟨bel_⟩⟩
                    · rw [if_neg c19] at H
                      have c19b0 : (((rd_T66 l0 x3_1).f2) == 2) = false := beq_eq_false_iff_ne.mpr c19
                      have c19b1 : (((rd_T66 l0 x3_1).f2) != 2) = true := bne_iff_ne.mpr c19
                      have H' := AM H
                      clear H
                      have hcz27_0 : w6.cell? ⟨gb126, 0, none⟩ = some (.string (⟨#[]⟩ : ByteArray)) := (blk_cell BK126.out 0).trans rfl
                      have hcz27_1 : w6.cell? ⟨gb126, 1, none⟩ = some (.string (⟨#[]⟩ : ByteArray)) := (blk_cell BK126.out 1).trans rfl
                      have hcz27_2 : w6.cell? ⟨gb126, 2, none⟩ = some (.int .i64 0) := (blk_cell BK126.out 2).trans rfl
                      have hcz27_3 : w6.cell? ⟨gb126, 3, none⟩ = some (.int .i64 0) := (blk_cell BK126.out 3).trans rfl
                      have hcz27_4 : w6.cell? ⟨gb126, 4, none⟩ = some (.int .i64 0) := (blk_cell BK126.out 4).trans rfl
                      have hfz27_0 := blk_frozen BK126.out 0
                      have hfz27_1 := blk_frozen BK126.out 1
                      have hfz27_2 := blk_frozen BK126.out 2
                      have hfz27_3 := blk_frozen BK126.out 3
                      have hfz27_4 := blk_frozen BK126.out 4
                      go_wp2_with (first | (go_at_call 86; (with_reducible refine (spec_ObjectRight.calls k1 ((rd_T66 l0 x3_1).f1) true _ A9.out).mono ?_); rintro e w' ⟨rfl, ⟨nd, rfl⟩⟩))
                      go_meet
                      case rel => exact ⟨_, (true), (by first | rfl | (simp; done) | (simp [*]; done)), H', ⟨by have := HK1.out; first | omega | exact Nat.le_refl _⟩, ⟨bka_⟩, ⟨bel_⟩⟩
                · replace c10 := Bool.eq_false_iff.mpr c10
                  subst c10
                  rw [if_neg (show ¬ (false = true) by decide)] at H
                  have H' := AM H
                  clear H
                  have hcz28_0 : w6.cell? ⟨gb126, 0, none⟩ = some (.string (⟨#[]⟩ : ByteArray)) := (blk_cell BK126.out 0).trans rfl
                  have hcz28_1 : w6.cell? ⟨gb126, 1, none⟩ = some (.string (⟨#[]⟩ : ByteArray)) := (blk_cell BK126.out 1).trans rfl
                  have hcz28_2 : w6.cell? ⟨gb126, 2, none⟩ = some (.int .i64 0) := (blk_cell BK126.out 2).trans rfl
                  have hcz28_3 : w6.cell? ⟨gb126, 3, none⟩ = some (.int .i64 0) := (blk_cell BK126.out 3).trans rfl
                  have hcz28_4 : w6.cell? ⟨gb126, 4, none⟩ = some (.int .i64 0) := (blk_cell BK126.out 4).trans rfl
                  have hfz28_0 := blk_frozen BK126.out 0
                  have hfz28_1 := blk_frozen BK126.out 1
                  have hfz28_2 := blk_frozen BK126.out 2
                  have hfz28_3 := blk_frozen BK126.out 3
                  have hfz28_4 := blk_frozen BK126.out 4
                  go_wp2_with (first | (go_at_call 86; (with_reducible refine (spec_ObjectRight.calls k1 ((rd_T66 l0 x3_1).f1) false _ A9.out).mono ?_); rintro e w' ⟨rfl, ⟨nd, rfl⟩⟩))
                  go_meet
                  case rel => exact ⟨_, (true), (by first | rfl | (simp; done) | (simp [*]; done)), H', ⟨by have := HK1.out; first | omega | exact Nat.le_refl _⟩, ⟨bka_⟩, ⟨bel_⟩⟩
              · rw [if_neg c8] at H
                have c8b0 : ((((rd_T66 l0 x3_1).f0).size : Int) == 32) = false := beq_eq_false_iff_ne.mpr c8
                have c8b1 : ((((rd_T66 l0 x3_1).f0).size : Int) != 32) = true := bne_iff_ne.mpr c8
                (first | rw [c8b0] | (simp only [i64_w, i32_w]; rw [c8b0]) | skip)
                have H' := AM H
                clear H
                have hcz29_0 : w6.cell? ⟨gb126, 0, none⟩ = some (.string (⟨#[]⟩ : ByteArray)) := (blk_cell BK126.out 0).trans rfl
                have hcz29_1 : w6.cell? ⟨gb126, 1, none⟩ = some (.string (⟨#[]⟩ : ByteArray)) := (blk_cell BK126.out 1).trans rfl
                have hcz29_2 : w6.cell? ⟨gb126, 2, none⟩ = some (.int .i64 0) := (blk_cell BK126.out 2).trans rfl
                have hcz29_3 : w6.cell? ⟨gb126, 3, none⟩ = some (.int .i64 0) := (blk_cell BK126.out 3).trans rfl
                have hcz29_4 : w6.cell? ⟨gb126, 4, none⟩ = some (.int .i64 0) := (blk_cell BK126.out 4).trans rfl
                have hfz29_0 := blk_frozen BK126.out 0
                have hfz29_1 := blk_frozen BK126.out 1
                have hfz29_2 := blk_frozen BK126.out 2
                have hfz29_3 := blk_frozen BK126.out 3
                have hfz29_4 := blk_frozen BK126.out 4
                go_wp2
                go_meet
                case rel => exact ⟨_, (true), (by first | rfl | (simp; done) | (simp [*]; done)), H', ⟨by have := HK1.out; first | omega | exact Nat.le_refl _⟩, ⟨bka_⟩, ⟨bel_⟩⟩
            case rest =>
              clear HC5
              try clear c1
              try clear p1
              try clear q1
              try clear hx1
              try clear c2
              try clear c2b0
              try clear c2b1
              try clear p2
              try clear c3
              try clear c3b0
              try clear c4
              try clear c4b0
              try clear c8
              try clear c8b0
              try clear c8b1
              try clear c10
              try clear c11
              try clear c11b0
              try clear c11b1
              try clear c12
              try clear c12b0
              try clear p12
              try clear q12
              try clear hx12
              try clear c14
              try clear c14b0
              try clear c16
              try clear c16b0
              try clear c19
              try clear c19b0
              try clear c19b1
              try clear c20
              try clear c20b0
              try clear c22
              try clear c22b0
              try clear c24
              try clear c24b0
              try clear hcz13_0
              try clear hcz13_1
              try clear hcz13_2
              try clear hcz13_3
              try clear hcz13_4
              try clear hcz15_0
              try clear hcz15_1
              try clear hcz15_2
              try clear hcz15_3
              try clear hcz15_4
              try clear hcz17_0
              try clear hcz17_1
              try clear hcz17_2
              try clear hcz17_3
              try clear hcz17_4
              try clear hcz18_0
              try clear hcz18_1
              try clear hcz18_2
              try clear hcz18_3
              try clear hcz18_4
              try clear hcz21_0
              try clear hcz21_1
              try clear hcz21_2
              try clear hcz21_3
              try clear hcz21_4
              try clear hcz23_0
              try clear hcz23_1
              try clear hcz23_2
              try clear hcz23_3
              try clear hcz23_4
              try clear hcz25_0
              try clear hcz25_1
              try clear hcz25_2
              try clear hcz25_3
              try clear hcz25_4
              try clear hcz26_0
              try clear hcz26_1
              try clear hcz26_2
              try clear hcz26_3
              try clear hcz26_4
              try clear hcz27_0
              try clear hcz27_1
              try clear hcz27_2
              try clear hcz27_3
              try clear hcz27_4
              try clear hcz28_0
              try clear hcz28_1
              try clear hcz28_2
              try clear hcz28_3
              try clear hcz28_4
              try clear hcz29_0
              try clear hcz29_1
              try clear hcz29_2
              try clear hcz29_3
              try clear hcz29_4
              try clear hcz7_0
              try clear hcz7_1
              try clear hcz7_2
              try clear hcz7_3
              try clear hcz7_4
              try clear hfz13_0
              try clear hfz13_1
              try clear hfz13_2
              try clear hfz13_3
              try clear hfz13_4
              try clear hfz15_0
              try clear hfz15_1
              try clear hfz15_2
              try clear hfz15_3
              try clear hfz15_4
              try clear hfz17_0
              try clear hfz17_1
              try clear hfz17_2
              try clear hfz17_3
              try clear hfz17_4
              try clear hfz18_0
              try clear hfz18_1
              try clear hfz18_2
              try clear hfz18_3
              try clear hfz18_4
              try clear hfz21_0
              try clear hfz21_1
              try clear hfz21_2
              try clear hfz21_3
              try clear hfz21_4
              try clear hfz23_0
              try clear hfz23_1
              try clear hfz23_2
              try clear hfz23_3
              try clear hfz23_4
              try clear hfz25_0
              try clear hfz25_1
              try clear hfz25_2
              try clear hfz25_3
              try clear hfz25_4
              try clear hfz26_0
              try clear hfz26_1
              try clear hfz26_2
              try clear hfz26_3
              try clear hfz26_4
              try clear hfz27_0
              try clear hfz27_1
              try clear hfz27_2
              try clear hfz27_3
              try clear hfz27_4
              try clear hfz28_0
              try clear hfz28_1
              try clear hfz28_2
              try clear hfz28_3
              try clear hfz28_4
              try clear hfz29_0
              try clear hfz29_1
              try clear hfz29_2
              try clear hfz29_3
              try clear hfz29_4
              try clear hfz7_0
              try clear hfz7_1
              try clear hfz7_2
              try clear hfz7_3
              try clear hfz7_4
              try clear hx125_0
              try clear hx125_1
              try clear hx125_2
              try clear hx125_3
              try clear hx125_4
              try clear p125
              try clear p2
              try clear q125
              obtain ⟨kq, x57_4, rfl, HA, HJ4, BK126, HB⟩ := hcut
              cases kq with
              | zero => exact absurd HA.out (by simp [spec_PlacesRight.j1])
              | succ kj4 =>
                have H := HA.out
                clear HA
                simp only [spec_PlacesRight.j1] at H
                by_cases c30 : x57_4 = true
                · subst c30
                  rw [if_pos rfl] at H
                  obtain rfl := Option.some.inj H
                  go_wp2
                  go_ret
                  exact ⟨ri_, bel_⟩
                · replace c30 := Bool.eq_false_iff.mpr c30
                  subst c30
                  rw [if_neg (show ¬ (false = true) by decide)] at H
                  by_cases c31 : x3_1 > 0
                  · rw [if_pos c31] at H
                    have c31b0 : decide (0 < x3_1) = true := decide_eq_true c31
                    clear c31
                    obtain ⟨ji32, hji32⟩ : ∃ j_ : Int, (wrap64 (x3_1 - 1)) = j_ := ⟨_, rfl⟩
                    replace H : (if 0 ≤ (ji32) then (if (ji32) < (l0.length : Int) then ((spec_l10Less.f ((rd_T66 l0 (ji32)).f0) ((rd_T66 l0 (ji32)).f1) ((rd_T66 l0 (ji32)).f2) ((rd_T66 l0 (ji32)).f3) ((rd_T66 l0 (ji32)).f4) ((rd_T66 l0 x3_1).f0) ((rd_T66 l0 x3_1).f1) ((rd_T66 l0 x3_1).f2) ((rd_T66 l0 x3_1).f3) ((rd_T66 l0 x3_1).f4)).bind fun t129 => (if t129 = true then (spec_PlacesRight.l0 kj4 l0 (wrap64 (x3_1 + 1))) else (some false))) else (none)) else (none)) = some r := by first | (rw [hji32] at H; exact H) | (simp only [hji32] at H ⊢; exact H)
                    have hji32w : (IntKind.i64.wrap (x3_1 - 1)) = ji32 := (i64_w _).trans hji32
                    by_cases c33 : 0 ≤ (ji32)
                    · rw [if_pos c33] at H
                      have c33b0 : decide (0 ≤ (ji32)) = true := decide_eq_true c33
                      clear c33
                      by_cases c34 : (ji32) < (l0.length : Int)
                      · rw [if_pos c34] at H
                        have c34b0 : decide ((ji32) < (l0.length : Int)) = true := decide_eq_true c34
                        clear c34
                        obtain ⟨t129, A35, H⟩ := OB H
                        try dsimp only at H
                        replace A35 := AM A35
                        by_cases c36 : t129 = true
                        · subst c36
                          rw [if_pos rfl] at H
                          have H' := AM H
                          clear H
                          try go_wp2
                          replace BK126 := AM (blk_drew BK126.out)
                          replace HB := AM (below_drew1 HB.out)
                          have p128 : 0 ≤ ((ji32) : Int) := of_decide_eq_true (by first | (with_reducible assumption) | assumption)
                          have q128 : (ji32) < (l0.length : Int) := of_decide_eq_true (by first | (with_reducible assumption) | assumption)
                          obtain ⟨ad128, e128, hx128_0, hx128_1, hx128_2, hx128_3, hx128_4⟩ := at_T66 HR0.out (ji32) p128 q128
                          have hw128_4 := hx128_4
                          have hw128_3 := hx128_3
                          have hw128_2 := hx128_2
                          have hw128_1 := hx128_1
                          have hw128_0 := hx128_0
                          obtain rfl : ad125 = ad128 := (by injection e128)
                          replace hx128_0 := (HB.out.cell (World.block_lt_of_cell? w _ hx128_0)).trans hx128_0
                          replace hx128_1 := (HB.out.cell (World.block_lt_of_cell? w _ hx128_1)).trans hx128_1
                          replace hx128_2 := (HB.out.cell (World.block_lt_of_cell? w _ hx128_2)).trans hx128_2
                          replace hx128_3 := (HB.out.cell (World.block_lt_of_cell? w _ hx128_3)).trans hx128_3
                          replace hx128_4 := (HB.out.cell (World.block_lt_of_cell? w _ hx128_4)).trans hx128_4
                          replace p128 := eq_true p128
                          replace q128 := eq_true q128
                          refine start_ (n := 12) (S := fun w' => w'.cell? ⟨gb126, 0, none⟩ = some (.string ((rd_T66 l0 x3_1).f0)) ∧ w'.cell? ⟨gb126, 1, none⟩ = some (.string ((rd_T66 l0 x3_1).f1)) ∧ w'.cell? ⟨gb126, 2, none⟩ = some (.int .i64 ((rd_T66 l0 x3_1).f2)) ∧ w'.cell? ⟨gb126, 3, none⟩ = some (.int .i64 ((rd_T66 l0 x3_1).f3)) ∧ w'.cell? ⟨gb126, 4, none⟩ = some (.int .i64 ((rd_T66 l0 x3_1).f4)) ∧ w'.cell? (ad125.add (((ji32)).toNat * 5)) = some (.string ((rd_T66 l0 (ji32)).f0)) ∧ w'.cell? ⟨(ad125.add (((ji32)).toNat * 5)).block, (ad125.add (((ji32)).toNat * 5)).off + 1, none⟩ = some (.string ((rd_T66 l0 (ji32)).f1)) ∧ w'.cell? ⟨(ad125.add (((ji32)).toNat * 5)).block, (ad125.add (((ji32)).toNat * 5)).off + 2, none⟩ = some (.int .i64 ((rd_T66 l0 (ji32)).f2)) ∧ w'.cell? ⟨(ad125.add (((ji32)).toNat * 5)).block, (ad125.add (((ji32)).toNat * 5)).off + 3, none⟩ = some (.int .i64 ((rd_T66 l0 (ji32)).f3)) ∧ w'.cell? ⟨(ad125.add (((ji32)).toNat * 5)).block, (ad125.add (((ji32)).toNat * 5)).off + 4, none⟩ = some (.int .i64 ((rd_T66 l0 (ji32)).f4))) (ds := []) #[false, false, false, false, false, false, false, false, false, false, false, false] (by kernel_rfl) rfl rfl ⟨(blk_cell BK126.out 0).trans rfl, (blk_cell BK126.out 1).trans rfl, (blk_cell BK126.out 2).trans rfl, (blk_cell BK126.out 3).trans rfl, (blk_cell BK126.out 4).trans rfl, ((HB.out.cell (World.block_lt_of_cell? w _ hw128_0)).trans hw128_0), ((HB.out.cell (World.block_lt_of_cell? w _ hw128_1)).trans hw128_1), ((HB.out.cell (World.block_lt_of_cell? w _ hw128_2)).trans hw128_2), ((HB.out.cell (World.block_lt_of_cell? w _ hw128_3)).trans hw128_3), ((HB.out.cell (World.block_lt_of_cell? w _ hw128_4)).trans hw128_4)⟩ (fun hHeld => ?_); refine with_tabW spec_PlacesRight.tab9 spec_PlacesRight.bits9 (fun HT_ HW_ => ?_)
                          generalize wc.drew = w37 at BK126 HB hx128_0 hx128_1 hx128_2 hx128_3 hx128_4 hHeld ⊢
                          refine pu_ HT_ 0 (some 58) #[true, false, false, false, false, false, false, false, false, false, false, false] ?_
                          refine pu_ HT_ 1 (some 59) #[true, true, false, false, false, false, false, false, false, false, false, false] ?_
                          refine pu_ HT_ 2 (some 60) #[true, true, true, false, false, false, false, false, false, false, false, false] ?_
                          refine pu_ HT_ 3 (some 61) #[true, true, true, true, false, false, false, false, false, false, false, false] ?_
                          refine pu_ HT_ 4 (some 62) #[true, true, true, true, true, false, false, false, false, false, false, false] ?_
                          refine pu_ HT_ 5 (some 63) #[true, true, true, true, true, true, false, false, false, false, false, false] ?_
                          refine pu_ HT_ 6 (some 64) #[true, true, true, true, true, true, true, false, false, false, false, false] ?_
                          refine ta_ HT_ HW_ 7 (some 65) #[true, true, true, true, true, true, true, true, false, false, false, false] hHeld ?_
                          refine ta_ HT_ HW_ 8 (some 66) #[true, true, true, true, true, true, true, true, true, false, false, false] hHeld ?_
                          refine on_ HT_ 9 (some 67) #[true, true, true, true, true, true, true, true, true, true, false, false] (fun K hK => ?_)
                          refine goes_ Try.func87 (by kernel_rfl) rfl #[.agg #[.string ((rd_T66 l0 (ji32)).f0), .string ((rd_T66 l0 (ji32)).f1), .int .i64 ((rd_T66 l0 (ji32)).f2), .int .i64 ((rd_T66 l0 (ji32)).f3), .int .i64 ((rd_T66 l0 (ji32)).f4)], .agg #[.string ((rd_T66 l0 x3_1).f0), .string ((rd_T66 l0 x3_1).f1), .int .i64 ((rd_T66 l0 x3_1).f2), .int .i64 ((rd_T66 l0 x3_1).f3), .int .i64 ((rd_T66 l0 x3_1).f4)]] (by rfl) rfl rfl (by (try simp only [List.map_toArray, List.map_cons, List.map_nil]); first | done | (simp only [hji32]; rfl) | rfl | (simp only [List.length_drop, List.length_take]; rfl)) ?_
                          with_reducible refine (spec_l10Less.calls ((rd_T66 l0 (ji32)).f0) ((rd_T66 l0 (ji32)).f1) ((rd_T66 l0 (ji32)).f2) ((rd_T66 l0 (ji32)).f3) ((rd_T66 l0 (ji32)).f4) ((rd_T66 l0 x3_1).f0) ((rd_T66 l0 x3_1).f1) ((rd_T66 l0 x3_1).f2) ((rd_T66 l0 x3_1).f3) ((rd_T66 l0 x3_1).f4) true _ A35.out).mono ?_
                          rintro e w38 ⟨rfl, hb⟩
                          refine ⟨_, rfl, ?_⟩
                          replace BK126 := AM (blk_below (g := gb126) (o := .cells #[.string ((rd_T66 l0 x3_1).f0), .string ((rd_T66 l0 x3_1).f1), .int .i64 ((rd_T66 l0 x3_1).f2), .int .i64 ((rd_T66 l0 x3_1).f3), .int .i64 ((rd_T66 l0 x3_1).f4)] 66 (0, 0)) (bk_ BK126.out) hb)
                          replace HB := AM (below_step bel_ hb)
                          (try clear hb)
                          (try clear hb2)
                          (try clear hk)
                          (try clear hi)
                          refine hK.out _ _ ⟨(blk_cell BK126.out 0).trans rfl, (blk_cell BK126.out 1).trans rfl, (blk_cell BK126.out 2).trans rfl, (blk_cell BK126.out 3).trans rfl, (blk_cell BK126.out 4).trans rfl, ((HB.out.cell (World.block_lt_of_cell? w _ hw128_0)).trans hw128_0), ((HB.out.cell (World.block_lt_of_cell? w _ hw128_1)).trans hw128_1), ((HB.out.cell (World.block_lt_of_cell? w _ hw128_2)).trans hw128_2), ((HB.out.cell (World.block_lt_of_cell? w _ hw128_3)).trans hw128_3), ((HB.out.cell (World.block_lt_of_cell? w _ hw128_4)).trans hw128_4)⟩ (fun hHeld => ?_)
                          clear hK K
                          refine nm_ ?_
                          refine pu_ HT_ 10 (some 68) #[true, true, true, true, true, true, true, true, true, true, true, false] ?_
                          refine pu_ HT_ 11 (some 69) #[true, true, true, true, true, true, true, true, true, true, true, true] ?_
                          refine dn_ HT_ ?_
                          try go_wp2
                          go_roundg kj4
                          case measure => have := HK1.out; have := HJ4.out; omega
                          case rel => exact ⟨(wrap64 (x3_1 + 1)), (by first | rfl | (simp; done) | (simp [*]; done)), H', ⟨by have := HK1.out; have := HJ4.out; omega⟩, ⟨bel_⟩⟩
                        · replace c36 := Bool.eq_false_iff.mpr c36
                          subst c36
                          rw [if_neg (show ¬ (false = true) by decide)] at H
                          obtain rfl := Option.some.inj H
                          try go_wp2
                          replace BK126 := AM (blk_drew BK126.out)
                          replace HB := AM (below_drew1 HB.out)
                          have p128 : 0 ≤ ((ji32) : Int) := of_decide_eq_true (by first | (with_reducible assumption) | assumption)
                          have q128 : (ji32) < (l0.length : Int) := of_decide_eq_true (by first | (with_reducible assumption) | assumption)
                          obtain ⟨ad128, e128, hx128_0, hx128_1, hx128_2, hx128_3, hx128_4⟩ := at_T66 HR0.out (ji32) p128 q128
                          have hw128_4 := hx128_4
                          have hw128_3 := hx128_3
                          have hw128_2 := hx128_2
                          have hw128_1 := hx128_1
                          have hw128_0 := hx128_0
                          obtain rfl : ad125 = ad128 := (by injection e128)
                          replace hx128_0 := (HB.out.cell (World.block_lt_of_cell? w _ hx128_0)).trans hx128_0
                          replace hx128_1 := (HB.out.cell (World.block_lt_of_cell? w _ hx128_1)).trans hx128_1
                          replace hx128_2 := (HB.out.cell (World.block_lt_of_cell? w _ hx128_2)).trans hx128_2
                          replace hx128_3 := (HB.out.cell (World.block_lt_of_cell? w _ hx128_3)).trans hx128_3
                          replace hx128_4 := (HB.out.cell (World.block_lt_of_cell? w _ hx128_4)).trans hx128_4
                          replace p128 := eq_true p128
                          replace q128 := eq_true q128
                          refine start_ (n := 12) (S := fun w' => w'.cell? ⟨gb126, 0, none⟩ = some (.string ((rd_T66 l0 x3_1).f0)) ∧ w'.cell? ⟨gb126, 1, none⟩ = some (.string ((rd_T66 l0 x3_1).f1)) ∧ w'.cell? ⟨gb126, 2, none⟩ = some (.int .i64 ((rd_T66 l0 x3_1).f2)) ∧ w'.cell? ⟨gb126, 3, none⟩ = some (.int .i64 ((rd_T66 l0 x3_1).f3)) ∧ w'.cell? ⟨gb126, 4, none⟩ = some (.int .i64 ((rd_T66 l0 x3_1).f4)) ∧ w'.cell? (ad125.add (((ji32)).toNat * 5)) = some (.string ((rd_T66 l0 (ji32)).f0)) ∧ w'.cell? ⟨(ad125.add (((ji32)).toNat * 5)).block, (ad125.add (((ji32)).toNat * 5)).off + 1, none⟩ = some (.string ((rd_T66 l0 (ji32)).f1)) ∧ w'.cell? ⟨(ad125.add (((ji32)).toNat * 5)).block, (ad125.add (((ji32)).toNat * 5)).off + 2, none⟩ = some (.int .i64 ((rd_T66 l0 (ji32)).f2)) ∧ w'.cell? ⟨(ad125.add (((ji32)).toNat * 5)).block, (ad125.add (((ji32)).toNat * 5)).off + 3, none⟩ = some (.int .i64 ((rd_T66 l0 (ji32)).f3)) ∧ w'.cell? ⟨(ad125.add (((ji32)).toNat * 5)).block, (ad125.add (((ji32)).toNat * 5)).off + 4, none⟩ = some (.int .i64 ((rd_T66 l0 (ji32)).f4))) (ds := []) #[false, false, false, false, false, false, false, false, false, false, false, false] (by kernel_rfl) rfl rfl ⟨(blk_cell BK126.out 0).trans rfl, (blk_cell BK126.out 1).trans rfl, (blk_cell BK126.out 2).trans rfl, (blk_cell BK126.out 3).trans rfl, (blk_cell BK126.out 4).trans rfl, ((HB.out.cell (World.block_lt_of_cell? w _ hw128_0)).trans hw128_0), ((HB.out.cell (World.block_lt_of_cell? w _ hw128_1)).trans hw128_1), ((HB.out.cell (World.block_lt_of_cell? w _ hw128_2)).trans hw128_2), ((HB.out.cell (World.block_lt_of_cell? w _ hw128_3)).trans hw128_3), ((HB.out.cell (World.block_lt_of_cell? w _ hw128_4)).trans hw128_4)⟩ (fun hHeld => ?_); refine with_tabW spec_PlacesRight.tab9 spec_PlacesRight.bits9 (fun HT_ HW_ => ?_)
                          generalize wc.drew = w39 at BK126 HB hx128_0 hx128_1 hx128_2 hx128_3 hx128_4 hHeld ⊢
                          refine pu_ HT_ 0 (some 58) #[true, false, false, false, false, false, false, false, false, false, false, false] ?_
                          refine pu_ HT_ 1 (some 59) #[true, true, false, false, false, false, false, false, false, false, false, false] ?_
                          refine pu_ HT_ 2 (some 60) #[true, true, true, false, false, false, false, false, false, false, false, false] ?_
                          refine pu_ HT_ 3 (some 61) #[true, true, true, true, false, false, false, false, false, false, false, false] ?_
                          refine pu_ HT_ 4 (some 62) #[true, true, true, true, true, false, false, false, false, false, false, false] ?_
                          refine pu_ HT_ 5 (some 63) #[true, true, true, true, true, true, false, false, false, false, false, false] ?_
                          refine pu_ HT_ 6 (some 64) #[true, true, true, true, true, true, true, false, false, false, false, false] ?_
                          refine ta_ HT_ HW_ 7 (some 65) #[true, true, true, true, true, true, true, true, false, false, false, false] hHeld ?_
                          refine ta_ HT_ HW_ 8 (some 66) #[true, true, true, true, true, true, true, true, true, false, false, false] hHeld ?_
                          refine on_ HT_ 9 (some 67) #[true, true, true, true, true, true, true, true, true, true, false, false] (fun K hK => ?_)
                          refine goes_ Try.func87 (by kernel_rfl) rfl #[.agg #[.string ((rd_T66 l0 (ji32)).f0), .string ((rd_T66 l0 (ji32)).f1), .int .i64 ((rd_T66 l0 (ji32)).f2), .int .i64 ((rd_T66 l0 (ji32)).f3), .int .i64 ((rd_T66 l0 (ji32)).f4)], .agg #[.string ((rd_T66 l0 x3_1).f0), .string ((rd_T66 l0 x3_1).f1), .int .i64 ((rd_T66 l0 x3_1).f2), .int .i64 ((rd_T66 l0 x3_1).f3), .int .i64 ((rd_T66 l0 x3_1).f4)]] (by rfl) rfl rfl (by (try simp only [List.map_toArray, List.map_cons, List.map_nil]); first | done | (simp only [hji32]; rfl) | rfl | (simp only [List.length_drop, List.length_take]; rfl)) ?_
                          with_reducible refine (spec_l10Less.calls ((rd_T66 l0 (ji32)).f0) ((rd_T66 l0 (ji32)).f1) ((rd_T66 l0 (ji32)).f2) ((rd_T66 l0 (ji32)).f3) ((rd_T66 l0 (ji32)).f4) ((rd_T66 l0 x3_1).f0) ((rd_T66 l0 x3_1).f1) ((rd_T66 l0 x3_1).f2) ((rd_T66 l0 x3_1).f3) ((rd_T66 l0 x3_1).f4) false _ A35.out).mono ?_
                          rintro e w40 ⟨rfl, hb⟩
                          refine ⟨_, rfl, ?_⟩
                          replace BK126 := AM (blk_below (g := gb126) (o := .cells #[.string ((rd_T66 l0 x3_1).f0), .string ((rd_T66 l0 x3_1).f1), .int .i64 ((rd_T66 l0 x3_1).f2), .int .i64 ((rd_T66 l0 x3_1).f3), .int .i64 ((rd_T66 l0 x3_1).f4)] 66 (0, 0)) (bk_ BK126.out) hb)
                          replace HB := AM (below_step bel_ hb)
                          (try clear hb)
                          (try clear hb2)
                          (try clear hk)
                          (try clear hi)
                          refine hK.out _ _ ⟨(blk_cell BK126.out 0).trans rfl, (blk_cell BK126.out 1).trans rfl, (blk_cell BK126.out 2).trans rfl, (blk_cell BK126.out 3).trans rfl, (blk_cell BK126.out 4).trans rfl, ((HB.out.cell (World.block_lt_of_cell? w _ hw128_0)).trans hw128_0), ((HB.out.cell (World.block_lt_of_cell? w _ hw128_1)).trans hw128_1), ((HB.out.cell (World.block_lt_of_cell? w _ hw128_2)).trans hw128_2), ((HB.out.cell (World.block_lt_of_cell? w _ hw128_3)).trans hw128_3), ((HB.out.cell (World.block_lt_of_cell? w _ hw128_4)).trans hw128_4)⟩ (fun hHeld => ?_)
                          clear hK K
                          refine nm_ ?_
                          refine pu_ HT_ 10 (some 68) #[true, true, true, true, true, true, true, true, true, true, true, false] ?_
                          refine pu_ HT_ 11 (some 69) #[true, true, true, true, true, true, true, true, true, true, true, true] ?_
                          refine dn_ HT_ ?_
                          try go_wp2
                          go_ret
                          exact ⟨by first | rfl | (simp [errW_none, errW_some] <;> rfl) | (simp only [← hji32]; first | rfl | (simp [errW_none, errW_some] <;> rfl)) | (simp [*, errW_none, errW_some] <;> rfl), bel_⟩
                      · rw [if_neg c34] at H
                        exact absurd H (by simp)
                    · rw [if_neg c33] at H
                      exact absurd H (by simp)
                  · rw [if_neg c31] at H
                    have c31b0 : decide (0 < x3_1) = false := decide_eq_false c31
                    clear c31
                    have H' := AM H
                    clear H
                    try go_wp2
                    replace BK126 := AM (blk_drew BK126.out)
                    replace HB := AM (below_drew1 HB.out)
                    refine start_ (n := 12) (S := fun w' => True) (ds := []) #[false, false, false, false, false, false, false, false, false, false, false, false] (by kernel_rfl) rfl rfl trivial (fun hHeld => ?_); refine with_tabW spec_PlacesRight.tab9 spec_PlacesRight.bits9 (fun HT_ HW_ => ?_)
                    generalize wc.drew = w41 at BK126 HB hHeld ⊢
                    refine pu_ HT_ 0 (some 58) #[true, false, false, false, false, false, false, false, false, false, false, false] ?_
                    refine pu_ HT_ 1 (some 59) #[true, true, false, false, false, false, false, false, false, false, false, false] ?_
                    refine pu_ HT_ 2 (some 60) #[true, true, true, false, false, false, false, false, false, false, false, false] ?_
                    refine pu_ HT_ 3 (some 61) #[true, true, true, true, false, false, false, false, false, false, false, false] ?_
                    refine pu_ HT_ 4 (some 62) #[true, true, true, true, true, false, false, false, false, false, false, false] ?_
                    refine pu_ HT_ 5 (some 63) #[true, true, true, true, true, true, false, false, false, false, false, false] ?_
                    refine pu_ HT_ 6 (some 64) #[true, true, true, true, true, true, true, false, false, false, false, false] ?_
                    refine pu_ HT_ 7 (some 65) #[true, true, true, true, true, true, true, true, false, false, false, false] ?_
                    refine pu_ HT_ 8 (some 66) #[true, true, true, true, true, true, true, true, true, false, false, false] ?_
                    refine pu_ HT_ 9 (some 67) #[true, true, true, true, true, true, true, true, true, true, false, false] ?_
                    refine pu_ HT_ 10 (some 68) #[true, true, true, true, true, true, true, true, true, true, true, false] ?_
                    refine pu_ HT_ 11 (some 69) #[true, true, true, true, true, true, true, true, true, true, true, true] ?_
                    refine dn_ HT_ ?_
                    try go_wp2
                    go_roundg kj4
                    case measure => have := HK1.out; have := HJ4.out; omega
                    case rel => exact ⟨(wrap64 (x3_1 + 1)), (by first | rfl | (simp; done) | (simp [*]; done)), H', ⟨by have := HK1.out; have := HJ4.out; omega⟩, ⟨bel_⟩⟩
          · rw [if_neg c4] at H
            exact absurd H (by simp)
        · rw [if_neg c3] at H
          have c3b0 : decide (x3_1 < (l0.length : Int)) = false := decide_eq_false c3
          clear c3
          obtain rfl := Option.some.inj H
          go_wp2
          go_ret
          exact ⟨ri_, bel_⟩

end Go.Proofs.Ytggbpjfgfenpdaa.PFnExactPlacesDrop
