/- Functions of the law FnExactPackRead: the print's, with walks of this session's own. No statement is proved here. -/
import Derived.Test.YtfffdndeccipnaaDoorHEFnExactPackRead
import Derived.WalkLawsBesides
import Derived.Test.YtfffdndeccipnaaDoorVRegFnExactPackRead
-- A program of this session wrote this text: a changed copy of the kit print, with given functions.
import Derived.Test.YtfffdndeccipnaaDoorPFnExactPackReadx0
namespace Go.Proofs.YtfffdndeccipnaaDoor.PFnExactPackRead
open Go.RowKit Go.Proofs.YtfffdndeccipnaaDoorW.PrintWords Go.Proofs.YtfffdndeccipnaaDoorW.PrintLast Go.Proofs.YtfffdndeccipnaaDoorW.PrintMore Go.Proofs.YtfffdndeccipnaaDoor.Reg Go.Proofs.YtfffdndeccipnaaDoor.Aut
attribute [local go_sem] max2_int min2_int max_two min_two max_three min_three max_four min_four   -- for this text's walks alone
set_option linter.unusedVariables false
set_option linter.unusedSimpArgs false

/-! ### spec_GetNum: function 82 -/
mutual
def spec_GetNum.l0 : Nat → ByteArray → Int → Int → Int → Option (Int × Int × Int)
  | 0, _, _, _, _ => none
  | k + 1, x0, x1, x5, x6 => if x6 < 10 then (if x1 ≥ (wrap64 ((x0.size : Int) - x6)) then (some (0, 0, 4)) else (if 0 ≤ (wrap64 (x1 + x6)) then (if (wrap64 (x1 + x6)) < (x0.size : Int) then (if x6 = 9 then (spec_GetNum.j1 k x0 x1 x5 x6 (IntKind.u64.wrap (bt x0 (wrap64 (x1 + x6)))) (decide ((IntKind.u64.wrap (bt x0 (wrap64 (x1 + x6)))) > 1))) else (spec_GetNum.j1 k x0 x1 x5 x6 (IntKind.u64.wrap (bt x0 (wrap64 (x1 + x6)))) false)) else (none)) else (none))) else (some (0, 0, 3))
def spec_GetNum.j1 : Nat → ByteArray → Int → Int → Int → Int → Bool → Option (Int × Int × Int)
  | 0, _, _, _, _, _, _ => none
  | k + 1, x0, x1, x5, x6, x7, x38 => if x38 = true then (some (0, 0, 3)) else (if 0 ≤ (IntKind.u64.wrap (wrap64 (7 * x6))) then (if x7 < 128 then (if x7 = 0 then (spec_GetNum.j2 k x1 (IntKind.u64.wrap (x5 + (shl .u64 (Int.tmod x7 128) (IntKind.u64.wrap (wrap64 (7 * x6)))))) x6 (decide (x6 > 0))) else (spec_GetNum.j2 k x1 (IntKind.u64.wrap (x5 + (shl .u64 (Int.tmod x7 128) (IntKind.u64.wrap (wrap64 (7 * x6)))))) x6 false)) else (spec_GetNum.l0 k x0 x1 (IntKind.u64.wrap (x5 + (shl .u64 (Int.tmod x7 128) (IntKind.u64.wrap (wrap64 (7 * x6)))))) (wrap64 (x6 + 1)))) else (none))
def spec_GetNum.j2 : Nat → Int → Int → Int → Bool → Option (Int × Int × Int)
  | 0, _, _, _, _ => none
  | k + 1, x1, x5, x6, x55 => if x55 = true then (some (0, 0, 3)) else (if (Int.tmod x5 2) = 1 then (some (wrap64 ((wrap64 (-(wrap64 (IntKind.u64.wrap (Int.tdiv x5 2))))) - 1), wrap64 ((wrap64 (x1 + x6)) + 1), 0)) else (some (wrap64 (IntKind.u64.wrap (Int.tdiv x5 2)), wrap64 ((wrap64 (x1 + x6)) + 1), 0)))
end
def spec_GetNum.f (k : Nat) (a0 : ByteArray) (a1 : Int) : Option (Int × Int × Int) := if (a0.size : Int) > 20000 then (some (0, 0, 2)) else (if a1 < 0 then (some (0, 0, 1)) else (spec_GetNum.l0 k a0 a1 0 0))
theorem spec_GetNum.mono_l : ∀ k, (∀ y0 y1 y2 y3, LeO (spec_GetNum.l0 k y0 y1 y2 y3) (spec_GetNum.l0 (k + 1) y0 y1 y2 y3)) ∧ (∀ y0 y1 y2 y3 y4 y5, LeO (spec_GetNum.j1 k y0 y1 y2 y3 y4 y5) (spec_GetNum.j1 (k + 1) y0 y1 y2 y3 y4 y5)) ∧ (∀ y0 y1 y2 y3, LeO (spec_GetNum.j2 k y0 y1 y2 y3) (spec_GetNum.j2 (k + 1) y0 y1 y2 y3))
  | 0 => ⟨fun _ _ _ _ r h => by simp [spec_GetNum.l0] at h, fun _ _ _ _ _ _ r h => by simp [spec_GetNum.j1] at h, fun _ _ _ _ r h => by simp [spec_GetNum.j2] at h⟩
  | k + 1 => by
    obtain ⟨ih0, ih1, ih2⟩ := spec_GetNum.mono_l k
    refine ⟨?_, ?_, ?_⟩
    · intro y0 y1 y2 y3
      unfold spec_GetNum.l0
      repeat' first
      | (with_reducible exact ih0 _ _ _ _)
      | (with_reducible exact ih1 _ _ _ _ _ _)
      | (with_reducible exact ih2 _ _ _ _)
      | (with_reducible exact LeO.refl _)
      | (with_reducible exact LeO.none _)
      | (with_reducible refine LeO.ite ?_ ?_)
      | (with_reducible refine LeO.bind ?_ (fun _ => ?_))
      | exact ih0 _ _ _ _
      | exact ih1 _ _ _ _ _ _
      | exact ih2 _ _ _ _
      | exact LeO.none _
      | refine LeO.ite ?_ ?_
      | refine LeO.bind ?_ (fun _ => ?_)
    · intro y0 y1 y2 y3 y4 y5
      unfold spec_GetNum.j1
      repeat' first
      | (with_reducible exact ih0 _ _ _ _)
      | (with_reducible exact ih1 _ _ _ _ _ _)
      | (with_reducible exact ih2 _ _ _ _)
      | (with_reducible exact LeO.refl _)
      | (with_reducible exact LeO.none _)
      | (with_reducible refine LeO.ite ?_ ?_)
      | (with_reducible refine LeO.bind ?_ (fun _ => ?_))
      | exact ih0 _ _ _ _
      | exact ih1 _ _ _ _ _ _
      | exact ih2 _ _ _ _
      | exact LeO.none _
      | refine LeO.ite ?_ ?_
      | refine LeO.bind ?_ (fun _ => ?_)
    · intro y0 y1 y2 y3
      unfold spec_GetNum.j2
      repeat' first
      | (with_reducible exact ih0 _ _ _ _)
      | (with_reducible exact ih1 _ _ _ _ _ _)
      | (with_reducible exact ih2 _ _ _ _)
      | (with_reducible exact LeO.refl _)
      | (with_reducible exact LeO.none _)
      | (with_reducible refine LeO.ite ?_ ?_)
      | (with_reducible refine LeO.bind ?_ (fun _ => ?_))
      | exact ih0 _ _ _ _
      | exact ih1 _ _ _ _ _ _
      | exact ih2 _ _ _ _
      | exact LeO.none _
      | refine LeO.ite ?_ ?_
      | refine LeO.bind ?_ (fun _ => ?_)
theorem spec_GetNum.mono : ∀ a0 a1 k, LeO (spec_GetNum.f k a0 a1) (spec_GetNum.f (k + 1) a0 a1) := by
  intro a0 a1 k
  obtain ⟨ih0, ih1, ih2⟩ := spec_GetNum.mono_l k
  unfold spec_GetNum.f
  repeat' first
      | (with_reducible exact ih0 _ _ _ _)
      | (with_reducible exact ih1 _ _ _ _ _ _)
      | (with_reducible exact ih2 _ _ _ _)
      | (with_reducible exact LeO.refl _)
      | (with_reducible exact LeO.none _)
      | (with_reducible refine LeO.ite ?_ ?_)
      | (with_reducible refine LeO.bind ?_ (fun _ => ?_))
      | exact ih0 _ _ _ _
      | exact ih1 _ _ _ _ _ _
      | exact ih2 _ _ _ _
      | exact LeO.none _
      | refine LeO.ite ?_ ?_
      | refine LeO.bind ?_ (fun _ => ?_)
set_option maxHeartbeats 8000000 in
set_option maxRecDepth 100000 in
theorem spec_GetNum.calls (k : Nat) (a0 : ByteArray) (a1 : Int) (r1 : Int) (r2 : Int) (r3 : Int) (w : World) (h : spec_GetNum.f k a0 a1 = some (r1, r2, r3)) :
    Calls Tryd.prog 82 #[.string a0, .int .i64 a1] w fun e w' => e = .returned (.agg #[.int .i64 r1, .int .i64 r2, .int .i64 r3]) ∧ Below w.heap.size w w' := by
  have hu102 := Tryd.underlying102
  have HB := AM (Below.refl w.heap.size w)
  have H : (if (a0.size : Int) > 20000 then (some (0, 0, 2)) else (if a1 < 0 then (some (0, 0, 1)) else (spec_GetNum.l0 k a0 a1 0 0))) = some (r1, r2, r3) := h
  clear h
  by_cases c3 : (a0.size : Int) > 20000
  · rw [if_pos c3] at H
    have c3b0 : decide (20000 < (a0.size : Int)) = true := decide_eq_true c3
    have c3b1 : decide (20000 < a0.size) = true := decide_eq_true (by omega)
    clear c3
    simp only [Option.some.injEq, Prod.mk.injEq] at H
    obtain ⟨rfl, rfl, rfl⟩ := H
    go_enter Tryd.func82, Tryd.ntmps82
    go_wp2_with (first | ((with_reducible refine gate_dst (N := 4) rfl ?_); refine be_ 4 #[.int .i64 0, .int .i64 0, .int .i64 0] 102 ?_; intro gb101 hg w4 hbox hb; have BK101 := AM hbox; have GW101 := AM ((by rw [hg]; exact (below_size bel_) : w.heap.size ≤ gb101)); have GE101 := AM ((by rw [hg]; exact (below_size bel_) : w.heap.size ≤ gb101)); replace HB := AM (below_step bel_ hb); clear hb hbox hg; have hcz5_0 : w4.cell? ⟨gb101, 0, none⟩ = some (.int .i64 0) := (blk_cell BK101.out 0).trans rfl; have hcz5_1 : w4.cell? ⟨gb101, 1, none⟩ = some (.int .i64 0) := (blk_cell BK101.out 1).trans rfl; have hcz5_2 : w4.cell? ⟨gb101, 2, none⟩ = some (.int .i64 0) := (blk_cell BK101.out 2).trans rfl; have hfz5_0 := blk_frozen BK101.out 0; have hfz5_1 := blk_frozen BK101.out 1; have hfz5_2 := blk_frozen BK101.out 2))
    refine bodyPost_ret (results_cell_row rfl _ _ gb101 102 #[.int .i64 0, .int .i64 0, .int .i64 2] (0, 0) _ rfl bka_ Tryd.underlying102 rfl (by kernel_rfl)) rfl ?_
    exact ⟨ri_, bel_⟩
  · rw [if_neg c3] at H
    have c3b0 : decide (20000 < (a0.size : Int)) = false := decide_eq_false c3
    have c3b1 : decide (20000 < a0.size) = false := decide_eq_false (by omega)
    clear c3
    by_cases c6 : a1 < 0
    · rw [if_pos c6] at H
      have c6b0 : decide (a1 < 0) = true := decide_eq_true c6
      clear c6
      simp only [Option.some.injEq, Prod.mk.injEq] at H
      obtain ⟨rfl, rfl, rfl⟩ := H
      go_enter Tryd.func82, Tryd.ntmps82
      go_wp2_with (first | ((with_reducible refine gate_dst (N := 4) rfl ?_); refine be_ 4 #[.int .i64 0, .int .i64 0, .int .i64 0] 102 ?_; intro gb101 hg w7 hbox hb; have BK101 := AM hbox; have GW101 := AM ((by rw [hg]; exact (below_size bel_) : w.heap.size ≤ gb101)); have GE101 := AM ((by rw [hg]; exact (below_size bel_) : w.heap.size ≤ gb101)); replace HB := AM (below_step bel_ hb); clear hb hbox hg; have hcz8_0 : w7.cell? ⟨gb101, 0, none⟩ = some (.int .i64 0) := (blk_cell BK101.out 0).trans rfl; have hcz8_1 : w7.cell? ⟨gb101, 1, none⟩ = some (.int .i64 0) := (blk_cell BK101.out 1).trans rfl; have hcz8_2 : w7.cell? ⟨gb101, 2, none⟩ = some (.int .i64 0) := (blk_cell BK101.out 2).trans rfl; have hfz8_0 := blk_frozen BK101.out 0; have hfz8_1 := blk_frozen BK101.out 1; have hfz8_2 := blk_frozen BK101.out 2))
      refine bodyPost_ret (results_cell_row rfl _ _ gb101 102 #[.int .i64 0, .int .i64 0, .int .i64 1] (0, 0) _ rfl bka_ Tryd.underlying102 rfl (by kernel_rfl)) rfl ?_
      exact ⟨ri_, bel_⟩
    · rw [if_neg c6] at H
      have c6b0 : decide (a1 < 0) = false := decide_eq_false c6
      clear c6
      have H' := AM H
      clear H
      go_enter Tryd.func82, Tryd.ntmps82
      go_wp2_with (first | ((with_reducible refine gate_dst (N := 4) rfl ?_); refine be_ 4 #[.int .i64 0, .int .i64 0, .int .i64 0] 102 ?_; intro gb101 hg w9 hbox hb; have BK101 := AM hbox; have GW101 := AM ((by rw [hg]; exact (below_size bel_) : w.heap.size ≤ gb101)); have GE101 := AM ((by rw [hg]; exact (below_size bel_) : w.heap.size ≤ gb101)); replace HB := AM (below_step bel_ hb); clear hb hbox hg))
      go_loopg [5, 6] k (fun kq v5 v6 w' => ∃ (x5_1 : Int) (x6_1 : Int) (x102000_1 : Int) (x102001_1 : Int) (x102002_1 : Int), v5 = .int .u64 x5_1 ∧ v6 = .int .i64 x6_1 ∧ Aside0 (spec_GetNum.l0 kq a0 a1 x5_1 x6_1 = some (r1, r2, r3)) ∧ Aside0 (kq ≤ k) ∧ Aside0 (w'.heap[gb101]? = some (.cells #[.int .i64 x102000_1, .int .i64 x102001_1, .int .i64 x102002_1] 102 (0, 0))) ∧ Aside0 (Below w.heap.size w w'))
      case atStart => exact ⟨(0), (0), (0), (0), (0), (by first | rfl | (simp; done) | (simp [*]; done)), (by first | rfl | (simp; done) | (simp [*]; done)), H', ⟨Nat.le_refl _⟩, ⟨bk_ BK101.out⟩, ⟨bel_⟩⟩
      case round =>
        clear H'
        try clear p2
        try clear c3
        try clear c3b0
        try clear c3b1
        try clear c6
        try clear c6b0
        try clear c8
        try clear hcz5_0
        try clear hcz5_1
        try clear hcz5_2
        try clear hcz8_0
        try clear hcz8_1
        try clear hcz8_2
        try clear hfz5_0
        try clear hfz5_1
        try clear hfz5_2
        try clear hfz8_0
        try clear hfz8_1
        try clear hfz8_2
        obtain ⟨x5_1, x6_1, x102000_1, x102001_1, x102002_1, rfl, rfl, HA, HK1, BK101, HB⟩ := hrel
        cases gk with
        | zero => exact absurd HA.out (by simp [spec_GetNum.l0])
        | succ k1 =>
          have H := HA.out
          clear HA
          simp only [spec_GetNum.l0] at H
          by_cases c10 : x6_1 < 10
          · rw [if_pos c10] at H
            have c10b0 : decide (x6_1 < 10) = true := decide_eq_true c10
            clear c10
            by_cases c11 : a1 ≥ (wrap64 ((a0.size : Int) - x6_1))
            · rw [if_pos c11] at H
              have c11b0 : decide ((wrap64 ((a0.size : Int) - x6_1)) ≤ a1) = true := decide_eq_true c11
              try have c11b9 : (decide ((((a0.size : Int) - x6_1)) ≤ a1)) = true := (by have hw0 : wrap64 ((a0.size : Int) - x6_1) = (a0.size : Int) - x6_1 := (by unfold wrap64; omega); have z_ := c11b0; simp only [hw0] at z_; exact z_)
              clear c11
              simp only [Option.some.injEq, Prod.mk.injEq] at H
              obtain ⟨rfl, rfl, rfl⟩ := H
              have hcz12_0 : wr.cell? ⟨gb101, 0, none⟩ = some (.int .i64 x102000_1) := (blk_cell BK101.out 0).trans rfl
              have hcz12_1 : wr.cell? ⟨gb101, 1, none⟩ = some (.int .i64 x102001_1) := (blk_cell BK101.out 1).trans rfl
              have hcz12_2 : wr.cell? ⟨gb101, 2, none⟩ = some (.int .i64 x102002_1) := (blk_cell BK101.out 2).trans rfl
              have hfz12_0 := blk_frozen BK101.out 0
              have hfz12_1 := blk_frozen BK101.out 1
              have hfz12_2 := blk_frozen BK101.out 2
              go_wp2
              refine bodyPost_ret (results_cell_row rfl _ _ gb101 102 #[.int .i64 0, .int .i64 0, .int .i64 4] (0, 0) _ rfl bka_ Tryd.underlying102 rfl (by kernel_rfl)) rfl ?_
              exact ⟨ri_, bel_⟩
            · rw [if_neg c11] at H
              have c11b0 : decide ((wrap64 ((a0.size : Int) - x6_1)) ≤ a1) = false := decide_eq_false c11
              try have c11b9 : (decide ((((a0.size : Int) - x6_1)) ≤ a1)) = false := (by have hw0 : wrap64 ((a0.size : Int) - x6_1) = (a0.size : Int) - x6_1 := (by unfold wrap64; omega); have z_ := c11b0; simp only [hw0] at z_; exact z_)
              clear c11
              obtain ⟨ji13, hji13⟩ : ∃ j_ : Int, (wrap64 (a1 + x6_1)) = j_ := ⟨_, rfl⟩
              replace H : (if 0 ≤ (ji13) then (if (ji13) < (a0.size : Int) then (if x6_1 = 9 then (spec_GetNum.j1 k1 a0 a1 x5_1 x6_1 (IntKind.u64.wrap (bt a0 (ji13))) (decide ((IntKind.u64.wrap (bt a0 (ji13))) > 1))) else (spec_GetNum.j1 k1 a0 a1 x5_1 x6_1 (IntKind.u64.wrap (bt a0 (ji13))) false)) else (none)) else (none)) = some (r1, r2, r3) := by first | (rw [hji13] at H; exact H) | (simp only [hji13] at H ⊢; exact H)
              have hji13w : (IntKind.i64.wrap (a1 + x6_1)) = ji13 := (i64_w _).trans hji13
              by_cases c14 : 0 ≤ (ji13)
              · rw [if_pos c14] at H
                have c14b0 : decide (0 ≤ (ji13)) = true := decide_eq_true c14
                clear c14
                by_cases c15 : (ji13) < (a0.size : Int)
                · rw [if_pos c15] at H
                  have c15b0 : decide ((ji13) < (a0.size : Int)) = true := decide_eq_true c15
                  clear c15
                  have HC17 := AM H
                  clear H
                  have p16 : 0 ≤ ((ji13) : Int) := of_decide_eq_true (by first | (with_reducible assumption) | assumption)
                  have q16 : (ji13) < (a0.size : Int) := of_decide_eq_true (by first | (with_reducible assumption) | assumption)
                  have hx16 := bt_at a0 (ji13)
                  replace p16 := eq_true p16
                  replace q16 := eq_true q16
                  go_upto_region 12 with (fail)
                  go_cut [38] (fun v38 wc => ∃ (kq : Nat) (x38_16 : Bool), v38 = .bool x38_16 ∧ Aside0 (spec_GetNum.j1 kq a0 a1 x5_1 x6_1 (IntKind.u64.wrap (bt a0 (ji13))) x38_16 = some (r1, r2, r3)) ∧ Aside0 (kq ≤ k1) ∧ Aside0 (wc.heap[gb101]? = some (.cells #[.int .i64 x102000_1, .int .i64 x102001_1, .int .i64 x102002_1] 102 (0, 0))) ∧ Aside0 (Below w.heap.size w wc))
                  case first =>
                    have H := HC17.out
                    clear HC17
                    by_cases c18 : x6_1 = 9
                    · rw [if_pos c18] at H
                      have c18b0 : (x6_1 == 9) = true := beq_iff_eq.mpr c18
                      have c18b1 : (x6_1 != 9) = false := bne_eq_false_iff_eq.mpr c18
                      clear c18
                      (first | rw [c18b0] | (simp only [i64_w, i32_w]; rw [c18b0]) | skip)
                      have H' := AM H
                      clear H
                      go_wp2
                      go_meet
                      case rel => exact ⟨_, (decide ((IntKind.u64.wrap (bt a0 (ji13))) > 1)), (by first | rfl | (simp; done) | (simp only [← hji13] <;> (first | rfl | simp)) | (simp [*]; done)), H', ⟨by have := HK1.out; first | omega | exact Nat.le_refl _⟩, ⟨bk_ BK101.out⟩, ⟨bel_⟩⟩
                    · rw [if_neg c18] at H
                      have c18b0 : (x6_1 == 9) = false := beq_eq_false_iff_ne.mpr c18
                      have c18b1 : (x6_1 != 9) = true := bne_iff_ne.mpr c18
                      (first | rw [c18b0] | (simp only [i64_w, i32_w]; rw [c18b0]) | skip)
                      have H' := AM H
                      clear H
                      go_wp2
                      go_meet
                      case rel => exact ⟨_, (false), (by first | rfl | (simp; done) | (simp [*]; done)), H', ⟨by have := HK1.out; first | omega | exact Nat.le_refl _⟩, ⟨bk_ BK101.out⟩, ⟨bel_⟩⟩
                  case rest =>
                    clear HC17
                    try clear c1
                    try clear p1
                    try clear q1
                    try clear hx1
                    try clear p2
                    try clear c3
                    try clear c3b0
                    try clear c3b1
                    try clear c6
                    try clear c6b0
                    try clear p6
                    try clear c8
                    try clear c10
                    try clear c10b0
                    try clear c11
                    try clear c11b0
                    try clear c14
                    try clear c14b0
                    try clear c15
                    try clear c15b0
                    try clear p16
                    try clear q16
                    try clear hx16
                    try clear c18
                    try clear c18b0
                    try clear c18b1
                    try clear hcz12_0
                    try clear hcz12_1
                    try clear hcz12_2
                    try clear hcz5_0
                    try clear hcz5_1
                    try clear hcz5_2
                    try clear hcz8_0
                    try clear hcz8_1
                    try clear hcz8_2
                    try clear hfz12_0
                    try clear hfz12_1
                    try clear hfz12_2
                    try clear hfz5_0
                    try clear hfz5_1
                    try clear hfz5_2
                    try clear hfz8_0
                    try clear hfz8_1
                    try clear hfz8_2
                    try clear p16
                    try clear p2
                    try clear q16
                    obtain ⟨kq, x38_16, rfl, HA, HJ16, BK101, HB⟩ := hcut
                    cases kq with
                    | zero => exact absurd HA.out (by simp [spec_GetNum.j1])
                    | succ kj16 =>
                      have H := HA.out
                      clear HA
                      simp only [spec_GetNum.j1] at H
                      by_cases c19 : x38_16 = true
                      · subst c19
                        rw [if_pos rfl] at H
                        simp only [Option.some.injEq, Prod.mk.injEq] at H
                        obtain ⟨rfl, rfl, rfl⟩ := H
                        have hcz20_0 : wc.cell? ⟨gb101, 0, none⟩ = some (.int .i64 x102000_1) := (blk_cell BK101.out 0).trans rfl
                        have hcz20_1 : wc.cell? ⟨gb101, 1, none⟩ = some (.int .i64 x102001_1) := (blk_cell BK101.out 1).trans rfl
                        have hcz20_2 : wc.cell? ⟨gb101, 2, none⟩ = some (.int .i64 x102002_1) := (blk_cell BK101.out 2).trans rfl
                        have hfz20_0 := blk_frozen BK101.out 0
                        have hfz20_1 := blk_frozen BK101.out 1
                        have hfz20_2 := blk_frozen BK101.out 2
                        go_wp2
                        refine bodyPost_ret (results_cell_row rfl _ _ gb101 102 #[.int .i64 0, .int .i64 0, .int .i64 3] (0, 0) _ rfl bka_ Tryd.underlying102 rfl (by kernel_rfl)) rfl ?_
                        exact ⟨by first | rfl | (simp [errW_none, errW_some] <;> rfl) | (simp only [← hji13]; first | rfl | (simp [errW_none, errW_some] <;> rfl)) | (simp [*, errW_none, errW_some] <;> rfl), bel_⟩
                      · replace c19 := Bool.eq_false_iff.mpr c19
                        subst c19
                        rw [if_neg (show ¬ (false = true) by decide)] at H
                        obtain ⟨ji21, hji21⟩ : ∃ j_ : Int, (IntKind.u64.wrap (wrap64 (7 * x6_1))) = j_ := ⟨_, rfl⟩
                        replace H : (if 0 ≤ (ji21) then (if (IntKind.u64.wrap (bt a0 (ji13))) < 128 then (if (IntKind.u64.wrap (bt a0 (ji13))) = 0 then (spec_GetNum.j2 kj16 a1 (IntKind.u64.wrap (x5_1 + (shl .u64 (Int.tmod (IntKind.u64.wrap (bt a0 (ji13))) 128) (ji21)))) x6_1 (decide (x6_1 > 0))) else (spec_GetNum.j2 kj16 a1 (IntKind.u64.wrap (x5_1 + (shl .u64 (Int.tmod (IntKind.u64.wrap (bt a0 (ji13))) 128) (ji21)))) x6_1 false)) else (spec_GetNum.l0 kj16 a0 a1 (IntKind.u64.wrap (x5_1 + (shl .u64 (Int.tmod (IntKind.u64.wrap (bt a0 (ji13))) 128) (ji21)))) (wrap64 (x6_1 + 1)))) else (none)) = some (r1, r2, r3) := by first | (rw [hji21] at H; exact H) | (simp only [hji21] at H ⊢; exact H)
                        by_cases c22 : 0 ≤ (ji21)
                        · rw [if_pos c22] at H
                          have c22b0 := eq_true c22
                          have c22b1 : decide (0 ≤ (ji21)) = true := decide_eq_true c22
                          clear c22
                          obtain ⟨ji23, hji23⟩ : ∃ j_ : Int, (shl .u64 (Int.tmod (IntKind.u64.wrap (bt a0 (ji13))) 128) (ji21)) = j_ := ⟨_, rfl⟩
                          replace H : (if (IntKind.u64.wrap (bt a0 (ji13))) < 128 then (if (IntKind.u64.wrap (bt a0 (ji13))) = 0 then (spec_GetNum.j2 kj16 a1 (IntKind.u64.wrap (x5_1 + (ji23))) x6_1 (decide (x6_1 > 0))) else (spec_GetNum.j2 kj16 a1 (IntKind.u64.wrap (x5_1 + (ji23))) x6_1 false)) else (spec_GetNum.l0 kj16 a0 a1 (IntKind.u64.wrap (x5_1 + (ji23))) (wrap64 (x6_1 + 1)))) = some (r1, r2, r3) := by first | (rw [hji23] at H; exact H) | (simp only [hji23] at H ⊢; exact H)
                          have hji23_ : (IntKind.u64.wrap ((Int.tmod (IntKind.u64.wrap (bt a0 (ji13))) 128) * 2 ^ min (ji21).toNat 64)) = ji23 := hji23
                          have hji23z : (ji21) ≤ 64 → (IntKind.u64.wrap ((Int.tmod (IntKind.u64.wrap (bt a0 (ji13))) 128) * 2 ^ (ji21).toNat)) = ji23 := shl_small hji23
                          by_cases c24 : (IntKind.u64.wrap (bt a0 (ji13))) < 128
                          · rw [if_pos c24] at H
                            have c24b0 : decide ((IntKind.u64.wrap (bt a0 (ji13))) < 128) = true := decide_eq_true c24
                            clear c24
                            have HC25 := AM H
                            clear H
                            go_upto_region 16 with (fail)
                            go_cut [55] (fun v55 wc => ∃ (kq : Nat) (x55_24 : Bool), v55 = .bool x55_24 ∧ Aside0 (spec_GetNum.j2 kq a1 (IntKind.u64.wrap (x5_1 + (ji23))) x6_1 x55_24 = some (r1, r2, r3)) ∧ Aside0 (kq ≤ kj16) ∧ Aside0 (wc.heap[gb101]? = some (.cells #[.int .i64 x102000_1, .int .i64 x102001_1, .int .i64 x102002_1] 102 (0, 0))) ∧ Aside0 (Below w.heap.size w wc))
                            case first =>
                              have H := HC25.out
                              clear HC25
                              by_cases c26 : (IntKind.u64.wrap (bt a0 (ji13))) = 0
                              · rw [if_pos c26] at H
                                have c26b0 : ((IntKind.u64.wrap (bt a0 (ji13))) == 0) = true := beq_iff_eq.mpr c26
                                have c26b1 : ((IntKind.u64.wrap (bt a0 (ji13))) != 0) = false := bne_eq_false_iff_eq.mpr c26
                                clear c26
                                (first | rw [c26b0] | (simp only [i64_w, i32_w]; rw [c26b0]) | skip)
                                have H' := AM H
                                clear H
                                go_wp2
                                go_meet
                                case rel => exact ⟨_, (decide (x6_1 > 0)), (by first | rfl | (simp; done) | (simp [*]; done)), H', ⟨by have := HK1.out; have := HJ16.out; first | omega | exact Nat.le_refl _⟩, ⟨bk_ BK101.out⟩, ⟨bel_⟩⟩
                              · rw [if_neg c26] at H
                                have c26b0 : ((IntKind.u64.wrap (bt a0 (ji13))) == 0) = false := beq_eq_false_iff_ne.mpr c26
                                have c26b1 : ((IntKind.u64.wrap (bt a0 (ji13))) != 0) = true := bne_iff_ne.mpr c26
                                (first | rw [c26b0] | (simp only [i64_w, i32_w]; rw [c26b0]) | skip)
                                have H' := AM H
                                clear H
                                go_wp2
                                go_meet
                                case rel => exact ⟨_, (false), (by first | rfl | (simp; done) | (simp [*]; done)), H', ⟨by have := HK1.out; have := HJ16.out; first | omega | exact Nat.le_refl _⟩, ⟨bk_ BK101.out⟩, ⟨bel_⟩⟩
                            case rest =>
                              clear HC25
                              try clear c1
                              try clear p1
                              try clear q1
                              try clear hx1
                              try clear c2
                              try clear p2
                              try clear c3
                              try clear c3b0
                              try clear c3b1
                              try clear c6
                              try clear c6b0
                              try clear p6
                              try clear c8
                              try clear c10
                              try clear c10b0
                              try clear c11
                              try clear c11b0
                              try clear c14
                              try clear c14b0
                              try clear c15
                              try clear c15b0
                              try clear p16
                              try clear q16
                              try clear hx16
                              try clear c18
                              try clear c18b0
                              try clear c18b1
                              try clear c19
                              try clear c22
                              try clear c22b0
                              try clear c22b1
                              try clear c24
                              try clear c24b0
                              try clear c26
                              try clear c26b0
                              try clear c26b1
                              try clear hcz12_0
                              try clear hcz12_1
                              try clear hcz12_2
                              try clear hcz20_0
                              try clear hcz20_1
                              try clear hcz20_2
                              try clear hcz5_0
                              try clear hcz5_1
                              try clear hcz5_2
                              try clear hcz8_0
                              try clear hcz8_1
                              try clear hcz8_2
                              try clear hfz12_0
                              try clear hfz12_1
                              try clear hfz12_2
                              try clear hfz20_0
                              try clear hfz20_1
                              try clear hfz20_2
                              try clear hfz5_0
                              try clear hfz5_1
                              try clear hfz5_2
                              try clear hfz8_0
                              try clear hfz8_1
                              try clear hfz8_2
                              try clear p1
                              try clear p16
                              try clear p2
                              try clear p6
                              try clear q1
                              try clear q16
                              obtain ⟨kq, x55_24, rfl, HA, HJ24, BK101, HB⟩ := hcut
                              cases kq with
                              | zero => exact absurd HA.out (by simp [spec_GetNum.j2])
                              | succ kj24 =>
                                have H := HA.out
                                clear HA
                                simp only [spec_GetNum.j2] at H
                                by_cases c27 : x55_24 = true
                                · subst c27
                                  rw [if_pos rfl] at H
                                  simp only [Option.some.injEq, Prod.mk.injEq] at H
                                  obtain ⟨rfl, rfl, rfl⟩ := H
                                  have hcz28_0 : wc.cell? ⟨gb101, 0, none⟩ = some (.int .i64 x102000_1) := (blk_cell BK101.out 0).trans rfl
                                  have hcz28_1 : wc.cell? ⟨gb101, 1, none⟩ = some (.int .i64 x102001_1) := (blk_cell BK101.out 1).trans rfl
                                  have hcz28_2 : wc.cell? ⟨gb101, 2, none⟩ = some (.int .i64 x102002_1) := (blk_cell BK101.out 2).trans rfl
                                  have hfz28_0 := blk_frozen BK101.out 0
                                  have hfz28_1 := blk_frozen BK101.out 1
                                  have hfz28_2 := blk_frozen BK101.out 2
                                  go_wp2
                                  refine bodyPost_ret (results_cell_row rfl _ _ gb101 102 #[.int .i64 0, .int .i64 0, .int .i64 3] (0, 0) _ rfl bka_ Tryd.underlying102 rfl (by kernel_rfl)) rfl ?_
                                  exact ⟨by first | rfl | (simp [errW_none, errW_some] <;> rfl) | (simp only [← hji13, ← hji21, ← hji23]; first | rfl | (simp [errW_none, errW_some] <;> rfl)) | (simp [*, errW_none, errW_some] <;> rfl), bel_⟩
                                · replace c27 := Bool.eq_false_iff.mpr c27
                                  subst c27
                                  rw [if_neg (show ¬ (false = true) by decide)] at H
                                  by_cases c29 : (Int.tmod (IntKind.u64.wrap (x5_1 + (ji23))) 2) = 1
                                  · rw [if_pos c29] at H
                                    have c29b0 : ((Int.tmod (IntKind.u64.wrap (x5_1 + (ji23))) 2) == 1) = true := beq_iff_eq.mpr c29
                                    have c29b1 : ((Int.tmod (IntKind.u64.wrap (x5_1 + (ji23))) 2) != 1) = false := bne_eq_false_iff_eq.mpr c29
                                    clear c29
                                    simp only [Option.some.injEq, Prod.mk.injEq] at H
                                    obtain ⟨rfl, rfl, rfl⟩ := H
                                    have hcz30_0 : wc.cell? ⟨gb101, 0, none⟩ = some (.int .i64 x102000_1) := (blk_cell BK101.out 0).trans rfl
                                    have hcz30_1 : wc.cell? ⟨gb101, 1, none⟩ = some (.int .i64 x102001_1) := (blk_cell BK101.out 1).trans rfl
                                    have hcz30_2 : wc.cell? ⟨gb101, 2, none⟩ = some (.int .i64 x102002_1) := (blk_cell BK101.out 2).trans rfl
                                    have hfz30_0 := blk_frozen BK101.out 0
                                    have hfz30_1 := blk_frozen BK101.out 1
                                    have hfz30_2 := blk_frozen BK101.out 2
                                    go_wp2
                                    (try rw [← hji13])
                                    refine bodyPost_ret (results_cell_row rfl _ _ gb101 102 #[.int .i64 (wrap64 ((wrap64 (-(wrap64 (IntKind.u64.wrap (Int.tdiv (IntKind.u64.wrap (x5_1 + (ji23))) 2))))) - 1)), .int .i64 (wrap64 ((wrap64 (a1 + x6_1)) + 1)), .int .i64 0] (0, 0) _ rfl bka_ Tryd.underlying102 rfl (by kernel_rfl)) rfl ?_
                                    exact ⟨by first | rfl | (simp [errW_none, errW_some] <;> rfl) | (simp only [← hji13, ← hji21, ← hji23]; first | rfl | (simp [errW_none, errW_some] <;> rfl)) | (simp [*, errW_none, errW_some] <;> rfl), bel_⟩
                                  · rw [if_neg c29] at H
                                    have c29b0 : ((Int.tmod (IntKind.u64.wrap (x5_1 + (ji23))) 2) == 1) = false := beq_eq_false_iff_ne.mpr c29
                                    have c29b1 : ((Int.tmod (IntKind.u64.wrap (x5_1 + (ji23))) 2) != 1) = true := bne_iff_ne.mpr c29
                                    simp only [Option.some.injEq, Prod.mk.injEq] at H
                                    obtain ⟨rfl, rfl, rfl⟩ := H
                                    have hcz31_0 : wc.cell? ⟨gb101, 0, none⟩ = some (.int .i64 x102000_1) := (blk_cell BK101.out 0).trans rfl
                                    have hcz31_1 : wc.cell? ⟨gb101, 1, none⟩ = some (.int .i64 x102001_1) := (blk_cell BK101.out 1).trans rfl
                                    have hcz31_2 : wc.cell? ⟨gb101, 2, none⟩ = some (.int .i64 x102002_1) := (blk_cell BK101.out 2).trans rfl
                                    have hfz31_0 := blk_frozen BK101.out 0
                                    have hfz31_1 := blk_frozen BK101.out 1
                                    have hfz31_2 := blk_frozen BK101.out 2
                                    go_wp2
                                    (try rw [← hji13])
                                    refine bodyPost_ret (results_cell_row rfl _ _ gb101 102 #[.int .i64 (wrap64 (IntKind.u64.wrap (Int.tdiv (IntKind.u64.wrap (x5_1 + (ji23))) 2))), .int .i64 (wrap64 ((wrap64 (a1 + x6_1)) + 1)), .int .i64 0] (0, 0) _ rfl bka_ Tryd.underlying102 rfl (by kernel_rfl)) rfl ?_
                                    exact ⟨by first | rfl | (simp [errW_none, errW_some] <;> rfl) | (simp only [← hji13, ← hji21, ← hji23]; first | rfl | (simp [errW_none, errW_some] <;> rfl)) | (simp [*, errW_none, errW_some] <;> rfl), bel_⟩
                          · rw [if_neg c24] at H
                            have c24b0 : decide ((IntKind.u64.wrap (bt a0 (ji13))) < 128) = false := decide_eq_false c24
                            clear c24
                            have H' := AM H
                            clear H
                            go_wp2
                            go_roundg kj16
                            case measure => have := HK1.out; have := HJ16.out; omega
                            case rel => exact ⟨(IntKind.u64.wrap (x5_1 + (ji23))), (wrap64 (x6_1 + 1)), (x102000_1), (x102001_1), (x102002_1), (by first | rfl | (simp; done) | (simp only [← hji23] <;> (first | rfl | simp)) | (simp [*]; done)), (by first | rfl | (simp; done) | (simp [*]; done)), H', ⟨by have := HK1.out; have := HJ16.out; omega⟩, ⟨bk_ BK101.out⟩, ⟨bel_⟩⟩
                        · rw [if_neg c22] at H
                          exact absurd H (by simp)
                · rw [if_neg c15] at H
                  exact absurd H (by simp)
              · rw [if_neg c14] at H
                exact absurd H (by simp)
          · rw [if_neg c10] at H
            have c10b0 : decide (x6_1 < 10) = false := decide_eq_false c10
            clear c10
            simp only [Option.some.injEq, Prod.mk.injEq] at H
            obtain ⟨rfl, rfl, rfl⟩ := H
            have hcz32_0 : wr.cell? ⟨gb101, 0, none⟩ = some (.int .i64 x102000_1) := (blk_cell BK101.out 0).trans rfl
            have hcz32_1 : wr.cell? ⟨gb101, 1, none⟩ = some (.int .i64 x102001_1) := (blk_cell BK101.out 1).trans rfl
            have hcz32_2 : wr.cell? ⟨gb101, 2, none⟩ = some (.int .i64 x102002_1) := (blk_cell BK101.out 2).trans rfl
            have hfz32_0 := blk_frozen BK101.out 0
            have hfz32_1 := blk_frozen BK101.out 1
            have hfz32_2 := blk_frozen BK101.out 2
            go_wp2
            refine bodyPost_ret (results_cell_row rfl _ _ gb101 102 #[.int .i64 0, .int .i64 0, .int .i64 3] (0, 0) _ rfl bka_ Tryd.underlying102 rfl (by kernel_rfl)) rfl ?_
            exact ⟨ri_, bel_⟩

/-! ### spec_l05Turn: function 126 -/
def spec_l05Turn.f (a0 : Int) (a1 : Int) : Option (Int) := if 0 ≤ a1 then (if 0 ≤ (IntKind.u64.wrap (32 - a1)) then (some (Go.bits .or .u32 (shr .u32 a0 a1) (shl .u32 a0 (IntKind.u64.wrap (32 - a1))))) else (none)) else (none)
set_option maxHeartbeats 8000000 in
set_option maxRecDepth 100000 in
theorem spec_l05Turn.calls (a0 : Int) (a1 : Int) (r : Int) (w : World) (h : spec_l05Turn.f a0 a1 = some r) :
    Calls Tryd.prog 126 #[.int .u32 a0, .int .u64 a1] w fun e w' => e = .returned (.int .u32 r) ∧ Drawn0 w w' := by
  have H : (if 0 ≤ a1 then (if 0 ≤ (IntKind.u64.wrap (32 - a1)) then (some (Go.bits .or .u32 (shr .u32 a0 a1) (shl .u32 a0 (IntKind.u64.wrap (32 - a1))))) else (none)) else (none)) = some r := h
  clear h
  by_cases c3 : 0 ≤ a1
  · rw [if_pos c3] at H
    have c3b0 := eq_true c3
    have c3b1 : decide (0 ≤ a1) = true := decide_eq_true c3
    clear c3
    obtain ⟨ji4, hji4⟩ : ∃ j_ : Int, (shr .u32 a0 a1) = j_ := ⟨_, rfl⟩
    replace H : (if 0 ≤ (IntKind.u64.wrap (32 - a1)) then (some (Go.bits .or .u32 (ji4) (shl .u32 a0 (IntKind.u64.wrap (32 - a1))))) else (none)) = some r := by first | (rw [hji4] at H; exact H) | (simp only [hji4] at H ⊢; exact H)
    have hji4_ : (a0 / 2 ^ min a1.toNat 32) = ji4 := hji4
    have hji4z : a1 ≤ 32 → (a0 / 2 ^ a1.toNat) = ji4 := shr_small hji4
    obtain ⟨ji5, hji5⟩ : ∃ j_ : Int, (IntKind.u64.wrap (32 - a1)) = j_ := ⟨_, rfl⟩
    replace H : (if 0 ≤ (ji5) then (some (Go.bits .or .u32 (ji4) (shl .u32 a0 (ji5)))) else (none)) = some r := by first | (rw [hji5] at H; exact H) | (simp only [hji5] at H ⊢; exact H)
    by_cases c6 : 0 ≤ (ji5)
    · rw [if_pos c6] at H
      have c6b0 := eq_true c6
      have c6b1 : decide (0 ≤ (ji5)) = true := decide_eq_true c6
      clear c6
      obtain ⟨ji7, hji7⟩ : ∃ j_ : Int, (shl .u32 a0 (ji5)) = j_ := ⟨_, rfl⟩
      replace H : (some (Go.bits .or .u32 (ji4) (ji7))) = some r := by first | (rw [hji7] at H; exact H) | (simp only [hji7] at H ⊢; exact H)
      have hji7_ : (IntKind.u32.wrap (a0 * 2 ^ min (ji5).toNat 32)) = ji7 := hji7
      have hji7z : (ji5) ≤ 32 → (IntKind.u32.wrap (a0 * 2 ^ (ji5).toNat)) = ji7 := shl_small hji7
      obtain rfl := Option.some.inj H
      go_enter Tryd.func126, Tryd.ntmps126
      go_wp2
      go_ret
      exact ⟨by first | rfl | (simp; done) | (simp only [← hji4, ← hji5, ← hji7] <;> (first | rfl | simp)) | (simp [*]; done), by repeat (first | exact Drawn0.refl _ | apply Drawn0.step)⟩
    · rw [if_neg c6] at H
      exact absurd H (by simp)
  · rw [if_neg c3] at H
    exact absurd H (by simp)

/-! ### spec_l05Keys: function 127 -/
def spec_l05Keys.f  : Option (List Int) := some (([1116352408, 1899447441, 3049323471, 3921009573, 961987163, 1508970993, 2453635748, 2870763221, 3624381080, 310598401, 607225278, 1426881987, 1925078388, 2162078206, 2614888103, 3248222580, 3835390401, 4022224774, 264347078, 604807628, 770255983, 1249150122, 1555081692, 1996064986, 2554220882, 2821834349, 2952996808, 3210313671, 3336571891, 3584528711, 113926993, 338241895, 666307205, 773529912, 1294757372, 1396182291, 1695183700, 1986661051, 2177026350, 2456956037, 2730485921, 2820302411, 3259730800, 3345764771, 3516065817, 3600352804, 4094571909, 275423344, 430227734, 506948616, 659060556, 883997877, 958139571, 1322822218, 1537002063, 1747873779, 1955562222, 2024104815, 2227730452, 2361852424, 2428436474, 2756734187, 3204031479, 3329325298] : List Int))
set_option maxHeartbeats 8000000 in
set_option maxRecDepth 100000 in
theorem spec_l05Keys.calls  (r : List Int) (w : World) (h : spec_l05Keys.f  = some r) :
    Calls Tryd.prog 127 #[] w fun e w' => ∃ v0_ : Value, e = .returned (v0_) ∧ Kd.R (Kd.int .u32) 76 w' w.heap.size (fun _ => True) v0_ r ∧ Below w.heap.size w w' := by
  have HB := AM (Below.refl w.heap.size w)
  have H : (some (([1116352408, 1899447441, 3049323471, 3921009573, 961987163, 1508970993, 2453635748, 2870763221, 3624381080, 310598401, 607225278, 1426881987, 1925078388, 2162078206, 2614888103, 3248222580, 3835390401, 4022224774, 264347078, 604807628, 770255983, 1249150122, 1555081692, 1996064986, 2554220882, 2821834349, 2952996808, 3210313671, 3336571891, 3584528711, 113926993, 338241895, 666307205, 773529912, 1294757372, 1396182291, 1695183700, 1986661051, 2177026350, 2456956037, 2730485921, 2820302411, 3259730800, 3345764771, 3516065817, 3600352804, 4094571909, 275423344, 430227734, 506948616, 659060556, 883997877, 958139571, 1322822218, 1537002063, 1747873779, 1955562222, 2024104815, 2227730452, 2361852424, 2428436474, 2756734187, 3204031479, 3329325298] : List Int))) = some r := h
  clear h
  obtain ⟨y102, hy102⟩ : ∃ y_ : List Int, y_ = (([1116352408, 1899447441, 3049323471, 3921009573, 961987163, 1508970993, 2453635748, 2870763221, 3624381080, 310598401, 607225278, 1426881987, 1925078388, 2162078206, 2614888103, 3248222580, 3835390401, 4022224774, 264347078, 604807628, 770255983, 1249150122, 1555081692, 1996064986, 2554220882, 2821834349, 2952996808, 3210313671, 3336571891, 3584528711, 113926993, 338241895, 666307205, 773529912, 1294757372, 1396182291, 1695183700, 1986661051, 2177026350, 2456956037, 2730485921, 2820302411, 3259730800, 3345764771, 3516065817, 3600352804, 4094571909, 275423344, 430227734, 506948616, 659060556, 883997877, 958139571, 1322822218, 1537002063, 1747873779, 1955562222, 2024104815, 2227730452, 2361852424, 2428436474, 2756734187, 3204031479, 3329325298] : List Int)) := ⟨_, rfl⟩
  replace H : (some y102) = some r := by first | (rw [hy102]; with_reducible exact H) | (have H2_ := (Option.bind_some _ _).symm.trans H; rw [hy102]; with_reducible exact H2_) | (have H2_ := (Option.bind_some _ _).symm.trans H; with_reducible exact H2_) | with_reducible exact H | (rw [hy102]; exact H) | exact H
  have Ny102 := AM hy102
  clear hy102
  obtain rfl := Option.some.inj H
  go_enter Tryd.func127, Tryd.ntmps127
  go_wp2_with (first | ((with_reducible refine gate_dst (N := 1) rfl ?_); refine Kd.R_lit (Kd.int .u32) _ 76 ?hg (N := 1) ?hd (xs := ([1116352408, 1899447441, 3049323471, 3921009573, 961987163, 1508970993, 2453635748, 2870763221, 3624381080, 310598401, 607225278, 1426881987, 1925078388, 2162078206, 2614888103, 3248222580, 3835390401, 4022224774, 264347078, 604807628, 770255983, 1249150122, 1555081692, 1996064986, 2554220882, 2821834349, 2952996808, 3210313671, 3336571891, 3584528711, 113926993, 338241895, 666307205, 773529912, 1294757372, 1396182291, 1695183700, 1986661051, 2177026350, 2456956037, 2730485921, 2820302411, 3259730800, 3345764771, 3516065817, 3600352804, 4094571909, 275423344, 430227734, 506948616, 659060556, 883997877, 958139571, 1322822218, 1537002063, 1747873779, 1955562222, 2024104815, 2227730452, 2361852424, 2428436474, 2756734187, 3204031479, 3329325298] : List Int)) (inner := [.int .u32 1116352408, .int .u32 1899447441, .int .u32 3049323471, .int .u32 3921009573, .int .u32 961987163, .int .u32 1508970993, .int .u32 2453635748, .int .u32 2870763221, .int .u32 3624381080, .int .u32 310598401, .int .u32 607225278, .int .u32 1426881987, .int .u32 1925078388, .int .u32 2162078206, .int .u32 2614888103, .int .u32 3248222580, .int .u32 3835390401, .int .u32 4022224774, .int .u32 264347078, .int .u32 604807628, .int .u32 770255983, .int .u32 1249150122, .int .u32 1555081692, .int .u32 1996064986, .int .u32 2554220882, .int .u32 2821834349, .int .u32 2952996808, .int .u32 3210313671, .int .u32 3336571891, .int .u32 3584528711, .int .u32 113926993, .int .u32 338241895, .int .u32 666307205, .int .u32 773529912, .int .u32 1294757372, .int .u32 1396182291, .int .u32 1695183700, .int .u32 1986661051, .int .u32 2177026350, .int .u32 2456956037, .int .u32 2730485921, .int .u32 2820302411, .int .u32 3259730800, .int .u32 3345764771, .int .u32 3516065817, .int .u32 3600352804, .int .u32 4094571909, .int .u32 275423344, .int .u32 430227734, .int .u32 506948616, .int .u32 659060556, .int .u32 883997877, .int .u32 958139571, .int .u32 1322822218, .int .u32 1537002063, .int .u32 1747873779, .int .u32 1955562222, .int .u32 2024104815, .int .u32 2227730452, .int .u32 2361852424, .int .u32 2428436474, .int .u32 2756734187, .int .u32 3204031479, .int .u32 3329325298]) (ok := fun _ => True) (okp := fun _ => True) ?hr ?hp (fun _ hk => hk) trivial (Below.refl _ _) (Nat.le_refl _) (by simp) ?_; (case hd => rfl); (case hg => rfl); (case hr => first | (go_simp; done) | (go_simp; rfl)); (case hp => exact (Reps.one (show Kd.M (Kd.int .u32) _ _ _ 1116352408 [.int .u32 1116352408] from rfl) (Reps.one (show Kd.M (Kd.int .u32) _ _ _ 1899447441 [.int .u32 1899447441] from rfl) (Reps.one (show Kd.M (Kd.int .u32) _ _ _ 3049323471 [.int .u32 3049323471] from rfl) (Reps.one (show Kd.M (Kd.int .u32) _ _ _ 3921009573 [.int .u32 3921009573] from rfl) (Reps.one (show Kd.M (Kd.int .u32) _ _ _ 961987163 [.int .u32 961987163] from rfl) (Reps.one (show Kd.M (Kd.int .u32) _ _ _ 1508970993 [.int .u32 1508970993] from rfl) (Reps.one (show Kd.M (Kd.int .u32) _ _ _ 2453635748 [.int .u32 2453635748] from rfl) (Reps.one (show Kd.M (Kd.int .u32) _ _ _ 2870763221 [.int .u32 2870763221] from rfl) (Reps.one (show Kd.M (Kd.int .u32) _ _ _ 3624381080 [.int .u32 3624381080] from rfl) (Reps.one (show Kd.M (Kd.int .u32) _ _ _ 310598401 [.int .u32 310598401] from rfl) (Reps.one (show Kd.M (Kd.int .u32) _ _ _ 607225278 [.int .u32 607225278] from rfl) (Reps.one (show Kd.M (Kd.int .u32) _ _ _ 1426881987 [.int .u32 1426881987] from rfl) (Reps.one (show Kd.M (Kd.int .u32) _ _ _ 1925078388 [.int .u32 1925078388] from rfl) (Reps.one (show Kd.M (Kd.int .u32) _ _ _ 2162078206 [.int .u32 2162078206] from rfl) (Reps.one (show Kd.M (Kd.int .u32) _ _ _ 2614888103 [.int .u32 2614888103] from rfl) (Reps.one (show Kd.M (Kd.int .u32) _ _ _ 3248222580 [.int .u32 3248222580] from rfl) (Reps.one (show Kd.M (Kd.int .u32) _ _ _ 3835390401 [.int .u32 3835390401] from rfl) (Reps.one (show Kd.M (Kd.int .u32) _ _ _ 4022224774 [.int .u32 4022224774] from rfl) (Reps.one (show Kd.M (Kd.int .u32) _ _ _ 264347078 [.int .u32 264347078] from rfl) (Reps.one (show Kd.M (Kd.int .u32) _ _ _ 604807628 [.int .u32 604807628] from rfl) (Reps.one (show Kd.M (Kd.int .u32) _ _ _ 770255983 [.int .u32 770255983] from rfl) (Reps.one (show Kd.M (Kd.int .u32) _ _ _ 1249150122 [.int .u32 1249150122] from rfl) (Reps.one (show Kd.M (Kd.int .u32) _ _ _ 1555081692 [.int .u32 1555081692] from rfl) (Reps.one (show Kd.M (Kd.int .u32) _ _ _ 1996064986 [.int .u32 1996064986] from rfl) (Reps.one (show Kd.M (Kd.int .u32) _ _ _ 2554220882 [.int .u32 2554220882] from rfl) (Reps.one (show Kd.M (Kd.int .u32) _ _ _ 2821834349 [.int .u32 2821834349] from rfl) (Reps.one (show Kd.M (Kd.int .u32) _ _ _ 2952996808 [.int .u32 2952996808] from rfl) (Reps.one (show Kd.M (Kd.int .u32) _ _ _ 3210313671 [.int .u32 3210313671] from rfl) (Reps.one (show Kd.M (Kd.int .u32) _ _ _ 3336571891 [.int .u32 3336571891] from rfl) (Reps.one (show Kd.M (Kd.int .u32) _ _ _ 3584528711 [.int .u32 3584528711] from rfl) (Reps.one (show Kd.M (Kd.int .u32) _ _ _ 113926993 [.int .u32 113926993] from rfl) (Reps.one (show Kd.M (Kd.int .u32) _ _ _ 338241895 [.int .u32 338241895] from rfl) (Reps.one (show Kd.M (Kd.int .u32) _ _ _ 666307205 [.int .u32 666307205] from rfl) (Reps.one (show Kd.M (Kd.int .u32) _ _ _ 773529912 [.int .u32 773529912] from rfl) (Reps.one (show Kd.M (Kd.int .u32) _ _ _ 1294757372 [.int .u32 1294757372] from rfl) (Reps.one (show Kd.M (Kd.int .u32) _ _ _ 1396182291 [.int .u32 1396182291] from rfl) (Reps.one (show Kd.M (Kd.int .u32) _ _ _ 1695183700 [.int .u32 1695183700] from rfl) (Reps.one (show Kd.M (Kd.int .u32) _ _ _ 1986661051 [.int .u32 1986661051] from rfl) (Reps.one (show Kd.M (Kd.int .u32) _ _ _ 2177026350 [.int .u32 2177026350] from rfl) (Reps.one (show Kd.M (Kd.int .u32) _ _ _ 2456956037 [.int .u32 2456956037] from rfl) (Reps.one (show Kd.M (Kd.int .u32) _ _ _ 2730485921 [.int .u32 2730485921] from rfl) (Reps.one (show Kd.M (Kd.int .u32) _ _ _ 2820302411 [.int .u32 2820302411] from rfl) (Reps.one (show Kd.M (Kd.int .u32) _ _ _ 3259730800 [.int .u32 3259730800] from rfl) (Reps.one (show Kd.M (Kd.int .u32) _ _ _ 3345764771 [.int .u32 3345764771] from rfl) (Reps.one (show Kd.M (Kd.int .u32) _ _ _ 3516065817 [.int .u32 3516065817] from rfl) (Reps.one (show Kd.M (Kd.int .u32) _ _ _ 3600352804 [.int .u32 3600352804] from rfl) (Reps.one (show Kd.M (Kd.int .u32) _ _ _ 4094571909 [.int .u32 4094571909] from rfl) (Reps.one (show Kd.M (Kd.int .u32) _ _ _ 275423344 [.int .u32 275423344] from rfl) (Reps.one (show Kd.M (Kd.int .u32) _ _ _ 430227734 [.int .u32 430227734] from rfl) (Reps.one (show Kd.M (Kd.int .u32) _ _ _ 506948616 [.int .u32 506948616] from rfl) (Reps.one (show Kd.M (Kd.int .u32) _ _ _ 659060556 [.int .u32 659060556] from rfl) (Reps.one (show Kd.M (Kd.int .u32) _ _ _ 883997877 [.int .u32 883997877] from rfl) (Reps.one (show Kd.M (Kd.int .u32) _ _ _ 958139571 [.int .u32 958139571] from rfl) (Reps.one (show Kd.M (Kd.int .u32) _ _ _ 1322822218 [.int .u32 1322822218] from rfl) (Reps.one (show Kd.M (Kd.int .u32) _ _ _ 1537002063 [.int .u32 1537002063] from rfl) (Reps.one (show Kd.M (Kd.int .u32) _ _ _ 1747873779 [.int .u32 1747873779] from rfl) (Reps.one (show Kd.M (Kd.int .u32) _ _ _ 1955562222 [.int .u32 1955562222] from rfl) (Reps.one (show Kd.M (Kd.int .u32) _ _ _ 2024104815 [.int .u32 2024104815] from rfl) (Reps.one (show Kd.M (Kd.int .u32) _ _ _ 2227730452 [.int .u32 2227730452] from rfl) (Reps.one (show Kd.M (Kd.int .u32) _ _ _ 2361852424 [.int .u32 2361852424] from rfl) (Reps.one (show Kd.M (Kd.int .u32) _ _ _ 2428436474 [.int .u32 2428436474] from rfl) (Reps.one (show Kd.M (Kd.int .u32) _ _ _ 2756734187 [.int .u32 2756734187] from rfl) (Reps.one (show Kd.M (Kd.int .u32) _ _ _ 3204031479 [.int .u32 3204031479] from rfl) (Reps.one (show Kd.M (Kd.int .u32) _ _ _ 3329325298 [.int .u32 3329325298] from rfl) (Reps.none _ _)))))))))))))))))))))))))))))))))))))))))))))))))))))))))))))))))); intro v103 w1 ho2 hb hg_ hnew_; clear hg_ hnew_; (first | rw [← Ny102.out] at ho2 | (simp only [Int.reduceToNat] at ho2; rw [← Ny102.out] at ho2)); have HO104 := AM (Kd.R_lower ho2 (below_size bel_)); replace HB := AM (below_step bel_ hb); clear hb ho2))
  go_ret
  exact ⟨_, ri_, ro_ HO104.out, bel_⟩

/-! ### spec_l05Block: function 99 -/
def spec_l05Block.f (a0 : List Int) (a1 : ByteArray) : Option (List Int) := if a0.length = 8 ∧ a1.size = 64 then some (Hand.takenL (a0.map (· % 4294967296)) a1) else none
theorem spec_l05Block.calls (A0 : Option Addr) (c0 : Nat) (l0 : List Int) (a1 : ByteArray) (r : List Int) (w : World) (hr0 : Kd.C (Kd.int .i64) w A0 l0.length l0) (hc0 : l0.length ≤ c0) (h : spec_l05Block.f l0 a1 = some r) :
    Calls Tryd.prog 99 #[.slice A0 l0.length c0, .string a1] w fun e w' => ∃ v0_ : Value, e = .returned (v0_) ∧ Kd.R (Kd.int .i64) 2 w' w.heap.size (fun _ => True) v0_ r ∧ Below w.heap.size w w' := by
  unfold spec_l05Block.f at h
  by_cases hc : l0.length = 8 ∧ a1.size = 64
  · rw [if_pos hc] at h
    obtain rfl := Option.some.inj h
    exact Hand.block_x A0 c0 l0 a1 w hr0 hc.1 hc.2
  · rw [if_neg hc] at h
    cases h

end Go.Proofs.YtfffdndeccipnaaDoor.PFnExactPackRead
