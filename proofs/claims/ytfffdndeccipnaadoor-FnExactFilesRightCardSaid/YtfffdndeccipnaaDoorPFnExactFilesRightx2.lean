/- Functions of the law FnExactFilesRight: the print's, with walks of this session's own. No statement is proved here. -/
import Derived.Lib.Bytealg
import Derived.WalkLawsBesides
import Derived.Test.YtfffdndeccipnaaDoorVRegFnExactFilesRight
-- A program of this session wrote this text: a changed copy of the kit print, with given functions.
import Derived.Test.YtfffdndeccipnaaDoorPFnExactFilesRightx0
import Derived.Test.YtfffdndeccipnaaDoorPFnExactFilesRightx1
namespace Go.Proofs.YtfffdndeccipnaaDoor.PFnExactFilesRight
open Go.RowKit Go.Proofs.YtfffdndeccipnaaDoorW.PrintWords Go.Proofs.YtfffdndeccipnaaDoorW.PrintLast Go.Proofs.YtfffdndeccipnaaDoorW.PrintMore Go.Proofs.YtfffdndeccipnaaDoor.Reg Go.Proofs.YtfffdndeccipnaaDoor.Aut
attribute [local go_sem] max2_int min2_int max_two min_two max_three min_three max_four min_four   -- for this text's walks alone
set_option linter.unusedVariables false
set_option linter.unusedSimpArgs false

/-! ### spec_FilesRight: function 30 -/
mutual
def spec_FilesRight.l0 : Nat → List (S92) → Int → Option (Bool)
  | 0, _, _ => none
  | k + 1, x0, x3 => if x3 < (x0.length : Int) then (if 0 ≤ x3 then ((spec_l11Parts.f k ((rd_T92 x0 x3).f0)).bind fun bt119 => (if bt119.2 = true then (if (((rd_T92 x0 x3).f1).size : Int) > 1500 then (spec_FilesRight.j1 k x0 x3 true) else (if x3 > 0 then (if 0 ≤ (wrap64 (x3 - 1)) then (if (wrap64 (x3 - 1)) < (x0.length : Int) then (spec_FilesRight.j1 k x0 x3 (!(Op.bytesLess (((rd_T92 x0 (wrap64 (x3 - 1))).f0).toList) (((rd_T92 x0 x3).f0).toList)))) else (none)) else (none)) else (spec_FilesRight.j1 k x0 x3 false))) else (spec_FilesRight.j1 k x0 x3 true))) else (none)) else (some true)
def spec_FilesRight.j1 : Nat → List (S92) → Int → Bool → Option (Bool)
  | 0, _, _, _ => none
  | k + 1, x0, x3, x54 => if x54 = true then (some false) else (spec_FilesRight.l1 k x0 x3 0)
def spec_FilesRight.l1 : Nat → List (S92) → Int → Int → Option (Bool)
  | 0, _, _, _ => none
  | k + 1, x0, x3, x6 => if x6 < (x0.length : Int) then (if 0 ≤ x3 then (if x3 < (x0.length : Int) then (if 0 ≤ x6 then (if (((rd_T92 x0 x6).f0).size : Int) > (((rd_T92 x0 x3).f0).size : Int) then (if 0 ≤ (((rd_T92 x0 x3).f0).size : Int) then (if (((rd_T92 x0 x3).f0).size : Int) ≤ (((rd_T92 x0 x6).f0).size : Int) then (if (((rd_T92 x0 x6).f0).extract 0 ((((rd_T92 x0 x3).f0).size : Int) : Int).toNat).toList = ((rd_T92 x0 x3).f0).toList then (if (((rd_T92 x0 x3).f0).size : Int) < (((rd_T92 x0 x6).f0).size : Int) then (if (bt ((rd_T92 x0 x6).f0) (((rd_T92 x0 x3).f0).size : Int)) = 47 then (some false) else (spec_FilesRight.l1 k x0 x3 (wrap64 (x6 + 1)))) else (none)) else (spec_FilesRight.l1 k x0 x3 (wrap64 (x6 + 1)))) else (none)) else (none)) else (spec_FilesRight.l1 k x0 x3 (wrap64 (x6 + 1)))) else (none)) else (none)) else (none)) else (spec_FilesRight.l0 k x0 (wrap64 (x3 + 1)))
end
def spec_FilesRight.f (k : Nat) (l0 : List (S92)) : Option (Bool) := if (l0.length : Int) > 20 then (some false) else (spec_FilesRight.l0 k l0 0)
theorem spec_FilesRight.mono_l : ∀ k, (∀ y0 y1, LeO (spec_FilesRight.l0 k y0 y1) (spec_FilesRight.l0 (k + 1) y0 y1)) ∧ (∀ y0 y1 y2, LeO (spec_FilesRight.j1 k y0 y1 y2) (spec_FilesRight.j1 (k + 1) y0 y1 y2)) ∧ (∀ y0 y1 y2, LeO (spec_FilesRight.l1 k y0 y1 y2) (spec_FilesRight.l1 (k + 1) y0 y1 y2))
  | 0 => ⟨fun _ _ r h => by simp [spec_FilesRight.l0] at h, fun _ _ _ r h => by simp [spec_FilesRight.j1] at h, fun _ _ _ r h => by simp [spec_FilesRight.l1] at h⟩
  | k + 1 => by
    obtain ⟨ih0, ih1, ih2⟩ := spec_FilesRight.mono_l k
    refine ⟨?_, ?_, ?_⟩
    · intro y0 y1
      unfold spec_FilesRight.l0
      repeat' first
      | (with_reducible exact ih0 _ _)
      | (with_reducible exact ih1 _ _ _)
      | (with_reducible exact ih2 _ _ _)
      | (with_reducible exact spec_l11Parts.mono _ _)
      | (with_reducible exact LeO.refl _)
      | (with_reducible exact LeO.none _)
      | (with_reducible refine LeO.ite ?_ ?_)
      | (with_reducible refine LeO.bind ?_ (fun _ => ?_))
      | exact ih0 _ _
      | exact ih1 _ _ _
      | exact ih2 _ _ _
      | exact spec_l11Parts.mono _ _
      | exact LeO.none _
      | refine LeO.ite ?_ ?_
      | refine LeO.bind ?_ (fun _ => ?_)
    · intro y0 y1 y2
      unfold spec_FilesRight.j1
      repeat' first
      | (with_reducible exact ih0 _ _)
      | (with_reducible exact ih1 _ _ _)
      | (with_reducible exact ih2 _ _ _)
      | (with_reducible exact spec_l11Parts.mono _ _)
      | (with_reducible exact LeO.refl _)
      | (with_reducible exact LeO.none _)
      | (with_reducible refine LeO.ite ?_ ?_)
      | (with_reducible refine LeO.bind ?_ (fun _ => ?_))
      | exact ih0 _ _
      | exact ih1 _ _ _
      | exact ih2 _ _ _
      | exact spec_l11Parts.mono _ _
      | exact LeO.none _
      | refine LeO.ite ?_ ?_
      | refine LeO.bind ?_ (fun _ => ?_)
    · intro y0 y1 y2
      unfold spec_FilesRight.l1
      repeat' first
      | (with_reducible exact ih0 _ _)
      | (with_reducible exact ih1 _ _ _)
      | (with_reducible exact ih2 _ _ _)
      | (with_reducible exact spec_l11Parts.mono _ _)
      | (with_reducible exact LeO.refl _)
      | (with_reducible exact LeO.none _)
      | (with_reducible refine LeO.ite ?_ ?_)
      | (with_reducible refine LeO.bind ?_ (fun _ => ?_))
      | exact ih0 _ _
      | exact ih1 _ _ _
      | exact ih2 _ _ _
      | exact spec_l11Parts.mono _ _
      | exact LeO.none _
      | refine LeO.ite ?_ ?_
      | refine LeO.bind ?_ (fun _ => ?_)
theorem spec_FilesRight.mono : ∀ a0 k, LeO (spec_FilesRight.f k a0) (spec_FilesRight.f (k + 1) a0) := by
  intro a0 k
  obtain ⟨ih0, ih1, ih2⟩ := spec_FilesRight.mono_l k
  unfold spec_FilesRight.f
  repeat' first
      | (with_reducible exact ih0 _ _)
      | (with_reducible exact ih1 _ _ _)
      | (with_reducible exact ih2 _ _ _)
      | (with_reducible exact spec_l11Parts.mono _ _)
      | (with_reducible exact LeO.refl _)
      | (with_reducible exact LeO.none _)
      | (with_reducible refine LeO.ite ?_ ?_)
      | (with_reducible refine LeO.bind ?_ (fun _ => ?_))
      | exact ih0 _ _
      | exact ih1 _ _ _
      | exact ih2 _ _ _
      | exact spec_l11Parts.mono _ _
      | exact LeO.none _
      | refine LeO.ite ?_ ?_
      | refine LeO.bind ?_ (fun _ => ?_)
set_option maxHeartbeats 8000000 in
set_option maxRecDepth 100000 in
theorem spec_FilesRight.calls (k : Nat) (A0 : Option Addr) (c0 : Nat) (l0 : List (S92)) (r : Bool) (w : World) (hr0 : Kd.C k92 w A0 l0.length l0) (hc0 : l0.length ≤ c0) (h : spec_FilesRight.f k l0 = some r) :
    Calls Tryd.prog 30 #[.slice A0 l0.length c0] w fun e w' => e = .returned (.bool r) ∧ Below w.heap.size w w' := by
  have HR0 := AM hr0
  have HC0 := AM hc0
  clear hr0 hc0
  have HB := AM (Below.refl w.heap.size w)
  have H : (if (l0.length : Int) > 20 then (some false) else (spec_FilesRight.l0 k l0 0)) = some r := h
  clear h
  by_cases c2 : (l0.length : Int) > 20
  · rw [if_pos c2] at H
    have c2b0 : decide (20 < (l0.length : Int)) = true := decide_eq_true c2
    have c2b1 : decide (20 < l0.length) = true := decide_eq_true (by omega)
    clear c2
    obtain rfl := Option.some.inj H
    go_enter Tryd.func30, Tryd.ntmps30
    go_wp2
    repeat (go_quiet (fail); try go_wp2)
    go_ret
    exact ⟨ri_, bel_⟩
  · rw [if_neg c2] at H
    have c2b0 : decide (20 < (l0.length : Int)) = false := decide_eq_false c2
    have c2b1 : decide (20 < l0.length) = false := decide_eq_false (by omega)
    clear c2
    have H' := AM H
    clear H
    go_enter Tryd.func30, Tryd.ntmps30
    go_wp2
    repeat (go_quiet (fail); try go_wp2)
    go_loopg [3] k (fun kq v3 w' => ∃ (x3_1 : Int), v3 = .int .i64 x3_1 ∧ Aside0 (spec_FilesRight.l0 kq l0 x3_1 = some r) ∧ Aside0 (kq ≤ k) ∧ Aside0 (Below w.heap.size w w'))
    case atStart => exact ⟨(0), (by first | rfl | (simp; done) | (simp [*]; done)), H', ⟨Nat.le_refl _⟩, ⟨bel_⟩⟩
    case round =>
      clear H'
      try clear c2
      try clear c2b0
      try clear c2b1
      try clear p2
      obtain ⟨x3_1, rfl, HA, HK1, HB⟩ := hrel
      cases gk with
      | zero => exact absurd HA.out (by simp [spec_FilesRight.l0])
      | succ k1 =>
        have H := HA.out
        clear HA
        simp only [spec_FilesRight.l0] at H
        by_cases c3 : x3_1 < (l0.length : Int)
        · rw [if_pos c3] at H
          have c3b0 : decide (x3_1 < (l0.length : Int)) = true := decide_eq_true c3
          clear c3
          by_cases c4 : 0 ≤ x3_1
          · rw [if_pos c4] at H
            have c4b0 : decide (0 ≤ x3_1) = true := decide_eq_true c4
            clear c4
            obtain ⟨⟨t119, t120⟩, A5, H⟩ := OB H
            try dsimp only at H
            replace A5 := AM A5
            have HC6 := AM H
            clear H
            have p118 : 0 ≤ (x3_1 : Int) := of_decide_eq_true (by first | (with_reducible assumption) | assumption)
            have q118 : x3_1 < (l0.length : Int) := of_decide_eq_true (by first | (with_reducible assumption) | assumption)
            obtain ⟨ad118, e118, hx118_0, hx118_1⟩ := at_T92 HR0.out x3_1 p118 q118
            cases e118
            replace hx118_0 := (HB.out.cell (World.block_lt_of_cell? w _ hx118_0)).trans hx118_0
            replace hx118_1 := (HB.out.cell (World.block_lt_of_cell? w _ hx118_1)).trans hx118_1
            replace p118 := eq_true p118
            replace q118 := eq_true q118
            go_upto_region 7 with (first | (go_at_call 69; (with_reducible refine (spec_l11Parts.calls k1 ((rd_T92 l0 x3_1).f0) t119 t120 _ A5.out).mono ?_); rintro e w7 ⟨v121, rfl, ho0, hb⟩; have HO122 := AM (Kd.R_lower ho0 (below_size bel_)); replace HB := AM (below_step bel_ hb); (try clear hb); (try clear hb2); (try clear hk); (try clear hi); (try clear ho0)))
            repeat (go_quiet (first | (go_at_call 69; (with_reducible refine (spec_l11Parts.calls k1 ((rd_T92 l0 x3_1).f0) t119 t120 _ A5.out).mono ?_); rintro e w7 ⟨v121, rfl, ho0, hb⟩; have HO122 := AM (Kd.R_lower ho0 (below_size bel_)); replace HB := AM (below_step bel_ hb); (try clear hb); (try clear hb2); (try clear hk); (try clear hi); (try clear ho0))); go_upto_region 7 with (first | (go_at_call 69; (with_reducible refine (spec_l11Parts.calls k1 ((rd_T92 l0 x3_1).f0) t119 t120 _ A5.out).mono ?_); rintro e w7 ⟨v121, rfl, ho0, hb⟩; have HO122 := AM (Kd.R_lower ho0 (below_size bel_)); replace HB := AM (below_step bel_ hb); (try clear hb); (try clear hb2); (try clear hk); (try clear hi); (try clear ho0))))
            (try simp only [Act.put, List.setIfInBounds_toArray, List.set_cons_zero, List.set_cons_succ])
            go_cut [54] (fun v54 wc => ∃ (kq : Nat) (x54_5 : Bool), v54 = .bool x54_5 ∧ Aside0 (spec_FilesRight.j1 kq l0 x3_1 x54_5 = some r) ∧ Aside0 (kq ≤ k1) ∧ Aside0 (Below w.heap.size w wc))
            case first =>
              have H := HC6.out
              clear HC6
              by_cases c8 : t120 = true
              · subst c8
                rw [if_pos rfl] at H
                by_cases c9 : (((rd_T92 l0 x3_1).f1).size : Int) > 1500
                · rw [if_pos c9] at H
                  have c9b0 : decide (1500 < (((rd_T92 l0 x3_1).f1).size : Int)) = true := decide_eq_true c9
                  have c9b1 : decide (1500 < ((rd_T92 l0 x3_1).f1).size) = true := decide_eq_true (by omega)
                  clear c9
                  (first | rw [c9b0] | (simp only [i64_w, i32_w]; rw [c9b0]) | skip)
                  have H' := AM H
                  clear H
                  have p123 : 0 ≤ (x3_1 : Int) := of_decide_eq_true (by first | (with_reducible assumption) | assumption)
                  have q123 : x3_1 < (l0.length : Int) := of_decide_eq_true (by first | (with_reducible assumption) | assumption)
                  obtain ⟨ad123, e123, hx123_0, hx123_1⟩ := at_T92 HR0.out x3_1 p123 q123
                  obtain rfl : ad118 = ad123 := (by injection e123)
                  replace hx123_0 := (HB.out.cell (World.block_lt_of_cell? w _ hx123_0)).trans hx123_0
                  replace hx123_1 := (HB.out.cell (World.block_lt_of_cell? w _ hx123_1)).trans hx123_1
                  replace p123 := eq_true p123
                  replace q123 := eq_true q123
                  go_wp2
                  repeat (go_quiet (fail); try go_wp2)
                  go_meet
                  case rel => exact ⟨_, (true), (by first | rfl | (simp; done) | (simp [*]; done)), H', ⟨by have := HK1.out; first | omega | exact Nat.le_refl _⟩, ⟨bel_⟩⟩
                · rw [if_neg c9] at H
                  have c9b0 : decide (1500 < (((rd_T92 l0 x3_1).f1).size : Int)) = false := decide_eq_false c9
                  have c9b1 : decide (1500 < ((rd_T92 l0 x3_1).f1).size) = false := decide_eq_false (by omega)
                  clear c9
                  (first | rw [c9b0] | (simp only [i64_w, i32_w]; rw [c9b0]) | skip)
                  by_cases c10 : x3_1 > 0
                  · rw [if_pos c10] at H
                    have c10b0 : decide (0 < x3_1) = true := decide_eq_true c10
                    clear c10
                    obtain ⟨ji11, hji11⟩ : ∃ j_ : Int, (wrap64 (x3_1 - 1)) = j_ := ⟨_, rfl⟩
                    replace H : (if 0 ≤ (ji11) then (if (ji11) < (l0.length : Int) then (spec_FilesRight.j1 k1 l0 x3_1 (!(Op.bytesLess (((rd_T92 l0 (ji11)).f0).toList) (((rd_T92 l0 x3_1).f0).toList)))) else (none)) else (none)) = some r := by first | (rw [hji11] at H; exact H) | (simp only [hji11] at H ⊢; exact H)
                    have hji11w : (IntKind.i64.wrap (x3_1 - 1)) = ji11 := (i64_w _).trans hji11
                    by_cases c12 : 0 ≤ (ji11)
                    · rw [if_pos c12] at H
                      have c12b0 : decide (0 ≤ (ji11)) = true := decide_eq_true c12
                      clear c12
                      by_cases c13 : (ji11) < (l0.length : Int)
                      · rw [if_pos c13] at H
                        have c13b0 : decide ((ji11) < (l0.length : Int)) = true := decide_eq_true c13
                        clear c13
                        have H' := AM H
                        clear H
                        have p123 : 0 ≤ (x3_1 : Int) := of_decide_eq_true (by first | (with_reducible assumption) | assumption)
                        have q123 : x3_1 < (l0.length : Int) := of_decide_eq_true (by first | (with_reducible assumption) | assumption)
                        obtain ⟨ad123, e123, hx123_0, hx123_1⟩ := at_T92 HR0.out x3_1 p123 q123
                        obtain rfl : ad118 = ad123 := (by injection e123)
                        replace hx123_0 := (HB.out.cell (World.block_lt_of_cell? w _ hx123_0)).trans hx123_0
                        replace hx123_1 := (HB.out.cell (World.block_lt_of_cell? w _ hx123_1)).trans hx123_1
                        replace p123 := eq_true p123
                        replace q123 := eq_true q123
                        have p124 : 0 ≤ ((ji11) : Int) := of_decide_eq_true (by first | (with_reducible assumption) | assumption)
                        have q124 : (ji11) < (l0.length : Int) := of_decide_eq_true (by first | (with_reducible assumption) | assumption)
                        obtain ⟨ad124, e124, hx124_0, hx124_1⟩ := at_T92 HR0.out (ji11) p124 q124
                        obtain rfl : ad118 = ad124 := (by injection e124)
                        replace hx124_0 := (HB.out.cell (World.block_lt_of_cell? w _ hx124_0)).trans hx124_0
                        replace hx124_1 := (HB.out.cell (World.block_lt_of_cell? w _ hx124_1)).trans hx124_1
                        replace p124 := eq_true p124
                        replace q124 := eq_true q124
                        have p125 : 0 ≤ (x3_1 : Int) := of_decide_eq_true (by first | (with_reducible assumption) | assumption)
                        have q125 : x3_1 < (l0.length : Int) := of_decide_eq_true (by first | (with_reducible assumption) | assumption)
                        obtain ⟨ad125, e125, hx125_0, hx125_1⟩ := at_T92 HR0.out x3_1 p125 q125
                        obtain rfl : ad118 = ad125 := (by injection e125)
                        replace hx125_0 := (HB.out.cell (World.block_lt_of_cell? w _ hx125_0)).trans hx125_0
                        replace hx125_1 := (HB.out.cell (World.block_lt_of_cell? w _ hx125_1)).trans hx125_1
                        replace p125 := eq_true p125
                        replace q125 := eq_true q125
                        go_wp2
                        repeat (go_quiet (fail); try go_wp2)
                        go_meet
                        case rel => exact ⟨_, (!(Op.bytesLess (((rd_T92 l0 (ji11)).f0).toList) (((rd_T92 l0 x3_1).f0).toList))), (by first | rfl | (simp; done) | (simp only [← hji11] <;> (first | rfl | simp)) | (simp [*]; done)), H', ⟨by have := HK1.out; first | omega | exact Nat.le_refl _⟩, ⟨bel_⟩⟩
                      · rw [if_neg c13] at H
                        exact absurd H (by simp)
                    · rw [if_neg c12] at H
                      exact absurd H (by simp)
                  · rw [if_neg c10] at H
                    have c10b0 : decide (0 < x3_1) = false := decide_eq_false c10
                    clear c10
                    have H' := AM H
                    clear H
                    have p123 : 0 ≤ (x3_1 : Int) := of_decide_eq_true (by first | (with_reducible assumption) | assumption)
                    have q123 : x3_1 < (l0.length : Int) := of_decide_eq_true (by first | (with_reducible assumption) | assumption)
                    obtain ⟨ad123, e123, hx123_0, hx123_1⟩ := at_T92 HR0.out x3_1 p123 q123
                    obtain rfl : ad118 = ad123 := (by injection e123)
                    replace hx123_0 := (HB.out.cell (World.block_lt_of_cell? w _ hx123_0)).trans hx123_0
                    replace hx123_1 := (HB.out.cell (World.block_lt_of_cell? w _ hx123_1)).trans hx123_1
                    replace p123 := eq_true p123
                    replace q123 := eq_true q123
                    go_wp2
                    repeat (go_quiet (fail); try go_wp2)
                    go_meet
                    case rel => exact ⟨_, (false), (by first | rfl | (simp; done) | (simp [*]; done)), H', ⟨by have := HK1.out; first | omega | exact Nat.le_refl _⟩, ⟨bel_⟩⟩
              · replace c8 := Bool.eq_false_iff.mpr c8
                subst c8
                rw [if_neg (show ¬ (false = true) by decide)] at H
                have H' := AM H
                clear H
                go_wp2
                repeat (go_quiet (fail); try go_wp2)
                go_meet
                case rel => exact ⟨_, (true), (by first | rfl | (simp; done) | (simp [*]; done)), H', ⟨by have := HK1.out; first | omega | exact Nat.le_refl _⟩, ⟨bel_⟩⟩
            case rest =>
              clear HC6
              try clear c1
              try clear p1
              try clear q1
              try clear hx1
              try clear c2
              try clear c2b0
              try clear c2b1
              try clear p2
              try clear c3
              try clear c3b0
              try clear c4
              try clear c4b0
              try clear p6
              try clear c8
              try clear c9
              try clear c9b0
              try clear c9b1
              try clear c10
              try clear c10b0
              try clear p11
              try clear q11
              try clear hx11
              try clear c12
              try clear c12b0
              try clear p12
              try clear q12
              try clear hx12
              try clear c13
              try clear c13b0
              try clear hx118_0
              try clear hx118_1
              try clear hx123_0
              try clear hx123_1
              try clear hx124_0
              try clear hx124_1
              try clear hx125_0
              try clear hx125_1
              try clear p118
              try clear p123
              try clear p124
              try clear p125
              try clear p2
              try clear q118
              try clear q123
              try clear q124
              try clear q125
              obtain ⟨kq, x54_5, rfl, HA, HJ5, HB⟩ := hcut
              cases kq with
              | zero => exact absurd HA.out (by simp [spec_FilesRight.j1])
              | succ kj5 =>
                have H := HA.out
                clear HA
                simp only [spec_FilesRight.j1] at H
                by_cases c14 : x54_5 = true
                · subst c14
                  rw [if_pos rfl] at H
                  obtain rfl := Option.some.inj H
                  go_wp2
                  repeat (go_quiet (fail); try go_wp2)
                  go_ret
                  exact ⟨ri_, bel_⟩
                · replace c14 := Bool.eq_false_iff.mpr c14
                  subst c14
                  rw [if_neg (show ¬ (false = true) by decide)] at H
                  have H' := AM H
                  clear H
                  go_wp2
                  repeat (go_quiet (fail); try go_wp2)
                  go_loopg [6] kj5 (fun kq v6 w' => ∃ (x6_3 : Int), v6 = .int .i64 x6_3 ∧ Aside0 (spec_FilesRight.l1 kq l0 x3_1 x6_3 = some r) ∧ Aside0 (kq ≤ kj5) ∧ Aside0 (Below w.heap.size w w'))
                  case atStart => exact ⟨(0), (by first | rfl | (simp; done) | (simp [*]; done)), H', ⟨Nat.le_refl _⟩, ⟨bel_⟩⟩
                  case round =>
                    clear H'
                    try clear c1
                    try clear p1
                    try clear q1
                    try clear hx1
                    try clear c2
                    try clear c2b0
                    try clear c2b1
                    try clear p2
                    try clear c3
                    try clear c3b0
                    try clear c4
                    try clear c4b0
                    try clear p6
                    try clear c8
                    try clear c9
                    try clear c9b0
                    try clear c9b1
                    try clear c10
                    try clear c10b0
                    try clear p11
                    try clear q11
                    try clear hx11
                    try clear c12
                    try clear c12b0
                    try clear p12
                    try clear q12
                    try clear hx12
                    try clear c13
                    try clear c13b0
                    try clear c14
                    try clear hx118_0
                    try clear hx118_1
                    try clear hx123_0
                    try clear hx123_1
                    try clear hx124_0
                    try clear hx124_1
                    try clear hx125_0
                    try clear hx125_1
                    try clear p1
                    try clear p11
                    try clear p118
                    try clear p12
                    try clear p123
                    try clear p124
                    try clear p125
                    try clear p2
                    try clear p6
                    try clear q1
                    try clear q11
                    try clear q118
                    try clear q12
                    try clear q123
                    try clear q124
                    try clear q125
                    obtain ⟨x6_3, rfl, HA, HK3, HB⟩ := hrel
                    cases gk with
                    | zero => exact absurd HA.out (by simp [spec_FilesRight.l1])
                    | succ k3 =>
                      have H := HA.out
                      clear HA
                      simp only [spec_FilesRight.l1] at H
                      by_cases c15 : x6_3 < (l0.length : Int)
                      · rw [if_pos c15] at H
                        have c15b0 : decide (x6_3 < (l0.length : Int)) = true := decide_eq_true c15
                        clear c15
                        by_cases c16 : 0 ≤ x3_1
                        · rw [if_pos c16] at H
                          have c16b0 : decide (0 ≤ x3_1) = true := decide_eq_true c16
                          clear c16
                          by_cases c17 : x3_1 < (l0.length : Int)
                          · rw [if_pos c17] at H
                            have c17b0 : decide (x3_1 < (l0.length : Int)) = true := decide_eq_true c17
                            clear c17
                            by_cases c18 : 0 ≤ x6_3
                            · rw [if_pos c18] at H
                              have c18b0 : decide (0 ≤ x6_3) = true := decide_eq_true c18
                              clear c18
                              by_cases c19 : (((rd_T92 l0 x6_3).f0).size : Int) > (((rd_T92 l0 x3_1).f0).size : Int)
                              · rw [if_pos c19] at H
                                have c19b0 : decide ((((rd_T92 l0 x3_1).f0).size : Int) < (((rd_T92 l0 x6_3).f0).size : Int)) = true := decide_eq_true c19
                                have c19b80 := c19b0; (try simp only [gt_iff_lt, ge_iff_le, Int.ofNat_le, Int.ofNat_lt] at c19b80)
                                have c19b1 : decide (((rd_T92 l0 x3_1).f0).size < ((rd_T92 l0 x6_3).f0).size) = true := decide_eq_true (Int.ofNat_lt.mp c19)
                                clear c19
                                by_cases c20 : 0 ≤ (((rd_T92 l0 x3_1).f0).size : Int)
                                · rw [if_pos c20] at H
                                  have c20b0 := eq_true c20
                                  have c20b1 : decide (0 ≤ (((rd_T92 l0 x3_1).f0).size : Int)) = true := decide_eq_true c20
                                  clear c20
                                  by_cases c21 : (((rd_T92 l0 x3_1).f0).size : Int) ≤ (((rd_T92 l0 x6_3).f0).size : Int)
                                  · rw [if_pos c21] at H
                                    have c21b0 := eq_true c21
                                    have c21b1 : decide ((((rd_T92 l0 x3_1).f0).size : Int) ≤ (((rd_T92 l0 x6_3).f0).size : Int)) = true := decide_eq_true c21
                                    have c21b81 := c21b1; (try simp only [gt_iff_lt, ge_iff_le, Int.ofNat_le, Int.ofNat_lt] at c21b81)
                                    clear c21
                                    by_cases c22 : (((rd_T92 l0 x6_3).f0).extract 0 ((((rd_T92 l0 x3_1).f0).size : Int) : Int).toNat).toList = ((rd_T92 l0 x3_1).f0).toList
                                    · rw [if_pos c22] at H
                                      have c22b0 : ((((rd_T92 l0 x6_3).f0).extract 0 ((((rd_T92 l0 x3_1).f0).size : Int) : Int).toNat).toList == ((rd_T92 l0 x3_1).f0).toList) = true := beq_iff_eq.mpr c22
                                      have c22b70 := c22b0; simp only [Int.toNat_natCast] at c22b70
                                      have c22b1 : ((((rd_T92 l0 x6_3).f0).extract 0 ((((rd_T92 l0 x3_1).f0).size : Int) : Int).toNat).toList != ((rd_T92 l0 x3_1).f0).toList) = false := bne_eq_false_iff_eq.mpr c22
                                      have c22b71 := c22b1; simp only [Int.toNat_natCast] at c22b71
                                      clear c22
                                      by_cases c23 : (((rd_T92 l0 x3_1).f0).size : Int) < (((rd_T92 l0 x6_3).f0).size : Int)
                                      · rw [if_pos c23] at H
                                        have c23b0 : decide ((((rd_T92 l0 x3_1).f0).size : Int) < (((rd_T92 l0 x6_3).f0).size : Int)) = true := decide_eq_true c23
                                        have c23b80 := c23b0; (try simp only [gt_iff_lt, ge_iff_le, Int.ofNat_le, Int.ofNat_lt] at c23b80)
                                        have c23b1 : decide (((rd_T92 l0 x3_1).f0).size < ((rd_T92 l0 x6_3).f0).size) = true := decide_eq_true (Int.ofNat_lt.mp c23)
                                        clear c23
                                        by_cases c25 : (bt ((rd_T92 l0 x6_3).f0) (((rd_T92 l0 x3_1).f0).size : Int)) = 47
                                        · rw [if_pos c25] at H
                                          have c25b0 : ((bt ((rd_T92 l0 x6_3).f0) (((rd_T92 l0 x3_1).f0).size : Int)) == 47) = true := beq_iff_eq.mpr c25
                                          have c25b1 : ((bt ((rd_T92 l0 x6_3).f0) (((rd_T92 l0 x3_1).f0).size : Int)) != 47) = false := bne_eq_false_iff_eq.mpr c25
                                          clear c25
                                          obtain rfl := Option.some.inj H
                                          have p126 : 0 ≤ (x3_1 : Int) := of_decide_eq_true (by first | (with_reducible assumption) | assumption)
                                          have q126 : x3_1 < (l0.length : Int) := of_decide_eq_true (by first | (with_reducible assumption) | assumption)
                                          obtain ⟨ad126, e126, hx126_0, hx126_1⟩ := at_T92 HR0.out x3_1 p126 q126
                                          obtain rfl : ad118 = ad126 := (by injection e126)
                                          replace hx126_0 := (HB.out.cell (World.block_lt_of_cell? w _ hx126_0)).trans hx126_0
                                          replace hx126_1 := (HB.out.cell (World.block_lt_of_cell? w _ hx126_1)).trans hx126_1
                                          replace p126 := eq_true p126
                                          replace q126 := eq_true q126
                                          have p127 : 0 ≤ (x6_3 : Int) := of_decide_eq_true (by first | (with_reducible assumption) | assumption)
                                          have q127 : x6_3 < (l0.length : Int) := of_decide_eq_true (by first | (with_reducible assumption) | assumption)
                                          obtain ⟨ad127, e127, hx127_0, hx127_1⟩ := at_T92 HR0.out x6_3 p127 q127
                                          obtain rfl : ad118 = ad127 := (by injection e127)
                                          replace hx127_0 := (HB.out.cell (World.block_lt_of_cell? w _ hx127_0)).trans hx127_0
                                          replace hx127_1 := (HB.out.cell (World.block_lt_of_cell? w _ hx127_1)).trans hx127_1
                                          replace p127 := eq_true p127
                                          replace q127 := eq_true q127
                                          have p128 : 0 ≤ (x6_3 : Int) := of_decide_eq_true (by first | (with_reducible assumption) | assumption)
                                          have q128 : x6_3 < (l0.length : Int) := of_decide_eq_true (by first | (with_reducible assumption) | assumption)
                                          obtain ⟨ad128, e128, hx128_0, hx128_1⟩ := at_T92 HR0.out x6_3 p128 q128
                                          obtain rfl : ad118 = ad128 := (by injection e128)
                                          replace hx128_0 := (HB.out.cell (World.block_lt_of_cell? w _ hx128_0)).trans hx128_0
                                          replace hx128_1 := (HB.out.cell (World.block_lt_of_cell? w _ hx128_1)).trans hx128_1
                                          replace p128 := eq_true p128
                                          replace q128 := eq_true q128
                                          have p129 : 0 ≤ (x3_1 : Int) := of_decide_eq_true (by first | (with_reducible assumption) | assumption)
                                          have q129 : x3_1 < (l0.length : Int) := of_decide_eq_true (by first | (with_reducible assumption) | assumption)
                                          obtain ⟨ad129, e129, hx129_0, hx129_1⟩ := at_T92 HR0.out x3_1 p129 q129
                                          obtain rfl : ad118 = ad129 := (by injection e129)
                                          replace hx129_0 := (HB.out.cell (World.block_lt_of_cell? w _ hx129_0)).trans hx129_0
                                          replace hx129_1 := (HB.out.cell (World.block_lt_of_cell? w _ hx129_1)).trans hx129_1
                                          replace p129 := eq_true p129
                                          replace q129 := eq_true q129
                                          have p130 : 0 ≤ (x6_3 : Int) := of_decide_eq_true (by first | (with_reducible assumption) | assumption)
                                          have q130 : x6_3 < (l0.length : Int) := of_decide_eq_true (by first | (with_reducible assumption) | assumption)
                                          obtain ⟨ad130, e130, hx130_0, hx130_1⟩ := at_T92 HR0.out x6_3 p130 q130
                                          obtain rfl : ad118 = ad130 := (by injection e130)
                                          replace hx130_0 := (HB.out.cell (World.block_lt_of_cell? w _ hx130_0)).trans hx130_0
                                          replace hx130_1 := (HB.out.cell (World.block_lt_of_cell? w _ hx130_1)).trans hx130_1
                                          replace p130 := eq_true p130
                                          replace q130 := eq_true q130
                                          have p24 : 0 ≤ ((((rd_T92 l0 x3_1).f0).size : Int) : Int) := of_decide_eq_true (by first | (with_reducible assumption) | assumption)
                                          have q24 : (((rd_T92 l0 x3_1).f0).size : Int) < (((rd_T92 l0 x6_3).f0).size : Int) := of_decide_eq_true (by first | (with_reducible assumption) | assumption)
                                          have hx24 := bt_at ((rd_T92 l0 x6_3).f0) (((rd_T92 l0 x3_1).f0).size : Int)
                                          have hx24n := hx24; simp only [Int.toNat_natCast] at hx24n; replace hx24n := hx24n (of_decide_eq_true (by assumption))
                                          replace p24 := eq_true p24
                                          replace q24 := eq_true q24
                                          go_wp2
                                          repeat (go_quiet (fail); try go_wp2)
                                          go_ret
                                          exact ⟨ri_, bel_⟩
                                        · rw [if_neg c25] at H
                                          have c25b0 : ((bt ((rd_T92 l0 x6_3).f0) (((rd_T92 l0 x3_1).f0).size : Int)) == 47) = false := beq_eq_false_iff_ne.mpr c25
                                          have c25b1 : ((bt ((rd_T92 l0 x6_3).f0) (((rd_T92 l0 x3_1).f0).size : Int)) != 47) = true := bne_iff_ne.mpr c25
                                          have H' := AM H
                                          clear H
                                          have p126 : 0 ≤ (x3_1 : Int) := of_decide_eq_true (by first | (with_reducible assumption) | assumption)
                                          have q126 : x3_1 < (l0.length : Int) := of_decide_eq_true (by first | (with_reducible assumption) | assumption)
                                          obtain ⟨ad126, e126, hx126_0, hx126_1⟩ := at_T92 HR0.out x3_1 p126 q126
                                          obtain rfl : ad118 = ad126 := (by injection e126)
                                          replace hx126_0 := (HB.out.cell (World.block_lt_of_cell? w _ hx126_0)).trans hx126_0
                                          replace hx126_1 := (HB.out.cell (World.block_lt_of_cell? w _ hx126_1)).trans hx126_1
                                          replace p126 := eq_true p126
                                          replace q126 := eq_true q126
                                          have p127 : 0 ≤ (x6_3 : Int) := of_decide_eq_true (by first | (with_reducible assumption) | assumption)
                                          have q127 : x6_3 < (l0.length : Int) := of_decide_eq_true (by first | (with_reducible assumption) | assumption)
                                          obtain ⟨ad127, e127, hx127_0, hx127_1⟩ := at_T92 HR0.out x6_3 p127 q127
                                          obtain rfl : ad118 = ad127 := (by injection e127)
                                          replace hx127_0 := (HB.out.cell (World.block_lt_of_cell? w _ hx127_0)).trans hx127_0
                                          replace hx127_1 := (HB.out.cell (World.block_lt_of_cell? w _ hx127_1)).trans hx127_1
                                          replace p127 := eq_true p127
                                          replace q127 := eq_true q127
                                          have p128 : 0 ≤ (x6_3 : Int) := of_decide_eq_true (by first | (with_reducible assumption) | assumption)
                                          have q128 : x6_3 < (l0.length : Int) := of_decide_eq_true (by first | (with_reducible assumption) | assumption)
                                          obtain ⟨ad128, e128, hx128_0, hx128_1⟩ := at_T92 HR0.out x6_3 p128 q128
                                          obtain rfl : ad118 = ad128 := (by injection e128)
                                          replace hx128_0 := (HB.out.cell (World.block_lt_of_cell? w _ hx128_0)).trans hx128_0
                                          replace hx128_1 := (HB.out.cell (World.block_lt_of_cell? w _ hx128_1)).trans hx128_1
                                          replace p128 := eq_true p128
                                          replace q128 := eq_true q128
                                          have p129 : 0 ≤ (x3_1 : Int) := of_decide_eq_true (by first | (with_reducible assumption) | assumption)
                                          have q129 : x3_1 < (l0.length : Int) := of_decide_eq_true (by first | (with_reducible assumption) | assumption)
                                          obtain ⟨ad129, e129, hx129_0, hx129_1⟩ := at_T92 HR0.out x3_1 p129 q129
                                          obtain rfl : ad118 = ad129 := (by injection e129)
                                          replace hx129_0 := (HB.out.cell (World.block_lt_of_cell? w _ hx129_0)).trans hx129_0
                                          replace hx129_1 := (HB.out.cell (World.block_lt_of_cell? w _ hx129_1)).trans hx129_1
                                          replace p129 := eq_true p129
                                          replace q129 := eq_true q129
                                          have p130 : 0 ≤ (x6_3 : Int) := of_decide_eq_true (by first | (with_reducible assumption) | assumption)
                                          have q130 : x6_3 < (l0.length : Int) := of_decide_eq_true (by first | (with_reducible assumption) | assumption)
                                          obtain ⟨ad130, e130, hx130_0, hx130_1⟩ := at_T92 HR0.out x6_3 p130 q130
                                          obtain rfl : ad118 = ad130 := (by injection e130)
                                          replace hx130_0 := (HB.out.cell (World.block_lt_of_cell? w _ hx130_0)).trans hx130_0
                                          replace hx130_1 := (HB.out.cell (World.block_lt_of_cell? w _ hx130_1)).trans hx130_1
                                          replace p130 := eq_true p130
                                          replace q130 := eq_true q130
                                          have p24 : 0 ≤ ((((rd_T92 l0 x3_1).f0).size : Int) : Int) := of_decide_eq_true (by first | (with_reducible assumption) | assumption)
                                          have q24 : (((rd_T92 l0 x3_1).f0).size : Int) < (((rd_T92 l0 x6_3).f0).size : Int) := of_decide_eq_true (by first | (with_reducible assumption) | assumption)
                                          have hx24 := bt_at ((rd_T92 l0 x6_3).f0) (((rd_T92 l0 x3_1).f0).size : Int)
                                          have hx24n := hx24; simp only [Int.toNat_natCast] at hx24n; replace hx24n := hx24n (of_decide_eq_true (by assumption))
                                          replace p24 := eq_true p24
                                          replace q24 := eq_true q24
                                          go_wp2
                                          repeat (go_quiet (fail); try go_wp2)
                                          go_roundg k3
                                          case measure => have := HK1.out; have := HJ5.out; have := HK3.out; omega
                                          case rel => exact ⟨(wrap64 (x6_3 + 1)), (by first | rfl | (simp; done) | (simp [*]; done)), H', ⟨by have := HK1.out; have := HJ5.out; have := HK3.out; omega⟩, ⟨bel_⟩⟩
                                      · rw [if_neg c23] at H
                                        exact absurd H (by simp)
                                    · rw [if_neg c22] at H
                                      have c22b0 : ((((rd_T92 l0 x6_3).f0).extract 0 ((((rd_T92 l0 x3_1).f0).size : Int) : Int).toNat).toList == ((rd_T92 l0 x3_1).f0).toList) = false := beq_eq_false_iff_ne.mpr c22
                                      have c22b70 := c22b0; simp only [Int.toNat_natCast] at c22b70
                                      have c22b1 : ((((rd_T92 l0 x6_3).f0).extract 0 ((((rd_T92 l0 x3_1).f0).size : Int) : Int).toNat).toList != ((rd_T92 l0 x3_1).f0).toList) = true := bne_iff_ne.mpr c22
                                      have c22b71 := c22b1; simp only [Int.toNat_natCast] at c22b71
                                      have H' := AM H
                                      clear H
                                      have p126 : 0 ≤ (x3_1 : Int) := of_decide_eq_true (by first | (with_reducible assumption) | assumption)
                                      have q126 : x3_1 < (l0.length : Int) := of_decide_eq_true (by first | (with_reducible assumption) | assumption)
                                      obtain ⟨ad126, e126, hx126_0, hx126_1⟩ := at_T92 HR0.out x3_1 p126 q126
                                      obtain rfl : ad118 = ad126 := (by injection e126)
                                      replace hx126_0 := (HB.out.cell (World.block_lt_of_cell? w _ hx126_0)).trans hx126_0
                                      replace hx126_1 := (HB.out.cell (World.block_lt_of_cell? w _ hx126_1)).trans hx126_1
                                      replace p126 := eq_true p126
                                      replace q126 := eq_true q126
                                      have p127 : 0 ≤ (x6_3 : Int) := of_decide_eq_true (by first | (with_reducible assumption) | assumption)
                                      have q127 : x6_3 < (l0.length : Int) := of_decide_eq_true (by first | (with_reducible assumption) | assumption)
                                      obtain ⟨ad127, e127, hx127_0, hx127_1⟩ := at_T92 HR0.out x6_3 p127 q127
                                      obtain rfl : ad118 = ad127 := (by injection e127)
                                      replace hx127_0 := (HB.out.cell (World.block_lt_of_cell? w _ hx127_0)).trans hx127_0
                                      replace hx127_1 := (HB.out.cell (World.block_lt_of_cell? w _ hx127_1)).trans hx127_1
                                      replace p127 := eq_true p127
                                      replace q127 := eq_true q127
                                      have p128 : 0 ≤ (x6_3 : Int) := of_decide_eq_true (by first | (with_reducible assumption) | assumption)
                                      have q128 : x6_3 < (l0.length : Int) := of_decide_eq_true (by first | (with_reducible assumption) | assumption)
                                      obtain ⟨ad128, e128, hx128_0, hx128_1⟩ := at_T92 HR0.out x6_3 p128 q128
                                      obtain rfl : ad118 = ad128 := (by injection e128)
                                      replace hx128_0 := (HB.out.cell (World.block_lt_of_cell? w _ hx128_0)).trans hx128_0
                                      replace hx128_1 := (HB.out.cell (World.block_lt_of_cell? w _ hx128_1)).trans hx128_1
                                      replace p128 := eq_true p128
                                      replace q128 := eq_true q128
                                      have p129 : 0 ≤ (x3_1 : Int) := of_decide_eq_true (by first | (with_reducible assumption) | assumption)
                                      have q129 : x3_1 < (l0.length : Int) := of_decide_eq_true (by first | (with_reducible assumption) | assumption)
                                      obtain ⟨ad129, e129, hx129_0, hx129_1⟩ := at_T92 HR0.out x3_1 p129 q129
                                      obtain rfl : ad118 = ad129 := (by injection e129)
                                      replace hx129_0 := (HB.out.cell (World.block_lt_of_cell? w _ hx129_0)).trans hx129_0
                                      replace hx129_1 := (HB.out.cell (World.block_lt_of_cell? w _ hx129_1)).trans hx129_1
                                      replace p129 := eq_true p129
                                      replace q129 := eq_true q129
                                      go_wp2
                                      repeat (go_quiet (fail); try go_wp2)
                                      go_roundg k3
                                      case measure => have := HK1.out; have := HJ5.out; have := HK3.out; omega
                                      case rel => exact ⟨(wrap64 (x6_3 + 1)), (by first | rfl | (simp; done) | (simp [*]; done)), H', ⟨by have := HK1.out; have := HJ5.out; have := HK3.out; omega⟩, ⟨bel_⟩⟩
                                  · rw [if_neg c21] at H
                                    exact absurd H (by simp)
                                · rw [if_neg c20] at H
                                  exact absurd H (by simp)
                              · rw [if_neg c19] at H
                                have c19b0 : decide ((((rd_T92 l0 x3_1).f0).size : Int) < (((rd_T92 l0 x6_3).f0).size : Int)) = false := decide_eq_false c19
                                have c19b80 := c19b0; (try simp only [gt_iff_lt, ge_iff_le, Int.ofNat_le, Int.ofNat_lt] at c19b80)
                                have c19b1 : decide (((rd_T92 l0 x3_1).f0).size < ((rd_T92 l0 x6_3).f0).size) = false := decide_eq_false (fun h => c19 (Int.ofNat_lt.mpr h))
                                clear c19
                                have H' := AM H
                                clear H
                                have p126 : 0 ≤ (x3_1 : Int) := of_decide_eq_true (by first | (with_reducible assumption) | assumption)
                                have q126 : x3_1 < (l0.length : Int) := of_decide_eq_true (by first | (with_reducible assumption) | assumption)
                                obtain ⟨ad126, e126, hx126_0, hx126_1⟩ := at_T92 HR0.out x3_1 p126 q126
                                obtain rfl : ad118 = ad126 := (by injection e126)
                                replace hx126_0 := (HB.out.cell (World.block_lt_of_cell? w _ hx126_0)).trans hx126_0
                                replace hx126_1 := (HB.out.cell (World.block_lt_of_cell? w _ hx126_1)).trans hx126_1
                                replace p126 := eq_true p126
                                replace q126 := eq_true q126
                                have p127 : 0 ≤ (x6_3 : Int) := of_decide_eq_true (by first | (with_reducible assumption) | assumption)
                                have q127 : x6_3 < (l0.length : Int) := of_decide_eq_true (by first | (with_reducible assumption) | assumption)
                                obtain ⟨ad127, e127, hx127_0, hx127_1⟩ := at_T92 HR0.out x6_3 p127 q127
                                obtain rfl : ad118 = ad127 := (by injection e127)
                                replace hx127_0 := (HB.out.cell (World.block_lt_of_cell? w _ hx127_0)).trans hx127_0
                                replace hx127_1 := (HB.out.cell (World.block_lt_of_cell? w _ hx127_1)).trans hx127_1
                                replace p127 := eq_true p127
                                replace q127 := eq_true q127
                                go_wp2
                                repeat (go_quiet (fail); try go_wp2)
                                go_roundg k3
                                case measure => have := HK1.out; have := HJ5.out; have := HK3.out; omega
                                case rel => exact ⟨(wrap64 (x6_3 + 1)), (by first | rfl | (simp; done) | (simp [*]; done)), H', ⟨by have := HK1.out; have := HJ5.out; have := HK3.out; omega⟩, ⟨bel_⟩⟩
                            · rw [if_neg c18] at H
                              exact absurd H (by simp)
                          · rw [if_neg c17] at H
                            exact absurd H (by simp)
                        · rw [if_neg c16] at H
                          exact absurd H (by simp)
                      · rw [if_neg c15] at H
                        have c15b0 : decide (x6_3 < (l0.length : Int)) = false := decide_eq_false c15
                        clear c15
                        have H' := AM H
                        clear H
                        go_wp2
                        repeat (go_quiet (fail); try go_wp2)
                        go_roundg k3
                        case measure => have := HK1.out; have := HJ5.out; have := HK3.out; omega
                        case rel => exact ⟨(wrap64 (x3_1 + 1)), (by first | rfl | (simp; done) | (simp [*]; done)), H', ⟨by have := HK1.out; have := HJ5.out; have := HK3.out; omega⟩, ⟨bel_⟩⟩
          · rw [if_neg c4] at H
            exact absurd H (by simp)
        · rw [if_neg c3] at H
          have c3b0 : decide (x3_1 < (l0.length : Int)) = false := decide_eq_false c3
          clear c3
          obtain rfl := Option.some.inj H
          go_wp2
          repeat (go_quiet (fail); try go_wp2)
          go_ret
          exact ⟨ri_, bel_⟩

/-! ### laws_toFile: function 70 -/
def laws_toFile.f (a0_0 : ByteArray) (a0_1 : ByteArray) : Option (ByteArray × ByteArray) := some (a0_0, a0_1)
set_option maxHeartbeats 8000000 in
set_option maxRecDepth 100000 in
theorem laws_toFile.calls (a0_0 : ByteArray) (a0_1 : ByteArray) (r1 : ByteArray) (r2 : ByteArray) (w : World) (h : laws_toFile.f a0_0 a0_1 = some (r1, r2)) :
    Calls Tryd.prog 70 #[.agg #[.string a0_0, .string a0_1]] w fun e w' => e = .returned (.agg #[.string r1, .string r2]) ∧ Below w.heap.size w w' := by
  have hu88 := Tryd.underlying88
  have hu92 := Tryd.underlying92
  have HB := AM (Below.refl w.heap.size w)
  have H : (some (a0_0, a0_1)) = some (r1, r2) := h
  clear h
  simp only [Option.some.injEq, Prod.mk.injEq] at H
  obtain ⟨rfl, rfl⟩ := H
  go_enter Tryd.func70, Tryd.ntmps70
  go_wp2_with (first | ((with_reducible refine gate_dst (N := 1) rfl ?_); refine be_ 1 #[.string a0_0, .string a0_1] 88 ?_; intro gb131 hg w2 hbox hb; have BK131 := AM hbox; have GW131 := AM ((by rw [hg]; exact (below_size bel_) : w.heap.size ≤ gb131)); have GE131 := AM ((by rw [hg]; exact (below_size bel_) : w.heap.size ≤ gb131)); replace HB := AM (below_step bel_ hb); clear hb hbox hg) | ((with_reducible refine gate_dst (N := 2) rfl ?_); refine be_ 2 #[.string (⟨#[]⟩ : ByteArray), .string (⟨#[]⟩ : ByteArray)] 92 ?_; intro gb132 hg w3 hbox hb; have BK132 := AM hbox; have GW132 := AM ((by rw [hg]; exact (below_size bel_) : w.heap.size ≤ gb132)); have GE132 := AM ((by rw [hg]; exact (below_size bel_) : w.heap.size ≤ gb132)); replace HB := AM (below_step bel_ hb); have NB131_132 := AM ((by rw [hg]; exact Nat.ne_of_lt (blk_lt (g := gb131) (o := .cells #[.string a0_0, .string a0_1] 88 (0, 0)) (bk_ BK131.out)) : gb131 ≠ gb132)); have NB132_131 := AM ((by rw [hg]; exact Nat.ne_of_gt (blk_lt (g := gb131) (o := .cells #[.string a0_0, .string a0_1] 88 (0, 0)) (bk_ BK131.out)) : gb132 ≠ gb131)); replace BK131 := AM (blk_below (g := gb131) (o := .cells #[.string a0_0, .string a0_1] 88 (0, 0)) (bk_ BK131.out) hb); clear hb hbox hg) | ((with_reducible refine gate_dst (N := 3) rfl ?_); refine be_ 3 #[.string (⟨#[]⟩ : ByteArray), .string (⟨#[]⟩ : ByteArray)] 92 ?_; intro gb133 hg w4 hbox hb; have BK133 := AM hbox; have GW133 := AM ((by rw [hg]; exact (below_size bel_) : w.heap.size ≤ gb133)); have GE133 := AM ((by rw [hg]; exact (below_size bel_) : w.heap.size ≤ gb133)); replace HB := AM (below_step bel_ hb); have NB131_133 := AM ((by rw [hg]; exact Nat.ne_of_lt (blk_lt (g := gb131) (o := .cells #[.string a0_0, .string a0_1] 88 (0, 0)) (bk_ BK131.out)) : gb131 ≠ gb133)); have NB133_131 := AM ((by rw [hg]; exact Nat.ne_of_gt (blk_lt (g := gb131) (o := .cells #[.string a0_0, .string a0_1] 88 (0, 0)) (bk_ BK131.out)) : gb133 ≠ gb131)); replace BK131 := AM (blk_below (g := gb131) (o := .cells #[.string a0_0, .string a0_1] 88 (0, 0)) (bk_ BK131.out) hb); have NB132_133 := AM ((by rw [hg]; exact Nat.ne_of_lt (blk_lt (g := gb132) (o := .cells #[.string (⟨#[]⟩ : ByteArray), .string (⟨#[]⟩ : ByteArray)] 92 (0, 0)) (bk_ BK132.out)) : gb132 ≠ gb133)); have NB133_132 := AM ((by rw [hg]; exact Nat.ne_of_gt (blk_lt (g := gb132) (o := .cells #[.string (⟨#[]⟩ : ByteArray), .string (⟨#[]⟩ : ByteArray)] 92 (0, 0)) (bk_ BK132.out)) : gb133 ≠ gb132)); replace BK132 := AM (blk_below (g := gb132) (o := .cells #[.string (⟨#[]⟩ : ByteArray), .string (⟨#[]⟩ : ByteArray)] 92 (0, 0)) (bk_ BK132.out) hb); clear hb hbox hg; have hnb5 := NB131_132.out; have hnc5 := NB132_131.out; have hnb6 := NB131_133.out; have hnc6 := NB133_131.out; have hcz7_0 : w4.cell? ⟨gb131, 0, none⟩ = some (.string a0_0) := (blk_cell BK131.out 0).trans rfl; have hcz7_1 : w4.cell? ⟨gb131, 1, none⟩ = some (.string a0_1) := (blk_cell BK131.out 1).trans rfl; have hfz7_0 := blk_frozen BK131.out 0; have hfz7_1 := blk_frozen BK131.out 1; have hnb8 := NB133_132.out; have hnc8 := NB132_133.out; have hcz9_0 : w4.cell? ⟨gb133, 0, none⟩ = some (.string (⟨#[]⟩ : ByteArray)) := (blk_cell BK133.out 0).trans rfl; have hcz9_1 : w4.cell? ⟨gb133, 1, none⟩ = some (.string (⟨#[]⟩ : ByteArray)) := (blk_cell BK133.out 1).trans rfl; have hfz9_0 := blk_frozen BK133.out 0; have hfz9_1 := blk_frozen BK133.out 1; have hcz10_0 : w4.cell? ⟨gb132, 0, none⟩ = some (.string (⟨#[]⟩ : ByteArray)) := (blk_cell BK132.out 0).trans rfl; have hcz10_1 : w4.cell? ⟨gb132, 1, none⟩ = some (.string (⟨#[]⟩ : ByteArray)) := (blk_cell BK132.out 1).trans rfl; have hfz10_0 := blk_frozen BK132.out 0; have hfz10_1 := blk_frozen BK132.out 1))
  refine bodyPost_ret (results_cell_row rfl _ _ gb132 92 #[.string a0_0, .string a0_1] (0, 0) _ rfl bka_ Tryd.underlying92 rfl (by kernel_rfl)) rfl ?_
  exact ⟨ri_, bel_⟩

/-! ### laws_toFileS: function 31 -/
def laws_toFileS.l0 : Nat → List (S88) → List (S92) → Int → Option ((List (S92)))
  | 0, _, _, _ => none
  | k + 1, x0, x3, x4 => if x4 < (x0.length : Int) then (if 0 ≤ x4 then ((laws_toFile.f ((rd_T88 x0 x4).f0) ((rd_T88 x0 x4).f1)).bind fun bt138 => (if x4 < (x3.length : Int) then (laws_toFileS.l0 k x0 (x3.set (x4 : Int).toNat (⟨bt138.1, bt138.2⟩ : S92)) (wrap64 (x4 + 1))) else (none))) else (none)) else (some x3)
def laws_toFileS.f (k : Nat) (l0 : List (S88)) : Option ((List (S92))) := if 0 ≤ (l0.length : Int) then (if ((l0.length : Int) : Int).toNat ≤ 8796093022208 then (laws_toFileS.l0 k l0 (List.replicate ((l0.length : Int) : Int).toNat z92) 0) else (none)) else (none)
theorem laws_toFileS.mono_l : ∀ k, (∀ y0 y1 y2, LeO (laws_toFileS.l0 k y0 y1 y2) (laws_toFileS.l0 (k + 1) y0 y1 y2))
  | 0 => fun _ _ _ r h => by simp [laws_toFileS.l0] at h
  | k + 1 => by
    have ih0 := laws_toFileS.mono_l k
    · intro y0 y1 y2
      unfold laws_toFileS.l0
      repeat' first
      | (with_reducible exact ih0 _ _ _)
      | (with_reducible exact LeO.refl _)
      | (with_reducible exact LeO.none _)
      | (with_reducible refine LeO.ite ?_ ?_)
      | (with_reducible refine LeO.bind ?_ (fun _ => ?_))
      | exact ih0 _ _ _
      | exact LeO.none _
      | refine LeO.ite ?_ ?_
      | refine LeO.bind ?_ (fun _ => ?_)
theorem laws_toFileS.mono : ∀ a0 k, LeO (laws_toFileS.f k a0) (laws_toFileS.f (k + 1) a0) := by
  intro a0 k
  have ih0 := laws_toFileS.mono_l k
  unfold laws_toFileS.f
  repeat' first
      | (with_reducible exact ih0 _ _ _)
      | (with_reducible exact LeO.refl _)
      | (with_reducible exact LeO.none _)
      | (with_reducible refine LeO.ite ?_ ?_)
      | (with_reducible refine LeO.bind ?_ (fun _ => ?_))
      | exact ih0 _ _ _
      | exact LeO.none _
      | refine LeO.ite ?_ ?_
      | refine LeO.bind ?_ (fun _ => ?_)
set_option maxHeartbeats 8000000 in
set_option maxRecDepth 100000 in
theorem laws_toFileS.calls (k : Nat) (A0 : Option Addr) (c0 : Nat) (l0 : List (S88)) (r : List (S92)) (w : World) (hr0 : Kd.C k88 w A0 l0.length l0) (hc0 : l0.length ≤ c0) (h : laws_toFileS.f k l0 = some r) :
    Calls Tryd.prog 31 #[.slice A0 l0.length c0] w fun e w' => ∃ v0_ : Value, e = .returned (v0_) ∧ Kd.R k92 92 w' w.heap.size (fun _ => True) v0_ r ∧ Below w.heap.size w w' := by
  have hu88 := Tryd.underlying88
  have hu92 := Tryd.underlying92
  have HR0 := AM hr0
  have HC0 := AM hc0
  clear hr0 hc0
  have HB := AM (Below.refl w.heap.size w)
  have H : (if 0 ≤ (l0.length : Int) then (if ((l0.length : Int) : Int).toNat ≤ 8796093022208 then (laws_toFileS.l0 k l0 (List.replicate ((l0.length : Int) : Int).toNat z92) 0) else (none)) else (none)) = some r := h
  clear h
  by_cases c2 : 0 ≤ (l0.length : Int)
  · rw [if_pos c2] at H
    have c2b0 := eq_true c2
    have c2b1 : decide (0 ≤ (l0.length : Int)) = true := decide_eq_true c2
    clear c2
    by_cases c3 : ((l0.length : Int) : Int).toNat ≤ 8796093022208
    · rw [if_pos c3] at H
      have c3b0 := eq_true c3
      have c3b1 : decide (((l0.length : Int) : Int).toNat ≤ 8796093022208) = true := decide_eq_true c3
      clear c3
      obtain ⟨y134, hy134⟩ : ∃ y_ : List (S92), y_ = (List.replicate ((l0.length : Int) : Int).toNat z92) := ⟨_, rfl⟩
      replace H : (laws_toFileS.l0 k l0 y134 0) = some r := by first | (rw [hy134]; with_reducible exact H) | (have H2_ := (Option.bind_some _ _).symm.trans H; rw [hy134]; with_reducible exact H2_) | (have H2_ := (Option.bind_some _ _).symm.trans H; with_reducible exact H2_) | with_reducible exact H | (rw [hy134]; exact H) | exact H
      have Ny134 := AM hy134
      clear hy134
      have H' := AM H
      clear H
      go_enter Tryd.func31, Tryd.ntmps31
      go_wp2_with (first | ((with_reducible refine gate_dst (N := 7) rfl ?_); refine Kd.R_make k92 _ 92 rfl (N := 7) rfl 48 _ _ rfl (l0.length : Int) rfl rfl Tryd.underlying48 (.agg #[(.string ⟨#[]⟩), (.string ⟨#[]⟩)]) 32 info92 rfl (by decide) (by omega) z92 (ok := fun _ => True) (okp := fun _ => True) (k92_mkM _ _ _ z92 ) (fun _ hk => hk) trivial (of_decide_eq_true (by first | (with_reducible assumption) | assumption)) (Nat.le_trans (Nat.mul_le_mul_right _ (of_decide_eq_true (by first | (with_reducible assumption) | assumption) : (l0.length : Int).toNat ≤ 8796093022208)) (by omega)) (Below.refl _ _) (Nat.le_refl _) ?_; intro v135 w4 ho5 hb hg_ hnew_; clear hg_ hnew_; (first | rw [← Ny134.out] at ho5 | (simp only [Int.reduceToNat] at ho5; rw [← Ny134.out] at ho5)); have HO136 := AM (Kd.R_lower ho5 (below_size bel_)); replace HB := AM (below_step bel_ hb); clear hb ho5))
      go_loopg [4] k (fun kq v4 w' => ∃ (x3_1 : List (S92)) (x4_1 : Int), v4 = .int .i64 x4_1 ∧ Aside0 (laws_toFileS.l0 kq l0 x3_1 x4_1 = some r) ∧ Aside0 (kq ≤ k) ∧ Aside0 (Kd.R k92 92 w' w.heap.size (fun _ => True) v135 x3_1) ∧ Aside0 (Below w.heap.size w w'))
      case atStart => exact ⟨(y134), (0), (by first | rfl | (simp; done) | (simp [*]; done)), H', ⟨Nat.le_refl _⟩, ⟨ro_ HO136.out⟩, ⟨bel_⟩⟩
      case round =>
        clear H'
        try clear c2
        try clear c2b0
        try clear c2b1
        try clear p2
        try clear c3
        try clear c3b0
        try clear c3b1
        obtain ⟨x3_1, x4_1, rfl, HA, HK1, HO_3, HB⟩ := hrel
        cases gk with
        | zero => exact absurd HA.out (by simp [laws_toFileS.l0])
        | succ k1 =>
          have H := HA.out
          clear HA
          simp only [laws_toFileS.l0] at H
          by_cases c6 : x4_1 < (l0.length : Int)
          · rw [if_pos c6] at H
            have c6b0 : decide (x4_1 < (l0.length : Int)) = true := decide_eq_true c6
            clear c6
            by_cases c7 : 0 ≤ x4_1
            · rw [if_pos c7] at H
              have c7b0 : decide (0 ≤ x4_1) = true := decide_eq_true c7
              clear c7
              obtain ⟨⟨t138, t139⟩, A8, H⟩ := OB H
              try dsimp only at H
              replace A8 := AM A8
              by_cases c9 : x4_1 < (x3_1.length : Int)
              · rw [if_pos c9] at H
                have c9b0 : decide (x4_1 < (x3_1.length : Int)) = true := decide_eq_true c9
                clear c9
                obtain ⟨y140, hy140⟩ : ∃ y_ : List (S92), y_ = (x3_1.set (x4_1 : Int).toNat (⟨t138, t139⟩ : S92)) := ⟨_, rfl⟩
                replace H : (laws_toFileS.l0 k1 l0 y140 (wrap64 (x4_1 + 1))) = some r := by first | (rw [hy140]; with_reducible exact H) | (have H2_ := (Option.bind_some _ _).symm.trans H; rw [hy140]; with_reducible exact H2_) | (have H2_ := (Option.bind_some _ _).symm.trans H; with_reducible exact H2_) | with_reducible exact H | (rw [hy140]; exact H) | exact H
                have Ny140 := AM hy140
                clear hy140
                have H' := AM H
                clear H
                have p137 : 0 ≤ (x4_1 : Int) := of_decide_eq_true (by first | (with_reducible assumption) | assumption)
                have q137 : x4_1 < (l0.length : Int) := of_decide_eq_true (by first | (with_reducible assumption) | assumption)
                obtain ⟨ad137, e137, hx137_0, hx137_1⟩ := at_T88 HR0.out x4_1 p137 q137
                cases e137
                replace hx137_0 := (HB.out.cell (World.block_lt_of_cell? w _ hx137_0)).trans hx137_0
                replace hx137_1 := (HB.out.cell (World.block_lt_of_cell? w _ hx137_1)).trans hx137_1
                replace p137 := eq_true p137
                replace q137 := eq_true q137
                go_wp2_with (first | ((with_reducible refine gate_callee (f := 70) rfl ?_); refine gl_ (some 20) Tryd.func70 #[.agg #[.string ((rd_T88 l0 x4_1).f0), .string ((rd_T88 l0 x4_1).f1)]] ?_; (with_reducible refine (laws_toFile.calls ((rd_T88 l0 x4_1).f0) ((rd_T88 l0 x4_1).f1) t138 t139 _ A8.out).mono ?_); rintro e w11 ⟨rfl, hb⟩; refine ⟨_, rfl, ?_⟩; replace HO_3 := AM (Kd.R_below (ro_ HO_3.out) hb); replace HB := AM (below_step bel_ hb); (try clear hb); (try clear hb2); (try clear hk); (try clear hi); have p10 : 0 ≤ (x4_1 : Int) := of_decide_eq_true (by first | (with_reducible assumption) | assumption); have q10 : (x4_1 : Int) < ((x3_1.length : Int) : Int) := of_decide_eq_true (by first | (with_reducible assumption) | assumption); obtain ⟨go10, co10, eo10, gb10, gl10, cl10, HG10⟩ := Kd.R_form HO_3.out (by omega); (first | cases eo10 | (injection eo10 with ea_ en_ ec_; (first | subst ea_ | (injection ea_ with ea_; subst ea_)); subst ec_; clear en_)); have GB10 := AM gb10; have GG10 := AM HG10; clear gb10 gl10 HG10; obtain ⟨ce10, hcl10, hM10, hcc10, hfr10⟩ := Kd.R_elem HO_3.out z92 (x4_1 : Int) p10 q10; obtain rfl := k92_openM hM10; have hx10_0 : w11.cell? ⟨go10, (x4_1 : Int).toNat * 2, none⟩ = some (.string ((rd_T92 x3_1 x4_1).f0)) := hcc10 0 _ rfl; have hx10_1 : w11.cell? ⟨go10, (x4_1 : Int).toNat * 2 + 1, none⟩ = some (.string ((rd_T92 x3_1 x4_1).f1)) := hcc10 1 _ rfl; have hf10_0 : w11.frozen? ⟨go10, (x4_1 : Int).toNat * 2, none⟩ = false := hfr10 0; have hf10_1 : w11.frozen? ⟨go10, (x4_1 : Int).toNat * 2 + 1, none⟩ = false := hfr10 1; clear hcl10 hcc10 hfr10 hM10; replace p10 := eq_true p10; replace q10 := eq_true q10; have HX12 := AM (show Kd.R k92 92 w11 w.heap.size (fun _ => True) (.slice (some ⟨go10, 0, none⟩) x3_1.length co10) x3_1 from (ro_ HO_3.out)); obtain ⟨ce12, hcl12, hM12, hcc12, hfr12⟩ := Kd.R_elem HX12.out z92 (x4_1 : Int) (of_decide_eq_true (by first | (with_reducible assumption) | assumption)) (by have h_ : (x4_1 : Int) < ((x3_1.length : Int) : Int) := of_decide_eq_true (by first | (with_reducible assumption) | assumption); first | exact h_ | (have e_ := (Kd.R_reads' HO_3.out).1; omega) | simpa using h_); obtain rfl := k92_openM hM12; have HP12 := Kd.R_seg HX12.out (x4_1 : Int) (of_decide_eq_true (by first | (with_reducible assumption) | assumption)) (by have h_ : (x4_1 : Int) < ((x3_1.length : Int) : Int) := of_decide_eq_true (by first | (with_reducible assumption) | assumption); first | exact h_ | (have e_ := (Kd.R_reads' HO_3.out).1; omega) | simpa using h_) (seg := [.string t138, .string t139]) (j := 0) hcl12 hcc12 (show 2 ≤ 2 from by decide) (x' := (⟨t138, t139⟩ : S92)) (k92_mkM _ _ _ (⟨t138, t139⟩ : S92) ) (fun _ hk => hk); have hx12_0 := hcc12 0 _ rfl; (try simp only [show (k92).sz = 2 from rfl, Nat.mul_one, Nat.add_zero] at hx12_0); have hf12_0 := hfr12 0; (try simp only [show (k92).sz = 2 from rfl, Nat.mul_one, Nat.add_zero] at hf12_0); have hx12_1 := hcc12 1 _ rfl; (try simp only [show (k92).sz = 2 from rfl, Nat.mul_one, Nat.add_zero] at hx12_1); have hf12_1 := hfr12 1; (try simp only [show (k92).sz = 2 from rfl, Nat.mul_one, Nat.add_zero] at hf12_1); clear hcl12 hcc12 hfr12 hM12) | ((with_reducible refine gate_store (t := 92) (p := 21) rfl ?_); refine store_event (t := 92) (p := 21) (v := ?vo_w13) (w1 := ((w11.setCell ⟨go10, (x4_1 : Int).toNat * 2, none⟩ (.string t138)).setCell ⟨go10, (x4_1 : Int).toNat * 2 + 1, none⟩ (.string t139))) ?hg ?ho ?hn ?hr ?_; (case ho => rfl); (case hg => rfl); (case hn => rfl); (case hr => first | (go_simp; done) | (go_simp; rfl)); intro w13 hw; have hg : w11.grownBy w13 (some go10) := (by rw [hw]; exact HP12.2); have hp_ : Kd.R k92 92 w13 w.heap.size (fun _ => True) (.slice (some ⟨go10, 0, none⟩) x3_1.length co10) y140 := (by rw [hw, Ny140.out]; exact HP12.1); clear HP12; replace HO_3 := AM hp_; replace HB := AM ((by rw [hw]; exact below_set (below_set (HB.out) GB10.out) GB10.out : Below w.heap.size w w13)); clear hg hw hp_))
                go_roundg k1
                case measure => have := HK1.out; omega
                case rel => exact ⟨(y140), (wrap64 (x4_1 + 1)), (by first | rfl | (simp; done) | (simp [*]; done)), H', ⟨by have := HK1.out; omega⟩, ⟨ro_ HO_3.out⟩, ⟨bel_⟩⟩
              · rw [if_neg c9] at H
                exact absurd H (by simp)
            · rw [if_neg c7] at H
              exact absurd H (by simp)
          · rw [if_neg c6] at H
            have c6b0 : decide (x4_1 < (l0.length : Int)) = false := decide_eq_false c6
            clear c6
            obtain rfl := Option.some.inj H
            go_wp2
            go_ret
            exact ⟨_, ri_, ro_ HO_3.out, bel_⟩
    · rw [if_neg c3] at H
      exact absurd H (by simp)
  · rw [if_neg c2] at H
    exact absurd H (by simp)

-- NOT PRINTED: function 162 (utf8_RuneCountInString)

-- NOT PRINTED: function 172 (utf8_decodeRuneInStringSlow)

-- NOT PRINTED: function 163 (utf8_DecodeRuneInString)

-- NOT PRINTED: function 146 (strings_explode)

-- NOT PRINTED: function 178 (bytealg_IndexByteString)

-- NOT PRINTED: function 174 (bytealg_IndexString)

end Go.Proofs.YtfffdndeccipnaaDoor.PFnExactFilesRight
