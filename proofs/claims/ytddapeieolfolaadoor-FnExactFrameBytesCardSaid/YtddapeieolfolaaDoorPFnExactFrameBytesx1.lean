/- Functions of the law FnExactFrameBytes: the print's, with walks of this session's own. No statement is proved here. -/
import Derived.WalkLawsBesides
import Derived.Test.YtddapeieolfolaaDoorVRegFnExactFrameBytes
-- A program of this session wrote this text: a changed copy of the kit print, with given functions.
import Derived.Test.YtddapeieolfolaaDoorPFnExactFrameBytesx0
namespace Go.Proofs.YtddapeieolfolaaDoor.PFnExactFrameBytes
open Go.RowKit Go.Proofs.YtddapeieolfolaaDoorW.PrintWords Go.Proofs.YtddapeieolfolaaDoorW.PrintLast Go.Proofs.YtddapeieolfolaaDoorW.PrintMore Go.Proofs.YtddapeieolfolaaDoor.Reg Go.Proofs.YtddapeieolfolaaDoor.Aut
attribute [local go_sem] max2_int min2_int max_two min_two max_three min_three max_four min_four   -- for this text's walks alone
set_option linter.unusedVariables false
set_option linter.unusedSimpArgs false

/-! ### laws_szFrame: function 13 -/
def laws_szFrame.f (a0_0 : Int) (a0_1 : Int) (a0_2 : Int) (a0_3 : Int) (a0_4 : ByteArray) (a0_5 : ByteArray) (a1 : Int) : Option (Int) := if (wrap64 (a1 - (a0_4.size : Int))) < 0 then (some (-1)) else (if (wrap64 ((wrap64 (a1 - (a0_4.size : Int))) - (a0_5.size : Int))) < 0 then (some (-1)) else (some (wrap64 ((wrap64 (a1 - (a0_4.size : Int))) - (a0_5.size : Int)))))
set_option maxHeartbeats 8000000 in
set_option maxRecDepth 100000 in
theorem laws_szFrame.calls (a0_0 : Int) (a0_1 : Int) (a0_2 : Int) (a0_3 : Int) (a0_4 : ByteArray) (a0_5 : ByteArray) (a1 : Int) (r : Int) (w : World) (h : laws_szFrame.f a0_0 a0_1 a0_2 a0_3 a0_4 a0_5 a1 = some r) :
    Calls Tryd.prog 13 #[.agg #[.int .i64 a0_0, .int .i64 a0_1, .int .i64 a0_2, .int .i64 a0_3, .string a0_4, .string a0_5], .int .i64 a1] w fun e w' => e = .returned (.int .i64 r) ∧ Below w.heap.size w w' := by
  have hu25 := Tryd.underlying25
  have HB := AM (Below.refl w.heap.size w)
  have H : (if (wrap64 (a1 - (a0_4.size : Int))) < 0 then (some (-1)) else (if (wrap64 ((wrap64 (a1 - (a0_4.size : Int))) - (a0_5.size : Int))) < 0 then (some (-1)) else (some (wrap64 ((wrap64 (a1 - (a0_4.size : Int))) - (a0_5.size : Int)))))) = some r := h
  clear h
  by_cases c3 : (wrap64 (a1 - (a0_4.size : Int))) < 0
  · rw [if_pos c3] at H
    have c3b0 : decide ((wrap64 (a1 - (a0_4.size : Int))) < 0) = true := decide_eq_true c3
    try have c3b9 : (decide (((a1 - (a0_4.size : Int))) < 0)) = true := (by have hw0 : wrap64 (a1 - (a0_4.size : Int)) = a1 - (a0_4.size : Int) := (by unfold wrap64; omega); have z_ := c3b0; simp only [hw0] at z_; exact z_)
    clear c3
    obtain rfl := Option.some.inj H
    go_enter Tryd.func13, Tryd.ntmps13
    go_wp2_with (first | ((with_reducible refine gate_dst (N := 2) rfl ?_); refine be_ 2 #[.int .i64 a0_0, .int .i64 a0_1, .int .i64 a0_2, .int .i64 a0_3, .string a0_4, .string a0_5] 25 ?_; intro gb101 hg w4 hbox hb; have BK101 := AM hbox; have GW101 := AM ((by rw [hg]; exact (below_size bel_) : w.heap.size ≤ gb101)); have GE101 := AM ((by rw [hg]; exact (below_size bel_) : w.heap.size ≤ gb101)); replace HB := AM (below_step bel_ hb); clear hb hbox hg; have hcz5_0 : w4.cell? ⟨gb101, 0, none⟩ = some (.int .i64 a0_0) := (blk_cell BK101.out 0).trans rfl; have hcz5_1 : w4.cell? ⟨gb101, 1, none⟩ = some (.int .i64 a0_1) := (blk_cell BK101.out 1).trans rfl; have hcz5_2 : w4.cell? ⟨gb101, 2, none⟩ = some (.int .i64 a0_2) := (blk_cell BK101.out 2).trans rfl; have hcz5_3 : w4.cell? ⟨gb101, 3, none⟩ = some (.int .i64 a0_3) := (blk_cell BK101.out 3).trans rfl; have hcz5_4 : w4.cell? ⟨gb101, 4, none⟩ = some (.string a0_4) := (blk_cell BK101.out 4).trans rfl; have hcz5_5 : w4.cell? ⟨gb101, 5, none⟩ = some (.string a0_5) := (blk_cell BK101.out 5).trans rfl; have hfz5_0 := blk_frozen BK101.out 0; have hfz5_1 := blk_frozen BK101.out 1; have hfz5_2 := blk_frozen BK101.out 2; have hfz5_3 := blk_frozen BK101.out 3; have hfz5_4 := blk_frozen BK101.out 4; have hfz5_5 := blk_frozen BK101.out 5))
    go_ret
    exact ⟨ri_, bel_⟩
  · rw [if_neg c3] at H
    have c3b0 : decide ((wrap64 (a1 - (a0_4.size : Int))) < 0) = false := decide_eq_false c3
    try have c3b9 : (decide (((a1 - (a0_4.size : Int))) < 0)) = false := (by have hw0 : wrap64 (a1 - (a0_4.size : Int)) = a1 - (a0_4.size : Int) := (by unfold wrap64; omega); have z_ := c3b0; simp only [hw0] at z_; exact z_)
    clear c3
    by_cases c6 : (wrap64 ((wrap64 (a1 - (a0_4.size : Int))) - (a0_5.size : Int))) < 0
    · rw [if_pos c6] at H
      have c6b0 : decide ((wrap64 ((wrap64 (a1 - (a0_4.size : Int))) - (a0_5.size : Int))) < 0) = true := decide_eq_true c6
      try have c6b9 : (decide (((((a1 - (a0_4.size : Int))) - (a0_5.size : Int))) < 0)) = true := (by have hw0 : wrap64 (a1 - (a0_4.size : Int)) = a1 - (a0_4.size : Int) := (by unfold wrap64; omega); have hw1 : wrap64 (((a1 - (a0_4.size : Int))) - (a0_5.size : Int)) = ((a1 - (a0_4.size : Int))) - (a0_5.size : Int) := (by unfold wrap64; omega); have z_ := c6b0; simp only [hw0, hw1] at z_; exact z_)
      clear c6
      obtain rfl := Option.some.inj H
      go_enter Tryd.func13, Tryd.ntmps13
      go_wp2_with (first | ((with_reducible refine gate_dst (N := 2) rfl ?_); refine be_ 2 #[.int .i64 a0_0, .int .i64 a0_1, .int .i64 a0_2, .int .i64 a0_3, .string a0_4, .string a0_5] 25 ?_; intro gb101 hg w7 hbox hb; have BK101 := AM hbox; have GW101 := AM ((by rw [hg]; exact (below_size bel_) : w.heap.size ≤ gb101)); have GE101 := AM ((by rw [hg]; exact (below_size bel_) : w.heap.size ≤ gb101)); replace HB := AM (below_step bel_ hb); clear hb hbox hg; have hcz8_0 : w7.cell? ⟨gb101, 0, none⟩ = some (.int .i64 a0_0) := (blk_cell BK101.out 0).trans rfl; have hcz8_1 : w7.cell? ⟨gb101, 1, none⟩ = some (.int .i64 a0_1) := (blk_cell BK101.out 1).trans rfl; have hcz8_2 : w7.cell? ⟨gb101, 2, none⟩ = some (.int .i64 a0_2) := (blk_cell BK101.out 2).trans rfl; have hcz8_3 : w7.cell? ⟨gb101, 3, none⟩ = some (.int .i64 a0_3) := (blk_cell BK101.out 3).trans rfl; have hcz8_4 : w7.cell? ⟨gb101, 4, none⟩ = some (.string a0_4) := (blk_cell BK101.out 4).trans rfl; have hcz8_5 : w7.cell? ⟨gb101, 5, none⟩ = some (.string a0_5) := (blk_cell BK101.out 5).trans rfl; have hfz8_0 := blk_frozen BK101.out 0; have hfz8_1 := blk_frozen BK101.out 1; have hfz8_2 := blk_frozen BK101.out 2; have hfz8_3 := blk_frozen BK101.out 3; have hfz8_4 := blk_frozen BK101.out 4; have hfz8_5 := blk_frozen BK101.out 5))
      go_ret
      exact ⟨ri_, bel_⟩
    · rw [if_neg c6] at H
      have c6b0 : decide ((wrap64 ((wrap64 (a1 - (a0_4.size : Int))) - (a0_5.size : Int))) < 0) = false := decide_eq_false c6
      try have c6b9 : (decide (((((a1 - (a0_4.size : Int))) - (a0_5.size : Int))) < 0)) = false := (by have hw0 : wrap64 (a1 - (a0_4.size : Int)) = a1 - (a0_4.size : Int) := (by unfold wrap64; omega); have hw1 : wrap64 (((a1 - (a0_4.size : Int))) - (a0_5.size : Int)) = ((a1 - (a0_4.size : Int))) - (a0_5.size : Int) := (by unfold wrap64; omega); have z_ := c6b0; simp only [hw0, hw1] at z_; exact z_)
      clear c6
      obtain rfl := Option.some.inj H
      go_enter Tryd.func13, Tryd.ntmps13
      go_wp2_with (first | ((with_reducible refine gate_dst (N := 2) rfl ?_); refine be_ 2 #[.int .i64 a0_0, .int .i64 a0_1, .int .i64 a0_2, .int .i64 a0_3, .string a0_4, .string a0_5] 25 ?_; intro gb101 hg w9 hbox hb; have BK101 := AM hbox; have GW101 := AM ((by rw [hg]; exact (below_size bel_) : w.heap.size ≤ gb101)); have GE101 := AM ((by rw [hg]; exact (below_size bel_) : w.heap.size ≤ gb101)); replace HB := AM (below_step bel_ hb); clear hb hbox hg; have hcz10_0 : w9.cell? ⟨gb101, 0, none⟩ = some (.int .i64 a0_0) := (blk_cell BK101.out 0).trans rfl; have hcz10_1 : w9.cell? ⟨gb101, 1, none⟩ = some (.int .i64 a0_1) := (blk_cell BK101.out 1).trans rfl; have hcz10_2 : w9.cell? ⟨gb101, 2, none⟩ = some (.int .i64 a0_2) := (blk_cell BK101.out 2).trans rfl; have hcz10_3 : w9.cell? ⟨gb101, 3, none⟩ = some (.int .i64 a0_3) := (blk_cell BK101.out 3).trans rfl; have hcz10_4 : w9.cell? ⟨gb101, 4, none⟩ = some (.string a0_4) := (blk_cell BK101.out 4).trans rfl; have hcz10_5 : w9.cell? ⟨gb101, 5, none⟩ = some (.string a0_5) := (blk_cell BK101.out 5).trans rfl; have hfz10_0 := blk_frozen BK101.out 0; have hfz10_1 := blk_frozen BK101.out 1; have hfz10_2 := blk_frozen BK101.out 2; have hfz10_3 := blk_frozen BK101.out 3; have hfz10_4 := blk_frozen BK101.out 4; have hfz10_5 := blk_frozen BK101.out 5))
      go_ret
      exact ⟨ri_, bel_⟩

/-! ### spec_CodeRight: function 96 -/
def spec_CodeRight.f (a0 : Int) (a1 : Int) : Option (Bool) := if a0 ≥ 1 then (if a0 ≤ 8 then (if a1 ≥ 0 then (some (decide (a1 ≤ 6))) else (some false)) else (some false)) else (some false)
set_option maxHeartbeats 8000000 in
set_option maxRecDepth 100000 in
theorem spec_CodeRight.calls (a0 : Int) (a1 : Int) (r : Bool) (w : World) (h : spec_CodeRight.f a0 a1 = some r) :
    Calls Tryd.prog 96 #[.int .i64 a0, .int .i64 a1] w fun e w' => e = .returned (.bool r) ∧ Drawn0 w w' := by
  have H : (if a0 ≥ 1 then (if a0 ≤ 8 then (if a1 ≥ 0 then (some (decide (a1 ≤ 6))) else (some false)) else (some false)) else (some false)) = some r := h
  clear h
  by_cases c3 : a0 ≥ 1
  · rw [if_pos c3] at H
    have c3b0 : decide (1 ≤ a0) = true := decide_eq_true c3
    clear c3
    by_cases c4 : a0 ≤ 8
    · rw [if_pos c4] at H
      have c4b0 : decide (a0 ≤ 8) = true := decide_eq_true c4
      clear c4
      by_cases c5 : a1 ≥ 0
      · rw [if_pos c5] at H
        have c5b0 : decide (0 ≤ a1) = true := decide_eq_true c5
        clear c5
        obtain rfl := Option.some.inj H
        go_enter Tryd.func96, Tryd.ntmps96
        go_wp2
        go_ret
        exact ⟨by first | rfl | (simp; done) | (simp [*]; done), by repeat (first | exact Drawn0.refl _ | apply Drawn0.step)⟩
      · rw [if_neg c5] at H
        have c5b0 : decide (0 ≤ a1) = false := decide_eq_false c5
        clear c5
        obtain rfl := Option.some.inj H
        go_enter Tryd.func96, Tryd.ntmps96
        go_wp2
        go_ret
        exact ⟨by first | rfl | (simp; done) | (simp [*]; done), by repeat (first | exact Drawn0.refl _ | apply Drawn0.step)⟩
    · rw [if_neg c4] at H
      have c4b0 : decide (a0 ≤ 8) = false := decide_eq_false c4
      clear c4
      obtain rfl := Option.some.inj H
      go_enter Tryd.func96, Tryd.ntmps96
      go_wp2
      go_ret
      exact ⟨by first | rfl | (simp; done) | (simp [*]; done), by repeat (first | exact Drawn0.refl _ | apply Drawn0.step)⟩
  · rw [if_neg c3] at H
    have c3b0 : decide (1 ≤ a0) = false := decide_eq_false c3
    clear c3
    obtain rfl := Option.some.inj H
    go_enter Tryd.func96, Tryd.ntmps96
    go_wp2
    go_ret
    exact ⟨by first | rfl | (simp; done) | (simp [*]; done), by repeat (first | exact Drawn0.refl _ | apply Drawn0.step)⟩

/-! ### spec_l04Size: function 128 -/
def spec_l04Size.f (a0 : Int) : Option (Bool) := if a0 ≥ 0 then (some (decide (a0 ≤ 20000))) else (some false)
set_option maxHeartbeats 8000000 in
set_option maxRecDepth 100000 in
theorem spec_l04Size.calls (a0 : Int) (r : Bool) (w : World) (h : spec_l04Size.f a0 = some r) :
    Calls Tryd.prog 128 #[.int .i64 a0] w fun e w' => e = .returned (.bool r) ∧ Drawn0 w w' := by
  have H : (if a0 ≥ 0 then (some (decide (a0 ≤ 20000))) else (some false)) = some r := h
  clear h
  by_cases c2 : a0 ≥ 0
  · rw [if_pos c2] at H
    have c2b0 : decide (0 ≤ a0) = true := decide_eq_true c2
    clear c2
    obtain rfl := Option.some.inj H
    go_enter Tryd.func128, Tryd.ntmps128
    go_wp2
    go_ret
    exact ⟨by first | rfl | (simp; done) | (simp [*]; done), by repeat (first | exact Drawn0.refl _ | apply Drawn0.step)⟩
  · rw [if_neg c2] at H
    have c2b0 : decide (0 ≤ a0) = false := decide_eq_false c2
    clear c2
    obtain rfl := Option.some.inj H
    go_enter Tryd.func128, Tryd.ntmps128
    go_wp2
    go_ret
    exact ⟨by first | rfl | (simp; done) | (simp [*]; done), by repeat (first | exact Drawn0.refl _ | apply Drawn0.step)⟩

/-! ### spec_ShardSize: function 97 -/
def spec_ShardSize.f (a0 : Int) (a1 : Int) : Option (Int) := (spec_CodeRight.f a0 0).bind fun t102 => (if t102 = true then ((spec_l04Size.f a1).bind fun t103 => (if t103 = true then (if a0 = 0 then (none) else (some (wrap64 (Int.tdiv (wrap64 ((wrap64 (a1 + a0)) - 1)) a0)))) else (some 0))) else (some 0))
set_option maxHeartbeats 8000000 in
set_option maxRecDepth 100000 in
theorem spec_ShardSize.calls (a0 : Int) (a1 : Int) (r : Int) (w : World) (h : spec_ShardSize.f a0 a1 = some r) :
    Calls Tryd.prog 97 #[.int .i64 a0, .int .i64 a1] w fun e w' => e = .returned (.int .i64 r) ∧ Drawn0 w w' := by
  have H : ((spec_CodeRight.f a0 0).bind fun t102 => (if t102 = true then ((spec_l04Size.f a1).bind fun t103 => (if t103 = true then (if a0 = 0 then (none) else (some (wrap64 (Int.tdiv (wrap64 ((wrap64 (a1 + a0)) - 1)) a0)))) else (some 0))) else (some 0))) = some r := h
  clear h
  obtain ⟨t102, A3, H⟩ := OB H
  try dsimp only at H
  replace A3 := AM A3
  by_cases c4 : t102 = true
  · subst c4
    rw [if_pos rfl] at H
    obtain ⟨t103, A5, H⟩ := OB H
    try dsimp only at H
    replace A5 := AM A5
    by_cases c6 : t103 = true
    · subst c6
      rw [if_pos rfl] at H
      by_cases c7 : a0 = 0
      · rw [if_pos c7] at H
        exact absurd H (by simp)
      · rw [if_neg c7] at H
        have c7b0 : (a0 == 0) = false := beq_eq_false_iff_ne.mpr c7
        have c7b1 : (a0 != 0) = true := bne_iff_ne.mpr c7
        obtain rfl := Option.some.inj H
        go_enter Tryd.func97, Tryd.ntmps97
        go_wp2_with (first | ((with_reducible refine gate_callee (f := 96) rfl ?_); refine gl_ (some 6) Tryd.func96 #[.int .i64 a0, .int .i64 0] ?_; (with_reducible refine (spec_CodeRight.calls a0 0 true _ A3.out).mono ?_); rintro e w' ⟨rfl, ⟨nd, rfl⟩⟩; refine ⟨_, rfl, ?_⟩) | (go_at_call 128; (with_reducible refine (spec_l04Size.calls a1 true _ A5.out).mono ?_); rintro e w' ⟨rfl, ⟨nd, rfl⟩⟩))
        go_ret
        exact ⟨by first | rfl | (simp; done) | (simp [*]; done), by repeat (first | exact Drawn0.refl _ | apply Drawn0.step)⟩
    · replace c6 := Bool.eq_false_iff.mpr c6
      subst c6
      rw [if_neg (show ¬ (false = true) by decide)] at H
      obtain rfl := Option.some.inj H
      go_enter Tryd.func97, Tryd.ntmps97
      go_wp2_with (first | ((with_reducible refine gate_callee (f := 96) rfl ?_); refine gl_ (some 6) Tryd.func96 #[.int .i64 a0, .int .i64 0] ?_; (with_reducible refine (spec_CodeRight.calls a0 0 true _ A3.out).mono ?_); rintro e w' ⟨rfl, ⟨nd, rfl⟩⟩; refine ⟨_, rfl, ?_⟩) | (go_at_call 128; (with_reducible refine (spec_l04Size.calls a1 false _ A5.out).mono ?_); rintro e w' ⟨rfl, ⟨nd, rfl⟩⟩))
      go_ret
      exact ⟨by first | rfl | (simp; done) | (simp [*]; done), by repeat (first | exact Drawn0.refl _ | apply Drawn0.step)⟩
  · replace c4 := Bool.eq_false_iff.mpr c4
    subst c4
    rw [if_neg (show ¬ (false = true) by decide)] at H
    obtain rfl := Option.some.inj H
    go_enter Tryd.func97, Tryd.ntmps97
    go_wp2_with (first | ((with_reducible refine gate_callee (f := 96) rfl ?_); refine gl_ (some 6) Tryd.func96 #[.int .i64 a0, .int .i64 0] ?_; (with_reducible refine (spec_CodeRight.calls a0 0 false _ A3.out).mono ?_); rintro e w' ⟨rfl, ⟨nd, rfl⟩⟩; refine ⟨_, rfl, ?_⟩))
    go_ret
    exact ⟨by first | rfl | (simp; done) | (simp [*]; done), by repeat (first | exact Drawn0.refl _ | apply Drawn0.step)⟩

end Go.Proofs.YtddapeieolfolaaDoor.PFnExactFrameBytes
