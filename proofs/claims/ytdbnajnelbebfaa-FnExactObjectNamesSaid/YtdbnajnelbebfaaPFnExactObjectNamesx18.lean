-- A program of this session wrote this text: a changed copy of the kit print, with given functions.
import Derived.Test.YtdbnajnelbebfaaPFnExactObjectNamesx0
import Derived.Test.YtdbnajnelbebfaaPFnExactObjectNamesx17
namespace Go.Proofs.Ytdbnajnelbebfaa.PFnExactObjectNames
open Go.RowKit Go.Proofs.YtdbnajnelbebfaaW.PrintWords Go.Proofs.YtdbnajnelbebfaaW.PrintLast Go.Proofs.YtdbnajnelbebfaaW.PrintMore Go.Proofs.Ytdbnajnelbebfaa.Aut
attribute [local go_sem] max2_int min2_int max_two min_two max_three min_three max_four min_four   -- for this text's walks alone
set_option linter.unusedVariables false
set_option linter.unusedSimpArgs false

/-! ### laws_eqArray: function 39 -/
def laws_eqArray.f (k : Nat) (a0_0 : Int) (a0_1 : Int) (l0_2 : List (S192)) (a1_0 : Int) (a1_1 : Int) (l1_2 : List (S192)) : Option (Bool) := if a0_0 = a1_0 then (if a0_1 = a1_1 then ((laws_eqDriveS.f k l0_2 l1_2).bind fun t401 => (if t401 = true then (some true) else (some false))) else (some false)) else (some false)
theorem laws_eqArray.mono : ∀ a0 a1 a2 a3 a4 a5 k, LeO (laws_eqArray.f k a0 a1 a2 a3 a4 a5) (laws_eqArray.f (k + 1) a0 a1 a2 a3 a4 a5) := by
  intro a0 a1 a2 a3 a4 a5 k
  unfold laws_eqArray.f
  repeat' first
      | (with_reducible exact laws_eqDriveS.mono _ _ _)
      | (with_reducible exact LeO.refl _)
      | (with_reducible exact LeO.none _)
      | (with_reducible refine LeO.ite ?_ ?_)
      | (with_reducible refine LeO.bind ?_ (fun _ => ?_))
      | exact laws_eqDriveS.mono _ _ _
      | exact LeO.none _
      | refine LeO.ite ?_ ?_
      | refine LeO.bind ?_ (fun _ => ?_)
set_option maxHeartbeats 8000000 in
set_option maxRecDepth 100000 in
theorem laws_eqArray.calls (k : Nat) (a0_0 : Int) (a0_1 : Int) (A0_2 : Option Addr) (c0_2 : Nat) (l0_2 : List (S192)) (a1_0 : Int) (a1_1 : Int) (A1_2 : Option Addr) (c1_2 : Nat) (l1_2 : List (S192)) (r : Bool) (w : World) (hr0_2 : Kd.C k192 w A0_2 l0_2.length l0_2) (hc0_2 : l0_2.length ≤ c0_2) (hr1_2 : Kd.C k192 w A1_2 l1_2.length l1_2) (hc1_2 : l1_2.length ≤ c1_2) (h : laws_eqArray.f k a0_0 a0_1 l0_2 a1_0 a1_1 l1_2 = some r) :
    Calls Try.prog 39 #[.agg #[.int .i64 a0_0, .int .i64 a0_1, .slice A0_2 l0_2.length c0_2], .agg #[.int .i64 a1_0, .int .i64 a1_1, .slice A1_2 l1_2.length c1_2]] w fun e w' => e = .returned (.bool r) ∧ Below w.heap.size w w' := by
  have hu64 := Try.underlying64
  have HR0_2 := AM hr0_2
  have HC0_2 := AM hc0_2
  clear hr0_2 hc0_2
  have HR1_2 := AM hr1_2
  have HC1_2 := AM hc1_2
  clear hr1_2 hc1_2
  have HB := AM (Below.refl w.heap.size w)
  have H : (if a0_0 = a1_0 then (if a0_1 = a1_1 then ((laws_eqDriveS.f k l0_2 l1_2).bind fun t401 => (if t401 = true then (some true) else (some false))) else (some false)) else (some false)) = some r := h
  clear h
  by_cases c3 : a0_0 = a1_0
  · rw [if_pos c3] at H
    have c3b0 : (a0_0 == a1_0) = true := beq_iff_eq.mpr c3
    have c3b1 : (a0_0 != a1_0) = false := bne_eq_false_iff_eq.mpr c3
    clear c3
    by_cases c4 : a0_1 = a1_1
    · rw [if_pos c4] at H
      have c4b0 : (a0_1 == a1_1) = true := beq_iff_eq.mpr c4
      have c4b1 : (a0_1 != a1_1) = false := bne_eq_false_iff_eq.mpr c4
      clear c4
      obtain ⟨t401, A5, H⟩ := OB H
      try dsimp only at H
      replace A5 := AM A5
      by_cases c6 : t401 = true
      · subst c6
        rw [if_pos rfl] at H
        obtain rfl := Option.some.inj H
        go_enter Try.func39, Try.ntmps39
        go_wp2_with (first | ((with_reducible refine gate_dst (N := 2) rfl ?_); refine be_ 2 #[.int .i64 a0_0, .int .i64 a0_1, .slice A0_2 l0_2.length c0_2] 64 ?_; intro gb399 hg w7 hbox hb; have BK399 := AM hbox; have GW399 := AM ((by rw [hg]; exact (below_size bel_) : w.heap.size ≤ gb399)); have GE399 := AM ((by rw [hg]; exact (below_size bel_) : w.heap.size ≤ gb399)); replace HB := AM (below_step bel_ hb); clear hb hbox hg) | ((with_reducible refine gate_dst (N := 3) rfl ?_); refine be_ 3 #[.int .i64 a1_0, .int .i64 a1_1, .slice A1_2 l1_2.length c1_2] 64 ?_; intro gb400 hg w8 hbox hb; have BK400 := AM hbox; have GW400 := AM ((by rw [hg]; exact (below_size bel_) : w.heap.size ≤ gb400)); have GE400 := AM ((by rw [hg]; exact (below_size bel_) : w.heap.size ≤ gb400)); replace HB := AM (below_step bel_ hb); have NB399_400 := AM ((by rw [hg]; exact Nat.ne_of_lt (blk_lt (g := gb399) (o := .cells #[.int .i64 a0_0, .int .i64 a0_1, .slice A0_2 l0_2.length c0_2] 64 (0, 0)) (bk_ BK399.out)) : gb399 ≠ gb400)); have NB400_399 := AM ((by rw [hg]; exact Nat.ne_of_gt (blk_lt (g := gb399) (o := .cells #[.int .i64 a0_0, .int .i64 a0_1, .slice A0_2 l0_2.length c0_2] 64 (0, 0)) (bk_ BK399.out)) : gb400 ≠ gb399)); replace BK399 := AM (blk_below (g := gb399) (o := .cells #[.int .i64 a0_0, .int .i64 a0_1, .slice A0_2 l0_2.length c0_2] 64 (0, 0)) (bk_ BK399.out) hb); clear hb hbox hg; have hnb9 := NB399_400.out; have hnc9 := NB400_399.out; have hcz10_0 : w8.cell? ⟨gb399, 0, none⟩ = some (.int .i64 a0_0) := (blk_cell BK399.out 0).trans rfl; have hcz10_1 : w8.cell? ⟨gb399, 1, none⟩ = some (.int .i64 a0_1) := (blk_cell BK399.out 1).trans rfl; have hcz10_2 : w8.cell? ⟨gb399, 2, none⟩ = some (.slice A0_2 l0_2.length c0_2) := (blk_cell BK399.out 2).trans rfl; have hfz10_0 := blk_frozen BK399.out 0; have hfz10_1 := blk_frozen BK399.out 1; have hfz10_2 := blk_frozen BK399.out 2; have hcz11_0 : w8.cell? ⟨gb400, 0, none⟩ = some (.int .i64 a1_0) := (blk_cell BK400.out 0).trans rfl; have hcz11_1 : w8.cell? ⟨gb400, 1, none⟩ = some (.int .i64 a1_1) := (blk_cell BK400.out 1).trans rfl; have hcz11_2 : w8.cell? ⟨gb400, 2, none⟩ = some (.slice A1_2 l1_2.length c1_2) := (blk_cell BK400.out 2).trans rfl; have hfz11_0 := blk_frozen BK400.out 0; have hfz11_1 := blk_frozen BK400.out 1; have hfz11_2 := blk_frozen BK400.out 2) | ((with_reducible refine gate_callee (f := 107) rfl ?_); refine gl_ (some 19) Try.func107 #[.slice A0_2 l0_2.length c0_2, .slice A1_2 l1_2.length c1_2] ?_; (with_reducible refine (laws_eqDriveS.calls k _ _ l0_2 _ _ l1_2 true _ ?side1 ?side2 ?side3 ?side4 A5.out).mono ?_); (case side1 => repeat (first | exact (Kd.C_below HR0_2.out HB.out) | (with_reducible refine Kd.C_alloc ?_ _) | (with_reducible refine Kd.C_drewN ?_ _) | (with_reducible refine Kd.C_drew ?_))); (case side2 => exact HC0_2.out); (case side3 => repeat (first | exact (Kd.C_below HR1_2.out HB.out) | (with_reducible refine Kd.C_alloc ?_ _) | (with_reducible refine Kd.C_drewN ?_ _) | (with_reducible refine Kd.C_drew ?_))); (case side4 => exact HC1_2.out); rintro e w12 ⟨rfl, hb⟩; refine ⟨_, rfl, ?_⟩; replace BK399 := AM (blk_below (g := gb399) (o := .cells #[.int .i64 a0_0, .int .i64 a0_1, .slice A0_2 l0_2.length c0_2] 64 (0, 0)) (bk_ BK399.out) hb); replace BK400 := AM (blk_below (g := gb400) (o := .cells #[.int .i64 a1_0, .int .i64 a1_1, .slice A1_2 l1_2.length c1_2] 64 (0, 0)) (bk_ BK400.out) hb); replace HB := AM (below_step bel_ hb); (try clear hb); (try clear hb2); (try clear hk); (try clear hi)))
        go_ret
        exact ⟨ri_, bel_⟩
      · replace c6 := Bool.eq_false_iff.mpr c6
        subst c6
        rw [if_neg (show ¬ (false = true) by decide)] at H
        obtain rfl := Option.some.inj H
        go_enter Try.func39, Try.ntmps39
        go_wp2_with (first | ((with_reducible refine gate_dst (N := 2) rfl ?_); refine be_ 2 #[.int .i64 a0_0, .int .i64 a0_1, .slice A0_2 l0_2.length c0_2] 64 ?_; intro gb399 hg w13 hbox hb; have BK399 := AM hbox; have GW399 := AM ((by rw [hg]; exact (below_size bel_) : w.heap.size ≤ gb399)); have GE399 := AM ((by rw [hg]; exact (below_size bel_) : w.heap.size ≤ gb399)); replace HB := AM (below_step bel_ hb); clear hb hbox hg) | ((with_reducible refine gate_dst (N := 3) rfl ?_); refine be_ 3 #[.int .i64 a1_0, .int .i64 a1_1, .slice A1_2 l1_2.length c1_2] 64 ?_; intro gb400 hg w14 hbox hb; have BK400 := AM hbox; have GW400 := AM ((by rw [hg]; exact (below_size bel_) : w.heap.size ≤ gb400)); have GE400 := AM ((by rw [hg]; exact (below_size bel_) : w.heap.size ≤ gb400)); replace HB := AM (below_step bel_ hb); have NB399_400 := AM ((by rw [hg]; exact Nat.ne_of_lt (blk_lt (g := gb399) (o := .cells #[.int .i64 a0_0, .int .i64 a0_1, .slice A0_2 l0_2.length c0_2] 64 (0, 0)) (bk_ BK399.out)) : gb399 ≠ gb400)); have NB400_399 := AM ((by rw [hg]; exact Nat.ne_of_gt (blk_lt (g := gb399) (o := .cells #[.int .i64 a0_0, .int .i64 a0_1, .slice A0_2 l0_2.length c0_2] 64 (0, 0)) (bk_ BK399.out)) : gb400 ≠ gb399)); replace BK399 := AM (blk_below (g := gb399) (o := .cells #[.int .i64 a0_0, .int .i64 a0_1, .slice A0_2 l0_2.length c0_2] 64 (0, 0)) (bk_ BK399.out) hb); clear hb hbox hg; have hnb15 := NB399_400.out; have hnc15 := NB400_399.out; have hcz16_0 : w14.cell? ⟨gb399, 0, none⟩ = some (.int .i64 a0_0) := (blk_cell BK399.out 0).trans rfl; have hcz16_1 : w14.cell? ⟨gb399, 1, none⟩ = some (.int .i64 a0_1) := (blk_cell BK399.out 1).trans rfl; have hcz16_2 : w14.cell? ⟨gb399, 2, none⟩ = some (.slice A0_2 l0_2.length c0_2) := (blk_cell BK399.out 2).trans rfl; have hfz16_0 := blk_frozen BK399.out 0; have hfz16_1 := blk_frozen BK399.out 1; have hfz16_2 := blk_frozen BK399.out 2; have hcz17_0 : w14.cell? ⟨gb400, 0, none⟩ = some (.int .i64 a1_0) := (blk_cell BK400.out 0).trans rfl; have hcz17_1 : w14.cell? ⟨gb400, 1, none⟩ = some (.int .i64 a1_1) := (blk_cell BK400.out 1).trans rfl; have hcz17_2 : w14.cell? ⟨gb400, 2, none⟩ = some (.slice A1_2 l1_2.length c1_2) := (blk_cell BK400.out 2).trans rfl; have hfz17_0 := blk_frozen BK400.out 0; have hfz17_1 := blk_frozen BK400.out 1; have hfz17_2 := blk_frozen BK400.out 2) | ((with_reducible refine gate_callee (f := 107) rfl ?_); refine gl_ (some 19) Try.func107 #[.slice A0_2 l0_2.length c0_2, .slice A1_2 l1_2.length c1_2] ?_; (with_reducible refine (laws_eqDriveS.calls k _ _ l0_2 _ _ l1_2 false _ ?side1 ?side2 ?side3 ?side4 A5.out).mono ?_); (case side1 => repeat (first | exact (Kd.C_below HR0_2.out HB.out) | (with_reducible refine Kd.C_alloc ?_ _) | (with_reducible refine Kd.C_drewN ?_ _) | (with_reducible refine Kd.C_drew ?_))); (case side2 => exact HC0_2.out); (case side3 => repeat (first | exact (Kd.C_below HR1_2.out HB.out) | (with_reducible refine Kd.C_alloc ?_ _) | (with_reducible refine Kd.C_drewN ?_ _) | (with_reducible refine Kd.C_drew ?_))); (case side4 => exact HC1_2.out); rintro e w18 ⟨rfl, hb⟩; refine ⟨_, rfl, ?_⟩; replace BK399 := AM (blk_below (g := gb399) (o := .cells #[.int .i64 a0_0, .int .i64 a0_1, .slice A0_2 l0_2.length c0_2] 64 (0, 0)) (bk_ BK399.out) hb); replace BK400 := AM (blk_below (g := gb400) (o := .cells #[.int .i64 a1_0, .int .i64 a1_1, .slice A1_2 l1_2.length c1_2] 64 (0, 0)) (bk_ BK400.out) hb); replace HB := AM (below_step bel_ hb); (try clear hb); (try clear hb2); (try clear hk); (try clear hi)))
        go_ret
        exact ⟨ri_, bel_⟩
    · rw [if_neg c4] at H
      have c4b0 : (a0_1 == a1_1) = false := beq_eq_false_iff_ne.mpr c4
      have c4b1 : (a0_1 != a1_1) = true := bne_iff_ne.mpr c4
      obtain rfl := Option.some.inj H
      go_enter Try.func39, Try.ntmps39
      go_wp2_with (first | ((with_reducible refine gate_dst (N := 2) rfl ?_); refine be_ 2 #[.int .i64 a0_0, .int .i64 a0_1, .slice A0_2 l0_2.length c0_2] 64 ?_; intro gb399 hg w19 hbox hb; have BK399 := AM hbox; have GW399 := AM ((by rw [hg]; exact (below_size bel_) : w.heap.size ≤ gb399)); have GE399 := AM ((by rw [hg]; exact (below_size bel_) : w.heap.size ≤ gb399)); replace HB := AM (below_step bel_ hb); clear hb hbox hg) | ((with_reducible refine gate_dst (N := 3) rfl ?_); refine be_ 3 #[.int .i64 a1_0, .int .i64 a1_1, .slice A1_2 l1_2.length c1_2] 64 ?_; intro gb400 hg w20 hbox hb; have BK400 := AM hbox; have GW400 := AM ((by rw [hg]; exact (below_size bel_) : w.heap.size ≤ gb400)); have GE400 := AM ((by rw [hg]; exact (below_size bel_) : w.heap.size ≤ gb400)); replace HB := AM (below_step bel_ hb); have NB399_400 := AM ((by rw [hg]; exact Nat.ne_of_lt (blk_lt (g := gb399) (o := .cells #[.int .i64 a0_0, .int .i64 a0_1, .slice A0_2 l0_2.length c0_2] 64 (0, 0)) (bk_ BK399.out)) : gb399 ≠ gb400)); have NB400_399 := AM ((by rw [hg]; exact Nat.ne_of_gt (blk_lt (g := gb399) (o := .cells #[.int .i64 a0_0, .int .i64 a0_1, .slice A0_2 l0_2.length c0_2] 64 (0, 0)) (bk_ BK399.out)) : gb400 ≠ gb399)); replace BK399 := AM (blk_below (g := gb399) (o := .cells #[.int .i64 a0_0, .int .i64 a0_1, .slice A0_2 l0_2.length c0_2] 64 (0, 0)) (bk_ BK399.out) hb); clear hb hbox hg; have hnb21 := NB399_400.out; have hnc21 := NB400_399.out; have hcz22_0 : w20.cell? ⟨gb399, 0, none⟩ = some (.int .i64 a0_0) := (blk_cell BK399.out 0).trans rfl; have hcz22_1 : w20.cell? ⟨gb399, 1, none⟩ = some (.int .i64 a0_1) := (blk_cell BK399.out 1).trans rfl; have hcz22_2 : w20.cell? ⟨gb399, 2, none⟩ = some (.slice A0_2 l0_2.length c0_2) := (blk_cell BK399.out 2).trans rfl; have hfz22_0 := blk_frozen BK399.out 0; have hfz22_1 := blk_frozen BK399.out 1; have hfz22_2 := blk_frozen BK399.out 2; have hcz23_0 : w20.cell? ⟨gb400, 0, none⟩ = some (.int .i64 a1_0) := (blk_cell BK400.out 0).trans rfl; have hcz23_1 : w20.cell? ⟨gb400, 1, none⟩ = some (.int .i64 a1_1) := (blk_cell BK400.out 1).trans rfl; have hcz23_2 : w20.cell? ⟨gb400, 2, none⟩ = some (.slice A1_2 l1_2.length c1_2) := (blk_cell BK400.out 2).trans rfl; have hfz23_0 := blk_frozen BK400.out 0; have hfz23_1 := blk_frozen BK400.out 1; have hfz23_2 := blk_frozen BK400.out 2))
      go_ret
      exact ⟨ri_, bel_⟩
  · rw [if_neg c3] at H
    have c3b0 : (a0_0 == a1_0) = false := beq_eq_false_iff_ne.mpr c3
    have c3b1 : (a0_0 != a1_0) = true := bne_iff_ne.mpr c3
    obtain rfl := Option.some.inj H
    go_enter Try.func39, Try.ntmps39
    go_wp2_with (first | ((with_reducible refine gate_dst (N := 2) rfl ?_); refine be_ 2 #[.int .i64 a0_0, .int .i64 a0_1, .slice A0_2 l0_2.length c0_2] 64 ?_; intro gb399 hg w24 hbox hb; have BK399 := AM hbox; have GW399 := AM ((by rw [hg]; exact (below_size bel_) : w.heap.size ≤ gb399)); have GE399 := AM ((by rw [hg]; exact (below_size bel_) : w.heap.size ≤ gb399)); replace HB := AM (below_step bel_ hb); clear hb hbox hg) | ((with_reducible refine gate_dst (N := 3) rfl ?_); refine be_ 3 #[.int .i64 a1_0, .int .i64 a1_1, .slice A1_2 l1_2.length c1_2] 64 ?_; intro gb400 hg w25 hbox hb; have BK400 := AM hbox; have GW400 := AM ((by rw [hg]; exact (below_size bel_) : w.heap.size ≤ gb400)); have GE400 := AM ((by rw [hg]; exact (below_size bel_) : w.heap.size ≤ gb400)); replace HB := AM (below_step bel_ hb); have NB399_400 := AM ((by rw [hg]; exact Nat.ne_of_lt (blk_lt (g := gb399) (o := .cells #[.int .i64 a0_0, .int .i64 a0_1, .slice A0_2 l0_2.length c0_2] 64 (0, 0)) (bk_ BK399.out)) : gb399 ≠ gb400)); have NB400_399 := AM ((by rw [hg]; exact Nat.ne_of_gt (blk_lt (g := gb399) (o := .cells #[.int .i64 a0_0, .int .i64 a0_1, .slice A0_2 l0_2.length c0_2] 64 (0, 0)) (bk_ BK399.out)) : gb400 ≠ gb399)); replace BK399 := AM (blk_below (g := gb399) (o := .cells #[.int .i64 a0_0, .int .i64 a0_1, .slice A0_2 l0_2.length c0_2] 64 (0, 0)) (bk_ BK399.out) hb); clear hb hbox hg; have hnb26 := NB399_400.out; have hnc26 := NB400_399.out; have hcz27_0 : w25.cell? ⟨gb399, 0, none⟩ = some (.int .i64 a0_0) := (blk_cell BK399.out 0).trans rfl; have hcz27_1 : w25.cell? ⟨gb399, 1, none⟩ = some (.int .i64 a0_1) := (blk_cell BK399.out 1).trans rfl; have hcz27_2 : w25.cell? ⟨gb399, 2, none⟩ = some (.slice A0_2 l0_2.length c0_2) := (blk_cell BK399.out 2).trans rfl; have hfz27_0 := blk_frozen BK399.out 0; have hfz27_1 := blk_frozen BK399.out 1; have hfz27_2 := blk_frozen BK399.out 2; have hcz28_0 : w25.cell? ⟨gb400, 0, none⟩ = some (.int .i64 a1_0) := (blk_cell BK400.out 0).trans rfl; have hcz28_1 : w25.cell? ⟨gb400, 1, none⟩ = some (.int .i64 a1_1) := (blk_cell BK400.out 1).trans rfl; have hcz28_2 : w25.cell? ⟨gb400, 2, none⟩ = some (.slice A1_2 l1_2.length c1_2) := (blk_cell BK400.out 2).trans rfl; have hfz28_0 := blk_frozen BK400.out 0; have hfz28_1 := blk_frozen BK400.out 1; have hfz28_2 := blk_frozen BK400.out 2))
    go_ret
    exact ⟨ri_, bel_⟩

/-! ### laws_markText: function 75 -/
def laws_markText.l0 : Nat → Int → ByteArray → Option (ByteArray)
  | 0, _, _ => none
  | k + 1, x0, x3 => if x0 > 0 then ((some (([(wrap64 (48 + (Int.tmod x0 10))) % 256] : List Int) : List Int)).bind fun y402 => (if (strOfNums y402).size + x3.size ≤ 9223372036854775807 then (laws_markText.l0 k (wrap64 (Int.tdiv x0 10)) ((strOfNums y402) ++ x3)) else (none))) else (if 1 + x3.size ≤ 9223372036854775807 then (some ((⟨#[109]⟩ : ByteArray) ++ x3)) else (none))
def laws_markText.f (k : Nat) (a0 : Int) : Option (ByteArray) := if a0 ≤ 0 then (some (⟨#[109, 48]⟩ : ByteArray)) else (laws_markText.l0 k a0 (⟨#[]⟩ : ByteArray))
theorem laws_markText.mono_l : ∀ k, (∀ y0 y1, LeO (laws_markText.l0 k y0 y1) (laws_markText.l0 (k + 1) y0 y1))
  | 0 => fun _ _ r h => by simp [laws_markText.l0] at h
  | k + 1 => by
    have ih0 := laws_markText.mono_l k
    · intro y0 y1
      unfold laws_markText.l0
      repeat' first
      | (with_reducible exact ih0 _ _)
      | (with_reducible exact LeO.refl _)
      | (with_reducible exact LeO.none _)
      | (with_reducible refine LeO.ite ?_ ?_)
      | (with_reducible refine LeO.bind ?_ (fun _ => ?_))
      | exact ih0 _ _
      | exact LeO.none _
      | refine LeO.ite ?_ ?_
      | refine LeO.bind ?_ (fun _ => ?_)
theorem laws_markText.mono : ∀ a0 k, LeO (laws_markText.f k a0) (laws_markText.f (k + 1) a0) := by
  intro a0 k
  have ih0 := laws_markText.mono_l k
  unfold laws_markText.f
  repeat' first
      | (with_reducible exact ih0 _ _)
      | (with_reducible exact LeO.refl _)
      | (with_reducible exact LeO.none _)
      | (with_reducible refine LeO.ite ?_ ?_)
      | (with_reducible refine LeO.bind ?_ (fun _ => ?_))
      | exact ih0 _ _
      | exact LeO.none _
      | refine LeO.ite ?_ ?_
      | refine LeO.bind ?_ (fun _ => ?_)
set_option maxHeartbeats 8000000 in
set_option maxRecDepth 100000 in
theorem laws_markText.calls (k : Nat) (a0 : Int) (r : ByteArray) (w : World) (h : laws_markText.f k a0 = some r) :
    Calls Try.prog 75 #[.int .i64 a0] w fun e w' => e = .returned (.string r) ∧ Below w.heap.size w w' := by
  have HB := AM (Below.refl w.heap.size w)
  have H : (if a0 ≤ 0 then (some (⟨#[109, 48]⟩ : ByteArray)) else (laws_markText.l0 k a0 (⟨#[]⟩ : ByteArray))) = some r := h
  clear h
  by_cases c2 : a0 ≤ 0
  · rw [if_pos c2] at H
    have c2b0 : decide (a0 ≤ 0) = true := decide_eq_true c2
    clear c2
    obtain rfl := Option.some.inj H
    go_enter Try.func75, Try.ntmps75
    go_wp2
    go_ret
    exact ⟨ri_, bel_⟩
  · rw [if_neg c2] at H
    have c2b0 : decide (a0 ≤ 0) = false := decide_eq_false c2
    clear c2
    have H' := AM H
    clear H
    go_enter Try.func75, Try.ntmps75
    go_wp2
    go_loopg [0, 3] k (fun kq v0 v3 w' => ∃ (x0_1 : Int) (x3_1 : ByteArray), v0 = .int .i64 x0_1 ∧ v3 = .string x3_1 ∧ Aside0 (laws_markText.l0 kq x0_1 x3_1 = some r) ∧ Aside0 (kq ≤ k) ∧ Aside0 (Below w.heap.size w w'))
    case atStart => exact ⟨(a0), ((⟨#[]⟩ : ByteArray)), (by first | rfl | (simp; done) | (simp [*]; done)), (by first | rfl | (simp; done) | (simp [*]; done)), H', ⟨Nat.le_refl _⟩, ⟨bel_⟩⟩
    case round =>
      clear H'
      try clear c2
      try clear c2b0
      try clear p2
      obtain ⟨x0_1, x3_1, rfl, rfl, HA, HK1, HB⟩ := hrel
      cases gk with
      | zero => exact absurd HA.out (by simp [laws_markText.l0])
      | succ k1 =>
        have H := HA.out
        clear HA
        simp only [laws_markText.l0] at H
        by_cases c3 : x0_1 > 0
        · rw [if_pos c3] at H
          have c3b0 : decide (0 < x0_1) = true := decide_eq_true c3
          clear c3
          obtain ⟨y402, hy402⟩ : ∃ y_ : List Int, y_ = (([(wrap64 (48 + (Int.tmod x0_1 10))) % 256] : List Int)) := ⟨_, rfl⟩
          replace H : (if (strOfNums y402).size + x3_1.size ≤ 9223372036854775807 then (laws_markText.l0 k1 (wrap64 (Int.tdiv x0_1 10)) ((strOfNums y402) ++ x3_1)) else (none)) = some r := by first | (rw [hy402]; with_reducible exact H) | (have H2_ := (Option.bind_some _ _).symm.trans H; rw [hy402]; with_reducible exact H2_) | (have H2_ := (Option.bind_some _ _).symm.trans H; with_reducible exact H2_) | with_reducible exact H | (rw [hy402]; exact H) | exact H
          have Ny402 := AM hy402
          clear hy402
          by_cases c4 : (strOfNums y402).size + x3_1.size ≤ 9223372036854775807
          · rw [if_pos c4] at H
            have c4b0 := eq_true c4
            have c4b1 : decide ((strOfNums y402).size + x3_1.size ≤ 9223372036854775807) = true := decide_eq_true c4
            try have c4b2 : (9223372036854775807 < (strOfNums y402).size + x3_1.size) = False := eq_false (Nat.not_lt.2 c4)
            have H' := AM H
            clear H
            go_wp2_with (first | ((with_reducible refine gate_dst (N := 12) rfl ?_); refine Kd.R_lit (Kd.int .u8) _ 5 ?hgL1 (N := 12) ?hdL1 (xs := ([(wrap64 (48 + (Int.tmod x0_1 10))) % 256] : List Int)) (inner := [.int .u8 ((wrap64 (48 + (Int.tmod x0_1 10))) % 256)]) (ok := fun _ => True) (okp := fun _ => True) ?hrL1 ?hpL1 (fun _ hk => hk) trivial (Below.refl _ _) (Nat.le_refl _) (by simp) ?_; (case hdL1 => rfl); (case hgL1 => rfl); (case hrL1 => first | (go_simp; done) | (go_simp; rfl)); (case hpL1 => exact (Reps.one (show Kd.M (Kd.int .u8) _ _ _ ((wrap64 (48 + (Int.tmod x0_1 10))) % 256) [.int .u8 ((wrap64 (48 + (Int.tmod x0_1 10))) % 256)] from rfl) (Reps.none _ _))); intro v403 w5 ho6 hb hg_ hnew_; clear hg_ hnew_; (first | rw [← Ny402.out] at ho6 | (simp only [Int.reduceToNat] at ho6; rw [← Ny402.out] at ho6)); have HO404 := AM (Kd.R_lower ho6 (below_size bel_)); replace HB := AM (below_step bel_ hb); clear hb ho6; have hcv7 := own_string (P := Try.prog) Try.underlying22 Try.underlying5 Try.underlying9 (Kd.own_of_R HO404.out)))
            go_roundg k1
            case measure => have := HK1.out; omega
            case rel => exact ⟨(wrap64 (Int.tdiv x0_1 10)), ((strOfNums y402) ++ x3_1), (by first | rfl | (simp; done) | (simp [*]; done)), (by first | rfl | (simp; done) | (simp [*]; done)), H', ⟨by have := HK1.out; omega⟩, ⟨bel_⟩⟩
          · rw [if_neg c4] at H
            exact absurd H (by simp)
        · rw [if_neg c3] at H
          have c3b0 : decide (0 < x0_1) = false := decide_eq_false c3
          clear c3
          by_cases c8 : 1 + x3_1.size ≤ 9223372036854775807
          · rw [if_pos c8] at H
            have c8b0 := eq_true c8
            have c8b1 : decide (1 + x3_1.size ≤ 9223372036854775807) = true := decide_eq_true c8
            try have c8b2 : (9223372036854775807 < 1 + x3_1.size) = False := eq_false (Nat.not_lt.2 c8)
            obtain rfl := Option.some.inj H
            go_wp2
            go_ret
            exact ⟨ri_, bel_⟩
          · rw [if_neg c8] at H
            exact absurd H (by simp)

/-! ### laws_markStoredS: function 162 -/
def laws_markStoredS.l0 : Nat → List (S194) → Int → Int → Option (Int × (List (S194)))
  | 0, _, _, _ => none
  | k + 1, x0, x1, x5 => if x5 < (x0.length : Int) then ((laws_markText.f k x1).bind fun t405 => (if 0 ≤ x5 then ((some (x0.set (x5 : Int).toNat (⟨t405, (rd_T194 x0 x5).f1, (rd_T194 x0 x5).f2⟩ : S194) : List (S194))).bind fun y406 => ((laws_markText.f k (wrap64 (x1 + 1))).bind fun t407 => ((some (y406.set (x5 : Int).toNat (⟨(rd_T194 y406 x5).f0, t407, (rd_T194 y406 x5).f2⟩ : S194) : List (S194))).bind fun y408 => (laws_markStoredS.l0 k (y408.set (x5 : Int).toNat (⟨(rd_T194 y408 x5).f0, (rd_T194 y408 x5).f1, wrap64 ((wrap64 (x1 + 1)) + 1)⟩ : S194)) (wrap64 ((wrap64 ((wrap64 (x1 + 1)) + 1)) + 1)) (wrap64 (x5 + 1)))))) else (none))) else (some (x1, x0))
def laws_markStoredS.f (k : Nat) (l0 : List (S194)) (a1 : Int) : Option (Int × (List (S194))) := laws_markStoredS.l0 k l0 a1 0
theorem laws_markStoredS.mono_l : ∀ k, (∀ y0 y1 y2, LeO (laws_markStoredS.l0 k y0 y1 y2) (laws_markStoredS.l0 (k + 1) y0 y1 y2))
  | 0 => fun _ _ _ r h => by simp [laws_markStoredS.l0] at h
  | k + 1 => by
    have ih0 := laws_markStoredS.mono_l k
    · intro y0 y1 y2
      unfold laws_markStoredS.l0
      repeat' first
      | (with_reducible exact ih0 _ _ _)
      | (with_reducible exact laws_markText.mono _ _)
      | (with_reducible exact LeO.refl _)
      | (with_reducible exact LeO.none _)
      | (with_reducible refine LeO.ite ?_ ?_)
      | (with_reducible refine LeO.bind ?_ (fun _ => ?_))
      | exact ih0 _ _ _
      | exact laws_markText.mono _ _
      | exact LeO.none _
      | refine LeO.ite ?_ ?_
      | refine LeO.bind ?_ (fun _ => ?_)
theorem laws_markStoredS.mono : ∀ a0 a1 k, LeO (laws_markStoredS.f k a0 a1) (laws_markStoredS.f (k + 1) a0 a1) := by
  intro a0 a1 k
  have ih0 := laws_markStoredS.mono_l k
  unfold laws_markStoredS.f
  repeat' first
      | (with_reducible exact ih0 _ _ _)
      | (with_reducible exact laws_markText.mono _ _)
      | (with_reducible exact LeO.refl _)
      | (with_reducible exact LeO.none _)
      | (with_reducible refine LeO.ite ?_ ?_)
      | (with_reducible refine LeO.bind ?_ (fun _ => ?_))
      | exact ih0 _ _ _
      | exact laws_markText.mono _ _
      | exact LeO.none _
      | refine LeO.ite ?_ ?_
      | refine LeO.bind ?_ (fun _ => ?_)
set_option maxHeartbeats 8000000 in
set_option maxRecDepth 100000 in
theorem laws_markStoredS.calls (k : Nat) (P0_ : Nat → Prop) (u9000_ : Value) (l0 : List (S194)) (a1 : Int) (r1 : Int) (r2 : List (S194)) (w0 w : World) (hB : Below w0.heap.size w0 w) (ho0 : Kd.R k194 194 w w0.heap.size P0_ u9000_ l0) (h : laws_markStoredS.f k l0 a1 = some (r1, r2)) :
    Calls Try.prog 162 #[u9000_, .int .i64 a1] w fun e w' => e = .returned (.int .i64 r1) ∧ Kd.R k194 194 w' w0.heap.size (fun k_ => (P0_ k_ ∨ w.heap.size ≤ k_)) u9000_ r2 ∧ Below w0.heap.size w0 w' ∧ Kept w w' (fun k_ => P0_ k_) := by
  have HO0 := AM (show Kd.R k194 194 w w0.heap.size (fun k_ => (P0_ k_ ∨ w.heap.size ≤ k_)) u9000_ l0 from Kd.R_mono ho0 (fun k_ hk => (.inl hk)))
  have HK := AM (Kept.refl w (fun k_ => P0_ k_))
  have HW0 := AM hB.size
  have HB := AM hB
  clear hB
  have H : (laws_markStoredS.l0 k l0 a1 0) = some (r1, r2) := h
  clear h
  have H' := AM H
  clear H
  go_enter Try.func162, Try.ntmps162
  go_wp2
  go_loopg [1, 5] k (fun kq v1 v5 w' => ∃ (x0_1 : List (S194)) (x1_1 : Int) (x5_1 : Int), v1 = .int .i64 x1_1 ∧ v5 = .int .i64 x5_1 ∧ Aside0 (laws_markStoredS.l0 kq x0_1 x1_1 x5_1 = some (r1, r2)) ∧ Aside0 (kq ≤ k) ∧ Aside0 (Kd.R k194 194 w' w0.heap.size (fun k_ => (P0_ k_ ∨ w.heap.size ≤ k_)) u9000_ x0_1) ∧ Aside0 (Kept w w' (fun k_ => P0_ k_)) ∧ Aside0 (Below w0.heap.size w0 w'))
  case atStart => exact ⟨(l0), (a1), (0), (by first | rfl | (simp; done) | (simp [*]; done)), (by first | rfl | (simp; done) | (simp [*]; done)), H', ⟨Nat.le_refl _⟩, ⟨ro_ HO0.out⟩, ⟨kt_⟩, ⟨bel_⟩⟩
  case round =>
    clear H'
    try clear c1
    try clear p2
    obtain ⟨x0_1, x1_1, x5_1, rfl, rfl, HA, HK1, HO_0, HK, HB⟩ := hrel
    cases gk with
    | zero => exact absurd HA.out (by simp [laws_markStoredS.l0])
    | succ k1 =>
      have H := HA.out
      clear HA
      simp only [laws_markStoredS.l0] at H
      by_cases c3 : x5_1 < (x0_1.length : Int)
      · rw [if_pos c3] at H
        have c3b0 : decide (x5_1 < (x0_1.length : Int)) = true := decide_eq_true c3
        clear c3
        obtain ⟨t405, A4, H⟩ := OB H
        try dsimp only at H
        replace A4 := AM A4
        by_cases c5 : 0 ≤ x5_1
        · rw [if_pos c5] at H
          have c5b0 : decide (0 ≤ x5_1) = true := decide_eq_true c5
          clear c5
          obtain ⟨y406, hy406⟩ : ∃ y_ : List (S194), y_ = (x0_1.set (x5_1 : Int).toNat (⟨t405, (rd_T194 x0_1 x5_1).f1, (rd_T194 x0_1 x5_1).f2⟩ : S194)) := ⟨_, rfl⟩
          replace H : ((laws_markText.f k1 (wrap64 (x1_1 + 1))).bind fun t407 => ((some (y406.set (x5_1 : Int).toNat (⟨(rd_T194 y406 x5_1).f0, t407, (rd_T194 y406 x5_1).f2⟩ : S194) : List (S194))).bind fun y408 => (laws_markStoredS.l0 k1 (y408.set (x5_1 : Int).toNat (⟨(rd_T194 y408 x5_1).f0, (rd_T194 y408 x5_1).f1, wrap64 ((wrap64 (x1_1 + 1)) + 1)⟩ : S194)) (wrap64 ((wrap64 ((wrap64 (x1_1 + 1)) + 1)) + 1)) (wrap64 (x5_1 + 1))))) = some (r1, r2) := by first | (rw [hy406]; with_reducible exact H) | (have H2_ := (Option.bind_some _ _).symm.trans H; rw [hy406]; with_reducible exact H2_) | (have H2_ := (Option.bind_some _ _).symm.trans H; with_reducible exact H2_) | with_reducible exact H | (rw [hy406]; exact H) | exact H
          have Ny406 := AM hy406
          clear hy406
          obtain ⟨t407, A7, H⟩ := OB H
          try dsimp only at H
          replace A7 := AM A7
          obtain ⟨y408, hy408⟩ : ∃ y_ : List (S194), y_ = (y406.set (x5_1 : Int).toNat (⟨(rd_T194 y406 x5_1).f0, t407, (rd_T194 y406 x5_1).f2⟩ : S194)) := ⟨_, rfl⟩
          replace H : (laws_markStoredS.l0 k1 (y408.set (x5_1 : Int).toNat (⟨(rd_T194 y408 x5_1).f0, (rd_T194 y408 x5_1).f1, wrap64 ((wrap64 (x1_1 + 1)) + 1)⟩ : S194)) (wrap64 ((wrap64 ((wrap64 (x1_1 + 1)) + 1)) + 1)) (wrap64 (x5_1 + 1))) = some (r1, r2) := by first | (rw [hy408]; with_reducible exact H) | (have H2_ := (Option.bind_some _ _).symm.trans H; rw [hy408]; with_reducible exact H2_) | (have H2_ := (Option.bind_some _ _).symm.trans H; with_reducible exact H2_) | with_reducible exact H | (rw [hy408]; exact H) | exact H
          have Ny408 := AM hy408
          clear hy408
          obtain ⟨y409, hy409⟩ : ∃ y_ : List (S194), y_ = (y408.set (x5_1 : Int).toNat (⟨(rd_T194 y408 x5_1).f0, (rd_T194 y408 x5_1).f1, wrap64 ((wrap64 (x1_1 + 1)) + 1)⟩ : S194)) := ⟨_, rfl⟩
          replace H : (laws_markStoredS.l0 k1 y409 (wrap64 ((wrap64 ((wrap64 (x1_1 + 1)) + 1)) + 1)) (wrap64 (x5_1 + 1))) = some (r1, r2) := by first | (rw [hy409]; with_reducible exact H) | (have H2_ := (Option.bind_some _ _).symm.trans H; rw [hy409]; with_reducible exact H2_) | (have H2_ := (Option.bind_some _ _).symm.trans H; with_reducible exact H2_) | with_reducible exact H | (rw [hy409]; exact H) | exact H
          have Ny409 := AM hy409
          clear hy409
          have H' := AM H
          clear H
          obtain ⟨Ao10, co10, eo10⟩ := Kd.R_slice HO_0.out
          subst eo10
          go_wp2_with (first | ((with_reducible refine gate_callee (f := 75) rfl ?_); refine gl_ (some 15) Try.func75 #[.int .i64 x1_1] ?_; (with_reducible refine (laws_markText.calls k1 x1_1 t405 _ A4.out).mono ?_); rintro e w11 ⟨rfl, hb⟩; refine ⟨_, rfl, ?_⟩; replace HO_0 := AM (Kd.R_below (ro_ HO_0.out) hb); replace HK := AM (Kept.below (S := (fun k_ => P0_ k_)) kt_ hb); replace HB := AM (below_step bel_ hb); (try clear hb); (try clear hb2); (try clear hk); (try clear hi); have p6 : 0 ≤ (x5_1 : Int) := of_decide_eq_true (by first | (with_reducible assumption) | assumption); have q6 : (x5_1 : Int) < ((x0_1.length : Int) : Int) := of_decide_eq_true (by first | (with_reducible assumption) | assumption); obtain ⟨go6, co6, eo6, gb6, gl6, cl6, HG6⟩ := Kd.R_form HO_0.out (by omega); (first | cases eo6 | (injection eo6 with ea_ en_ ec_; (first | subst ea_ | (injection ea_ with ea_; subst ea_)); subst ec_; clear en_)); have GB6 := AM gb6; have GG6 := AM HG6; clear gb6 gl6 HG6; have HMgo6 := AM (show (P0_ go6 ∨ w.heap.size ≤ go6) from (HO_0.out.1 _ rfl)); obtain ⟨ce6, hcl6, hM6, hcc6, hfr6⟩ := Kd.R_elem HO_0.out z194 (x5_1 : Int) p6 q6; obtain rfl := k194_openM hM6; have hx6_0 : w11.cell? ⟨go6, (x5_1 : Int).toNat * 3, none⟩ = some (.string ((rd_T194 x0_1 x5_1).f0)) := hcc6 0 _ rfl; have hx6_1 : w11.cell? ⟨go6, (x5_1 : Int).toNat * 3 + 1, none⟩ = some (.string ((rd_T194 x0_1 x5_1).f1)) := hcc6 1 _ rfl; have hx6_2 : w11.cell? ⟨go6, (x5_1 : Int).toNat * 3 + 2, none⟩ = some (.int .i64 ((rd_T194 x0_1 x5_1).f2)) := hcc6 2 _ rfl; have hf6_0 : w11.frozen? ⟨go6, (x5_1 : Int).toNat * 3, none⟩ = false := hfr6 0; have hf6_1 : w11.frozen? ⟨go6, (x5_1 : Int).toNat * 3 + 1, none⟩ = false := hfr6 1; have hf6_2 : w11.frozen? ⟨go6, (x5_1 : Int).toNat * 3 + 2, none⟩ = false := hfr6 2; clear hcl6 hcc6 hfr6 hM6; replace p6 := eq_true p6; replace q6 := eq_true q6; have HX12 := AM (show Kd.R k194 194 w11 w0.heap.size (fun k_ => (P0_ k_ ∨ w.heap.size ≤ k_)) (.slice (some ⟨go6, 0, none⟩) x0_1.length co10) x0_1 from (ro_ HO_0.out)); obtain ⟨ce12, hcl12, hM12, hcc12, hfr12⟩ := Kd.R_elem HX12.out z194 (x5_1 : Int) (of_decide_eq_true (by first | (with_reducible assumption) | assumption)) (by have h_ : (x5_1 : Int) < ((x0_1.length : Int) : Int) := of_decide_eq_true (by first | (with_reducible assumption) | assumption); first | exact h_ | (have e_ := (Kd.R_reads' HO_0.out).1; omega) | simpa using h_); obtain rfl := k194_openM hM12; have HP12 := Kd.R_seg HX12.out (x5_1 : Int) (of_decide_eq_true (by first | (with_reducible assumption) | assumption)) (by have h_ : (x5_1 : Int) < ((x0_1.length : Int) : Int) := of_decide_eq_true (by first | (with_reducible assumption) | assumption); first | exact h_ | (have e_ := (Kd.R_reads' HO_0.out).1; omega) | simpa using h_) (seg := [.string t405]) (j := 0) hcl12 hcc12 (show 1 ≤ 3 from by decide) (x' := (⟨t405, (rd_T194 x0_1 x5_1).f1, (rd_T194 x0_1 x5_1).f2⟩ : S194)) (k194_mkM _ _ _ (⟨t405, (rd_T194 x0_1 x5_1).f1, (rd_T194 x0_1 x5_1).f2⟩ : S194) ) (fun _ hk => hk); have hx12_0 := hcc12 0 _ rfl; (try simp only [show (k194).sz = 3 from rfl, Nat.mul_one, Nat.add_zero] at hx12_0); have hf12_0 := hfr12 0; (try simp only [show (k194).sz = 3 from rfl, Nat.mul_one, Nat.add_zero] at hf12_0); clear hcl12 hcc12 hfr12 hM12) | ((with_reducible refine gate_store (t := 9) (p := 17) rfl ?_); refine store_event (t := 9) (p := 17) (v := ?vo_w13) (w1 := (w11.setCell ⟨go6, (x5_1 : Int).toNat * 3, none⟩ (.string t405))) ?hg ?ho ?hn ?hr ?_; (case ho => rfl); (case hg => rfl); (case hn => rfl); (case hr => first | (go_simp; done) | (go_simp; rfl)); intro w13 hw; have hg : w11.grownBy w13 (some go6) := (by rw [hw]; exact HP12.2); have hp_ : Kd.R k194 194 w13 w0.heap.size (fun k_ => (P0_ k_ ∨ w.heap.size ≤ k_)) (.slice (some ⟨go6, 0, none⟩) x0_1.length co10) y406 := (by rw [hw, Ny406.out]; exact HP12.1); clear HP12; replace HB := AM ((by rw [hw]; exact below_set (HB.out) GB6.out : Below w0.heap.size w0 w13)); replace HK := AM (Kept.of_grown (S := (fun k_ => P0_ k_)) hg kt_ (fun k_ e_ => (HO_0.out.1 k_ e_))); replace HO_0 := AM hp_; clear hg hw hp_) | ((with_reducible refine gate_callee (f := 75) rfl ?_); refine gl_ (some 23) Try.func75 #[.int .i64 (wrap64 (x1_1 + 1))] ?_; (with_reducible refine (laws_markText.calls k1 (wrap64 (x1_1 + 1)) t407 _ A7.out).mono ?_); rintro e w14 ⟨rfl, hb⟩; refine ⟨_, rfl, ?_⟩; replace HO_0 := AM (Kd.R_below (ro_ HO_0.out) hb); replace HK := AM (Kept.below (S := (fun k_ => P0_ k_)) kt_ hb); replace HB := AM (below_step bel_ hb); (try clear hb); (try clear hb2); (try clear hk); (try clear hi); have p8 : 0 ≤ (x5_1 : Int) := of_decide_eq_true (by first | (with_reducible assumption) | assumption); have q8 : (x5_1 : Int) < ((x0_1.length : Int) : Int) := of_decide_eq_true (by first | (with_reducible assumption) | assumption); obtain ⟨ce8, hcl8, hM8, hcc8, hfr8⟩ := Kd.R_elem HO_0.out z194 (x5_1 : Int) p8 q8; obtain rfl := k194_openM hM8; have hx8_0 : w14.cell? ⟨go6, (x5_1 : Int).toNat * 3, none⟩ = some (.string ((rd_T194 y406 x5_1).f0)) := hcc8 0 _ rfl; have hx8_1 : w14.cell? ⟨go6, (x5_1 : Int).toNat * 3 + 1, none⟩ = some (.string ((rd_T194 y406 x5_1).f1)) := hcc8 1 _ rfl; have hx8_2 : w14.cell? ⟨go6, (x5_1 : Int).toNat * 3 + 2, none⟩ = some (.int .i64 ((rd_T194 y406 x5_1).f2)) := hcc8 2 _ rfl; have hf8_0 : w14.frozen? ⟨go6, (x5_1 : Int).toNat * 3, none⟩ = false := hfr8 0; have hf8_1 : w14.frozen? ⟨go6, (x5_1 : Int).toNat * 3 + 1, none⟩ = false := hfr8 1; have hf8_2 : w14.frozen? ⟨go6, (x5_1 : Int).toNat * 3 + 2, none⟩ = false := hfr8 2; clear hcl8 hcc8 hfr8 hM8; replace p8 := eq_true p8; replace q8 := eq_true q8; have HX15 := AM (show Kd.R k194 194 w14 w0.heap.size (fun k_ => (P0_ k_ ∨ w.heap.size ≤ k_)) (.slice (some ⟨go6, 0, none⟩) x0_1.length co10) y406 from (ro_ HO_0.out)); obtain ⟨ce15, hcl15, hM15, hcc15, hfr15⟩ := Kd.R_elem HX15.out z194 (x5_1 : Int) (of_decide_eq_true (by first | (with_reducible assumption) | assumption)) (by have h_ : (x5_1 : Int) < ((x0_1.length : Int) : Int) := of_decide_eq_true (by first | (with_reducible assumption) | assumption); first | exact h_ | (have e_ := (Kd.R_reads' HO_0.out).1; omega) | simpa using h_); obtain rfl := k194_openM hM15; have HP15 := Kd.R_seg HX15.out (x5_1 : Int) (of_decide_eq_true (by first | (with_reducible assumption) | assumption)) (by have h_ : (x5_1 : Int) < ((x0_1.length : Int) : Int) := of_decide_eq_true (by first | (with_reducible assumption) | assumption); first | exact h_ | (have e_ := (Kd.R_reads' HO_0.out).1; omega) | simpa using h_) (seg := [.string t407]) (j := 1) hcl15 hcc15 (show 2 ≤ 3 from by decide) (x' := (⟨(rd_T194 y406 x5_1).f0, t407, (rd_T194 y406 x5_1).f2⟩ : S194)) (k194_mkM _ _ _ (⟨(rd_T194 y406 x5_1).f0, t407, (rd_T194 y406 x5_1).f2⟩ : S194) ) (fun _ hk => hk); have hx15_1 := hcc15 1 _ rfl; (try simp only [show (k194).sz = 3 from rfl, Nat.mul_one, Nat.add_zero] at hx15_1); have hf15_1 := hfr15 1; (try simp only [show (k194).sz = 3 from rfl, Nat.mul_one, Nat.add_zero] at hf15_1); clear hcl15 hcc15 hfr15 hM15) | ((with_reducible refine gate_store (t := 9) (p := 25) rfl ?_); refine store_event (t := 9) (p := 25) (v := ?vo_w16) (w1 := (w14.setCell ⟨go6, (x5_1 : Int).toNat * 3 + 1, none⟩ (.string t407))) ?hg ?ho ?hn ?hr ?_; (case ho => rfl); (case hg => rfl); (case hn => rfl); (case hr => first | (go_simp; done) | (go_simp; rfl)); intro w16 hw; have hg : w14.grownBy w16 (some go6) := (by rw [hw]; exact HP15.2); have hp_ : Kd.R k194 194 w16 w0.heap.size (fun k_ => (P0_ k_ ∨ w.heap.size ≤ k_)) (.slice (some ⟨go6, 0, none⟩) x0_1.length co10) y408 := (by rw [hw, Ny408.out]; exact HP15.1); clear HP15; replace HB := AM ((by rw [hw]; exact below_set (HB.out) GB6.out : Below w0.heap.size w0 w16)); replace HK := AM (Kept.of_grown (S := (fun k_ => P0_ k_)) hg kt_ (fun k_ e_ => (HO_0.out.1 k_ e_))); replace HO_0 := AM hp_; clear hg hw hp_; have p9 : 0 ≤ (x5_1 : Int) := of_decide_eq_true (by first | (with_reducible assumption) | assumption); have q9 : (x5_1 : Int) < ((x0_1.length : Int) : Int) := of_decide_eq_true (by first | (with_reducible assumption) | assumption); obtain ⟨ce9, hcl9, hM9, hcc9, hfr9⟩ := Kd.R_elem HO_0.out z194 (x5_1 : Int) p9 q9; obtain rfl := k194_openM hM9; have hx9_0 : w16.cell? ⟨go6, (x5_1 : Int).toNat * 3, none⟩ = some (.string ((rd_T194 y408 x5_1).f0)) := hcc9 0 _ rfl; have hx9_1 : w16.cell? ⟨go6, (x5_1 : Int).toNat * 3 + 1, none⟩ = some (.string ((rd_T194 y408 x5_1).f1)) := hcc9 1 _ rfl; have hx9_2 : w16.cell? ⟨go6, (x5_1 : Int).toNat * 3 + 2, none⟩ = some (.int .i64 ((rd_T194 y408 x5_1).f2)) := hcc9 2 _ rfl; have hf9_0 : w16.frozen? ⟨go6, (x5_1 : Int).toNat * 3, none⟩ = false := hfr9 0; have hf9_1 : w16.frozen? ⟨go6, (x5_1 : Int).toNat * 3 + 1, none⟩ = false := hfr9 1; have hf9_2 : w16.frozen? ⟨go6, (x5_1 : Int).toNat * 3 + 2, none⟩ = false := hfr9 2; clear hcl9 hcc9 hfr9 hM9; replace p9 := eq_true p9; replace q9 := eq_true q9; have HX17 := AM (show Kd.R k194 194 w16 w0.heap.size (fun k_ => (P0_ k_ ∨ w.heap.size ≤ k_)) (.slice (some ⟨go6, 0, none⟩) x0_1.length co10) y408 from (ro_ HO_0.out)); obtain ⟨ce17, hcl17, hM17, hcc17, hfr17⟩ := Kd.R_elem HX17.out z194 (x5_1 : Int) (of_decide_eq_true (by first | (with_reducible assumption) | assumption)) (by have h_ : (x5_1 : Int) < ((x0_1.length : Int) : Int) := of_decide_eq_true (by first | (with_reducible assumption) | assumption); first | exact h_ | (have e_ := (Kd.R_reads' HO_0.out).1; omega) | simpa using h_); obtain rfl := k194_openM hM17; have HP17 := Kd.R_seg HX17.out (x5_1 : Int) (of_decide_eq_true (by first | (with_reducible assumption) | assumption)) (by have h_ : (x5_1 : Int) < ((x0_1.length : Int) : Int) := of_decide_eq_true (by first | (with_reducible assumption) | assumption); first | exact h_ | (have e_ := (Kd.R_reads' HO_0.out).1; omega) | simpa using h_) (seg := [.int .i64 (wrap64 ((wrap64 (x1_1 + 1)) + 1))]) (j := 2) hcl17 hcc17 (show 3 ≤ 3 from by decide) (x' := (⟨(rd_T194 y408 x5_1).f0, (rd_T194 y408 x5_1).f1, wrap64 ((wrap64 (x1_1 + 1)) + 1)⟩ : S194)) (k194_mkM _ _ _ (⟨(rd_T194 y408 x5_1).f0, (rd_T194 y408 x5_1).f1, wrap64 ((wrap64 (x1_1 + 1)) + 1)⟩ : S194) ) (fun _ hk => hk); have hx17_2 := hcc17 2 _ rfl; (try simp only [show (k194).sz = 3 from rfl, Nat.mul_one, Nat.add_zero] at hx17_2); have hf17_2 := hfr17 2; (try simp only [show (k194).sz = 3 from rfl, Nat.mul_one, Nat.add_zero] at hf17_2); clear hcl17 hcc17 hfr17 hM17) | ((with_reducible refine gate_store (t := 2) (p := 32) rfl ?_); refine store_event (t := 2) (p := 32) (v := ?vo_w18) (w1 := (w16.setCell ⟨go6, (x5_1 : Int).toNat * 3 + 2, none⟩ (.int .i64 (wrap64 ((wrap64 (x1_1 + 1)) + 1))))) ?hg ?ho ?hn ?hr ?_; (case ho => rfl); (case hg => rfl); (case hn => rfl); (case hr => first | (go_simp; done) | (go_simp; rfl)); intro w18 hw; have hg : w16.grownBy w18 (some go6) := (by rw [hw]; exact HP17.2); have hp_ : Kd.R k194 194 w18 w0.heap.size (fun k_ => (P0_ k_ ∨ w.heap.size ≤ k_)) (.slice (some ⟨go6, 0, none⟩) x0_1.length co10) y409 := (by rw [hw, Ny409.out]; exact HP17.1); clear HP17; replace HB := AM ((by rw [hw]; exact below_set (HB.out) GB6.out : Below w0.heap.size w0 w18)); replace HK := AM (Kept.of_grown (S := (fun k_ => P0_ k_)) hg kt_ (fun k_ e_ => (HO_0.out.1 k_ e_))); replace HO_0 := AM hp_; clear hg hw hp_))
          go_roundg k1
          case measure => have := HK1.out; omega
          case rel => exact ⟨(y409), (wrap64 ((wrap64 ((wrap64 (x1_1 + 1)) + 1)) + 1)), (wrap64 (x5_1 + 1)), (by first | rfl | (simp; done) | (simp [*]; done)), (by first | rfl | (simp; done) | (simp [*]; done)), H', ⟨by have := HK1.out; omega⟩, ⟨ro_ HO_0.out⟩, ⟨kt_⟩, ⟨bel_⟩⟩
        · rw [if_neg c5] at H
          exact absurd H (by simp)
      · rw [if_neg c3] at H
        have c3b0 : decide (x5_1 < (x0_1.length : Int)) = false := decide_eq_false c3
        clear c3
        simp only [Option.some.injEq, Prod.mk.injEq] at H
        obtain ⟨rfl, rfl⟩ := H
        obtain ⟨Ao19, co19, eo19⟩ := Kd.R_slice HO_0.out
        subst eo19
        go_wp2
        go_ret
        exact ⟨ri_, ro_ HO_0.out, bel_, kt_⟩

/-! ### laws_markDriveS: function 108 -/
theorem dr_put {W : World} {base g n cap : Nat} {ok : Nat → Prop} {xs : List S192} (h : Kd.S k192 192 W base ok (.slice (some ⟨g, 0, none⟩) n cap) xs) (i : Int) (h0 : 0 ≤ i) (h1 : i < n) (u : Int) :
    Kd.S k192 192 (W.setCells g (i.toNat * 2 + 1) [.int .i64 u]) base ok (.slice (some ⟨g, 0, none⟩) n cap) (xs.set i.toNat ⟨(rd_T192 xs i).f0, u⟩) ∧ W.grownBy (W.setCells g (i.toNat * 2 + 1) [.int .i64 u]) (some g) := by
  obtain ⟨oki, c, hcl, hM, hcc, hfr, hoki, hH⟩ := Kd.S_elem h z192 i h0 h1
  obtain ⟨v0, rfl, ge⟩ := k192_openM hM
  have e : (fun k => ok k ∧ ¬ (fun _ : Nat => False) k) = ok := by funext k; simp
  have hH' : Kd.H k192 192 W base (fun k => ok k ∧ ¬ (fun _ : Nat => False) k) (.slice (some ⟨g, 0, none⟩) n cap) xs i oki [v0, .int .i64 (rd_T192 xs i).f1] := by rw [e]; exact hH
  refine Kd.S_seg (okp := oki) hH' h0 h1 (seg := [.int .i64 u]) (j := 1) (show 1 + 1 ≤ 2 by decide) (x' := ⟨(rd_T192 xs i).f0, u⟩) ?_ (fun k hk => .inl hk) (fun k hk => hk.elim)
  exact k192_mkM _ _ _ ⟨(rd_T192 xs i).f0, u⟩ ge
theorem dr_cells {W : World} {base g n cap : Nat} {ok : Nat → Prop} {xs : List S192} (h : Kd.S k192 192 W base ok (.slice (some ⟨g, 0, none⟩) n cap) xs) (i : Int) (h0 : 0 ≤ i) (h1 : i < n) :
    W.cell? ⟨g, i.toNat * 2 + 1, none⟩ = some (.int .i64 (rd_T192 xs i).f1) ∧ (∀ j, W.frozen? ⟨g, i.toNat * 2 + j, none⟩ = false) := by
  obtain ⟨oki, c, hcl, hM, hcc, hfr, hoki, hH⟩ := Kd.S_elem h z192 i h0 h1
  obtain ⟨v0, rfl, ge⟩ := k192_openM hM
  exact ⟨hcc 1 _ rfl, hfr⟩
/-- the element's own row of files, lent and given back. -/
theorem dr_in {W : World} {base g n cap : Nat} {ok : Nat → Prop} {xs : List S192} (h : Kd.S k192 192 W base ok (.slice (some ⟨g, 0, none⟩) n cap) xs) (i : Int) (h0 : 0 ≤ i) (h1 : i < n) :
    ∃ (v0 : Value) (oki : Nat → Prop), W.cell? ⟨g, i.toNat * 2, none⟩ = some v0 ∧ Kd.R k194 194 W base oki v0 (rd_T192 xs i).f0 ∧ (∀ k, oki k → ok k ∧ k ≠ g) ∧
      ∀ (w1 : World) (ys : List S194) (okq : Nat → Prop), Kd.R k194 194 w1 base okq v0 ys → (∀ k, k < W.heap.size → ¬ oki k → w1.heap[k]? = W.heap[k]?) →
        Kd.S k192 192 w1 base ok (.slice (some ⟨g, 0, none⟩) n cap) (xs.set i.toNat ⟨ys, (rd_T192 xs i).f1⟩) := by
  obtain ⟨oki, c, hcl, hM, hcc, hfr, hoki, hH⟩ := Kd.S_elem h z192 i h0 h1
  obtain ⟨v0, rfl, ge⟩ := k192_openM hM
  refine ⟨v0, oki, hcc 0 _ rfl, ge, hoki, fun w1 ys okq hR hk => ?_⟩
  have ht := Kd.R_tight rfl hR
  obtain ⟨ho, f, hg⟩ := hH
  have hg2 := Kd.R_step hg (w1 := w1) (fun k hok hlt => hk k hlt hok.2)
  have hH2 : Kd.H k192 192 w1 base ok (.slice (some ⟨g, 0, none⟩) n cap) xs i oki _ := ⟨ho, f, hg2⟩
  exact Kd.H_back hH2 (x' := ⟨ys, (rd_T192 xs i).f1⟩) (k192_mkM _ _ _ ⟨ys, (rd_T192 xs i).f1⟩ ht) (fun k hk' => ge.1 k hk'.symm)
def laws_markDriveS.l0 : Nat → List (S192) → Int → Int → Option (Int × List (S192))
  | 0, _, _, _ => none
  | k + 1, x0, x1, x5 => if x5 < (x0.length : Int) then (if 0 ≤ x5 then ((laws_markStoredS.f k (rd_T192 x0 x5).f0 x1).bind fun p => (laws_markDriveS.l0 k (x0.set (x5 : Int).toNat (⟨p.2, p.1⟩ : S192)) (wrap64 (p.1 + 1)) (wrap64 (x5 + 1)))) else (none)) else (some (x1, x0))
def laws_markDriveS.f (k : Nat) (l0 : List (S192)) (a1 : Int) : Option (Int × List (S192)) := laws_markDriveS.l0 k l0 a1 0
theorem laws_markDriveS.mono_l : ∀ k, (∀ y0 y1 y2, LeO (laws_markDriveS.l0 k y0 y1 y2) (laws_markDriveS.l0 (k + 1) y0 y1 y2))
  | 0 => fun _ _ _ r h => by simp [laws_markDriveS.l0] at h
  | k + 1 => by
    have ih0 := laws_markDriveS.mono_l k
    · intro y0 y1 y2
      unfold laws_markDriveS.l0
      repeat' first
      | (with_reducible exact ih0 _ _ _)
      | (with_reducible exact laws_markStoredS.mono _ _ _)
      | (with_reducible exact LeO.refl _)
      | (with_reducible refine LeO.ite ?_ ?_)
      | (with_reducible refine LeO.bind ?_ (fun _ => ?_))
theorem laws_markDriveS.mono : ∀ a0 a1 k, LeO (laws_markDriveS.f k a0 a1) (laws_markDriveS.f (k + 1) a0 a1) := fun _ _ k => laws_markDriveS.mono_l k _ _ _
theorem dr_set (xs : List S192) (i : Nat) (a b : S192) : (xs.set i a).set i b = xs.set i b := by simp
theorem dr_rd (xs : List S192) (i : Int) (h0 : 0 ≤ i) (h1 : i < (xs.length : Int)) (a : S192) : rd_T192 (xs.set i.toNat a) i = a := by
  unfold rd_T192
  rw [List.getD_eq_getElem?_getD, List.getElem?_set_self (by omega)]
  rfl
set_option maxHeartbeats 8000000 in
set_option maxRecDepth 100000 in
theorem laws_markDriveS.calls (k : Nat) (P0_ : Nat → Prop) (u9000_ : Value) (l0 : List (S192)) (a1 : Int) (r1 : Int) (r2 : List (S192)) (w0 w : World) (hB : Below w0.heap.size w0 w) (ho0 : Kd.S k192 192 w w0.heap.size P0_ u9000_ l0) (h : laws_markDriveS.f k l0 a1 = some (r1, r2)) :
    Calls Try.prog 108 #[u9000_, .int .i64 a1] w fun e w' => e = .returned (.int .i64 r1) ∧ Kd.S k192 192 w' w0.heap.size P0_ u9000_ r2 ∧ Below w0.heap.size w0 w' ∧ Kept w w' (fun k_ => P0_ k_) := by
  have hu := Try.underlying192
  have HO := AM ho0
  have HK := AM (Kept.refl w (fun k_ => P0_ k_))
  have HB := AM hB
  have HW0 := AM hB.size
  clear hB ho0
  have H' := AM (show laws_markDriveS.l0 k l0 a1 0 = some (r1, r2) from h)
  clear h
  go_enter Try.func108, Try.ntmps108
  go_wp2
  go_loopg [1, 5] k (fun kq v1 v5 w' => ∃ (xs : List (S192)) (q : Int) (x : Int), v1 = .int .i64 q ∧ v5 = .int .i64 x ∧ Aside0 (laws_markDriveS.l0 kq xs q x = some (r1, r2)) ∧ Aside0 (kq ≤ k) ∧ Aside0 (Kd.S k192 192 w' w0.heap.size P0_ u9000_ xs) ∧ Aside0 (Kept w w' (fun k_ => P0_ k_)) ∧ Aside0 (Below w0.heap.size w0 w'))
  case atStart => exact ⟨l0, a1, 0, rfl, rfl, H', ⟨Nat.le_refl _⟩, HO, HK, HB⟩
  case round =>
    clear H' HO HK HB
    obtain ⟨xs, q, x, rfl, rfl, HA, HK1, HO, HK, HB⟩ := hrel
    cases gk with
    | zero => exact absurd HA.out (by simp [laws_markDriveS.l0])
    | succ k1 =>
      have H := HA.out
      clear HA
      simp only [laws_markDriveS.l0] at H
      by_cases c3 : x < (xs.length : Int)
      · rw [if_pos c3] at H
        by_cases c4 : 0 ≤ x
        · rw [if_pos c4] at H
          obtain ⟨⟨p1, p2⟩, hp, H2⟩ := Option.bind_eq_some_iff.mp H
          clear H
          have HN := AM H2
          have HP := AM hp
          clear H2 hp
          obtain ⟨g, cap, hv, hbg, hgl, hgc⟩ := Kd.S_form HO.out (by omega)
          subst hv
          have hPg : P0_ g := (Kd.S_R HO.out).1 g (by simp [Value.ownBlock])
          have HPG := AM hPg
          have HBG := AM hbg
          have C3 := AM c3
          have C4 := AM c4
          have c3b0 : decide (x < (xs.length : Int)) = true := decide_eq_true c3
          have c4b0 := eq_true c4
          have c3b1 := eq_true c3
          obtain ⟨v0, oki, hx0, hR0, hoki, hback⟩ := dr_in HO.out x c4 c3
          have HR0 := AM hR0
          have HOK := AM hoki
          have HBK := AM hback
          clear c3 c4 hPg hbg hgl hgc hR0 hoki hback
          go_wp2_with (first
            | ((with_reducible refine gate_callee (f := 162) rfl ?_); refine gl_ (some 18) Try.func162 #[v0, .int .i64 q] ?_; (with_reducible refine (laws_markStoredS.calls k1 oki v0 _ _ p1 p2 w0 _ HB.out HR0.out HP.out).mono ?_); rintro e w6 ⟨rfl, hR, hb, hk⟩; refine ⟨_, rfl, ?_⟩; have ho_ := HBK.out w6 p2 _ hR (fun k_ hlt hn => hk.2 k_ hlt hn); replace HO := AM ho_; replace HK := AM (Kept.then_ HK.out hk (fun k_ hq => .inl (HOK.out k_ hq).1)); replace HB := AM hb; clear hR hb hk ho_; have hcs_ := dr_cells HO.out x C4.out C3.out; have hcx1 := hcs_.1; have hfx1 := hcs_.2 1; clear hcs_)
            | ((with_reducible refine gate_store (t := 2) (p := 23) rfl ?_); refine store_event (t := 2) (p := 23) (v := ?vo2m) (w1 := w6.setCell ⟨g, x.toNat * 2 + 1, none⟩ (.int .i64 p1)) ?hg2m ?ho2m ?hn2m ?hr2m ?_; (case ho2m => rfl); (case hg2m => rfl); (case hn2m => rfl); (case hr2m => first | (go_simp; done) | (go_simp; rfl)); intro w5 hw; have hp_ := dr_put HO.out x C4.out C3.out p1; have hk_ : Aside0 (Kept w w5 (fun k_ => P0_ k_)) := AM (by rw [hw]; exact Kept.of_grown hp_.2 HK.out (fun k_ hk_ => .inl (by injection hk_ with hk_; rw [← hk_]; exact HPG.out))); have hb_ : Aside0 (Below w0.heap.size w0 w5) := AM (by rw [hw]; exact HB.out.setCell (p := ⟨g, x.toNat * 2 + 1, none⟩) HBG.out _); replace hp_ := hp_.1; rw [dr_set, dr_rd _ _ C4.out C3.out] at hp_; have ho_ : Aside0 (Kd.S k192 192 w5 w0.heap.size P0_ (.slice (some ⟨g, 0, none⟩) xs.length cap) (xs.set x.toNat ⟨p2, p1⟩)) := AM (by rw [hw]; exact hp_); clear HO HK HB hp_ hw; have HO := ho_; have HK := hk_; have HB := hb_; clear ho_ hk_ hb_))
          go_roundg k1
          case measure => have := HK1.out; omega
          case rel => exact ⟨_, (wrap64 (p1 + 1)), (wrap64 (x + 1)), (by first | rfl | (simp; done)), (by first | rfl | (simp; done) | (simp [*]; done)), HN, ⟨by have := HK1.out; omega⟩, HO, HK, HB⟩
        · rw [if_neg c4] at H
          exact absurd H (by simp)
      · rw [if_neg c3] at H
        have c3b0 : decide (x < (xs.length : Int)) = false := decide_eq_false c3
        clear c3
        simp only [Option.some.injEq, Prod.mk.injEq] at H
        obtain ⟨rfl, rfl⟩ := H
        obtain ⟨Ao, co, eo⟩ := Kd.S_slice HO.out
        subst eo
        go_wp2
        go_ret
        exact ⟨rfl, HO.out, HB.out, HK.out⟩

/-! ### laws_markArray: function 40 -/
def laws_markArray.f (k : Nat) (a0_0 : Int) (a0_1 : Int) (l0_2 : List (S192)) (a1 : Int) : Option (Int × List (S192)) := laws_markDriveS.f k l0_2 a1
theorem laws_markArray.mono : ∀ a0 a1 a2 a3 k, LeO (laws_markArray.f k a0 a1 a2 a3) (laws_markArray.f (k + 1) a0 a1 a2 a3) := fun _ _ a2 a3 k => laws_markDriveS.mono a2 a3 k
set_option maxHeartbeats 8000000 in
set_option maxRecDepth 100000 in
theorem laws_markArray.calls (k : Nat) (P0_ : Nat → Prop) (u9000_ : Value) (a0_0 : Int) (a0_1 : Int) (l0_2 : List (S192)) (a1 : Int) (r1 : Int) (r2 : List (S192)) (w0 w : World) (hB : Below w0.heap.size w0 w) (ho0 : Kd.S k192 192 w w0.heap.size P0_ u9000_ l0_2) (h : laws_markArray.f k a0_0 a0_1 l0_2 a1 = some (r1, r2)) :
    Calls Try.prog 40 #[.agg #[.int .i64 a0_0, .int .i64 a0_1, u9000_], .int .i64 a1] w fun e w' => e = .returned (.int .i64 r1) ∧ Kd.S k192 192 w' w0.heap.size P0_ u9000_ r2 ∧ Below w0.heap.size w0 w' ∧ Kept w w' (fun k_ => P0_ k_) := by
  have hu := Try.underlying64
  obtain ⟨A0, c0, e⟩ := Kd.S_slice ho0
  subst e
  have HO := AM ho0
  have HK := AM (Kept.refl w (fun k_ => P0_ k_))
  have HB := AM hB
  have H := AM (show laws_markDriveS.f k l0_2 a1 = some (r1, r2) from h)
  clear ho0 hB h
  go_enter Try.func40, Try.ntmps40
  go_wp2_with (first
    | ((with_reducible refine gate_dst (N := 2) rfl ?_); refine be_ 2 #[.int .i64 a0_0, .int .i64 a0_1, .slice A0 l0_2.length c0] 64 ?_; intro gb hg w5 hbox hb; have BK := AM hbox; replace HO := AM (Kd.S_below HO.out hb); replace HK := AM (Kept.below HK.out hb); replace HB := AM (below_step HB.out hb); clear hb hbox hg; have hcz2 : w5.cell? ⟨gb, 2, none⟩ = some (.slice A0 l0_2.length c0) := (blk_cell BK.out 2).trans rfl)
    | ((with_reducible refine gate_callee (f := 108) rfl ?_); refine gl_ (some 8) Try.func108 #[.slice A0 l0_2.length c0, .int .i64 a1] ?_; (with_reducible refine (laws_markDriveS.calls k P0_ _ l0_2 a1 r1 r2 w0 _ HB.out HO.out H.out).mono ?_); rintro e w7 ⟨rfl, ho, hb, hk⟩; refine ⟨_, rfl, ?_⟩; replace HO := AM ho; replace HK := AM (Kept.then_ HK.out hk (fun _ h => .inl h)); replace HB := AM hb; clear ho hb hk))
  go_ret
  exact ⟨rfl, HO.out, HB.out, HK.out⟩

/-! ### laws_markStringS: function 41 -/
def laws_markStringS.l0 : Nat → List ByteArray → Int → Int → Option (Int × List ByteArray)
  | 0, _, _, _ => none
  | k + 1, x0, x1, x5 => if x5 < (x0.length : Int) then ((laws_markText.f k x1).bind fun t410 => (if 0 ≤ x5 then (laws_markStringS.l0 k (x0.set (x5 : Int).toNat t410) (wrap64 (x1 + 1)) (wrap64 (x5 + 1))) else (none))) else (some (x1, x0))
def laws_markStringS.f (k : Nat) (l0 : List ByteArray) (a1 : Int) : Option (Int × List ByteArray) := laws_markStringS.l0 k l0 a1 0
theorem laws_markStringS.mono_l : ∀ k, (∀ y0 y1 y2, LeO (laws_markStringS.l0 k y0 y1 y2) (laws_markStringS.l0 (k + 1) y0 y1 y2))
  | 0 => fun _ _ _ r h => by simp [laws_markStringS.l0] at h
  | k + 1 => by
    have ih0 := laws_markStringS.mono_l k
    · intro y0 y1 y2
      unfold laws_markStringS.l0
      repeat' first
      | (with_reducible exact ih0 _ _ _)
      | (with_reducible exact laws_markText.mono _ _)
      | (with_reducible exact LeO.refl _)
      | (with_reducible exact LeO.none _)
      | (with_reducible refine LeO.ite ?_ ?_)
      | (with_reducible refine LeO.bind ?_ (fun _ => ?_))
      | exact ih0 _ _ _
      | exact laws_markText.mono _ _
      | exact LeO.none _
      | refine LeO.ite ?_ ?_
      | refine LeO.bind ?_ (fun _ => ?_)
theorem laws_markStringS.mono : ∀ a0 a1 k, LeO (laws_markStringS.f k a0 a1) (laws_markStringS.f (k + 1) a0 a1) := by
  intro a0 a1 k
  have ih0 := laws_markStringS.mono_l k
  unfold laws_markStringS.f
  repeat' first
      | (with_reducible exact ih0 _ _ _)
      | (with_reducible exact laws_markText.mono _ _)
      | (with_reducible exact LeO.refl _)
      | (with_reducible exact LeO.none _)
      | (with_reducible refine LeO.ite ?_ ?_)
      | (with_reducible refine LeO.bind ?_ (fun _ => ?_))
      | exact ih0 _ _ _
      | exact laws_markText.mono _ _
      | exact LeO.none _
      | refine LeO.ite ?_ ?_
      | refine LeO.bind ?_ (fun _ => ?_)
set_option maxHeartbeats 8000000 in
set_option maxRecDepth 100000 in
theorem laws_markStringS.calls (k : Nat) (P0_ : Nat → Prop) (u9000_ : Value) (l0 : List ByteArray) (a1 : Int) (r1 : Int) (r2 : List ByteArray) (w0 w : World) (hB : Below w0.heap.size w0 w) (ho0 : Kd.R Kd.string 9 w w0.heap.size P0_ u9000_ l0) (h : laws_markStringS.f k l0 a1 = some (r1, r2)) :
    Calls Try.prog 41 #[u9000_, .int .i64 a1] w fun e w' => e = .returned (.int .i64 r1) ∧ Kd.R Kd.string 9 w' w0.heap.size (fun k_ => (P0_ k_ ∨ w.heap.size ≤ k_)) u9000_ r2 ∧ Below w0.heap.size w0 w' ∧ Kept w w' (fun k_ => P0_ k_) := by
  have HO0 := AM (show Kd.R Kd.string 9 w w0.heap.size (fun k_ => (P0_ k_ ∨ w.heap.size ≤ k_)) u9000_ l0 from Kd.R_mono ho0 (fun k_ hk => (.inl hk)))
  have HK := AM (Kept.refl w (fun k_ => P0_ k_))
  have HW0 := AM hB.size
  have HB := AM hB
  clear hB
  have H : (laws_markStringS.l0 k l0 a1 0) = some (r1, r2) := h
  clear h
  have H' := AM H
  clear H
  go_enter Try.func41, Try.ntmps41
  go_wp2
  go_loopg [1, 5] k (fun kq v1 v5 w' => ∃ (x0_1 : List ByteArray) (x1_1 : Int) (x5_1 : Int), v1 = .int .i64 x1_1 ∧ v5 = .int .i64 x5_1 ∧ Aside0 (laws_markStringS.l0 kq x0_1 x1_1 x5_1 = some (r1, r2)) ∧ Aside0 (kq ≤ k) ∧ Aside0 (Kd.R Kd.string 9 w' w0.heap.size (fun k_ => (P0_ k_ ∨ w.heap.size ≤ k_)) u9000_ x0_1) ∧ Aside0 (Kept w w' (fun k_ => P0_ k_)) ∧ Aside0 (Below w0.heap.size w0 w'))
  case atStart => exact ⟨(l0), (a1), (0), (by first | rfl | (simp; done) | (simp [*]; done)), (by first | rfl | (simp; done) | (simp [*]; done)), H', ⟨Nat.le_refl _⟩, ⟨ro_ HO0.out⟩, ⟨kt_⟩, ⟨bel_⟩⟩
  case round =>
    clear H'
    try clear p2
    obtain ⟨x0_1, x1_1, x5_1, rfl, rfl, HA, HK1, HO_0, HK, HB⟩ := hrel
    cases gk with
    | zero => exact absurd HA.out (by simp [laws_markStringS.l0])
    | succ k1 =>
      have H := HA.out
      clear HA
      simp only [laws_markStringS.l0] at H
      by_cases c3 : x5_1 < (x0_1.length : Int)
      · rw [if_pos c3] at H
        have c3b0 : decide (x5_1 < (x0_1.length : Int)) = true := decide_eq_true c3
        clear c3
        obtain ⟨t410, A4, H⟩ := OB H
        try dsimp only at H
        replace A4 := AM A4
        by_cases c5 : 0 ≤ x5_1
        · rw [if_pos c5] at H
          have c5b0 : decide (0 ≤ x5_1) = true := decide_eq_true c5
          clear c5
          obtain ⟨y411, hy411⟩ : ∃ y_ : List ByteArray, y_ = (x0_1.set (x5_1 : Int).toNat t410) := ⟨_, rfl⟩
          replace H : (laws_markStringS.l0 k1 y411 (wrap64 (x1_1 + 1)) (wrap64 (x5_1 + 1))) = some (r1, r2) := by first | (rw [hy411]; with_reducible exact H) | (have H2_ := (Option.bind_some _ _).symm.trans H; rw [hy411]; with_reducible exact H2_) | (have H2_ := (Option.bind_some _ _).symm.trans H; with_reducible exact H2_) | with_reducible exact H | (rw [hy411]; exact H) | exact H
          have Ny411 := AM hy411
          clear hy411
          have H' := AM H
          clear H
          obtain ⟨Ao7, co7, eo7⟩ := Kd.R_slice HO_0.out
          subst eo7
          go_wp2_with (first | ((with_reducible refine gate_callee (f := 75) rfl ?_); refine gl_ (some 15) Try.func75 #[.int .i64 x1_1] ?_; (with_reducible refine (laws_markText.calls k1 x1_1 t410 _ A4.out).mono ?_); rintro e w8 ⟨rfl, hb⟩; refine ⟨_, rfl, ?_⟩; replace HO_0 := AM (Kd.R_below (ro_ HO_0.out) hb); replace HK := AM (Kept.below (S := (fun k_ => P0_ k_)) kt_ hb); replace HB := AM (below_step bel_ hb); (try clear hb); (try clear hb2); (try clear hk); (try clear hi); have p6 : 0 ≤ (x5_1 : Int) := of_decide_eq_true (by first | (with_reducible assumption) | assumption); have q6 : (x5_1 : Int) < ((x0_1.length : Int) : Int) := of_decide_eq_true (by first | (with_reducible assumption) | assumption); obtain ⟨go6, co6, eo6, gb6, gl6, cl6, HG6⟩ := Kd.R_form HO_0.out (by omega); (first | cases eo6 | (injection eo6 with ea_ en_ ec_; (first | subst ea_ | (injection ea_ with ea_; subst ea_)); subst ec_; clear en_)); have GB6 := AM gb6; have GG6 := AM HG6; clear gb6 gl6 HG6; have HMgo6 := AM (show (P0_ go6 ∨ w.heap.size ≤ go6) from (HO_0.out.1 _ rfl)); obtain ⟨hx6_0, hf6_0⟩ := Kd.R_celln (⟨#[]⟩ : ByteArray) HO_0.out (x5_1 : Int) p6 q6; replace p6 := eq_true p6; replace q6 := eq_true q6; obtain ⟨hy9_, hz9_⟩ := Kd.R_celln (⟨#[]⟩ : ByteArray) HO_0.out (x5_1 : Int) (of_decide_eq_true (by first | (with_reducible assumption) | assumption)) (of_decide_eq_true (by first | (with_reducible assumption) | assumption)); have HP9 := Kd.R_putg HO_0.out (x5_1 : Int) t410) | ((with_reducible refine gate_store (t := 9) (p := 16) rfl ?_); refine store_event (t := 9) (p := 16) (v := ?vo_w10) (w1 := (w8.setCell ⟨go6, (x5_1 : Int).toNat, none⟩ (.string t410))) ?hg ?ho ?hn ?hr ?_; (case ho => rfl); (case hg => rfl); (case hn => rfl); (case hr => first | (go_simp; done) | (go_simp; rfl)); intro w10 hw; have hg : w8.grownBy w10 (some go6) := (by rw [hw]; exact HP9.2); have hp_ : Kd.R Kd.string 9 w10 w0.heap.size (fun k_ => (P0_ k_ ∨ w.heap.size ≤ k_)) (.slice (some ⟨go6, 0, none⟩) x0_1.length co7) y411 := (by rw [hw, Ny411.out]; exact HP9.1); clear HP9; replace HB := AM ((by rw [hw]; exact below_set (HB.out) GB6.out : Below w0.heap.size w0 w10)); replace HK := AM (Kept.of_grown (S := (fun k_ => P0_ k_)) hg kt_ (fun k_ e_ => (HO_0.out.1 k_ e_))); replace HO_0 := AM hp_; clear hg hw hp_))
          go_roundg k1
          case measure => have := HK1.out; omega
          case rel => exact ⟨(y411), (wrap64 (x1_1 + 1)), (wrap64 (x5_1 + 1)), (by first | rfl | (simp; done) | (simp [*]; done)), (by first | rfl | (simp; done) | (simp [*]; done)), H', ⟨by have := HK1.out; omega⟩, ⟨ro_ HO_0.out⟩, ⟨kt_⟩, ⟨bel_⟩⟩
        · rw [if_neg c5] at H
          exact absurd H (by simp)
      · rw [if_neg c3] at H
        have c3b0 : decide (x5_1 < (x0_1.length : Int)) = false := decide_eq_false c3
        clear c3
        simp only [Option.some.injEq, Prod.mk.injEq] at H
        obtain ⟨rfl, rfl⟩ := H
        obtain ⟨Ao11, co11, eo11⟩ := Kd.R_slice HO_0.out
        subst eo11
        go_wp2
        go_ret
        exact ⟨ri_, ro_ HO_0.out, bel_, kt_⟩

/-! ### laws_heldStringS: function 42 -/
def laws_heldStringS.l0 : Nat → List ByteArray → Int → Int → Option (Int)
  | 0, _, _, _ => none
  | k + 1, x0, x1, x5 => if x5 < (x0.length : Int) then (if 0 ≤ x5 then ((laws_markText.f k x1).bind fun t413 => (if (rdOf ByteArray.empty x0 x5).toList = t413.toList then (laws_heldStringS.l0 k x0 (wrap64 (x1 + 1)) (wrap64 (x5 + 1))) else (some (-1)))) else (none)) else (some x1)
def laws_heldStringS.f (k : Nat) (l0 : List ByteArray) (a1 : Int) : Option (Int) := laws_heldStringS.l0 k l0 a1 0
theorem laws_heldStringS.mono_l : ∀ k, (∀ y0 y1 y2, LeO (laws_heldStringS.l0 k y0 y1 y2) (laws_heldStringS.l0 (k + 1) y0 y1 y2))
  | 0 => fun _ _ _ r h => by simp [laws_heldStringS.l0] at h
  | k + 1 => by
    have ih0 := laws_heldStringS.mono_l k
    · intro y0 y1 y2
      unfold laws_heldStringS.l0
      repeat' first
      | (with_reducible exact ih0 _ _ _)
      | (with_reducible exact laws_markText.mono _ _)
      | (with_reducible exact LeO.refl _)
      | (with_reducible exact LeO.none _)
      | (with_reducible refine LeO.ite ?_ ?_)
      | (with_reducible refine LeO.bind ?_ (fun _ => ?_))
      | exact ih0 _ _ _
      | exact laws_markText.mono _ _
      | exact LeO.none _
      | refine LeO.ite ?_ ?_
      | refine LeO.bind ?_ (fun _ => ?_)
theorem laws_heldStringS.mono : ∀ a0 a1 k, LeO (laws_heldStringS.f k a0 a1) (laws_heldStringS.f (k + 1) a0 a1) := by
  intro a0 a1 k
  have ih0 := laws_heldStringS.mono_l k
  unfold laws_heldStringS.f
  repeat' first
      | (with_reducible exact ih0 _ _ _)
      | (with_reducible exact laws_markText.mono _ _)
      | (with_reducible exact LeO.refl _)
      | (with_reducible exact LeO.none _)
      | (with_reducible refine LeO.ite ?_ ?_)
      | (with_reducible refine LeO.bind ?_ (fun _ => ?_))
      | exact ih0 _ _ _
      | exact laws_markText.mono _ _
      | exact LeO.none _
      | refine LeO.ite ?_ ?_
      | refine LeO.bind ?_ (fun _ => ?_)
set_option maxHeartbeats 8000000 in
set_option maxRecDepth 100000 in
theorem laws_heldStringS.calls (k : Nat) (A0 : Option Addr) (c0 : Nat) (l0 : List ByteArray) (a1 : Int) (r : Int) (w : World) (hr0 : Kd.C Kd.string w A0 l0.length l0) (hc0 : l0.length ≤ c0) (h : laws_heldStringS.f k l0 a1 = some r) :
    Calls Try.prog 42 #[.slice A0 l0.length c0, .int .i64 a1] w fun e w' => e = .returned (.int .i64 r) ∧ Below w.heap.size w w' := by
  have HR0 := AM hr0
  have HC0 := AM hc0
  clear hr0 hc0
  have HB := AM (Below.refl w.heap.size w)
  have H : (laws_heldStringS.l0 k l0 a1 0) = some r := h
  clear h
  have H' := AM H
  clear H
  go_enter Try.func42, Try.ntmps42
  go_wp2
  go_loopg [1, 5] k (fun kq v1 v5 w' => ∃ (x1_1 : Int) (x5_1 : Int), v1 = .int .i64 x1_1 ∧ v5 = .int .i64 x5_1 ∧ Aside0 (laws_heldStringS.l0 kq l0 x1_1 x5_1 = some r) ∧ Aside0 (kq ≤ k) ∧ Aside0 (Below w.heap.size w w'))
  case atStart => exact ⟨(a1), (0), (by first | rfl | (simp; done) | (simp [*]; done)), (by first | rfl | (simp; done) | (simp [*]; done)), H', ⟨Nat.le_refl _⟩, ⟨bel_⟩⟩
  case round =>
    clear H'
    try clear p2
    obtain ⟨x1_1, x5_1, rfl, rfl, HA, HK1, HB⟩ := hrel
    cases gk with
    | zero => exact absurd HA.out (by simp [laws_heldStringS.l0])
    | succ k1 =>
      have H := HA.out
      clear HA
      simp only [laws_heldStringS.l0] at H
      by_cases c3 : x5_1 < (l0.length : Int)
      · rw [if_pos c3] at H
        have c3b0 : decide (x5_1 < (l0.length : Int)) = true := decide_eq_true c3
        clear c3
        by_cases c4 : 0 ≤ x5_1
        · rw [if_pos c4] at H
          have c4b0 : decide (0 ≤ x5_1) = true := decide_eq_true c4
          clear c4
          obtain ⟨t413, A5, H⟩ := OB H
          try dsimp only at H
          replace A5 := AM A5
          by_cases c6 : (rdOf ByteArray.empty l0 x5_1).toList = t413.toList
          · rw [if_pos c6] at H
            have c6b0 : ((rdOf ByteArray.empty l0 x5_1).toList == t413.toList) = true := beq_iff_eq.mpr c6
            have c6b1 : ((rdOf ByteArray.empty l0 x5_1).toList != t413.toList) = false := bne_eq_false_iff_eq.mpr c6
            clear c6
            have H' := AM H
            clear H
            try go_wp2
            replace HB := AM (below_drew1 HB.out)
            have p412 : 0 ≤ (x5_1 : Int) := of_decide_eq_true (by first | (with_reducible assumption) | assumption)
            have q412 : x5_1 < (l0.length : Int) := of_decide_eq_true (by first | (with_reducible assumption) | assumption)
            obtain ⟨ad412, e412, hx412_0⟩ := Kd.at_string HR0.out x5_1 p412 q412
            have hw412_0 := hx412_0
            cases e412
            replace hx412_0 := (HB.out.cell (World.block_lt_of_cell? w _ hx412_0)).trans hx412_0
            replace p412 := eq_true p412
            replace q412 := eq_true q412
            refine start_ (n := 7) (S := fun w' => w'.cell? (ad412.add (x5_1).toNat) = some (.string (rdOf ByteArray.empty l0 x5_1))) (ds := []) #[false, false, false, false, false, false, false] (by kernel_rfl) rfl rfl (((HB.out.cell (World.block_lt_of_cell? w _ hw412_0)).trans hw412_0)) (fun hHeld => ?_)
            generalize wr.drew = w7 at HB hx412_0 hHeld ⊢
            refine pure_ (i := 0) (N := some 12) (v := ?_) (a' := ?_) #[true, false, false, false, false, false, false] rfl rfl (by kernel_rfl) (fun _ _ _ h => h) (Or.inl ⟨by rfl, ?_⟩) ?_ ?_
            rotate_left
            · intro w'
              go_simp
              with_reducible rfl
            rotate_left
            · simp only [Act.put, List.setIfInBounds_toArray, List.set_cons_zero, List.set_cons_succ, i64_w, i32_w]
              rfl
            refine pure_ (i := 1) (N := some 13) (v := ?_) (a' := ?_) #[true, true, false, false, false, false, false] rfl rfl (by kernel_rfl) (fun _ _ _ h => h) (Or.inl ⟨by rfl, ?_⟩) ?_ ?_
            rotate_left
            · intro w'
              go_simp
              with_reducible rfl
            rotate_left
            · simp only [Act.put, List.setIfInBounds_toArray, List.set_cons_zero, List.set_cons_succ, i64_w, i32_w]
              rfl
            refine pure_ (i := 2) (N := some 14) (v := ?_) (a' := ?_) #[true, true, true, false, false, false, false] rfl rfl (by kernel_rfl) (fun _ _ _ h => h) (Or.inl ⟨by rfl, ?_⟩) ?_ ?_
            rotate_left
            · intro w'
              go_simp
              with_reducible rfl
            rotate_left
            · simp only [Act.put, List.setIfInBounds_toArray, List.set_cons_zero, List.set_cons_succ, i64_w, i32_w]
              rfl
            refine pure_ (i := 4) (N := some 16) (v := ?_) (a' := ?_) #[true, true, true, false, true, false, false] rfl rfl (by kernel_rfl) (fun _ _ _ h => h) (Or.inl ⟨by rfl, ?_⟩) ?_ ?_
            rotate_left
            · intro w'
              go_simp
              with_reducible rfl
            rotate_left
            · simp only [Act.put, List.setIfInBounds_toArray, List.set_cons_zero, List.set_cons_succ, i64_w, i32_w]
              rfl
            refine take_ (i := 3) (N := some 15) (v := ?_) (a' := ?_) #[true, true, true, true, true, false, false] rfl rfl (by kernel_rfl) (fun _ _ _ h => h) (Or.inl ⟨by rfl, ?_⟩) hHeld ?_ ?_
            rotate_left
            · intro w' s0
              go_simp
              with_reducible rfl
            rotate_left
            · simp only [Act.put, List.setIfInBounds_toArray, List.set_cons_zero, List.set_cons_succ, i64_w, i32_w]
              rfl
            refine one_ (i := 5) (N := some 17) #[true, true, true, true, true, true, false] rfl rfl (by kernel_rfl) (by decide) (fun K hK => ?_)
            refine go1_ Try.func75 #[.int .i64 x1_1] ?_
            with_reducible refine (laws_markText.calls k1 x1_1 t413 _ A5.out).mono ?_
            rintro e w8 ⟨rfl, hb⟩
            refine ⟨_, rfl, ?_⟩
            replace HB := AM (below_step bel_ hb)
            (try clear hb)
            (try clear hb2)
            (try clear hk)
            (try clear hi)
            refine hK.out _ _ (((HB.out.cell (World.block_lt_of_cell? w _ hw412_0)).trans hw412_0)) (fun hHeld => ?_)
            clear hK K
            refine nm_ ?_
            refine pure_ (i := 6) (N := some 18) (v := ?_) (a' := ?_) #[true, true, true, true, true, true, true] rfl rfl (by kernel_rfl) (fun _ _ _ h => h) (Or.inl ⟨by rfl, ?_⟩) ?_ ?_
            rotate_left
            · intro w'
              go_simp
              with_reducible rfl
            rotate_left
            · simp only [Act.put, List.setIfInBounds_toArray, List.set_cons_zero, List.set_cons_succ, i64_w, i32_w]
              rfl
            refine done_ (by kernel_rfl) ?_
            try go_wp2
            go_roundg k1
            case measure => have := HK1.out; omega
            case rel => exact ⟨(wrap64 (x1_1 + 1)), (wrap64 (x5_1 + 1)), (by first | rfl | (simp; done) | (simp [*]; done)), (by first | rfl | (simp; done) | (simp [*]; done)), H', ⟨by have := HK1.out; omega⟩, ⟨bel_⟩⟩
          · rw [if_neg c6] at H
            have c6b0 : ((rdOf ByteArray.empty l0 x5_1).toList == t413.toList) = false := beq_eq_false_iff_ne.mpr c6
            have c6b1 : ((rdOf ByteArray.empty l0 x5_1).toList != t413.toList) = true := bne_iff_ne.mpr c6
            obtain rfl := Option.some.inj H
            try go_wp2
            replace HB := AM (below_drew1 HB.out)
            have p412 : 0 ≤ (x5_1 : Int) := of_decide_eq_true (by first | (with_reducible assumption) | assumption)
            have q412 : x5_1 < (l0.length : Int) := of_decide_eq_true (by first | (with_reducible assumption) | assumption)
            obtain ⟨ad412, e412, hx412_0⟩ := Kd.at_string HR0.out x5_1 p412 q412
            have hw412_0 := hx412_0
            cases e412
            replace hx412_0 := (HB.out.cell (World.block_lt_of_cell? w _ hx412_0)).trans hx412_0
            replace p412 := eq_true p412
            replace q412 := eq_true q412
            refine start_ (n := 7) (S := fun w' => w'.cell? (ad412.add (x5_1).toNat) = some (.string (rdOf ByteArray.empty l0 x5_1))) (ds := []) #[false, false, false, false, false, false, false] (by kernel_rfl) rfl rfl (((HB.out.cell (World.block_lt_of_cell? w _ hw412_0)).trans hw412_0)) (fun hHeld => ?_)
            generalize wr.drew = w9 at HB hx412_0 hHeld ⊢
            refine pure_ (i := 0) (N := some 12) (v := ?_) (a' := ?_) #[true, false, false, false, false, false, false] rfl rfl (by kernel_rfl) (fun _ _ _ h => h) (Or.inl ⟨by rfl, ?_⟩) ?_ ?_
            rotate_left
            · intro w'
              go_simp
              with_reducible rfl
            rotate_left
            · simp only [Act.put, List.setIfInBounds_toArray, List.set_cons_zero, List.set_cons_succ, i64_w, i32_w]
              rfl
            refine pure_ (i := 1) (N := some 13) (v := ?_) (a' := ?_) #[true, true, false, false, false, false, false] rfl rfl (by kernel_rfl) (fun _ _ _ h => h) (Or.inl ⟨by rfl, ?_⟩) ?_ ?_
            rotate_left
            · intro w'
              go_simp
              with_reducible rfl
            rotate_left
            · simp only [Act.put, List.setIfInBounds_toArray, List.set_cons_zero, List.set_cons_succ, i64_w, i32_w]
              rfl
            refine pure_ (i := 2) (N := some 14) (v := ?_) (a' := ?_) #[true, true, true, false, false, false, false] rfl rfl (by kernel_rfl) (fun _ _ _ h => h) (Or.inl ⟨by rfl, ?_⟩) ?_ ?_
            rotate_left
            · intro w'
              go_simp
              with_reducible rfl
            rotate_left
            · simp only [Act.put, List.setIfInBounds_toArray, List.set_cons_zero, List.set_cons_succ, i64_w, i32_w]
              rfl
            refine pure_ (i := 4) (N := some 16) (v := ?_) (a' := ?_) #[true, true, true, false, true, false, false] rfl rfl (by kernel_rfl) (fun _ _ _ h => h) (Or.inl ⟨by rfl, ?_⟩) ?_ ?_
            rotate_left
            · intro w'
              go_simp
              with_reducible rfl
            rotate_left
            · simp only [Act.put, List.setIfInBounds_toArray, List.set_cons_zero, List.set_cons_succ, i64_w, i32_w]
              rfl
            refine take_ (i := 3) (N := some 15) (v := ?_) (a' := ?_) #[true, true, true, true, true, false, false] rfl rfl (by kernel_rfl) (fun _ _ _ h => h) (Or.inl ⟨by rfl, ?_⟩) hHeld ?_ ?_
            rotate_left
            · intro w' s0
              go_simp
              with_reducible rfl
            rotate_left
            · simp only [Act.put, List.setIfInBounds_toArray, List.set_cons_zero, List.set_cons_succ, i64_w, i32_w]
              rfl
            refine one_ (i := 5) (N := some 17) #[true, true, true, true, true, true, false] rfl rfl (by kernel_rfl) (by decide) (fun K hK => ?_)
            refine go1_ Try.func75 #[.int .i64 x1_1] ?_
            with_reducible refine (laws_markText.calls k1 x1_1 t413 _ A5.out).mono ?_
            rintro e w10 ⟨rfl, hb⟩
            refine ⟨_, rfl, ?_⟩
            replace HB := AM (below_step bel_ hb)
            (try clear hb)
            (try clear hb2)
            (try clear hk)
            (try clear hi)
            refine hK.out _ _ (((HB.out.cell (World.block_lt_of_cell? w _ hw412_0)).trans hw412_0)) (fun hHeld => ?_)
            clear hK K
            refine nm_ ?_
            refine pure_ (i := 6) (N := some 18) (v := ?_) (a' := ?_) #[true, true, true, true, true, true, true] rfl rfl (by kernel_rfl) (fun _ _ _ h => h) (Or.inl ⟨by rfl, ?_⟩) ?_ ?_
            rotate_left
            · intro w'
              go_simp
              with_reducible rfl
            rotate_left
            · simp only [Act.put, List.setIfInBounds_toArray, List.set_cons_zero, List.set_cons_succ, i64_w, i32_w]
              rfl
            refine done_ (by kernel_rfl) ?_
            try go_wp2
            go_ret
            exact ⟨ri_, bel_⟩
        · rw [if_neg c4] at H
          exact absurd H (by simp)
      · rw [if_neg c3] at H
        have c3b0 : decide (x5_1 < (l0.length : Int)) = false := decide_eq_false c3
        clear c3
        obtain rfl := Option.some.inj H
        go_wp2
        go_ret
        exact ⟨ri_, bel_⟩

end Go.Proofs.Ytdbnajnelbebfaa.PFnExactObjectNames
