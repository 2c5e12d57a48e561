-- A program of this session wrote this text: a changed copy of the kit print, with given functions.
import Derived.Test.YtggbpjfgfenpdaaPFnExactPlacesBytesx0
import Derived.Test.YtggbpjfgfenpdaaPFnExactPlacesBytesx1
import Derived.Test.YtggbpjfgfenpdaaPFnExactPlacesBytesx3
import Derived.Test.YtggbpjfgfenpdaaPFnExactPlacesBytesx6
namespace Go.Proofs.Ytggbpjfgfenpdaa.PFnExactPlacesBytes
open Go.RowKit Go.Proofs.YtggbpjfgfenpdaaW.PrintWords Go.Proofs.YtggbpjfgfenpdaaW.PrintLast Go.Proofs.YtggbpjfgfenpdaaW.PrintMore Go.Proofs.Ytggbpjfgfenpdaa.Aut
attribute [local go_sem] max2_int min2_int max_two min_two max_three min_three max_four min_four   -- for this text's walks alone
set_option linter.unusedVariables false
set_option linter.unusedSimpArgs false

/-! ### laws_eqPlace: function 46 -/
def laws_eqPlace.f (a0_0 : ByteArray) (a0_1 : ByteArray) (a0_2 : Int) (a0_3 : Int) (a0_4 : Int) (a1_0 : ByteArray) (a1_1 : ByteArray) (a1_2 : Int) (a1_3 : Int) (a1_4 : Int) : Option (Bool) := if a0_0.toList = a1_0.toList then (if a0_1.toList = a1_1.toList then (if a0_2 = a1_2 then (if a0_3 = a1_3 then (if a0_4 = a1_4 then (some true) else (some false)) else (some false)) else (some false)) else (some false)) else (some false)
set_option maxHeartbeats 8000000 in
set_option maxRecDepth 100000 in
theorem laws_eqPlace.calls (a0_0 : ByteArray) (a0_1 : ByteArray) (a0_2 : Int) (a0_3 : Int) (a0_4 : Int) (a1_0 : ByteArray) (a1_1 : ByteArray) (a1_2 : Int) (a1_3 : Int) (a1_4 : Int) (r : Bool) (w : World) (h : laws_eqPlace.f a0_0 a0_1 a0_2 a0_3 a0_4 a1_0 a1_1 a1_2 a1_3 a1_4 = some r) :
    Calls Try.prog 46 #[.agg #[.string a0_0, .string a0_1, .int .i64 a0_2, .int .i64 a0_3, .int .i64 a0_4], .agg #[.string a1_0, .string a1_1, .int .i64 a1_2, .int .i64 a1_3, .int .i64 a1_4]] w fun e w' => e = .returned (.bool r) ∧ Below w.heap.size w w' := by
  have hu66 := Try.underlying66
  have HB := AM (Below.refl w.heap.size w)
  have H : (if a0_0.toList = a1_0.toList then (if a0_1.toList = a1_1.toList then (if a0_2 = a1_2 then (if a0_3 = a1_3 then (if a0_4 = a1_4 then (some true) else (some false)) else (some false)) else (some false)) else (some false)) else (some false)) = some r := h
  clear h
  by_cases c3 : a0_0.toList = a1_0.toList
  · rw [if_pos c3] at H
    have c3b0 : (a0_0.toList == a1_0.toList) = true := beq_iff_eq.mpr c3
    have c3b1 : (a0_0.toList != a1_0.toList) = false := bne_eq_false_iff_eq.mpr c3
    clear c3
    by_cases c4 : a0_1.toList = a1_1.toList
    · rw [if_pos c4] at H
      have c4b0 : (a0_1.toList == a1_1.toList) = true := beq_iff_eq.mpr c4
      have c4b1 : (a0_1.toList != a1_1.toList) = false := bne_eq_false_iff_eq.mpr c4
      clear c4
      by_cases c5 : a0_2 = a1_2
      · rw [if_pos c5] at H
        have c5b0 : (a0_2 == a1_2) = true := beq_iff_eq.mpr c5
        have c5b1 : (a0_2 != a1_2) = false := bne_eq_false_iff_eq.mpr c5
        clear c5
        by_cases c6 : a0_3 = a1_3
        · rw [if_pos c6] at H
          have c6b0 : (a0_3 == a1_3) = true := beq_iff_eq.mpr c6
          have c6b1 : (a0_3 != a1_3) = false := bne_eq_false_iff_eq.mpr c6
          clear c6
          by_cases c7 : a0_4 = a1_4
          · rw [if_pos c7] at H
            have c7b0 : (a0_4 == a1_4) = true := beq_iff_eq.mpr c7
            have c7b1 : (a0_4 != a1_4) = false := bne_eq_false_iff_eq.mpr c7
            clear c7
            obtain rfl := Option.some.inj H
            go_enter Try.func46, Try.ntmps46
            go_wp2_with (first | ((with_reducible refine gate_dst (N := 2) rfl ?_); refine be_ 2 #[.string a0_0, .string a0_1, .int .i64 a0_2, .int .i64 a0_3, .int .i64 a0_4] 66 ?_; intro gb199 hg w8 hbox hb; have BK199 := AM hbox; have GW199 := AM ((by rw [hg]; exact (below_size bel_) : w.heap.size ≤ gb199)); have GE199 := AM ((by rw [hg]; exact (below_size bel_) : w.heap.size ≤ gb199)); replace HB := AM (below_step bel_ hb); clear hb hbox hg) | ((with_reducible refine gate_dst (N := 3) rfl ?_); refine be_ 3 #[.string a1_0, .string a1_1, .int .i64 a1_2, .int .i64 a1_3, .int .i64 a1_4] 66 ?_; intro gb200 hg w9 hbox hb; have BK200 := AM hbox; have GW200 := AM ((by rw [hg]; exact (below_size bel_) : w.heap.size ≤ gb200)); have GE200 := AM ((by rw [hg]; exact (below_size bel_) : w.heap.size ≤ gb200)); replace HB := AM (below_step bel_ hb); have NB199_200 := AM ((by rw [hg]; exact Nat.ne_of_lt (blk_lt (g := gb199) (o := .cells #[.string a0_0, .string a0_1, .int .i64 a0_2, .int .i64 a0_3, .int .i64 a0_4] 66 (0, 0)) (bk_ BK199.out)) : gb199 ≠ gb200)); have NB200_199 := AM ((by rw [hg]; exact Nat.ne_of_gt (blk_lt (g := gb199) (o := .cells #[.string a0_0, .string a0_1, .int .i64 a0_2, .int .i64 a0_3, .int .i64 a0_4] 66 (0, 0)) (bk_ BK199.out)) : gb200 ≠ gb199)); replace BK199 := AM (blk_below (g := gb199) (o := .cells #[.string a0_0, .string a0_1, .int .i64 a0_2, .int .i64 a0_3, .int .i64 a0_4] 66 (0, 0)) (bk_ BK199.out) hb); clear hb hbox hg; have hnb10 := NB199_200.out; have hnc10 := NB200_199.out; have hcz11_0 : w9.cell? ⟨gb199, 0, none⟩ = some (.string a0_0) := (blk_cell BK199.out 0).trans rfl; have hcz11_1 : w9.cell? ⟨gb199, 1, none⟩ = some (.string a0_1) := (blk_cell BK199.out 1).trans rfl; have hcz11_2 : w9.cell? ⟨gb199, 2, none⟩ = some (.int .i64 a0_2) := (blk_cell BK199.out 2).trans rfl; have hcz11_3 : w9.cell? ⟨gb199, 3, none⟩ = some (.int .i64 a0_3) := (blk_cell BK199.out 3).trans rfl; have hcz11_4 : w9.cell? ⟨gb199, 4, none⟩ = some (.int .i64 a0_4) := (blk_cell BK199.out 4).trans rfl; have hfz11_0 := blk_frozen BK199.out 0; have hfz11_1 := blk_frozen BK199.out 1; have hfz11_2 := blk_frozen BK199.out 2; have hfz11_3 := blk_frozen BK199.out 3; have hfz11_4 := blk_frozen BK199.out 4; have hcz12_0 : w9.cell? ⟨gb200, 0, none⟩ = some (.string a1_0) := (blk_cell BK200.out 0).trans rfl; have hcz12_1 : w9.cell? ⟨gb200, 1, none⟩ = some (.string a1_1) := (blk_cell BK200.out 1).trans rfl; have hcz12_2 : w9.cell? ⟨gb200, 2, none⟩ = some (.int .i64 a1_2) := (blk_cell BK200.out 2).trans rfl; have hcz12_3 : w9.cell? ⟨gb200, 3, none⟩ = some (.int .i64 a1_3) := (blk_cell BK200.out 3).trans rfl; have hcz12_4 : w9.cell? ⟨gb200, 4, none⟩ = some (.int .i64 a1_4) := (blk_cell BK200.out 4).trans rfl; have hfz12_0 := blk_frozen BK200.out 0; have hfz12_1 := blk_frozen BK200.out 1; have hfz12_2 := blk_frozen BK200.out 2; have hfz12_3 := blk_frozen BK200.out 3; have hfz12_4 := blk_frozen BK200.out 4))
            go_ret
            exact ⟨ri_, bel_⟩
          · rw [if_neg c7] at H
            have c7b0 : (a0_4 == a1_4) = false := beq_eq_false_iff_ne.mpr c7
            have c7b1 : (a0_4 != a1_4) = true := bne_iff_ne.mpr c7
            obtain rfl := Option.some.inj H
            go_enter Try.func46, Try.ntmps46
            go_wp2_with (first | ((with_reducible refine gate_dst (N := 2) rfl ?_); refine be_ 2 #[.string a0_0, .string a0_1, .int .i64 a0_2, .int .i64 a0_3, .int .i64 a0_4] 66 ?_; intro gb199 hg w13 hbox hb; have BK199 := AM hbox; have GW199 := AM ((by rw [hg]; exact (below_size bel_) : w.heap.size ≤ gb199)); have GE199 := AM ((by rw [hg]; exact (below_size bel_) : w.heap.size ≤ gb199)); replace HB := AM (below_step bel_ hb); clear hb hbox hg) | ((with_reducible refine gate_dst (N := 3) rfl ?_); refine be_ 3 #[.string a1_0, .string a1_1, .int .i64 a1_2, .int .i64 a1_3, .int .i64 a1_4] 66 ?_; intro gb200 hg w14 hbox hb; have BK200 := AM hbox; have GW200 := AM ((by rw [hg]; exact (below_size bel_) : w.heap.size ≤ gb200)); have GE200 := AM ((by rw [hg]; exact (below_size bel_) : w.heap.size ≤ gb200)); replace HB := AM (below_step bel_ hb); have NB199_200 := AM ((by rw [hg]; exact Nat.ne_of_lt (blk_lt (g := gb199) (o := .cells #[.string a0_0, .string a0_1, .int .i64 a0_2, .int .i64 a0_3, .int .i64 a0_4] 66 (0, 0)) (bk_ BK199.out)) : gb199 ≠ gb200)); have NB200_199 := AM ((by rw [hg]; exact Nat.ne_of_gt (blk_lt (g := gb199) (o := .cells #[.string a0_0, .string a0_1, .int .i64 a0_2, .int .i64 a0_3, .int .i64 a0_4] 66 (0, 0)) (bk_ BK199.out)) : gb200 ≠ gb199)); replace BK199 := AM (blk_below (g := gb199) (o := .cells #[.string a0_0, .string a0_1, .int .i64 a0_2, .int .i64 a0_3, .int .i64 a0_4] 66 (0, 0)) (bk_ BK199.out) hb); clear hb hbox hg; have hnb15 := NB199_200.out; have hnc15 := NB200_199.out; have hcz16_0 : w14.cell? ⟨gb199, 0, none⟩ = some (.string a0_0) := (blk_cell BK199.out 0).trans rfl; have hcz16_1 : w14.cell? ⟨gb199, 1, none⟩ = some (.string a0_1) := (blk_cell BK199.out 1).trans rfl; have hcz16_2 : w14.cell? ⟨gb199, 2, none⟩ = some (.int .i64 a0_2) := (blk_cell BK199.out 2).trans rfl; have hcz16_3 : w14.cell? ⟨gb199, 3, none⟩ = some (.int .i64 a0_3) := (blk_cell BK199.out 3).trans rfl; have hcz16_4 : w14.cell? ⟨gb199, 4, none⟩ = some (.int .i64 a0_4) := (blk_cell BK199.out 4).trans rfl; have hfz16_0 := blk_frozen BK199.out 0; have hfz16_1 := blk_frozen BK199.out 1; have hfz16_2 := blk_frozen BK199.out 2; have hfz16_3 := blk_frozen BK199.out 3; have hfz16_4 := blk_frozen BK199.out 4; have hcz17_0 : w14.cell? ⟨gb200, 0, none⟩ = some (.string a1_0) := (blk_cell BK200.out 0).trans rfl; have hcz17_1 : w14.cell? ⟨gb200, 1, none⟩ = some (.string a1_1) := (blk_cell BK200.out 1).trans rfl; have hcz17_2 : w14.cell? ⟨gb200, 2, none⟩ = some (.int .i64 a1_2) := (blk_cell BK200.out 2).trans rfl; have hcz17_3 : w14.cell? ⟨gb200, 3, none⟩ = some (.int .i64 a1_3) := (blk_cell BK200.out 3).trans rfl; have hcz17_4 : w14.cell? ⟨gb200, 4, none⟩ = some (.int .i64 a1_4) := (blk_cell BK200.out 4).trans rfl; have hfz17_0 := blk_frozen BK200.out 0; have hfz17_1 := blk_frozen BK200.out 1; have hfz17_2 := blk_frozen BK200.out 2; have hfz17_3 := blk_frozen BK200.out 3; have hfz17_4 := blk_frozen BK200.out 4))
            go_ret
            exact ⟨ri_, bel_⟩
        · rw [if_neg c6] at H
          have c6b0 : (a0_3 == a1_3) = false := beq_eq_false_iff_ne.mpr c6
          have c6b1 : (a0_3 != a1_3) = true := bne_iff_ne.mpr c6
          obtain rfl := Option.some.inj H
          go_enter Try.func46, Try.ntmps46
          go_wp2_with (first | ((with_reducible refine gate_dst (N := 2) rfl ?_); refine be_ 2 #[.string a0_0, .string a0_1, .int .i64 a0_2, .int .i64 a0_3, .int .i64 a0_4] 66 ?_; intro gb199 hg w18 hbox hb; have BK199 := AM hbox; have GW199 := AM ((by rw [hg]; exact (below_size bel_) : w.heap.size ≤ gb199)); have GE199 := AM ((by rw [hg]; exact (below_size bel_) : w.heap.size ≤ gb199)); replace HB := AM (below_step bel_ hb); clear hb hbox hg) | ((with_reducible refine gate_dst (N := 3) rfl ?_); refine be_ 3 #[.string a1_0, .string a1_1, .int .i64 a1_2, .int .i64 a1_3, .int .i64 a1_4] 66 ?_; intro gb200 hg w19 hbox hb; have BK200 := AM hbox; have GW200 := AM ((by rw [hg]; exact (below_size bel_) : w.heap.size ≤ gb200)); have GE200 := AM ((by rw [hg]; exact (below_size bel_) : w.heap.size ≤ gb200)); replace HB := AM (below_step bel_ hb); have NB199_200 := AM ((by rw [hg]; exact Nat.ne_of_lt (blk_lt (g := gb199) (o := .cells #[.string a0_0, .string a0_1, .int .i64 a0_2, .int .i64 a0_3, .int .i64 a0_4] 66 (0, 0)) (bk_ BK199.out)) : gb199 ≠ gb200)); have NB200_199 := AM ((by rw [hg]; exact Nat.ne_of_gt (blk_lt (g := gb199) (o := .cells #[.string a0_0, .string a0_1, .int .i64 a0_2, .int .i64 a0_3, .int .i64 a0_4] 66 (0, 0)) (bk_ BK199.out)) : gb200 ≠ gb199)); replace BK199 := AM (blk_below (g := gb199) (o := .cells #[.string a0_0, .string a0_1, .int .i64 a0_2, .int .i64 a0_3, .int .i64 a0_4] 66 (0, 0)) (bk_ BK199.out) hb); clear hb hbox hg; have hnb20 := NB199_200.out; have hnc20 := NB200_199.out; have hcz21_0 : w19.cell? ⟨gb199, 0, none⟩ = some (.string a0_0) := (blk_cell BK199.out 0).trans rfl; have hcz21_1 : w19.cell? ⟨gb199, 1, none⟩ = some (.string a0_1) := (blk_cell BK199.out 1).trans rfl; have hcz21_2 : w19.cell? ⟨gb199, 2, none⟩ = some (.int .i64 a0_2) := (blk_cell BK199.out 2).trans rfl; have hcz21_3 : w19.cell? ⟨gb199, 3, none⟩ = some (.int .i64 a0_3) := (blk_cell BK199.out 3).trans rfl; have hcz21_4 : w19.cell? ⟨gb199, 4, none⟩ = some (.int .i64 a0_4) := (blk_cell BK199.out 4).trans rfl; have hfz21_0 := blk_frozen BK199.out 0; have hfz21_1 := blk_frozen BK199.out 1; have hfz21_2 := blk_frozen BK199.out 2; have hfz21_3 := blk_frozen BK199.out 3; have hfz21_4 := blk_frozen BK199.out 4; have hcz22_0 : w19.cell? ⟨gb200, 0, none⟩ = some (.string a1_0) := (blk_cell BK200.out 0).trans rfl; have hcz22_1 : w19.cell? ⟨gb200, 1, none⟩ = some (.string a1_1) := (blk_cell BK200.out 1).trans rfl; have hcz22_2 : w19.cell? ⟨gb200, 2, none⟩ = some (.int .i64 a1_2) := (blk_cell BK200.out 2).trans rfl; have hcz22_3 : w19.cell? ⟨gb200, 3, none⟩ = some (.int .i64 a1_3) := (blk_cell BK200.out 3).trans rfl; have hcz22_4 : w19.cell? ⟨gb200, 4, none⟩ = some (.int .i64 a1_4) := (blk_cell BK200.out 4).trans rfl; have hfz22_0 := blk_frozen BK200.out 0; have hfz22_1 := blk_frozen BK200.out 1; have hfz22_2 := blk_frozen BK200.out 2; have hfz22_3 := blk_frozen BK200.out 3; have hfz22_4 := blk_frozen BK200.out 4))
          go_ret
          exact ⟨ri_, bel_⟩
      · rw [if_neg c5] at H
        have c5b0 : (a0_2 == a1_2) = false := beq_eq_false_iff_ne.mpr c5
        have c5b1 : (a0_2 != a1_2) = true := bne_iff_ne.mpr c5
        obtain rfl := Option.some.inj H
        go_enter Try.func46, Try.ntmps46
        go_wp2_with (first | ((with_reducible refine gate_dst (N := 2) rfl ?_); refine be_ 2 #[.string a0_0, .string a0_1, .int .i64 a0_2, .int .i64 a0_3, .int .i64 a0_4] 66 ?_; intro gb199 hg w23 hbox hb; have BK199 := AM hbox; have GW199 := AM ((by rw [hg]; exact (below_size bel_) : w.heap.size ≤ gb199)); have GE199 := AM ((by rw [hg]; exact (below_size bel_) : w.heap.size ≤ gb199)); replace HB := AM (below_step bel_ hb); clear hb hbox hg) | ((with_reducible refine gate_dst (N := 3) rfl ?_); refine be_ 3 #[.string a1_0, .string a1_1, .int .i64 a1_2, .int .i64 a1_3, .int .i64 a1_4] 66 ?_; intro gb200 hg w24 hbox hb; have BK200 := AM hbox; have GW200 := AM ((by rw [hg]; exact (below_size bel_) : w.heap.size ≤ gb200)); have GE200 := AM ((by rw [hg]; exact (below_size bel_) : w.heap.size ≤ gb200)); replace HB := AM (below_step bel_ hb); have NB199_200 := AM ((by rw [hg]; exact Nat.ne_of_lt (blk_lt (g := gb199) (o := .cells #[.string a0_0, .string a0_1, .int .i64 a0_2, .int .i64 a0_3, .int .i64 a0_4] 66 (0, 0)) (bk_ BK199.out)) : gb199 ≠ gb200)); have NB200_199 := AM ((by rw [hg]; exact Nat.ne_of_gt (blk_lt (g := gb199) (o := .cells #[.string a0_0, .string a0_1, .int .i64 a0_2, .int .i64 a0_3, .int .i64 a0_4] 66 (0, 0)) (bk_ BK199.out)) : gb200 ≠ gb199)); replace BK199 := AM (blk_below (g := gb199) (o := .cells #[.string a0_0, .string a0_1, .int .i64 a0_2, .int .i64 a0_3, .int .i64 a0_4] 66 (0, 0)) (bk_ BK199.out) hb); clear hb hbox hg; have hnb25 := NB199_200.out; have hnc25 := NB200_199.out; have hcz26_0 : w24.cell? ⟨gb199, 0, none⟩ = some (.string a0_0) := (blk_cell BK199.out 0).trans rfl; have hcz26_1 : w24.cell? ⟨gb199, 1, none⟩ = some (.string a0_1) := (blk_cell BK199.out 1).trans rfl; have hcz26_2 : w24.cell? ⟨gb199, 2, none⟩ = some (.int .i64 a0_2) := (blk_cell BK199.out 2).trans rfl; have hcz26_3 : w24.cell? ⟨gb199, 3, none⟩ = some (.int .i64 a0_3) := (blk_cell BK199.out 3).trans rfl; have hcz26_4 : w24.cell? ⟨gb199, 4, none⟩ = some (.int .i64 a0_4) := (blk_cell BK199.out 4).trans rfl; have hfz26_0 := blk_frozen BK199.out 0; have hfz26_1 := blk_frozen BK199.out 1; have hfz26_2 := blk_frozen BK199.out 2; have hfz26_3 := blk_frozen BK199.out 3; have hfz26_4 := blk_frozen BK199.out 4; have hcz27_0 : w24.cell? ⟨gb200, 0, none⟩ = some (.string a1_0) := (blk_cell BK200.out 0).trans rfl; have hcz27_1 : w24.cell? ⟨gb200, 1, none⟩ = some (.string a1_1) := (blk_cell BK200.out 1).trans rfl; have hcz27_2 : w24.cell? ⟨gb200, 2, none⟩ = some (.int .i64 a1_2) := (blk_cell BK200.out 2).trans rfl; have hcz27_3 : w24.cell? ⟨gb200, 3, none⟩ = some (.int .i64 a1_3) := (blk_cell BK200.out 3).trans rfl; have hcz27_4 : w24.cell? ⟨gb200, 4, none⟩ = some (.int .i64 a1_4) := (blk_cell BK200.out 4).trans rfl; have hfz27_0 := blk_frozen BK200.out 0; have hfz27_1 := blk_frozen BK200.out 1; have hfz27_2 := blk_frozen BK200.out 2; have hfz27_3 := blk_frozen BK200.out 3; have hfz27_4 := blk_frozen BK200.out 4))
        go_ret
        exact ⟨ri_, bel_⟩
    · rw [if_neg c4] at H
      have c4b0 : (a0_1.toList == a1_1.toList) = false := beq_eq_false_iff_ne.mpr c4
      have c4b1 : (a0_1.toList != a1_1.toList) = true := bne_iff_ne.mpr c4
      obtain rfl := Option.some.inj H
      go_enter Try.func46, Try.ntmps46
      go_wp2_with (first | ((with_reducible refine gate_dst (N := 2) rfl ?_); refine be_ 2 #[.string a0_0, .string a0_1, .int .i64 a0_2, .int .i64 a0_3, .int .i64 a0_4] 66 ?_; intro gb199 hg w28 hbox hb; have BK199 := AM hbox; have GW199 := AM ((by rw [hg]; exact (below_size bel_) : w.heap.size ≤ gb199)); have GE199 := AM ((by rw [hg]; exact (below_size bel_) : w.heap.size ≤ gb199)); replace HB := AM (below_step bel_ hb); clear hb hbox hg) | ((with_reducible refine gate_dst (N := 3) rfl ?_); refine be_ 3 #[.string a1_0, .string a1_1, .int .i64 a1_2, .int .i64 a1_3, .int .i64 a1_4] 66 ?_; intro gb200 hg w29 hbox hb; have BK200 := AM hbox; have GW200 := AM ((by rw [hg]; exact (below_size bel_) : w.heap.size ≤ gb200)); have GE200 := AM ((by rw [hg]; exact (below_size bel_) : w.heap.size ≤ gb200)); replace HB := AM (below_step bel_ hb); have NB199_200 := AM ((by rw [hg]; exact Nat.ne_of_lt (blk_lt (g := gb199) (o := .cells #[.string a0_0, .string a0_1, .int .i64 a0_2, .int .i64 a0_3, .int .i64 a0_4] 66 (0, 0)) (bk_ BK199.out)) : gb199 ≠ gb200)); have NB200_199 := AM ((by rw [hg]; exact Nat.ne_of_gt (blk_lt (g := gb199) (o := .cells #[.string a0_0, .string a0_1, .int .i64 a0_2, .int .i64 a0_3, .int .i64 a0_4] 66 (0, 0)) (bk_ BK199.out)) : gb200 ≠ gb199)); replace BK199 := AM (blk_below (g := gb199) (o := .cells #[.string a0_0, .string a0_1, .int .i64 a0_2, .int .i64 a0_3, .int .i64 a0_4] 66 (0, 0)) (bk_ BK199.out) hb); clear hb hbox hg; have hnb30 := NB199_200.out; have hnc30 := NB200_199.out; have hcz31_0 : w29.cell? ⟨gb199, 0, none⟩ = some (.string a0_0) := (blk_cell BK199.out 0).trans rfl; have hcz31_1 : w29.cell? ⟨gb199, 1, none⟩ = some (.string a0_1) := (blk_cell BK199.out 1).trans rfl; have hcz31_2 : w29.cell? ⟨gb199, 2, none⟩ = some (.int .i64 a0_2) := (blk_cell BK199.out 2).trans rfl; have hcz31_3 : w29.cell? ⟨gb199, 3, none⟩ = some (.int .i64 a0_3) := (blk_cell BK199.out 3).trans rfl; have hcz31_4 : w29.cell? ⟨gb199, 4, none⟩ = some (.int .i64 a0_4) := (blk_cell BK199.out 4).trans rfl; have hfz31_0 := blk_frozen BK199.out 0; have hfz31_1 := blk_frozen BK199.out 1; have hfz31_2 := blk_frozen BK199.out 2; have hfz31_3 := blk_frozen BK199.out 3; have hfz31_4 := blk_frozen BK199.out 4; have hcz32_0 : w29.cell? ⟨gb200, 0, none⟩ = some (.string a1_0) := (blk_cell BK200.out 0).trans rfl; have hcz32_1 : w29.cell? ⟨gb200, 1, none⟩ = some (.string a1_1) := (blk_cell BK200.out 1).trans rfl; have hcz32_2 : w29.cell? ⟨gb200, 2, none⟩ = some (.int .i64 a1_2) := (blk_cell BK200.out 2).trans rfl; have hcz32_3 : w29.cell? ⟨gb200, 3, none⟩ = some (.int .i64 a1_3) := (blk_cell BK200.out 3).trans rfl; have hcz32_4 : w29.cell? ⟨gb200, 4, none⟩ = some (.int .i64 a1_4) := (blk_cell BK200.out 4).trans rfl; have hfz32_0 := blk_frozen BK200.out 0; have hfz32_1 := blk_frozen BK200.out 1; have hfz32_2 := blk_frozen BK200.out 2; have hfz32_3 := blk_frozen BK200.out 3; have hfz32_4 := blk_frozen BK200.out 4))
      go_ret
      exact ⟨ri_, bel_⟩
  · rw [if_neg c3] at H
    have c3b0 : (a0_0.toList == a1_0.toList) = false := beq_eq_false_iff_ne.mpr c3
    have c3b1 : (a0_0.toList != a1_0.toList) = true := bne_iff_ne.mpr c3
    obtain rfl := Option.some.inj H
    go_enter Try.func46, Try.ntmps46
    go_wp2_with (first | ((with_reducible refine gate_dst (N := 2) rfl ?_); refine be_ 2 #[.string a0_0, .string a0_1, .int .i64 a0_2, .int .i64 a0_3, .int .i64 a0_4] 66 ?_; intro gb199 hg w33 hbox hb; have BK199 := AM hbox; have GW199 := AM ((by rw [hg]; exact (below_size bel_) : w.heap.size ≤ gb199)); have GE199 := AM ((by rw [hg]; exact (below_size bel_) : w.heap.size ≤ gb199)); replace HB := AM (below_step bel_ hb); clear hb hbox hg) | ((with_reducible refine gate_dst (N := 3) rfl ?_); refine be_ 3 #[.string a1_0, .string a1_1, .int .i64 a1_2, .int .i64 a1_3, .int .i64 a1_4] 66 ?_; intro gb200 hg w34 hbox hb; have BK200 := AM hbox; have GW200 := AM ((by rw [hg]; exact (below_size bel_) : w.heap.size ≤ gb200)); have GE200 := AM ((by rw [hg]; exact (below_size bel_) : w.heap.size ≤ gb200)); replace HB := AM (below_step bel_ hb); have NB199_200 := AM ((by rw [hg]; exact Nat.ne_of_lt (blk_lt (g := gb199) (o := .cells #[.string a0_0, .string a0_1, .int .i64 a0_2, .int .i64 a0_3, .int .i64 a0_4] 66 (0, 0)) (bk_ BK199.out)) : gb199 ≠ gb200)); have NB200_199 := AM ((by rw [hg]; exact Nat.ne_of_gt (blk_lt (g := gb199) (o := .cells #[.string a0_0, .string a0_1, .int .i64 a0_2, .int .i64 a0_3, .int .i64 a0_4] 66 (0, 0)) (bk_ BK199.out)) : gb200 ≠ gb199)); replace BK199 := AM (blk_below (g := gb199) (o := .cells #[.string a0_0, .string a0_1, .int .i64 a0_2, .int .i64 a0_3, .int .i64 a0_4] 66 (0, 0)) (bk_ BK199.out) hb); clear hb hbox hg; have hnb35 := NB199_200.out; have hnc35 := NB200_199.out; have hcz36_0 : w34.cell? ⟨gb199, 0, none⟩ = some (.string a0_0) := (blk_cell BK199.out 0).trans rfl; have hcz36_1 : w34.cell? ⟨gb199, 1, none⟩ = some (.string a0_1) := (blk_cell BK199.out 1).trans rfl; have hcz36_2 : w34.cell? ⟨gb199, 2, none⟩ = some (.int .i64 a0_2) := (blk_cell BK199.out 2).trans rfl; have hcz36_3 : w34.cell? ⟨gb199, 3, none⟩ = some (.int .i64 a0_3) := (blk_cell BK199.out 3).trans rfl; have hcz36_4 : w34.cell? ⟨gb199, 4, none⟩ = some (.int .i64 a0_4) := (blk_cell BK199.out 4).trans rfl; have hfz36_0 := blk_frozen BK199.out 0; have hfz36_1 := blk_frozen BK199.out 1; have hfz36_2 := blk_frozen BK199.out 2; have hfz36_3 := blk_frozen BK199.out 3; have hfz36_4 := blk_frozen BK199.out 4; have hcz37_0 : w34.cell? ⟨gb200, 0, none⟩ = some (.string a1_0) := (blk_cell BK200.out 0).trans rfl; have hcz37_1 : w34.cell? ⟨gb200, 1, none⟩ = some (.string a1_1) := (blk_cell BK200.out 1).trans rfl; have hcz37_2 : w34.cell? ⟨gb200, 2, none⟩ = some (.int .i64 a1_2) := (blk_cell BK200.out 2).trans rfl; have hcz37_3 : w34.cell? ⟨gb200, 3, none⟩ = some (.int .i64 a1_3) := (blk_cell BK200.out 3).trans rfl; have hcz37_4 : w34.cell? ⟨gb200, 4, none⟩ = some (.int .i64 a1_4) := (blk_cell BK200.out 4).trans rfl; have hfz37_0 := blk_frozen BK200.out 0; have hfz37_1 := blk_frozen BK200.out 1; have hfz37_2 := blk_frozen BK200.out 2; have hfz37_3 := blk_frozen BK200.out 3; have hfz37_4 := blk_frozen BK200.out 4))
    go_ret
    exact ⟨ri_, bel_⟩

/-! ### laws_eqPlaceS: function 13 -/
def laws_eqPlaceS.l0 : Nat → List (S66) → List (S66) → Int → Option (Bool)
  | 0, _, _, _ => none
  | k + 1, x0, x1, x5 => if x5 < (x0.length : Int) then (if 0 ≤ x5 then (if x5 < (x1.length : Int) then ((laws_eqPlace.f ((rd_T66 x0 x5).f0) ((rd_T66 x0 x5).f1) ((rd_T66 x0 x5).f2) ((rd_T66 x0 x5).f3) ((rd_T66 x0 x5).f4) ((rd_T66 x1 x5).f0) ((rd_T66 x1 x5).f1) ((rd_T66 x1 x5).f2) ((rd_T66 x1 x5).f3) ((rd_T66 x1 x5).f4)).bind fun t203 => (if t203 = true then (laws_eqPlaceS.l0 k x0 x1 (wrap64 (x5 + 1))) else (some false))) else (none)) else (none)) else (some true)
def laws_eqPlaceS.f (k : Nat) (l0 : List (S66)) (l1 : List (S66)) : Option (Bool) := if (l0.length : Int) = (l1.length : Int) then (laws_eqPlaceS.l0 k l0 l1 0) else (some false)
theorem laws_eqPlaceS.mono_l : ∀ k, (∀ y0 y1 y2, LeO (laws_eqPlaceS.l0 k y0 y1 y2) (laws_eqPlaceS.l0 (k + 1) y0 y1 y2))
  | 0 => fun _ _ _ r h => by simp [laws_eqPlaceS.l0] at h
  | k + 1 => by
    have ih0 := laws_eqPlaceS.mono_l k
    · intro y0 y1 y2
      unfold laws_eqPlaceS.l0
      repeat' first
      | (with_reducible exact ih0 _ _ _)
      | (with_reducible exact LeO.refl _)
      | (with_reducible exact LeO.none _)
      | (with_reducible refine LeO.ite ?_ ?_)
      | (with_reducible refine LeO.bind ?_ (fun _ => ?_))
      | exact ih0 _ _ _
      | exact LeO.none _
      | refine LeO.ite ?_ ?_
      | refine LeO.bind ?_ (fun _ => ?_)
theorem laws_eqPlaceS.mono : ∀ a0 a1 k, LeO (laws_eqPlaceS.f k a0 a1) (laws_eqPlaceS.f (k + 1) a0 a1) := by
  intro a0 a1 k
  have ih0 := laws_eqPlaceS.mono_l k
  unfold laws_eqPlaceS.f
  repeat' first
      | (with_reducible exact ih0 _ _ _)
      | (with_reducible exact LeO.refl _)
      | (with_reducible exact LeO.none _)
      | (with_reducible refine LeO.ite ?_ ?_)
      | (with_reducible refine LeO.bind ?_ (fun _ => ?_))
      | exact ih0 _ _ _
      | exact LeO.none _
      | refine LeO.ite ?_ ?_
      | refine LeO.bind ?_ (fun _ => ?_)
def laws_eqPlaceS.T6 : Bool × List (List Nat × List Nat) := (true, [([], []), ([], []), ([0, 1], [0, 1]), ([2], [2]), ([], []), ([], []), ([4, 5], [4, 5]), ([6], [6]), ([3, 7], [3, 7]), ([8], [8])])
def laws_eqPlaceS.B6 : List Nat := [0, 0, 3, 7, 0, 0, 48, 112, 255, 511]
theorem laws_eqPlaceS.tab6 : rtab .any (opsOf Try.f13 6) = laws_eqPlaceS.T6 := by kernel_rfl
theorem laws_eqPlaceS.bits6 : waitsOk laws_eqPlaceS.T6.2 laws_eqPlaceS.B6 = true := by kernel_rfl
set_option maxHeartbeats 8000000 in
set_option maxRecDepth 100000 in
theorem laws_eqPlaceS.calls (k : Nat) (A0 : Option Addr) (c0 : Nat) (l0 : List (S66)) (A1 : Option Addr) (c1 : Nat) (l1 : List (S66)) (r : Bool) (w : World) (hr0 : Kd.C k66 w A0 l0.length l0) (hc0 : l0.length ≤ c0) (hr1 : Kd.C k66 w A1 l1.length l1) (hc1 : l1.length ≤ c1) (h : laws_eqPlaceS.f k l0 l1 = some r) :
    Calls Try.prog 13 #[.slice A0 l0.length c0, .slice A1 l1.length c1] w fun e w' => e = .returned (.bool r) ∧ Below w.heap.size w w' := by
  have hu66 := Try.underlying66
  have HR0 := AM hr0
  have HC0 := AM hc0
  clear hr0 hc0
  have HR1 := AM hr1
  have HC1 := AM hc1
  clear hr1 hc1
  have HB := AM (Below.refl w.heap.size w)
  have H : (if (l0.length : Int) = (l1.length : Int) then (laws_eqPlaceS.l0 k l0 l1 0) else (some false)) = some r := h
  clear h
  by_cases c3 : (l0.length : Int) = (l1.length : Int)
  · rw [if_pos c3] at H
    have c3b0 : ((l0.length : Int) == (l1.length : Int)) = true := beq_iff_eq.mpr c3
    have c3b1 : ((l0.length : Int) != (l1.length : Int)) = false := bne_eq_false_iff_eq.mpr c3
    have c3b2 : (l0.length == l1.length) = true := by first | simpa using c3 | (simp at c3 ⊢; omega)
    clear c3
    have H' := AM H
    clear H
    go_enter Try.func13, Try.ntmps13
    go_wp2
    go_loopg [5] k (fun kq v5 w' => ∃ (x5_1 : Int), v5 = .int .i64 x5_1 ∧ Aside0 (laws_eqPlaceS.l0 kq l0 l1 x5_1 = some r) ∧ Aside0 (kq ≤ k) ∧ Aside0 (Below w.heap.size w w'))
    case atStart => exact ⟨(0), (by first | rfl | (simp; done) | (simp [*]; done)), H', ⟨Nat.le_refl _⟩, ⟨bel_⟩⟩
    case round =>
      clear H'
      try clear c1
      try clear p2
      try clear c3
      try clear c3b0
      try clear c3b1
      try clear c3b2
      obtain ⟨x5_1, rfl, HA, HK1, HB⟩ := hrel
      cases gk with
      | zero => exact absurd HA.out (by simp [laws_eqPlaceS.l0])
      | succ k1 =>
        have H := HA.out
        clear HA
        simp only [laws_eqPlaceS.l0] at H
        by_cases c4 : x5_1 < (l0.length : Int)
        · rw [if_pos c4] at H
          have c4b0 : decide (x5_1 < (l0.length : Int)) = true := decide_eq_true c4
          clear c4
          by_cases c5 : 0 ≤ x5_1
          · rw [if_pos c5] at H
            have c5b0 : decide (0 ≤ x5_1) = true := decide_eq_true c5
            clear c5
            by_cases c6 : x5_1 < (l1.length : Int)
            · rw [if_pos c6] at H
              have c6b0 : decide (x5_1 < (l1.length : Int)) = true := decide_eq_true c6
              clear c6
              obtain ⟨t203, A7, H⟩ := OB H
              try dsimp only at H
              replace A7 := AM A7
              by_cases c8 : t203 = true
              · subst c8
                rw [if_pos rfl] at H
                have H' := AM H
                clear H
                try go_wp2
                replace HB := AM (below_drew1 HB.out)
                have p201 : 0 ≤ (x5_1 : Int) := of_decide_eq_true (by first | (with_reducible assumption) | assumption)
                have q201 : x5_1 < (l0.length : Int) := of_decide_eq_true (by first | (with_reducible assumption) | assumption)
                obtain ⟨ad201, e201, hx201_0, hx201_1, hx201_2, hx201_3, hx201_4⟩ := at_T66 HR0.out x5_1 p201 q201
                have hw201_4 := hx201_4
                have hw201_3 := hx201_3
                have hw201_2 := hx201_2
                have hw201_1 := hx201_1
                have hw201_0 := hx201_0
                cases e201
                replace hx201_0 := (HB.out.cell (World.block_lt_of_cell? w _ hx201_0)).trans hx201_0
                replace hx201_1 := (HB.out.cell (World.block_lt_of_cell? w _ hx201_1)).trans hx201_1
                replace hx201_2 := (HB.out.cell (World.block_lt_of_cell? w _ hx201_2)).trans hx201_2
                replace hx201_3 := (HB.out.cell (World.block_lt_of_cell? w _ hx201_3)).trans hx201_3
                replace hx201_4 := (HB.out.cell (World.block_lt_of_cell? w _ hx201_4)).trans hx201_4
                replace p201 := eq_true p201
                replace q201 := eq_true q201
                have p202 : 0 ≤ (x5_1 : Int) := of_decide_eq_true (by first | (with_reducible assumption) | assumption)
                have q202 : x5_1 < (l1.length : Int) := of_decide_eq_true (by first | (with_reducible assumption) | assumption)
                obtain ⟨ad202, e202, hx202_0, hx202_1, hx202_2, hx202_3, hx202_4⟩ := at_T66 HR1.out x5_1 p202 q202
                have hw202_4 := hx202_4
                have hw202_3 := hx202_3
                have hw202_2 := hx202_2
                have hw202_1 := hx202_1
                have hw202_0 := hx202_0
                cases e202
                replace hx202_0 := (HB.out.cell (World.block_lt_of_cell? w _ hx202_0)).trans hx202_0
                replace hx202_1 := (HB.out.cell (World.block_lt_of_cell? w _ hx202_1)).trans hx202_1
                replace hx202_2 := (HB.out.cell (World.block_lt_of_cell? w _ hx202_2)).trans hx202_2
                replace hx202_3 := (HB.out.cell (World.block_lt_of_cell? w _ hx202_3)).trans hx202_3
                replace hx202_4 := (HB.out.cell (World.block_lt_of_cell? w _ hx202_4)).trans hx202_4
                replace p202 := eq_true p202
                replace q202 := eq_true q202
                refine start_ (n := 10) (S := fun w' => w'.cell? (ad201.add ((x5_1).toNat * 5)) = some (.string ((rd_T66 l0 x5_1).f0)) ∧ w'.cell? ⟨(ad201.add ((x5_1).toNat * 5)).block, (ad201.add ((x5_1).toNat * 5)).off + 1, none⟩ = some (.string ((rd_T66 l0 x5_1).f1)) ∧ w'.cell? ⟨(ad201.add ((x5_1).toNat * 5)).block, (ad201.add ((x5_1).toNat * 5)).off + 2, none⟩ = some (.int .i64 ((rd_T66 l0 x5_1).f2)) ∧ w'.cell? ⟨(ad201.add ((x5_1).toNat * 5)).block, (ad201.add ((x5_1).toNat * 5)).off + 3, none⟩ = some (.int .i64 ((rd_T66 l0 x5_1).f3)) ∧ w'.cell? ⟨(ad201.add ((x5_1).toNat * 5)).block, (ad201.add ((x5_1).toNat * 5)).off + 4, none⟩ = some (.int .i64 ((rd_T66 l0 x5_1).f4)) ∧ w'.cell? (ad202.add ((x5_1).toNat * 5)) = some (.string ((rd_T66 l1 x5_1).f0)) ∧ w'.cell? ⟨(ad202.add ((x5_1).toNat * 5)).block, (ad202.add ((x5_1).toNat * 5)).off + 1, none⟩ = some (.string ((rd_T66 l1 x5_1).f1)) ∧ w'.cell? ⟨(ad202.add ((x5_1).toNat * 5)).block, (ad202.add ((x5_1).toNat * 5)).off + 2, none⟩ = some (.int .i64 ((rd_T66 l1 x5_1).f2)) ∧ w'.cell? ⟨(ad202.add ((x5_1).toNat * 5)).block, (ad202.add ((x5_1).toNat * 5)).off + 3, none⟩ = some (.int .i64 ((rd_T66 l1 x5_1).f3)) ∧ w'.cell? ⟨(ad202.add ((x5_1).toNat * 5)).block, (ad202.add ((x5_1).toNat * 5)).off + 4, none⟩ = some (.int .i64 ((rd_T66 l1 x5_1).f4))) (ds := []) #[false, false, false, false, false, false, false, false, false, false] (by kernel_rfl) rfl rfl ⟨((HB.out.cell (World.block_lt_of_cell? w _ hw201_0)).trans hw201_0), ((HB.out.cell (World.block_lt_of_cell? w _ hw201_1)).trans hw201_1), ((HB.out.cell (World.block_lt_of_cell? w _ hw201_2)).trans hw201_2), ((HB.out.cell (World.block_lt_of_cell? w _ hw201_3)).trans hw201_3), ((HB.out.cell (World.block_lt_of_cell? w _ hw201_4)).trans hw201_4), ((HB.out.cell (World.block_lt_of_cell? w _ hw202_0)).trans hw202_0), ((HB.out.cell (World.block_lt_of_cell? w _ hw202_1)).trans hw202_1), ((HB.out.cell (World.block_lt_of_cell? w _ hw202_2)).trans hw202_2), ((HB.out.cell (World.block_lt_of_cell? w _ hw202_3)).trans hw202_3), ((HB.out.cell (World.block_lt_of_cell? w _ hw202_4)).trans hw202_4)⟩ (fun hHeld => ?_); refine with_tabW laws_eqPlaceS.tab6 laws_eqPlaceS.bits6 (fun HT_ HW_ => ?_)
                generalize wr.drew = w9 at HB hx201_0 hx201_1 hx201_2 hx201_3 hx201_4 hx202_0 hx202_1 hx202_2 hx202_3 hx202_4 hHeld ⊢
                refine pu_ HT_ 0 (some 17) #[true, false, false, false, false, false, false, false, false, false] ?_
                refine pu_ HT_ 1 (some 18) #[true, true, false, false, false, false, false, false, false, false] ?_
                refine pu_ HT_ 2 (some 19) #[true, true, true, false, false, false, false, false, false, false] ?_
                refine pu_ HT_ 4 (some 21) #[true, true, true, false, true, false, false, false, false, false] ?_
                refine pu_ HT_ 5 (some 22) #[true, true, true, false, true, true, false, false, false, false] ?_
                refine pu_ HT_ 6 (some 23) #[true, true, true, false, true, true, true, false, false, false] ?_
                refine ta_ HT_ HW_ 3 (some 20) #[true, true, true, true, true, true, true, false, false, false] hHeld ?_
                refine ta_ HT_ HW_ 7 (some 24) #[true, true, true, true, true, true, true, true, false, false] hHeld ?_
                refine on_ HT_ 8 (some 25) #[true, true, true, true, true, true, true, true, true, false] (fun K hK => ?_)
                refine go1_ Try.func46 #[.agg #[.string ((rd_T66 l0 x5_1).f0), .string ((rd_T66 l0 x5_1).f1), .int .i64 ((rd_T66 l0 x5_1).f2), .int .i64 ((rd_T66 l0 x5_1).f3), .int .i64 ((rd_T66 l0 x5_1).f4)], .agg #[.string ((rd_T66 l1 x5_1).f0), .string ((rd_T66 l1 x5_1).f1), .int .i64 ((rd_T66 l1 x5_1).f2), .int .i64 ((rd_T66 l1 x5_1).f3), .int .i64 ((rd_T66 l1 x5_1).f4)]] ?_
                with_reducible refine (laws_eqPlace.calls ((rd_T66 l0 x5_1).f0) ((rd_T66 l0 x5_1).f1) ((rd_T66 l0 x5_1).f2) ((rd_T66 l0 x5_1).f3) ((rd_T66 l0 x5_1).f4) ((rd_T66 l1 x5_1).f0) ((rd_T66 l1 x5_1).f1) ((rd_T66 l1 x5_1).f2) ((rd_T66 l1 x5_1).f3) ((rd_T66 l1 x5_1).f4) true _ A7.out).mono ?_
                rintro e w10 ⟨rfl, hb⟩
                refine ⟨_, rfl, ?_⟩
                replace HB := AM (below_step bel_ hb)
                (try clear hb)
                (try clear hb2)
                (try clear hk)
                (try clear hi)
                refine hK.out _ _ ⟨((HB.out.cell (World.block_lt_of_cell? w _ hw201_0)).trans hw201_0), ((HB.out.cell (World.block_lt_of_cell? w _ hw201_1)).trans hw201_1), ((HB.out.cell (World.block_lt_of_cell? w _ hw201_2)).trans hw201_2), ((HB.out.cell (World.block_lt_of_cell? w _ hw201_3)).trans hw201_3), ((HB.out.cell (World.block_lt_of_cell? w _ hw201_4)).trans hw201_4), ((HB.out.cell (World.block_lt_of_cell? w _ hw202_0)).trans hw202_0), ((HB.out.cell (World.block_lt_of_cell? w _ hw202_1)).trans hw202_1), ((HB.out.cell (World.block_lt_of_cell? w _ hw202_2)).trans hw202_2), ((HB.out.cell (World.block_lt_of_cell? w _ hw202_3)).trans hw202_3), ((HB.out.cell (World.block_lt_of_cell? w _ hw202_4)).trans hw202_4)⟩ (fun hHeld => ?_)
                clear hK K
                refine nm_ ?_
                refine pu_ HT_ 9 (some 26) #[true, true, true, true, true, true, true, true, true, true] ?_
                refine dn_ HT_ ?_
                try go_wp2
                go_roundg k1
                case measure => have := HK1.out; omega
                case rel => exact ⟨(wrap64 (x5_1 + 1)), (by first | rfl | (simp; done) | (simp [*]; done)), H', ⟨by have := HK1.out; omega⟩, ⟨bel_⟩⟩
              · replace c8 := Bool.eq_false_iff.mpr c8
                subst c8
                rw [if_neg (show ¬ (false = true) by decide)] at H
                obtain rfl := Option.some.inj H
                try go_wp2
                replace HB := AM (below_drew1 HB.out)
                have p201 : 0 ≤ (x5_1 : Int) := of_decide_eq_true (by first | (with_reducible assumption) | assumption)
                have q201 : x5_1 < (l0.length : Int) := of_decide_eq_true (by first | (with_reducible assumption) | assumption)
                obtain ⟨ad201, e201, hx201_0, hx201_1, hx201_2, hx201_3, hx201_4⟩ := at_T66 HR0.out x5_1 p201 q201
                have hw201_4 := hx201_4
                have hw201_3 := hx201_3
                have hw201_2 := hx201_2
                have hw201_1 := hx201_1
                have hw201_0 := hx201_0
                cases e201
                replace hx201_0 := (HB.out.cell (World.block_lt_of_cell? w _ hx201_0)).trans hx201_0
                replace hx201_1 := (HB.out.cell (World.block_lt_of_cell? w _ hx201_1)).trans hx201_1
                replace hx201_2 := (HB.out.cell (World.block_lt_of_cell? w _ hx201_2)).trans hx201_2
                replace hx201_3 := (HB.out.cell (World.block_lt_of_cell? w _ hx201_3)).trans hx201_3
                replace hx201_4 := (HB.out.cell (World.block_lt_of_cell? w _ hx201_4)).trans hx201_4
                replace p201 := eq_true p201
                replace q201 := eq_true q201
                have p202 : 0 ≤ (x5_1 : Int) := of_decide_eq_true (by first | (with_reducible assumption) | assumption)
                have q202 : x5_1 < (l1.length : Int) := of_decide_eq_true (by first | (with_reducible assumption) | assumption)
                obtain ⟨ad202, e202, hx202_0, hx202_1, hx202_2, hx202_3, hx202_4⟩ := at_T66 HR1.out x5_1 p202 q202
                have hw202_4 := hx202_4
                have hw202_3 := hx202_3
                have hw202_2 := hx202_2
                have hw202_1 := hx202_1
                have hw202_0 := hx202_0
                cases e202
                replace hx202_0 := (HB.out.cell (World.block_lt_of_cell? w _ hx202_0)).trans hx202_0
                replace hx202_1 := (HB.out.cell (World.block_lt_of_cell? w _ hx202_1)).trans hx202_1
                replace hx202_2 := (HB.out.cell (World.block_lt_of_cell? w _ hx202_2)).trans hx202_2
                replace hx202_3 := (HB.out.cell (World.block_lt_of_cell? w _ hx202_3)).trans hx202_3
                replace hx202_4 := (HB.out.cell (World.block_lt_of_cell? w _ hx202_4)).trans hx202_4
                replace p202 := eq_true p202
                replace q202 := eq_true q202
                refine start_ (n := 10) (S := fun w' => w'.cell? (ad201.add ((x5_1).toNat * 5)) = some (.string ((rd_T66 l0 x5_1).f0)) ∧ w'.cell? ⟨(ad201.add ((x5_1).toNat * 5)).block, (ad201.add ((x5_1).toNat * 5)).off + 1, none⟩ = some (.string ((rd_T66 l0 x5_1).f1)) ∧ w'.cell? ⟨(ad201.add ((x5_1).toNat * 5)).block, (ad201.add ((x5_1).toNat * 5)).off + 2, none⟩ = some (.int .i64 ((rd_T66 l0 x5_1).f2)) ∧ w'.cell? ⟨(ad201.add ((x5_1).toNat * 5)).block, (ad201.add ((x5_1).toNat * 5)).off + 3, none⟩ = some (.int .i64 ((rd_T66 l0 x5_1).f3)) ∧ w'.cell? ⟨(ad201.add ((x5_1).toNat * 5)).block, (ad201.add ((x5_1).toNat * 5)).off + 4, none⟩ = some (.int .i64 ((rd_T66 l0 x5_1).f4)) ∧ w'.cell? (ad202.add ((x5_1).toNat * 5)) = some (.string ((rd_T66 l1 x5_1).f0)) ∧ w'.cell? ⟨(ad202.add ((x5_1).toNat * 5)).block, (ad202.add ((x5_1).toNat * 5)).off + 1, none⟩ = some (.string ((rd_T66 l1 x5_1).f1)) ∧ w'.cell? ⟨(ad202.add ((x5_1).toNat * 5)).block, (ad202.add ((x5_1).toNat * 5)).off + 2, none⟩ = some (.int .i64 ((rd_T66 l1 x5_1).f2)) ∧ w'.cell? ⟨(ad202.add ((x5_1).toNat * 5)).block, (ad202.add ((x5_1).toNat * 5)).off + 3, none⟩ = some (.int .i64 ((rd_T66 l1 x5_1).f3)) ∧ w'.cell? ⟨(ad202.add ((x5_1).toNat * 5)).block, (ad202.add ((x5_1).toNat * 5)).off + 4, none⟩ = some (.int .i64 ((rd_T66 l1 x5_1).f4))) (ds := []) #[false, false, false, false, false, false, false, false, false, false] (by kernel_rfl) rfl rfl ⟨((HB.out.cell (World.block_lt_of_cell? w _ hw201_0)).trans hw201_0), ((HB.out.cell (World.block_lt_of_cell? w _ hw201_1)).trans hw201_1), ((HB.out.cell (World.block_lt_of_cell? w _ hw201_2)).trans hw201_2), ((HB.out.cell (World.block_lt_of_cell? w _ hw201_3)).trans hw201_3), ((HB.out.cell (World.block_lt_of_cell? w _ hw201_4)).trans hw201_4), ((HB.out.cell (World.block_lt_of_cell? w _ hw202_0)).trans hw202_0), ((HB.out.cell (World.block_lt_of_cell? w _ hw202_1)).trans hw202_1), ((HB.out.cell (World.block_lt_of_cell? w _ hw202_2)).trans hw202_2), ((HB.out.cell (World.block_lt_of_cell? w _ hw202_3)).trans hw202_3), ((HB.out.cell (World.block_lt_of_cell? w _ hw202_4)).trans hw202_4)⟩ (fun hHeld => ?_); refine with_tabW laws_eqPlaceS.tab6 laws_eqPlaceS.bits6 (fun HT_ HW_ => ?_)
                generalize wr.drew = w11 at HB hx201_0 hx201_1 hx201_2 hx201_3 hx201_4 hx202_0 hx202_1 hx202_2 hx202_3 hx202_4 hHeld ⊢
                refine pu_ HT_ 0 (some 17) #[true, false, false, false, false, false, false, false, false, false] ?_
                refine pu_ HT_ 1 (some 18) #[true, true, false, false, false, false, false, false, false, false] ?_
                refine pu_ HT_ 2 (some 19) #[true, true, true, false, false, false, false, false, false, false] ?_
                refine pu_ HT_ 4 (some 21) #[true, true, true, false, true, false, false, false, false, false] ?_
                refine pu_ HT_ 5 (some 22) #[true, true, true, false, true, true, false, false, false, false] ?_
                refine pu_ HT_ 6 (some 23) #[true, true, true, false, true, true, true, false, false, false] ?_
                refine ta_ HT_ HW_ 3 (some 20) #[true, true, true, true, true, true, true, false, false, false] hHeld ?_
                refine ta_ HT_ HW_ 7 (some 24) #[true, true, true, true, true, true, true, true, false, false] hHeld ?_
                refine on_ HT_ 8 (some 25) #[true, true, true, true, true, true, true, true, true, false] (fun K hK => ?_)
                refine go1_ Try.func46 #[.agg #[.string ((rd_T66 l0 x5_1).f0), .string ((rd_T66 l0 x5_1).f1), .int .i64 ((rd_T66 l0 x5_1).f2), .int .i64 ((rd_T66 l0 x5_1).f3), .int .i64 ((rd_T66 l0 x5_1).f4)], .agg #[.string ((rd_T66 l1 x5_1).f0), .string ((rd_T66 l1 x5_1).f1), .int .i64 ((rd_T66 l1 x5_1).f2), .int .i64 ((rd_T66 l1 x5_1).f3), .int .i64 ((rd_T66 l1 x5_1).f4)]] ?_
                with_reducible refine (laws_eqPlace.calls ((rd_T66 l0 x5_1).f0) ((rd_T66 l0 x5_1).f1) ((rd_T66 l0 x5_1).f2) ((rd_T66 l0 x5_1).f3) ((rd_T66 l0 x5_1).f4) ((rd_T66 l1 x5_1).f0) ((rd_T66 l1 x5_1).f1) ((rd_T66 l1 x5_1).f2) ((rd_T66 l1 x5_1).f3) ((rd_T66 l1 x5_1).f4) false _ A7.out).mono ?_
                rintro e w12 ⟨rfl, hb⟩
                refine ⟨_, rfl, ?_⟩
                replace HB := AM (below_step bel_ hb)
                (try clear hb)
                (try clear hb2)
                (try clear hk)
                (try clear hi)
                refine hK.out _ _ ⟨((HB.out.cell (World.block_lt_of_cell? w _ hw201_0)).trans hw201_0), ((HB.out.cell (World.block_lt_of_cell? w _ hw201_1)).trans hw201_1), ((HB.out.cell (World.block_lt_of_cell? w _ hw201_2)).trans hw201_2), ((HB.out.cell (World.block_lt_of_cell? w _ hw201_3)).trans hw201_3), ((HB.out.cell (World.block_lt_of_cell? w _ hw201_4)).trans hw201_4), ((HB.out.cell (World.block_lt_of_cell? w _ hw202_0)).trans hw202_0), ((HB.out.cell (World.block_lt_of_cell? w _ hw202_1)).trans hw202_1), ((HB.out.cell (World.block_lt_of_cell? w _ hw202_2)).trans hw202_2), ((HB.out.cell (World.block_lt_of_cell? w _ hw202_3)).trans hw202_3), ((HB.out.cell (World.block_lt_of_cell? w _ hw202_4)).trans hw202_4)⟩ (fun hHeld => ?_)
                clear hK K
                refine nm_ ?_
                refine pu_ HT_ 9 (some 26) #[true, true, true, true, true, true, true, true, true, true] ?_
                refine dn_ HT_ ?_
                try go_wp2
                go_ret
                exact ⟨ri_, bel_⟩
            · rw [if_neg c6] at H
              exact absurd H (by simp)
          · rw [if_neg c5] at H
            exact absurd H (by simp)
        · rw [if_neg c4] at H
          have c4b0 : decide (x5_1 < (l0.length : Int)) = false := decide_eq_false c4
          clear c4
          obtain rfl := Option.some.inj H
          go_wp2
          go_ret
          exact ⟨ri_, bel_⟩
  · rw [if_neg c3] at H
    have c3b0 : ((l0.length : Int) == (l1.length : Int)) = false := beq_eq_false_iff_ne.mpr c3
    have c3b1 : ((l0.length : Int) != (l1.length : Int)) = true := bne_iff_ne.mpr c3
    have c3b2 : (l0.length == l1.length) = false := by first | simpa using c3 | (simp at c3 ⊢; omega)
    obtain rfl := Option.some.inj H
    go_enter Try.func13, Try.ntmps13
    go_wp2
    go_ret
    exact ⟨ri_, bel_⟩

/-! ### laws_FnExactPlacesBytes: function 3 -/
def laws_FnExactPlacesBytes.f (k : Nat) (l0 : List (S63)) : Option (Bool) := (laws_szPlaceS.f k l0 1048576).bind fun t204 => (if t204 < 0 then (some true) else ((laws_toPlaceS.f k l0).bind fun t205 => ((spec_PlacesBytes.f k t205).bind fun t208 => ((laws_toPlaceS.f k l0).bind fun t209 => ((impl_PlacesBytes.f k t209).bind fun t212 => (if t212.toList = t208.toList then ((laws_toPlaceS.f k l0).bind fun t213 => ((laws_eqPlaceS.f k t209 t213).bind fun t216 => (if t216 = true then (some true) else (some false)))) else (some false)))))))
theorem laws_FnExactPlacesBytes.mono : ∀ a0 k, LeO (laws_FnExactPlacesBytes.f k a0) (laws_FnExactPlacesBytes.f (k + 1) a0) := by
  intro a0 k
  unfold laws_FnExactPlacesBytes.f
  repeat' first
      | (with_reducible exact impl_PlacesBytes.mono _ _)
      | (with_reducible exact laws_eqPlaceS.mono _ _ _)
      | (with_reducible exact laws_szPlaceS.mono _ _ _)
      | (with_reducible exact laws_toPlaceS.mono _ _)
      | (with_reducible exact spec_PlacesBytes.mono _ _)
      | (with_reducible exact LeO.refl _)
      | (with_reducible exact LeO.none _)
      | (with_reducible refine LeO.ite ?_ ?_)
      | (with_reducible refine LeO.bind ?_ (fun _ => ?_))
      | exact impl_PlacesBytes.mono _ _
      | exact laws_eqPlaceS.mono _ _ _
      | exact laws_szPlaceS.mono _ _ _
      | exact laws_toPlaceS.mono _ _
      | exact spec_PlacesBytes.mono _ _
      | exact LeO.none _
      | refine LeO.ite ?_ ?_
      | refine LeO.bind ?_ (fun _ => ?_)
set_option maxHeartbeats 8000000 in
set_option maxRecDepth 100000 in
theorem laws_FnExactPlacesBytes.calls (k : Nat) (A0 : Option Addr) (c0 : Nat) (l0 : List (S63)) (r : Bool) (w : World) (hr0 : Kd.C k63 w A0 l0.length l0) (hc0 : l0.length ≤ c0) (h : laws_FnExactPlacesBytes.f k l0 = some r) :
    Calls Try.prog 3 #[.slice A0 l0.length c0] w fun e w' => e = .returned (.bool r) ∧ Below w.heap.size w w' := by
  have HR0 := AM hr0
  have HC0 := AM hc0
  clear hr0 hc0
  have HB := AM (Below.refl w.heap.size w)
  have H : ((laws_szPlaceS.f k l0 1048576).bind fun t204 => (if t204 < 0 then (some true) else ((laws_toPlaceS.f k l0).bind fun t205 => ((spec_PlacesBytes.f k t205).bind fun t208 => ((laws_toPlaceS.f k l0).bind fun t209 => ((impl_PlacesBytes.f k t209).bind fun t212 => (if t212.toList = t208.toList then ((laws_toPlaceS.f k l0).bind fun t213 => ((laws_eqPlaceS.f k t209 t213).bind fun t216 => (if t216 = true then (some true) else (some false)))) else (some false)))))))) = some r := h
  clear h
  obtain ⟨t204, A2, H⟩ := OB H
  try dsimp only at H
  replace A2 := AM A2
  by_cases c3 : t204 < 0
  · rw [if_pos c3] at H
    have c3b0 : decide (t204 < 0) = true := decide_eq_true c3
    clear c3
    obtain rfl := Option.some.inj H
    go_enter Try.func3, Try.ntmps3
    go_wp2_with (first | ((with_reducible refine gate_callee (f := 9) rfl ?_); refine gl_ (some 9) Try.func9 #[.slice A0 l0.length c0, .int .i64 1048576] ?_; (with_reducible refine (laws_szPlaceS.calls k _ _ l0 1048576 t204 _ ?side1 ?side2 A2.out).mono ?_); (case side1 => repeat (first | exact HR0.out | (with_reducible refine Kd.C_alloc ?_ _) | (with_reducible refine Kd.C_drewN ?_ _) | (with_reducible refine Kd.C_drew ?_))); (case side2 => exact HC0.out); rintro e w4 ⟨rfl, hb⟩; refine ⟨_, rfl, ?_⟩; replace HB := AM (below_step bel_ hb); (try clear hb); (try clear hb2); (try clear hk); (try clear hi)))
    go_ret
    exact ⟨ri_, bel_⟩
  · rw [if_neg c3] at H
    have c3b0 : decide (t204 < 0) = false := decide_eq_false c3
    clear c3
    obtain ⟨t205, A5, H⟩ := OB H
    try dsimp only at H
    replace A5 := AM A5
    obtain ⟨t208, A6, H⟩ := OB H
    try dsimp only at H
    replace A6 := AM A6
    obtain ⟨t209, A7, H⟩ := OB H
    try dsimp only at H
    replace A7 := AM A7
    obtain ⟨t212, A8, H⟩ := OB H
    try dsimp only at H
    replace A8 := AM A8
    by_cases c9 : t212.toList = t208.toList
    · rw [if_pos c9] at H
      have c9b0 : (t212.toList == t208.toList) = true := beq_iff_eq.mpr c9
      have c9b1 : (t212.toList != t208.toList) = false := bne_eq_false_iff_eq.mpr c9
      clear c9
      obtain ⟨t213, A10, H⟩ := OB H
      try dsimp only at H
      replace A10 := AM A10
      obtain ⟨t216, A11, H⟩ := OB H
      try dsimp only at H
      replace A11 := AM A11
      by_cases c12 : t216 = true
      · subst c12
        rw [if_pos rfl] at H
        obtain rfl := Option.some.inj H
        go_enter Try.func3, Try.ntmps3
        go_wp2_with (first | ((with_reducible refine gate_callee (f := 9) rfl ?_); refine gl_ (some 9) Try.func9 #[.slice A0 l0.length c0, .int .i64 1048576] ?_; (with_reducible refine (laws_szPlaceS.calls k _ _ l0 1048576 t204 _ ?side1 ?side2 A2.out).mono ?_); (case side1 => repeat (first | exact HR0.out | (with_reducible refine Kd.C_alloc ?_ _) | (with_reducible refine Kd.C_drewN ?_ _) | (with_reducible refine Kd.C_drew ?_))); (case side2 => exact HC0.out); rintro e w13 ⟨rfl, hb⟩; refine ⟨_, rfl, ?_⟩; replace HB := AM (below_step bel_ hb); (try clear hb); (try clear hb2); (try clear hk); (try clear hi)) | ((with_reducible refine gate_callee (f := 11) rfl ?_); refine gl_ (some 13) Try.func11 #[.slice A0 l0.length c0] ?_; (with_reducible refine (laws_toPlaceS.calls k _ _ l0 t205 _ ?side1 ?side2 A5.out).mono ?_); (case side1 => repeat (first | exact (Kd.C_below HR0.out HB.out) | (with_reducible refine Kd.C_alloc ?_ _) | (with_reducible refine Kd.C_drewN ?_ _) | (with_reducible refine Kd.C_drew ?_))); (case side2 => exact HC0.out); rintro e w14 ⟨v206, rfl, ho0, hb⟩; refine ⟨_, rfl, ?_⟩; have HO207 := AM (Kd.R_lower ho0 (below_size bel_)); replace HB := AM (below_step bel_ hb); (try clear hb); (try clear hb2); (try clear hk); (try clear hi); (try clear ho0); obtain ⟨Ao15, co15, eo15⟩ := Kd.R_slice HO207.out; subst eo15) | ((with_reducible refine gate_callee (f := 10) rfl ?_); refine gl_ (some 14) Try.func10 #[.slice Ao15 t205.length co15] ?_; (with_reducible refine (spec_PlacesBytes.calls k _ _ t205 t208 _ ?side1 ?side2 A6.out).mono ?_); (case side1 => repeat (first | exact (Kd.R_reads' HO207.out).2.2 | (with_reducible refine Kd.C_alloc ?_ _) | (with_reducible refine Kd.C_drewN ?_ _) | (with_reducible refine Kd.C_drew ?_))); (case side2 => exact (Kd.R_reads' HO207.out).2.1); rintro e w16 ⟨rfl, hb⟩; refine ⟨_, rfl, ?_⟩; replace HO207 := AM (Kd.R_below (ro_ HO207.out) hb); replace HB := AM (below_step bel_ hb); (try clear hb); (try clear hb2); (try clear hk); (try clear hi)) | ((with_reducible refine gate_callee (f := 11) rfl ?_); refine gl_ (some 16) Try.func11 #[.slice A0 l0.length c0] ?_; (with_reducible refine (laws_toPlaceS.calls k _ _ l0 t209 _ ?side1 ?side2 A7.out).mono ?_); (case side1 => repeat (first | exact (Kd.C_below HR0.out HB.out) | (with_reducible refine Kd.C_alloc ?_ _) | (with_reducible refine Kd.C_drewN ?_ _) | (with_reducible refine Kd.C_drew ?_))); (case side2 => exact HC0.out); rintro e w17 ⟨v210, rfl, ho0, hb⟩; refine ⟨_, rfl, ?_⟩; have HO211 := AM (Kd.R_lower (Kd.R_new' ho0 (Kd.R_lt (ro_ HO207.out))) (below_size bel_)); replace HO207 := AM (Kd.R_elder' (ro_ HO207.out) (Kd.R_base ho0) hb); replace HB := AM (below_step bel_ hb); (try clear hb); (try clear hb2); (try clear hk); (try clear hi); (try clear ho0); obtain ⟨Ao18, co18, eo18⟩ := Kd.R_slice HO211.out; subst eo18) | ((with_reducible refine gate_callee (f := 12) rfl ?_); refine gl_ (some 18) Try.func12 #[.slice Ao18 t209.length co18] ?_; (with_reducible refine (impl_PlacesBytes.calls k _ _ t209 t212 _ ?side1 ?side2 A8.out).mono ?_); (case side1 => repeat (first | exact (Kd.R_reads' HO211.out).2.2 | (with_reducible refine Kd.C_alloc ?_ _) | (with_reducible refine Kd.C_drewN ?_ _) | (with_reducible refine Kd.C_drew ?_))); (case side2 => exact (Kd.R_reads' HO211.out).2.1); rintro e w19 ⟨rfl, hb⟩; refine ⟨_, rfl, ?_⟩; replace HO207 := AM (Kd.R_below (ro_ HO207.out) hb); replace HO211 := AM (Kd.R_below (ro_ HO211.out) hb); replace HB := AM (below_step bel_ hb); (try clear hb); (try clear hb2); (try clear hk); (try clear hi)) | ((with_reducible refine gate_callee (f := 11) rfl ?_); refine gl_ (some 24) Try.func11 #[.slice A0 l0.length c0] ?_; (with_reducible refine (laws_toPlaceS.calls k _ _ l0 t213 _ ?side1 ?side2 A10.out).mono ?_); (case side1 => repeat (first | exact (Kd.C_below HR0.out HB.out) | (with_reducible refine Kd.C_alloc ?_ _) | (with_reducible refine Kd.C_drewN ?_ _) | (with_reducible refine Kd.C_drew ?_))); (case side2 => exact HC0.out); rintro e w20 ⟨v214, rfl, ho0, hb⟩; refine ⟨_, rfl, ?_⟩; have HO215 := AM (Kd.R_lower (Kd.R_new' (Kd.R_new' ho0 (Kd.R_lt (ro_ HO207.out))) (Kd.R_lt (ro_ HO211.out))) (below_size bel_)); replace HO207 := AM (Kd.R_elder' (ro_ HO207.out) (Kd.R_base ho0) hb); replace HO211 := AM (Kd.R_elder' (ro_ HO211.out) (Kd.R_base ho0) hb); replace HB := AM (below_step bel_ hb); (try clear hb); (try clear hb2); (try clear hk); (try clear hi); (try clear ho0); obtain ⟨Ao21, co21, eo21⟩ := Kd.R_slice HO215.out; subst eo21) | ((with_reducible refine gate_callee (f := 13) rfl ?_); refine gl_ (some 25) Try.func13 #[.slice Ao18 t209.length co18, .slice Ao21 t213.length co21] ?_; (with_reducible refine (laws_eqPlaceS.calls k _ _ t209 _ _ t213 true _ ?side1 ?side2 ?side3 ?side4 A11.out).mono ?_); (case side1 => repeat (first | exact (Kd.R_reads' HO211.out).2.2 | (with_reducible refine Kd.C_alloc ?_ _) | (with_reducible refine Kd.C_drewN ?_ _) | (with_reducible refine Kd.C_drew ?_))); (case side2 => exact (Kd.R_reads' HO211.out).2.1); (case side3 => repeat (first | exact (Kd.R_reads' HO215.out).2.2 | (with_reducible refine Kd.C_alloc ?_ _) | (with_reducible refine Kd.C_drewN ?_ _) | (with_reducible refine Kd.C_drew ?_))); (case side4 => exact (Kd.R_reads' HO215.out).2.1); rintro e w22 ⟨rfl, hb⟩; refine ⟨_, rfl, ?_⟩; replace HO207 := AM (Kd.R_below (ro_ HO207.out) hb); replace HO211 := AM (Kd.R_below (ro_ HO211.out) hb); replace HO215 := AM (Kd.R_below (ro_ HO215.out) hb); replace HB := AM (below_step bel_ hb); (try clear hb); (try clear hb2); (try clear hk); (try clear hi)))
        go_ret
        exact ⟨ri_, bel_⟩
      · replace c12 := Bool.eq_false_iff.mpr c12
        subst c12
        rw [if_neg (show ¬ (false = true) by decide)] at H
        obtain rfl := Option.some.inj H
        go_enter Try.func3, Try.ntmps3
        go_wp2_with (first | ((with_reducible refine gate_callee (f := 9) rfl ?_); refine gl_ (some 9) Try.func9 #[.slice A0 l0.length c0, .int .i64 1048576] ?_; (with_reducible refine (laws_szPlaceS.calls k _ _ l0 1048576 t204 _ ?side1 ?side2 A2.out).mono ?_); (case side1 => repeat (first | exact HR0.out | (with_reducible refine Kd.C_alloc ?_ _) | (with_reducible refine Kd.C_drewN ?_ _) | (with_reducible refine Kd.C_drew ?_))); (case side2 => exact HC0.out); rintro e w23 ⟨rfl, hb⟩; refine ⟨_, rfl, ?_⟩; replace HB := AM (below_step bel_ hb); (try clear hb); (try clear hb2); (try clear hk); (try clear hi)) | ((with_reducible refine gate_callee (f := 11) rfl ?_); refine gl_ (some 13) Try.func11 #[.slice A0 l0.length c0] ?_; (with_reducible refine (laws_toPlaceS.calls k _ _ l0 t205 _ ?side1 ?side2 A5.out).mono ?_); (case side1 => repeat (first | exact (Kd.C_below HR0.out HB.out) | (with_reducible refine Kd.C_alloc ?_ _) | (with_reducible refine Kd.C_drewN ?_ _) | (with_reducible refine Kd.C_drew ?_))); (case side2 => exact HC0.out); rintro e w24 ⟨v206, rfl, ho0, hb⟩; refine ⟨_, rfl, ?_⟩; have HO207 := AM (Kd.R_lower ho0 (below_size bel_)); replace HB := AM (below_step bel_ hb); (try clear hb); (try clear hb2); (try clear hk); (try clear hi); (try clear ho0); obtain ⟨Ao25, co25, eo25⟩ := Kd.R_slice HO207.out; subst eo25) | ((with_reducible refine gate_callee (f := 10) rfl ?_); refine gl_ (some 14) Try.func10 #[.slice Ao25 t205.length co25] ?_; (with_reducible refine (spec_PlacesBytes.calls k _ _ t205 t208 _ ?side1 ?side2 A6.out).mono ?_); (case side1 => repeat (first | exact (Kd.R_reads' HO207.out).2.2 | (with_reducible refine Kd.C_alloc ?_ _) | (with_reducible refine Kd.C_drewN ?_ _) | (with_reducible refine Kd.C_drew ?_))); (case side2 => exact (Kd.R_reads' HO207.out).2.1); rintro e w26 ⟨rfl, hb⟩; refine ⟨_, rfl, ?_⟩; replace HO207 := AM (Kd.R_below (ro_ HO207.out) hb); replace HB := AM (below_step bel_ hb); (try clear hb); (try clear hb2); (try clear hk); (try clear hi)) | ((with_reducible refine gate_callee (f := 11) rfl ?_); refine gl_ (some 16) Try.func11 #[.slice A0 l0.length c0] ?_; (with_reducible refine (laws_toPlaceS.calls k _ _ l0 t209 _ ?side1 ?side2 A7.out).mono ?_); (case side1 => repeat (first | exact (Kd.C_below HR0.out HB.out) | (with_reducible refine Kd.C_alloc ?_ _) | (with_reducible refine Kd.C_drewN ?_ _) | (with_reducible refine Kd.C_drew ?_))); (case side2 => exact HC0.out); rintro e w27 ⟨v210, rfl, ho0, hb⟩; refine ⟨_, rfl, ?_⟩; have HO211 := AM (Kd.R_lower (Kd.R_new' ho0 (Kd.R_lt (ro_ HO207.out))) (below_size bel_)); replace HO207 := AM (Kd.R_elder' (ro_ HO207.out) (Kd.R_base ho0) hb); replace HB := AM (below_step bel_ hb); (try clear hb); (try clear hb2); (try clear hk); (try clear hi); (try clear ho0); obtain ⟨Ao28, co28, eo28⟩ := Kd.R_slice HO211.out; subst eo28) | ((with_reducible refine gate_callee (f := 12) rfl ?_); refine gl_ (some 18) Try.func12 #[.slice Ao28 t209.length co28] ?_; (with_reducible refine (impl_PlacesBytes.calls k _ _ t209 t212 _ ?side1 ?side2 A8.out).mono ?_); (case side1 => repeat (first | exact (Kd.R_reads' HO211.out).2.2 | (with_reducible refine Kd.C_alloc ?_ _) | (with_reducible refine Kd.C_drewN ?_ _) | (with_reducible refine Kd.C_drew ?_))); (case side2 => exact (Kd.R_reads' HO211.out).2.1); rintro e w29 ⟨rfl, hb⟩; refine ⟨_, rfl, ?_⟩; replace HO207 := AM (Kd.R_below (ro_ HO207.out) hb); replace HO211 := AM (Kd.R_below (ro_ HO211.out) hb); replace HB := AM (below_step bel_ hb); (try clear hb); (try clear hb2); (try clear hk); (try clear hi)) | ((with_reducible refine gate_callee (f := 11) rfl ?_); refine gl_ (some 24) Try.func11 #[.slice A0 l0.length c0] ?_; (with_reducible refine (laws_toPlaceS.calls k _ _ l0 t213 _ ?side1 ?side2 A10.out).mono ?_); (case side1 => repeat (first | exact (Kd.C_below HR0.out HB.out) | (with_reducible refine Kd.C_alloc ?_ _) | (with_reducible refine Kd.C_drewN ?_ _) | (with_reducible refine Kd.C_drew ?_))); (case side2 => exact HC0.out); rintro e w30 ⟨v214, rfl, ho0, hb⟩; refine ⟨_, rfl, ?_⟩; have HO215 := AM (Kd.R_lower (Kd.R_new' (Kd.R_new' ho0 (Kd.R_lt (ro_ HO207.out))) (Kd.R_lt (ro_ HO211.out))) (below_size bel_)); replace HO207 := AM (Kd.R_elder' (ro_ HO207.out) (Kd.R_base ho0) hb); replace HO211 := AM (Kd.R_elder' (ro_ HO211.out) (Kd.R_base ho0) hb); replace HB := AM (below_step bel_ hb); (try clear hb); (try clear hb2); (try clear hk); (try clear hi); (try clear ho0); obtain ⟨Ao31, co31, eo31⟩ := Kd.R_slice HO215.out; subst eo31) | ((with_reducible refine gate_callee (f := 13) rfl ?_); refine gl_ (some 25) Try.func13 #[.slice Ao28 t209.length co28, .slice Ao31 t213.length co31] ?_; (with_reducible refine (laws_eqPlaceS.calls k _ _ t209 _ _ t213 false _ ?side1 ?side2 ?side3 ?side4 A11.out).mono ?_); (case side1 => repeat (first | exact (Kd.R_reads' HO211.out).2.2 | (with_reducible refine Kd.C_alloc ?_ _) | (with_reducible refine Kd.C_drewN ?_ _) | (with_reducible refine Kd.C_drew ?_))); (case side2 => exact (Kd.R_reads' HO211.out).2.1); (case side3 => repeat (first | exact (Kd.R_reads' HO215.out).2.2 | (with_reducible refine Kd.C_alloc ?_ _) | (with_reducible refine Kd.C_drewN ?_ _) | (with_reducible refine Kd.C_drew ?_))); (case side4 => exact (Kd.R_reads' HO215.out).2.1); rintro e w32 ⟨rfl, hb⟩; refine ⟨_, rfl, ?_⟩; replace HO207 := AM (Kd.R_below (ro_ HO207.out) hb); replace HO211 := AM (Kd.R_below (ro_ HO211.out) hb); replace HO215 := AM (Kd.R_below (ro_ HO215.out) hb); replace HB := AM (below_step bel_ hb); (try clear hb); (try clear hb2); (try clear hk); (try clear hi)))
        go_ret
        exact ⟨ri_, bel_⟩
    · rw [if_neg c9] at H
      have c9b0 : (t212.toList == t208.toList) = false := beq_eq_false_iff_ne.mpr c9
      have c9b1 : (t212.toList != t208.toList) = true := bne_iff_ne.mpr c9
      obtain rfl := Option.some.inj H
      go_enter Try.func3, Try.ntmps3
      go_wp2_with (first | ((with_reducible refine gate_callee (f := 9) rfl ?_); refine gl_ (some 9) Try.func9 #[.slice A0 l0.length c0, .int .i64 1048576] ?_; (with_reducible refine (laws_szPlaceS.calls k _ _ l0 1048576 t204 _ ?side1 ?side2 A2.out).mono ?_); (case side1 => repeat (first | exact HR0.out | (with_reducible refine Kd.C_alloc ?_ _) | (with_reducible refine Kd.C_drewN ?_ _) | (with_reducible refine Kd.C_drew ?_))); (case side2 => exact HC0.out); rintro e w33 ⟨rfl, hb⟩; refine ⟨_, rfl, ?_⟩; replace HB := AM (below_step bel_ hb); (try clear hb); (try clear hb2); (try clear hk); (try clear hi)) | ((with_reducible refine gate_callee (f := 11) rfl ?_); refine gl_ (some 13) Try.func11 #[.slice A0 l0.length c0] ?_; (with_reducible refine (laws_toPlaceS.calls k _ _ l0 t205 _ ?side1 ?side2 A5.out).mono ?_); (case side1 => repeat (first | exact (Kd.C_below HR0.out HB.out) | (with_reducible refine Kd.C_alloc ?_ _) | (with_reducible refine Kd.C_drewN ?_ _) | (with_reducible refine Kd.C_drew ?_))); (case side2 => exact HC0.out); rintro e w34 ⟨v206, rfl, ho0, hb⟩; refine ⟨_, rfl, ?_⟩; have HO207 := AM (Kd.R_lower ho0 (below_size bel_)); replace HB := AM (below_step bel_ hb); (try clear hb); (try clear hb2); (try clear hk); (try clear hi); (try clear ho0); obtain ⟨Ao35, co35, eo35⟩ := Kd.R_slice HO207.out; subst eo35) | ((with_reducible refine gate_callee (f := 10) rfl ?_); refine gl_ (some 14) Try.func10 #[.slice Ao35 t205.length co35] ?_; (with_reducible refine (spec_PlacesBytes.calls k _ _ t205 t208 _ ?side1 ?side2 A6.out).mono ?_); (case side1 => repeat (first | exact (Kd.R_reads' HO207.out).2.2 | (with_reducible refine Kd.C_alloc ?_ _) | (with_reducible refine Kd.C_drewN ?_ _) | (with_reducible refine Kd.C_drew ?_))); (case side2 => exact (Kd.R_reads' HO207.out).2.1); rintro e w36 ⟨rfl, hb⟩; refine ⟨_, rfl, ?_⟩; replace HO207 := AM (Kd.R_below (ro_ HO207.out) hb); replace HB := AM (below_step bel_ hb); (try clear hb); (try clear hb2); (try clear hk); (try clear hi)) | ((with_reducible refine gate_callee (f := 11) rfl ?_); refine gl_ (some 16) Try.func11 #[.slice A0 l0.length c0] ?_; (with_reducible refine (laws_toPlaceS.calls k _ _ l0 t209 _ ?side1 ?side2 A7.out).mono ?_); (case side1 => repeat (first | exact (Kd.C_below HR0.out HB.out) | (with_reducible refine Kd.C_alloc ?_ _) | (with_reducible refine Kd.C_drewN ?_ _) | (with_reducible refine Kd.C_drew ?_))); (case side2 => exact HC0.out); rintro e w37 ⟨v210, rfl, ho0, hb⟩; refine ⟨_, rfl, ?_⟩; have HO211 := AM (Kd.R_lower (Kd.R_new' ho0 (Kd.R_lt (ro_ HO207.out))) (below_size bel_)); replace HO207 := AM (Kd.R_elder' (ro_ HO207.out) (Kd.R_base ho0) hb); replace HB := AM (below_step bel_ hb); (try clear hb); (try clear hb2); (try clear hk); (try clear hi); (try clear ho0); obtain ⟨Ao38, co38, eo38⟩ := Kd.R_slice HO211.out; subst eo38) | ((with_reducible refine gate_callee (f := 12) rfl ?_); refine gl_ (some 18) Try.func12 #[.slice Ao38 t209.length co38] ?_; (with_reducible refine (impl_PlacesBytes.calls k _ _ t209 t212 _ ?side1 ?side2 A8.out).mono ?_); (case side1 => repeat (first | exact (Kd.R_reads' HO211.out).2.2 | (with_reducible refine Kd.C_alloc ?_ _) | (with_reducible refine Kd.C_drewN ?_ _) | (with_reducible refine Kd.C_drew ?_))); (case side2 => exact (Kd.R_reads' HO211.out).2.1); rintro e w39 ⟨rfl, hb⟩; refine ⟨_, rfl, ?_⟩; replace HO207 := AM (Kd.R_below (ro_ HO207.out) hb); replace HO211 := AM (Kd.R_below (ro_ HO211.out) hb); replace HB := AM (below_step bel_ hb); (try clear hb); (try clear hb2); (try clear hk); (try clear hi)))
      go_ret
      exact ⟨ri_, bel_⟩

end Go.Proofs.Ytggbpjfgfenpdaa.PFnExactPlacesBytes
