-- A program of this session wrote this text: a changed copy of the kit print, with given functions.
import Derived.Test.YtggbpjfgfenpdaaPFnExactNodesReadx0
import Derived.Test.YtggbpjfgfenpdaaPFnExactNodesReadx1
namespace Go.Proofs.Ytggbpjfgfenpdaa.PFnExactNodesRead
open Go.RowKit Go.Proofs.YtggbpjfgfenpdaaW.PrintWords Go.Proofs.YtggbpjfgfenpdaaW.PrintLast Go.Proofs.YtggbpjfgfenpdaaW.PrintMore Go.Proofs.Ytggbpjfgfenpdaa.Aut
attribute [local go_sem] max2_int min2_int max_two min_two max_three min_three max_four min_four   -- for this text's walks alone
set_option linter.unusedVariables false
set_option linter.unusedSimpArgs false

/-! ### spec_l11NodeRight: function 98 -/
mutual
def spec_l11NodeRight.j0 : Nat → Bool → ByteArray → Bool → Int → List ByteArray → Option (Bool)
  | 0, _, _, _, _, _ => none
  | k + 1, x38, x102000, x102001, x102002, x102003 => if x38 = true then (some false) else (spec_l11NodeRight.l0 k 0 x102000 x102001 x102002 x102003)
def spec_l11NodeRight.l0 : Nat → Int → ByteArray → Bool → Int → List ByteArray → Option (Bool)
  | 0, _, _, _, _, _ => none
  | k + 1, x3, x102000, x102001, x102002, x102003 => if x3 < (x102003.length : Int) then (if 0 ≤ x3 then (if ((rdOf ByteArray.empty x102003 x3).size : Int) = 32 then (spec_l11NodeRight.l0 k (wrap64 (x3 + 1)) x102000 x102001 x102002 x102003) else (some false)) else (none)) else (some true)
end
def spec_l11NodeRight.f (k : Nat) (a0_0 : ByteArray) (a0_1 : Bool) (a0_2 : Int) (l0_3 : List ByteArray) : Option (Bool) := (spec_NameRight.f k a0_0).bind fun t102 => (if t102 = true then (if (l0_3.length : Int) > 100 then (spec_l11NodeRight.j0 k true a0_0 a0_1 a0_2 l0_3) else (if a0_1 = true then (if a0_2 = 0 then (if (l0_3.length : Int) = 1 then (if a0_2 < 0 then (spec_l11NodeRight.j0 k true a0_0 a0_1 a0_2 l0_3) else (spec_l11NodeRight.j0 k (decide (a0_2 > 1500)) a0_0 a0_1 a0_2 l0_3)) else (spec_l11NodeRight.j0 k true a0_0 a0_1 a0_2 l0_3)) else (spec_l11NodeRight.j0 k true a0_0 a0_1 a0_2 l0_3)) else (if a0_2 < 0 then (spec_l11NodeRight.j0 k true a0_0 a0_1 a0_2 l0_3) else (spec_l11NodeRight.j0 k (decide (a0_2 > 1500)) a0_0 a0_1 a0_2 l0_3)))) else (spec_l11NodeRight.j0 k true a0_0 a0_1 a0_2 l0_3))
theorem spec_l11NodeRight.mono_l : ∀ k, (∀ y0 y1 y2 y3 y4, LeO (spec_l11NodeRight.j0 k y0 y1 y2 y3 y4) (spec_l11NodeRight.j0 (k + 1) y0 y1 y2 y3 y4)) ∧ (∀ y0 y1 y2 y3 y4, LeO (spec_l11NodeRight.l0 k y0 y1 y2 y3 y4) (spec_l11NodeRight.l0 (k + 1) y0 y1 y2 y3 y4))
  | 0 => ⟨fun _ _ _ _ _ r h => by simp [spec_l11NodeRight.j0] at h, fun _ _ _ _ _ r h => by simp [spec_l11NodeRight.l0] at h⟩
  | k + 1 => by
    obtain ⟨ih0, ih1⟩ := spec_l11NodeRight.mono_l k
    refine ⟨?_, ?_⟩
    · intro y0 y1 y2 y3 y4
      unfold spec_l11NodeRight.j0
      repeat' first
      | (with_reducible exact ih0 _ _ _ _ _)
      | (with_reducible exact ih1 _ _ _ _ _)
      | (with_reducible exact spec_NameRight.mono _ _)
      | (with_reducible exact LeO.refl _)
      | (with_reducible exact LeO.none _)
      | (with_reducible refine LeO.ite ?_ ?_)
      | (with_reducible refine LeO.bind ?_ (fun _ => ?_))
      | exact ih0 _ _ _ _ _
      | exact ih1 _ _ _ _ _
      | exact spec_NameRight.mono _ _
      | exact LeO.none _
      | refine LeO.ite ?_ ?_
      | refine LeO.bind ?_ (fun _ => ?_)
    · intro y0 y1 y2 y3 y4
      unfold spec_l11NodeRight.l0
      repeat' first
      | (with_reducible exact ih0 _ _ _ _ _)
      | (with_reducible exact ih1 _ _ _ _ _)
      | (with_reducible exact spec_NameRight.mono _ _)
      | (with_reducible exact LeO.refl _)
      | (with_reducible exact LeO.none _)
      | (with_reducible refine LeO.ite ?_ ?_)
      | (with_reducible refine LeO.bind ?_ (fun _ => ?_))
      | exact ih0 _ _ _ _ _
      | exact ih1 _ _ _ _ _
      | exact spec_NameRight.mono _ _
      | exact LeO.none _
      | refine LeO.ite ?_ ?_
      | refine LeO.bind ?_ (fun _ => ?_)
theorem spec_l11NodeRight.mono : ∀ a0 a1 a2 a3 k, LeO (spec_l11NodeRight.f k a0 a1 a2 a3) (spec_l11NodeRight.f (k + 1) a0 a1 a2 a3) := by
  intro a0 a1 a2 a3 k
  obtain ⟨ih0, ih1⟩ := spec_l11NodeRight.mono_l k
  unfold spec_l11NodeRight.f
  repeat' first
      | (with_reducible exact ih0 _ _ _ _ _)
      | (with_reducible exact ih1 _ _ _ _ _)
      | (with_reducible exact spec_NameRight.mono _ _)
      | (with_reducible exact LeO.refl _)
      | (with_reducible exact LeO.none _)
      | (with_reducible refine LeO.ite ?_ ?_)
      | (with_reducible refine LeO.bind ?_ (fun _ => ?_))
      | exact ih0 _ _ _ _ _
      | exact ih1 _ _ _ _ _
      | exact spec_NameRight.mono _ _
      | exact LeO.none _
      | refine LeO.ite ?_ ?_
      | refine LeO.bind ?_ (fun _ => ?_)
set_option maxHeartbeats 8000000 in
set_option maxRecDepth 100000 in
theorem spec_l11NodeRight.calls (k : Nat) (a0_0 : ByteArray) (a0_1 : Bool) (a0_2 : Int) (A0_3 : Option Addr) (c0_3 : Nat) (l0_3 : List ByteArray) (r : Bool) (w : World) (hr0_3 : Kd.C Kd.string w A0_3 l0_3.length l0_3) (hc0_3 : l0_3.length ≤ c0_3) (h : spec_l11NodeRight.f k a0_0 a0_1 a0_2 l0_3 = some r) :
    Calls Try.prog 98 #[.agg #[.string a0_0, .bool a0_1, .int .i64 a0_2, .slice A0_3 l0_3.length c0_3]] w fun e w' => e = .returned (.bool r) ∧ Below w.heap.size w w' := by
  have hu74 := Try.underlying74
  have HR0_3 := AM hr0_3
  have HC0_3 := AM hc0_3
  clear hr0_3 hc0_3
  have HB := AM (Below.refl w.heap.size w)
  have H : ((spec_NameRight.f k a0_0).bind fun t102 => (if t102 = true then (if (l0_3.length : Int) > 100 then (spec_l11NodeRight.j0 k true a0_0 a0_1 a0_2 l0_3) else (if a0_1 = true then (if a0_2 = 0 then (if (l0_3.length : Int) = 1 then (if a0_2 < 0 then (spec_l11NodeRight.j0 k true a0_0 a0_1 a0_2 l0_3) else (spec_l11NodeRight.j0 k (decide (a0_2 > 1500)) a0_0 a0_1 a0_2 l0_3)) else (spec_l11NodeRight.j0 k true a0_0 a0_1 a0_2 l0_3)) else (spec_l11NodeRight.j0 k true a0_0 a0_1 a0_2 l0_3)) else (if a0_2 < 0 then (spec_l11NodeRight.j0 k true a0_0 a0_1 a0_2 l0_3) else (spec_l11NodeRight.j0 k (decide (a0_2 > 1500)) a0_0 a0_1 a0_2 l0_3)))) else (spec_l11NodeRight.j0 k true a0_0 a0_1 a0_2 l0_3))) = some r := h
  clear h
  have HC2 := AM H
  clear H
  go_enter Try.func98, Try.ntmps98
  go_upto_region 1 with (first | ((with_reducible refine gate_dst (N := 1) rfl ?_); (try (refine gate_guard (by rfl) ?_; dsimp only)); refine be_ 1 #[.string a0_0, .bool a0_1, .int .i64 a0_2, .slice A0_3 l0_3.length c0_3] 74 ?_; intro gb101 hg w3 hbox hb; have BK101 := AM hbox; have GW101 := AM ((by rw [hg]; exact (below_size bel_) : w.heap.size ≤ gb101)); have GE101 := AM ((by rw [hg]; exact (below_size bel_) : w.heap.size ≤ gb101)); replace HB := AM (below_step bel_ hb); clear hb hbox hg))
  (try simp only [Act.put, List.setIfInBounds_toArray, List.set_cons_zero, List.set_cons_succ])
  go_cut [38] (fun v38 wc => ∃ (kq : Nat) (x38_1 : Bool), v38 = .bool x38_1 ∧ Aside0 (spec_l11NodeRight.j0 kq x38_1 a0_0 a0_1 a0_2 l0_3 = some r) ∧ Aside0 (kq ≤ k) ∧ Aside0 (wc.heap[gb101]? = some (.cells #[.string a0_0, .bool a0_1, .int .i64 a0_2, (.slice A0_3 l0_3.length c0_3)] 74 (0, 0))) ∧ Aside0 (Below w.heap.size w wc))
  case first =>
    have H := HC2.out
    clear HC2
    obtain ⟨t102, A4, H⟩ := OB H
    try dsimp only at H
    replace A4 := AM A4
    by_cases c5 : t102 = true
    · subst c5
      rw [if_pos rfl] at H
      by_cases c6 : (l0_3.length : Int) > 100
      · rw [if_pos c6] at H
        have c6b0 : decide (100 < (l0_3.length : Int)) = true := decide_eq_true c6
        have c6b1 : decide (100 < l0_3.length) = true := decide_eq_true (by omega)
        clear c6
        (first | rw [c6b0] | (simp only [i64_w, i32_w]; rw [c6b0]) | skip)
        have H' := AM H
        clear H
        have hcz7_0 : w3.cell? ⟨gb101, 0, none⟩ = some (.string a0_0) := (blk_cell BK101.out 0).trans rfl
        have hcz7_1 : w3.cell? ⟨gb101, 1, none⟩ = some (.bool a0_1) := (blk_cell BK101.out 1).trans rfl
        have hcz7_2 : w3.cell? ⟨gb101, 2, none⟩ = some (.int .i64 a0_2) := (blk_cell BK101.out 2).trans rfl
        have hcz7_3 : w3.cell? ⟨gb101, 3, none⟩ = some (.slice A0_3 l0_3.length c0_3) := (blk_cell BK101.out 3).trans rfl
        have hfz7_0 := blk_frozen BK101.out 0
        have hfz7_1 := blk_frozen BK101.out 1
        have hfz7_2 := blk_frozen BK101.out 2
        have hfz7_3 := blk_frozen BK101.out 3
        go_wp2_with (first | ((with_reducible refine gate_callee (f := 133) rfl ?_); refine gl_ (some 6) Try.func133 #[.string a0_0] ?_; (with_reducible refine (spec_NameRight.calls k a0_0 true _ A4.out).mono ?_); rintro e w' ⟨rfl, ⟨nd, rfl⟩⟩; refine ⟨_, rfl, ?_⟩))
        go_meet
        case rel => exact ⟨_, (true), (by first | rfl | (simp; done) | (simp [*]; done)), H', ⟨by first | omega | exact Nat.le_refl _⟩, ⟨bk_ BK101.out⟩, ⟨bel_⟩⟩
      · rw [if_neg c6] at H
        have c6b0 : decide (100 < (l0_3.length : Int)) = false := decide_eq_false c6
        have c6b1 : decide (100 < l0_3.length) = false := decide_eq_false (by omega)
        clear c6
        (first | rw [c6b0] | (simp only [i64_w, i32_w]; rw [c6b0]) | skip)
        by_cases c8 : a0_1 = true
        · subst c8
          rw [if_pos rfl] at H
          by_cases c9 : a0_2 = 0
          · rw [if_pos c9] at H
            have c9b0 : (a0_2 == 0) = true := beq_iff_eq.mpr c9
            have c9b1 : (a0_2 != 0) = false := bne_eq_false_iff_eq.mpr c9
            clear c9
            by_cases c10 : (l0_3.length : Int) = 1
            · rw [if_pos c10] at H
              have c10b0 : ((l0_3.length : Int) == 1) = true := beq_iff_eq.mpr c10
              have c10b1 : ((l0_3.length : Int) != 1) = false := bne_eq_false_iff_eq.mpr c10
              clear c10
              by_cases c11 : a0_2 < 0
              · rw [if_pos c11] at H
                have c11b0 : decide (a0_2 < 0) = true := decide_eq_true c11
                clear c11
                have H' := AM H
                clear H
                have hcz12_0 : w3.cell? ⟨gb101, 0, none⟩ = some (.string a0_0) := (blk_cell BK101.out 0).trans rfl
                have hcz12_1 : w3.cell? ⟨gb101, 1, none⟩ = some (.bool true) := (blk_cell BK101.out 1).trans rfl
                have hcz12_2 : w3.cell? ⟨gb101, 2, none⟩ = some (.int .i64 a0_2) := (blk_cell BK101.out 2).trans rfl
                have hcz12_3 : w3.cell? ⟨gb101, 3, none⟩ = some (.slice A0_3 l0_3.length c0_3) := (blk_cell BK101.out 3).trans rfl
                have hfz12_0 := blk_frozen BK101.out 0
                have hfz12_1 := blk_frozen BK101.out 1
                have hfz12_2 := blk_frozen BK101.out 2
                have hfz12_3 := blk_frozen BK101.out 3
                go_wp2_with (first | ((with_reducible refine gate_callee (f := 133) rfl ?_); refine gl_ (some 6) Try.func133 #[.string a0_0] ?_; (with_reducible refine (spec_NameRight.calls k a0_0 true _ A4.out).mono ?_); rintro e w' ⟨rfl, ⟨nd, rfl⟩⟩; refine ⟨_, rfl, ?_⟩))
                go_meet
                case rel => exact ⟨_, (true), (by first | rfl | (simp; done) | (simp [*]; done)), H', ⟨by first | omega | exact Nat.le_refl _⟩, ⟨bk_ BK101.out⟩, ⟨bel_⟩⟩
              · rw [if_neg c11] at H
                have c11b0 : decide (a0_2 < 0) = false := decide_eq_false c11
                clear c11
                have H' := AM H
                clear H
                have hcz13_0 : w3.cell? ⟨gb101, 0, none⟩ = some (.string a0_0) := (blk_cell BK101.out 0).trans rfl
                have hcz13_1 : w3.cell? ⟨gb101, 1, none⟩ = some (.bool true) := (blk_cell BK101.out 1).trans rfl
                have hcz13_2 : w3.cell? ⟨gb101, 2, none⟩ = some (.int .i64 a0_2) := (blk_cell BK101.out 2).trans rfl
                have hcz13_3 : w3.cell? ⟨gb101, 3, none⟩ = some (.slice A0_3 l0_3.length c0_3) := (blk_cell BK101.out 3).trans rfl
                have hfz13_0 := blk_frozen BK101.out 0
                have hfz13_1 := blk_frozen BK101.out 1
                have hfz13_2 := blk_frozen BK101.out 2
                have hfz13_3 := blk_frozen BK101.out 3
                go_wp2_with (first | ((with_reducible refine gate_callee (f := 133) rfl ?_); refine gl_ (some 6) Try.func133 #[.string a0_0] ?_; (with_reducible refine (spec_NameRight.calls k a0_0 true _ A4.out).mono ?_); rintro e w' ⟨rfl, ⟨nd, rfl⟩⟩; refine ⟨_, rfl, ?_⟩))
                go_meet
                case rel => exact ⟨_, (decide (a0_2 > 1500)), (by first | rfl | (simp; done) | (simp [*]; done)), H', ⟨by first | omega | exact Nat.le_refl _⟩, ⟨bk_ BK101.out⟩, ⟨bel_⟩⟩
            · rw [if_neg c10] at H
              have c10b0 : ((l0_3.length : Int) == 1) = false := beq_eq_false_iff_ne.mpr c10
              have c10b1 : ((l0_3.length : Int) != 1) = true := bne_iff_ne.mpr c10
              have H' := AM H
              clear H
              have hcz14_0 : w3.cell? ⟨gb101, 0, none⟩ = some (.string a0_0) := (blk_cell BK101.out 0).trans rfl
              have hcz14_1 : w3.cell? ⟨gb101, 1, none⟩ = some (.bool true) := (blk_cell BK101.out 1).trans rfl
              have hcz14_2 : w3.cell? ⟨gb101, 2, none⟩ = some (.int .i64 a0_2) := (blk_cell BK101.out 2).trans rfl
              have hcz14_3 : w3.cell? ⟨gb101, 3, none⟩ = some (.slice A0_3 l0_3.length c0_3) := (blk_cell BK101.out 3).trans rfl
              have hfz14_0 := blk_frozen BK101.out 0
              have hfz14_1 := blk_frozen BK101.out 1
              have hfz14_2 := blk_frozen BK101.out 2
              have hfz14_3 := blk_frozen BK101.out 3
              go_wp2_with (first | ((with_reducible refine gate_callee (f := 133) rfl ?_); refine gl_ (some 6) Try.func133 #[.string a0_0] ?_; (with_reducible refine (spec_NameRight.calls k a0_0 true _ A4.out).mono ?_); rintro e w' ⟨rfl, ⟨nd, rfl⟩⟩; refine ⟨_, rfl, ?_⟩))
              go_meet
              case rel => exact ⟨_, (true), (by first | rfl | (simp; done) | (simp [*]; done)), H', ⟨by first | omega | exact Nat.le_refl _⟩, ⟨bk_ BK101.out⟩, ⟨bel_⟩⟩
          · rw [if_neg c9] at H
            have c9b0 : (a0_2 == 0) = false := beq_eq_false_iff_ne.mpr c9
            have c9b1 : (a0_2 != 0) = true := bne_iff_ne.mpr c9
            have H' := AM H
            clear H
            have hcz15_0 : w3.cell? ⟨gb101, 0, none⟩ = some (.string a0_0) := (blk_cell BK101.out 0).trans rfl
            have hcz15_1 : w3.cell? ⟨gb101, 1, none⟩ = some (.bool true) := (blk_cell BK101.out 1).trans rfl
            have hcz15_2 : w3.cell? ⟨gb101, 2, none⟩ = some (.int .i64 a0_2) := (blk_cell BK101.out 2).trans rfl
            have hcz15_3 : w3.cell? ⟨gb101, 3, none⟩ = some (.slice A0_3 l0_3.length c0_3) := (blk_cell BK101.out 3).trans rfl
            have hfz15_0 := blk_frozen BK101.out 0
            have hfz15_1 := blk_frozen BK101.out 1
            have hfz15_2 := blk_frozen BK101.out 2
            have hfz15_3 := blk_frozen BK101.out 3
            go_wp2_with (first | ((with_reducible refine gate_callee (f := 133) rfl ?_); refine gl_ (some 6) Try.func133 #[.string a0_0] ?_; (with_reducible refine (spec_NameRight.calls k a0_0 true _ A4.out).mono ?_); rintro e w' ⟨rfl, ⟨nd, rfl⟩⟩; refine ⟨_, rfl, ?_⟩))
            go_meet
            case rel => exact ⟨_, (true), (by first | rfl | (simp; done) | (simp [*]; done)), H', ⟨by first | omega | exact Nat.le_refl _⟩, ⟨bk_ BK101.out⟩, ⟨bel_⟩⟩
        · replace c8 := Bool.eq_false_iff.mpr c8
          subst c8
          rw [if_neg (show ¬ (false = true) by decide)] at H
          by_cases c16 : a0_2 < 0
          · rw [if_pos c16] at H
            have c16b0 : decide (a0_2 < 0) = true := decide_eq_true c16
            clear c16
            have H' := AM H
            clear H
            have hcz17_0 : w3.cell? ⟨gb101, 0, none⟩ = some (.string a0_0) := (blk_cell BK101.out 0).trans rfl
            have hcz17_1 : w3.cell? ⟨gb101, 1, none⟩ = some (.bool false) := (blk_cell BK101.out 1).trans rfl
            have hcz17_2 : w3.cell? ⟨gb101, 2, none⟩ = some (.int .i64 a0_2) := (blk_cell BK101.out 2).trans rfl
            have hcz17_3 : w3.cell? ⟨gb101, 3, none⟩ = some (.slice A0_3 l0_3.length c0_3) := (blk_cell BK101.out 3).trans rfl
            have hfz17_0 := blk_frozen BK101.out 0
            have hfz17_1 := blk_frozen BK101.out 1
            have hfz17_2 := blk_frozen BK101.out 2
            have hfz17_3 := blk_frozen BK101.out 3
            go_wp2_with (first | ((with_reducible refine gate_callee (f := 133) rfl ?_); refine gl_ (some 6) Try.func133 #[.string a0_0] ?_; (with_reducible refine (spec_NameRight.calls k a0_0 true _ A4.out).mono ?_); rintro e w' ⟨rfl, ⟨nd, rfl⟩⟩; refine ⟨_, rfl, ?_⟩))
            go_meet
            case rel => exact ⟨_, (true), (by first | rfl | (simp; done) | (simp [*]; done)), H', ⟨by first | omega | exact Nat.le_refl _⟩, ⟨bk_ BK101.out⟩, ⟨bel_⟩⟩
          · rw [if_neg c16] at H
            have c16b0 : decide (a0_2 < 0) = false := decide_eq_false c16
            clear c16
            have H' := AM H
            clear H
            have hcz18_0 : w3.cell? ⟨gb101, 0, none⟩ = some (.string a0_0) := (blk_cell BK101.out 0).trans rfl
            have hcz18_1 : w3.cell? ⟨gb101, 1, none⟩ = some (.bool false) := (blk_cell BK101.out 1).trans rfl
            have hcz18_2 : w3.cell? ⟨gb101, 2, none⟩ = some (.int .i64 a0_2) := (blk_cell BK101.out 2).trans rfl
            have hcz18_3 : w3.cell? ⟨gb101, 3, none⟩ = some (.slice A0_3 l0_3.length c0_3) := (blk_cell BK101.out 3).trans rfl
            have hfz18_0 := blk_frozen BK101.out 0
            have hfz18_1 := blk_frozen BK101.out 1
            have hfz18_2 := blk_frozen BK101.out 2
            have hfz18_3 := blk_frozen BK101.out 3
            go_wp2_with (first | ((with_reducible refine gate_callee (f := 133) rfl ?_); refine gl_ (some 6) Try.func133 #[.string a0_0] ?_; (with_reducible refine (spec_NameRight.calls k a0_0 true _ A4.out).mono ?_); rintro e w' ⟨rfl, ⟨nd, rfl⟩⟩; refine ⟨_, rfl, ?_⟩))
            go_meet
            case rel => exact ⟨_, (decide (a0_2 > 1500)), (by first | rfl | (simp; done) | (simp [*]; done)), H', ⟨by first | omega | exact Nat.le_refl _⟩, ⟨bk_ BK101.out⟩, ⟨bel_⟩⟩
    · replace c5 := Bool.eq_false_iff.mpr c5
      subst c5
      rw [if_neg (show ¬ (false = true) by decide)] at H
      have H' := AM H
      clear H
      have hcz19_0 : w3.cell? ⟨gb101, 0, none⟩ = some (.string a0_0) := (blk_cell BK101.out 0).trans rfl
      have hcz19_1 : w3.cell? ⟨gb101, 1, none⟩ = some (.bool a0_1) := (blk_cell BK101.out 1).trans rfl
      have hcz19_2 : w3.cell? ⟨gb101, 2, none⟩ = some (.int .i64 a0_2) := (blk_cell BK101.out 2).trans rfl
      have hcz19_3 : w3.cell? ⟨gb101, 3, none⟩ = some (.slice A0_3 l0_3.length c0_3) := (blk_cell BK101.out 3).trans rfl
      have hfz19_0 := blk_frozen BK101.out 0
      have hfz19_1 := blk_frozen BK101.out 1
      have hfz19_2 := blk_frozen BK101.out 2
      have hfz19_3 := blk_frozen BK101.out 3
      go_wp2_with (first | ((with_reducible refine gate_callee (f := 133) rfl ?_); refine gl_ (some 6) Try.func133 #[.string a0_0] ?_; (with_reducible refine (spec_NameRight.calls k a0_0 false _ A4.out).mono ?_); rintro e w' ⟨rfl, ⟨nd, rfl⟩⟩; refine ⟨_, rfl, ?_⟩))
      go_meet
      case rel => exact ⟨_, (true), (by first | rfl | (simp; done) | (simp [*]; done)), H', ⟨by first | omega | exact Nat.le_refl _⟩, ⟨bk_ BK101.out⟩, ⟨bel_⟩⟩
  case rest =>
    clear HC2
    try clear c1
    try clear p2
    try clear c5
    try clear c6
    try clear c6b0
    try clear c6b1
    try clear c8
    try clear c9
    try clear c9b0
    try clear c9b1
    try clear c10
    try clear c10b0
    try clear c10b1
    try clear c11
    try clear c11b0
    try clear c13
    try clear c16
    try clear c16b0
    try clear hcz12_0
    try clear hcz12_1
    try clear hcz12_2
    try clear hcz12_3
    try clear hcz13_0
    try clear hcz13_1
    try clear hcz13_2
    try clear hcz13_3
    try clear hcz14_0
    try clear hcz14_1
    try clear hcz14_2
    try clear hcz14_3
    try clear hcz15_0
    try clear hcz15_1
    try clear hcz15_2
    try clear hcz15_3
    try clear hcz17_0
    try clear hcz17_1
    try clear hcz17_2
    try clear hcz17_3
    try clear hcz18_0
    try clear hcz18_1
    try clear hcz18_2
    try clear hcz18_3
    try clear hcz19_0
    try clear hcz19_1
    try clear hcz19_2
    try clear hcz19_3
    try clear hcz7_0
    try clear hcz7_1
    try clear hcz7_2
    try clear hcz7_3
    try clear hfz12_0
    try clear hfz12_1
    try clear hfz12_2
    try clear hfz12_3
    try clear hfz13_0
    try clear hfz13_1
    try clear hfz13_2
    try clear hfz13_3
    try clear hfz14_0
    try clear hfz14_1
    try clear hfz14_2
    try clear hfz14_3
    try clear hfz15_0
    try clear hfz15_1
    try clear hfz15_2
    try clear hfz15_3
    try clear hfz17_0
    try clear hfz17_1
    try clear hfz17_2
    try clear hfz17_3
    try clear hfz18_0
    try clear hfz18_1
    try clear hfz18_2
    try clear hfz18_3
    try clear hfz19_0
    try clear hfz19_1
    try clear hfz19_2
    try clear hfz19_3
    try clear hfz7_0
    try clear hfz7_1
    try clear hfz7_2
    try clear hfz7_3
    obtain ⟨kq, x38_1, rfl, HA, HJ1, BK101, HB⟩ := hcut
    cases kq with
    | zero => exact absurd HA.out (by simp [spec_l11NodeRight.j0])
    | succ kj1 =>
      have H := HA.out
      clear HA
      simp only [spec_l11NodeRight.j0] at H
      by_cases c20 : x38_1 = true
      · subst c20
        rw [if_pos rfl] at H
        obtain rfl := Option.some.inj H
        go_wp2
        go_ret
        exact ⟨ri_, bel_⟩
      · replace c20 := Bool.eq_false_iff.mpr c20
        subst c20
        rw [if_neg (show ¬ (false = true) by decide)] at H
        have H' := AM H
        clear H
        go_wp2
        go_loopg [3] kj1 (fun kq v3 w' => ∃ (x3_2 : Int), v3 = .int .i64 x3_2 ∧ Aside0 (spec_l11NodeRight.l0 kq x3_2 a0_0 a0_1 a0_2 l0_3 = some r) ∧ Aside0 (kq ≤ kj1) ∧ Aside0 (w'.heap[gb101]? = some (.cells #[.string a0_0, .bool a0_1, .int .i64 a0_2, (.slice A0_3 l0_3.length c0_3)] 74 (0, 0))) ∧ Aside0 (Below w.heap.size w w'))
        case atStart => exact ⟨(0), (by first | rfl | (simp; done) | (simp [*]; done)), H', ⟨Nat.le_refl _⟩, ⟨bk_ BK101.out⟩, ⟨bel_⟩⟩
        case round =>
          clear H'
          try clear c1
          try clear c2
          try clear p2
          try clear c5
          try clear c6
          try clear c6b0
          try clear c6b1
          try clear c8
          try clear c9
          try clear c9b0
          try clear c9b1
          try clear c10
          try clear c10b0
          try clear c10b1
          try clear c11
          try clear c11b0
          try clear c13
          try clear c16
          try clear c16b0
          try clear c20
          try clear hcz12_0
          try clear hcz12_1
          try clear hcz12_2
          try clear hcz12_3
          try clear hcz13_0
          try clear hcz13_1
          try clear hcz13_2
          try clear hcz13_3
          try clear hcz14_0
          try clear hcz14_1
          try clear hcz14_2
          try clear hcz14_3
          try clear hcz15_0
          try clear hcz15_1
          try clear hcz15_2
          try clear hcz15_3
          try clear hcz17_0
          try clear hcz17_1
          try clear hcz17_2
          try clear hcz17_3
          try clear hcz18_0
          try clear hcz18_1
          try clear hcz18_2
          try clear hcz18_3
          try clear hcz19_0
          try clear hcz19_1
          try clear hcz19_2
          try clear hcz19_3
          try clear hcz7_0
          try clear hcz7_1
          try clear hcz7_2
          try clear hcz7_3
          try clear hfz12_0
          try clear hfz12_1
          try clear hfz12_2
          try clear hfz12_3
          try clear hfz13_0
          try clear hfz13_1
          try clear hfz13_2
          try clear hfz13_3
          try clear hfz14_0
          try clear hfz14_1
          try clear hfz14_2
          try clear hfz14_3
          try clear hfz15_0
          try clear hfz15_1
          try clear hfz15_2
          try clear hfz15_3
          try clear hfz17_0
          try clear hfz17_1
          try clear hfz17_2
          try clear hfz17_3
          try clear hfz18_0
          try clear hfz18_1
          try clear hfz18_2
          try clear hfz18_3
          try clear hfz19_0
          try clear hfz19_1
          try clear hfz19_2
          try clear hfz19_3
          try clear hfz7_0
          try clear hfz7_1
          try clear hfz7_2
          try clear hfz7_3
          try clear p2
          obtain ⟨x3_2, rfl, HA, HK2, BK101, HB⟩ := hrel
          cases gk with
          | zero => exact absurd HA.out (by simp [spec_l11NodeRight.l0])
          | succ k2 =>
            have H := HA.out
            clear HA
            simp only [spec_l11NodeRight.l0] at H
            by_cases c21 : x3_2 < (l0_3.length : Int)
            · rw [if_pos c21] at H
              have c21b0 : decide (x3_2 < (l0_3.length : Int)) = true := decide_eq_true c21
              clear c21
              by_cases c22 : 0 ≤ x3_2
              · rw [if_pos c22] at H
                have c22b0 : decide (0 ≤ x3_2) = true := decide_eq_true c22
                clear c22
                by_cases c23 : ((rdOf ByteArray.empty l0_3 x3_2).size : Int) = 32
                · rw [if_pos c23] at H
                  have c23b0 : (((rdOf ByteArray.empty l0_3 x3_2).size : Int) == 32) = true := beq_iff_eq.mpr c23
                  have c23b1 : (((rdOf ByteArray.empty l0_3 x3_2).size : Int) != 32) = false := bne_eq_false_iff_eq.mpr c23
                  clear c23
                  have H' := AM H
                  clear H
                  have hcz24_0 : wr.cell? ⟨gb101, 0, none⟩ = some (.string a0_0) := (blk_cell BK101.out 0).trans rfl
                  have hcz24_1 : wr.cell? ⟨gb101, 1, none⟩ = some (.bool a0_1) := (blk_cell BK101.out 1).trans rfl
                  have hcz24_2 : wr.cell? ⟨gb101, 2, none⟩ = some (.int .i64 a0_2) := (blk_cell BK101.out 2).trans rfl
                  have hcz24_3 : wr.cell? ⟨gb101, 3, none⟩ = some (.slice A0_3 l0_3.length c0_3) := (blk_cell BK101.out 3).trans rfl
                  have hfz24_0 := blk_frozen BK101.out 0
                  have hfz24_1 := blk_frozen BK101.out 1
                  have hfz24_2 := blk_frozen BK101.out 2
                  have hfz24_3 := blk_frozen BK101.out 3
                  have p103 : 0 ≤ (x3_2 : Int) := of_decide_eq_true (by first | (with_reducible assumption) | assumption)
                  have q103 : x3_2 < (l0_3.length : Int) := of_decide_eq_true (by first | (with_reducible assumption) | assumption)
                  obtain ⟨ad103, e103, hx103_0⟩ := Kd.at_string HR0_3.out x3_2 p103 q103
                  cases e103
                  replace hx103_0 := (HB.out.cell (World.block_lt_of_cell? w _ hx103_0)).trans hx103_0
                  replace p103 := eq_true p103
                  replace q103 := eq_true q103
                  go_wp2
                  go_roundg k2
                  case measure => have := HJ1.out; have := HK2.out; omega
                  case rel => exact ⟨(wrap64 (x3_2 + 1)), (by first | rfl | (simp; done) | (simp [*]; done)), H', ⟨by have := HJ1.out; have := HK2.out; omega⟩, ⟨bk_ BK101.out⟩, ⟨bel_⟩⟩
                · rw [if_neg c23] at H
                  have c23b0 : (((rdOf ByteArray.empty l0_3 x3_2).size : Int) == 32) = false := beq_eq_false_iff_ne.mpr c23
                  have c23b1 : (((rdOf ByteArray.empty l0_3 x3_2).size : Int) != 32) = true := bne_iff_ne.mpr c23
                  obtain rfl := Option.some.inj H
                  have hcz25_0 : wr.cell? ⟨gb101, 0, none⟩ = some (.string a0_0) := (blk_cell BK101.out 0).trans rfl
                  have hcz25_1 : wr.cell? ⟨gb101, 1, none⟩ = some (.bool a0_1) := (blk_cell BK101.out 1).trans rfl
                  have hcz25_2 : wr.cell? ⟨gb101, 2, none⟩ = some (.int .i64 a0_2) := (blk_cell BK101.out 2).trans rfl
                  have hcz25_3 : wr.cell? ⟨gb101, 3, none⟩ = some (.slice A0_3 l0_3.length c0_3) := (blk_cell BK101.out 3).trans rfl
                  have hfz25_0 := blk_frozen BK101.out 0
                  have hfz25_1 := blk_frozen BK101.out 1
                  have hfz25_2 := blk_frozen BK101.out 2
                  have hfz25_3 := blk_frozen BK101.out 3
                  have p103 : 0 ≤ (x3_2 : Int) := of_decide_eq_true (by first | (with_reducible assumption) | assumption)
                  have q103 : x3_2 < (l0_3.length : Int) := of_decide_eq_true (by first | (with_reducible assumption) | assumption)
                  obtain ⟨ad103, e103, hx103_0⟩ := Kd.at_string HR0_3.out x3_2 p103 q103
                  cases e103
                  replace hx103_0 := (HB.out.cell (World.block_lt_of_cell? w _ hx103_0)).trans hx103_0
                  replace p103 := eq_true p103
                  replace q103 := eq_true q103
                  go_wp2
                  go_ret
                  exact ⟨ri_, bel_⟩
              · rw [if_neg c22] at H
                exact absurd H (by simp)
            · rw [if_neg c21] at H
              have c21b0 : decide (x3_2 < (l0_3.length : Int)) = false := decide_eq_false c21
              clear c21
              obtain rfl := Option.some.inj H
              have hcz26_0 : wr.cell? ⟨gb101, 0, none⟩ = some (.string a0_0) := (blk_cell BK101.out 0).trans rfl
              have hcz26_1 : wr.cell? ⟨gb101, 1, none⟩ = some (.bool a0_1) := (blk_cell BK101.out 1).trans rfl
              have hcz26_2 : wr.cell? ⟨gb101, 2, none⟩ = some (.int .i64 a0_2) := (blk_cell BK101.out 2).trans rfl
              have hcz26_3 : wr.cell? ⟨gb101, 3, none⟩ = some (.slice A0_3 l0_3.length c0_3) := (blk_cell BK101.out 3).trans rfl
              have hfz26_0 := blk_frozen BK101.out 0
              have hfz26_1 := blk_frozen BK101.out 1
              have hfz26_2 := blk_frozen BK101.out 2
              have hfz26_3 := blk_frozen BK101.out 3
              go_wp2
              go_ret
              exact ⟨ri_, bel_⟩

end Go.Proofs.Ytggbpjfgfenpdaa.PFnExactNodesRead
