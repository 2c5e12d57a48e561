/- Functions of the law FnExactNodesRead: the print's, with walks of this session's own. No statement is proved here. -/
import Derived.WalkLawsBesides
import Derived.Test.YtggbpjfgfenpdaaVRegFnExactNodesRead
-- A program of this session wrote this text: a changed copy of the kit print, with given functions.
import Derived.Test.YtggbpjfgfenpdaaPFnExactNodesReadx0
import Derived.Test.YtggbpjfgfenpdaaPFnExactNodesReadx4
namespace Go.Proofs.Ytggbpjfgfenpdaa.PFnExactNodesRead
open Go.RowKit Go.Proofs.YtggbpjfgfenpdaaW.PrintWords Go.Proofs.YtggbpjfgfenpdaaW.PrintLast Go.Proofs.YtggbpjfgfenpdaaW.PrintMore Go.Proofs.Ytggbpjfgfenpdaa.Reg Go.Proofs.Ytggbpjfgfenpdaa.Aut
attribute [local go_sem] max2_int min2_int max_two min_two max_three min_three max_four min_four   -- for this text's walks alone
set_option linter.unusedVariables false
set_option linter.unusedSimpArgs false

/-! ### spec_GetText: function 140 -/
def spec_GetText.j0 : Nat → ByteArray → Bool → Int → Int → Int → Option (ByteArray × Int × Int)
  | 0, _, _, _, _, _ => none
  | k + 1, x0, x22, x118000, x118001, x118002 => if x22 = true then (some ((⟨#[]⟩ : ByteArray), 0, 3)) else (if x118001 > (wrap64 ((x0.size : Int) - x118000)) then (some ((⟨#[]⟩ : ByteArray), 0, 4)) else (if 0 ≤ x118001 then (if x118001 ≤ (wrap64 (x118001 + x118000)) then (if (wrap64 (x118001 + x118000)) ≤ (x0.size : Int) then (some (x0.extract (x118001 : Int).toNat ((wrap64 (x118001 + x118000)) : Int).toNat, wrap64 (x118001 + x118000), 0)) else (none)) else (none)) else (none)))
def spec_GetText.f (k : Nat) (a0 : ByteArray) (a1 : Int) : Option (ByteArray × Int × Int) := (spec_GetNum.f k a0 a1).bind fun bt114 => (if bt114.2.2 = 0 then (if bt114.1 < 0 then (spec_GetText.j0 k a0 true bt114.1 bt114.2.1 bt114.2.2) else (spec_GetText.j0 k a0 (decide (bt114.1 > 20000)) bt114.1 bt114.2.1 bt114.2.2)) else (some ((⟨#[]⟩ : ByteArray), 0, bt114.2.2)))
theorem spec_GetText.mono_l : ∀ k, (∀ y0 y1 y2 y3 y4, LeO (spec_GetText.j0 k y0 y1 y2 y3 y4) (spec_GetText.j0 (k + 1) y0 y1 y2 y3 y4))
  | 0 => fun _ _ _ _ _ r h => by simp [spec_GetText.j0] at h
  | k + 1 => by
    have ih0 := spec_GetText.mono_l k
    · intro y0 y1 y2 y3 y4
      unfold spec_GetText.j0
      repeat' first
      | (with_reducible exact ih0 _ _ _ _ _)
      | (with_reducible exact spec_GetNum.mono _ _ _)
      | (with_reducible exact LeO.refl _)
      | (with_reducible exact LeO.none _)
      | (with_reducible refine LeO.ite ?_ ?_)
      | (with_reducible refine LeO.bind ?_ (fun _ => ?_))
      | exact ih0 _ _ _ _ _
      | exact spec_GetNum.mono _ _ _
      | exact LeO.none _
      | refine LeO.ite ?_ ?_
      | refine LeO.bind ?_ (fun _ => ?_)
theorem spec_GetText.mono : ∀ a0 a1 k, LeO (spec_GetText.f k a0 a1) (spec_GetText.f (k + 1) a0 a1) := by
  intro a0 a1 k
  have ih0 := spec_GetText.mono_l k
  unfold spec_GetText.f
  repeat' first
      | (with_reducible exact ih0 _ _ _ _ _)
      | (with_reducible exact spec_GetNum.mono _ _ _)
      | (with_reducible exact LeO.refl _)
      | (with_reducible exact LeO.none _)
      | (with_reducible refine LeO.ite ?_ ?_)
      | (with_reducible refine LeO.bind ?_ (fun _ => ?_))
      | exact ih0 _ _ _ _ _
      | exact spec_GetNum.mono _ _ _
      | exact LeO.none _
      | refine LeO.ite ?_ ?_
      | refine LeO.bind ?_ (fun _ => ?_)
def spec_GetText.T8 : Bool × List (List Nat × List Nat) := (true, [([], []), ([], []), ([1], [1]), ([], []), ([3], [3]), ([], []), ([5], [5]), ([4, 6], [4, 6]), ([0, 2, 7], [0, 2, 7]), ([], []), ([9], [9]), ([], []), ([11], [11]), ([10, 12], [10, 12]), ([8, 13], [8, 13]), ([14, 0, 1, 2, 3, 4, 5, 6, 7, 8, 9, 10, 11, 12, 13, 14], [14])])
def spec_GetText.B8 : List Nat := [0, 0, 2, 0, 8, 0, 32, 120, 255, 0, 512, 0, 2048, 7680, 16383, 32767]
theorem spec_GetText.tab8 : rtab .any (opsOf Try.f140 8) = spec_GetText.T8 := by kernel_rfl
theorem spec_GetText.bits8 : waitsOk spec_GetText.T8.2 spec_GetText.B8 = true := by kernel_rfl
set_option maxHeartbeats 8000000 in
set_option maxRecDepth 100000 in
theorem spec_GetText.calls (k : Nat) (a0 : ByteArray) (a1 : Int) (r1 : ByteArray) (r2 : Int) (r3 : Int) (w : World) (h : spec_GetText.f k a0 a1 = some (r1, r2, r3)) :
    Calls Try.prog 140 #[.string a0, .int .i64 a1] w fun e w' => e = .returned (.agg #[.string r1, .int .i64 r2, .int .i64 r3]) ∧ Below w.heap.size w w' := by
  have hu160 := Try.underlying160
  have hu157 := Try.underlying157
  have HB := AM (Below.refl w.heap.size w)
  have H : ((spec_GetNum.f k a0 a1).bind fun bt114 => (if bt114.2.2 = 0 then (if bt114.1 < 0 then (spec_GetText.j0 k a0 true bt114.1 bt114.2.1 bt114.2.2) else (spec_GetText.j0 k a0 (decide (bt114.1 > 20000)) bt114.1 bt114.2.1 bt114.2.2)) else (some ((⟨#[]⟩ : ByteArray), 0, bt114.2.2)))) = some (r1, r2, r3) := h
  clear h
  obtain ⟨⟨t114, t115, t116⟩, A3, H⟩ := OB H
  try dsimp only at H
  replace A3 := AM A3
  by_cases c4 : t116 = 0
  · rw [if_pos c4] at H
    have c4b0 : (t116 == 0) = true := beq_iff_eq.mpr c4
    have c4b1 : (t116 != 0) = false := bne_eq_false_iff_eq.mpr c4
    clear c4
    have HC5 := AM H
    clear H
    go_enter Try.func140, Try.ntmps140
    go_upto_region 4 with (first | ((with_reducible refine gate_dst (N := 4) rfl ?_); refine be_ 4 #[.string (⟨#[]⟩ : ByteArray), .int .i64 0, .int .i64 0] 160 ?_; intro gb113 hg w6 hbox hb; have BK113 := AM hbox; have GW113 := AM ((by rw [hg]; exact (below_size bel_) : w.heap.size ≤ gb113)); have GE113 := AM ((by rw [hg]; exact (below_size bel_) : w.heap.size ≤ gb113)); replace HB := AM (below_step bel_ hb); clear hb hbox hg) | ((with_reducible refine gate_callee (f := 139) rfl ?_); refine gl_ (some 8) Try.func139 #[.string a0, .int .i64 a1] ?_; (with_reducible refine (spec_GetNum.calls k a0 a1 t114 t115 t116 _ A3.out).mono ?_); rintro e w7 ⟨rfl, hb⟩; refine ⟨_, rfl, ?_⟩; replace BK113 := AM (blk_below (g := gb113) (o := .cells #[.string (⟨#[]⟩ : ByteArray), .int .i64 0, .int .i64 0] 160 (0, 0)) (bk_ BK113.out) hb); replace HB := AM (below_step bel_ hb); (try clear hb); (try clear hb2); (try clear hk); (try clear hi)) | ((with_reducible refine gate_dst (N := 5) rfl ?_); refine be_ 5 #[.int .i64 0, .int .i64 0, .int .i64 0] 157 ?_; intro gb117 hg w8 hbox hb; have BK117 := AM hbox; have GW117 := AM ((by rw [hg]; exact (below_size bel_) : w.heap.size ≤ gb117)); have GE117 := AM ((by rw [hg]; exact (below_size bel_) : w.heap.size ≤ gb117)); replace HB := AM (below_step bel_ hb); have NB113_117 := AM ((by rw [hg]; exact Nat.ne_of_lt (blk_lt (g := gb113) (o := .cells #[.string (⟨#[]⟩ : ByteArray), .int .i64 0, .int .i64 0] 160 (0, 0)) (bk_ BK113.out)) : gb113 ≠ gb117)); have NB117_113 := AM ((by rw [hg]; exact Nat.ne_of_gt (blk_lt (g := gb113) (o := .cells #[.string (⟨#[]⟩ : ByteArray), .int .i64 0, .int .i64 0] 160 (0, 0)) (bk_ BK113.out)) : gb117 ≠ gb113)); replace BK113 := AM (blk_below (g := gb113) (o := .cells #[.string (⟨#[]⟩ : ByteArray), .int .i64 0, .int .i64 0] 160 (0, 0)) (bk_ BK113.out) hb); clear hb hbox hg; have hnb9 := NB117_113.out; have hnc9 := NB113_117.out; have hcz10_0 : w8.cell? ⟨gb117, 0, none⟩ = some (.int .i64 0) := (blk_cell BK117.out 0).trans rfl; have hcz10_1 : w8.cell? ⟨gb117, 1, none⟩ = some (.int .i64 0) := (blk_cell BK117.out 1).trans rfl; have hcz10_2 : w8.cell? ⟨gb117, 2, none⟩ = some (.int .i64 0) := (blk_cell BK117.out 2).trans rfl; have hfz10_0 := blk_frozen BK117.out 0; have hfz10_1 := blk_frozen BK117.out 1; have hfz10_2 := blk_frozen BK117.out 2))
    (try simp only [Act.put, List.setIfInBounds_toArray, List.set_cons_zero, List.set_cons_succ])
    go_cut [22] (fun v22 wc => ∃ (kq : Nat) (x22_4 : Bool), v22 = .bool x22_4 ∧ Aside0 (spec_GetText.j0 kq a0 x22_4 t114 t115 t116 = some (r1, r2, r3)) ∧ Aside0 (kq ≤ k) ∧ Aside0 (wc.heap[gb113]? = some (.cells #[.string (⟨#[]⟩ : ByteArray), .int .i64 0, .int .i64 0] 160 (0, 0))) ∧ Aside0 (wc.heap[gb117]? = some (.cells #[.int .i64 t114, .int .i64 t115, .int .i64 t116] 157 (0, 0))) ∧ Aside0 (Below w.heap.size w wc))
    case first =>
      have H := HC5.out
      clear HC5
      by_cases c11 : t114 < 0
      · rw [if_pos c11] at H
        have c11b0 : decide (t114 < 0) = true := decide_eq_true c11
        clear c11
        (first | rw [c11b0] | (simp only [i64_w, i32_w]; rw [c11b0]) | skip)
        have H' := AM H
        clear H
        have hnb12 := NB117_113.out
        have hnc12 := NB113_117.out
        have hcz13_0 : w8.cell? ⟨gb117, 0, none⟩ = some (.int .i64 0) := (blk_cell BK117.out 0).trans rfl
        have hcz13_1 : w8.cell? ⟨gb117, 1, none⟩ = some (.int .i64 0) := (blk_cell BK117.out 1).trans rfl
        have hcz13_2 : w8.cell? ⟨gb117, 2, none⟩ = some (.int .i64 0) := (blk_cell BK117.out 2).trans rfl
        have hfz13_0 := blk_frozen BK117.out 0
        have hfz13_1 := blk_frozen BK117.out 1
        have hfz13_2 := blk_frozen BK117.out 2
        go_wp2
        go_meet
        case rel => exact ⟨_, (true), (by first | rfl | (simp; done) | (simp [*]; done)), H', ⟨by first | omega | exact Nat.le_refl _⟩, ⟨bka_⟩, ⟨bka_⟩, ⟨bel_⟩⟩
      · rw [if_neg c11] at H
        have c11b0 : decide (t114 < 0) = false := decide_eq_false c11
        clear c11
        (first | rw [c11b0] | (simp only [i64_w, i32_w]; rw [c11b0]) | skip)
        have H' := AM H
        clear H
        have hnb14 := NB117_113.out
        have hnc14 := NB113_117.out
        have hcz15_0 : w8.cell? ⟨gb117, 0, none⟩ = some (.int .i64 0) := (blk_cell BK117.out 0).trans rfl
        have hcz15_1 : w8.cell? ⟨gb117, 1, none⟩ = some (.int .i64 0) := (blk_cell BK117.out 1).trans rfl
        have hcz15_2 : w8.cell? ⟨gb117, 2, none⟩ = some (.int .i64 0) := (blk_cell BK117.out 2).trans rfl
        have hfz15_0 := blk_frozen BK117.out 0
        have hfz15_1 := blk_frozen BK117.out 1
        have hfz15_2 := blk_frozen BK117.out 2
        go_wp2
        go_meet
        case rel => exact ⟨_, (decide (t114 > 20000)), (by first | rfl | (simp; done) | (simp [*]; done)), H', ⟨by first | omega | exact Nat.le_refl _⟩, ⟨bka_⟩, ⟨bka_⟩, ⟨bel_⟩⟩
    case rest =>
      clear HC5
      try clear c1
      try clear p2
      try clear c4
      try clear c4b0
      try clear c4b1
      try clear c9
      try clear c11
      try clear c11b0
      try clear c12
      try clear c13
      try clear c14
      try clear hcz10_0
      try clear hcz10_1
      try clear hcz10_2
      try clear hcz13_0
      try clear hcz13_1
      try clear hcz13_2
      try clear hcz15_0
      try clear hcz15_1
      try clear hcz15_2
      try clear hfz10_0
      try clear hfz10_1
      try clear hfz10_2
      try clear hfz13_0
      try clear hfz13_1
      try clear hfz13_2
      try clear hfz15_0
      try clear hfz15_1
      try clear hfz15_2
      obtain ⟨kq, x22_4, rfl, HA, HJ4, BK113, BK117, HB⟩ := hcut
      cases kq with
      | zero => exact absurd HA.out (by simp [spec_GetText.j0])
      | succ kj4 =>
        have H := HA.out
        clear HA
        simp only [spec_GetText.j0] at H
        by_cases c16 : x22_4 = true
        · subst c16
          rw [if_pos rfl] at H
          simp only [Option.some.injEq, Prod.mk.injEq] at H
          obtain ⟨rfl, rfl, rfl⟩ := H
          have hnb17 := NB113_117.out
          have hnc17 := NB117_113.out
          have hcz18_0 : wc.cell? ⟨gb113, 0, none⟩ = some (.string (⟨#[]⟩ : ByteArray)) := (blk_cell BK113.out 0).trans rfl
          have hcz18_1 : wc.cell? ⟨gb113, 1, none⟩ = some (.int .i64 0) := (blk_cell BK113.out 1).trans rfl
          have hcz18_2 : wc.cell? ⟨gb113, 2, none⟩ = some (.int .i64 0) := (blk_cell BK113.out 2).trans rfl
          have hfz18_0 := blk_frozen BK113.out 0
          have hfz18_1 := blk_frozen BK113.out 1
          have hfz18_2 := blk_frozen BK113.out 2
          go_wp2
          refine bodyPost_ret (results_cell_row rfl _ _ gb113 160 #[.string (⟨#[]⟩ : ByteArray), .int .i64 0, .int .i64 3] (0, 0) _ rfl bka_ Try.underlying160 rfl (by kernel_rfl)) rfl ?_
          exact ⟨ri_, bel_⟩
        · replace c16 := Bool.eq_false_iff.mpr c16
          subst c16
          rw [if_neg (show ¬ (false = true) by decide)] at H
          by_cases c19 : t115 > (wrap64 ((a0.size : Int) - t114))
          · rw [if_pos c19] at H
            have c19b0 : decide ((wrap64 ((a0.size : Int) - t114)) < t115) = true := decide_eq_true c19
            try have c19b9 : (decide ((((a0.size : Int) - t114)) < t115)) = true := (by have hw0 : wrap64 ((a0.size : Int) - t114) = (a0.size : Int) - t114 := (by unfold wrap64; omega); have z_ := c19b0; simp only [hw0] at z_; exact z_)
            clear c19
            simp only [Option.some.injEq, Prod.mk.injEq] at H
            obtain ⟨rfl, rfl, rfl⟩ := H
            have hnb20 := NB117_113.out
            have hnc20 := NB113_117.out
            have hcz21_0 : wc.cell? ⟨gb117, 0, none⟩ = some (.int .i64 t114) := (blk_cell BK117.out 0).trans rfl
            have hcz21_1 : wc.cell? ⟨gb117, 1, none⟩ = some (.int .i64 t115) := (blk_cell BK117.out 1).trans rfl
            have hcz21_2 : wc.cell? ⟨gb117, 2, none⟩ = some (.int .i64 t116) := (blk_cell BK117.out 2).trans rfl
            have hfz21_0 := blk_frozen BK117.out 0
            have hfz21_1 := blk_frozen BK117.out 1
            have hfz21_2 := blk_frozen BK117.out 2
            have hcz22_0 : wc.cell? ⟨gb113, 0, none⟩ = some (.string (⟨#[]⟩ : ByteArray)) := (blk_cell BK113.out 0).trans rfl
            have hcz22_1 : wc.cell? ⟨gb113, 1, none⟩ = some (.int .i64 0) := (blk_cell BK113.out 1).trans rfl
            have hcz22_2 : wc.cell? ⟨gb113, 2, none⟩ = some (.int .i64 0) := (blk_cell BK113.out 2).trans rfl
            have hfz22_0 := blk_frozen BK113.out 0
            have hfz22_1 := blk_frozen BK113.out 1
            have hfz22_2 := blk_frozen BK113.out 2
            go_wp2
            refine bodyPost_ret (results_cell_row rfl _ _ gb113 160 #[.string (⟨#[]⟩ : ByteArray), .int .i64 0, .int .i64 4] (0, 0) _ rfl bka_ Try.underlying160 rfl (by kernel_rfl)) rfl ?_
            exact ⟨ri_, bel_⟩
          · rw [if_neg c19] at H
            have c19b0 : decide ((wrap64 ((a0.size : Int) - t114)) < t115) = false := decide_eq_false c19
            try have c19b9 : (decide ((((a0.size : Int) - t114)) < t115)) = false := (by have hw0 : wrap64 ((a0.size : Int) - t114) = (a0.size : Int) - t114 := (by unfold wrap64; omega); have z_ := c19b0; simp only [hw0] at z_; exact z_)
            clear c19
            by_cases c23 : 0 ≤ t115
            · rw [if_pos c23] at H
              have c23b0 := eq_true c23
              have c23b1 : decide (0 ≤ t115) = true := decide_eq_true c23
              clear c23
              by_cases c24 : t115 ≤ (wrap64 (t115 + t114))
              · rw [if_pos c24] at H
                have c24b0 := eq_true c24
                have c24b1 : decide (t115 ≤ (wrap64 (t115 + t114))) = true := decide_eq_true c24
                by_cases c25 : (wrap64 (t115 + t114)) ≤ (a0.size : Int)
                · rw [if_pos c25] at H
                  have c25b0 := eq_true c25
                  have c25b1 : decide ((wrap64 (t115 + t114)) ≤ (a0.size : Int)) = true := decide_eq_true c25
                  simp only [Option.some.injEq, Prod.mk.injEq] at H
                  obtain ⟨rfl, rfl, rfl⟩ := H
                  have hnb26 := NB117_113.out
                  have hnc26 := NB113_117.out
                  have hcz27_0 : wc.cell? ⟨gb117, 0, none⟩ = some (.int .i64 t114) := (blk_cell BK117.out 0).trans rfl
                  have hcz27_1 : wc.cell? ⟨gb117, 1, none⟩ = some (.int .i64 t115) := (blk_cell BK117.out 1).trans rfl
                  have hcz27_2 : wc.cell? ⟨gb117, 2, none⟩ = some (.int .i64 t116) := (blk_cell BK117.out 2).trans rfl
                  have hfz27_0 := blk_frozen BK117.out 0
                  have hfz27_1 := blk_frozen BK117.out 1
                  have hfz27_2 := blk_frozen BK117.out 2
                  try go_wp2
                  replace BK113 := AM (blk_drew BK113.out)
                  replace BK117 := AM (blk_drew BK117.out)
                  replace HB := AM (below_drew1 HB.out)
                  refine start_ (n := 16) (S := fun w' => w'.cell? ⟨gb117, 0, none⟩ = some (.int .i64 t114) ∧ w'.cell? ⟨gb117, 1, none⟩ = some (.int .i64 t115) ∧ w'.cell? ⟨gb117, 2, none⟩ = some (.int .i64 t116)) (ds := []) #[false, false, false, false, false, false, false, false, false, false, false, false, false, false, false, false] (by kernel_rfl) rfl rfl ⟨(blk_cell BK117.out 0).trans rfl, (blk_cell BK117.out 1).trans rfl, (blk_cell BK117.out 2).trans rfl⟩ (fun hHeld => ?_); refine with_tabW spec_GetText.tab8 spec_GetText.bits8 (fun HT_ HW_ => ?_)
                  generalize wc.drew = w28 at BK113 BK117 HB hHeld ⊢
                  refine pu_ HT_ 0 (some 33) #[true, false, false, false, false, false, false, false, false, false, false, false, false, false, false, false] ?_
                  refine pu_ HT_ 1 (some 34) #[true, true, false, false, false, false, false, false, false, false, false, false, false, false, false, false] ?_
                  refine pu_ HT_ 3 (some 36) #[true, true, false, true, false, false, false, false, false, false, false, false, false, false, false, false] ?_
                  refine pu_ HT_ 5 (some 38) #[true, true, false, true, false, true, false, false, false, false, false, false, false, false, false, false] ?_
                  refine pu_ HT_ 9 (some 42) #[true, true, false, true, false, true, false, false, false, true, false, false, false, false, false, false] ?_
                  refine pu_ HT_ 11 (some 44) #[true, true, false, true, false, true, false, false, false, true, false, true, false, false, false, false] ?_
                  refine ta_ HT_ HW_ 2 (some 35) #[true, true, true, true, false, true, false, false, false, true, false, true, false, false, false, false] hHeld ?_
                  refine ta_ HT_ HW_ 4 (some 37) #[true, true, true, true, true, true, false, false, false, true, false, true, false, false, false, false] hHeld ?_
                  refine ta_ HT_ HW_ 6 (some 39) #[true, true, true, true, true, true, true, false, false, true, false, true, false, false, false, false] hHeld ?_
                  refine pu_ HT_ 7 (some 40) #[true, true, true, true, true, true, true, true, false, true, false, true, false, false, false, false] ?_
                  refine pu_ HT_ 8 (some 41) #[true, true, true, true, true, true, true, true, true, true, false, true, false, false, false, false] ?_
                  refine ta_ HT_ HW_ 10 (some 43) #[true, true, true, true, true, true, true, true, true, true, true, true, false, false, false, false] hHeld ?_
                  refine ta_ HT_ HW_ 12 (some 45) #[true, true, true, true, true, true, true, true, true, true, true, true, true, false, false, false] hHeld ?_
                  refine pu_ HT_ 13 (some 46) #[true, true, true, true, true, true, true, true, true, true, true, true, true, true, false, false] ?_
                  refine pu_ HT_ 14 (some 47) #[true, true, true, true, true, true, true, true, true, true, true, true, true, true, true, false] ?_
                  refine on_ HT_ 15 none #[true, true, true, true, true, true, true, true, true, true, true, true, true, true, true, true] (fun K hK => ?_)
                  have hs29 : w28.cell? ⟨gb113, 0, none⟩ = some (.string (⟨#[]⟩ : ByteArray)) := (blk_cell BK113.out 0).trans rfl
                  have hfs29 := blk_frozen BK113.out 0
                  have hns29_1 := NB117_113.out
                  have hms29_1 := NB113_117.out
                  have hs30 : w28.cell? ⟨gb113, 1, none⟩ = some (.int .i64 0) := (blk_cell BK113.out 1).trans rfl
                  have hfs30 := blk_frozen BK113.out 1
                  have hns30_1 := NB117_113.out
                  have hms30_1 := NB113_117.out
                  have hs31 : w28.cell? ⟨gb113, 2, none⟩ = some (.int .i64 0) := (blk_cell BK113.out 2).trans rfl
                  have hfs31 := blk_frozen BK113.out 2
                  have hns31_1 := NB117_113.out
                  have hms31_1 := NB113_117.out
                  refine sk_ ?_
                  refine hK.out _ _ ⟨(by (rw [cell_far, cell_far, cell_far]) <;> first | exact hHeld.1 | exact NB117_113.out), (by (rw [cell_far, cell_far, cell_far]) <;> first | exact hHeld.2.1 | exact NB117_113.out), (by (rw [cell_far, cell_far, cell_far]) <;> first | exact hHeld.2.2 | exact NB117_113.out)⟩ (fun hHeld => ?_)
                  clear hK K
                  refine dn_ HT_ ?_
                  try go_wp2
                  refine bodyPost_ret (results_cell_row rfl _ _ gb113 160 #[.string (a0.extract (t115 : Int).toNat ((wrap64 (t115 + t114)) : Int).toNat), .int .i64 (wrap64 (t115 + t114)), .int .i64 0] (0, 0) _ rfl bka_ Try.underlying160 rfl (by kernel_rfl)) rfl ?_
                  exact ⟨ri_, bel_⟩
                · rw [if_neg c25] at H
                  exact absurd H (by simp)
              · rw [if_neg c24] at H
                exact absurd H (by simp)
            · rw [if_neg c23] at H
              exact absurd H (by simp)
  · rw [if_neg c4] at H
    have c4b0 : (t116 == 0) = false := beq_eq_false_iff_ne.mpr c4
    have c4b1 : (t116 != 0) = true := bne_iff_ne.mpr c4
    simp only [Option.some.injEq, Prod.mk.injEq] at H
    obtain ⟨rfl, rfl, rfl⟩ := H
    go_enter Try.func140, Try.ntmps140
    go_wp2_with (first | ((with_reducible refine gate_dst (N := 4) rfl ?_); refine be_ 4 #[.string (⟨#[]⟩ : ByteArray), .int .i64 0, .int .i64 0] 160 ?_; intro gb113 hg w32 hbox hb; have BK113 := AM hbox; have GW113 := AM ((by rw [hg]; exact (below_size bel_) : w.heap.size ≤ gb113)); have GE113 := AM ((by rw [hg]; exact (below_size bel_) : w.heap.size ≤ gb113)); replace HB := AM (below_step bel_ hb); clear hb hbox hg) | ((with_reducible refine gate_callee (f := 139) rfl ?_); refine gl_ (some 8) Try.func139 #[.string a0, .int .i64 a1] ?_; (with_reducible refine (spec_GetNum.calls k a0 a1 t114 t115 t116 _ A3.out).mono ?_); rintro e w33 ⟨rfl, hb⟩; refine ⟨_, rfl, ?_⟩; replace BK113 := AM (blk_below (g := gb113) (o := .cells #[.string (⟨#[]⟩ : ByteArray), .int .i64 0, .int .i64 0] 160 (0, 0)) (bk_ BK113.out) hb); replace HB := AM (below_step bel_ hb); (try clear hb); (try clear hb2); (try clear hk); (try clear hi)) | ((with_reducible refine gate_dst (N := 5) rfl ?_); refine be_ 5 #[.int .i64 0, .int .i64 0, .int .i64 0] 157 ?_; intro gb117 hg w34 hbox hb; have BK117 := AM hbox; have GW117 := AM ((by rw [hg]; exact (below_size bel_) : w.heap.size ≤ gb117)); have GE117 := AM ((by rw [hg]; exact (below_size bel_) : w.heap.size ≤ gb117)); replace HB := AM (below_step bel_ hb); have NB113_117 := AM ((by rw [hg]; exact Nat.ne_of_lt (blk_lt (g := gb113) (o := .cells #[.string (⟨#[]⟩ : ByteArray), .int .i64 0, .int .i64 0] 160 (0, 0)) (bk_ BK113.out)) : gb113 ≠ gb117)); have NB117_113 := AM ((by rw [hg]; exact Nat.ne_of_gt (blk_lt (g := gb113) (o := .cells #[.string (⟨#[]⟩ : ByteArray), .int .i64 0, .int .i64 0] 160 (0, 0)) (bk_ BK113.out)) : gb117 ≠ gb113)); replace BK113 := AM (blk_below (g := gb113) (o := .cells #[.string (⟨#[]⟩ : ByteArray), .int .i64 0, .int .i64 0] 160 (0, 0)) (bk_ BK113.out) hb); clear hb hbox hg; have hnb35 := NB117_113.out; have hnc35 := NB113_117.out; have hcz36_0 : w34.cell? ⟨gb117, 0, none⟩ = some (.int .i64 0) := (blk_cell BK117.out 0).trans rfl; have hcz36_1 : w34.cell? ⟨gb117, 1, none⟩ = some (.int .i64 0) := (blk_cell BK117.out 1).trans rfl; have hcz36_2 : w34.cell? ⟨gb117, 2, none⟩ = some (.int .i64 0) := (blk_cell BK117.out 2).trans rfl; have hfz36_0 := blk_frozen BK117.out 0; have hfz36_1 := blk_frozen BK117.out 1; have hfz36_2 := blk_frozen BK117.out 2; have hcz37_0 : w34.cell? ⟨gb113, 0, none⟩ = some (.string (⟨#[]⟩ : ByteArray)) := (blk_cell BK113.out 0).trans rfl; have hcz37_1 : w34.cell? ⟨gb113, 1, none⟩ = some (.int .i64 0) := (blk_cell BK113.out 1).trans rfl; have hcz37_2 : w34.cell? ⟨gb113, 2, none⟩ = some (.int .i64 0) := (blk_cell BK113.out 2).trans rfl; have hfz37_0 := blk_frozen BK113.out 0; have hfz37_1 := blk_frozen BK113.out 1; have hfz37_2 := blk_frozen BK113.out 2))
    refine bodyPost_ret (results_cell_row rfl _ _ gb113 160 #[.string (⟨#[]⟩ : ByteArray), .int .i64 0, .int .i64 t116] (0, 0) _ rfl bka_ Try.underlying160 rfl (by kernel_rfl)) rfl ?_
    exact ⟨ri_, bel_⟩

end Go.Proofs.Ytggbpjfgfenpdaa.PFnExactNodesRead
