/- Functions of the law FnHash: the print's, with walks of this session's own. No statement is proved here. -/
import Derived.WalkLawsBesides
import Derived.Test.YtfffdndeccipnaaDoorVRegFnHash
-- A program of this session wrote this text: a changed copy of the kit print, with given functions.
import Derived.Test.YtfffdndeccipnaaDoorPFnHashx0
import Derived.Test.YtfffdndeccipnaaDoorPFnHashx3
namespace Go.Proofs.YtfffdndeccipnaaDoor.PFnHash
open Go.RowKit Go.Proofs.YtfffdndeccipnaaDoorW.PrintWords Go.Proofs.YtfffdndeccipnaaDoorW.PrintLast Go.Proofs.YtfffdndeccipnaaDoorW.PrintMore Go.Proofs.YtfffdndeccipnaaDoor.Reg Go.Proofs.YtfffdndeccipnaaDoor.Aut
attribute [local go_sem] max2_int min2_int max_two min_two max_three min_three max_four min_four   -- for this text's walks alone
set_option linter.unusedVariables false
set_option linter.unusedSimpArgs false

/-! ### spec_l05More: function 56 -/
def spec_l05More.l0 : Nat → Int → List Int → ByteArray → Int → Option (List Int × ByteArray × Int)
  | 0, _, _, _, _ => none
  | k + 1, x6, x148000, x148001, x148002 => if (wrap64 ((x148001.size : Int) - x6)) ≥ 64 then (if 0 ≤ x6 then (if x6 ≤ (wrap64 (x6 + 64)) then (if (wrap64 (x6 + 64)) ≤ (x148001.size : Int) then ((spec_l05Block.f x148000 (x148001.extract (x6 : Int).toNat ((wrap64 (x6 + 64)) : Int).toNat)).bind fun t148 => (spec_l05More.l0 k (wrap64 (x6 + 64)) t148 x148001 x148002)) else (none)) else (none)) else (none)) else (if 0 ≤ x6 then (if x6 ≤ (x148001.size : Int) then (some (x148000, x148001.extract (x6 : Int).toNat x148001.size, x148002)) else (none)) else (none))
def spec_l05More.f (k : Nat) (l0_0 : List Int) (a0_1 : ByteArray) (a0_2 : Int) (a1 : ByteArray) : Option (List Int × ByteArray × Int) := (some (([] : List Int) : List Int)).bind fun y141 => (if y141.length + l0_0.length < 17592186044416 then (if a0_1.size + a1.size ≤ 9223372036854775807 then (spec_l05More.l0 k 0 (y141 ++ l0_0) (a0_1 ++ a1) (wrap64 (a0_2 + (a1.size : Int)))) else (none)) else (none))
theorem spec_l05More.mono_l : ∀ k, (∀ y0 y1 y2 y3, LeO (spec_l05More.l0 k y0 y1 y2 y3) (spec_l05More.l0 (k + 1) y0 y1 y2 y3))
  | 0 => fun _ _ _ _ r h => by simp [spec_l05More.l0] at h
  | k + 1 => by
    have ih0 := spec_l05More.mono_l k
    · intro y0 y1 y2 y3
      unfold spec_l05More.l0
      repeat' first
      | (with_reducible exact ih0 _ _ _ _)
      | (with_reducible exact LeO.refl _)
      | (with_reducible exact LeO.none _)
      | (with_reducible refine LeO.ite ?_ ?_)
      | (with_reducible refine LeO.bind ?_ (fun _ => ?_))
      | exact ih0 _ _ _ _
      | exact LeO.none _
      | refine LeO.ite ?_ ?_
      | refine LeO.bind ?_ (fun _ => ?_)
theorem spec_l05More.mono : ∀ a0 a1 a2 a3 k, LeO (spec_l05More.f k a0 a1 a2 a3) (spec_l05More.f (k + 1) a0 a1 a2 a3) := by
  intro a0 a1 a2 a3 k
  have ih0 := spec_l05More.mono_l k
  unfold spec_l05More.f
  repeat' first
      | (with_reducible exact ih0 _ _ _ _)
      | (with_reducible exact LeO.refl _)
      | (with_reducible exact LeO.none _)
      | (with_reducible refine LeO.ite ?_ ?_)
      | (with_reducible refine LeO.bind ?_ (fun _ => ?_))
      | exact ih0 _ _ _ _
      | exact LeO.none _
      | refine LeO.ite ?_ ?_
      | refine LeO.bind ?_ (fun _ => ?_)
def spec_l05More.T1 : Bool × List (List Nat × List Nat) := (true, [([], []), ([], []), ([1], [1]), ([0, 2], [0, 2]), ([], []), ([4], [4]), ([], []), ([5, 6], [5, 6]), ([], []), ([8], [8]), ([], []), ([10], [10]), ([9, 11], [9, 11]), ([3, 7, 12], [3, 7, 12]), ([], []), ([14, 13, 3, 0, 1, 2, 3, 4, 5, 6, 7, 8, 9, 10, 11, 12, 13, 14], [13, 14])])
def spec_l05More.B1 : List Nat := [0, 0, 2, 7, 0, 16, 0, 112, 0, 256, 0, 1024, 3840, 8191, 0, 32767]
theorem spec_l05More.tab1 : rtab .any (opsOf Tryd.f56 1) = spec_l05More.T1 := by kernel_rfl
theorem spec_l05More.bits1 : waitsOk spec_l05More.T1.2 spec_l05More.B1 = true := by kernel_rfl
def spec_l05More.T5 : Bool × List (List Nat × List Nat) := (true, [([], []), ([0], [0]), ([], []), ([2], [2]), ([], []), ([], []), ([5], [5]), ([3, 4, 6], [3, 4, 6]), ([1, 7], [1, 7]), ([0, 1, 2, 3, 4, 5, 6, 7, 8], []), ([9, 8, 8, 0, 1, 2, 3, 4, 5, 6, 7, 8], [8, 9])])
def spec_l05More.B5 : List Nat := [0, 1, 0, 4, 0, 0, 32, 124, 255, 511, 1023]
theorem spec_l05More.tab5 : rtab .any (opsOf Tryd.f56 5) = spec_l05More.T5 := by kernel_rfl
theorem spec_l05More.bits5 : waitsOk spec_l05More.T5.2 spec_l05More.B5 = true := by kernel_rfl
set_option maxHeartbeats 8000000 in
set_option maxRecDepth 100000 in
theorem spec_l05More.calls (k : Nat) (A0_0 : Option Addr) (c0_0 : Nat) (l0_0 : List Int) (a0_1 : ByteArray) (a0_2 : Int) (a1 : ByteArray) (r1 : List Int) (r2 : ByteArray) (r3 : Int) (w : World) (hr0_0 : Kd.C (Kd.int .i64) w A0_0 l0_0.length l0_0) (hc0_0 : l0_0.length ≤ c0_0) (h : spec_l05More.f k l0_0 a0_1 a0_2 a1 = some (r1, r2, r3)) :
    Calls Tryd.prog 56 #[.agg #[.slice A0_0 l0_0.length c0_0, .string a0_1, .int .i64 a0_2], .string a1] w fun e w' => ∃ v0_ : Value, e = .returned (.agg #[v0_, .string r2, .int .i64 r3]) ∧ Kd.R (Kd.int .i64) 2 w' w.heap.size (fun _ => True) v0_ r1 ∧ Below w.heap.size w w' := by
  have hu39 := Tryd.underlying39
  have HR0_0 := AM hr0_0
  have HC0_0 := AM hc0_0
  clear hr0_0 hc0_0
  have HB := AM (Below.refl w.heap.size w)
  have H : ((some (([] : List Int) : List Int)).bind fun y141 => (if y141.length + l0_0.length < 17592186044416 then (if a0_1.size + a1.size ≤ 9223372036854775807 then (spec_l05More.l0 k 0 (y141 ++ l0_0) (a0_1 ++ a1) (wrap64 (a0_2 + (a1.size : Int)))) else (none)) else (none))) = some (r1, r2, r3) := h
  clear h
  obtain ⟨y141, hy141⟩ : ∃ y_ : List Int, y_ = (([] : List Int)) := ⟨_, rfl⟩
  replace H : (if y141.length + l0_0.length < 17592186044416 then (if a0_1.size + a1.size ≤ 9223372036854775807 then (spec_l05More.l0 k 0 (y141 ++ l0_0) (a0_1 ++ a1) (wrap64 (a0_2 + (a1.size : Int)))) else (none)) else (none)) = some (r1, r2, r3) := by first | (rw [hy141]; with_reducible exact H) | (have H2_ := (Option.bind_some _ _).symm.trans H; rw [hy141]; with_reducible exact H2_) | (have H2_ := (Option.bind_some _ _).symm.trans H; with_reducible exact H2_) | with_reducible exact H | (rw [hy141]; exact H) | exact H
  have Ny141 := AM hy141
  clear hy141
  by_cases c3 : y141.length + l0_0.length < 17592186044416
  · rw [if_pos c3] at H
    have LMc3 := AM c3
    clear c3
    obtain ⟨y144, hy144⟩ : ∃ y_ : List Int, y_ = (y141 ++ l0_0) := ⟨_, rfl⟩
    replace H : (if a0_1.size + a1.size ≤ 9223372036854775807 then (spec_l05More.l0 k 0 y144 (a0_1 ++ a1) (wrap64 (a0_2 + (a1.size : Int)))) else (none)) = some (r1, r2, r3) := by first | (rw [hy144]; with_reducible exact H) | (have H2_ := (Option.bind_some _ _).symm.trans H; rw [hy144]; with_reducible exact H2_) | (have H2_ := (Option.bind_some _ _).symm.trans H; with_reducible exact H2_) | with_reducible exact H | (rw [hy144]; exact H) | exact H
    have Ny144 := AM hy144
    clear hy144
    by_cases c4 : a0_1.size + a1.size ≤ 9223372036854775807
    · rw [if_pos c4] at H
      have c4b0 := eq_true c4
      have c4b1 : decide (a0_1.size + a1.size ≤ 9223372036854775807) = true := decide_eq_true c4
      try have c4b2 : (9223372036854775807 < a0_1.size + a1.size) = False := eq_false (Nat.not_lt.2 c4)
      have H' := AM H
      clear H
      go_enter Tryd.func56, Tryd.ntmps56
      try go_wp2_with (first | ((with_reducible refine gate_dst (N := 2) rfl ?_); refine be_ 2 #[.slice A0_0 l0_0.length c0_0, .string a0_1, .int .i64 a0_2] 39 ?_; intro gb139 hg w5 hbox hb; have BK139 := AM hbox; have GW139 := AM ((by rw [hg]; exact (below_size bel_) : w.heap.size ≤ gb139)); have GE139 := AM ((by rw [hg]; exact (below_size bel_) : w.heap.size ≤ gb139)); replace HB := AM (below_step bel_ hb); clear hb hbox hg) | ((with_reducible refine gate_dst (N := 4) rfl ?_); refine be_ 4 #[.slice none 0 0, .string (⟨#[]⟩ : ByteArray), .int .i64 0] 39 ?_; intro gb140 hg w6 hbox hb; have BK140 := AM hbox; have GW140 := AM ((by rw [hg]; exact (below_size bel_) : w.heap.size ≤ gb140)); have GE140 := AM ((by rw [hg]; exact (below_size bel_) : w.heap.size ≤ gb140)); replace HB := AM (below_step bel_ hb); have NB139_140 := AM ((by rw [hg]; exact Nat.ne_of_lt (blk_lt (g := gb139) (o := .cells #[.slice A0_0 l0_0.length c0_0, .string a0_1, .int .i64 a0_2] 39 (0, 0)) (bk_ BK139.out)) : gb139 ≠ gb140)); have NB140_139 := AM ((by rw [hg]; exact Nat.ne_of_gt (blk_lt (g := gb139) (o := .cells #[.slice A0_0 l0_0.length c0_0, .string a0_1, .int .i64 a0_2] 39 (0, 0)) (bk_ BK139.out)) : gb140 ≠ gb139)); replace BK139 := AM (blk_below (g := gb139) (o := .cells #[.slice A0_0 l0_0.length c0_0, .string a0_1, .int .i64 a0_2] 39 (0, 0)) (bk_ BK139.out) hb); clear hb hbox hg))
      replace BK139 := AM (blk_drew BK139.out)
      replace BK140 := AM (blk_drew BK140.out)
      replace HB := AM (below_drew1 HB.out)
      refine start_ (n := 16) (S := fun w' => w'.cell? ⟨gb139, 0, none⟩ = some (.slice A0_0 l0_0.length c0_0) ∧ w'.cell? ⟨gb139, 1, none⟩ = some (.string a0_1) ∧ w'.cell? ⟨gb139, 2, none⟩ = some (.int .i64 a0_2)) (ds := []) #[false, false, false, false, false, false, false, false, false, false, false, false, false, false, false, false] (by kernel_rfl) rfl rfl ⟨(blk_cell BK139.out 0).trans rfl, (blk_cell BK139.out 1).trans rfl, (blk_cell BK139.out 2).trans rfl⟩ (fun hHeld => ?_); refine with_tabW spec_l05More.tab1 spec_l05More.bits1 (fun HT_ HW_ => ?_)
      generalize w6.drew = w7 at BK139 BK140 HB hHeld ⊢
      refine pu_ HT_ 1 (some 8) #[false, true, false, false, false, false, false, false, false, false, false, false, false, false, false, false] ?_
      refine pu_ HT_ 4 (some 11) #[false, true, false, false, true, false, false, false, false, false, false, false, false, false, false, false] ?_
      refine pu_ HT_ 6 (some 13) #[false, true, false, false, true, false, true, false, false, false, false, false, false, false, false, false] ?_
      refine pu_ HT_ 8 (some 15) #[false, true, false, false, true, false, true, false, true, false, false, false, false, false, false, false] ?_
      refine pu_ HT_ 10 (some 17) #[false, true, false, false, true, false, true, false, true, false, true, false, false, false, false, false] ?_
      refine pu_ HT_ 11 (some 18) #[false, true, false, false, true, false, true, false, true, false, true, true, false, false, false, false] ?_
      refine ta_ HT_ HW_ 2 (some 9) #[false, true, true, false, true, false, true, false, true, false, true, true, false, false, false, false] hHeld ?_
      refine ta_ HT_ HW_ 5 (some 12) #[false, true, true, false, true, true, true, false, true, false, true, true, false, false, false, false] hHeld ?_
      refine pu_ HT_ 7 (some 14) #[false, true, true, false, true, true, true, true, true, false, true, true, false, false, false, false] ?_
      refine ta_ HT_ HW_ 9 (some 16) #[false, true, true, false, true, true, true, true, true, true, true, true, false, false, false, false] hHeld ?_
      refine pu_ HT_ 12 (some 19) #[false, true, true, false, true, true, true, true, true, true, true, true, true, false, false, false] ?_
      refine join_ (σ := Value × Value × Nat) 1 #[true, true, true, true, true, true, true, true, true, true, true, true, true, true, true, false] (fun s_ => [(7, s_.1), (10, s_.2.1), (5, .pointer (some ⟨s_.2.2, 0, none⟩)), (20, .agg #[s_.2.1, .string (a0_1 ++ a1), .int .i64 (wrap64 (a0_2 + (a1.size : Int)))])]) (fun s_ w' => (w'.cell? ⟨gb139, 0, none⟩ = some (.slice A0_0 l0_0.length c0_0) ∧ w'.cell? ⟨gb139, 1, none⟩ = some (.string a0_1) ∧ w'.cell? ⟨gb139, 2, none⟩ = some (.int .i64 a0_2)) ∧ (Kd.R (Kd.int .i64) 2 w' w.heap.size (fun _ => True) s_.2.1 y144) ∧ (w'.heap[gb139]? = some (.cells #[.slice A0_0 l0_0.length c0_0, .string a0_1, .int .i64 a0_2] 39 (0, 0))) ∧ (w'.heap[gb140]? = some (.cells #[.slice none 0 0, .string (⟨#[]⟩ : ByteArray), .int .i64 0] 39 (0, 0))) ∧ (w'.heap[s_.2.2]? = some (.cells #[.slice none 0 0, .string (⟨#[]⟩ : ByteArray), .int .i64 0] 39 (0, 0))) ∧ (w.heap.size ≤ s_.2.2) ∧ (w.heap.size ≤ s_.2.2) ∧ (gb139 ≠ s_.2.2) ∧ (s_.2.2 ≠ gb139) ∧ (gb140 ≠ s_.2.2) ∧ (s_.2.2 ≠ gb140) ∧ (Below w.heap.size w w')) ?_ ?_
      rotate_left
      · intro hCont
        refine tw_ HT_ 0 14 (some 7) (some 5) #[true, true, true, false, true, true, true, true, true, true, true, true, true, false, false, false] #[false, true, true, false, true, true, true, true, true, true, true, true, true, false, true, false] (fun K hK => ?_) (fun K hK => ?_)
        · skip
          refine Kd.R_lit_step (Kd.int .i64) _ 2 ?hgL1 (N := 7) ?hdL1 (xs := ([] : List Int)) (inner := []) (ok := fun _ => True) (okp := fun _ => True) ?hrL1 ?hpL1 (fun _ hk => hk) trivial (Below.refl _ _) (Nat.le_refl _) (by simp) ?_; (case hdL1 => rfl); (case hgL1 => rfl); (case hrL1 => first | (go_simp; done) | (go_simp; rfl)); (case hpL1 => exact (Reps.none _ _))
          intro v142 w8 ho9 hb hg_ hnew_
          clear hg_ hnew_
          (first | rw [← Ny141.out] at ho9 | (simp only [Int.reduceToNat] at ho9; rw [← Ny141.out] at ho9))
          have HO143 := AM (Kd.R_lower ho9 (below_size bel_))
          replace BK139 := AM (blk_below (g := gb139) (o := .cells #[.slice A0_0 l0_0.length c0_0, .string a0_1, .int .i64 a0_2] 39 (0, 0)) (bk_ BK139.out) hb)
          replace BK140 := AM (blk_below (g := gb140) (o := .cells #[.slice none 0 0, .string (⟨#[]⟩ : ByteArray), .int .i64 0] 39 (0, 0)) (bk_ BK140.out) hb)
          replace HB := AM (below_step bel_ hb)
          clear hb ho9
          refine hK.out _ _ ⟨(blk_cell BK139.out 0).trans rfl, (blk_cell BK139.out 1).trans rfl, (blk_cell BK139.out 2).trans rfl⟩ (fun hHeld => ?_)
          clear hK K
          refine nm_ ?_
          refine tw_ HT_ 3 14 (some 10) (some 5) #[true, true, true, true, true, true, true, true, true, true, true, true, true, false, false, false] #[true, true, true, false, true, true, true, true, true, true, true, true, true, false, true, false] (fun K hK => ?_) (fun K hK => ?_)
          · skip
            refine Kd.R_append_rows_step (Kd.int .i64) (w0 := w) w.heap.size (by rfl) (.tmp 7) (.tmp 9) 37 2 (.int .i64 0) 8 rfl Tryd.underlying37 info2 rfl (by decide) (by omega) v142 y141 l0_0 _ _ _ (fun _ => True) (fun _ => False) rfl rfl ?aO ?aR (fun _ _ h => h) (fun _ h => h.elim) ?aF ?aB ?aS ?aL ?_
            (case aR => repeat (first | exact (Kd.C_below HR0_0.out HB.out) | (with_reducible refine Kd.C_alloc ?_ _) | (with_reducible refine Kd.C_drewN ?_ _) | (with_reducible refine Kd.C_drew ?_)))
            (case aB => exact bel_)
            (case aF => exact (fun _ _ => trivial))
            (case aO => exact (ro_ HO143.out))
            (case aS => exact (below_size bel_))
            (case aL => have := LMc3.out; omega)
            intro v145 w10 ho hb hg hat
            rw [← Ny144.out] at ho
            have n0_ := AM (blk_grown (g := gb139) (o := .cells #[.slice A0_0 l0_0.length c0_0, .string a0_1, .int .i64 a0_2] 39 (0, 0)) (bk_ BK139.out) hg (Kd.R_ne HO143.out BK139.out (by decide)))
            have n1_ := AM (blk_grown (g := gb140) (o := .cells #[.slice none 0 0, .string (⟨#[]⟩ : ByteArray), .int .i64 0] 39 (0, 0)) (bk_ BK140.out) hg (Kd.R_ne HO143.out BK140.out (by decide)))
            have n2_ := AM hb
            have n3_ := AM ho
            clear BK139
            clear BK140
            clear HB
            clear HO143
            have BK139 := n0_
            have BK140 := n1_
            have HB := n2_
            have HO146 := n3_
            clear n0_ n1_ n2_ n3_
            clear ho hb hg hat
            obtain ⟨Ao11, co11, eo11⟩ := Kd.R_slice HO146.out
            (first | subst eo11 | (injection eo11 with f1_ f2_ f3_; have f4_ := f1_.symm; have f5_ := f3_.symm; clear f1_ f2_ f3_; subst f4_; subst f5_))
            refine hK.out _ _ ⟨(blk_cell BK139.out 0).trans rfl, (blk_cell BK139.out 1).trans rfl, (blk_cell BK139.out 2).trans rfl⟩ (fun hHeld => ?_)
            clear hK K
            refine nm_ ?_
            refine pu_ HT_ 13 (some 20) #[true, true, true, true, true, true, true, true, true, true, true, true, true, true, false, false] ?_
            refine on_ HT_ 14 (some 5) #[true, true, true, true, true, true, true, true, true, true, true, true, true, true, true, false] (fun K hK => ?_)
            refine bs_ 5 #[.slice none 0 0, .string (⟨#[]⟩ : ByteArray), .int .i64 0] 39 ?_
            intro gb147 hg w12 hbox hb
            replace HO146 := AM (Kd.R_below (ro_ HO146.out) hb)
            have BK147 := AM hbox
            have GW147 := AM ((by rw [hg]; exact (below_size bel_) : w.heap.size ≤ gb147))
            have GE147 := AM ((by rw [hg]; exact (below_size bel_) : w.heap.size ≤ gb147))
            replace HB := AM (below_step bel_ hb)
            have NB139_147 := AM ((by rw [hg]; exact Nat.ne_of_lt (blk_lt (g := gb139) (o := .cells #[.slice A0_0 l0_0.length c0_0, .string a0_1, .int .i64 a0_2] 39 (0, 0)) (bk_ BK139.out)) : gb139 ≠ gb147))
            have NB147_139 := AM ((by rw [hg]; exact Nat.ne_of_gt (blk_lt (g := gb139) (o := .cells #[.slice A0_0 l0_0.length c0_0, .string a0_1, .int .i64 a0_2] 39 (0, 0)) (bk_ BK139.out)) : gb147 ≠ gb139))
            replace BK139 := AM (blk_below (g := gb139) (o := .cells #[.slice A0_0 l0_0.length c0_0, .string a0_1, .int .i64 a0_2] 39 (0, 0)) (bk_ BK139.out) hb)
            have NB140_147 := AM ((by rw [hg]; exact Nat.ne_of_lt (blk_lt (g := gb140) (o := .cells #[.slice none 0 0, .string (⟨#[]⟩ : ByteArray), .int .i64 0] 39 (0, 0)) (bk_ BK140.out)) : gb140 ≠ gb147))
            have NB147_140 := AM ((by rw [hg]; exact Nat.ne_of_gt (blk_lt (g := gb140) (o := .cells #[.slice none 0 0, .string (⟨#[]⟩ : ByteArray), .int .i64 0] 39 (0, 0)) (bk_ BK140.out)) : gb147 ≠ gb140))
            replace BK140 := AM (blk_below (g := gb140) (o := .cells #[.slice none 0 0, .string (⟨#[]⟩ : ByteArray), .int .i64 0] 39 (0, 0)) (bk_ BK140.out) hb)
            clear hb hbox hg
            refine hK.out _ _ ⟨(blk_cell BK139.out 0).trans rfl, (blk_cell BK139.out 1).trans rfl, (blk_cell BK139.out 2).trans rfl⟩ (fun hHeld => ?_)
            clear hK K
            refine nm_ ?_
            exact nmE_ (hCont (v142, .slice Ao11 y144.length co11, gb147) _ ⟨hHeld, (ro_ HO146.out), (bk_ BK139.out), (bk_ BK140.out), (bk_ BK147.out), GW147.out, GE147.out, NB139_147.out, NB147_139.out, NB140_147.out, NB147_140.out, bel_⟩)
          · skip
            refine bs_ 5 #[.slice none 0 0, .string (⟨#[]⟩ : ByteArray), .int .i64 0] 39 ?_
            intro gb147 hg w10 hbox hb
            replace HO143 := AM (Kd.R_below (ro_ HO143.out) hb)
            have BK147 := AM hbox
            have GW147 := AM ((by rw [hg]; exact (below_size bel_) : w.heap.size ≤ gb147))
            have GE147 := AM ((by rw [hg]; exact (below_size bel_) : w.heap.size ≤ gb147))
            replace HB := AM (below_step bel_ hb)
            have NB139_147 := AM ((by rw [hg]; exact Nat.ne_of_lt (blk_lt (g := gb139) (o := .cells #[.slice A0_0 l0_0.length c0_0, .string a0_1, .int .i64 a0_2] 39 (0, 0)) (bk_ BK139.out)) : gb139 ≠ gb147))
            have NB147_139 := AM ((by rw [hg]; exact Nat.ne_of_gt (blk_lt (g := gb139) (o := .cells #[.slice A0_0 l0_0.length c0_0, .string a0_1, .int .i64 a0_2] 39 (0, 0)) (bk_ BK139.out)) : gb147 ≠ gb139))
            replace BK139 := AM (blk_below (g := gb139) (o := .cells #[.slice A0_0 l0_0.length c0_0, .string a0_1, .int .i64 a0_2] 39 (0, 0)) (bk_ BK139.out) hb)
            have NB140_147 := AM ((by rw [hg]; exact Nat.ne_of_lt (blk_lt (g := gb140) (o := .cells #[.slice none 0 0, .string (⟨#[]⟩ : ByteArray), .int .i64 0] 39 (0, 0)) (bk_ BK140.out)) : gb140 ≠ gb147))
            have NB147_140 := AM ((by rw [hg]; exact Nat.ne_of_gt (blk_lt (g := gb140) (o := .cells #[.slice none 0 0, .string (⟨#[]⟩ : ByteArray), .int .i64 0] 39 (0, 0)) (bk_ BK140.out)) : gb147 ≠ gb140))
            replace BK140 := AM (blk_below (g := gb140) (o := .cells #[.slice none 0 0, .string (⟨#[]⟩ : ByteArray), .int .i64 0] 39 (0, 0)) (bk_ BK140.out) hb)
            clear hb hbox hg
            refine hK.out _ _ ⟨(blk_cell BK139.out 0).trans rfl, (blk_cell BK139.out 1).trans rfl, (blk_cell BK139.out 2).trans rfl⟩ (fun hHeld => ?_)
            clear hK K
            refine nm_ ?_
            refine on_ HT_ 3 (some 10) #[true, true, true, true, true, true, true, true, true, true, true, true, true, false, true, false] (fun K hK => ?_)
            refine Kd.R_append_rows_step (Kd.int .i64) (w0 := w) w.heap.size (by rfl) (.tmp 7) (.tmp 9) 37 2 (.int .i64 0) 8 rfl Tryd.underlying37 info2 rfl (by decide) (by omega) v142 y141 l0_0 _ _ _ (fun _ => True) (fun _ => False) rfl rfl ?aO ?aR (fun _ _ h => h) (fun _ h => h.elim) ?aF ?aB ?aS ?aL ?_
            (case aR => repeat (first | exact (Kd.C_below HR0_0.out HB.out) | (with_reducible refine Kd.C_alloc ?_ _) | (with_reducible refine Kd.C_drewN ?_ _) | (with_reducible refine Kd.C_drew ?_)))
            (case aB => exact bel_)
            (case aF => exact (fun _ _ => trivial))
            (case aO => exact (ro_ HO143.out))
            (case aS => exact (below_size bel_))
            (case aL => have := LMc3.out; omega)
            intro v145 w11 ho hb hg hat
            rw [← Ny144.out] at ho
            have n0_ := AM (blk_grown (g := gb139) (o := .cells #[.slice A0_0 l0_0.length c0_0, .string a0_1, .int .i64 a0_2] 39 (0, 0)) (bk_ BK139.out) hg (Kd.R_ne HO143.out BK139.out (by decide)))
            have n1_ := AM (blk_grown (g := gb140) (o := .cells #[.slice none 0 0, .string (⟨#[]⟩ : ByteArray), .int .i64 0] 39 (0, 0)) (bk_ BK140.out) hg (Kd.R_ne HO143.out BK140.out (by decide)))
            have n2_ := AM (blk_grown (g := gb147) (o := .cells #[.slice none 0 0, .string (⟨#[]⟩ : ByteArray), .int .i64 0] 39 (0, 0)) (bk_ BK147.out) hg (Kd.R_ne HO143.out BK147.out (by decide)))
            have n3_ := AM hb
            have n4_ := AM ho
            clear BK139
            clear BK140
            clear BK147
            clear HB
            clear HO143
            have BK139 := n0_
            have BK140 := n1_
            have BK147 := n2_
            have HB := n3_
            have HO146 := n4_
            clear n0_ n1_ n2_ n3_ n4_
            clear ho hb hg hat
            obtain ⟨Ao12, co12, eo12⟩ := Kd.R_slice HO146.out
            (first | subst eo12 | (injection eo12 with f1_ f2_ f3_; have f4_ := f1_.symm; have f5_ := f3_.symm; clear f1_ f2_ f3_; subst f4_; subst f5_))
            refine hK.out _ _ ⟨(blk_cell BK139.out 0).trans rfl, (blk_cell BK139.out 1).trans rfl, (blk_cell BK139.out 2).trans rfl⟩ (fun hHeld => ?_)
            clear hK K
            refine nm_ ?_
            refine pu_ HT_ 13 (some 20) #[true, true, true, true, true, true, true, true, true, true, true, true, true, true, true, false] ?_
            exact nmE_ (hCont (v142, .slice Ao12 y144.length co12, gb147) _ ⟨hHeld, (ro_ HO146.out), (bk_ BK139.out), (bk_ BK140.out), (bk_ BK147.out), GW147.out, GE147.out, NB139_147.out, NB147_139.out, NB140_147.out, NB147_140.out, bel_⟩)
        · skip
          refine bs_ 5 #[.slice none 0 0, .string (⟨#[]⟩ : ByteArray), .int .i64 0] 39 ?_
          intro gb147 hg w8 hbox hb
          have BK147 := AM hbox
          have GW147 := AM ((by rw [hg]; exact (below_size bel_) : w.heap.size ≤ gb147))
          have GE147 := AM ((by rw [hg]; exact (below_size bel_) : w.heap.size ≤ gb147))
          replace HB := AM (below_step bel_ hb)
          have NB139_147 := AM ((by rw [hg]; exact Nat.ne_of_lt (blk_lt (g := gb139) (o := .cells #[.slice A0_0 l0_0.length c0_0, .string a0_1, .int .i64 a0_2] 39 (0, 0)) (bk_ BK139.out)) : gb139 ≠ gb147))
          have NB147_139 := AM ((by rw [hg]; exact Nat.ne_of_gt (blk_lt (g := gb139) (o := .cells #[.slice A0_0 l0_0.length c0_0, .string a0_1, .int .i64 a0_2] 39 (0, 0)) (bk_ BK139.out)) : gb147 ≠ gb139))
          replace BK139 := AM (blk_below (g := gb139) (o := .cells #[.slice A0_0 l0_0.length c0_0, .string a0_1, .int .i64 a0_2] 39 (0, 0)) (bk_ BK139.out) hb)
          have NB140_147 := AM ((by rw [hg]; exact Nat.ne_of_lt (blk_lt (g := gb140) (o := .cells #[.slice none 0 0, .string (⟨#[]⟩ : ByteArray), .int .i64 0] 39 (0, 0)) (bk_ BK140.out)) : gb140 ≠ gb147))
          have NB147_140 := AM ((by rw [hg]; exact Nat.ne_of_gt (blk_lt (g := gb140) (o := .cells #[.slice none 0 0, .string (⟨#[]⟩ : ByteArray), .int .i64 0] 39 (0, 0)) (bk_ BK140.out)) : gb147 ≠ gb140))
          replace BK140 := AM (blk_below (g := gb140) (o := .cells #[.slice none 0 0, .string (⟨#[]⟩ : ByteArray), .int .i64 0] 39 (0, 0)) (bk_ BK140.out) hb)
          clear hb hbox hg
          refine hK.out _ _ ⟨(blk_cell BK139.out 0).trans rfl, (blk_cell BK139.out 1).trans rfl, (blk_cell BK139.out 2).trans rfl⟩ (fun hHeld => ?_)
          clear hK K
          refine nm_ ?_
          refine on_ HT_ 0 (some 7) #[true, true, true, false, true, true, true, true, true, true, true, true, true, false, true, false] (fun K hK => ?_)
          refine Kd.R_lit_step (Kd.int .i64) _ 2 ?hgL2 (N := 7) ?hdL2 (xs := ([] : List Int)) (inner := []) (ok := fun _ => True) (okp := fun _ => True) ?hrL2 ?hpL2 (fun _ hk => hk) trivial (Below.refl _ _) (Nat.le_refl _) (by simp) ?_; (case hdL2 => rfl); (case hgL2 => rfl); (case hrL2 => first | (go_simp; done) | (go_simp; rfl)); (case hpL2 => exact (Reps.none _ _))
          intro v142 w9 ho10 hb hg_ hnew_
          clear hg_ hnew_
          (first | rw [← Ny141.out] at ho10 | (simp only [Int.reduceToNat] at ho10; rw [← Ny141.out] at ho10))
          have HO143 := AM (Kd.R_lower ho10 (below_size bel_))
          replace BK139 := AM (blk_below (g := gb139) (o := .cells #[.slice A0_0 l0_0.length c0_0, .string a0_1, .int .i64 a0_2] 39 (0, 0)) (bk_ BK139.out) hb)
          replace BK140 := AM (blk_below (g := gb140) (o := .cells #[.slice none 0 0, .string (⟨#[]⟩ : ByteArray), .int .i64 0] 39 (0, 0)) (bk_ BK140.out) hb)
          replace BK147 := AM (blk_below (g := gb147) (o := .cells #[.slice none 0 0, .string (⟨#[]⟩ : ByteArray), .int .i64 0] 39 (0, 0)) (bk_ BK147.out) hb)
          replace HB := AM (below_step bel_ hb)
          clear hb ho10
          refine hK.out _ _ ⟨(blk_cell BK139.out 0).trans rfl, (blk_cell BK139.out 1).trans rfl, (blk_cell BK139.out 2).trans rfl⟩ (fun hHeld => ?_)
          clear hK K
          refine nm_ ?_
          refine on_ HT_ 3 (some 10) #[true, true, true, true, true, true, true, true, true, true, true, true, true, false, true, false] (fun K hK => ?_)
          refine Kd.R_append_rows_step (Kd.int .i64) (w0 := w) w.heap.size (by rfl) (.tmp 7) (.tmp 9) 37 2 (.int .i64 0) 8 rfl Tryd.underlying37 info2 rfl (by decide) (by omega) v142 y141 l0_0 _ _ _ (fun _ => True) (fun _ => False) rfl rfl ?aO ?aR (fun _ _ h => h) (fun _ h => h.elim) ?aF ?aB ?aS ?aL ?_
          (case aR => repeat (first | exact (Kd.C_below HR0_0.out HB.out) | (with_reducible refine Kd.C_alloc ?_ _) | (with_reducible refine Kd.C_drewN ?_ _) | (with_reducible refine Kd.C_drew ?_)))
          (case aB => exact bel_)
          (case aF => exact (fun _ _ => trivial))
          (case aO => exact (ro_ HO143.out))
          (case aS => exact (below_size bel_))
          (case aL => have := LMc3.out; omega)
          intro v145 w11 ho hb hg hat
          rw [← Ny144.out] at ho
          have n0_ := AM (blk_grown (g := gb139) (o := .cells #[.slice A0_0 l0_0.length c0_0, .string a0_1, .int .i64 a0_2] 39 (0, 0)) (bk_ BK139.out) hg (Kd.R_ne HO143.out BK139.out (by decide)))
          have n1_ := AM (blk_grown (g := gb140) (o := .cells #[.slice none 0 0, .string (⟨#[]⟩ : ByteArray), .int .i64 0] 39 (0, 0)) (bk_ BK140.out) hg (Kd.R_ne HO143.out BK140.out (by decide)))
          have n2_ := AM (blk_grown (g := gb147) (o := .cells #[.slice none 0 0, .string (⟨#[]⟩ : ByteArray), .int .i64 0] 39 (0, 0)) (bk_ BK147.out) hg (Kd.R_ne HO143.out BK147.out (by decide)))
          have n3_ := AM hb
          have n4_ := AM ho
          clear BK139
          clear BK140
          clear BK147
          clear HB
          clear HO143
          have BK139 := n0_
          have BK140 := n1_
          have BK147 := n2_
          have HB := n3_
          have HO146 := n4_
          clear n0_ n1_ n2_ n3_ n4_
          clear ho hb hg hat
          obtain ⟨Ao12, co12, eo12⟩ := Kd.R_slice HO146.out
          (first | subst eo12 | (injection eo12 with f1_ f2_ f3_; have f4_ := f1_.symm; have f5_ := f3_.symm; clear f1_ f2_ f3_; subst f4_; subst f5_))
          refine hK.out _ _ ⟨(blk_cell BK139.out 0).trans rfl, (blk_cell BK139.out 1).trans rfl, (blk_cell BK139.out 2).trans rfl⟩ (fun hHeld => ?_)
          clear hK K
          refine nm_ ?_
          refine pu_ HT_ 13 (some 20) #[true, true, true, true, true, true, true, true, true, true, true, true, true, true, true, false] ?_
          exact nmE_ (hCont (v142, .slice Ao12 y144.length co12, gb147) _ ⟨hHeld, (ro_ HO146.out), (bk_ BK139.out), (bk_ BK140.out), (bk_ BK147.out), GW147.out, GE147.out, NB139_147.out, NB147_139.out, NB140_147.out, NB147_140.out, bel_⟩)
      rintro ⟨v142, v145, gb147⟩ w13 ⟨hS_, h0_, h1_, h2_, h3_, h4_, h5_, h6_, h7_, h8_, h9_, h10_⟩
      have HO146 : Aside0 (Kd.R (Kd.int .i64) 2 w13 w.heap.size (fun _ => True) v145 y144) := ⟨h0_⟩
      replace BK139 : Aside0 (w13.heap[gb139]? = some (.cells #[.slice A0_0 l0_0.length c0_0, .string a0_1, .int .i64 a0_2] 39 (0, 0))) := ⟨h1_⟩
      replace BK140 : Aside0 (w13.heap[gb140]? = some (.cells #[.slice none 0 0, .string (⟨#[]⟩ : ByteArray), .int .i64 0] 39 (0, 0))) := ⟨h2_⟩
      have BK147 : Aside0 (w13.heap[gb147]? = some (.cells #[.slice none 0 0, .string (⟨#[]⟩ : ByteArray), .int .i64 0] 39 (0, 0))) := ⟨h3_⟩
      have GW147 : Aside0 (w.heap.size ≤ gb147) := ⟨h4_⟩
      have GE147 : Aside0 (w.heap.size ≤ gb147) := ⟨h5_⟩
      have NB139_147 : Aside0 (gb139 ≠ gb147) := ⟨h6_⟩
      have NB147_139 : Aside0 (gb147 ≠ gb139) := ⟨h7_⟩
      have NB140_147 : Aside0 (gb140 ≠ gb147) := ⟨h8_⟩
      have NB147_140 : Aside0 (gb147 ≠ gb140) := ⟨h9_⟩
      replace HB : Aside0 (Below w.heap.size w w13) := ⟨h10_⟩
      clear h0_ h1_ h2_ h3_ h4_ h5_ h6_ h7_ h8_ h9_ h10_
      have hHeld : w13.cell? ⟨gb139, 0, none⟩ = some (.slice A0_0 l0_0.length c0_0) ∧ w13.cell? ⟨gb139, 1, none⟩ = some (.string a0_1) ∧ w13.cell? ⟨gb139, 2, none⟩ = some (.int .i64 a0_2) := hS_
      obtain ⟨Ao14, co14, eo14⟩ := Kd.R_slice HO146.out
      (first | subst eo14 | (injection eo14 with f1_ f2_ f3_; have f4_ := f1_.symm; have f5_ := f3_.symm; clear f1_ f2_ f3_; subst f4_; subst f5_))
      refine nmA_ ?_
      refine on_ HT_ 15 none #[true, true, true, true, true, true, true, true, true, true, true, true, true, true, true, true] (fun K hK => ?_)
      have hs15 : w13.cell? ⟨gb147, 0, none⟩ = some (.slice none 0 0) := (blk_cell BK147.out 0).trans rfl
      have hfs15 := blk_frozen BK147.out 0
      have hns15_0 := NB139_147.out
      have hns15_1 := NB140_147.out
      have hms15_0 := NB147_139.out
      have hms15_1 := NB147_140.out
      have hs16 : w13.cell? ⟨gb147, 1, none⟩ = some (.string (⟨#[]⟩ : ByteArray)) := (blk_cell BK147.out 1).trans rfl
      have hfs16 := blk_frozen BK147.out 1
      have hns16_0 := NB139_147.out
      have hns16_1 := NB140_147.out
      have hms16_0 := NB147_139.out
      have hms16_1 := NB147_140.out
      have hs17 : w13.cell? ⟨gb147, 2, none⟩ = some (.int .i64 0) := (blk_cell BK147.out 2).trans rfl
      have hfs17 := blk_frozen BK147.out 2
      have hns17_0 := NB139_147.out
      have hns17_1 := NB140_147.out
      have hms17_0 := NB147_139.out
      have hms17_1 := NB147_140.out
      refine sk_ ?_
      refine hK.out _ _ ⟨(by (rw [cell_far, cell_far, cell_far]) <;> first | exact hHeld.1 | exact NB139_147.out), (by (rw [cell_far, cell_far, cell_far]) <;> first | exact hHeld.2.1 | exact NB139_147.out), (by (rw [cell_far, cell_far, cell_far]) <;> first | exact hHeld.2.2 | exact NB139_147.out)⟩ (fun hHeld => ?_)
      clear hK K
      refine dn_ HT_ ?_
      try go_wp2
      obtain ⟨cat, hcat⟩ : ∃ c_ : ByteArray, a0_1 ++ a1 = c_ := ⟨_, rfl⟩
      replace H' := H'.out
      replace BK147 := BK147.out
      rw [hcat] at H'
      try rw [hcat] at BK147
      try rw [hcat]
      replace H' := AM H'
      replace BK147 := AM BK147
      have Ncat := AM hcat
      clear hcat
      go_loopg [6] k (fun kq v6 w' => ∃ (x6_1 : Int) (x148000_1 : List Int) (u148000 : Value), v6 = .int .i64 x6_1 ∧ Aside0 (spec_l05More.l0 kq x6_1 x148000_1 cat (wrap64 (a0_2 + (a1.size : Int))) = some (r1, r2, r3)) ∧ Aside0 (kq ≤ k) ∧ Aside0 (Kd.R (Kd.int .i64) 2 w' w.heap.size (fun _ => True) u148000 x148000_1) ∧ Aside0 (w'.heap[gb139]? = some (.cells #[(.slice A0_0 l0_0.length c0_0), .string a0_1, .int .i64 a0_2] 39 (0, 0))) ∧ Aside0 (w'.heap[gb140]? = some (.cells #[(.slice none 0 0), .string (⟨#[]⟩ : ByteArray), .int .i64 0] 39 (0, 0))) ∧ Aside0 (w'.heap[gb147]? = some (.cells #[u148000, .string cat, .int .i64 (wrap64 (a0_2 + (a1.size : Int)))] 39 (0, 0))) ∧ Aside0 (Below w.heap.size w w'))
      case atStart => exact ⟨(0), (y144), (.slice Ao14 y144.length co14), (by first | rfl | (simp; done) | (simp [*]; done)), H', ⟨Nat.le_refl _⟩, ⟨by (with_reducible repeat (first | apply Kd.R_alloc | apply Kd.R_drewN | apply Kd.R_drew)); exact Kd.R_mono (Kd.R_far (p := ⟨gb147, 2, none⟩) (Kd.R_far (p := ⟨gb147, 1, none⟩) (Kd.R_far (p := ⟨gb147, 0, none⟩) (Kd.R_types HO146.out BK147.out (by decide)) (fun _ hk => hk.2) (.slice Ao14 y144.length co14)) (fun _ hk => hk.2) (.string cat)) (fun _ hk => hk.2) (.int .i64 (wrap64 (a0_2 + (a1.size : Int))))) (fun _ hk => trivial)⟩, ⟨bka_⟩, ⟨bka_⟩, ⟨bka_⟩, ⟨bel_⟩⟩
      case round =>
        clear H'
        try clear p2
        try clear c3
        try clear c4
        try clear c4b0
        try clear c4b1
        try clear c4b2
        try clear c5
        try clear p6
        obtain ⟨x6_1, x148000_1, u148000, rfl, HA, HK1, HO_148000, BK139, BK140, BK147, HB⟩ := hrel
        cases gk with
        | zero => exact absurd HA.out (by simp [spec_l05More.l0])
        | succ k1 =>
          have H := HA.out
          clear HA
          simp only [spec_l05More.l0] at H
          by_cases c18 : (wrap64 ((cat.size : Int) - x6_1)) ≥ 64
          · rw [if_pos c18] at H
            have c18b0 : decide (64 ≤ (wrap64 ((cat.size : Int) - x6_1))) = true := decide_eq_true c18
            try have c18b9 : (decide (64 ≤ (((cat.size : Int) - x6_1)))) = true := (by have hw0 : wrap64 ((cat.size : Int) - x6_1) = (cat.size : Int) - x6_1 := (by unfold wrap64; omega); have z_ := c18b0; simp only [hw0] at z_; exact z_)
            clear c18
            by_cases c19 : 0 ≤ x6_1
            · rw [if_pos c19] at H
              have c19b0 := eq_true c19
              have c19b1 : decide (0 ≤ x6_1) = true := decide_eq_true c19
              clear c19
              by_cases c20 : x6_1 ≤ (wrap64 (x6_1 + 64))
              · rw [if_pos c20] at H
                have c20b0 := eq_true c20
                have c20b1 : decide (x6_1 ≤ (wrap64 (x6_1 + 64))) = true := decide_eq_true c20
                by_cases c21 : (wrap64 (x6_1 + 64)) ≤ (cat.size : Int)
                · rw [if_pos c21] at H
                  have c21b0 := eq_true c21
                  have c21b1 : decide ((wrap64 (x6_1 + 64)) ≤ (cat.size : Int)) = true := decide_eq_true c21
                  obtain ⟨t148, A22, H⟩ := OB H
                  try dsimp only at H
                  replace A22 := AM A22
                  have H' := AM H
                  clear H
                  have hnb23 := NB147_139.out
                  have hnc23 := NB139_147.out
                  have hnb24 := NB147_140.out
                  have hnc24 := NB140_147.out
                  have hcz25_0 : wr.cell? ⟨gb147, 0, none⟩ = some (u148000) := (blk_cell BK147.out 0).trans rfl
                  have hcz25_1 : wr.cell? ⟨gb147, 1, none⟩ = some (.string cat) := (blk_cell BK147.out 1).trans rfl
                  have hcz25_2 : wr.cell? ⟨gb147, 2, none⟩ = some (.int .i64 (wrap64 (a0_2 + (a1.size : Int)))) := (blk_cell BK147.out 2).trans rfl
                  have hfz25_0 := blk_frozen BK147.out 0
                  have hfz25_1 := blk_frozen BK147.out 1
                  have hfz25_2 := blk_frozen BK147.out 2
                  try go_wp2
                  replace HO_148000 := AM (Kd.R_drew HO_148000.out)
                  replace BK139 := AM (blk_drew BK139.out)
                  replace BK140 := AM (blk_drew BK140.out)
                  replace BK147 := AM (blk_drew BK147.out)
                  replace HB := AM (below_drew1 HB.out)
                  obtain ⟨Ao27, co27, eo27⟩ := Kd.R_slice HO_148000.out
                  (first | subst eo27 | (injection eo27 with f1_ f2_ f3_; have f4_ := f1_.symm; have f5_ := f3_.symm; clear f1_ f2_ f3_; subst f4_; subst f5_))
                  refine start_ (n := 11) (S := fun w' => w'.cell? ⟨gb147, 0, none⟩ = some (.slice Ao27 x148000_1.length co27) ∧ w'.cell? ⟨gb147, 1, none⟩ = some (.string cat) ∧ w'.cell? ⟨gb147, 2, none⟩ = some (.int .i64 (wrap64 (a0_2 + (a1.size : Int))))) (ds := [10]) #[false, false, false, false, false, false, false, false, false, false, false] (by kernel_rfl) rfl rfl ⟨(blk_cell BK147.out 0).trans rfl, (blk_cell BK147.out 1).trans rfl, (blk_cell BK147.out 2).trans rfl⟩ (fun hHeld => ?_); refine with_tabW spec_l05More.tab5 spec_l05More.bits5 (fun HT_ HW_ => ?_)
                  generalize wr.drew = w26 at HO_148000 BK139 BK140 BK147 HB hHeld ⊢
                  refine pu_ HT_ 0 (some 29) #[true, false, false, false, false, false, false, false, false, false, false] ?_
                  refine pu_ HT_ 2 (some 31) #[true, false, true, false, false, false, false, false, false, false, false] ?_
                  refine pu_ HT_ 4 (some 33) #[true, false, true, false, true, false, false, false, false, false, false] ?_
                  refine pu_ HT_ 5 (some 34) #[true, false, true, false, true, true, false, false, false, false, false] ?_
                  refine pu_ HT_ 6 (some 35) #[true, false, true, false, true, true, true, false, false, false, false] ?_
                  refine ta_ HT_ HW_ 1 (some 30) #[true, true, true, false, true, true, true, false, false, false, false] hHeld ?_
                  refine ta_ HT_ HW_ 3 (some 32) #[true, true, true, true, true, true, true, false, false, false, false] hHeld ?_
                  refine pu_ HT_ 7 (some 36) #[true, true, true, true, true, true, true, true, false, false, false] ?_
                  refine on_ HT_ 8 (some 37) #[true, true, true, true, true, true, true, true, true, false, false] (fun K hK => ?_)
                  refine go1_ Tryd.func99 #[.slice Ao27 x148000_1.length co27, .string (cat.extract (x6_1 : Int).toNat ((wrap64 (x6_1 + 64)) : Int).toNat)] ?_
                  with_reducible refine (spec_l05Block.calls _ _ x148000_1 (cat.extract (x6_1 : Int).toNat ((wrap64 (x6_1 + 64)) : Int).toNat) t148 _ ?side1 ?side2 A22.out).mono ?_
                  (case side1 => repeat (first | exact (Kd.R_reads' HO_148000.out).2.2 | (with_reducible refine Kd.C_alloc ?_ _) | (with_reducible refine Kd.C_drewN ?_ _) | (with_reducible refine Kd.C_drew ?_)))
                  (case side2 => exact (Kd.R_reads' HO_148000.out).2.1)
                  rintro e w28 ⟨v149, rfl, ho0, hb⟩
                  refine ⟨_, rfl, ?_⟩
                  have HO150 := AM (Kd.R_lower (Kd.R_new' ho0 (Kd.R_lt (ro_ HO_148000.out))) (below_size bel_))
                  replace HO_148000 := AM (Kd.R_elder' (ro_ HO_148000.out) (Kd.R_base ho0) hb)
                  replace BK139 := AM (blk_below (g := gb139) (o := .cells #[.slice A0_0 l0_0.length c0_0, .string a0_1, .int .i64 a0_2] 39 (0, 0)) (bk_ BK139.out) hb)
                  replace BK140 := AM (blk_below (g := gb140) (o := .cells #[.slice none 0 0, .string (⟨#[]⟩ : ByteArray), .int .i64 0] 39 (0, 0)) (bk_ BK140.out) hb)
                  replace BK147 := AM (blk_below (g := gb147) (o := .cells #[.slice Ao27 x148000_1.length co27, .string cat, .int .i64 (wrap64 (a0_2 + (a1.size : Int)))] 39 (0, 0)) (bk_ BK147.out) hb)
                  replace HB := AM (below_step bel_ hb)
                  (try clear hb)
                  (try clear hb2)
                  (try clear hk)
                  (try clear hi)
                  (try clear ho0)
                  obtain ⟨Ao29, co29, eo29⟩ := Kd.R_slice HO150.out
                  (first | subst eo29 | (injection eo29 with f1_ f2_ f3_; have f4_ := f1_.symm; have f5_ := f3_.symm; clear f1_ f2_ f3_; subst f4_; subst f5_))
                  refine hK.out _ _ ⟨(blk_cell BK147.out 0).trans rfl, (blk_cell BK147.out 1).trans rfl, (blk_cell BK147.out 2).trans rfl⟩ (fun hHeld => ?_)
                  clear hK K
                  refine nm_ ?_
                  refine pu_ HT_ 9 (some 38) #[true, true, true, true, true, true, true, true, true, true, false] ?_
                  refine last_ (i := 10) (N := none) #[true, true, true, true, true, true, true, true, true, true, true] rfl rfl (one_of HT_.out (by kernel_rfl)) (by decide) (fun K hK => ?_)
                  have hs30 : w28.cell? ⟨gb147, 0, none⟩ = some (.slice Ao27 x148000_1.length co27) := (blk_cell BK147.out 0).trans rfl
                  have hfs30 := blk_frozen BK147.out 0
                  have hns30_0 := NB139_147.out
                  have hns30_1 := NB140_147.out
                  have hms30_0 := NB147_139.out
                  have hms30_1 := NB147_140.out
                  refine sk_ ?_
                  refine hK.out _ _ ?_
                  clear hK K
                  refine dn_ HT_ ?_
                  try go_wp2
                  go_roundg k1
                  case measure => have := HK1.out; omega
                  case rel => exact ⟨(wrap64 (x6_1 + 64)), (t148), (.slice Ao29 t148.length co29), (by first | rfl | (simp; done) | (simp [*]; done)), H', ⟨by have := HK1.out; omega⟩, ⟨by (with_reducible repeat (first | apply Kd.R_alloc | apply Kd.R_drewN | apply Kd.R_drew)); exact Kd.R_mono (Kd.R_far (p := ⟨gb147, 0, none⟩) (Kd.R_types HO150.out BK147.out (by decide)) (fun _ hk => hk.2) (.slice Ao29 t148.length co29)) (fun _ hk => trivial)⟩, ⟨bka_⟩, ⟨bka_⟩, ⟨bka_⟩, ⟨bel_⟩⟩
                · rw [if_neg c21] at H
                  exact absurd H (by simp)
              · rw [if_neg c20] at H
                exact absurd H (by simp)
            · rw [if_neg c19] at H
              exact absurd H (by simp)
          · rw [if_neg c18] at H
            have c18b0 : decide (64 ≤ (wrap64 ((cat.size : Int) - x6_1))) = false := decide_eq_false c18
            try have c18b9 : (decide (64 ≤ (((cat.size : Int) - x6_1)))) = false := (by have hw0 : wrap64 ((cat.size : Int) - x6_1) = (cat.size : Int) - x6_1 := (by unfold wrap64; omega); have z_ := c18b0; simp only [hw0] at z_; exact z_)
            clear c18
            by_cases c31 : 0 ≤ x6_1
            · rw [if_pos c31] at H
              have c31b0 := eq_true c31
              have c31b1 : decide (0 ≤ x6_1) = true := decide_eq_true c31
              clear c31
              by_cases c32 : x6_1 ≤ (cat.size : Int)
              · rw [if_pos c32] at H
                have c32b0 := eq_true c32
                have c32b1 : decide (x6_1 ≤ (cat.size : Int)) = true := decide_eq_true c32
                simp only [Option.some.injEq, Prod.mk.injEq] at H
                obtain ⟨rfl, rfl, rfl⟩ := H
                have hnb33 := NB147_139.out
                have hnc33 := NB139_147.out
                have hnb34 := NB147_140.out
                have hnc34 := NB140_147.out
                have hcz35_0 : wr.cell? ⟨gb147, 0, none⟩ = some (u148000) := (blk_cell BK147.out 0).trans rfl
                have hcz35_1 : wr.cell? ⟨gb147, 1, none⟩ = some (.string cat) := (blk_cell BK147.out 1).trans rfl
                have hcz35_2 : wr.cell? ⟨gb147, 2, none⟩ = some (.int .i64 (wrap64 (a0_2 + (a1.size : Int)))) := (blk_cell BK147.out 2).trans rfl
                have hfz35_0 := blk_frozen BK147.out 0
                have hfz35_1 := blk_frozen BK147.out 1
                have hfz35_2 := blk_frozen BK147.out 2
                obtain ⟨Ao36, co36, eo36⟩ := Kd.R_slice HO_148000.out
                subst eo36
                have hnb37 := NB140_139.out
                have hnc37 := NB139_140.out
                have hcz38_0 : wr.cell? ⟨gb140, 0, none⟩ = some (.slice none 0 0) := (blk_cell BK140.out 0).trans rfl
                have hcz38_1 : wr.cell? ⟨gb140, 1, none⟩ = some (.string (⟨#[]⟩ : ByteArray)) := (blk_cell BK140.out 1).trans rfl
                have hcz38_2 : wr.cell? ⟨gb140, 2, none⟩ = some (.int .i64 0) := (blk_cell BK140.out 2).trans rfl
                have hfz38_0 := blk_frozen BK140.out 0
                have hfz38_1 := blk_frozen BK140.out 1
                have hfz38_2 := blk_frozen BK140.out 2
                go_wp2
                refine bodyPost_ret (results_cell_row rfl _ _ gb140 39 #[.slice Ao36 x148000_1.length co36, .string (cat.extract (x6_1 : Int).toNat cat.size), .int .i64 (wrap64 (a0_2 + (a1.size : Int)))] (0, 0) _ rfl bka_ Tryd.underlying39 rfl (by kernel_rfl)) rfl ?_
                exact ⟨_, ri_, by (with_reducible repeat (first | apply Kd.R_alloc | apply Kd.R_drewN | apply Kd.R_drew)); exact Kd.R_mono (Kd.R_far (p := ⟨gb140, 2, none⟩) (Kd.R_far (p := ⟨gb140, 1, none⟩) (Kd.R_far (p := ⟨gb140, 0, none⟩) (Kd.R_far (p := ⟨gb147, 1, none⟩) (Kd.R_types (Kd.R_types HO_148000.out BK147.out (by decide)) BK140.out (by decide)) (fun _ hk => hk.1.2) (.string (cat.extract (x6_1 : Int).toNat cat.size))) (fun _ hk => hk.2) (.slice Ao36 x148000_1.length co36)) (fun _ hk => hk.2) (.string (cat.extract (x6_1 : Int).toNat cat.size))) (fun _ hk => hk.2) (.int .i64 (wrap64 (a0_2 + (a1.size : Int))))) (fun _ hk => trivial), bel_⟩
              · rw [if_neg c32] at H
                exact absurd H (by simp)
            · rw [if_neg c31] at H
              exact absurd H (by simp)
    · rw [if_neg c4] at H
      exact absurd H (by simp)
  · rw [if_neg c3] at H
    exact absurd H (by simp)

end Go.Proofs.YtfffdndeccipnaaDoor.PFnHash
