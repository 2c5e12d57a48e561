/- Functions of the law FnExactPackRead: the print's, with walks of this session's own. No statement is proved here. -/
import Derived.WalkLawsBesides
import Derived.Test.YtfffdndeccipnaaDoorVRegFnExactPackRead
-- A program of this session wrote this text: a changed copy of the kit print, with given functions.
import Derived.Test.YtfffdndeccipnaaDoorPFnExactPackReadx0
import Derived.Test.YtfffdndeccipnaaDoorPFnExactPackReadx1
namespace Go.Proofs.YtfffdndeccipnaaDoor.PFnExactPackRead
open Go.RowKit Go.Proofs.YtfffdndeccipnaaDoorW.PrintWords Go.Proofs.YtfffdndeccipnaaDoorW.PrintLast Go.Proofs.YtfffdndeccipnaaDoorW.PrintMore Go.Proofs.YtfffdndeccipnaaDoor.Reg Go.Proofs.YtfffdndeccipnaaDoor.Aut
attribute [local go_sem] max2_int min2_int max_two min_two max_three min_three max_four min_four   -- for this text's walks alone
set_option linter.unusedVariables false
set_option linter.unusedSimpArgs false

/-! ### spec_l05More: function 56 -/
def spec_l05More.l0 : Nat → Int → List Int → ByteArray → Int → Option (List Int × ByteArray × Int)
  | 0, _, _, _, _ => none
  | k + 1, x6, x114000, x114001, x114002 => if (wrap64 ((x114001.size : Int) - x6)) ≥ 64 then (if 0 ≤ x6 then (if x6 ≤ (wrap64 (x6 + 64)) then (if (wrap64 (x6 + 64)) ≤ (x114001.size : Int) then ((spec_l05Block.f x114000 (x114001.extract (x6 : Int).toNat ((wrap64 (x6 + 64)) : Int).toNat)).bind fun t114 => (spec_l05More.l0 k (wrap64 (x6 + 64)) t114 x114001 x114002)) else (none)) else (none)) else (none)) else (if 0 ≤ x6 then (if x6 ≤ (x114001.size : Int) then (some (x114000, x114001.extract (x6 : Int).toNat x114001.size, x114002)) else (none)) else (none))
def spec_l05More.f (k : Nat) (l0_0 : List Int) (a0_1 : ByteArray) (a0_2 : Int) (a1 : ByteArray) : Option (List Int × ByteArray × Int) := (some (([] : List Int) : List Int)).bind fun y107 => (if y107.length + l0_0.length < 17592186044416 then (if a0_1.size + a1.size ≤ 9223372036854775807 then (spec_l05More.l0 k 0 (y107 ++ l0_0) (a0_1 ++ a1) (wrap64 (a0_2 + (a1.size : Int)))) else (none)) else (none))
theorem spec_l05More.mono_l : ∀ k, (∀ y0 y1 y2 y3, LeO (spec_l05More.l0 k y0 y1 y2 y3) (spec_l05More.l0 (k + 1) y0 y1 y2 y3))
  | 0 => fun _ _ _ _ r h => by simp [spec_l05More.l0] at h
  | k + 1 => by
    have ih0 := spec_l05More.mono_l k
    · intro y0 y1 y2 y3
      unfold spec_l05More.l0
      repeat' first
      | (with_reducible exact ih0 _ _ _ _)
      | (with_reducible exact LeO.refl _)
      | (with_reducible exact LeO.none _)
      | (with_reducible refine LeO.ite ?_ ?_)
      | (with_reducible refine LeO.bind ?_ (fun _ => ?_))
      | exact ih0 _ _ _ _
      | exact LeO.none _
      | refine LeO.ite ?_ ?_
      | refine LeO.bind ?_ (fun _ => ?_)
theorem spec_l05More.mono : ∀ a0 a1 a2 a3 k, LeO (spec_l05More.f k a0 a1 a2 a3) (spec_l05More.f (k + 1) a0 a1 a2 a3) := by
  intro a0 a1 a2 a3 k
  have ih0 := spec_l05More.mono_l k
  unfold spec_l05More.f
  repeat' first
      | (with_reducible exact ih0 _ _ _ _)
      | (with_reducible exact LeO.refl _)
      | (with_reducible exact LeO.none _)
      | (with_reducible refine LeO.ite ?_ ?_)
      | (with_reducible refine LeO.bind ?_ (fun _ => ?_))
      | exact ih0 _ _ _ _
      | exact LeO.none _
      | refine LeO.ite ?_ ?_
      | refine LeO.bind ?_ (fun _ => ?_)
def spec_l05More.T1 : Bool × List (List Nat × List Nat) := (true, [([], []), ([], []), ([1], [1]), ([0, 2], [0, 2]), ([], []), ([4], [4]), ([], []), ([5, 6], [5, 6]), ([], []), ([8], [8]), ([], []), ([10], [10]), ([9, 11], [9, 11]), ([3, 7, 12], [3, 7, 12]), ([], []), ([14, 13, 3, 0, 1, 2, 3, 4, 5, 6, 7, 8, 9, 10, 11, 12, 13, 14], [13, 14])])
def spec_l05More.B1 : List Nat := [0, 0, 2, 7, 0, 16, 0, 112, 0, 256, 0, 1024, 3840, 8191, 0, 32767]
theorem spec_l05More.tab1 : rtab .any (opsOf Tryd.f56 1) = spec_l05More.T1 := by kernel_rfl
theorem spec_l05More.bits1 : waitsOk spec_l05More.T1.2 spec_l05More.B1 = true := by kernel_rfl
def spec_l05More.T5 : Bool × List (List Nat × List Nat) := (true, [([], []), ([0], [0]), ([], []), ([2], [2]), ([], []), ([], []), ([5], [5]), ([3, 4, 6], [3, 4, 6]), ([1, 7], [1, 7]), ([0, 1, 2, 3, 4, 5, 6, 7, 8], []), ([9, 8, 8, 0, 1, 2, 3, 4, 5, 6, 7, 8], [8, 9])])
def spec_l05More.B5 : List Nat := [0, 1, 0, 4, 0, 0, 32, 124, 255, 511, 1023]
theorem spec_l05More.tab5 : rtab .any (opsOf Tryd.f56 5) = spec_l05More.T5 := by kernel_rfl
theorem spec_l05More.bits5 : waitsOk spec_l05More.T5.2 spec_l05More.B5 = true := by kernel_rfl
set_option maxHeartbeats 8000000 in
set_option maxRecDepth 100000 in
theorem spec_l05More.calls (k : Nat) (A0_0 : Option Addr) (c0_0 : Nat) (l0_0 : List Int) (a0_1 : ByteArray) (a0_2 : Int) (a1 : ByteArray) (r1 : List Int) (r2 : ByteArray) (r3 : Int) (w : World) (hr0_0 : Kd.C (Kd.int .i64) w A0_0 l0_0.length l0_0) (hc0_0 : l0_0.length ≤ c0_0) (h : spec_l05More.f k l0_0 a0_1 a0_2 a1 = some (r1, r2, r3)) :
    Calls Tryd.prog 56 #[.agg #[.slice A0_0 l0_0.length c0_0, .string a0_1, .int .i64 a0_2], .string a1] w fun e w' => ∃ v0_ : Value, e = .returned (.agg #[v0_, .string r2, .int .i64 r3]) ∧ Kd.R (Kd.int .i64) 2 w' w.heap.size (fun _ => True) v0_ r1 ∧ Below w.heap.size w w' := by
  have hu39 := Tryd.underlying39
  have HR0_0 := AM hr0_0
  have HC0_0 := AM hc0_0
  clear hr0_0 hc0_0
  have HB := AM (Below.refl w.heap.size w)
  have H : ((some (([] : List Int) : List Int)).bind fun y107 => (if y107.length + l0_0.length < 17592186044416 then (if a0_1.size + a1.size ≤ 9223372036854775807 then (spec_l05More.l0 k 0 (y107 ++ l0_0) (a0_1 ++ a1) (wrap64 (a0_2 + (a1.size : Int)))) else (none)) else (none))) = some (r1, r2, r3) := h
  clear h
  obtain ⟨y107, hy107⟩ : ∃ y_ : List Int, y_ = (([] : List Int)) := ⟨_, rfl⟩
  replace H : (if y107.length + l0_0.length < 17592186044416 then (if a0_1.size + a1.size ≤ 9223372036854775807 then (spec_l05More.l0 k 0 (y107 ++ l0_0) (a0_1 ++ a1) (wrap64 (a0_2 + (a1.size : Int)))) else (none)) else (none)) = some (r1, r2, r3) := by first | (rw [hy107]; with_reducible exact H) | (have H2_ := (Option.bind_some _ _).symm.trans H; rw [hy107]; with_reducible exact H2_) | (have H2_ := (Option.bind_some _ _).symm.trans H; with_reducible exact H2_) | with_reducible exact H | (rw [hy107]; exact H) | exact H
  have Ny107 := AM hy107
  clear hy107
  by_cases c3 : y107.length + l0_0.length < 17592186044416
  · rw [if_pos c3] at H
    have LMc3 := AM c3
    clear c3
    obtain ⟨y110, hy110⟩ : ∃ y_ : List Int, y_ = (y107 ++ l0_0) := ⟨_, rfl⟩
    replace H : (if a0_1.size + a1.size ≤ 9223372036854775807 then (spec_l05More.l0 k 0 y110 (a0_1 ++ a1) (wrap64 (a0_2 + (a1.size : Int)))) else (none)) = some (r1, r2, r3) := by first | (rw [hy110]; with_reducible exact H) | (have H2_ := (Option.bind_some _ _).symm.trans H; rw [hy110]; with_reducible exact H2_) | (have H2_ := (Option.bind_some _ _).symm.trans H; with_reducible exact H2_) | with_reducible exact H | (rw [hy110]; exact H) | exact H
    have Ny110 := AM hy110
    clear hy110
    by_cases c4 : a0_1.size + a1.size ≤ 9223372036854775807
    · rw [if_pos c4] at H
      have c4b0 := eq_true c4
      have c4b1 : decide (a0_1.size + a1.size ≤ 9223372036854775807) = true := decide_eq_true c4
      try have c4b2 : (9223372036854775807 < a0_1.size + a1.size) = False := eq_false (Nat.not_lt.2 c4)
      have H' := AM H
      clear H
      go_enter Tryd.func56, Tryd.ntmps56
      try go_wp2_with (first | ((with_reducible refine gate_dst (N := 2) rfl ?_); refine be_ 2 #[.slice A0_0 l0_0.length c0_0, .string a0_1, .int .i64 a0_2] 39 ?_; intro gb105 hg w5 hbox hb; have BK105 := AM hbox; have GW105 := AM ((by rw [hg]; exact (below_size bel_) : w.heap.size ≤ gb105)); have GE105 := AM ((by rw [hg]; exact (below_size bel_) : w.heap.size ≤ gb105)); replace HB := AM (below_step bel_ hb); clear hb hbox hg) | ((with_reducible refine gate_dst (N := 4) rfl ?_); refine be_ 4 #[.slice none 0 0, .string (⟨#[]⟩ : ByteArray), .int .i64 0] 39 ?_; intro gb106 hg w6 hbox hb; have BK106 := AM hbox; have GW106 := AM ((by rw [hg]; exact (below_size bel_) : w.heap.size ≤ gb106)); have GE106 := AM ((by rw [hg]; exact (below_size bel_) : w.heap.size ≤ gb106)); replace HB := AM (below_step bel_ hb); have NB105_106 := AM ((by rw [hg]; exact Nat.ne_of_lt (blk_lt (g := gb105) (o := .cells #[.slice A0_0 l0_0.length c0_0, .string a0_1, .int .i64 a0_2] 39 (0, 0)) (bk_ BK105.out)) : gb105 ≠ gb106)); have NB106_105 := AM ((by rw [hg]; exact Nat.ne_of_gt (blk_lt (g := gb105) (o := .cells #[.slice A0_0 l0_0.length c0_0, .string a0_1, .int .i64 a0_2] 39 (0, 0)) (bk_ BK105.out)) : gb106 ≠ gb105)); replace BK105 := AM (blk_below (g := gb105) (o := .cells #[.slice A0_0 l0_0.length c0_0, .string a0_1, .int .i64 a0_2] 39 (0, 0)) (bk_ BK105.out) hb); clear hb hbox hg))
      replace BK105 := AM (blk_drew BK105.out)
      replace BK106 := AM (blk_drew BK106.out)
      replace HB := AM (below_drew1 HB.out)
      refine start_ (n := 16) (S := fun w' => w'.cell? ⟨gb105, 0, none⟩ = some (.slice A0_0 l0_0.length c0_0) ∧ w'.cell? ⟨gb105, 1, none⟩ = some (.string a0_1) ∧ w'.cell? ⟨gb105, 2, none⟩ = some (.int .i64 a0_2)) (ds := []) #[false, false, false, false, false, false, false, false, false, false, false, false, false, false, false, false] (by kernel_rfl) rfl rfl ⟨(blk_cell BK105.out 0).trans rfl, (blk_cell BK105.out 1).trans rfl, (blk_cell BK105.out 2).trans rfl⟩ (fun hHeld => ?_); refine with_tabW spec_l05More.tab1 spec_l05More.bits1 (fun HT_ HW_ => ?_)
      generalize w6.drew = w7 at BK105 BK106 HB hHeld ⊢
      refine pu_ HT_ 1 (some 8) #[false, true, false, false, false, false, false, false, false, false, false, false, false, false, false, false] ?_
      refine pu_ HT_ 4 (some 11) #[false, true, false, false, true, false, false, false, false, false, false, false, false, false, false, false] ?_
      refine pu_ HT_ 6 (some 13) #[false, true, false, false, true, false, true, false, false, false, false, false, false, false, false, false] ?_
      refine pu_ HT_ 8 (some 15) #[false, true, false, false, true, false, true, false, true, false, false, false, false, false, false, false] ?_
      refine pu_ HT_ 10 (some 17) #[false, true, false, false, true, false, true, false, true, false, true, false, false, false, false, false] ?_
      refine pu_ HT_ 11 (some 18) #[false, true, false, false, true, false, true, false, true, false, true, true, false, false, false, false] ?_
      refine ta_ HT_ HW_ 2 (some 9) #[false, true, true, false, true, false, true, false, true, false, true, true, false, false, false, false] hHeld ?_
      refine ta_ HT_ HW_ 5 (some 12) #[false, true, true, false, true, true, true, false, true, false, true, true, false, false, false, false] hHeld ?_
      refine pu_ HT_ 7 (some 14) #[false, true, true, false, true, true, true, true, true, false, true, true, false, false, false, false] ?_
      refine ta_ HT_ HW_ 9 (some 16) #[false, true, true, false, true, true, true, true, true, true, true, true, false, false, false, false] hHeld ?_
      refine pu_ HT_ 12 (some 19) #[false, true, true, false, true, true, true, true, true, true, true, true, true, false, false, false] ?_
      refine join_ (σ := Value × Value × Nat) 1 #[true, true, true, true, true, true, true, true, true, true, true, true, true, true, true, false] (fun s_ => [(7, s_.1), (10, s_.2.1), (5, .pointer (some ⟨s_.2.2, 0, none⟩)), (20, .agg #[s_.2.1, .string (a0_1 ++ a1), .int .i64 (wrap64 (a0_2 + (a1.size : Int)))])]) (fun s_ w' => (w'.cell? ⟨gb105, 0, none⟩ = some (.slice A0_0 l0_0.length c0_0) ∧ w'.cell? ⟨gb105, 1, none⟩ = some (.string a0_1) ∧ w'.cell? ⟨gb105, 2, none⟩ = some (.int .i64 a0_2)) ∧ (Kd.R (Kd.int .i64) 2 w' w.heap.size (fun _ => True) s_.2.1 y110) ∧ (w'.heap[gb105]? = some (.cells #[.slice A0_0 l0_0.length c0_0, .string a0_1, .int .i64 a0_2] 39 (0, 0))) ∧ (w'.heap[gb106]? = some (.cells #[.slice none 0 0, .string (⟨#[]⟩ : ByteArray), .int .i64 0] 39 (0, 0))) ∧ (w'.heap[s_.2.2]? = some (.cells #[.slice none 0 0, .string (⟨#[]⟩ : ByteArray), .int .i64 0] 39 (0, 0))) ∧ (w.heap.size ≤ s_.2.2) ∧ (w.heap.size ≤ s_.2.2) ∧ (gb105 ≠ s_.2.2) ∧ (s_.2.2 ≠ gb105) ∧ (gb106 ≠ s_.2.2) ∧ (s_.2.2 ≠ gb106) ∧ (Below w.heap.size w w')) ?_ ?_
      rotate_left
      · intro hCont
        refine tw_ HT_ 0 14 (some 7) (some 5) #[true, true, true, false, true, true, true, true, true, true, true, true, true, false, false, false] #[false, true, true, false, true, true, true, true, true, true, true, true, true, false, true, false] (fun K hK => ?_) (fun K hK => ?_)
        · skip
          refine Kd.R_lit_step (Kd.int .i64) _ 2 ?hg (N := 7) ?hd (xs := ([] : List Int)) (inner := []) (ok := fun _ => True) (okp := fun _ => True) ?hr ?hp (fun _ hk => hk) trivial (Below.refl _ _) (Nat.le_refl _) (by simp) ?_; (case hd => rfl); (case hg => rfl); (case hr => first | (go_simp; done) | (go_simp; rfl)); (case hp => exact (Reps.none _ _))
          intro v108 w8 ho9 hb hg_ hnew_
          clear hg_ hnew_
          (first | rw [← Ny107.out] at ho9 | (simp only [Int.reduceToNat] at ho9; rw [← Ny107.out] at ho9))
          have HO109 := AM (Kd.R_lower ho9 (below_size bel_))
          replace BK105 := AM (blk_below (g := gb105) (o := .cells #[.slice A0_0 l0_0.length c0_0, .string a0_1, .int .i64 a0_2] 39 (0, 0)) (bk_ BK105.out) hb)
          replace BK106 := AM (blk_below (g := gb106) (o := .cells #[.slice none 0 0, .string (⟨#[]⟩ : ByteArray), .int .i64 0] 39 (0, 0)) (bk_ BK106.out) hb)
          replace HB := AM (below_step bel_ hb)
          clear hb ho9
          refine hK.out _ _ ⟨(blk_cell BK105.out 0).trans rfl, (blk_cell BK105.out 1).trans rfl, (blk_cell BK105.out 2).trans rfl⟩ (fun hHeld => ?_)
          clear hK K
          refine nm_ ?_
          refine tw_ HT_ 3 14 (some 10) (some 5) #[true, true, true, true, true, true, true, true, true, true, true, true, true, false, false, false] #[true, true, true, false, true, true, true, true, true, true, true, true, true, false, true, false] (fun K hK => ?_) (fun K hK => ?_)
          · skip
            refine Kd.R_append_rows_step (Kd.int .i64) (w0 := w) w.heap.size (by rfl) (.tmp 7) (.tmp 9) 37 2 (.int .i64 0) 8 rfl Tryd.underlying37 info2 rfl (by decide) (by omega) v108 y107 l0_0 _ _ _ (fun _ => True) (fun _ => False) rfl rfl ?aO ?aR (fun _ _ h => h) (fun _ h => h.elim) ?aF ?aB ?aS ?aL ?_
            (case aR => repeat (first | exact (Kd.C_below HR0_0.out HB.out) | (with_reducible refine Kd.C_alloc ?_ _) | (with_reducible refine Kd.C_drewN ?_ _) | (with_reducible refine Kd.C_drew ?_)))
            (case aB => exact bel_)
            (case aF => exact (fun _ _ => trivial))
            (case aO => exact (ro_ HO109.out))
            (case aS => exact (below_size bel_))
            (case aL => have := LMc3.out; omega)
            intro v111 w10 ho hb hg hat
            rw [← Ny110.out] at ho
            have n0_ := AM (blk_grown (g := gb105) (o := .cells #[.slice A0_0 l0_0.length c0_0, .string a0_1, .int .i64 a0_2] 39 (0, 0)) (bk_ BK105.out) hg (Kd.R_ne HO109.out BK105.out (by decide)))
            have n1_ := AM (blk_grown (g := gb106) (o := .cells #[.slice none 0 0, .string (⟨#[]⟩ : ByteArray), .int .i64 0] 39 (0, 0)) (bk_ BK106.out) hg (Kd.R_ne HO109.out BK106.out (by decide)))
            have n2_ := AM hb
            have n3_ := AM ho
            clear BK105
            clear BK106
            clear HB
            clear HO109
            have BK105 := n0_
            have BK106 := n1_
            have HB := n2_
            have HO112 := n3_
            clear n0_ n1_ n2_ n3_
            clear ho hb hg hat
            obtain ⟨Ao11, co11, eo11⟩ := Kd.R_slice HO112.out
            (first | subst eo11 | (injection eo11 with f1_ f2_ f3_; have f4_ := f1_.symm; have f5_ := f3_.symm; clear f1_ f2_ f3_; subst f4_; subst f5_))
            refine hK.out _ _ ⟨(blk_cell BK105.out 0).trans rfl, (blk_cell BK105.out 1).trans rfl, (blk_cell BK105.out 2).trans rfl⟩ (fun hHeld => ?_)
            clear hK K
            refine nm_ ?_
            refine pu_ HT_ 13 (some 20) #[true, true, true, true, true, true, true, true, true, true, true, true, true, true, false, false] ?_
            refine on_ HT_ 14 (some 5) #[true, true, true, true, true, true, true, true, true, true, true, true, true, true, true, false] (fun K hK => ?_)
            refine bs_ 5 #[.slice none 0 0, .string (⟨#[]⟩ : ByteArray), .int .i64 0] 39 ?_
            intro gb113 hg w12 hbox hb
            replace HO112 := AM (Kd.R_below (ro_ HO112.out) hb)
            have BK113 := AM hbox
            have GW113 := AM ((by rw [hg]; exact (below_size bel_) : w.heap.size ≤ gb113))
            have GE113 := AM ((by rw [hg]; exact (below_size bel_) : w.heap.size ≤ gb113))
            replace HB := AM (below_step bel_ hb)
            have NB105_113 := AM ((by rw [hg]; exact Nat.ne_of_lt (blk_lt (g := gb105) (o := .cells #[.slice A0_0 l0_0.length c0_0, .string a0_1, .int .i64 a0_2] 39 (0, 0)) (bk_ BK105.out)) : gb105 ≠ gb113))
            have NB113_105 := AM ((by rw [hg]; exact Nat.ne_of_gt (blk_lt (g := gb105) (o := .cells #[.slice A0_0 l0_0.length c0_0, .string a0_1, .int .i64 a0_2] 39 (0, 0)) (bk_ BK105.out)) : gb113 ≠ gb105))
            replace BK105 := AM (blk_below (g := gb105) (o := .cells #[.slice A0_0 l0_0.length c0_0, .string a0_1, .int .i64 a0_2] 39 (0, 0)) (bk_ BK105.out) hb)
            have NB106_113 := AM ((by rw [hg]; exact Nat.ne_of_lt (blk_lt (g := gb106) (o := .cells #[.slice none 0 0, .string (⟨#[]⟩ : ByteArray), .int .i64 0] 39 (0, 0)) (bk_ BK106.out)) : gb106 ≠ gb113))
            have NB113_106 := AM ((by rw [hg]; exact Nat.ne_of_gt (blk_lt (g := gb106) (o := .cells #[.slice none 0 0, .string (⟨#[]⟩ : ByteArray), .int .i64 0] 39 (0, 0)) (bk_ BK106.out)) : gb113 ≠ gb106))
            replace BK106 := AM (blk_below (g := gb106) (o := .cells #[.slice none 0 0, .string (⟨#[]⟩ : ByteArray), .int .i64 0] 39 (0, 0)) (bk_ BK106.out) hb)
            clear hb hbox hg
            refine hK.out _ _ ⟨(blk_cell BK105.out 0).trans rfl, (blk_cell BK105.out 1).trans rfl, (blk_cell BK105.out 2).trans rfl⟩ (fun hHeld => ?_)
            clear hK K
            refine nm_ ?_
            exact nmE_ (hCont (v108, .slice Ao11 y110.length co11, gb113) _ ⟨hHeld, (ro_ HO112.out), (bk_ BK105.out), (bk_ BK106.out), (bk_ BK113.out), GW113.out, GE113.out, NB105_113.out, NB113_105.out, NB106_113.out, NB113_106.out, bel_⟩)
          · skip
            refine bs_ 5 #[.slice none 0 0, .string (⟨#[]⟩ : ByteArray), .int .i64 0] 39 ?_
            intro gb113 hg w10 hbox hb
            replace HO109 := AM (Kd.R_below (ro_ HO109.out) hb)
            have BK113 := AM hbox
            have GW113 := AM ((by rw [hg]; exact (below_size bel_) : w.heap.size ≤ gb113))
            have GE113 := AM ((by rw [hg]; exact (below_size bel_) : w.heap.size ≤ gb113))
            replace HB := AM (below_step bel_ hb)
            have NB105_113 := AM ((by rw [hg]; exact Nat.ne_of_lt (blk_lt (g := gb105) (o := .cells #[.slice A0_0 l0_0.length c0_0, .string a0_1, .int .i64 a0_2] 39 (0, 0)) (bk_ BK105.out)) : gb105 ≠ gb113))
            have NB113_105 := AM ((by rw [hg]; exact Nat.ne_of_gt (blk_lt (g := gb105) (o := .cells #[.slice A0_0 l0_0.length c0_0, .string a0_1, .int .i64 a0_2] 39 (0, 0)) (bk_ BK105.out)) : gb113 ≠ gb105))
            replace BK105 := AM (blk_below (g := gb105) (o := .cells #[.slice A0_0 l0_0.length c0_0, .string a0_1, .int .i64 a0_2] 39 (0, 0)) (bk_ BK105.out) hb)
            have NB106_113 := AM ((by rw [hg]; exact Nat.ne_of_lt (blk_lt (g := gb106) (o := .cells #[.slice none 0 0, .string (⟨#[]⟩ : ByteArray), .int .i64 0] 39 (0, 0)) (bk_ BK106.out)) : gb106 ≠ gb113))
            have NB113_106 := AM ((by rw [hg]; exact Nat.ne_of_gt (blk_lt (g := gb106) (o := .cells #[.slice none 0 0, .string (⟨#[]⟩ : ByteArray), .int .i64 0] 39 (0, 0)) (bk_ BK106.out)) : gb113 ≠ gb106))
            replace BK106 := AM (blk_below (g := gb106) (o := .cells #[.slice none 0 0, .string (⟨#[]⟩ : ByteArray), .int .i64 0] 39 (0, 0)) (bk_ BK106.out) hb)
            clear hb hbox hg
            refine hK.out _ _ ⟨(blk_cell BK105.out 0).trans rfl, (blk_cell BK105.out 1).trans rfl, (blk_cell BK105.out 2).trans rfl⟩ (fun hHeld => ?_)
            clear hK K
            refine nm_ ?_
            refine on_ HT_ 3 (some 10) #[true, true, true, true, true, true, true, true, true, true, true, true, true, false, true, false] (fun K hK => ?_)
            refine Kd.R_append_rows_step (Kd.int .i64) (w0 := w) w.heap.size (by rfl) (.tmp 7) (.tmp 9) 37 2 (.int .i64 0) 8 rfl Tryd.underlying37 info2 rfl (by decide) (by omega) v108 y107 l0_0 _ _ _ (fun _ => True) (fun _ => False) rfl rfl ?aO ?aR (fun _ _ h => h) (fun _ h => h.elim) ?aF ?aB ?aS ?aL ?_
            (case aR => repeat (first | exact (Kd.C_below HR0_0.out HB.out) | (with_reducible refine Kd.C_alloc ?_ _) | (with_reducible refine Kd.C_drewN ?_ _) | (with_reducible refine Kd.C_drew ?_)))
            (case aB => exact bel_)
            (case aF => exact (fun _ _ => trivial))
            (case aO => exact (ro_ HO109.out))
            (case aS => exact (below_size bel_))
            (case aL => have := LMc3.out; omega)
            intro v111 w11 ho hb hg hat
            rw [← Ny110.out] at ho
            have n0_ := AM (blk_grown (g := gb105) (o := .cells #[.slice A0_0 l0_0.length c0_0, .string a0_1, .int .i64 a0_2] 39 (0, 0)) (bk_ BK105.out) hg (Kd.R_ne HO109.out BK105.out (by decide)))
            have n1_ := AM (blk_grown (g := gb106) (o := .cells #[.slice none 0 0, .string (⟨#[]⟩ : ByteArray), .int .i64 0] 39 (0, 0)) (bk_ BK106.out) hg (Kd.R_ne HO109.out BK106.out (by decide)))
            have n2_ := AM (blk_grown (g := gb113) (o := .cells #[.slice none 0 0, .string (⟨#[]⟩ : ByteArray), .int .i64 0] 39 (0, 0)) (bk_ BK113.out) hg (Kd.R_ne HO109.out BK113.out (by decide)))
            have n3_ := AM hb
            have n4_ := AM ho
            clear BK105
            clear BK106
            clear BK113
            clear HB
            clear HO109
            have BK105 := n0_
            have BK106 := n1_
            have BK113 := n2_
            have HB := n3_
            have HO112 := n4_
            clear n0_ n1_ n2_ n3_ n4_
            clear ho hb hg hat
            obtain ⟨Ao12, co12, eo12⟩ := Kd.R_slice HO112.out
            (first | subst eo12 | (injection eo12 with f1_ f2_ f3_; have f4_ := f1_.symm; have f5_ := f3_.symm; clear f1_ f2_ f3_; subst f4_; subst f5_))
            refine hK.out _ _ ⟨(blk_cell BK105.out 0).trans rfl, (blk_cell BK105.out 1).trans rfl, (blk_cell BK105.out 2).trans rfl⟩ (fun hHeld => ?_)
            clear hK K
            refine nm_ ?_
            refine pu_ HT_ 13 (some 20) #[true, true, true, true, true, true, true, true, true, true, true, true, true, true, true, false] ?_
            exact nmE_ (hCont (v108, .slice Ao12 y110.length co12, gb113) _ ⟨hHeld, (ro_ HO112.out), (bk_ BK105.out), (bk_ BK106.out), (bk_ BK113.out), GW113.out, GE113.out, NB105_113.out, NB113_105.out, NB106_113.out, NB113_106.out, bel_⟩)
        · skip
          refine bs_ 5 #[.slice none 0 0, .string (⟨#[]⟩ : ByteArray), .int .i64 0] 39 ?_
          intro gb113 hg w8 hbox hb
          have BK113 := AM hbox
          have GW113 := AM ((by rw [hg]; exact (below_size bel_) : w.heap.size ≤ gb113))
          have GE113 := AM ((by rw [hg]; exact (below_size bel_) : w.heap.size ≤ gb113))
          replace HB := AM (below_step bel_ hb)
          have NB105_113 := AM ((by rw [hg]; exact Nat.ne_of_lt (blk_lt (g := gb105) (o := .cells #[.slice A0_0 l0_0.length c0_0, .string a0_1, .int .i64 a0_2] 39 (0, 0)) (bk_ BK105.out)) : gb105 ≠ gb113))
          have NB113_105 := AM ((by rw [hg]; exact Nat.ne_of_gt (blk_lt (g := gb105) (o := .cells #[.slice A0_0 l0_0.length c0_0, .string a0_1, .int .i64 a0_2] 39 (0, 0)) (bk_ BK105.out)) : gb113 ≠ gb105))
          replace BK105 := AM (blk_below (g := gb105) (o := .cells #[.slice A0_0 l0_0.length c0_0, .string a0_1, .int .i64 a0_2] 39 (0, 0)) (bk_ BK105.out) hb)
          have NB106_113 := AM ((by rw [hg]; exact Nat.ne_of_lt (blk_lt (g := gb106) (o := .cells #[.slice none 0 0, .string (⟨#[]⟩ : ByteArray), .int .i64 0] 39 (0, 0)) (bk_ BK106.out)) : gb106 ≠ gb113))
          have NB113_106 := AM ((by rw [hg]; exact Nat.ne_of_gt (blk_lt (g := gb106) (o := .cells #[.slice none 0 0, .string (⟨#[]⟩ : ByteArray), .int .i64 0] 39 (0, 0)) (bk_ BK106.out)) : gb113 ≠ gb106))
          replace BK106 := AM (blk_below (g := gb106) (o := .cells #[.slice none 0 0, .string (⟨#[]⟩ : ByteArray), .int .i64 0] 39 (0, 0)) (bk_ BK106.out) hb)
          clear hb hbox hg
          refine hK.out _ _ ⟨(blk_cell BK105.out 0).trans rfl, (blk_cell BK105.out 1).trans rfl, (blk_cell BK105.out 2).trans rfl⟩ (fun hHeld => ?_)
          clear hK K
          refine nm_ ?_
          refine on_ HT_ 0 (some 7) #[true, true, true, false, true, true, true, true, true, true, true, true, true, false, true, false] (fun K hK => ?_)
          refine Kd.R_lit_step (Kd.int .i64) _ 2 ?hg (N := 7) ?hd (xs := ([] : List Int)) (inner := []) (ok := fun _ => True) (okp := fun _ => True) ?hr ?hp (fun _ hk => hk) trivial (Below.refl _ _) (Nat.le_refl _) (by simp) ?_; (case hd => rfl); (case hg => rfl); (case hr => first | (go_simp; done) | (go_simp; rfl)); (case hp => exact (Reps.none _ _))
          intro v108 w9 ho10 hb hg_ hnew_
          clear hg_ hnew_
          (first | rw [← Ny107.out] at ho10 | (simp only [Int.reduceToNat] at ho10; rw [← Ny107.out] at ho10))
          have HO109 := AM (Kd.R_lower ho10 (below_size bel_))
          replace BK105 := AM (blk_below (g := gb105) (o := .cells #[.slice A0_0 l0_0.length c0_0, .string a0_1, .int .i64 a0_2] 39 (0, 0)) (bk_ BK105.out) hb)
          replace BK106 := AM (blk_below (g := gb106) (o := .cells #[.slice none 0 0, .string (⟨#[]⟩ : ByteArray), .int .i64 0] 39 (0, 0)) (bk_ BK106.out) hb)
          replace BK113 := AM (blk_below (g := gb113) (o := .cells #[.slice none 0 0, .string (⟨#[]⟩ : ByteArray), .int .i64 0] 39 (0, 0)) (bk_ BK113.out) hb)
          replace HB := AM (below_step bel_ hb)
          clear hb ho10
          refine hK.out _ _ ⟨(blk_cell BK105.out 0).trans rfl, (blk_cell BK105.out 1).trans rfl, (blk_cell BK105.out 2).trans rfl⟩ (fun hHeld => ?_)
          clear hK K
          refine nm_ ?_
          refine on_ HT_ 3 (some 10) #[true, true, true, true, true, true, true, true, true, true, true, true, true, false, true, false] (fun K hK => ?_)
          refine Kd.R_append_rows_step (Kd.int .i64) (w0 := w) w.heap.size (by rfl) (.tmp 7) (.tmp 9) 37 2 (.int .i64 0) 8 rfl Tryd.underlying37 info2 rfl (by decide) (by omega) v108 y107 l0_0 _ _ _ (fun _ => True) (fun _ => False) rfl rfl ?aO ?aR (fun _ _ h => h) (fun _ h => h.elim) ?aF ?aB ?aS ?aL ?_
          (case aR => repeat (first | exact (Kd.C_below HR0_0.out HB.out) | (with_reducible refine Kd.C_alloc ?_ _) | (with_reducible refine Kd.C_drewN ?_ _) | (with_reducible refine Kd.C_drew ?_)))
          (case aB => exact bel_)
          (case aF => exact (fun _ _ => trivial))
          (case aO => exact (ro_ HO109.out))
          (case aS => exact (below_size bel_))
          (case aL => have := LMc3.out; omega)
          intro v111 w11 ho hb hg hat
          rw [← Ny110.out] at ho
          have n0_ := AM (blk_grown (g := gb105) (o := .cells #[.slice A0_0 l0_0.length c0_0, .string a0_1, .int .i64 a0_2] 39 (0, 0)) (bk_ BK105.out) hg (Kd.R_ne HO109.out BK105.out (by decide)))
          have n1_ := AM (blk_grown (g := gb106) (o := .cells #[.slice none 0 0, .string (⟨#[]⟩ : ByteArray), .int .i64 0] 39 (0, 0)) (bk_ BK106.out) hg (Kd.R_ne HO109.out BK106.out (by decide)))
          have n2_ := AM (blk_grown (g := gb113) (o := .cells #[.slice none 0 0, .string (⟨#[]⟩ : ByteArray), .int .i64 0] 39 (0, 0)) (bk_ BK113.out) hg (Kd.R_ne HO109.out BK113.out (by decide)))
          have n3_ := AM hb
          have n4_ := AM ho
          clear BK105
          clear BK106
          clear BK113
          clear HB
          clear HO109
          have BK105 := n0_
          have BK106 := n1_
          have BK113 := n2_
          have HB := n3_
          have HO112 := n4_
          clear n0_ n1_ n2_ n3_ n4_
          clear ho hb hg hat
          obtain ⟨Ao12, co12, eo12⟩ := Kd.R_slice HO112.out
          (first | subst eo12 | (injection eo12 with f1_ f2_ f3_; have f4_ := f1_.symm; have f5_ := f3_.symm; clear f1_ f2_ f3_; subst f4_; subst f5_))
          refine hK.out _ _ ⟨(blk_cell BK105.out 0).trans rfl, (blk_cell BK105.out 1).trans rfl, (blk_cell BK105.out 2).trans rfl⟩ (fun hHeld => ?_)
          clear hK K
          refine nm_ ?_
          refine pu_ HT_ 13 (some 20) #[true, true, true, true, true, true, true, true, true, true, true, true, true, true, true, false] ?_
          exact nmE_ (hCont (v108, .slice Ao12 y110.length co12, gb113) _ ⟨hHeld, (ro_ HO112.out), (bk_ BK105.out), (bk_ BK106.out), (bk_ BK113.out), GW113.out, GE113.out, NB105_113.out, NB113_105.out, NB106_113.out, NB113_106.out, bel_⟩)
      rintro ⟨v108, v111, gb113⟩ w13 ⟨hS_, h0_, h1_, h2_, h3_, h4_, h5_, h6_, h7_, h8_, h9_, h10_⟩
      have HO112 : Aside0 (Kd.R (Kd.int .i64) 2 w13 w.heap.size (fun _ => True) v111 y110) := ⟨h0_⟩
      replace BK105 : Aside0 (w13.heap[gb105]? = some (.cells #[.slice A0_0 l0_0.length c0_0, .string a0_1, .int .i64 a0_2] 39 (0, 0))) := ⟨h1_⟩
      replace BK106 : Aside0 (w13.heap[gb106]? = some (.cells #[.slice none 0 0, .string (⟨#[]⟩ : ByteArray), .int .i64 0] 39 (0, 0))) := ⟨h2_⟩
      have BK113 : Aside0 (w13.heap[gb113]? = some (.cells #[.slice none 0 0, .string (⟨#[]⟩ : ByteArray), .int .i64 0] 39 (0, 0))) := ⟨h3_⟩
      have GW113 : Aside0 (w.heap.size ≤ gb113) := ⟨h4_⟩
      have GE113 : Aside0 (w.heap.size ≤ gb113) := ⟨h5_⟩
      have NB105_113 : Aside0 (gb105 ≠ gb113) := ⟨h6_⟩
      have NB113_105 : Aside0 (gb113 ≠ gb105) := ⟨h7_⟩
      have NB106_113 : Aside0 (gb106 ≠ gb113) := ⟨h8_⟩
      have NB113_106 : Aside0 (gb113 ≠ gb106) := ⟨h9_⟩
      replace HB : Aside0 (Below w.heap.size w w13) := ⟨h10_⟩
      clear h0_ h1_ h2_ h3_ h4_ h5_ h6_ h7_ h8_ h9_ h10_
      have hHeld : w13.cell? ⟨gb105, 0, none⟩ = some (.slice A0_0 l0_0.length c0_0) ∧ w13.cell? ⟨gb105, 1, none⟩ = some (.string a0_1) ∧ w13.cell? ⟨gb105, 2, none⟩ = some (.int .i64 a0_2) := hS_
      obtain ⟨Ao14, co14, eo14⟩ := Kd.R_slice HO112.out
      (first | subst eo14 | (injection eo14 with f1_ f2_ f3_; have f4_ := f1_.symm; have f5_ := f3_.symm; clear f1_ f2_ f3_; subst f4_; subst f5_))
      refine nmA_ ?_
      refine on_ HT_ 15 none #[true, true, true, true, true, true, true, true, true, true, true, true, true, true, true, true] (fun K hK => ?_)
      have hs15 : w13.cell? ⟨gb113, 0, none⟩ = some (.slice none 0 0) := (blk_cell BK113.out 0).trans rfl
      have hfs15 := blk_frozen BK113.out 0
      have hns15_0 := NB105_113.out
      have hns15_1 := NB106_113.out
      have hms15_0 := NB113_105.out
      have hms15_1 := NB113_106.out
      have hs16 : w13.cell? ⟨gb113, 1, none⟩ = some (.string (⟨#[]⟩ : ByteArray)) := (blk_cell BK113.out 1).trans rfl
      have hfs16 := blk_frozen BK113.out 1
      have hns16_0 := NB105_113.out
      have hns16_1 := NB106_113.out
      have hms16_0 := NB113_105.out
      have hms16_1 := NB113_106.out
      have hs17 : w13.cell? ⟨gb113, 2, none⟩ = some (.int .i64 0) := (blk_cell BK113.out 2).trans rfl
      have hfs17 := blk_frozen BK113.out 2
      have hns17_0 := NB105_113.out
      have hns17_1 := NB106_113.out
      have hms17_0 := NB113_105.out
      have hms17_1 := NB113_106.out
      refine sk_ ?_
      refine hK.out _ _ ⟨(by (rw [cell_far, cell_far, cell_far]) <;> first | exact hHeld.1 | exact NB105_113.out), (by (rw [cell_far, cell_far, cell_far]) <;> first | exact hHeld.2.1 | exact NB105_113.out), (by (rw [cell_far, cell_far, cell_far]) <;> first | exact hHeld.2.2 | exact NB105_113.out)⟩ (fun hHeld => ?_)
      clear hK K
      refine dn_ HT_ ?_
      try go_wp2
      obtain ⟨cat, hcat⟩ : ∃ c_ : ByteArray, a0_1 ++ a1 = c_ := ⟨_, rfl⟩
      replace H' := H'.out
      replace BK113 := BK113.out
      rw [hcat] at H'
      try rw [hcat] at BK113
      try rw [hcat]
      replace H' := AM H'
      replace BK113 := AM BK113
      have Ncat := AM hcat
      clear hcat
      go_loopg [6] k (fun kq v6 w' => ∃ (x6_1 : Int) (x114000_1 : List Int) (u114000 : Value), v6 = .int .i64 x6_1 ∧ Aside0 (spec_l05More.l0 kq x6_1 x114000_1 cat (wrap64 (a0_2 + (a1.size : Int))) = some (r1, r2, r3)) ∧ Aside0 (kq ≤ k) ∧ Aside0 (Kd.R (Kd.int .i64) 2 w' w.heap.size (fun _ => True) u114000 x114000_1) ∧ Aside0 (w'.heap[gb105]? = some (.cells #[(.slice A0_0 l0_0.length c0_0), .string a0_1, .int .i64 a0_2] 39 (0, 0))) ∧ Aside0 (w'.heap[gb106]? = some (.cells #[(.slice none 0 0), .string (⟨#[]⟩ : ByteArray), .int .i64 0] 39 (0, 0))) ∧ Aside0 (w'.heap[gb113]? = some (.cells #[u114000, .string cat, .int .i64 (wrap64 (a0_2 + (a1.size : Int)))] 39 (0, 0))) ∧ Aside0 (Below w.heap.size w w'))
      case atStart => exact ⟨(0), (y110), (.slice Ao14 y110.length co14), (by first | rfl | (simp; done) | (simp [*]; done)), H', ⟨Nat.le_refl _⟩, ⟨by (with_reducible repeat (first | apply Kd.R_alloc | apply Kd.R_drewN | apply Kd.R_drew)); exact Kd.R_mono (Kd.R_far (p := ⟨gb113, 2, none⟩) (Kd.R_far (p := ⟨gb113, 1, none⟩) (Kd.R_far (p := ⟨gb113, 0, none⟩) (Kd.R_types HO112.out BK113.out (by decide)) (fun _ hk => hk.2) (.slice Ao14 y110.length co14)) (fun _ hk => hk.2) (.string cat)) (fun _ hk => hk.2) (.int .i64 (wrap64 (a0_2 + (a1.size : Int))))) (fun _ hk => trivial)⟩, ⟨bka_⟩, ⟨bka_⟩, ⟨bka_⟩, ⟨bel_⟩⟩
      case round =>
        clear H'
        try clear p2
        try clear c3
        try clear c4
        try clear c4b0
        try clear c4b1
        try clear c4b2
        try clear c5
        try clear p6
        obtain ⟨x6_1, x114000_1, u114000, rfl, HA, HK1, HO_114000, BK105, BK106, BK113, HB⟩ := hrel
        cases gk with
        | zero => exact absurd HA.out (by simp [spec_l05More.l0])
        | succ k1 =>
          have H := HA.out
          clear HA
          simp only [spec_l05More.l0] at H
          by_cases c18 : (wrap64 ((cat.size : Int) - x6_1)) ≥ 64
          · rw [if_pos c18] at H
            have c18b0 : decide (64 ≤ (wrap64 ((cat.size : Int) - x6_1))) = true := decide_eq_true c18
            try have c18b9 : (decide (64 ≤ (((cat.size : Int) - x6_1)))) = true := (by have hw0 : wrap64 ((cat.size : Int) - x6_1) = (cat.size : Int) - x6_1 := (by unfold wrap64; omega); have z_ := c18b0; simp only [hw0] at z_; exact z_)
            clear c18
            by_cases c19 : 0 ≤ x6_1
            · rw [if_pos c19] at H
              have c19b0 := eq_true c19
              have c19b1 : decide (0 ≤ x6_1) = true := decide_eq_true c19
              clear c19
              by_cases c20 : x6_1 ≤ (wrap64 (x6_1 + 64))
              · rw [if_pos c20] at H
                have c20b0 := eq_true c20
                have c20b1 : decide (x6_1 ≤ (wrap64 (x6_1 + 64))) = true := decide_eq_true c20
                by_cases c21 : (wrap64 (x6_1 + 64)) ≤ (cat.size : Int)
                · rw [if_pos c21] at H
                  have c21b0 := eq_true c21
                  have c21b1 : decide ((wrap64 (x6_1 + 64)) ≤ (cat.size : Int)) = true := decide_eq_true c21
                  obtain ⟨t114, A22, H⟩ := OB H
                  try dsimp only at H
                  replace A22 := AM A22
                  have H' := AM H
                  clear H
                  have hnb23 := NB113_105.out
                  have hnc23 := NB105_113.out
                  have hnb24 := NB113_106.out
                  have hnc24 := NB106_113.out
                  have hcz25_0 : wr.cell? ⟨gb113, 0, none⟩ = some (u114000) := (blk_cell BK113.out 0).trans rfl
                  have hcz25_1 : wr.cell? ⟨gb113, 1, none⟩ = some (.string cat) := (blk_cell BK113.out 1).trans rfl
                  have hcz25_2 : wr.cell? ⟨gb113, 2, none⟩ = some (.int .i64 (wrap64 (a0_2 + (a1.size : Int)))) := (blk_cell BK113.out 2).trans rfl
                  have hfz25_0 := blk_frozen BK113.out 0
                  have hfz25_1 := blk_frozen BK113.out 1
                  have hfz25_2 := blk_frozen BK113.out 2
                  try go_wp2
                  replace HO_114000 := AM (Kd.R_drew HO_114000.out)
                  replace BK105 := AM (blk_drew BK105.out)
                  replace BK106 := AM (blk_drew BK106.out)
                  replace BK113 := AM (blk_drew BK113.out)
                  replace HB := AM (below_drew1 HB.out)
                  obtain ⟨Ao27, co27, eo27⟩ := Kd.R_slice HO_114000.out
                  (first | subst eo27 | (injection eo27 with f1_ f2_ f3_; have f4_ := f1_.symm; have f5_ := f3_.symm; clear f1_ f2_ f3_; subst f4_; subst f5_))
                  refine start_ (n := 11) (S := fun w' => w'.cell? ⟨gb113, 0, none⟩ = some (.slice Ao27 x114000_1.length co27) ∧ w'.cell? ⟨gb113, 1, none⟩ = some (.string cat) ∧ w'.cell? ⟨gb113, 2, none⟩ = some (.int .i64 (wrap64 (a0_2 + (a1.size : Int))))) (ds := [10]) #[false, false, false, false, false, false, false, false, false, false, false] (by kernel_rfl) rfl rfl ⟨(blk_cell BK113.out 0).trans rfl, (blk_cell BK113.out 1).trans rfl, (blk_cell BK113.out 2).trans rfl⟩ (fun hHeld => ?_); refine with_tabW spec_l05More.tab5 spec_l05More.bits5 (fun HT_ HW_ => ?_)
                  generalize wr.drew = w26 at HO_114000 BK105 BK106 BK113 HB hHeld ⊢
                  refine pu_ HT_ 0 (some 29) #[true, false, false, false, false, false, false, false, false, false, false] ?_
                  refine pu_ HT_ 2 (some 31) #[true, false, true, false, false, false, false, false, false, false, false] ?_
                  refine pu_ HT_ 4 (some 33) #[true, false, true, false, true, false, false, false, false, false, false] ?_
                  refine pu_ HT_ 5 (some 34) #[true, false, true, false, true, true, false, false, false, false, false] ?_
                  refine pu_ HT_ 6 (some 35) #[true, false, true, false, true, true, true, false, false, false, false] ?_
                  refine ta_ HT_ HW_ 1 (some 30) #[true, true, true, false, true, true, true, false, false, false, false] hHeld ?_
                  refine ta_ HT_ HW_ 3 (some 32) #[true, true, true, true, true, true, true, false, false, false, false] hHeld ?_
                  refine pu_ HT_ 7 (some 36) #[true, true, true, true, true, true, true, true, false, false, false] ?_
                  refine on_ HT_ 8 (some 37) #[true, true, true, true, true, true, true, true, true, false, false] (fun K hK => ?_)
                  refine go1_ Tryd.func99 #[.slice Ao27 x114000_1.length co27, .string (cat.extract (x6_1 : Int).toNat ((wrap64 (x6_1 + 64)) : Int).toNat)] ?_
                  with_reducible refine (spec_l05Block.calls _ _ x114000_1 (cat.extract (x6_1 : Int).toNat ((wrap64 (x6_1 + 64)) : Int).toNat) t114 _ ?side1 ?side2 A22.out).mono ?_
                  (case side1 => repeat (first | exact (Kd.R_reads' HO_114000.out).2.2 | (with_reducible refine Kd.C_alloc ?_ _) | (with_reducible refine Kd.C_drewN ?_ _) | (with_reducible refine Kd.C_drew ?_)))
                  (case side2 => exact (Kd.R_reads' HO_114000.out).2.1)
                  rintro e w28 ⟨v115, rfl, ho0, hb⟩
                  refine ⟨_, rfl, ?_⟩
                  have HO116 := AM (Kd.R_lower (Kd.R_new' ho0 (Kd.R_lt (ro_ HO_114000.out))) (below_size bel_))
                  replace HO_114000 := AM (Kd.R_elder' (ro_ HO_114000.out) (Kd.R_base ho0) hb)
                  replace BK105 := AM (blk_below (g := gb105) (o := .cells #[.slice A0_0 l0_0.length c0_0, .string a0_1, .int .i64 a0_2] 39 (0, 0)) (bk_ BK105.out) hb)
                  replace BK106 := AM (blk_below (g := gb106) (o := .cells #[.slice none 0 0, .string (⟨#[]⟩ : ByteArray), .int .i64 0] 39 (0, 0)) (bk_ BK106.out) hb)
                  replace BK113 := AM (blk_below (g := gb113) (o := .cells #[.slice Ao27 x114000_1.length co27, .string cat, .int .i64 (wrap64 (a0_2 + (a1.size : Int)))] 39 (0, 0)) (bk_ BK113.out) hb)
                  replace HB := AM (below_step bel_ hb)
                  (try clear hb)
                  (try clear hb2)
                  (try clear hk)
                  (try clear hi)
                  (try clear ho0)
                  obtain ⟨Ao29, co29, eo29⟩ := Kd.R_slice HO116.out
                  (first | subst eo29 | (injection eo29 with f1_ f2_ f3_; have f4_ := f1_.symm; have f5_ := f3_.symm; clear f1_ f2_ f3_; subst f4_; subst f5_))
                  refine hK.out _ _ ⟨(blk_cell BK113.out 0).trans rfl, (blk_cell BK113.out 1).trans rfl, (blk_cell BK113.out 2).trans rfl⟩ (fun hHeld => ?_)
                  clear hK K
                  refine nm_ ?_
                  refine pu_ HT_ 9 (some 38) #[true, true, true, true, true, true, true, true, true, true, false] ?_
                  refine last_ (i := 10) (N := none) #[true, true, true, true, true, true, true, true, true, true, true] rfl rfl (one_of HT_.out (by kernel_rfl)) (by decide) (fun K hK => ?_)
                  have hs30 : w28.cell? ⟨gb113, 0, none⟩ = some (.slice Ao27 x114000_1.length co27) := (blk_cell BK113.out 0).trans rfl
                  have hfs30 := blk_frozen BK113.out 0
                  have hns30_0 := NB105_113.out
                  have hns30_1 := NB106_113.out
                  have hms30_0 := NB113_105.out
                  have hms30_1 := NB113_106.out
                  refine sk_ ?_
                  refine hK.out _ _ ?_
                  clear hK K
                  refine dn_ HT_ ?_
                  try go_wp2
                  go_roundg k1
                  case measure => have := HK1.out; omega
                  case rel => exact ⟨(wrap64 (x6_1 + 64)), (t114), (.slice Ao29 t114.length co29), (by first | rfl | (simp; done) | (simp [*]; done)), H', ⟨by have := HK1.out; omega⟩, ⟨by (with_reducible repeat (first | apply Kd.R_alloc | apply Kd.R_drewN | apply Kd.R_drew)); exact Kd.R_mono (Kd.R_far (p := ⟨gb113, 0, none⟩) (Kd.R_types HO116.out BK113.out (by decide)) (fun _ hk => hk.2) (.slice Ao29 t114.length co29)) (fun _ hk => trivial)⟩, ⟨bka_⟩, ⟨bka_⟩, ⟨bka_⟩, ⟨bel_⟩⟩
                · rw [if_neg c21] at H
                  exact absurd H (by simp)
              · rw [if_neg c20] at H
                exact absurd H (by simp)
            · rw [if_neg c19] at H
              exact absurd H (by simp)
          · rw [if_neg c18] at H
            have c18b0 : decide (64 ≤ (wrap64 ((cat.size : Int) - x6_1))) = false := decide_eq_false c18
            try have c18b9 : (decide (64 ≤ (((cat.size : Int) - x6_1)))) = false := (by have hw0 : wrap64 ((cat.size : Int) - x6_1) = (cat.size : Int) - x6_1 := (by unfold wrap64; omega); have z_ := c18b0; simp only [hw0] at z_; exact z_)
            clear c18
            by_cases c31 : 0 ≤ x6_1
            · rw [if_pos c31] at H
              have c31b0 := eq_true c31
              have c31b1 : decide (0 ≤ x6_1) = true := decide_eq_true c31
              clear c31
              by_cases c32 : x6_1 ≤ (cat.size : Int)
              · rw [if_pos c32] at H
                have c32b0 := eq_true c32
                have c32b1 : decide (x6_1 ≤ (cat.size : Int)) = true := decide_eq_true c32
                simp only [Option.some.injEq, Prod.mk.injEq] at H
                obtain ⟨rfl, rfl, rfl⟩ := H
                have hnb33 := NB113_105.out
                have hnc33 := NB105_113.out
                have hnb34 := NB113_106.out
                have hnc34 := NB106_113.out
                have hcz35_0 : wr.cell? ⟨gb113, 0, none⟩ = some (u114000) := (blk_cell BK113.out 0).trans rfl
                have hcz35_1 : wr.cell? ⟨gb113, 1, none⟩ = some (.string cat) := (blk_cell BK113.out 1).trans rfl
                have hcz35_2 : wr.cell? ⟨gb113, 2, none⟩ = some (.int .i64 (wrap64 (a0_2 + (a1.size : Int)))) := (blk_cell BK113.out 2).trans rfl
                have hfz35_0 := blk_frozen BK113.out 0
                have hfz35_1 := blk_frozen BK113.out 1
                have hfz35_2 := blk_frozen BK113.out 2
                obtain ⟨Ao36, co36, eo36⟩ := Kd.R_slice HO_114000.out
                subst eo36
                have hnb37 := NB106_105.out
                have hnc37 := NB105_106.out
                have hcz38_0 : wr.cell? ⟨gb106, 0, none⟩ = some (.slice none 0 0) := (blk_cell BK106.out 0).trans rfl
                have hcz38_1 : wr.cell? ⟨gb106, 1, none⟩ = some (.string (⟨#[]⟩ : ByteArray)) := (blk_cell BK106.out 1).trans rfl
                have hcz38_2 : wr.cell? ⟨gb106, 2, none⟩ = some (.int .i64 0) := (blk_cell BK106.out 2).trans rfl
                have hfz38_0 := blk_frozen BK106.out 0
                have hfz38_1 := blk_frozen BK106.out 1
                have hfz38_2 := blk_frozen BK106.out 2
                go_wp2
                refine bodyPost_ret (results_cell_row rfl _ _ gb106 39 #[.slice Ao36 x114000_1.length co36, .string (cat.extract (x6_1 : Int).toNat cat.size), .int .i64 (wrap64 (a0_2 + (a1.size : Int)))] (0, 0) _ rfl bka_ Tryd.underlying39 rfl (by kernel_rfl)) rfl ?_
                exact ⟨_, ri_, by (with_reducible repeat (first | apply Kd.R_alloc | apply Kd.R_drewN | apply Kd.R_drew)); exact Kd.R_mono (Kd.R_far (p := ⟨gb106, 2, none⟩) (Kd.R_far (p := ⟨gb106, 1, none⟩) (Kd.R_far (p := ⟨gb106, 0, none⟩) (Kd.R_far (p := ⟨gb113, 1, none⟩) (Kd.R_types (Kd.R_types HO_114000.out BK113.out (by decide)) BK106.out (by decide)) (fun _ hk => hk.1.2) (.string (cat.extract (x6_1 : Int).toNat cat.size))) (fun _ hk => hk.2) (.slice Ao36 x114000_1.length co36)) (fun _ hk => hk.2) (.string (cat.extract (x6_1 : Int).toNat cat.size))) (fun _ hk => hk.2) (.int .i64 (wrap64 (a0_2 + (a1.size : Int))))) (fun _ hk => trivial), bel_⟩
              · rw [if_neg c32] at H
                exact absurd H (by simp)
            · rw [if_neg c31] at H
              exact absurd H (by simp)
    · rw [if_neg c4] at H
      exact absurd H (by simp)
  · rw [if_neg c3] at H
    exact absurd H (by simp)

end Go.Proofs.YtfffdndeccipnaaDoor.PFnExactPackRead
