/- Functions of the law FnFrame: the print's, with walks of this session's own. No statement is proved here. -/
import Derived.WalkLawsBesides
import Derived.Test.YtddapeieolfolaaDoorVRegFnFrame
-- A program of this session wrote this text: a changed copy of the kit print, with given functions.
import Derived.Test.YtddapeieolfolaaDoorPFnFramex0
import Derived.Test.YtddapeieolfolaaDoorPFnFramex4
namespace Go.Proofs.YtddapeieolfolaaDoor.PFnFrame
open Go.RowKit Go.Proofs.YtddapeieolfolaaDoorW.PrintWords Go.Proofs.YtddapeieolfolaaDoorW.PrintLast Go.Proofs.YtddapeieolfolaaDoorW.PrintMore Go.Proofs.YtddapeieolfolaaDoor.Reg Go.Proofs.YtddapeieolfolaaDoor.Aut
attribute [local go_sem] max2_int min2_int max_two min_two max_three min_three max_four min_four   -- for this text's walks alone
set_option linter.unusedVariables false
set_option linter.unusedSimpArgs false

/-! ### spec_l05More: function 67 -/
def spec_l05More.l0 : Nat → Int → List Int → ByteArray → Int → Option (List Int × ByteArray × Int)
  | 0, _, _, _, _ => none
  | k + 1, x6, x133000, x133001, x133002 => if (wrap64 ((x133001.size : Int) - x6)) ≥ 64 then (if 0 ≤ x6 then (if x6 ≤ (wrap64 (x6 + 64)) then (if (wrap64 (x6 + 64)) ≤ (x133001.size : Int) then ((spec_l05Block.f x133000 (x133001.extract (x6 : Int).toNat ((wrap64 (x6 + 64)) : Int).toNat)).bind fun t133 => (spec_l05More.l0 k (wrap64 (x6 + 64)) t133 x133001 x133002)) else (none)) else (none)) else (none)) else (if 0 ≤ x6 then (if x6 ≤ (x133001.size : Int) then (some (x133000, x133001.extract (x6 : Int).toNat x133001.size, x133002)) else (none)) else (none))
def spec_l05More.f (k : Nat) (l0_0 : List Int) (a0_1 : ByteArray) (a0_2 : Int) (a1 : ByteArray) : Option (List Int × ByteArray × Int) := (some (([] : List Int) : List Int)).bind fun y126 => (if y126.length + l0_0.length < 17592186044416 then (if a0_1.size + a1.size ≤ 9223372036854775807 then (spec_l05More.l0 k 0 (y126 ++ l0_0) (a0_1 ++ a1) (wrap64 (a0_2 + (a1.size : Int)))) else (none)) else (none))
theorem spec_l05More.mono_l : ∀ k, (∀ y0 y1 y2 y3, LeO (spec_l05More.l0 k y0 y1 y2 y3) (spec_l05More.l0 (k + 1) y0 y1 y2 y3))
  | 0 => fun _ _ _ _ r h => by simp [spec_l05More.l0] at h
  | k + 1 => by
    have ih0 := spec_l05More.mono_l k
    · intro y0 y1 y2 y3
      unfold spec_l05More.l0
      repeat' first
      | (with_reducible exact ih0 _ _ _ _)
      | (with_reducible exact LeO.refl _)
      | (with_reducible exact LeO.none _)
      | (with_reducible refine LeO.ite ?_ ?_)
      | (with_reducible refine LeO.bind ?_ (fun _ => ?_))
      | exact ih0 _ _ _ _
      | exact LeO.none _
      | refine LeO.ite ?_ ?_
      | refine LeO.bind ?_ (fun _ => ?_)
theorem spec_l05More.mono : ∀ a0 a1 a2 a3 k, LeO (spec_l05More.f k a0 a1 a2 a3) (spec_l05More.f (k + 1) a0 a1 a2 a3) := by
  intro a0 a1 a2 a3 k
  have ih0 := spec_l05More.mono_l k
  unfold spec_l05More.f
  repeat' first
      | (with_reducible exact ih0 _ _ _ _)
      | (with_reducible exact LeO.refl _)
      | (with_reducible exact LeO.none _)
      | (with_reducible refine LeO.ite ?_ ?_)
      | (with_reducible refine LeO.bind ?_ (fun _ => ?_))
      | exact ih0 _ _ _ _
      | exact LeO.none _
      | refine LeO.ite ?_ ?_
      | refine LeO.bind ?_ (fun _ => ?_)
def spec_l05More.T1 : Bool × List (List Nat × List Nat) := (true, [([], []), ([], []), ([1], [1]), ([0, 2], [0, 2]), ([], []), ([4], [4]), ([], []), ([5, 6], [5, 6]), ([], []), ([8], [8]), ([], []), ([10], [10]), ([9, 11], [9, 11]), ([3, 7, 12], [3, 7, 12]), ([], []), ([14, 13, 3, 0, 1, 2, 3, 4, 5, 6, 7, 8, 9, 10, 11, 12, 13, 14], [13, 14])])
def spec_l05More.B1 : List Nat := [0, 0, 2, 7, 0, 16, 0, 112, 0, 256, 0, 1024, 3840, 8191, 0, 32767]
theorem spec_l05More.tab1 : rtab .any (opsOf Tryd.f67 1) = spec_l05More.T1 := by kernel_rfl
theorem spec_l05More.bits1 : waitsOk spec_l05More.T1.2 spec_l05More.B1 = true := by kernel_rfl
def spec_l05More.T5 : Bool × List (List Nat × List Nat) := (true, [([], []), ([0], [0]), ([], []), ([2], [2]), ([], []), ([], []), ([5], [5]), ([3, 4, 6], [3, 4, 6]), ([1, 7], [1, 7]), ([0, 1, 2, 3, 4, 5, 6, 7, 8], []), ([9, 8, 8, 0, 1, 2, 3, 4, 5, 6, 7, 8], [8, 9])])
def spec_l05More.B5 : List Nat := [0, 1, 0, 4, 0, 0, 32, 124, 255, 511, 1023]
theorem spec_l05More.tab5 : rtab .any (opsOf Tryd.f67 5) = spec_l05More.T5 := by kernel_rfl
theorem spec_l05More.bits5 : waitsOk spec_l05More.T5.2 spec_l05More.B5 = true := by kernel_rfl
set_option maxHeartbeats 8000000 in
set_option maxRecDepth 100000 in
theorem spec_l05More.calls (k : Nat) (A0_0 : Option Addr) (c0_0 : Nat) (l0_0 : List Int) (a0_1 : ByteArray) (a0_2 : Int) (a1 : ByteArray) (r1 : List Int) (r2 : ByteArray) (r3 : Int) (w : World) (hr0_0 : Kd.C (Kd.int .i64) w A0_0 l0_0.length l0_0) (hc0_0 : l0_0.length ≤ c0_0) (h : spec_l05More.f k l0_0 a0_1 a0_2 a1 = some (r1, r2, r3)) :
    Calls Tryd.prog 67 #[.agg #[.slice A0_0 l0_0.length c0_0, .string a0_1, .int .i64 a0_2], .string a1] w fun e w' => ∃ v0_ : Value, e = .returned (.agg #[v0_, .string r2, .int .i64 r3]) ∧ Kd.R (Kd.int .i64) 2 w' w.heap.size (fun _ => True) v0_ r1 ∧ Below w.heap.size w w' := by
  have hu42 := Tryd.underlying42
  have HR0_0 := AM hr0_0
  have HC0_0 := AM hc0_0
  clear hr0_0 hc0_0
  have HB := AM (Below.refl w.heap.size w)
  have H : ((some (([] : List Int) : List Int)).bind fun y126 => (if y126.length + l0_0.length < 17592186044416 then (if a0_1.size + a1.size ≤ 9223372036854775807 then (spec_l05More.l0 k 0 (y126 ++ l0_0) (a0_1 ++ a1) (wrap64 (a0_2 + (a1.size : Int)))) else (none)) else (none))) = some (r1, r2, r3) := h
  clear h
  obtain ⟨y126, hy126⟩ : ∃ y_ : List Int, y_ = (([] : List Int)) := ⟨_, rfl⟩
  replace H : (if y126.length + l0_0.length < 17592186044416 then (if a0_1.size + a1.size ≤ 9223372036854775807 then (spec_l05More.l0 k 0 (y126 ++ l0_0) (a0_1 ++ a1) (wrap64 (a0_2 + (a1.size : Int)))) else (none)) else (none)) = some (r1, r2, r3) := by first | (rw [hy126]; with_reducible exact H) | (have H2_ := (Option.bind_some _ _).symm.trans H; rw [hy126]; with_reducible exact H2_) | (have H2_ := (Option.bind_some _ _).symm.trans H; with_reducible exact H2_) | with_reducible exact H | (rw [hy126]; exact H) | exact H
  have Ny126 := AM hy126
  clear hy126
  by_cases c3 : y126.length + l0_0.length < 17592186044416
  · rw [if_pos c3] at H
    have LMc3 := AM c3
    clear c3
    obtain ⟨y129, hy129⟩ : ∃ y_ : List Int, y_ = (y126 ++ l0_0) := ⟨_, rfl⟩
    replace H : (if a0_1.size + a1.size ≤ 9223372036854775807 then (spec_l05More.l0 k 0 y129 (a0_1 ++ a1) (wrap64 (a0_2 + (a1.size : Int)))) else (none)) = some (r1, r2, r3) := by first | (rw [hy129]; with_reducible exact H) | (have H2_ := (Option.bind_some _ _).symm.trans H; rw [hy129]; with_reducible exact H2_) | (have H2_ := (Option.bind_some _ _).symm.trans H; with_reducible exact H2_) | with_reducible exact H | (rw [hy129]; exact H) | exact H
    have Ny129 := AM hy129
    clear hy129
    by_cases c4 : a0_1.size + a1.size ≤ 9223372036854775807
    · rw [if_pos c4] at H
      have c4b0 := eq_true c4
      have c4b1 : decide (a0_1.size + a1.size ≤ 9223372036854775807) = true := decide_eq_true c4
      try have c4b2 : (9223372036854775807 < a0_1.size + a1.size) = False := eq_false (Nat.not_lt.2 c4)
      have H' := AM H
      clear H
      go_enter Tryd.func67, Tryd.ntmps67
      try go_wp2_with (first | ((with_reducible refine gate_dst (N := 2) rfl ?_); refine be_ 2 #[.slice A0_0 l0_0.length c0_0, .string a0_1, .int .i64 a0_2] 42 ?_; intro gb124 hg w5 hbox hb; have BK124 := AM hbox; have GW124 := AM ((by rw [hg]; exact (below_size bel_) : w.heap.size ≤ gb124)); have GE124 := AM ((by rw [hg]; exact (below_size bel_) : w.heap.size ≤ gb124)); replace HB := AM (below_step bel_ hb); clear hb hbox hg) | ((with_reducible refine gate_dst (N := 4) rfl ?_); refine be_ 4 #[.slice none 0 0, .string (⟨#[]⟩ : ByteArray), .int .i64 0] 42 ?_; intro gb125 hg w6 hbox hb; have BK125 := AM hbox; have GW125 := AM ((by rw [hg]; exact (below_size bel_) : w.heap.size ≤ gb125)); have GE125 := AM ((by rw [hg]; exact (below_size bel_) : w.heap.size ≤ gb125)); replace HB := AM (below_step bel_ hb); have NB124_125 := AM ((by rw [hg]; exact Nat.ne_of_lt (blk_lt (g := gb124) (o := .cells #[.slice A0_0 l0_0.length c0_0, .string a0_1, .int .i64 a0_2] 42 (0, 0)) (bk_ BK124.out)) : gb124 ≠ gb125)); have NB125_124 := AM ((by rw [hg]; exact Nat.ne_of_gt (blk_lt (g := gb124) (o := .cells #[.slice A0_0 l0_0.length c0_0, .string a0_1, .int .i64 a0_2] 42 (0, 0)) (bk_ BK124.out)) : gb125 ≠ gb124)); replace BK124 := AM (blk_below (g := gb124) (o := .cells #[.slice A0_0 l0_0.length c0_0, .string a0_1, .int .i64 a0_2] 42 (0, 0)) (bk_ BK124.out) hb); clear hb hbox hg))
      replace BK124 := AM (blk_drew BK124.out)
      replace BK125 := AM (blk_drew BK125.out)
      replace HB := AM (below_drew1 HB.out)
      refine start_ (n := 16) (S := fun w' => w'.cell? ⟨gb124, 0, none⟩ = some (.slice A0_0 l0_0.length c0_0) ∧ w'.cell? ⟨gb124, 1, none⟩ = some (.string a0_1) ∧ w'.cell? ⟨gb124, 2, none⟩ = some (.int .i64 a0_2)) (ds := []) (Array.replicate 16 false) (by kernel_rfl) rfl rfl ⟨(blk_cell BK124.out 0).trans rfl, (blk_cell BK124.out 1).trans rfl, (blk_cell BK124.out 2).trans rfl⟩ (fun hHeld => ?_); refine with_tabW spec_l05More.tab1 spec_l05More.bits1 (fun HT_ HW_ => ?_)
      generalize w6.drew = w7 at BK124 BK125 HB hHeld ⊢
      refine pu_ HT_ 1 (some 8) (bA 16 2) ?_
      refine pu_ HT_ 4 (some 11) (bA 16 18) ?_
      refine pu_ HT_ 6 (some 13) (bA 16 82) ?_
      refine pu_ HT_ 8 (some 15) (bA 16 338) ?_
      refine pu_ HT_ 10 (some 17) (bA 16 1362) ?_
      refine pu_ HT_ 11 (some 18) (bA 16 3410) ?_
      refine ta_ HT_ HW_ 2 (some 9) (bA 16 3414) hHeld ?_
      refine ta_ HT_ HW_ 5 (some 12) (bA 16 3446) hHeld ?_
      refine pu_ HT_ 7 (some 14) (bA 16 3574) ?_
      refine ta_ HT_ HW_ 9 (some 16) (bA 16 4086) hHeld ?_
      refine pu_ HT_ 12 (some 19) (bA 16 8182) ?_
      refine join_ (σ := Value × Value × Nat) 1 #[true, true, true, true, true, true, true, true, true, true, true, true, true, true, true, false] (fun s_ => [(7, s_.1), (10, s_.2.1), (5, .pointer (some ⟨s_.2.2, 0, none⟩)), (20, .agg #[s_.2.1, .string (a0_1 ++ a1), .int .i64 (wrap64 (a0_2 + (a1.size : Int)))])]) (fun s_ w' => (w'.cell? ⟨gb124, 0, none⟩ = some (.slice A0_0 l0_0.length c0_0) ∧ w'.cell? ⟨gb124, 1, none⟩ = some (.string a0_1) ∧ w'.cell? ⟨gb124, 2, none⟩ = some (.int .i64 a0_2)) ∧ (Kd.R (Kd.int .i64) 2 w' w.heap.size (fun _ => True) s_.2.1 y129) ∧ (w'.heap[gb124]? = some (.cells #[.slice A0_0 l0_0.length c0_0, .string a0_1, .int .i64 a0_2] 42 (0, 0))) ∧ (w'.heap[gb125]? = some (.cells #[.slice none 0 0, .string (⟨#[]⟩ : ByteArray), .int .i64 0] 42 (0, 0))) ∧ (w'.heap[s_.2.2]? = some (.cells #[.slice none 0 0, .string (⟨#[]⟩ : ByteArray), .int .i64 0] 42 (0, 0))) ∧ (w.heap.size ≤ s_.2.2) ∧ (w.heap.size ≤ s_.2.2) ∧ (gb124 ≠ s_.2.2) ∧ (s_.2.2 ≠ gb124) ∧ (gb125 ≠ s_.2.2) ∧ (s_.2.2 ≠ gb125) ∧ (Below w.heap.size w w')) ?_ ?_
      rotate_left
      · intro hCont
        refine tw_ HT_ 0 14 (some 7) (some 5) (bA 16 8183) (bA 16 24566) (fun K hK => ?_) (fun K hK => ?_)
        · skip
          refine Kd.R_lit_step (Kd.int .i64) _ 2 ?hgL1 (N := 7) ?hdL1 (xs := ([] : List Int)) (inner := []) (ok := fun _ => True) (okp := fun _ => True) ?hrL1 ?hpL1 (fun _ hk => hk) trivial (Below.refl _ _) (Nat.le_refl _) (by simp) ?_; (case hdL1 => rfl); (case hgL1 => rfl); (case hrL1 => first | (go_simp; done) | (go_simp; rfl)); (case hpL1 => exact (Reps.none _ _))
          intro v127 w8 ho9 hb hg_ hnew_
          clear hg_ hnew_
          (first | rw [← Ny126.out] at ho9 | (simp only [Int.reduceToNat] at ho9; rw [← Ny126.out] at ho9))
          have HO128 := AM (Kd.R_lower ho9 (below_size bel_))
          replace BK124 := AM (blk_below (g := gb124) (o := .cells #[.slice A0_0 l0_0.length c0_0, .string a0_1, .int .i64 a0_2] 42 (0, 0)) (bk_ BK124.out) hb)
          replace BK125 := AM (blk_below (g := gb125) (o := .cells #[.slice none 0 0, .string (⟨#[]⟩ : ByteArray), .int .i64 0] 42 (0, 0)) (bk_ BK125.out) hb)
          replace HB := AM (below_step bel_ hb)
          clear hb ho9
          refine hK.out _ _ ⟨(blk_cell BK124.out 0).trans rfl, (blk_cell BK124.out 1).trans rfl, (blk_cell BK124.out 2).trans rfl⟩ (fun hHeld => ?_)
          clear hK K
          refine nm_ ?_
          refine tw_ HT_ 3 14 (some 10) (some 5) (bA 16 8191) (bA 16 24567) (fun K hK => ?_) (fun K hK => ?_)
          · skip
            refine Kd.R_append_rows_step (Kd.int .i64) (w0 := w) w.heap.size (by rfl) (.tmp 7) (.tmp 9) 40 2 (.int .i64 0) 8 rfl Tryd.underlying40 info2 rfl (by decide) (by omega) v127 y126 l0_0 _ _ _ (fun _ => True) (fun _ => False) rfl rfl ?aO ?aR (fun _ _ h => h) (fun _ h => h.elim) ?aF ?aB ?aS ?aL ?_
            (case aR => repeat (first | exact (Kd.C_below HR0_0.out HB.out) | (with_reducible refine Kd.C_alloc ?_ _) | (with_reducible refine Kd.C_drewN ?_ _) | (with_reducible refine Kd.C_drew ?_)))
            (case aB => exact bel_)
            (case aF => exact (fun _ _ => trivial))
            (case aO => exact (ro_ HO128.out))
            (case aS => exact (below_size bel_))
            (case aL => have := LMc3.out; omega)
            intro v130 w10 ho hb hg hat
            rw [← Ny129.out] at ho
            have n0_ := AM (blk_grown (g := gb124) (o := .cells #[.slice A0_0 l0_0.length c0_0, .string a0_1, .int .i64 a0_2] 42 (0, 0)) (bk_ BK124.out) hg (Kd.R_ne HO128.out BK124.out (by decide)))
            have n1_ := AM (blk_grown (g := gb125) (o := .cells #[.slice none 0 0, .string (⟨#[]⟩ : ByteArray), .int .i64 0] 42 (0, 0)) (bk_ BK125.out) hg (Kd.R_ne HO128.out BK125.out (by decide)))
            have n2_ := AM hb
            have n3_ := AM ho
            clear BK124
            clear BK125
            clear HB
            clear HO128
            have BK124 := n0_
            have BK125 := n1_
            have HB := n2_
            have HO131 := n3_
            clear n0_ n1_ n2_ n3_
            clear ho hb hg hat
            obtain ⟨Ao11, co11, eo11⟩ := Kd.R_slice HO131.out
            (first | subst eo11 | (injection eo11 with f1_ f2_ f3_; have f4_ := f1_.symm; have f5_ := f3_.symm; clear f1_ f2_ f3_; subst f4_; subst f5_))
            refine hK.out _ _ ⟨(blk_cell BK124.out 0).trans rfl, (blk_cell BK124.out 1).trans rfl, (blk_cell BK124.out 2).trans rfl⟩ (fun hHeld => ?_)
            clear hK K
            refine nm_ ?_
            refine pu_ HT_ 13 (some 20) (bA 16 16383) ?_
            refine on_ HT_ 14 (some 5) (bA 16 32767) (fun K hK => ?_)
            refine bs_ 5 #[.slice none 0 0, .string (⟨#[]⟩ : ByteArray), .int .i64 0] 42 ?_
            intro gb132 hg w12 hbox hb
            replace HO131 := AM (Kd.R_below (ro_ HO131.out) hb)
            have BK132 := AM hbox
            have GW132 := AM ((by rw [hg]; exact (below_size bel_) : w.heap.size ≤ gb132))
            have GE132 := AM ((by rw [hg]; exact (below_size bel_) : w.heap.size ≤ gb132))
            replace HB := AM (below_step bel_ hb)
            have NB124_132 := AM ((by rw [hg]; exact Nat.ne_of_lt (blk_lt (g := gb124) (o := .cells #[.slice A0_0 l0_0.length c0_0, .string a0_1, .int .i64 a0_2] 42 (0, 0)) (bk_ BK124.out)) : gb124 ≠ gb132))
            have NB132_124 := AM ((by rw [hg]; exact Nat.ne_of_gt (blk_lt (g := gb124) (o := .cells #[.slice A0_0 l0_0.length c0_0, .string a0_1, .int .i64 a0_2] 42 (0, 0)) (bk_ BK124.out)) : gb132 ≠ gb124))
            replace BK124 := AM (blk_below (g := gb124) (o := .cells #[.slice A0_0 l0_0.length c0_0, .string a0_1, .int .i64 a0_2] 42 (0, 0)) (bk_ BK124.out) hb)
            have NB125_132 := AM ((by rw [hg]; exact Nat.ne_of_lt (blk_lt (g := gb125) (o := .cells #[.slice none 0 0, .string (⟨#[]⟩ : ByteArray), .int .i64 0] 42 (0, 0)) (bk_ BK125.out)) : gb125 ≠ gb132))
            have NB132_125 := AM ((by rw [hg]; exact Nat.ne_of_gt (blk_lt (g := gb125) (o := .cells #[.slice none 0 0, .string (⟨#[]⟩ : ByteArray), .int .i64 0] 42 (0, 0)) (bk_ BK125.out)) : gb132 ≠ gb125))
            replace BK125 := AM (blk_below (g := gb125) (o := .cells #[.slice none 0 0, .string (⟨#[]⟩ : ByteArray), .int .i64 0] 42 (0, 0)) (bk_ BK125.out) hb)
            clear hb hbox hg
            refine hK.out _ _ ⟨(blk_cell BK124.out 0).trans rfl, (blk_cell BK124.out 1).trans rfl, (blk_cell BK124.out 2).trans rfl⟩ (fun hHeld => ?_)
            clear hK K
            refine nm_ ?_
            exact nmE_ (hCont (v127, .slice Ao11 y129.length co11, gb132) _ ⟨hHeld, (ro_ HO131.out), (bk_ BK124.out), (bk_ BK125.out), (bk_ BK132.out), GW132.out, GE132.out, NB124_132.out, NB132_124.out, NB125_132.out, NB132_125.out, bel_⟩)
          · skip
            refine bs_ 5 #[.slice none 0 0, .string (⟨#[]⟩ : ByteArray), .int .i64 0] 42 ?_
            intro gb132 hg w10 hbox hb
            replace HO128 := AM (Kd.R_below (ro_ HO128.out) hb)
            have BK132 := AM hbox
            have GW132 := AM ((by rw [hg]; exact (below_size bel_) : w.heap.size ≤ gb132))
            have GE132 := AM ((by rw [hg]; exact (below_size bel_) : w.heap.size ≤ gb132))
            replace HB := AM (below_step bel_ hb)
            have NB124_132 := AM ((by rw [hg]; exact Nat.ne_of_lt (blk_lt (g := gb124) (o := .cells #[.slice A0_0 l0_0.length c0_0, .string a0_1, .int .i64 a0_2] 42 (0, 0)) (bk_ BK124.out)) : gb124 ≠ gb132))
            have NB132_124 := AM ((by rw [hg]; exact Nat.ne_of_gt (blk_lt (g := gb124) (o := .cells #[.slice A0_0 l0_0.length c0_0, .string a0_1, .int .i64 a0_2] 42 (0, 0)) (bk_ BK124.out)) : gb132 ≠ gb124))
            replace BK124 := AM (blk_below (g := gb124) (o := .cells #[.slice A0_0 l0_0.length c0_0, .string a0_1, .int .i64 a0_2] 42 (0, 0)) (bk_ BK124.out) hb)
            have NB125_132 := AM ((by rw [hg]; exact Nat.ne_of_lt (blk_lt (g := gb125) (o := .cells #[.slice none 0 0, .string (⟨#[]⟩ : ByteArray), .int .i64 0] 42 (0, 0)) (bk_ BK125.out)) : gb125 ≠ gb132))
            have NB132_125 := AM ((by rw [hg]; exact Nat.ne_of_gt (blk_lt (g := gb125) (o := .cells #[.slice none 0 0, .string (⟨#[]⟩ : ByteArray), .int .i64 0] 42 (0, 0)) (bk_ BK125.out)) : gb132 ≠ gb125))
            replace BK125 := AM (blk_below (g := gb125) (o := .cells #[.slice none 0 0, .string (⟨#[]⟩ : ByteArray), .int .i64 0] 42 (0, 0)) (bk_ BK125.out) hb)
            clear hb hbox hg
            refine hK.out _ _ ⟨(blk_cell BK124.out 0).trans rfl, (blk_cell BK124.out 1).trans rfl, (blk_cell BK124.out 2).trans rfl⟩ (fun hHeld => ?_)
            clear hK K
            refine nm_ ?_
            refine on_ HT_ 3 (some 10) (bA 16 24575) (fun K hK => ?_)
            refine Kd.R_append_rows_step (Kd.int .i64) (w0 := w) w.heap.size (by rfl) (.tmp 7) (.tmp 9) 40 2 (.int .i64 0) 8 rfl Tryd.underlying40 info2 rfl (by decide) (by omega) v127 y126 l0_0 _ _ _ (fun _ => True) (fun _ => False) rfl rfl ?aO ?aR (fun _ _ h => h) (fun _ h => h.elim) ?aF ?aB ?aS ?aL ?_
            (case aR => repeat (first | exact (Kd.C_below HR0_0.out HB.out) | (with_reducible refine Kd.C_alloc ?_ _) | (with_reducible refine Kd.C_drewN ?_ _) | (with_reducible refine Kd.C_drew ?_)))
            (case aB => exact bel_)
            (case aF => exact (fun _ _ => trivial))
            (case aO => exact (ro_ HO128.out))
            (case aS => exact (below_size bel_))
            (case aL => have := LMc3.out; omega)
            intro v130 w11 ho hb hg hat
            rw [← Ny129.out] at ho
            have n0_ := AM (blk_grown (g := gb124) (o := .cells #[.slice A0_0 l0_0.length c0_0, .string a0_1, .int .i64 a0_2] 42 (0, 0)) (bk_ BK124.out) hg (Kd.R_ne HO128.out BK124.out (by decide)))
            have n1_ := AM (blk_grown (g := gb125) (o := .cells #[.slice none 0 0, .string (⟨#[]⟩ : ByteArray), .int .i64 0] 42 (0, 0)) (bk_ BK125.out) hg (Kd.R_ne HO128.out BK125.out (by decide)))
            have n2_ := AM (blk_grown (g := gb132) (o := .cells #[.slice none 0 0, .string (⟨#[]⟩ : ByteArray), .int .i64 0] 42 (0, 0)) (bk_ BK132.out) hg (Kd.R_ne HO128.out BK132.out (by decide)))
            have n3_ := AM hb
            have n4_ := AM ho
            clear BK124
            clear BK125
            clear BK132
            clear HB
            clear HO128
            have BK124 := n0_
            have BK125 := n1_
            have BK132 := n2_
            have HB := n3_
            have HO131 := n4_
            clear n0_ n1_ n2_ n3_ n4_
            clear ho hb hg hat
            obtain ⟨Ao12, co12, eo12⟩ := Kd.R_slice HO131.out
            (first | subst eo12 | (injection eo12 with f1_ f2_ f3_; have f4_ := f1_.symm; have f5_ := f3_.symm; clear f1_ f2_ f3_; subst f4_; subst f5_))
            refine hK.out _ _ ⟨(blk_cell BK124.out 0).trans rfl, (blk_cell BK124.out 1).trans rfl, (blk_cell BK124.out 2).trans rfl⟩ (fun hHeld => ?_)
            clear hK K
            refine nm_ ?_
            refine pu_ HT_ 13 (some 20) (bA 16 32767) ?_
            exact nmE_ (hCont (v127, .slice Ao12 y129.length co12, gb132) _ ⟨hHeld, (ro_ HO131.out), (bk_ BK124.out), (bk_ BK125.out), (bk_ BK132.out), GW132.out, GE132.out, NB124_132.out, NB132_124.out, NB125_132.out, NB132_125.out, bel_⟩)
        · skip
          refine bs_ 5 #[.slice none 0 0, .string (⟨#[]⟩ : ByteArray), .int .i64 0] 42 ?_
          intro gb132 hg w8 hbox hb
          have BK132 := AM hbox
          have GW132 := AM ((by rw [hg]; exact (below_size bel_) : w.heap.size ≤ gb132))
          have GE132 := AM ((by rw [hg]; exact (below_size bel_) : w.heap.size ≤ gb132))
          replace HB := AM (below_step bel_ hb)
          have NB124_132 := AM ((by rw [hg]; exact Nat.ne_of_lt (blk_lt (g := gb124) (o := .cells #[.slice A0_0 l0_0.length c0_0, .string a0_1, .int .i64 a0_2] 42 (0, 0)) (bk_ BK124.out)) : gb124 ≠ gb132))
          have NB132_124 := AM ((by rw [hg]; exact Nat.ne_of_gt (blk_lt (g := gb124) (o := .cells #[.slice A0_0 l0_0.length c0_0, .string a0_1, .int .i64 a0_2] 42 (0, 0)) (bk_ BK124.out)) : gb132 ≠ gb124))
          replace BK124 := AM (blk_below (g := gb124) (o := .cells #[.slice A0_0 l0_0.length c0_0, .string a0_1, .int .i64 a0_2] 42 (0, 0)) (bk_ BK124.out) hb)
          have NB125_132 := AM ((by rw [hg]; exact Nat.ne_of_lt (blk_lt (g := gb125) (o := .cells #[.slice none 0 0, .string (⟨#[]⟩ : ByteArray), .int .i64 0] 42 (0, 0)) (bk_ BK125.out)) : gb125 ≠ gb132))
          have NB132_125 := AM ((by rw [hg]; exact Nat.ne_of_gt (blk_lt (g := gb125) (o := .cells #[.slice none 0 0, .string (⟨#[]⟩ : ByteArray), .int .i64 0] 42 (0, 0)) (bk_ BK125.out)) : gb132 ≠ gb125))
          replace BK125 := AM (blk_below (g := gb125) (o := .cells #[.slice none 0 0, .string (⟨#[]⟩ : ByteArray), .int .i64 0] 42 (0, 0)) (bk_ BK125.out) hb)
          clear hb hbox hg
          refine hK.out _ _ ⟨(blk_cell BK124.out 0).trans rfl, (blk_cell BK124.out 1).trans rfl, (blk_cell BK124.out 2).trans rfl⟩ (fun hHeld => ?_)
          clear hK K
          refine nm_ ?_
          refine on_ HT_ 0 (some 7) (bA 16 24567) (fun K hK => ?_)
          refine Kd.R_lit_step (Kd.int .i64) _ 2 ?hgL2 (N := 7) ?hdL2 (xs := ([] : List Int)) (inner := []) (ok := fun _ => True) (okp := fun _ => True) ?hrL2 ?hpL2 (fun _ hk => hk) trivial (Below.refl _ _) (Nat.le_refl _) (by simp) ?_; (case hdL2 => rfl); (case hgL2 => rfl); (case hrL2 => first | (go_simp; done) | (go_simp; rfl)); (case hpL2 => exact (Reps.none _ _))
          intro v127 w9 ho10 hb hg_ hnew_
          clear hg_ hnew_
          (first | rw [← Ny126.out] at ho10 | (simp only [Int.reduceToNat] at ho10; rw [← Ny126.out] at ho10))
          have HO128 := AM (Kd.R_lower ho10 (below_size bel_))
          replace BK124 := AM (blk_below (g := gb124) (o := .cells #[.slice A0_0 l0_0.length c0_0, .string a0_1, .int .i64 a0_2] 42 (0, 0)) (bk_ BK124.out) hb)
          replace BK125 := AM (blk_below (g := gb125) (o := .cells #[.slice none 0 0, .string (⟨#[]⟩ : ByteArray), .int .i64 0] 42 (0, 0)) (bk_ BK125.out) hb)
          replace BK132 := AM (blk_below (g := gb132) (o := .cells #[.slice none 0 0, .string (⟨#[]⟩ : ByteArray), .int .i64 0] 42 (0, 0)) (bk_ BK132.out) hb)
          replace HB := AM (below_step bel_ hb)
          clear hb ho10
          refine hK.out _ _ ⟨(blk_cell BK124.out 0).trans rfl, (blk_cell BK124.out 1).trans rfl, (blk_cell BK124.out 2).trans rfl⟩ (fun hHeld => ?_)
          clear hK K
          refine nm_ ?_
          refine on_ HT_ 3 (some 10) (bA 16 24575) (fun K hK => ?_)
          refine Kd.R_append_rows_step (Kd.int .i64) (w0 := w) w.heap.size (by rfl) (.tmp 7) (.tmp 9) 40 2 (.int .i64 0) 8 rfl Tryd.underlying40 info2 rfl (by decide) (by omega) v127 y126 l0_0 _ _ _ (fun _ => True) (fun _ => False) rfl rfl ?aO ?aR (fun _ _ h => h) (fun _ h => h.elim) ?aF ?aB ?aS ?aL ?_
          (case aR => repeat (first | exact (Kd.C_below HR0_0.out HB.out) | (with_reducible refine Kd.C_alloc ?_ _) | (with_reducible refine Kd.C_drewN ?_ _) | (with_reducible refine Kd.C_drew ?_)))
          (case aB => exact bel_)
          (case aF => exact (fun _ _ => trivial))
          (case aO => exact (ro_ HO128.out))
          (case aS => exact (below_size bel_))
          (case aL => have := LMc3.out; omega)
          intro v130 w11 ho hb hg hat
          rw [← Ny129.out] at ho
          have n0_ := AM (blk_grown (g := gb124) (o := .cells #[.slice A0_0 l0_0.length c0_0, .string a0_1, .int .i64 a0_2] 42 (0, 0)) (bk_ BK124.out) hg (Kd.R_ne HO128.out BK124.out (by decide)))
          have n1_ := AM (blk_grown (g := gb125) (o := .cells #[.slice none 0 0, .string (⟨#[]⟩ : ByteArray), .int .i64 0] 42 (0, 0)) (bk_ BK125.out) hg (Kd.R_ne HO128.out BK125.out (by decide)))
          have n2_ := AM (blk_grown (g := gb132) (o := .cells #[.slice none 0 0, .string (⟨#[]⟩ : ByteArray), .int .i64 0] 42 (0, 0)) (bk_ BK132.out) hg (Kd.R_ne HO128.out BK132.out (by decide)))
          have n3_ := AM hb
          have n4_ := AM ho
          clear BK124
          clear BK125
          clear BK132
          clear HB
          clear HO128
          have BK124 := n0_
          have BK125 := n1_
          have BK132 := n2_
          have HB := n3_
          have HO131 := n4_
          clear n0_ n1_ n2_ n3_ n4_
          clear ho hb hg hat
          obtain ⟨Ao12, co12, eo12⟩ := Kd.R_slice HO131.out
          (first | subst eo12 | (injection eo12 with f1_ f2_ f3_; have f4_ := f1_.symm; have f5_ := f3_.symm; clear f1_ f2_ f3_; subst f4_; subst f5_))
          refine hK.out _ _ ⟨(blk_cell BK124.out 0).trans rfl, (blk_cell BK124.out 1).trans rfl, (blk_cell BK124.out 2).trans rfl⟩ (fun hHeld => ?_)
          clear hK K
          refine nm_ ?_
          refine pu_ HT_ 13 (some 20) (bA 16 32767) ?_
          exact nmE_ (hCont (v127, .slice Ao12 y129.length co12, gb132) _ ⟨hHeld, (ro_ HO131.out), (bk_ BK124.out), (bk_ BK125.out), (bk_ BK132.out), GW132.out, GE132.out, NB124_132.out, NB132_124.out, NB125_132.out, NB132_125.out, bel_⟩)
      rintro ⟨v127, v130, gb132⟩ w13 ⟨hS_, h0_, h1_, h2_, h3_, h4_, h5_, h6_, h7_, h8_, h9_, h10_⟩
      have HO131 : Aside0 (Kd.R (Kd.int .i64) 2 w13 w.heap.size (fun _ => True) v130 y129) := ⟨h0_⟩
      replace BK124 : Aside0 (w13.heap[gb124]? = some (.cells #[.slice A0_0 l0_0.length c0_0, .string a0_1, .int .i64 a0_2] 42 (0, 0))) := ⟨h1_⟩
      replace BK125 : Aside0 (w13.heap[gb125]? = some (.cells #[.slice none 0 0, .string (⟨#[]⟩ : ByteArray), .int .i64 0] 42 (0, 0))) := ⟨h2_⟩
      have BK132 : Aside0 (w13.heap[gb132]? = some (.cells #[.slice none 0 0, .string (⟨#[]⟩ : ByteArray), .int .i64 0] 42 (0, 0))) := ⟨h3_⟩
      have GW132 : Aside0 (w.heap.size ≤ gb132) := ⟨h4_⟩
      have GE132 : Aside0 (w.heap.size ≤ gb132) := ⟨h5_⟩
      have NB124_132 : Aside0 (gb124 ≠ gb132) := ⟨h6_⟩
      have NB132_124 : Aside0 (gb132 ≠ gb124) := ⟨h7_⟩
      have NB125_132 : Aside0 (gb125 ≠ gb132) := ⟨h8_⟩
      have NB132_125 : Aside0 (gb132 ≠ gb125) := ⟨h9_⟩
      replace HB : Aside0 (Below w.heap.size w w13) := ⟨h10_⟩
      clear h0_ h1_ h2_ h3_ h4_ h5_ h6_ h7_ h8_ h9_ h10_
      have hHeld : w13.cell? ⟨gb124, 0, none⟩ = some (.slice A0_0 l0_0.length c0_0) ∧ w13.cell? ⟨gb124, 1, none⟩ = some (.string a0_1) ∧ w13.cell? ⟨gb124, 2, none⟩ = some (.int .i64 a0_2) := hS_
      obtain ⟨Ao14, co14, eo14⟩ := Kd.R_slice HO131.out
      (first | subst eo14 | (injection eo14 with f1_ f2_ f3_; have f4_ := f1_.symm; have f5_ := f3_.symm; clear f1_ f2_ f3_; subst f4_; subst f5_))
      refine nmA_ ?_
      refine on_ HT_ 15 none (bA 16 65535) (fun K hK => ?_)
      have hs15 : w13.cell? ⟨gb132, 0, none⟩ = some (.slice none 0 0) := (blk_cell BK132.out 0).trans rfl
      have hfs15 := blk_frozen BK132.out 0
      have hns15_0 := NB124_132.out
      have hns15_1 := NB125_132.out
      have hms15_0 := NB132_124.out
      have hms15_1 := NB132_125.out
      have hs16 : w13.cell? ⟨gb132, 1, none⟩ = some (.string (⟨#[]⟩ : ByteArray)) := (blk_cell BK132.out 1).trans rfl
      have hfs16 := blk_frozen BK132.out 1
      have hns16_0 := NB124_132.out
      have hns16_1 := NB125_132.out
      have hms16_0 := NB132_124.out
      have hms16_1 := NB132_125.out
      have hs17 : w13.cell? ⟨gb132, 2, none⟩ = some (.int .i64 0) := (blk_cell BK132.out 2).trans rfl
      have hfs17 := blk_frozen BK132.out 2
      have hns17_0 := NB124_132.out
      have hns17_1 := NB125_132.out
      have hms17_0 := NB132_124.out
      have hms17_1 := NB132_125.out
      refine sk_ ?_
      refine hK.out _ _ ⟨(by (rw [cell_far, cell_far, cell_far]) <;> first | exact hHeld.1 | exact NB124_132.out), (by (rw [cell_far, cell_far, cell_far]) <;> first | exact hHeld.2.1 | exact NB124_132.out), (by (rw [cell_far, cell_far, cell_far]) <;> first | exact hHeld.2.2 | exact NB124_132.out)⟩ (fun hHeld => ?_)
      clear hK K
      refine dn_ HT_ ?_
      try go_wp2
      obtain ⟨cat, hcat⟩ : ∃ c_ : ByteArray, a0_1 ++ a1 = c_ := ⟨_, rfl⟩
      replace H' := H'.out
      replace BK132 := BK132.out
      rw [hcat] at H'
      try rw [hcat] at BK132
      try rw [hcat]
      replace H' := AM H'
      replace BK132 := AM BK132
      have Ncat := AM hcat
      clear hcat
      go_loopg [6] k (fun kq v6 w' => ∃ (x6_1 : Int) (x133000_1 : List Int) (u133000 : Value), v6 = .int .i64 x6_1 ∧ Aside0 (spec_l05More.l0 kq x6_1 x133000_1 cat (wrap64 (a0_2 + (a1.size : Int))) = some (r1, r2, r3)) ∧ Aside0 (kq ≤ k) ∧ Aside0 (Kd.R (Kd.int .i64) 2 w' w.heap.size (fun _ => True) u133000 x133000_1) ∧ Aside0 (w'.heap[gb124]? = some (.cells #[(.slice A0_0 l0_0.length c0_0), .string a0_1, .int .i64 a0_2] 42 (0, 0))) ∧ Aside0 (w'.heap[gb125]? = some (.cells #[(.slice none 0 0), .string (⟨#[]⟩ : ByteArray), .int .i64 0] 42 (0, 0))) ∧ Aside0 (w'.heap[gb132]? = some (.cells #[u133000, .string cat, .int .i64 (wrap64 (a0_2 + (a1.size : Int)))] 42 (0, 0))) ∧ Aside0 (Below w.heap.size w w'))
      case atStart => exact ⟨(0), (y129), (.slice Ao14 y129.length co14), (by first | rfl | (simp; done) | (simp [*]; done)), H', ⟨Nat.le_refl _⟩, ⟨by (with_reducible repeat (first | apply Kd.R_alloc | apply Kd.R_drewN | apply Kd.R_drew)); exact Kd.R_mono (Kd.R_far (p := ⟨gb132, 2, none⟩) (Kd.R_far (p := ⟨gb132, 1, none⟩) (Kd.R_far (p := ⟨gb132, 0, none⟩) (Kd.R_types HO131.out BK132.out (by decide)) (fun _ hk => hk.2) (.slice Ao14 y129.length co14)) (fun _ hk => hk.2) (.string cat)) (fun _ hk => hk.2) (.int .i64 (wrap64 (a0_2 + (a1.size : Int))))) (fun _ hk => trivial)⟩, ⟨bka_⟩, ⟨bka_⟩, ⟨bka_⟩, ⟨bel_⟩⟩
      case round =>
        clear H'
        (try clear p2); (try clear c3); (try clear c4); (try clear c4b0); (try clear c4b1); (try clear c4b2); (try clear c6); (try clear p6)
        obtain ⟨x6_1, x133000_1, u133000, rfl, HA, HK1, HO_133000, BK124, BK125, BK132, HB⟩ := hrel
        cases gk with
        | zero => exact absurd HA.out (by simp [spec_l05More.l0])
        | succ k1 =>
          have H := HA.out
          clear HA
          simp only [spec_l05More.l0] at H
          by_cases c18 : (wrap64 ((cat.size : Int) - x6_1)) ≥ 64
          · rw [if_pos c18] at H
            have c18b0 : decide (64 ≤ (wrap64 ((cat.size : Int) - x6_1))) = true := decide_eq_true c18
            try have c18b9 : (decide (64 ≤ (((cat.size : Int) - x6_1)))) = true := (by have hw0 : wrap64 ((cat.size : Int) - x6_1) = (cat.size : Int) - x6_1 := (by unfold wrap64; omega); have z_ := c18b0; simp only [hw0] at z_; exact z_)
            clear c18
            by_cases c19 : 0 ≤ x6_1
            · rw [if_pos c19] at H
              have c19b0 := eq_true c19
              have c19b1 : decide (0 ≤ x6_1) = true := decide_eq_true c19
              clear c19
              by_cases c20 : x6_1 ≤ (wrap64 (x6_1 + 64))
              · rw [if_pos c20] at H
                have c20b0 := eq_true c20
                have c20b1 : decide (x6_1 ≤ (wrap64 (x6_1 + 64))) = true := decide_eq_true c20
                by_cases c21 : (wrap64 (x6_1 + 64)) ≤ (cat.size : Int)
                · rw [if_pos c21] at H
                  have c21b0 := eq_true c21
                  have c21b1 : decide ((wrap64 (x6_1 + 64)) ≤ (cat.size : Int)) = true := decide_eq_true c21
                  obtain ⟨t133, A22, H⟩ := OB H
                  try dsimp only at H
                  replace A22 := AM A22
                  have H' := AM H
                  clear H
                  have hnb23 := NB132_124.out
                  have hnc23 := NB124_132.out
                  have hnb24 := NB132_125.out
                  have hnc24 := NB125_132.out
                  have hcz25_0 : wr.cell? ⟨gb132, 0, none⟩ = some (u133000) := (blk_cell BK132.out 0).trans rfl
                  have hcz25_1 : wr.cell? ⟨gb132, 1, none⟩ = some (.string cat) := (blk_cell BK132.out 1).trans rfl
                  have hcz25_2 : wr.cell? ⟨gb132, 2, none⟩ = some (.int .i64 (wrap64 (a0_2 + (a1.size : Int)))) := (blk_cell BK132.out 2).trans rfl
                  have hfz25_0 := blk_frozen BK132.out 0
                  have hfz25_1 := blk_frozen BK132.out 1
                  have hfz25_2 := blk_frozen BK132.out 2
                  try go_wp2
                  replace HO_133000 := AM (Kd.R_drew HO_133000.out)
                  replace BK124 := AM (blk_drew BK124.out)
                  replace BK125 := AM (blk_drew BK125.out)
                  replace BK132 := AM (blk_drew BK132.out)
                  replace HB := AM (below_drew1 HB.out)
                  obtain ⟨Ao27, co27, eo27⟩ := Kd.R_slice HO_133000.out
                  (first | subst eo27 | (injection eo27 with f1_ f2_ f3_; have f4_ := f1_.symm; have f5_ := f3_.symm; clear f1_ f2_ f3_; subst f4_; subst f5_))
                  refine start_ (n := 11) (S := fun w' => w'.cell? ⟨gb132, 0, none⟩ = some (.slice Ao27 x133000_1.length co27) ∧ w'.cell? ⟨gb132, 1, none⟩ = some (.string cat) ∧ w'.cell? ⟨gb132, 2, none⟩ = some (.int .i64 (wrap64 (a0_2 + (a1.size : Int))))) (ds := [10]) (Array.replicate 11 false) (by kernel_rfl) rfl rfl ⟨(blk_cell BK132.out 0).trans rfl, (blk_cell BK132.out 1).trans rfl, (blk_cell BK132.out 2).trans rfl⟩ (fun hHeld => ?_); refine with_tabW spec_l05More.tab5 spec_l05More.bits5 (fun HT_ HW_ => ?_)
                  generalize wr.drew = w26 at HO_133000 BK124 BK125 BK132 HB hHeld ⊢
                  refine pu_ HT_ 0 (some 29) (bA 11 1) ?_
                  refine pu_ HT_ 2 (some 31) (bA 11 5) ?_
                  refine pu_ HT_ 4 (some 33) (bA 11 21) ?_
                  refine pu_ HT_ 5 (some 34) (bA 11 53) ?_
                  refine pu_ HT_ 6 (some 35) (bA 11 117) ?_
                  refine ta_ HT_ HW_ 1 (some 30) (bA 11 119) hHeld ?_
                  refine ta_ HT_ HW_ 3 (some 32) (bA 11 127) hHeld ?_
                  refine pu_ HT_ 7 (some 36) (bA 11 255) ?_
                  refine on_ HT_ 8 (some 37) (bA 11 511) (fun K hK => ?_)
                  refine go1_ Tryd.func108 #[.slice Ao27 x133000_1.length co27, .string (cat.extract (x6_1 : Int).toNat ((wrap64 (x6_1 + 64)) : Int).toNat)] ?_
                  with_reducible refine (spec_l05Block.calls _ _ x133000_1 (cat.extract (x6_1 : Int).toNat ((wrap64 (x6_1 + 64)) : Int).toNat) t133 _ ?side1 ?side2 A22.out).mono ?_
                  (case side1 => repeat (first | exact (Kd.R_reads' HO_133000.out).2.2 | (with_reducible refine Kd.C_alloc ?_ _) | (with_reducible refine Kd.C_drewN ?_ _) | (with_reducible refine Kd.C_drew ?_)))
                  (case side2 => exact (Kd.R_reads' HO_133000.out).2.1)
                  rintro e w28 ⟨v134, rfl, ho0, hb⟩
                  refine ⟨_, rfl, ?_⟩
                  have HO135 := AM (Kd.R_lower (Kd.R_new' ho0 (Kd.R_lt (ro_ HO_133000.out))) (below_size bel_))
                  replace HO_133000 := AM (Kd.R_elder' (ro_ HO_133000.out) (Kd.R_base ho0) hb)
                  replace BK124 := AM (blk_below (g := gb124) (o := .cells #[.slice A0_0 l0_0.length c0_0, .string a0_1, .int .i64 a0_2] 42 (0, 0)) (bk_ BK124.out) hb)
                  replace BK125 := AM (blk_below (g := gb125) (o := .cells #[.slice none 0 0, .string (⟨#[]⟩ : ByteArray), .int .i64 0] 42 (0, 0)) (bk_ BK125.out) hb)
                  replace BK132 := AM (blk_below (g := gb132) (o := .cells #[.slice Ao27 x133000_1.length co27, .string cat, .int .i64 (wrap64 (a0_2 + (a1.size : Int)))] 42 (0, 0)) (bk_ BK132.out) hb)
                  replace HB := AM (below_step bel_ hb)
                  (try clear hb); (try clear hb2); (try clear hk); (try clear hi); (try clear ho0)
                  obtain ⟨Ao29, co29, eo29⟩ := Kd.R_slice HO135.out
                  (first | subst eo29 | (injection eo29 with f1_ f2_ f3_; have f4_ := f1_.symm; have f5_ := f3_.symm; clear f1_ f2_ f3_; subst f4_; subst f5_))
                  refine hK.out _ _ ⟨(blk_cell BK132.out 0).trans rfl, (blk_cell BK132.out 1).trans rfl, (blk_cell BK132.out 2).trans rfl⟩ (fun hHeld => ?_)
                  clear hK K
                  refine nm_ ?_
                  refine pu_ HT_ 9 (some 38) (bA 11 1023) ?_
                  refine last_ (i := 10) (N := none) (bA 11 2047) rfl rfl (one_of HT_.out (by kernel_rfl)) (by decide) (fun K hK => ?_)
                  have hs30 : w28.cell? ⟨gb132, 0, none⟩ = some (.slice Ao27 x133000_1.length co27) := (blk_cell BK132.out 0).trans rfl
                  have hfs30 := blk_frozen BK132.out 0
                  have hns30_0 := NB124_132.out
                  have hns30_1 := NB125_132.out
                  have hms30_0 := NB132_124.out
                  have hms30_1 := NB132_125.out
                  refine sk_ ?_
                  refine hK.out _ _ ?_
                  clear hK K
                  refine dn_ HT_ ?_
                  try go_wp2
                  go_roundg k1
                  case measure => have := HK1.out; omega
                  case rel => exact ⟨(wrap64 (x6_1 + 64)), (t133), (.slice Ao29 t133.length co29), (by first | rfl | (simp; done) | (simp [*]; done)), H', ⟨by have := HK1.out; omega⟩, ⟨by (with_reducible repeat (first | apply Kd.R_alloc | apply Kd.R_drewN | apply Kd.R_drew)); exact Kd.R_mono (Kd.R_far (p := ⟨gb132, 0, none⟩) (Kd.R_types HO135.out BK132.out (by decide)) (fun _ hk => hk.2) (.slice Ao29 t133.length co29)) (fun _ hk => trivial)⟩, ⟨bka_⟩, ⟨bka_⟩, ⟨bka_⟩, ⟨bel_⟩⟩
                · rw [if_neg c21] at H
                  exact absurd H (by simp)
              · rw [if_neg c20] at H
                exact absurd H (by simp)
            · rw [if_neg c19] at H
              exact absurd H (by simp)
          · rw [if_neg c18] at H
            have c18b0 : decide (64 ≤ (wrap64 ((cat.size : Int) - x6_1))) = false := decide_eq_false c18
            try have c18b9 : (decide (64 ≤ (((cat.size : Int) - x6_1)))) = false := (by have hw0 : wrap64 ((cat.size : Int) - x6_1) = (cat.size : Int) - x6_1 := (by unfold wrap64; omega); have z_ := c18b0; simp only [hw0] at z_; exact z_)
            clear c18
            by_cases c31 : 0 ≤ x6_1
            · rw [if_pos c31] at H
              have c31b0 := eq_true c31
              have c31b1 : decide (0 ≤ x6_1) = true := decide_eq_true c31
              clear c31
              by_cases c32 : x6_1 ≤ (cat.size : Int)
              · rw [if_pos c32] at H
                have c32b0 := eq_true c32
                have c32b1 : decide (x6_1 ≤ (cat.size : Int)) = true := decide_eq_true c32
                simp only [Option.some.injEq, Prod.mk.injEq] at H
                obtain ⟨rfl, rfl, rfl⟩ := H
                have hnb33 := NB132_124.out
                have hnc33 := NB124_132.out
                have hnb34 := NB132_125.out
                have hnc34 := NB125_132.out
                have hcz35_0 : wr.cell? ⟨gb132, 0, none⟩ = some (u133000) := (blk_cell BK132.out 0).trans rfl
                have hcz35_1 : wr.cell? ⟨gb132, 1, none⟩ = some (.string cat) := (blk_cell BK132.out 1).trans rfl
                have hcz35_2 : wr.cell? ⟨gb132, 2, none⟩ = some (.int .i64 (wrap64 (a0_2 + (a1.size : Int)))) := (blk_cell BK132.out 2).trans rfl
                have hfz35_0 := blk_frozen BK132.out 0
                have hfz35_1 := blk_frozen BK132.out 1
                have hfz35_2 := blk_frozen BK132.out 2
                obtain ⟨Ao36, co36, eo36⟩ := Kd.R_slice HO_133000.out
                subst eo36
                have hnb37 := NB125_124.out
                have hnc37 := NB124_125.out
                have hcz38_0 : wr.cell? ⟨gb125, 0, none⟩ = some (.slice none 0 0) := (blk_cell BK125.out 0).trans rfl
                have hcz38_1 : wr.cell? ⟨gb125, 1, none⟩ = some (.string (⟨#[]⟩ : ByteArray)) := (blk_cell BK125.out 1).trans rfl
                have hcz38_2 : wr.cell? ⟨gb125, 2, none⟩ = some (.int .i64 0) := (blk_cell BK125.out 2).trans rfl
                have hfz38_0 := blk_frozen BK125.out 0
                have hfz38_1 := blk_frozen BK125.out 1
                have hfz38_2 := blk_frozen BK125.out 2
                go_wp2
                refine bodyPost_ret (results_cell_row rfl _ _ gb125 42 #[.slice Ao36 x133000_1.length co36, .string (cat.extract (x6_1 : Int).toNat cat.size), .int .i64 (wrap64 (a0_2 + (a1.size : Int)))] (0, 0) _ rfl bka_ Tryd.underlying42 rfl (by kernel_rfl)) rfl ?_
                exact ⟨_, ri_, by (with_reducible repeat (first | apply Kd.R_alloc | apply Kd.R_drewN | apply Kd.R_drew)); exact Kd.R_mono (Kd.R_far (p := ⟨gb125, 2, none⟩) (Kd.R_far (p := ⟨gb125, 1, none⟩) (Kd.R_far (p := ⟨gb125, 0, none⟩) (Kd.R_far (p := ⟨gb132, 1, none⟩) (Kd.R_types (Kd.R_types HO_133000.out BK132.out (by decide)) BK125.out (by decide)) (fun _ hk => hk.1.2) (.string (cat.extract (x6_1 : Int).toNat cat.size))) (fun _ hk => hk.2) (.slice Ao36 x133000_1.length co36)) (fun _ hk => hk.2) (.string (cat.extract (x6_1 : Int).toNat cat.size))) (fun _ hk => hk.2) (.int .i64 (wrap64 (a0_2 + (a1.size : Int))))) (fun _ hk => trivial), bel_⟩
              · rw [if_neg c32] at H
                exact absurd H (by simp)
            · rw [if_neg c31] at H
              exact absurd H (by simp)
    · rw [if_neg c4] at H
      exact absurd H (by simp)
  · rw [if_neg c3] at H
    exact absurd H (by simp)

end Go.Proofs.YtddapeieolfolaaDoor.PFnFrame
