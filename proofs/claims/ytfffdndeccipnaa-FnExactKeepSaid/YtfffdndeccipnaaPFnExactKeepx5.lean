/- Functions of the law FnExactKeep: the print's, with walks of this session's own. No statement is proved here. -/
import Derived.WalkLawsBesides
import Derived.Test.YtfffdndeccipnaaVRegFnExactKeep
-- A program of this session wrote this text: a changed copy of the kit print, with given functions.
import Derived.Test.YtfffdndeccipnaaPFnExactKeepx0
import Derived.Test.YtfffdndeccipnaaPFnExactKeepx1
import Derived.Test.YtfffdndeccipnaaPFnExactKeepx2
import Derived.Test.YtfffdndeccipnaaPFnExactKeepx3
import Derived.Test.YtfffdndeccipnaaPFnExactKeepx4
namespace Go.Proofs.Ytfffdndeccipnaa.PFnExactKeep
open Go.RowKit Go.Proofs.YtfffdndeccipnaaW.PrintWords Go.Proofs.YtfffdndeccipnaaW.PrintLast Go.Proofs.YtfffdndeccipnaaW.PrintMore Go.Proofs.Ytfffdndeccipnaa.Reg Go.Proofs.Ytfffdndeccipnaa.Aut
attribute [local go_sem] max2_int min2_int max_two min_two max_three min_three max_four min_four   -- for this text's walks alone
set_option linter.unusedVariables false
set_option linter.unusedSimpArgs false

/-! ### spec_l13Keep: function 99 -/
mutual
def spec_l13Keep.j1 : Nat → List (S132) → List ByteArray → Int → Int → Int → Int → Option (List ByteArray)
  | 0, _, _, _, _, _, _ => none
  | k + 1, x5, x6, x241000, x241001, x241002, x241003 => (spec_l13Some.f k x5 x241001 1).bind fun t251 => ((spec_l13Some.f k x5 x241002 7).bind fun t254 => (if t251.length + t254.length < 8796093022208 then ((some (t251 ++ t254 : List ByteArray)).bind fun y257 => ((spec_l13Some.f k x5 x241003 30).bind fun t260 => (if y257.length + t260.length < 8796093022208 then (spec_l13Keep.l1 k x6 (y257 ++ t260) 0) else (none)))) else (none)))
def spec_l13Keep.l1 : Nat → List ByteArray → List ByteArray → Int → Option (List ByteArray)
  | 0, _, _, _ => none
  | k + 1, x6, x8, x9 => if x9 < (x8.length : Int) then (if 0 ≤ x9 then ((spec_l09Put.f k x6 (rdOf ByteArray.empty x8 x9)).bind fun t267 => (spec_l13Keep.l1 k t267 x8 (wrap64 (x9 + 1)))) else (none)) else (some x6)
def spec_l13Keep.l0 : Nat → List (S132) → List ByteArray → Int → Int → Int → Int → Int → Option (List ByteArray)
  | 0, _, _, _, _, _, _, _ => none
  | k + 1, x5, x6, x7, x241000, x241001, x241002, x241003 => if x7 < (x5.length : Int) then (if x7 < x241000 then (if 0 ≤ x7 then ((spec_l09Put.f k x6 ((rd_T132 x5 x7).f0)).bind fun t248 => (spec_l13Keep.l0 k x5 t248 (wrap64 (x7 + 1)) x241000 x241001 x241002 x241003)) else (none)) else (spec_l13Keep.j1 k x5 x6 x241000 x241001 x241002 x241003)) else (spec_l13Keep.j1 k x5 x6 x241000 x241001 x241002 x241003)
end
def spec_l13Keep.f (k : Nat) (a0_0 : Int) (a0_1 : Int) (a0_2 : Int) (a0_3 : Int) (l1 : List (S132)) : Option (List ByteArray) := (spec_l13Newest.f k l1).bind fun t241 => (spec_l13Keep.l0 k t241 (([] : List ByteArray)) 0 a0_0 a0_1 a0_2 a0_3)
theorem spec_l13Keep.mono_l : ∀ k, (∀ y0 y1 y2 y3 y4 y5, LeO (spec_l13Keep.j1 k y0 y1 y2 y3 y4 y5) (spec_l13Keep.j1 (k + 1) y0 y1 y2 y3 y4 y5)) ∧ (∀ y0 y1 y2, LeO (spec_l13Keep.l1 k y0 y1 y2) (spec_l13Keep.l1 (k + 1) y0 y1 y2)) ∧ (∀ y0 y1 y2 y3 y4 y5 y6, LeO (spec_l13Keep.l0 k y0 y1 y2 y3 y4 y5 y6) (spec_l13Keep.l0 (k + 1) y0 y1 y2 y3 y4 y5 y6))
  | 0 => ⟨fun _ _ _ _ _ _ r h => by simp [spec_l13Keep.j1] at h, fun _ _ _ r h => by simp [spec_l13Keep.l1] at h, fun _ _ _ _ _ _ _ r h => by simp [spec_l13Keep.l0] at h⟩
  | k + 1 => by
    obtain ⟨ih0, ih1, ih2⟩ := spec_l13Keep.mono_l k
    refine ⟨?_, ?_, ?_⟩
    · intro y0 y1 y2 y3 y4 y5
      unfold spec_l13Keep.j1
      repeat' first
      | (with_reducible exact ih0 _ _ _ _ _ _)
      | (with_reducible exact ih1 _ _ _)
      | (with_reducible exact ih2 _ _ _ _ _ _ _)
      | (with_reducible exact spec_l09Put.mono _ _ _)
      | (with_reducible exact spec_l13Newest.mono _ _)
      | (with_reducible exact spec_l13Some.mono _ _ _ _)
      | (with_reducible exact LeO.refl _)
      | (with_reducible exact LeO.none _)
      | (with_reducible refine LeO.ite ?_ ?_)
      | (with_reducible refine LeO.bind ?_ (fun _ => ?_))
      | exact ih0 _ _ _ _ _ _
      | exact ih1 _ _ _
      | exact ih2 _ _ _ _ _ _ _
      | exact spec_l09Put.mono _ _ _
      | exact spec_l13Newest.mono _ _
      | exact spec_l13Some.mono _ _ _ _
      | exact LeO.none _
      | refine LeO.ite ?_ ?_
      | refine LeO.bind ?_ (fun _ => ?_)
    · intro y0 y1 y2
      unfold spec_l13Keep.l1
      repeat' first
      | (with_reducible exact ih0 _ _ _ _ _ _)
      | (with_reducible exact ih1 _ _ _)
      | (with_reducible exact ih2 _ _ _ _ _ _ _)
      | (with_reducible exact spec_l09Put.mono _ _ _)
      | (with_reducible exact spec_l13Newest.mono _ _)
      | (with_reducible exact spec_l13Some.mono _ _ _ _)
      | (with_reducible exact LeO.refl _)
      | (with_reducible exact LeO.none _)
      | (with_reducible refine LeO.ite ?_ ?_)
      | (with_reducible refine LeO.bind ?_ (fun _ => ?_))
      | exact ih0 _ _ _ _ _ _
      | exact ih1 _ _ _
      | exact ih2 _ _ _ _ _ _ _
      | exact spec_l09Put.mono _ _ _
      | exact spec_l13Newest.mono _ _
      | exact spec_l13Some.mono _ _ _ _
      | exact LeO.none _
      | refine LeO.ite ?_ ?_
      | refine LeO.bind ?_ (fun _ => ?_)
    · intro y0 y1 y2 y3 y4 y5 y6
      unfold spec_l13Keep.l0
      repeat' first
      | (with_reducible exact ih0 _ _ _ _ _ _)
      | (with_reducible exact ih1 _ _ _)
      | (with_reducible exact ih2 _ _ _ _ _ _ _)
      | (with_reducible exact spec_l09Put.mono _ _ _)
      | (with_reducible exact spec_l13Newest.mono _ _)
      | (with_reducible exact spec_l13Some.mono _ _ _ _)
      | (with_reducible exact LeO.refl _)
      | (with_reducible exact LeO.none _)
      | (with_reducible refine LeO.ite ?_ ?_)
      | (with_reducible refine LeO.bind ?_ (fun _ => ?_))
      | exact ih0 _ _ _ _ _ _
      | exact ih1 _ _ _
      | exact ih2 _ _ _ _ _ _ _
      | exact spec_l09Put.mono _ _ _
      | exact spec_l13Newest.mono _ _
      | exact spec_l13Some.mono _ _ _ _
      | exact LeO.none _
      | refine LeO.ite ?_ ?_
      | refine LeO.bind ?_ (fun _ => ?_)
theorem spec_l13Keep.mono : ∀ a0 a1 a2 a3 a4 k, LeO (spec_l13Keep.f k a0 a1 a2 a3 a4) (spec_l13Keep.f (k + 1) a0 a1 a2 a3 a4) := by
  intro a0 a1 a2 a3 a4 k
  obtain ⟨ih0, ih1, ih2⟩ := spec_l13Keep.mono_l k
  unfold spec_l13Keep.f
  repeat' first
      | (with_reducible exact ih0 _ _ _ _ _ _)
      | (with_reducible exact ih1 _ _ _)
      | (with_reducible exact ih2 _ _ _ _ _ _ _)
      | (with_reducible exact spec_l09Put.mono _ _ _)
      | (with_reducible exact spec_l13Newest.mono _ _)
      | (with_reducible exact spec_l13Some.mono _ _ _ _)
      | (with_reducible exact LeO.refl _)
      | (with_reducible exact LeO.none _)
      | (with_reducible refine LeO.ite ?_ ?_)
      | (with_reducible refine LeO.bind ?_ (fun _ => ?_))
      | exact ih0 _ _ _ _ _ _
      | exact ih1 _ _ _
      | exact ih2 _ _ _ _ _ _ _
      | exact spec_l09Put.mono _ _ _
      | exact spec_l13Newest.mono _ _
      | exact spec_l13Some.mono _ _ _ _
      | exact LeO.none _
      | refine LeO.ite ?_ ?_
      | refine LeO.bind ?_ (fun _ => ?_)
def spec_l13Keep.T7 : Bool × List (List Nat × List Nat) := (true, [([], []), ([], []), ([1], [1]), ([0, 2], [0, 2]), ([], []), ([], []), ([5], [5]), ([4, 6, 3], [4, 6]), ([3, 7, 7], [3, 7]), ([], []), ([], []), ([10], [10]), ([9, 11, 8], [9, 11]), ([8, 12, 12], [8, 12]), ([13, 13, 0, 1, 2, 3, 4, 5, 6, 7, 8, 9, 10, 11, 12, 13], [13])])
def spec_l13Keep.B7 : List Nat := [0, 0, 2, 7, 0, 0, 32, 127, 255, 0, 0, 1024, 4095, 8191, 16383]
theorem spec_l13Keep.tab7 : rtab .any (opsOf Try.f99 7) = spec_l13Keep.T7 := by kernel_rfl
theorem spec_l13Keep.bits7 : waitsOk spec_l13Keep.T7.2 spec_l13Keep.B7 = true := by kernel_rfl
set_option maxHeartbeats 8000000 in
set_option maxRecDepth 100000 in
theorem spec_l13Keep.calls (k : Nat) (a0_0 : Int) (a0_1 : Int) (a0_2 : Int) (a0_3 : Int) (A1 : Option Addr) (c1 : Nat) (l1 : List (S132)) (r : List ByteArray) (w : World) (hr1 : Kd.C k132 w A1 l1.length l1) (hc1 : l1.length ≤ c1) (h : spec_l13Keep.f k a0_0 a0_1 a0_2 a0_3 l1 = some r) :
    Calls Try.prog 99 #[.agg #[.int .i64 a0_0, .int .i64 a0_1, .int .i64 a0_2, .int .i64 a0_3], .slice A1 l1.length c1] w fun e w' => ∃ v0_ : Value, e = .returned (v0_) ∧ Kd.R Kd.string 9 w' w.heap.size (fun _ => True) v0_ r ∧ Below w.heap.size w w' := by
  have hu56 := Try.underlying56
  have HR1 := AM hr1
  have HC1 := AM hc1
  clear hr1 hc1
  have HB := AM (Below.refl w.heap.size w)
  have H : ((spec_l13Newest.f k l1).bind fun t241 => (spec_l13Keep.l0 k t241 (([] : List ByteArray)) 0 a0_0 a0_1 a0_2 a0_3)) = some r := h
  clear h
  obtain ⟨t241, A3, H⟩ := OB H
  try dsimp only at H
  replace A3 := AM A3
  obtain ⟨y244, hy244⟩ : ∃ y_ : List ByteArray, y_ = (([] : List ByteArray)) := ⟨_, rfl⟩
  replace H : (spec_l13Keep.l0 k t241 y244 0 a0_0 a0_1 a0_2 a0_3) = some r := by first | (rw [hy244]; with_reducible exact H) | (have H2_ := (Option.bind_some _ _).symm.trans H; rw [hy244]; with_reducible exact H2_) | (have H2_ := (Option.bind_some _ _).symm.trans H; with_reducible exact H2_) | with_reducible exact H | (rw [hy244]; exact H) | exact H
  have Ny244 := AM hy244
  clear hy244
  have HC4 := AM H
  clear H
  go_enter Try.func99, Try.ntmps99
  go_upto_block 0 with (first | ((with_reducible refine gate_dst (N := 2) rfl ?_); refine be_ 2 #[.int .i64 a0_0, .int .i64 a0_1, .int .i64 a0_2, .int .i64 a0_3] 56 ?_; intro gb240 hg w5 hbox hb; have BK240 := AM hbox; have GW240 := AM ((by rw [hg]; exact (below_size bel_) : w.heap.size ≤ gb240)); have GE240 := AM ((by rw [hg]; exact (below_size bel_) : w.heap.size ≤ gb240)); replace HB := AM (below_step bel_ hb); clear hb hbox hg) | ((with_reducible refine gate_callee (f := 167) rfl ?_); refine gl_ (some 11) Try.func167 #[.slice A1 l1.length c1] ?_; (with_reducible refine (spec_l13Newest.calls k _ _ l1 t241 _ ?side1 ?side2 A3.out).mono ?_); (case side1 => repeat (first | exact (Kd.C_below HR1.out HB.out) | (with_reducible refine Kd.C_alloc ?_ _) | (with_reducible refine Kd.C_drewN ?_ _) | (with_reducible refine Kd.C_drew ?_))); (case side2 => exact HC1.out); rintro e w6 ⟨v242, rfl, ho0, hb⟩; refine ⟨_, rfl, ?_⟩; have HO243 := AM (Kd.R_lower ho0 (below_size bel_)); replace BK240 := AM (blk_below (g := gb240) (o := .cells #[.int .i64 a0_0, .int .i64 a0_1, .int .i64 a0_2, .int .i64 a0_3] 56 (0, 0)) (bk_ BK240.out) hb); replace HB := AM (below_step bel_ hb); (try clear hb); (try clear hb2); (try clear hk); (try clear hi); (try clear ho0)) | ((with_reducible refine gate_dst (N := 12) rfl ?_); refine Kd.R_lit Kd.string _ 9 ?hgL1 (N := 12) ?hdL1 (xs := ([] : List ByteArray)) (inner := []) (ok := fun _ => True) (okp := fun _ => True) ?hrL1 ?hpL1 (fun _ hk => hk) trivial (Below.refl _ _) (Nat.le_refl _) (by simp) ?_; (case hdL1 => rfl); (case hgL1 => rfl); (case hrL1 => first | (go_simp; done) | (go_simp; rfl)); (case hpL1 => exact (Reps.none _ _)); intro v245 w7 ho8 hb hg_ hnew_; clear hg_ hnew_; (first | rw [← Ny244.out] at ho8 | (simp only [Int.reduceToNat] at ho8; rw [← Ny244.out] at ho8)); replace HO243 := AM (Kd.R_below (ro_ HO243.out) hb); have HO246 := AM (Kd.R_lower ho8 (below_size bel_)); replace BK240 := AM (blk_below (g := gb240) (o := .cells #[.int .i64 a0_0, .int .i64 a0_1, .int .i64 a0_2, .int .i64 a0_3] 56 (0, 0)) (bk_ BK240.out) hb); replace HB := AM (below_step bel_ hb); clear hb ho8))
  (try simp only [Act.put, List.setIfInBounds_toArray, List.set_cons_zero, List.set_cons_succ])
  go_cut [6] (fun v6 wc => ∃ (kq : Nat) (x6_3 : List ByteArray), Aside0 (spec_l13Keep.j1 kq t241 x6_3 a0_0 a0_1 a0_2 a0_3 = some r) ∧ Aside0 (kq ≤ k) ∧ Aside0 (Kd.R k132 132 wc w.heap.size (fun _ => True) v242 t241) ∧ Aside0 (Kd.R Kd.string 9 wc w.heap.size (fun _ => True) v6 x6_3) ∧ Aside0 (wc.heap[gb240]? = some (.cells #[.int .i64 a0_0, .int .i64 a0_1, .int .i64 a0_2, .int .i64 a0_3] 56 (0, 0))) ∧ Aside0 (Below w.heap.size w wc))
  case first =>
    have H := HC4.out
    clear HC4
    have H' := AM H
    clear H
    go_wp2
    go_loopg [6, 7] k (fun kq v6 v7 w' => ∃ (x6_1 : List ByteArray) (x7_1 : Int), v7 = .int .i64 x7_1 ∧ Aside0 (spec_l13Keep.l0 kq t241 x6_1 x7_1 a0_0 a0_1 a0_2 a0_3 = some r) ∧ Aside0 (kq ≤ k) ∧ Aside0 (Kd.R k132 132 w' w.heap.size (fun _ => True) v242 t241) ∧ Aside0 (Kd.R Kd.string 9 w' w.heap.size (fun _ => True) v6 x6_1) ∧ Aside0 (w'.heap[gb240]? = some (.cells #[.int .i64 a0_0, .int .i64 a0_1, .int .i64 a0_2, .int .i64 a0_3] 56 (0, 0))) ∧ Aside0 (Below w.heap.size w w'))
    case atStart => exact ⟨(y244), (0), (by first | rfl | (simp; done) | (simp [*]; done)), H', ⟨Nat.le_refl _⟩, ⟨ro_ HO243.out⟩, ⟨ro_ HO246.out⟩, ⟨bk_ BK240.out⟩, ⟨bel_⟩⟩
    case round =>
      clear H'
      try clear c1
      try clear p2
      obtain ⟨x6_1, x7_1, rfl, HA, HK1, HO_5, HO_6, BK240, HB⟩ := hrel
      cases gk with
      | zero => exact absurd HA.out (by simp [spec_l13Keep.l0])
      | succ k1 =>
        have H := HA.out
        clear HA
        simp only [spec_l13Keep.l0] at H
        by_cases c9 : x7_1 < (t241.length : Int)
        · rw [if_pos c9] at H
          have c9b0 : decide (x7_1 < (t241.length : Int)) = true := decide_eq_true c9
          clear c9
          (first | rw [c9b0] | (simp only [i64_w, i32_w]; rw [c9b0]) | skip)
          by_cases c10 : x7_1 < a0_0
          · rw [if_pos c10] at H
            have c10b0 : decide (x7_1 < a0_0) = true := decide_eq_true c10
            clear c10
            by_cases c11 : 0 ≤ x7_1
            · rw [if_pos c11] at H
              have c11b0 : decide (0 ≤ x7_1) = true := decide_eq_true c11
              clear c11
              obtain ⟨t248, A12, H⟩ := OB H
              try dsimp only at H
              replace A12 := AM A12
              have H' := AM H
              clear H
              obtain ⟨Ao13, co13, eo13⟩ := Kd.R_slice HO_5.out
              subst eo13
              have hcz14_0 : wr.cell? ⟨gb240, 0, none⟩ = some (.int .i64 a0_0) := (blk_cell BK240.out 0).trans rfl
              have hcz14_1 : wr.cell? ⟨gb240, 1, none⟩ = some (.int .i64 a0_1) := (blk_cell BK240.out 1).trans rfl
              have hcz14_2 : wr.cell? ⟨gb240, 2, none⟩ = some (.int .i64 a0_2) := (blk_cell BK240.out 2).trans rfl
              have hcz14_3 : wr.cell? ⟨gb240, 3, none⟩ = some (.int .i64 a0_3) := (blk_cell BK240.out 3).trans rfl
              have hfz14_0 := blk_frozen BK240.out 0
              have hfz14_1 := blk_frozen BK240.out 1
              have hfz14_2 := blk_frozen BK240.out 2
              have hfz14_3 := blk_frozen BK240.out 3
              have p247 : 0 ≤ (x7_1 : Int) := of_decide_eq_true (by first | (with_reducible assumption) | assumption)
              have q247 : x7_1 < (t241.length : Int) := of_decide_eq_true (by first | (with_reducible assumption) | assumption)
              obtain ⟨ad247, e247, hx247_0, hx247_1, hx247_2⟩ := at_T132 (Kd.R_reads' HO_5.out).2.2 x7_1 p247 q247
              cases e247
              replace p247 := eq_true p247
              replace q247 := eq_true q247
              obtain ⟨Ao15, co15, eo15⟩ := Kd.R_slice HO_6.out
              subst eo15
              go_wp2_with (first | ((with_reducible refine gate_callee (f := 168) rfl ?_); refine gl_ (some 31) Try.func168 #[.slice Ao15 x6_1.length co15, .string ((rd_T132 t241 x7_1).f0)] ?_; (with_reducible refine (spec_l09Put.calls k1 (fun k_ => some k_ = (.slice Ao15 x6_1.length co15 : Value).ownBlock) (.slice Ao15 x6_1.length co15) x6_1 ((rd_T132 t241 x7_1).f0) t248 w _ ?side1 ?side2 A12.out).mono ?_); (case side1 => repeat (first | (with_reducible first | exact HB.out | apply below_alloc | apply pw_below_drewN | apply below_drew1 | refine below_set ?_ GE240.out) | exact HB.out)); (case side2 => exact Kd.R_tight rfl HO_6.out); rintro e w16 ⟨v249, rfl, ho0, hb, hkp⟩; refine ⟨_, rfl, ?_⟩; have n0_ := AM (Kd.R_mono (ok' := fun k_ => True) (Kd.R_keptB ((Kd.R_apart' HO_5.out (Kd.R_typed HO_6.out) (by decide))) hkp (fun k_ hk_ hs_ => by first | exact trivial | exact hk_ hs_ | exact hk_.1 hs_ | exact hk_.2 hs_ | exact hk_.1.1 hs_ | exact hk_.1.2 hs_ | exact hk_.2.1 hs_ | exact hk_.2.2 hs_ | exact hk_.1.1.1 hs_ | exact hk_.1.1.2 hs_ | exact hk_.1.2.1 hs_ | exact hk_.1.2.2 hs_ | exact hk_.2.1.1 hs_ | exact hk_.2.1.2 hs_ | exact hk_.2.2.1 hs_ | exact hk_.2.2.2 hs_ | exact hk_.1.1.1.1 hs_ | exact hk_.1.1.1.2 hs_ | exact hk_.1.1.2.1 hs_ | exact hk_.1.1.2.2 hs_ | exact hk_.1.2.1.1 hs_ | exact hk_.1.2.1.2 hs_ | exact hk_.1.2.2.1 hs_ | exact hk_.1.2.2.2 hs_ | exact hk_.2.1.1.1 hs_ | exact hk_.2.1.1.2 hs_ | exact hk_.2.1.2.1 hs_ | exact hk_.2.1.2.2 hs_ | exact hk_.2.2.1.1 hs_ | exact hk_.2.2.1.2 hs_ | exact hk_.2.2.2.1 hs_ | exact hk_.2.2.2.2 hs_ | exact hk_.1.1.1.1.1 hs_ | exact hk_.1.1.1.1.2 hs_ | exact hk_.1.1.1.2.1 hs_ | exact hk_.1.1.1.2.2 hs_ | exact hk_.1.1.2.1.1 hs_ | exact hk_.1.1.2.1.2 hs_ | exact hk_.1.1.2.2.1 hs_ | exact hk_.1.1.2.2.2 hs_ | exact hk_.1.2.1.1.1 hs_ | exact hk_.1.2.1.1.2 hs_ | exact hk_.1.2.1.2.1 hs_ | exact hk_.1.2.1.2.2 hs_ | exact hk_.1.2.2.1.1 hs_ | exact hk_.1.2.2.1.2 hs_ | exact hk_.1.2.2.2.1 hs_ | exact hk_.1.2.2.2.2 hs_ | exact hk_.2.1.1.1.1 hs_ | exact hk_.2.1.1.1.2 hs_ | exact hk_.2.1.1.2.1 hs_ | exact hk_.2.1.1.2.2 hs_ | exact hk_.2.1.2.1.1 hs_ | exact hk_.2.1.2.1.2 hs_ | exact hk_.2.1.2.2.1 hs_ | exact hk_.2.1.2.2.2 hs_ | exact hk_.2.2.1.1.1 hs_ | exact hk_.2.2.1.1.2 hs_ | exact hk_.2.2.1.2.1 hs_ | exact hk_.2.2.1.2.2 hs_ | exact hk_.2.2.2.1.1 hs_ | exact hk_.2.2.2.1.2 hs_ | exact hk_.2.2.2.2.1 hs_ | exact hk_.2.2.2.2.2 hs_)) (fun k_ hk_ => trivial)); have n1_ := AM (blk_kept (bk_ BK240.out) hkp (fun hs_ => (fun e_ => (Kd.R_ne HO_6.out BK240.out (by decide)) e_) hs_)); have n2_ := AM (Kd.R_mono (ok' := fun k_ => True) ho0 (fun k_ hk_ => trivial)); have n3_ := AM hb; clear HO_5; clear BK240; clear HB; clear HO_6; have HO_5 := n0_; have BK240 := n1_; have HO250 := n2_; have HB := n3_; clear n0_ n1_ n2_ n3_; (try clear hb); (try clear hkp); (try clear ho0)))
              go_roundg k1
              case measure => have := HK1.out; omega
              case rel => exact ⟨(t248), (wrap64 (x7_1 + 1)), (by first | rfl | (simp; done) | (simp [*]; done)), H', ⟨by have := HK1.out; omega⟩, ⟨ro_ HO_5.out⟩, ⟨ro_ HO250.out⟩, ⟨bk_ BK240.out⟩, ⟨bel_⟩⟩
            · rw [if_neg c11] at H
              exact absurd H (by simp)
          · rw [if_neg c10] at H
            have c10b0 : decide (x7_1 < a0_0) = false := decide_eq_false c10
            clear c10
            have H' := AM H
            clear H
            obtain ⟨Ao17, co17, eo17⟩ := Kd.R_slice HO_5.out
            subst eo17
            have hcz18_0 : wr.cell? ⟨gb240, 0, none⟩ = some (.int .i64 a0_0) := (blk_cell BK240.out 0).trans rfl
            have hcz18_1 : wr.cell? ⟨gb240, 1, none⟩ = some (.int .i64 a0_1) := (blk_cell BK240.out 1).trans rfl
            have hcz18_2 : wr.cell? ⟨gb240, 2, none⟩ = some (.int .i64 a0_2) := (blk_cell BK240.out 2).trans rfl
            have hcz18_3 : wr.cell? ⟨gb240, 3, none⟩ = some (.int .i64 a0_3) := (blk_cell BK240.out 3).trans rfl
            have hfz18_0 := blk_frozen BK240.out 0
            have hfz18_1 := blk_frozen BK240.out 1
            have hfz18_2 := blk_frozen BK240.out 2
            have hfz18_3 := blk_frozen BK240.out 3
            go_wp2
            go_meet
            case rel => exact ⟨_, (x6_1), H', ⟨by have := HK1.out; first | omega | exact Nat.le_refl _⟩, ⟨ro_ HO_5.out⟩, ⟨ro_ HO_6.out⟩, ⟨bk_ BK240.out⟩, ⟨bel_⟩⟩
        · rw [if_neg c9] at H
          have c9b0 : decide (x7_1 < (t241.length : Int)) = false := decide_eq_false c9
          clear c9
          (first | rw [c9b0] | (simp only [i64_w, i32_w]; rw [c9b0]) | skip)
          have H' := AM H
          clear H
          obtain ⟨Ao19, co19, eo19⟩ := Kd.R_slice HO_5.out
          subst eo19
          go_wp2
          go_meet
          case rel => exact ⟨_, (x6_1), H', ⟨by have := HK1.out; first | omega | exact Nat.le_refl _⟩, ⟨ro_ HO_5.out⟩, ⟨ro_ HO_6.out⟩, ⟨bk_ BK240.out⟩, ⟨bel_⟩⟩
  case rest =>
    clear HC4
    try clear c1
    try clear p2
    try clear q2
    try clear hx2
    try clear p6
    try clear c9
    try clear c9b0
    try clear c10
    try clear c10b0
    try clear c11
    try clear c11b0
    try clear c16
    try clear hcz14_0
    try clear hcz14_1
    try clear hcz14_2
    try clear hcz14_3
    try clear hcz18_0
    try clear hcz18_1
    try clear hcz18_2
    try clear hcz18_3
    try clear hfz14_0
    try clear hfz14_1
    try clear hfz14_2
    try clear hfz14_3
    try clear hfz18_0
    try clear hfz18_1
    try clear hfz18_2
    try clear hfz18_3
    try clear hx247_0
    try clear hx247_1
    try clear hx247_2
    try clear p2
    try clear p247
    try clear q247
    obtain ⟨kq, x6_3, HA, HJ3, HO_5, HO_6, BK240, HB⟩ := hcut
    cases kq with
    | zero => exact absurd HA.out (by simp [spec_l13Keep.j1])
    | succ kj3 =>
      have H := HA.out
      clear HA
      simp only [spec_l13Keep.j1] at H
      obtain ⟨t251, A20, H⟩ := OB H
      try dsimp only at H
      replace A20 := AM A20
      obtain ⟨t254, A21, H⟩ := OB H
      try dsimp only at H
      replace A21 := AM A21
      by_cases c22 : t251.length + t254.length < 8796093022208
      · rw [if_pos c22] at H
        have LMc22 := AM c22
        clear c22
        obtain ⟨y257, hy257⟩ : ∃ y_ : List ByteArray, y_ = (t251 ++ t254) := ⟨_, rfl⟩
        replace H : ((spec_l13Some.f kj3 t241 a0_3 30).bind fun t260 => (if y257.length + t260.length < 8796093022208 then (spec_l13Keep.l1 kj3 x6_3 (y257 ++ t260) 0) else (none))) = some r := by first | (rw [hy257]; with_reducible exact H) | (have H2_ := (Option.bind_some _ _).symm.trans H; rw [hy257]; with_reducible exact H2_) | (have H2_ := (Option.bind_some _ _).symm.trans H; with_reducible exact H2_) | with_reducible exact H | (rw [hy257]; exact H) | exact H
        have Ny257 := AM hy257
        clear hy257
        obtain ⟨t260, A23, H⟩ := OB H
        try dsimp only at H
        replace A23 := AM A23
        by_cases c24 : y257.length + t260.length < 8796093022208
        · rw [if_pos c24] at H
          have LMc24 := AM c24
          clear c24
          obtain ⟨y263, hy263⟩ : ∃ y_ : List ByteArray, y_ = (y257 ++ t260) := ⟨_, rfl⟩
          replace H : (spec_l13Keep.l1 kj3 x6_3 y263 0) = some r := by first | (rw [hy263]; with_reducible exact H) | (have H2_ := (Option.bind_some _ _).symm.trans H; rw [hy263]; with_reducible exact H2_) | (have H2_ := (Option.bind_some _ _).symm.trans H; with_reducible exact H2_) | with_reducible exact H | (rw [hy263]; exact H) | exact H
          have Ny263 := AM hy263
          clear hy263
          have H' := AM H
          clear H
          try go_wp2
          replace HO_5 := AM (Kd.R_drew HO_5.out)
          replace HO_6 := AM (Kd.R_drew HO_6.out)
          replace BK240 := AM (blk_drew BK240.out)
          replace HB := AM (below_drew1 HB.out)
          obtain ⟨Ao26, co26, eo26⟩ := Kd.R_slice HO_5.out
          (first | subst eo26 | (injection eo26 with f1_ f2_ f3_; have f4_ := f1_.symm; have f5_ := f3_.symm; clear f1_ f2_ f3_; subst f4_; subst f5_))
          refine start_ (n := 15) (S := fun w' => w'.cell? ⟨gb240, 0, none⟩ = some (.int .i64 a0_0) ∧ w'.cell? ⟨gb240, 1, none⟩ = some (.int .i64 a0_1) ∧ w'.cell? ⟨gb240, 2, none⟩ = some (.int .i64 a0_2) ∧ w'.cell? ⟨gb240, 3, none⟩ = some (.int .i64 a0_3)) (ds := []) #[false, false, false, false, false, false, false, false, false, false, false, false, false, false, false] (by kernel_rfl) rfl rfl ⟨(blk_cell BK240.out 0).trans rfl, (blk_cell BK240.out 1).trans rfl, (blk_cell BK240.out 2).trans rfl, (blk_cell BK240.out 3).trans rfl⟩ (fun hHeld => ?_); refine with_tabW spec_l13Keep.tab7 spec_l13Keep.bits7 (fun HT_ HW_ => ?_)
          generalize wc.drew = w25 at HO_5 HO_6 BK240 HB hHeld ⊢
          refine pu_ HT_ 0 (some 32) #[true, false, false, false, false, false, false, false, false, false, false, false, false, false, false] ?_
          refine pu_ HT_ 1 (some 33) #[true, true, false, false, false, false, false, false, false, false, false, false, false, false, false] ?_
          refine pu_ HT_ 4 (some 36) #[true, true, false, false, true, false, false, false, false, false, false, false, false, false, false] ?_
          refine pu_ HT_ 5 (some 37) #[true, true, false, false, true, true, false, false, false, false, false, false, false, false, false] ?_
          refine pu_ HT_ 9 (some 41) #[true, true, false, false, true, true, false, false, false, true, false, false, false, false, false] ?_
          refine pu_ HT_ 10 (some 42) #[true, true, false, false, true, true, false, false, false, true, true, false, false, false, false] ?_
          refine ta_ HT_ HW_ 2 (some 34) #[true, true, true, false, true, true, false, false, false, true, true, false, false, false, false] hHeld ?_
          refine ta_ HT_ HW_ 6 (some 38) #[true, true, true, false, true, true, true, false, false, true, true, false, false, false, false] hHeld ?_
          refine ta_ HT_ HW_ 11 (some 43) #[true, true, true, false, true, true, true, false, false, true, true, true, false, false, false] hHeld ?_
          refine on_ HT_ 3 (some 35) #[true, true, true, true, true, true, true, false, false, true, true, true, false, false, false] (fun K hK => ?_)
          refine go1_ Try.func169 #[.slice Ao26 t241.length co26, .int .i64 a0_1, .int .i64 1] ?_
          with_reducible refine (spec_l13Some.calls kj3 _ _ t241 a0_1 1 t251 _ ?side1 ?side2 A20.out).mono ?_
          (case side1 => repeat (first | exact (Kd.R_reads' HO_5.out).2.2 | (with_reducible refine Kd.C_alloc ?_ _) | (with_reducible refine Kd.C_drewN ?_ _) | (with_reducible refine Kd.C_drew ?_)))
          (case side2 => exact (Kd.R_reads' HO_5.out).2.1)
          rintro e w27 ⟨v252, rfl, ho0, hb⟩
          refine ⟨_, rfl, ?_⟩
          replace HO_5 := AM (Kd.R_below (ro_ HO_5.out) hb)
          have HO253 := AM (Kd.R_lower (Kd.R_new' ho0 (Kd.R_lt (ro_ HO_6.out))) (below_size bel_))
          replace HO_6 := AM (Kd.R_elder' (ro_ HO_6.out) (Kd.R_base ho0) hb)
          replace BK240 := AM (blk_below (g := gb240) (o := .cells #[.int .i64 a0_0, .int .i64 a0_1, .int .i64 a0_2, .int .i64 a0_3] 56 (0, 0)) (bk_ BK240.out) hb)
          replace HB := AM (below_step bel_ hb)
          (try clear hb)
          (try clear hb2)
          (try clear hk)
          (try clear hi)
          (try clear ho0)
          refine hK.out _ _ ⟨(blk_cell BK240.out 0).trans rfl, (blk_cell BK240.out 1).trans rfl, (blk_cell BK240.out 2).trans rfl, (blk_cell BK240.out 3).trans rfl⟩ (fun hHeld => ?_)
          clear hK K
          refine nm_ ?_
          refine on_ HT_ 7 (some 39) #[true, true, true, true, true, true, true, true, false, true, true, true, false, false, false] (fun K hK => ?_)
          refine go1_ Try.func169 #[.slice Ao26 t241.length co26, .int .i64 a0_2, .int .i64 7] ?_
          with_reducible refine (spec_l13Some.calls kj3 _ _ t241 a0_2 7 t254 _ ?side1 ?side2 A21.out).mono ?_
          (case side1 => repeat (first | exact (Kd.R_reads' HO_5.out).2.2 | (with_reducible refine Kd.C_alloc ?_ _) | (with_reducible refine Kd.C_drewN ?_ _) | (with_reducible refine Kd.C_drew ?_)))
          (case side2 => exact (Kd.R_reads' HO_5.out).2.1)
          rintro e w28 ⟨v255, rfl, ho0, hb⟩
          refine ⟨_, rfl, ?_⟩
          replace HO_5 := AM (Kd.R_below (ro_ HO_5.out) hb)
          have HO256 := AM (Kd.R_lower (Kd.R_new' (Kd.R_new' ho0 (Kd.R_lt (ro_ HO_6.out))) (Kd.R_lt (ro_ HO253.out))) (below_size bel_))
          replace HO_6 := AM (Kd.R_elder' (ro_ HO_6.out) (Kd.R_base ho0) hb)
          replace HO253 := AM (Kd.R_elder' (ro_ HO253.out) (Kd.R_base ho0) hb)
          replace BK240 := AM (blk_below (g := gb240) (o := .cells #[.int .i64 a0_0, .int .i64 a0_1, .int .i64 a0_2, .int .i64 a0_3] 56 (0, 0)) (bk_ BK240.out) hb)
          replace HB := AM (below_step bel_ hb)
          (try clear hb)
          (try clear hb2)
          (try clear hk)
          (try clear hi)
          (try clear ho0)
          obtain ⟨Ao30, co30, eo30⟩ := Kd.R_slice HO256.out
          (first | subst eo30 | (injection eo30 with f1_ f2_ f3_; have f4_ := f1_.symm; have f5_ := f3_.symm; clear f1_ f2_ f3_; subst f4_; subst f5_))
          refine hK.out _ _ ⟨(blk_cell BK240.out 0).trans rfl, (blk_cell BK240.out 1).trans rfl, (blk_cell BK240.out 2).trans rfl, (blk_cell BK240.out 3).trans rfl⟩ (fun hHeld => ?_)
          clear hK K
          refine nm_ ?_
          refine on_ HT_ 8 (some 40) #[true, true, true, true, true, true, true, true, true, true, true, true, false, false, false] (fun K hK => ?_)
          refine Kd.R_append_rows_step Kd.string (w0 := w) w.heap.size (by rfl) (.tmp 35) (.tmp 39) 54 9 (.string ⟨#[]⟩) 16 rfl Try.underlying54 info9 rfl (by decide) (by omega) v252 t251 t254 _ _ _ (fun k_ => some k_ ≠ (u6 : Value).ownBlock ∧ some k_ ≠ (.slice Ao30 t254.length co30 : Value).ownBlock) (fun _ => False) rfl rfl ?aO ?aR (fun _ _ h => h) (fun _ h => h.elim) ?aF ?aB ?aS ?aL ?_
          (case aR => repeat (first | exact (Kd.R_reads' HO256.out).2.2 | (with_reducible refine Kd.C_alloc ?_ _) | (with_reducible refine Kd.C_drewN ?_ _) | (with_reducible refine Kd.C_drew ?_)))
          (case aB => exact bel_)
          (case aF => exact (fun k_ hk => ⟨Kd.fresh' (Kd.R_lt (ro_ HO_6.out)) k_ hk, Kd.fresh' (Kd.R_lt (ro_ HO256.out)) k_ hk⟩))
          (case aO => exact (by (with_reducible repeat (first | apply Kd.R_alloc | apply Kd.R_drewN | apply Kd.R_drew)); exact Kd.R_mono HO253.out (fun _ hk => ⟨hk.1.2, hk.2⟩)))
          (case aS => exact (below_size bel_))
          (case aL => have := LMc22.out; omega)
          intro v258 w29 ho hb hg hat
          rw [← Ny257.out] at ho
          have n0_ := AM (Kd.R_over' (ro_ HO_5.out) (Kd.R_typed (ro_ HO253.out)) (by decide) hg)
          have n1_ := AM (Kd.R_after (ok := (fun k_ => some k_ ≠ (.slice Ao30 t254.length co30 : Value).ownBlock)) (by (with_reducible repeat (first | apply Kd.R_alloc | apply Kd.R_drewN | apply Kd.R_drew)); exact Kd.R_mono HO_6.out (fun _ hk => ⟨hk.2, hk.1.2⟩)) hg hat)
          have n2_ := AM (blk_grown (g := gb240) (o := .cells #[.int .i64 a0_0, .int .i64 a0_1, .int .i64 a0_2, .int .i64 a0_3] 56 (0, 0)) (bk_ BK240.out) hg (Kd.R_ne HO253.out BK240.out (by decide)))
          have n3_ := AM (Kd.R_after (ok := (fun k_ => some k_ ≠ (u6 : Value).ownBlock)) (by (with_reducible repeat (first | apply Kd.R_alloc | apply Kd.R_drewN | apply Kd.R_drew)); exact Kd.R_mono HO256.out (fun _ hk => ⟨hk.1.2, hk.2⟩)) hg hat)
          have n4_ := AM hb
          have n5_ := AM ho
          clear HO_5
          clear HO_6
          clear BK240
          clear HO256
          clear HB
          clear HO253
          have HO_5 := n0_
          have HO_6 := n1_
          have BK240 := n2_
          have HO256 := n3_
          have HB := n4_
          have HO259 := n5_
          clear n0_ n1_ n2_ n3_ n4_ n5_
          clear ho hb hg hat
          refine hK.out _ _ ⟨(blk_cell BK240.out 0).trans rfl, (blk_cell BK240.out 1).trans rfl, (blk_cell BK240.out 2).trans rfl, (blk_cell BK240.out 3).trans rfl⟩ (fun hHeld => ?_)
          clear hK K
          refine nm_ ?_
          refine on_ HT_ 12 (some 44) #[true, true, true, true, true, true, true, true, true, true, true, true, true, false, false] (fun K hK => ?_)
          refine go1_ Try.func169 #[.slice Ao26 t241.length co26, .int .i64 a0_3, .int .i64 30] ?_
          with_reducible refine (spec_l13Some.calls kj3 _ _ t241 a0_3 30 t260 _ ?side1 ?side2 A23.out).mono ?_
          (case side1 => repeat (first | exact (Kd.R_reads' HO_5.out).2.2 | (with_reducible refine Kd.C_alloc ?_ _) | (with_reducible refine Kd.C_drewN ?_ _) | (with_reducible refine Kd.C_drew ?_)))
          (case side2 => exact (Kd.R_reads' HO_5.out).2.1)
          rintro e w31 ⟨v261, rfl, ho0, hb⟩
          refine ⟨_, rfl, ?_⟩
          replace HO_5 := AM (Kd.R_below (ro_ HO_5.out) hb)
          have HO262 := AM (Kd.R_lower (Kd.R_new' (Kd.R_new' (Kd.R_new' ho0 (Kd.R_lt (ro_ HO_6.out))) (Kd.R_lt (ro_ HO256.out))) (Kd.R_lt (ro_ HO259.out))) (below_size bel_))
          replace HO_6 := AM (Kd.R_elder' (ro_ HO_6.out) (Kd.R_base ho0) hb)
          replace HO256 := AM (Kd.R_elder' (ro_ HO256.out) (Kd.R_base ho0) hb)
          replace HO259 := AM (Kd.R_elder' (ro_ HO259.out) (Kd.R_base ho0) hb)
          replace BK240 := AM (blk_below (g := gb240) (o := .cells #[.int .i64 a0_0, .int .i64 a0_1, .int .i64 a0_2, .int .i64 a0_3] 56 (0, 0)) (bk_ BK240.out) hb)
          replace HB := AM (below_step bel_ hb)
          (try clear hb)
          (try clear hb2)
          (try clear hk)
          (try clear hi)
          (try clear ho0)
          obtain ⟨Ao33, co33, eo33⟩ := Kd.R_slice HO262.out
          (first | subst eo33 | (injection eo33 with f1_ f2_ f3_; have f4_ := f1_.symm; have f5_ := f3_.symm; clear f1_ f2_ f3_; subst f4_; subst f5_))
          refine hK.out _ _ ⟨(blk_cell BK240.out 0).trans rfl, (blk_cell BK240.out 1).trans rfl, (blk_cell BK240.out 2).trans rfl, (blk_cell BK240.out 3).trans rfl⟩ (fun hHeld => ?_)
          clear hK K
          refine nm_ ?_
          refine on_ HT_ 13 (some 45) #[true, true, true, true, true, true, true, true, true, true, true, true, true, true, false] (fun K hK => ?_)
          refine Kd.R_append_rows_step Kd.string (w0 := w) w.heap.size (by rfl) (.tmp 40) (.tmp 44) 54 9 (.string ⟨#[]⟩) 16 rfl Try.underlying54 info9 rfl (by decide) (by omega) v258 y257 t260 _ _ _ (fun k_ => some k_ ≠ (u6 : Value).ownBlock ∧ some k_ ≠ (.slice Ao30 t254.length co30 : Value).ownBlock ∧ some k_ ≠ (.slice Ao33 t260.length co33 : Value).ownBlock) (fun _ => False) rfl rfl ?aO ?aR (fun _ _ h => h) (fun _ h => h.elim) ?aF ?aB ?aS ?aL ?_
          (case aR => repeat (first | exact (Kd.R_reads' HO262.out).2.2 | (with_reducible refine Kd.C_alloc ?_ _) | (with_reducible refine Kd.C_drewN ?_ _) | (with_reducible refine Kd.C_drew ?_)))
          (case aB => exact bel_)
          (case aF => exact (fun k_ hk => ⟨Kd.fresh' (Kd.R_lt (ro_ HO_6.out)) k_ hk, Kd.fresh' (Kd.R_lt (ro_ HO256.out)) k_ hk, Kd.fresh' (Kd.R_lt (ro_ HO262.out)) k_ hk⟩))
          (case aO => exact (by (with_reducible repeat (first | apply Kd.R_alloc | apply Kd.R_drewN | apply Kd.R_drew)); exact Kd.R_mono HO259.out (fun _ hk => ⟨hk.1.1, ⟨hk.1.2, hk.2⟩⟩)))
          (case aS => exact (below_size bel_))
          (case aL => have := LMc24.out; omega)
          intro v264 w32 ho hb hg hat
          rw [← Ny263.out] at ho
          have n0_ := AM (Kd.R_over' (ro_ HO_5.out) (Kd.R_typed (ro_ HO259.out)) (by decide) hg)
          have n1_ := AM (Kd.R_after (ok := (fun k_ => some k_ ≠ (.slice Ao30 t254.length co30 : Value).ownBlock ∧ some k_ ≠ (.slice Ao33 t260.length co33 : Value).ownBlock)) (by (with_reducible repeat (first | apply Kd.R_alloc | apply Kd.R_drewN | apply Kd.R_drew)); exact Kd.R_mono HO_6.out (fun _ hk => ⟨⟨hk.1.1, hk.2⟩, hk.1.2⟩)) hg hat)
          have n2_ := AM (blk_grown (g := gb240) (o := .cells #[.int .i64 a0_0, .int .i64 a0_1, .int .i64 a0_2, .int .i64 a0_3] 56 (0, 0)) (bk_ BK240.out) hg (Kd.R_ne HO259.out BK240.out (by decide)))
          have n3_ := AM (Kd.R_after (ok := (fun k_ => some k_ ≠ (u6 : Value).ownBlock ∧ some k_ ≠ (.slice Ao33 t260.length co33 : Value).ownBlock)) (by (with_reducible repeat (first | apply Kd.R_alloc | apply Kd.R_drewN | apply Kd.R_drew)); exact Kd.R_mono HO256.out (fun _ hk => ⟨⟨hk.1.1, hk.2⟩, hk.1.2⟩)) hg hat)
          have n4_ := AM (Kd.R_after (ok := (fun k_ => some k_ ≠ (u6 : Value).ownBlock ∧ some k_ ≠ (.slice Ao30 t254.length co30 : Value).ownBlock)) (by (with_reducible repeat (first | apply Kd.R_alloc | apply Kd.R_drewN | apply Kd.R_drew)); exact Kd.R_mono HO262.out (fun _ hk => ⟨⟨hk.1.1.2, hk.1.2⟩, hk.2⟩)) hg hat)
          have n5_ := AM hb
          have n6_ := AM ho
          clear HO_5
          clear HO_6
          clear BK240
          clear HO256
          clear HO262
          clear HB
          clear HO259
          have HO_5 := n0_
          have HO_6 := n1_
          have BK240 := n2_
          have HO256 := n3_
          have HO262 := n4_
          have HB := n5_
          have HO265 := n6_
          clear n0_ n1_ n2_ n3_ n4_ n5_ n6_
          clear ho hb hg hat
          refine hK.out _ _ ⟨(blk_cell BK240.out 0).trans rfl, (blk_cell BK240.out 1).trans rfl, (blk_cell BK240.out 2).trans rfl, (blk_cell BK240.out 3).trans rfl⟩ (fun hHeld => ?_)
          clear hK K
          refine nm_ ?_
          refine pu_ HT_ 14 (some 8) #[true, true, true, true, true, true, true, true, true, true, true, true, true, true, true] ?_
          refine dn_ HT_ ?_
          try go_wp2
          go_loopg [6, 9] kj3 (fun kq v6 v9 w' => ∃ (x6_2 : List ByteArray) (x9_2 : Int), v9 = .int .i64 x9_2 ∧ Aside0 (spec_l13Keep.l1 kq x6_2 y263 x9_2 = some r) ∧ Aside0 (kq ≤ kj3) ∧ Aside0 (Kd.R Kd.string 9 w' w.heap.size (fun k_ => some k_ ≠ (v264 : Value).ownBlock) v6 x6_2) ∧ Aside0 (Kd.R Kd.string 9 w' w.heap.size (fun k_ => some k_ ≠ (v6 : Value).ownBlock) v264 y263) ∧ Aside0 (w'.heap[gb240]? = some (.cells #[.int .i64 a0_0, .int .i64 a0_1, .int .i64 a0_2, .int .i64 a0_3] 56 (0, 0))) ∧ Aside0 (Below w.heap.size w w'))
          case atStart => exact ⟨(x6_3), (0), (by first | rfl | (simp; done) | (simp [*]; done)), H', ⟨Nat.le_refl _⟩, ⟨by (with_reducible repeat (first | apply Kd.R_alloc | apply Kd.R_drewN | apply Kd.R_drew)); exact Kd.R_mono HO_6.out (fun _ hk => hk.2)⟩, ⟨by (with_reducible repeat (first | apply Kd.R_alloc | apply Kd.R_drewN | apply Kd.R_drew)); exact Kd.R_mono HO265.out (fun _ hk => hk.1)⟩, ⟨bk_ BK240.out⟩, ⟨bel_⟩⟩
          case round =>
            clear H'
            try clear c1
            try clear c2
            try clear p2
            try clear q2
            try clear hx2
            try clear p6
            try clear c9
            try clear c9b0
            try clear c10
            try clear c10b0
            try clear c11
            try clear c11b0
            try clear c16
            try clear c22
            try clear c24
            try clear p24
            try clear q24
            try clear hx24
            try clear hcz14_0
            try clear hcz14_1
            try clear hcz14_2
            try clear hcz14_3
            try clear hcz18_0
            try clear hcz18_1
            try clear hcz18_2
            try clear hcz18_3
            try clear hfz14_0
            try clear hfz14_1
            try clear hfz14_2
            try clear hfz14_3
            try clear hfz18_0
            try clear hfz18_1
            try clear hfz18_2
            try clear hfz18_3
            try clear hx247_0
            try clear hx247_1
            try clear hx247_2
            try clear p2
            try clear p247
            try clear p6
            try clear q2
            try clear q247
            obtain ⟨x6_2, x9_2, rfl, HA, HK2, HO_6, HO_8, BK240, HB⟩ := hrel
            cases gk with
            | zero => exact absurd HA.out (by simp [spec_l13Keep.l1])
            | succ k2 =>
              have H := HA.out
              clear HA
              simp only [spec_l13Keep.l1] at H
              by_cases c34 : x9_2 < (y263.length : Int)
              · rw [if_pos c34] at H
                have c34b0 : decide (x9_2 < (y263.length : Int)) = true := decide_eq_true c34
                clear c34
                by_cases c35 : 0 ≤ x9_2
                · rw [if_pos c35] at H
                  have c35b0 : decide (0 ≤ x9_2) = true := decide_eq_true c35
                  clear c35
                  obtain ⟨t267, A36, H⟩ := OB H
                  try dsimp only at H
                  replace A36 := AM A36
                  have H' := AM H
                  clear H
                  obtain ⟨Ao37, co37, eo37⟩ := Kd.R_slice HO_8.out
                  subst eo37
                  have p266 : 0 ≤ (x9_2 : Int) := of_decide_eq_true (by first | (with_reducible assumption) | assumption)
                  have q266 : x9_2 < (y263.length : Int) := of_decide_eq_true (by first | (with_reducible assumption) | assumption)
                  obtain ⟨ad266, e266, hx266_0⟩ := Kd.at_string (Kd.R_reads' HO_8.out).2.2 x9_2 p266 q266
                  cases e266
                  replace p266 := eq_true p266
                  replace q266 := eq_true q266
                  obtain ⟨Ao38, co38, eo38⟩ := Kd.R_slice HO_6.out
                  subst eo38
                  go_wp2_with (first | ((with_reducible refine gate_callee (f := 168) rfl ?_); refine gl_ (some 57) Try.func168 #[.slice Ao38 x6_2.length co38, .string (rdOf ByteArray.empty y263 x9_2)] ?_; (with_reducible refine (spec_l09Put.calls k2 (fun k_ => some k_ = (.slice Ao38 x6_2.length co38 : Value).ownBlock) (.slice Ao38 x6_2.length co38) x6_2 (rdOf ByteArray.empty y263 x9_2) t267 w _ ?side1 ?side2 A36.out).mono ?_); (case side1 => repeat (first | (with_reducible first | exact HB.out | apply below_alloc | apply pw_below_drewN | apply below_drew1 | refine below_set ?_ GE240.out) | exact HB.out)); (case side2 => exact Kd.R_tight rfl HO_6.out); rintro e w39 ⟨v268, rfl, ho0, hb, hkp⟩; refine ⟨_, rfl, ?_⟩; have n0_ := AM (Kd.R_mono (ok' := fun k_ => some k_ ≠ (v268 : Value).ownBlock) (Kd.R_keptB (HO_8.out) hkp (fun k_ hk_ hs_ => by first | exact trivial | exact hk_ hs_ | exact hk_.1 hs_ | exact hk_.2 hs_ | exact hk_.1.1 hs_ | exact hk_.1.2 hs_ | exact hk_.2.1 hs_ | exact hk_.2.2 hs_ | exact hk_.1.1.1 hs_ | exact hk_.1.1.2 hs_ | exact hk_.1.2.1 hs_ | exact hk_.1.2.2 hs_ | exact hk_.2.1.1 hs_ | exact hk_.2.1.2 hs_ | exact hk_.2.2.1 hs_ | exact hk_.2.2.2 hs_ | exact hk_.1.1.1.1 hs_ | exact hk_.1.1.1.2 hs_ | exact hk_.1.1.2.1 hs_ | exact hk_.1.1.2.2 hs_ | exact hk_.1.2.1.1 hs_ | exact hk_.1.2.1.2 hs_ | exact hk_.1.2.2.1 hs_ | exact hk_.1.2.2.2 hs_ | exact hk_.2.1.1.1 hs_ | exact hk_.2.1.1.2 hs_ | exact hk_.2.1.2.1 hs_ | exact hk_.2.1.2.2 hs_ | exact hk_.2.2.1.1 hs_ | exact hk_.2.2.1.2 hs_ | exact hk_.2.2.2.1 hs_ | exact hk_.2.2.2.2 hs_ | exact hk_.1.1.1.1.1 hs_ | exact hk_.1.1.1.1.2 hs_ | exact hk_.1.1.1.2.1 hs_ | exact hk_.1.1.1.2.2 hs_ | exact hk_.1.1.2.1.1 hs_ | exact hk_.1.1.2.1.2 hs_ | exact hk_.1.1.2.2.1 hs_ | exact hk_.1.1.2.2.2 hs_ | exact hk_.1.2.1.1.1 hs_ | exact hk_.1.2.1.1.2 hs_ | exact hk_.1.2.1.2.1 hs_ | exact hk_.1.2.1.2.2 hs_ | exact hk_.1.2.2.1.1 hs_ | exact hk_.1.2.2.1.2 hs_ | exact hk_.1.2.2.2.1 hs_ | exact hk_.1.2.2.2.2 hs_ | exact hk_.2.1.1.1.1 hs_ | exact hk_.2.1.1.1.2 hs_ | exact hk_.2.1.1.2.1 hs_ | exact hk_.2.1.1.2.2 hs_ | exact hk_.2.1.2.1.1 hs_ | exact hk_.2.1.2.1.2 hs_ | exact hk_.2.1.2.2.1 hs_ | exact hk_.2.1.2.2.2 hs_ | exact hk_.2.2.1.1.1 hs_ | exact hk_.2.2.1.1.2 hs_ | exact hk_.2.2.1.2.1 hs_ | exact hk_.2.2.1.2.2 hs_ | exact hk_.2.2.2.1.1 hs_ | exact hk_.2.2.2.1.2 hs_ | exact hk_.2.2.2.2.1 hs_ | exact hk_.2.2.2.2.2 hs_)) (fun k_ hk_ => fun e_ => Or.elim (ho0.1 k_ e_.symm) (fun hs_ => hk_.2.1 hs_) (fun hn_ => Nat.not_le.2 hk_.2.2 hn_))); have n1_ := AM (blk_kept (bk_ BK240.out) hkp (fun hs_ => (fun e_ => (Kd.R_ne HO_6.out BK240.out (by decide)) e_) hs_)); have n2_ := AM (Kd.R_mono (ok' := fun k_ => some k_ ≠ (.slice (some ad266) y263.length co37 : Value).ownBlock) ho0 (fun k_ hk_ => Or.elim hk_ (fun hs_ => fun e_ => (((HO_8.out).1 k_ e_.symm)) hs_) (fun hn_ => (Kd.fresh' (Kd.R_lt (ro_ HO_8.out)) k_ hn_)))); have n3_ := AM hb; clear HO_8; clear BK240; clear HB; clear HO_6; have HO_8 := n0_; have BK240 := n1_; have HO269 := n2_; have HB := n3_; clear n0_ n1_ n2_ n3_; (try clear hb); (try clear hkp); (try clear ho0)))
                  go_roundg k2
                  case measure => have := HJ3.out; have := HK2.out; omega
                  case rel => exact ⟨(t267), (wrap64 (x9_2 + 1)), (by first | rfl | (simp; done) | (simp [*]; done)), H', ⟨by have := HJ3.out; have := HK2.out; omega⟩, ⟨ro_ HO269.out⟩, ⟨ro_ HO_8.out⟩, ⟨bk_ BK240.out⟩, ⟨bel_⟩⟩
                · rw [if_neg c35] at H
                  exact absurd H (by simp)
              · rw [if_neg c34] at H
                have c34b0 : decide (x9_2 < (y263.length : Int)) = false := decide_eq_false c34
                clear c34
                obtain rfl := Option.some.inj H
                obtain ⟨Ao40, co40, eo40⟩ := Kd.R_slice HO_8.out
                subst eo40
                go_wp2
                go_ret
                exact ⟨_, ri_, by (with_reducible repeat (first | apply Kd.R_alloc | apply Kd.R_drewN | apply Kd.R_drew)); exact Kd.R_mono HO_6.out (fun _ hk => trivial), bel_⟩
        · rw [if_neg c24] at H
          exact absurd H (by simp)
      · rw [if_neg c22] at H
        exact absurd H (by simp)

/-! ### spec_Keep: function 29 -/
def spec_Keep.f (k : Nat) (a0_0 : Int) (a0_1 : Int) (a0_2 : Int) (a0_3 : Int) (l1 : List (S132)) : Option (List ByteArray) := if (l1.length : Int) > 400 then (some (([] : List ByteArray))) else ((spec_PolicyRight.f a0_0 a0_1 a0_2 a0_3).bind fun t274 => (if t274 = true then ((spec_SnapsRight.f k l1).bind fun t275 => (if t275 = true then ((spec_l13Keep.f k a0_0 a0_1 a0_2 a0_3 l1).bind fun t276 => (some t276)) else (some (([] : List ByteArray))))) else (some (([] : List ByteArray)))))
theorem spec_Keep.mono : ∀ a0 a1 a2 a3 a4 k, LeO (spec_Keep.f k a0 a1 a2 a3 a4) (spec_Keep.f (k + 1) a0 a1 a2 a3 a4) := by
  intro a0 a1 a2 a3 a4 k
  unfold spec_Keep.f
  repeat' first
      | (with_reducible exact spec_SnapsRight.mono _ _)
      | (with_reducible exact spec_l13Keep.mono _ _ _ _ _ _)
      | (with_reducible exact LeO.refl _)
      | (with_reducible exact LeO.none _)
      | (with_reducible refine LeO.ite ?_ ?_)
      | (with_reducible refine LeO.bind ?_ (fun _ => ?_))
      | exact spec_SnapsRight.mono _ _
      | exact spec_l13Keep.mono _ _ _ _ _ _
      | exact LeO.none _
      | refine LeO.ite ?_ ?_
      | refine LeO.bind ?_ (fun _ => ?_)
set_option maxHeartbeats 8000000 in
set_option maxRecDepth 100000 in
theorem spec_Keep.calls (k : Nat) (a0_0 : Int) (a0_1 : Int) (a0_2 : Int) (a0_3 : Int) (A1 : Option Addr) (c1 : Nat) (l1 : List (S132)) (r : List ByteArray) (w : World) (hr1 : Kd.C k132 w A1 l1.length l1) (hc1 : l1.length ≤ c1) (h : spec_Keep.f k a0_0 a0_1 a0_2 a0_3 l1 = some r) :
    Calls Try.prog 29 #[.agg #[.int .i64 a0_0, .int .i64 a0_1, .int .i64 a0_2, .int .i64 a0_3], .slice A1 l1.length c1] w fun e w' => ∃ v0_ : Value, e = .returned (v0_) ∧ Kd.R Kd.string 9 w' w.heap.size (fun _ => True) v0_ r ∧ Below w.heap.size w w' := by
  have hu56 := Try.underlying56
  have HR1 := AM hr1
  have HC1 := AM hc1
  clear hr1 hc1
  have HB := AM (Below.refl w.heap.size w)
  have H : (if (l1.length : Int) > 400 then (some (([] : List ByteArray))) else ((spec_PolicyRight.f a0_0 a0_1 a0_2 a0_3).bind fun t274 => (if t274 = true then ((spec_SnapsRight.f k l1).bind fun t275 => (if t275 = true then ((spec_l13Keep.f k a0_0 a0_1 a0_2 a0_3 l1).bind fun t276 => (some t276)) else (some (([] : List ByteArray))))) else (some (([] : List ByteArray)))))) = some r := h
  clear h
  by_cases c3 : (l1.length : Int) > 400
  · rw [if_pos c3] at H
    have c3b0 : decide (400 < (l1.length : Int)) = true := decide_eq_true c3
    have c3b1 : decide (400 < l1.length) = true := decide_eq_true (by omega)
    clear c3
    obtain ⟨y271, hy271⟩ : ∃ y_ : List ByteArray, y_ = (([] : List ByteArray)) := ⟨_, rfl⟩
    replace H : (some y271) = some r := by first | (rw [hy271]; with_reducible exact H) | (have H2_ := (Option.bind_some _ _).symm.trans H; rw [hy271]; with_reducible exact H2_) | (have H2_ := (Option.bind_some _ _).symm.trans H; with_reducible exact H2_) | with_reducible exact H | (rw [hy271]; exact H) | exact H
    have Ny271 := AM hy271
    clear hy271
    obtain rfl := Option.some.inj H
    go_enter Try.func29, Try.ntmps29
    go_wp2_with (first | ((with_reducible refine gate_dst (N := 2) rfl ?_); refine be_ 2 #[.int .i64 a0_0, .int .i64 a0_1, .int .i64 a0_2, .int .i64 a0_3] 56 ?_; intro gb270 hg w4 hbox hb; have BK270 := AM hbox; have GW270 := AM ((by rw [hg]; exact (below_size bel_) : w.heap.size ≤ gb270)); have GE270 := AM ((by rw [hg]; exact (below_size bel_) : w.heap.size ≤ gb270)); replace HB := AM (below_step bel_ hb); clear hb hbox hg) | ((with_reducible refine gate_dst (N := 18) rfl ?_); refine Kd.R_lit Kd.string _ 9 ?hgL2 (N := 18) ?hdL2 (xs := ([] : List ByteArray)) (inner := []) (ok := fun _ => True) (okp := fun _ => True) ?hrL2 ?hpL2 (fun _ hk => hk) trivial (Below.refl _ _) (Nat.le_refl _) (by simp) ?_; (case hdL2 => rfl); (case hgL2 => rfl); (case hrL2 => first | (go_simp; done) | (go_simp; rfl)); (case hpL2 => exact (Reps.none _ _)); intro v272 w5 ho6 hb hg_ hnew_; clear hg_ hnew_; (first | rw [← Ny271.out] at ho6 | (simp only [Int.reduceToNat] at ho6; rw [← Ny271.out] at ho6)); have HO273 := AM (Kd.R_lower ho6 (below_size bel_)); replace BK270 := AM (blk_below (g := gb270) (o := .cells #[.int .i64 a0_0, .int .i64 a0_1, .int .i64 a0_2, .int .i64 a0_3] 56 (0, 0)) (bk_ BK270.out) hb); replace HB := AM (below_step bel_ hb); clear hb ho6))
    go_ret
    exact ⟨_, ri_, ro_ HO273.out, bel_⟩
  · rw [if_neg c3] at H
    have c3b0 : decide (400 < (l1.length : Int)) = false := decide_eq_false c3
    have c3b1 : decide (400 < l1.length) = false := decide_eq_false (by omega)
    clear c3
    obtain ⟨t274, A7, H⟩ := OB H
    try dsimp only at H
    replace A7 := AM A7
    by_cases c8 : t274 = true
    · subst c8
      rw [if_pos rfl] at H
      obtain ⟨t275, A9, H⟩ := OB H
      try dsimp only at H
      replace A9 := AM A9
      by_cases c10 : t275 = true
      · subst c10
        rw [if_pos rfl] at H
        obtain ⟨t276, A11, H⟩ := OB H
        try dsimp only at H
        replace A11 := AM A11
        obtain rfl := Option.some.inj H
        go_enter Try.func29, Try.ntmps29
        go_wp2_with (first | ((with_reducible refine gate_dst (N := 2) rfl ?_); refine be_ 2 #[.int .i64 a0_0, .int .i64 a0_1, .int .i64 a0_2, .int .i64 a0_3] 56 ?_; intro gb270 hg w12 hbox hb; have BK270 := AM hbox; have GW270 := AM ((by rw [hg]; exact (below_size bel_) : w.heap.size ≤ gb270)); have GE270 := AM ((by rw [hg]; exact (below_size bel_) : w.heap.size ≤ gb270)); replace HB := AM (below_step bel_ hb); clear hb hbox hg; have hcz13_0 : w12.cell? ⟨gb270, 0, none⟩ = some (.int .i64 a0_0) := (blk_cell BK270.out 0).trans rfl; have hcz13_1 : w12.cell? ⟨gb270, 1, none⟩ = some (.int .i64 a0_1) := (blk_cell BK270.out 1).trans rfl; have hcz13_2 : w12.cell? ⟨gb270, 2, none⟩ = some (.int .i64 a0_2) := (blk_cell BK270.out 2).trans rfl; have hcz13_3 : w12.cell? ⟨gb270, 3, none⟩ = some (.int .i64 a0_3) := (blk_cell BK270.out 3).trans rfl; have hfz13_0 := blk_frozen BK270.out 0; have hfz13_1 := blk_frozen BK270.out 1; have hfz13_2 := blk_frozen BK270.out 2; have hfz13_3 := blk_frozen BK270.out 3) | (go_at_call 97; (with_reducible refine (spec_PolicyRight.calls a0_0 a0_1 a0_2 a0_3 true _ A7.out).mono ?_); rintro e w14 ⟨rfl, hb⟩; replace BK270 := AM (blk_below (g := gb270) (o := .cells #[.int .i64 a0_0, .int .i64 a0_1, .int .i64 a0_2, .int .i64 a0_3] 56 (0, 0)) (bk_ BK270.out) hb); replace HB := AM (below_step bel_ hb); (try clear hb); (try clear hb2); (try clear hk); (try clear hi)) | (go_at_call 98; (with_reducible refine (spec_SnapsRight.calls k _ _ l1 true _ ?side1 ?side2 A9.out).mono ?_); (case side1 => repeat (first | exact (Kd.C_below HR1.out HB.out) | (with_reducible refine Kd.C_alloc ?_ _) | (with_reducible refine Kd.C_drewN ?_ _) | (with_reducible refine Kd.C_drew ?_))); (case side2 => exact HC1.out); rintro e w15 ⟨rfl, hb⟩; replace BK270 := AM (blk_below (g := gb270) (o := .cells #[.int .i64 a0_0, .int .i64 a0_1, .int .i64 a0_2, .int .i64 a0_3] 56 (0, 0)) (bk_ BK270.out) hb); replace HB := AM (below_step bel_ hb); (try clear hb); (try clear hb2); (try clear hk); (try clear hi); have hcz16_0 : w15.cell? ⟨gb270, 0, none⟩ = some (.int .i64 a0_0) := (blk_cell BK270.out 0).trans rfl; have hcz16_1 : w15.cell? ⟨gb270, 1, none⟩ = some (.int .i64 a0_1) := (blk_cell BK270.out 1).trans rfl; have hcz16_2 : w15.cell? ⟨gb270, 2, none⟩ = some (.int .i64 a0_2) := (blk_cell BK270.out 2).trans rfl; have hcz16_3 : w15.cell? ⟨gb270, 3, none⟩ = some (.int .i64 a0_3) := (blk_cell BK270.out 3).trans rfl; have hfz16_0 := blk_frozen BK270.out 0; have hfz16_1 := blk_frozen BK270.out 1; have hfz16_2 := blk_frozen BK270.out 2; have hfz16_3 := blk_frozen BK270.out 3) | ((with_reducible refine gate_callee (f := 99) rfl ?_); refine gl_ (some 21) Try.func99 #[.agg #[.int .i64 a0_0, .int .i64 a0_1, .int .i64 a0_2, .int .i64 a0_3], .slice A1 l1.length c1] ?_; (with_reducible refine (spec_l13Keep.calls k a0_0 a0_1 a0_2 a0_3 _ _ l1 t276 _ ?side1 ?side2 A11.out).mono ?_); (case side1 => repeat (first | exact (Kd.C_below HR1.out HB.out) | (with_reducible refine Kd.C_alloc ?_ _) | (with_reducible refine Kd.C_drewN ?_ _) | (with_reducible refine Kd.C_drew ?_))); (case side2 => exact HC1.out); rintro e w17 ⟨v277, rfl, ho0, hb⟩; refine ⟨_, rfl, ?_⟩; have HO278 := AM (Kd.R_lower ho0 (below_size bel_)); replace BK270 := AM (blk_below (g := gb270) (o := .cells #[.int .i64 a0_0, .int .i64 a0_1, .int .i64 a0_2, .int .i64 a0_3] 56 (0, 0)) (bk_ BK270.out) hb); replace HB := AM (below_step bel_ hb); (try clear hb); (try clear hb2); (try clear hk); (try clear hi); (try clear ho0)))
        go_ret
        exact ⟨_, ri_, ro_ HO278.out, bel_⟩
      · replace c10 := Bool.eq_false_iff.mpr c10
        subst c10
        rw [if_neg (show ¬ (false = true) by decide)] at H
        obtain ⟨y279, hy279⟩ : ∃ y_ : List ByteArray, y_ = (([] : List ByteArray)) := ⟨_, rfl⟩
        replace H : (some y279) = some r := by first | (rw [hy279]; with_reducible exact H) | (have H2_ := (Option.bind_some _ _).symm.trans H; rw [hy279]; with_reducible exact H2_) | (have H2_ := (Option.bind_some _ _).symm.trans H; with_reducible exact H2_) | with_reducible exact H | (rw [hy279]; exact H) | exact H
        have Ny279 := AM hy279
        clear hy279
        obtain rfl := Option.some.inj H
        go_enter Try.func29, Try.ntmps29
        go_wp2_with (first | ((with_reducible refine gate_dst (N := 2) rfl ?_); refine be_ 2 #[.int .i64 a0_0, .int .i64 a0_1, .int .i64 a0_2, .int .i64 a0_3] 56 ?_; intro gb270 hg w18 hbox hb; have BK270 := AM hbox; have GW270 := AM ((by rw [hg]; exact (below_size bel_) : w.heap.size ≤ gb270)); have GE270 := AM ((by rw [hg]; exact (below_size bel_) : w.heap.size ≤ gb270)); replace HB := AM (below_step bel_ hb); clear hb hbox hg; have hcz19_0 : w18.cell? ⟨gb270, 0, none⟩ = some (.int .i64 a0_0) := (blk_cell BK270.out 0).trans rfl; have hcz19_1 : w18.cell? ⟨gb270, 1, none⟩ = some (.int .i64 a0_1) := (blk_cell BK270.out 1).trans rfl; have hcz19_2 : w18.cell? ⟨gb270, 2, none⟩ = some (.int .i64 a0_2) := (blk_cell BK270.out 2).trans rfl; have hcz19_3 : w18.cell? ⟨gb270, 3, none⟩ = some (.int .i64 a0_3) := (blk_cell BK270.out 3).trans rfl; have hfz19_0 := blk_frozen BK270.out 0; have hfz19_1 := blk_frozen BK270.out 1; have hfz19_2 := blk_frozen BK270.out 2; have hfz19_3 := blk_frozen BK270.out 3) | (go_at_call 97; (with_reducible refine (spec_PolicyRight.calls a0_0 a0_1 a0_2 a0_3 true _ A7.out).mono ?_); rintro e w20 ⟨rfl, hb⟩; replace BK270 := AM (blk_below (g := gb270) (o := .cells #[.int .i64 a0_0, .int .i64 a0_1, .int .i64 a0_2, .int .i64 a0_3] 56 (0, 0)) (bk_ BK270.out) hb); replace HB := AM (below_step bel_ hb); (try clear hb); (try clear hb2); (try clear hk); (try clear hi)) | (go_at_call 98; (with_reducible refine (spec_SnapsRight.calls k _ _ l1 false _ ?side1 ?side2 A9.out).mono ?_); (case side1 => repeat (first | exact (Kd.C_below HR1.out HB.out) | (with_reducible refine Kd.C_alloc ?_ _) | (with_reducible refine Kd.C_drewN ?_ _) | (with_reducible refine Kd.C_drew ?_))); (case side2 => exact HC1.out); rintro e w21 ⟨rfl, hb⟩; replace BK270 := AM (blk_below (g := gb270) (o := .cells #[.int .i64 a0_0, .int .i64 a0_1, .int .i64 a0_2, .int .i64 a0_3] 56 (0, 0)) (bk_ BK270.out) hb); replace HB := AM (below_step bel_ hb); (try clear hb); (try clear hb2); (try clear hk); (try clear hi)) | ((with_reducible refine gate_dst (N := 18) rfl ?_); refine Kd.R_lit Kd.string _ 9 ?hgL3 (N := 18) ?hdL3 (xs := ([] : List ByteArray)) (inner := []) (ok := fun _ => True) (okp := fun _ => True) ?hrL3 ?hpL3 (fun _ hk => hk) trivial (Below.refl _ _) (Nat.le_refl _) (by simp) ?_; (case hdL3 => rfl); (case hgL3 => rfl); (case hrL3 => first | (go_simp; done) | (go_simp; rfl)); (case hpL3 => exact (Reps.none _ _)); intro v280 w22 ho23 hb hg_ hnew_; clear hg_ hnew_; (first | rw [← Ny279.out] at ho23 | (simp only [Int.reduceToNat] at ho23; rw [← Ny279.out] at ho23)); have HO281 := AM (Kd.R_lower ho23 (below_size bel_)); replace BK270 := AM (blk_below (g := gb270) (o := .cells #[.int .i64 a0_0, .int .i64 a0_1, .int .i64 a0_2, .int .i64 a0_3] 56 (0, 0)) (bk_ BK270.out) hb); replace HB := AM (below_step bel_ hb); clear hb ho23))
        go_ret
        exact ⟨_, ri_, ro_ HO281.out, bel_⟩
    · replace c8 := Bool.eq_false_iff.mpr c8
      subst c8
      rw [if_neg (show ¬ (false = true) by decide)] at H
      obtain ⟨y282, hy282⟩ : ∃ y_ : List ByteArray, y_ = (([] : List ByteArray)) := ⟨_, rfl⟩
      replace H : (some y282) = some r := by first | (rw [hy282]; with_reducible exact H) | (have H2_ := (Option.bind_some _ _).symm.trans H; rw [hy282]; with_reducible exact H2_) | (have H2_ := (Option.bind_some _ _).symm.trans H; with_reducible exact H2_) | with_reducible exact H | (rw [hy282]; exact H) | exact H
      have Ny282 := AM hy282
      clear hy282
      obtain rfl := Option.some.inj H
      go_enter Try.func29, Try.ntmps29
      go_wp2_with (first | ((with_reducible refine gate_dst (N := 2) rfl ?_); refine be_ 2 #[.int .i64 a0_0, .int .i64 a0_1, .int .i64 a0_2, .int .i64 a0_3] 56 ?_; intro gb270 hg w24 hbox hb; have BK270 := AM hbox; have GW270 := AM ((by rw [hg]; exact (below_size bel_) : w.heap.size ≤ gb270)); have GE270 := AM ((by rw [hg]; exact (below_size bel_) : w.heap.size ≤ gb270)); replace HB := AM (below_step bel_ hb); clear hb hbox hg; have hcz25_0 : w24.cell? ⟨gb270, 0, none⟩ = some (.int .i64 a0_0) := (blk_cell BK270.out 0).trans rfl; have hcz25_1 : w24.cell? ⟨gb270, 1, none⟩ = some (.int .i64 a0_1) := (blk_cell BK270.out 1).trans rfl; have hcz25_2 : w24.cell? ⟨gb270, 2, none⟩ = some (.int .i64 a0_2) := (blk_cell BK270.out 2).trans rfl; have hcz25_3 : w24.cell? ⟨gb270, 3, none⟩ = some (.int .i64 a0_3) := (blk_cell BK270.out 3).trans rfl; have hfz25_0 := blk_frozen BK270.out 0; have hfz25_1 := blk_frozen BK270.out 1; have hfz25_2 := blk_frozen BK270.out 2; have hfz25_3 := blk_frozen BK270.out 3) | (go_at_call 97; (with_reducible refine (spec_PolicyRight.calls a0_0 a0_1 a0_2 a0_3 false _ A7.out).mono ?_); rintro e w26 ⟨rfl, hb⟩; replace BK270 := AM (blk_below (g := gb270) (o := .cells #[.int .i64 a0_0, .int .i64 a0_1, .int .i64 a0_2, .int .i64 a0_3] 56 (0, 0)) (bk_ BK270.out) hb); replace HB := AM (below_step bel_ hb); (try clear hb); (try clear hb2); (try clear hk); (try clear hi)) | ((with_reducible refine gate_dst (N := 18) rfl ?_); refine Kd.R_lit Kd.string _ 9 ?hgL4 (N := 18) ?hdL4 (xs := ([] : List ByteArray)) (inner := []) (ok := fun _ => True) (okp := fun _ => True) ?hrL4 ?hpL4 (fun _ hk => hk) trivial (Below.refl _ _) (Nat.le_refl _) (by simp) ?_; (case hdL4 => rfl); (case hgL4 => rfl); (case hrL4 => first | (go_simp; done) | (go_simp; rfl)); (case hpL4 => exact (Reps.none _ _)); intro v283 w27 ho28 hb hg_ hnew_; clear hg_ hnew_; (first | rw [← Ny282.out] at ho28 | (simp only [Int.reduceToNat] at ho28; rw [← Ny282.out] at ho28)); have HO284 := AM (Kd.R_lower ho28 (below_size bel_)); replace BK270 := AM (blk_below (g := gb270) (o := .cells #[.int .i64 a0_0, .int .i64 a0_1, .int .i64 a0_2, .int .i64 a0_3] 56 (0, 0)) (bk_ BK270.out) hb); replace HB := AM (below_step bel_ hb); clear hb ho28))
      go_ret
      exact ⟨_, ri_, ro_ HO284.out, bel_⟩

/-! ### laws_toPolicy: function 30 -/
def laws_toPolicy.f (a0_0 : Int) (a0_1 : Int) (a0_2 : Int) (a0_3 : Int) : Option (Int × Int × Int × Int) := some (a0_0, a0_1, a0_2, a0_3)
set_option maxHeartbeats 8000000 in
set_option maxRecDepth 100000 in
theorem laws_toPolicy.calls (a0_0 : Int) (a0_1 : Int) (a0_2 : Int) (a0_3 : Int) (r1 : Int) (r2 : Int) (r3 : Int) (r4 : Int) (w : World) (h : laws_toPolicy.f a0_0 a0_1 a0_2 a0_3 = some (r1, r2, r3, r4)) :
    Calls Try.prog 30 #[.agg #[.int .i64 a0_0, .int .i64 a0_1, .int .i64 a0_2, .int .i64 a0_3]] w fun e w' => e = .returned (.agg #[.int .i64 r1, .int .i64 r2, .int .i64 r3, .int .i64 r4]) ∧ Below w.heap.size w w' := by
  have hu51 := Try.underlying51
  have hu56 := Try.underlying56
  have HB := AM (Below.refl w.heap.size w)
  have H : (some (a0_0, a0_1, a0_2, a0_3)) = some (r1, r2, r3, r4) := h
  clear h
  simp only [Option.some.injEq, Prod.mk.injEq] at H
  obtain ⟨rfl, rfl, rfl, rfl⟩ := H
  go_enter Try.func30, Try.ntmps30
  go_wp2_with (first | ((with_reducible refine gate_dst (N := 1) rfl ?_); refine be_ 1 #[.int .i64 a0_0, .int .i64 a0_1, .int .i64 a0_2, .int .i64 a0_3] 51 ?_; intro gb285 hg w2 hbox hb; have BK285 := AM hbox; have GW285 := AM ((by rw [hg]; exact (below_size bel_) : w.heap.size ≤ gb285)); have GE285 := AM ((by rw [hg]; exact (below_size bel_) : w.heap.size ≤ gb285)); replace HB := AM (below_step bel_ hb); clear hb hbox hg) | ((with_reducible refine gate_dst (N := 2) rfl ?_); refine be_ 2 #[.int .i64 0, .int .i64 0, .int .i64 0, .int .i64 0] 56 ?_; intro gb286 hg w3 hbox hb; have BK286 := AM hbox; have GW286 := AM ((by rw [hg]; exact (below_size bel_) : w.heap.size ≤ gb286)); have GE286 := AM ((by rw [hg]; exact (below_size bel_) : w.heap.size ≤ gb286)); replace HB := AM (below_step bel_ hb); have NB285_286 := AM ((by rw [hg]; exact Nat.ne_of_lt (blk_lt (g := gb285) (o := .cells #[.int .i64 a0_0, .int .i64 a0_1, .int .i64 a0_2, .int .i64 a0_3] 51 (0, 0)) (bk_ BK285.out)) : gb285 ≠ gb286)); have NB286_285 := AM ((by rw [hg]; exact Nat.ne_of_gt (blk_lt (g := gb285) (o := .cells #[.int .i64 a0_0, .int .i64 a0_1, .int .i64 a0_2, .int .i64 a0_3] 51 (0, 0)) (bk_ BK285.out)) : gb286 ≠ gb285)); replace BK285 := AM (blk_below (g := gb285) (o := .cells #[.int .i64 a0_0, .int .i64 a0_1, .int .i64 a0_2, .int .i64 a0_3] 51 (0, 0)) (bk_ BK285.out) hb); clear hb hbox hg) | ((with_reducible refine gate_dst (N := 3) rfl ?_); refine be_ 3 #[.int .i64 0, .int .i64 0, .int .i64 0, .int .i64 0] 56 ?_; intro gb287 hg w4 hbox hb; have BK287 := AM hbox; have GW287 := AM ((by rw [hg]; exact (below_size bel_) : w.heap.size ≤ gb287)); have GE287 := AM ((by rw [hg]; exact (below_size bel_) : w.heap.size ≤ gb287)); replace HB := AM (below_step bel_ hb); have NB285_287 := AM ((by rw [hg]; exact Nat.ne_of_lt (blk_lt (g := gb285) (o := .cells #[.int .i64 a0_0, .int .i64 a0_1, .int .i64 a0_2, .int .i64 a0_3] 51 (0, 0)) (bk_ BK285.out)) : gb285 ≠ gb287)); have NB287_285 := AM ((by rw [hg]; exact Nat.ne_of_gt (blk_lt (g := gb285) (o := .cells #[.int .i64 a0_0, .int .i64 a0_1, .int .i64 a0_2, .int .i64 a0_3] 51 (0, 0)) (bk_ BK285.out)) : gb287 ≠ gb285)); replace BK285 := AM (blk_below (g := gb285) (o := .cells #[.int .i64 a0_0, .int .i64 a0_1, .int .i64 a0_2, .int .i64 a0_3] 51 (0, 0)) (bk_ BK285.out) hb); have NB286_287 := AM ((by rw [hg]; exact Nat.ne_of_lt (blk_lt (g := gb286) (o := .cells #[.int .i64 0, .int .i64 0, .int .i64 0, .int .i64 0] 56 (0, 0)) (bk_ BK286.out)) : gb286 ≠ gb287)); have NB287_286 := AM ((by rw [hg]; exact Nat.ne_of_gt (blk_lt (g := gb286) (o := .cells #[.int .i64 0, .int .i64 0, .int .i64 0, .int .i64 0] 56 (0, 0)) (bk_ BK286.out)) : gb287 ≠ gb286)); replace BK286 := AM (blk_below (g := gb286) (o := .cells #[.int .i64 0, .int .i64 0, .int .i64 0, .int .i64 0] 56 (0, 0)) (bk_ BK286.out) hb); clear hb hbox hg; have hnb5 := NB285_286.out; have hnc5 := NB286_285.out; have hnb6 := NB285_287.out; have hnc6 := NB287_285.out; have hcz7_0 : w4.cell? ⟨gb285, 0, none⟩ = some (.int .i64 a0_0) := (blk_cell BK285.out 0).trans rfl; have hcz7_1 : w4.cell? ⟨gb285, 1, none⟩ = some (.int .i64 a0_1) := (blk_cell BK285.out 1).trans rfl; have hcz7_2 : w4.cell? ⟨gb285, 2, none⟩ = some (.int .i64 a0_2) := (blk_cell BK285.out 2).trans rfl; have hcz7_3 : w4.cell? ⟨gb285, 3, none⟩ = some (.int .i64 a0_3) := (blk_cell BK285.out 3).trans rfl; have hfz7_0 := blk_frozen BK285.out 0; have hfz7_1 := blk_frozen BK285.out 1; have hfz7_2 := blk_frozen BK285.out 2; have hfz7_3 := blk_frozen BK285.out 3; have hnb8 := NB287_286.out; have hnc8 := NB286_287.out; have hcz9_0 : w4.cell? ⟨gb287, 0, none⟩ = some (.int .i64 0) := (blk_cell BK287.out 0).trans rfl; have hcz9_1 : w4.cell? ⟨gb287, 1, none⟩ = some (.int .i64 0) := (blk_cell BK287.out 1).trans rfl; have hcz9_2 : w4.cell? ⟨gb287, 2, none⟩ = some (.int .i64 0) := (blk_cell BK287.out 2).trans rfl; have hcz9_3 : w4.cell? ⟨gb287, 3, none⟩ = some (.int .i64 0) := (blk_cell BK287.out 3).trans rfl; have hfz9_0 := blk_frozen BK287.out 0; have hfz9_1 := blk_frozen BK287.out 1; have hfz9_2 := blk_frozen BK287.out 2; have hfz9_3 := blk_frozen BK287.out 3; have hcz10_0 : w4.cell? ⟨gb286, 0, none⟩ = some (.int .i64 0) := (blk_cell BK286.out 0).trans rfl; have hcz10_1 : w4.cell? ⟨gb286, 1, none⟩ = some (.int .i64 0) := (blk_cell BK286.out 1).trans rfl; have hcz10_2 : w4.cell? ⟨gb286, 2, none⟩ = some (.int .i64 0) := (blk_cell BK286.out 2).trans rfl; have hcz10_3 : w4.cell? ⟨gb286, 3, none⟩ = some (.int .i64 0) := (blk_cell BK286.out 3).trans rfl; have hfz10_0 := blk_frozen BK286.out 0; have hfz10_1 := blk_frozen BK286.out 1; have hfz10_2 := blk_frozen BK286.out 2; have hfz10_3 := blk_frozen BK286.out 3))
  refine bodyPost_ret (results_cell_row rfl _ _ gb286 56 #[.int .i64 a0_0, .int .i64 a0_1, .int .i64 a0_2, .int .i64 a0_3] (0, 0) _ rfl bka_ Try.underlying56 rfl (by kernel_rfl)) rfl ?_
  exact ⟨ri_, bel_⟩

/-! ### laws_toSnap: function 100 -/
def laws_toSnap.f (a0_0 : ByteArray) (a0_1 : Int) (a0_2 : ByteArray) : Option (ByteArray × Int × ByteArray) := some (a0_0, a0_1, a0_2)
set_option maxHeartbeats 8000000 in
set_option maxRecDepth 100000 in
theorem laws_toSnap.calls (a0_0 : ByteArray) (a0_1 : Int) (a0_2 : ByteArray) (r1 : ByteArray) (r2 : Int) (r3 : ByteArray) (w : World) (h : laws_toSnap.f a0_0 a0_1 a0_2 = some (r1, r2, r3)) :
    Calls Try.prog 100 #[.agg #[.string a0_0, .int .i64 a0_1, .string a0_2]] w fun e w' => e = .returned (.agg #[.string r1, .int .i64 r2, .string r3]) ∧ Below w.heap.size w w' := by
  have hu129 := Try.underlying129
  have hu132 := Try.underlying132
  have HB := AM (Below.refl w.heap.size w)
  have H : (some (a0_0, a0_1, a0_2)) = some (r1, r2, r3) := h
  clear h
  simp only [Option.some.injEq, Prod.mk.injEq] at H
  obtain ⟨rfl, rfl, rfl⟩ := H
  go_enter Try.func100, Try.ntmps100
  go_wp2_with (first | ((with_reducible refine gate_dst (N := 1) rfl ?_); refine be_ 1 #[.string a0_0, .int .i64 a0_1, .string a0_2] 129 ?_; intro gb288 hg w2 hbox hb; have BK288 := AM hbox; have GW288 := AM ((by rw [hg]; exact (below_size bel_) : w.heap.size ≤ gb288)); have GE288 := AM ((by rw [hg]; exact (below_size bel_) : w.heap.size ≤ gb288)); replace HB := AM (below_step bel_ hb); clear hb hbox hg) | ((with_reducible refine gate_dst (N := 2) rfl ?_); refine be_ 2 #[.string (⟨#[]⟩ : ByteArray), .int .i64 0, .string (⟨#[]⟩ : ByteArray)] 132 ?_; intro gb289 hg w3 hbox hb; have BK289 := AM hbox; have GW289 := AM ((by rw [hg]; exact (below_size bel_) : w.heap.size ≤ gb289)); have GE289 := AM ((by rw [hg]; exact (below_size bel_) : w.heap.size ≤ gb289)); replace HB := AM (below_step bel_ hb); have NB288_289 := AM ((by rw [hg]; exact Nat.ne_of_lt (blk_lt (g := gb288) (o := .cells #[.string a0_0, .int .i64 a0_1, .string a0_2] 129 (0, 0)) (bk_ BK288.out)) : gb288 ≠ gb289)); have NB289_288 := AM ((by rw [hg]; exact Nat.ne_of_gt (blk_lt (g := gb288) (o := .cells #[.string a0_0, .int .i64 a0_1, .string a0_2] 129 (0, 0)) (bk_ BK288.out)) : gb289 ≠ gb288)); replace BK288 := AM (blk_below (g := gb288) (o := .cells #[.string a0_0, .int .i64 a0_1, .string a0_2] 129 (0, 0)) (bk_ BK288.out) hb); clear hb hbox hg) | ((with_reducible refine gate_dst (N := 3) rfl ?_); refine be_ 3 #[.string (⟨#[]⟩ : ByteArray), .int .i64 0, .string (⟨#[]⟩ : ByteArray)] 132 ?_; intro gb290 hg w4 hbox hb; have BK290 := AM hbox; have GW290 := AM ((by rw [hg]; exact (below_size bel_) : w.heap.size ≤ gb290)); have GE290 := AM ((by rw [hg]; exact (below_size bel_) : w.heap.size ≤ gb290)); replace HB := AM (below_step bel_ hb); have NB288_290 := AM ((by rw [hg]; exact Nat.ne_of_lt (blk_lt (g := gb288) (o := .cells #[.string a0_0, .int .i64 a0_1, .string a0_2] 129 (0, 0)) (bk_ BK288.out)) : gb288 ≠ gb290)); have NB290_288 := AM ((by rw [hg]; exact Nat.ne_of_gt (blk_lt (g := gb288) (o := .cells #[.string a0_0, .int .i64 a0_1, .string a0_2] 129 (0, 0)) (bk_ BK288.out)) : gb290 ≠ gb288)); replace BK288 := AM (blk_below (g := gb288) (o := .cells #[.string a0_0, .int .i64 a0_1, .string a0_2] 129 (0, 0)) (bk_ BK288.out) hb); have NB289_290 := AM ((by rw [hg]; exact Nat.ne_of_lt (blk_lt (g := gb289) (o := .cells #[.string (⟨#[]⟩ : ByteArray), .int .i64 0, .string (⟨#[]⟩ : ByteArray)] 132 (0, 0)) (bk_ BK289.out)) : gb289 ≠ gb290)); have NB290_289 := AM ((by rw [hg]; exact Nat.ne_of_gt (blk_lt (g := gb289) (o := .cells #[.string (⟨#[]⟩ : ByteArray), .int .i64 0, .string (⟨#[]⟩ : ByteArray)] 132 (0, 0)) (bk_ BK289.out)) : gb290 ≠ gb289)); replace BK289 := AM (blk_below (g := gb289) (o := .cells #[.string (⟨#[]⟩ : ByteArray), .int .i64 0, .string (⟨#[]⟩ : ByteArray)] 132 (0, 0)) (bk_ BK289.out) hb); clear hb hbox hg; have hnb5 := NB288_289.out; have hnc5 := NB289_288.out; have hnb6 := NB288_290.out; have hnc6 := NB290_288.out; have hcz7_0 : w4.cell? ⟨gb288, 0, none⟩ = some (.string a0_0) := (blk_cell BK288.out 0).trans rfl; have hcz7_1 : w4.cell? ⟨gb288, 1, none⟩ = some (.int .i64 a0_1) := (blk_cell BK288.out 1).trans rfl; have hcz7_2 : w4.cell? ⟨gb288, 2, none⟩ = some (.string a0_2) := (blk_cell BK288.out 2).trans rfl; have hfz7_0 := blk_frozen BK288.out 0; have hfz7_1 := blk_frozen BK288.out 1; have hfz7_2 := blk_frozen BK288.out 2; have hnb8 := NB290_289.out; have hnc8 := NB289_290.out; have hcz9_0 : w4.cell? ⟨gb290, 0, none⟩ = some (.string (⟨#[]⟩ : ByteArray)) := (blk_cell BK290.out 0).trans rfl; have hcz9_1 : w4.cell? ⟨gb290, 1, none⟩ = some (.int .i64 0) := (blk_cell BK290.out 1).trans rfl; have hcz9_2 : w4.cell? ⟨gb290, 2, none⟩ = some (.string (⟨#[]⟩ : ByteArray)) := (blk_cell BK290.out 2).trans rfl; have hfz9_0 := blk_frozen BK290.out 0; have hfz9_1 := blk_frozen BK290.out 1; have hfz9_2 := blk_frozen BK290.out 2; have hcz10_0 : w4.cell? ⟨gb289, 0, none⟩ = some (.string (⟨#[]⟩ : ByteArray)) := (blk_cell BK289.out 0).trans rfl; have hcz10_1 : w4.cell? ⟨gb289, 1, none⟩ = some (.int .i64 0) := (blk_cell BK289.out 1).trans rfl; have hcz10_2 : w4.cell? ⟨gb289, 2, none⟩ = some (.string (⟨#[]⟩ : ByteArray)) := (blk_cell BK289.out 2).trans rfl; have hfz10_0 := blk_frozen BK289.out 0; have hfz10_1 := blk_frozen BK289.out 1; have hfz10_2 := blk_frozen BK289.out 2))
  refine bodyPost_ret (results_cell_row rfl _ _ gb289 132 #[.string a0_0, .int .i64 a0_1, .string a0_2] (0, 0) _ rfl bka_ Try.underlying132 rfl (by kernel_rfl)) rfl ?_
  exact ⟨ri_, bel_⟩

end Go.Proofs.Ytfffdndeccipnaa.PFnExactKeep
