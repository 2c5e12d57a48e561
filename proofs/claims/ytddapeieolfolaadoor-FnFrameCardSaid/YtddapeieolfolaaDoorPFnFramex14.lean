/- Functions of the law FnFrame: the print's, with walks of this session's own. No statement is proved here. -/
import Derived.BigRegion
import Derived.ChangeAlike
import Derived.RegionTactic
import Derived.WalkLawsBesides
import Derived.Test.YtddapeieolfolaaDoorVRegFnFrame
-- A program of this session wrote this text: a changed copy of the kit print, with given functions.
import Derived.Test.YtddapeieolfolaaDoorPFnFramex0
import Derived.Test.YtddapeieolfolaaDoorPFnFramex5
import Derived.Test.YtddapeieolfolaaDoorPFnFramex6
import Derived.Test.YtddapeieolfolaaDoorPFnFramex11
import Derived.Test.YtddapeieolfolaaDoorPFnFramex13
namespace Go.Proofs.YtddapeieolfolaaDoor.PFnFrame
open Go.RowKit Go.Proofs.YtddapeieolfolaaDoorW.PrintWords Go.Proofs.YtddapeieolfolaaDoorW.PrintLast Go.Proofs.YtddapeieolfolaaDoorW.PrintMore Go.Proofs.YtddapeieolfolaaDoor.Reg Go.Proofs.YtddapeieolfolaaDoor.Aut
attribute [local go_sem] max2_int min2_int max_two min_two max_three min_three max_four min_four   -- for this text's walks alone
set_option linter.unusedVariables false
set_option linter.unusedSimpArgs false

/-! ### impl_FrameRead: function 33 -/
def impl_FrameRead.f (k : Nat) (a0 : ByteArray) : Option (Int × Int × Int × Int × ByteArray × ByteArray × Int) := (impl_isLong.f a0).bind fun t295 => (if t295 = true then (some (0, 0, 0, 0, (⟨#[]⟩ : ByteArray), (⟨#[]⟩ : ByteArray), 2)) else ((impl_readFrame.f k a0).bind fun bt296 => (if bt296.2.2.2.2.2.2 = true then (some (bt296.1, bt296.2.1, bt296.2.2.1, bt296.2.2.2.1, bt296.2.2.2.2.1, bt296.2.2.2.2.2.1, 0)) else (some (0, 0, 0, 0, (⟨#[]⟩ : ByteArray), (⟨#[]⟩ : ByteArray), 3)))))
theorem impl_FrameRead.mono : ∀ a0 k, LeO (impl_FrameRead.f k a0) (impl_FrameRead.f (k + 1) a0) := by
  intro a0 k
  unfold impl_FrameRead.f
  repeat' first
      | (with_reducible exact impl_readFrame.mono _ _)
      | (with_reducible exact LeO.refl _)
      | (with_reducible exact LeO.none _)
      | (with_reducible refine LeO.ite ?_ ?_)
      | (with_reducible refine LeO.bind ?_ (fun _ => ?_))
      | exact impl_readFrame.mono _ _
      | exact LeO.none _
      | refine LeO.ite ?_ ?_
      | refine LeO.bind ?_ (fun _ => ?_)
set_option maxHeartbeats 8000000 in
set_option maxRecDepth 100000 in
theorem impl_FrameRead.calls (k : Nat) (a0 : ByteArray) (r1 : Int) (r2 : Int) (r3 : Int) (r4 : Int) (r5 : ByteArray) (r6 : ByteArray) (r7 : Int) (w : World) (h : impl_FrameRead.f k a0 = some (r1, r2, r3, r4, r5, r6, r7)) (hL : Hand.LaidG w := by first | exact hL | exact Hand.LaidG.below hL bel_) :
    Calls Tryd.prog 33 #[.string a0] w fun e w' => e = .returned (.agg #[.int .i64 r1, .int .i64 r2, .int .i64 r3, .int .i64 r4, .string r5, .string r6, .int .i64 r7]) ∧ Below w.heap.size w w' := by
  have hu50 := Tryd.underlying50
  have hu28 := Tryd.underlying28
  have HB := AM (Below.refl w.heap.size w)
  have H : ((impl_isLong.f a0).bind fun t295 => (if t295 = true then (some (0, 0, 0, 0, (⟨#[]⟩ : ByteArray), (⟨#[]⟩ : ByteArray), 2)) else ((impl_readFrame.f k a0).bind fun bt296 => (if bt296.2.2.2.2.2.2 = true then (some (bt296.1, bt296.2.1, bt296.2.2.1, bt296.2.2.2.1, bt296.2.2.2.2.1, bt296.2.2.2.2.2.1, 0)) else (some (0, 0, 0, 0, (⟨#[]⟩ : ByteArray), (⟨#[]⟩ : ByteArray), 3)))))) = some (r1, r2, r3, r4, r5, r6, r7) := h
  clear h
  obtain ⟨t295, A2, H⟩ := OB H
  try dsimp only at H
  replace A2 := AM A2
  by_cases c3 : t295 = true
  · subst c3
    rw [if_pos rfl] at H
    simp only [Option.some.injEq, Prod.mk.injEq] at H
    obtain ⟨rfl, rfl, rfl, rfl, rfl, rfl, rfl⟩ := H
    go_enter Tryd.func33, Tryd.ntmps33
    go_wp2_with (first | ((with_reducible refine gate_dst (N := 2) rfl ?_); refine be_ 2 #[.int .i64 0, .int .i64 0, .int .i64 0, .int .i64 0, .string (⟨#[]⟩ : ByteArray), .string (⟨#[]⟩ : ByteArray), .int .i64 0] 50 ?_; intro gb294 hg w4 hbox hb; have BK294 := AM hbox; have GW294 := AM ((by rw [hg]; exact (below_size bel_) : w.heap.size ≤ gb294)); have GE294 := AM ((by rw [hg]; exact (below_size bel_) : w.heap.size ≤ gb294)); replace HB := AM (below_step bel_ hb); clear hb hbox hg) | ((with_reducible refine gate_callee (f := 48) rfl ?_); refine gl_ (some 6) Tryd.func48 #[.string a0] ?_; (with_reducible refine (impl_isLong.calls a0 true _ A2.out).mono ?_); rintro e w' ⟨rfl, ⟨nd, rfl⟩⟩; refine ⟨_, rfl, ?_⟩; (try (rw [drewN_self w4]; generalize hq_ : World.drewN w4 _ = w4; replace BK294 : Aside0 (w4.heap[gb294]? = some (.cells #[.int .i64 0, .int .i64 0, .int .i64 0, .int .i64 0, .string (⟨#[]⟩ : ByteArray), .string (⟨#[]⟩ : ByteArray), .int .i64 0] 50 (0, 0))) := ⟨by rw [← hq_]; exact (bk_ BK294.out)⟩; replace HB : Aside0 (Below w.heap.size w w4) := ⟨by rw [← hq_]; exact bel_⟩; clear hq_)); have hcz5_0 : w4.cell? ⟨gb294, 0, none⟩ = some (.int .i64 0) := (blk_cell BK294.out 0).trans rfl; have hcz5_1 : w4.cell? ⟨gb294, 1, none⟩ = some (.int .i64 0) := (blk_cell BK294.out 1).trans rfl; have hcz5_2 : w4.cell? ⟨gb294, 2, none⟩ = some (.int .i64 0) := (blk_cell BK294.out 2).trans rfl; have hcz5_3 : w4.cell? ⟨gb294, 3, none⟩ = some (.int .i64 0) := (blk_cell BK294.out 3).trans rfl; have hcz5_4 : w4.cell? ⟨gb294, 4, none⟩ = some (.string (⟨#[]⟩ : ByteArray)) := (blk_cell BK294.out 4).trans rfl; have hcz5_5 : w4.cell? ⟨gb294, 5, none⟩ = some (.string (⟨#[]⟩ : ByteArray)) := (blk_cell BK294.out 5).trans rfl; have hcz5_6 : w4.cell? ⟨gb294, 6, none⟩ = some (.int .i64 0) := (blk_cell BK294.out 6).trans rfl; have hfz5_0 := blk_frozen BK294.out 0; have hfz5_1 := blk_frozen BK294.out 1; have hfz5_2 := blk_frozen BK294.out 2; have hfz5_3 := blk_frozen BK294.out 3; have hfz5_4 := blk_frozen BK294.out 4; have hfz5_5 := blk_frozen BK294.out 5; have hfz5_6 := blk_frozen BK294.out 6))
    refine bodyPost_ret (results_cell_row rfl _ _ gb294 50 #[.int .i64 0, .int .i64 0, .int .i64 0, .int .i64 0, .string (⟨#[]⟩ : ByteArray), .string (⟨#[]⟩ : ByteArray), .int .i64 2] (0, 0) _ rfl bka_ Tryd.underlying50 rfl (by kernel_rfl)) rfl ?_
    exact ⟨ri_, bel_⟩
  · replace c3 := Bool.eq_false_iff.mpr c3
    subst c3
    rw [if_neg (show ¬ (false = true) by decide)] at H
    obtain ⟨⟨t296, t297, t298, t299, t300, t301, t302⟩, A6, H⟩ := OB H
    try dsimp only at H
    replace A6 := AM A6
    by_cases c7 : t302 = true
    · subst c7
      rw [if_pos rfl] at H
      simp only [Option.some.injEq, Prod.mk.injEq] at H
      obtain ⟨rfl, rfl, rfl, rfl, rfl, rfl, rfl⟩ := H
      go_enter Tryd.func33, Tryd.ntmps33
      go_wp2_with (first | ((with_reducible refine gate_dst (N := 2) rfl ?_); refine be_ 2 #[.int .i64 0, .int .i64 0, .int .i64 0, .int .i64 0, .string (⟨#[]⟩ : ByteArray), .string (⟨#[]⟩ : ByteArray), .int .i64 0] 50 ?_; intro gb294 hg w8 hbox hb; have BK294 := AM hbox; have GW294 := AM ((by rw [hg]; exact (below_size bel_) : w.heap.size ≤ gb294)); have GE294 := AM ((by rw [hg]; exact (below_size bel_) : w.heap.size ≤ gb294)); replace HB := AM (below_step bel_ hb); clear hb hbox hg) | ((with_reducible refine gate_callee (f := 48) rfl ?_); refine gl_ (some 6) Tryd.func48 #[.string a0] ?_; (with_reducible refine (impl_isLong.calls a0 false _ A2.out).mono ?_); rintro e w' ⟨rfl, ⟨nd, rfl⟩⟩; refine ⟨_, rfl, ?_⟩; (try (rw [drewN_self w8]; generalize hq_ : World.drewN w8 _ = w8; replace BK294 : Aside0 (w8.heap[gb294]? = some (.cells #[.int .i64 0, .int .i64 0, .int .i64 0, .int .i64 0, .string (⟨#[]⟩ : ByteArray), .string (⟨#[]⟩ : ByteArray), .int .i64 0] 50 (0, 0))) := ⟨by rw [← hq_]; exact (bk_ BK294.out)⟩; replace HB : Aside0 (Below w.heap.size w w8) := ⟨by rw [← hq_]; exact bel_⟩; clear hq_))) | ((with_reducible refine gate_callee (f := 81) rfl ?_); refine gl_ (some 10) Tryd.func81 #[.string a0] ?_; (with_reducible refine (impl_readFrame.calls k a0 t296 t297 t298 t299 t300 t301 true _ A6.out).mono ?_); rintro e w9 ⟨rfl, hb⟩; refine ⟨_, rfl, ?_⟩; replace BK294 := AM (blk_below (g := gb294) (o := .cells #[.int .i64 0, .int .i64 0, .int .i64 0, .int .i64 0, .string (⟨#[]⟩ : ByteArray), .string (⟨#[]⟩ : ByteArray), .int .i64 0] 50 (0, 0)) (bk_ BK294.out) hb); replace HB := AM (below_step bel_ hb); (try clear hb); (try clear hb2); (try clear hk); (try clear hi)) | ((with_reducible refine gate_dst (N := 3) rfl ?_); refine be_ 3 #[.int .i64 0, .int .i64 0, .int .i64 0, .int .i64 0, .string (⟨#[]⟩ : ByteArray), .string (⟨#[]⟩ : ByteArray)] 28 ?_; intro gb303 hg w10 hbox hb; have BK303 := AM hbox; have GW303 := AM ((by rw [hg]; exact (below_size bel_) : w.heap.size ≤ gb303)); have GE303 := AM ((by rw [hg]; exact (below_size bel_) : w.heap.size ≤ gb303)); replace HB := AM (below_step bel_ hb); have NB294_303 := AM ((by rw [hg]; exact Nat.ne_of_lt (blk_lt (g := gb294) (o := .cells #[.int .i64 0, .int .i64 0, .int .i64 0, .int .i64 0, .string (⟨#[]⟩ : ByteArray), .string (⟨#[]⟩ : ByteArray), .int .i64 0] 50 (0, 0)) (bk_ BK294.out)) : gb294 ≠ gb303)); have NB303_294 := AM ((by rw [hg]; exact Nat.ne_of_gt (blk_lt (g := gb294) (o := .cells #[.int .i64 0, .int .i64 0, .int .i64 0, .int .i64 0, .string (⟨#[]⟩ : ByteArray), .string (⟨#[]⟩ : ByteArray), .int .i64 0] 50 (0, 0)) (bk_ BK294.out)) : gb303 ≠ gb294)); replace BK294 := AM (blk_below (g := gb294) (o := .cells #[.int .i64 0, .int .i64 0, .int .i64 0, .int .i64 0, .string (⟨#[]⟩ : ByteArray), .string (⟨#[]⟩ : ByteArray), .int .i64 0] 50 (0, 0)) (bk_ BK294.out) hb); clear hb hbox hg; have hnb11 := NB303_294.out; have hnc11 := NB294_303.out; have hcz12_0 : w10.cell? ⟨gb303, 0, none⟩ = some (.int .i64 0) := (blk_cell BK303.out 0).trans rfl; have hcz12_1 : w10.cell? ⟨gb303, 1, none⟩ = some (.int .i64 0) := (blk_cell BK303.out 1).trans rfl; have hcz12_2 : w10.cell? ⟨gb303, 2, none⟩ = some (.int .i64 0) := (blk_cell BK303.out 2).trans rfl; have hcz12_3 : w10.cell? ⟨gb303, 3, none⟩ = some (.int .i64 0) := (blk_cell BK303.out 3).trans rfl; have hcz12_4 : w10.cell? ⟨gb303, 4, none⟩ = some (.string (⟨#[]⟩ : ByteArray)) := (blk_cell BK303.out 4).trans rfl; have hcz12_5 : w10.cell? ⟨gb303, 5, none⟩ = some (.string (⟨#[]⟩ : ByteArray)) := (blk_cell BK303.out 5).trans rfl; have hfz12_0 := blk_frozen BK303.out 0; have hfz12_1 := blk_frozen BK303.out 1; have hfz12_2 := blk_frozen BK303.out 2; have hfz12_3 := blk_frozen BK303.out 3; have hfz12_4 := blk_frozen BK303.out 4; have hfz12_5 := blk_frozen BK303.out 5; have hcz13_0 : w10.cell? ⟨gb294, 0, none⟩ = some (.int .i64 0) := (blk_cell BK294.out 0).trans rfl; have hcz13_1 : w10.cell? ⟨gb294, 1, none⟩ = some (.int .i64 0) := (blk_cell BK294.out 1).trans rfl; have hcz13_2 : w10.cell? ⟨gb294, 2, none⟩ = some (.int .i64 0) := (blk_cell BK294.out 2).trans rfl; have hcz13_3 : w10.cell? ⟨gb294, 3, none⟩ = some (.int .i64 0) := (blk_cell BK294.out 3).trans rfl; have hcz13_4 : w10.cell? ⟨gb294, 4, none⟩ = some (.string (⟨#[]⟩ : ByteArray)) := (blk_cell BK294.out 4).trans rfl; have hcz13_5 : w10.cell? ⟨gb294, 5, none⟩ = some (.string (⟨#[]⟩ : ByteArray)) := (blk_cell BK294.out 5).trans rfl; have hcz13_6 : w10.cell? ⟨gb294, 6, none⟩ = some (.int .i64 0) := (blk_cell BK294.out 6).trans rfl; have hfz13_0 := blk_frozen BK294.out 0; have hfz13_1 := blk_frozen BK294.out 1; have hfz13_2 := blk_frozen BK294.out 2; have hfz13_3 := blk_frozen BK294.out 3; have hfz13_4 := blk_frozen BK294.out 4; have hfz13_5 := blk_frozen BK294.out 5; have hfz13_6 := blk_frozen BK294.out 6))
      refine bodyPost_ret (results_cell_row rfl _ _ gb294 50 #[.int .i64 t296, .int .i64 t297, .int .i64 t298, .int .i64 t299, .string t300, .string t301, .int .i64 0] (0, 0) _ rfl bka_ Tryd.underlying50 rfl (by kernel_rfl)) rfl ?_
      exact ⟨ri_, bel_⟩
    · replace c7 := Bool.eq_false_iff.mpr c7
      subst c7
      rw [if_neg (show ¬ (false = true) by decide)] at H
      simp only [Option.some.injEq, Prod.mk.injEq] at H
      obtain ⟨rfl, rfl, rfl, rfl, rfl, rfl, rfl⟩ := H
      go_enter Tryd.func33, Tryd.ntmps33
      go_wp2_with (first | ((with_reducible refine gate_dst (N := 2) rfl ?_); refine be_ 2 #[.int .i64 0, .int .i64 0, .int .i64 0, .int .i64 0, .string (⟨#[]⟩ : ByteArray), .string (⟨#[]⟩ : ByteArray), .int .i64 0] 50 ?_; intro gb294 hg w14 hbox hb; have BK294 := AM hbox; have GW294 := AM ((by rw [hg]; exact (below_size bel_) : w.heap.size ≤ gb294)); have GE294 := AM ((by rw [hg]; exact (below_size bel_) : w.heap.size ≤ gb294)); replace HB := AM (below_step bel_ hb); clear hb hbox hg) | ((with_reducible refine gate_callee (f := 48) rfl ?_); refine gl_ (some 6) Tryd.func48 #[.string a0] ?_; (with_reducible refine (impl_isLong.calls a0 false _ A2.out).mono ?_); rintro e w' ⟨rfl, ⟨nd, rfl⟩⟩; refine ⟨_, rfl, ?_⟩; (try (rw [drewN_self w14]; generalize hq_ : World.drewN w14 _ = w14; replace BK294 : Aside0 (w14.heap[gb294]? = some (.cells #[.int .i64 0, .int .i64 0, .int .i64 0, .int .i64 0, .string (⟨#[]⟩ : ByteArray), .string (⟨#[]⟩ : ByteArray), .int .i64 0] 50 (0, 0))) := ⟨by rw [← hq_]; exact (bk_ BK294.out)⟩; replace HB : Aside0 (Below w.heap.size w w14) := ⟨by rw [← hq_]; exact bel_⟩; clear hq_))) | ((with_reducible refine gate_callee (f := 81) rfl ?_); refine gl_ (some 10) Tryd.func81 #[.string a0] ?_; (with_reducible refine (impl_readFrame.calls k a0 t296 t297 t298 t299 t300 t301 false _ A6.out).mono ?_); rintro e w15 ⟨rfl, hb⟩; refine ⟨_, rfl, ?_⟩; replace BK294 := AM (blk_below (g := gb294) (o := .cells #[.int .i64 0, .int .i64 0, .int .i64 0, .int .i64 0, .string (⟨#[]⟩ : ByteArray), .string (⟨#[]⟩ : ByteArray), .int .i64 0] 50 (0, 0)) (bk_ BK294.out) hb); replace HB := AM (below_step bel_ hb); (try clear hb); (try clear hb2); (try clear hk); (try clear hi)) | ((with_reducible refine gate_dst (N := 3) rfl ?_); refine be_ 3 #[.int .i64 0, .int .i64 0, .int .i64 0, .int .i64 0, .string (⟨#[]⟩ : ByteArray), .string (⟨#[]⟩ : ByteArray)] 28 ?_; intro gb303 hg w16 hbox hb; have BK303 := AM hbox; have GW303 := AM ((by rw [hg]; exact (below_size bel_) : w.heap.size ≤ gb303)); have GE303 := AM ((by rw [hg]; exact (below_size bel_) : w.heap.size ≤ gb303)); replace HB := AM (below_step bel_ hb); have NB294_303 := AM ((by rw [hg]; exact Nat.ne_of_lt (blk_lt (g := gb294) (o := .cells #[.int .i64 0, .int .i64 0, .int .i64 0, .int .i64 0, .string (⟨#[]⟩ : ByteArray), .string (⟨#[]⟩ : ByteArray), .int .i64 0] 50 (0, 0)) (bk_ BK294.out)) : gb294 ≠ gb303)); have NB303_294 := AM ((by rw [hg]; exact Nat.ne_of_gt (blk_lt (g := gb294) (o := .cells #[.int .i64 0, .int .i64 0, .int .i64 0, .int .i64 0, .string (⟨#[]⟩ : ByteArray), .string (⟨#[]⟩ : ByteArray), .int .i64 0] 50 (0, 0)) (bk_ BK294.out)) : gb303 ≠ gb294)); replace BK294 := AM (blk_below (g := gb294) (o := .cells #[.int .i64 0, .int .i64 0, .int .i64 0, .int .i64 0, .string (⟨#[]⟩ : ByteArray), .string (⟨#[]⟩ : ByteArray), .int .i64 0] 50 (0, 0)) (bk_ BK294.out) hb); clear hb hbox hg; have hnb17 := NB303_294.out; have hnc17 := NB294_303.out; have hcz18_0 : w16.cell? ⟨gb303, 0, none⟩ = some (.int .i64 0) := (blk_cell BK303.out 0).trans rfl; have hcz18_1 : w16.cell? ⟨gb303, 1, none⟩ = some (.int .i64 0) := (blk_cell BK303.out 1).trans rfl; have hcz18_2 : w16.cell? ⟨gb303, 2, none⟩ = some (.int .i64 0) := (blk_cell BK303.out 2).trans rfl; have hcz18_3 : w16.cell? ⟨gb303, 3, none⟩ = some (.int .i64 0) := (blk_cell BK303.out 3).trans rfl; have hcz18_4 : w16.cell? ⟨gb303, 4, none⟩ = some (.string (⟨#[]⟩ : ByteArray)) := (blk_cell BK303.out 4).trans rfl; have hcz18_5 : w16.cell? ⟨gb303, 5, none⟩ = some (.string (⟨#[]⟩ : ByteArray)) := (blk_cell BK303.out 5).trans rfl; have hfz18_0 := blk_frozen BK303.out 0; have hfz18_1 := blk_frozen BK303.out 1; have hfz18_2 := blk_frozen BK303.out 2; have hfz18_3 := blk_frozen BK303.out 3; have hfz18_4 := blk_frozen BK303.out 4; have hfz18_5 := blk_frozen BK303.out 5; have hcz19_0 : w16.cell? ⟨gb294, 0, none⟩ = some (.int .i64 0) := (blk_cell BK294.out 0).trans rfl; have hcz19_1 : w16.cell? ⟨gb294, 1, none⟩ = some (.int .i64 0) := (blk_cell BK294.out 1).trans rfl; have hcz19_2 : w16.cell? ⟨gb294, 2, none⟩ = some (.int .i64 0) := (blk_cell BK294.out 2).trans rfl; have hcz19_3 : w16.cell? ⟨gb294, 3, none⟩ = some (.int .i64 0) := (blk_cell BK294.out 3).trans rfl; have hcz19_4 : w16.cell? ⟨gb294, 4, none⟩ = some (.string (⟨#[]⟩ : ByteArray)) := (blk_cell BK294.out 4).trans rfl; have hcz19_5 : w16.cell? ⟨gb294, 5, none⟩ = some (.string (⟨#[]⟩ : ByteArray)) := (blk_cell BK294.out 5).trans rfl; have hcz19_6 : w16.cell? ⟨gb294, 6, none⟩ = some (.int .i64 0) := (blk_cell BK294.out 6).trans rfl; have hfz19_0 := blk_frozen BK294.out 0; have hfz19_1 := blk_frozen BK294.out 1; have hfz19_2 := blk_frozen BK294.out 2; have hfz19_3 := blk_frozen BK294.out 3; have hfz19_4 := blk_frozen BK294.out 4; have hfz19_5 := blk_frozen BK294.out 5; have hfz19_6 := blk_frozen BK294.out 6))
      refine bodyPost_ret (results_cell_row rfl _ _ gb294 50 #[.int .i64 0, .int .i64 0, .int .i64 0, .int .i64 0, .string (⟨#[]⟩ : ByteArray), .string (⟨#[]⟩ : ByteArray), .int .i64 3] (0, 0) _ rfl bka_ Tryd.underlying50 rfl (by kernel_rfl)) rfl ?_
      exact ⟨ri_, bel_⟩

/-- A state of type 120 at block g of W; what its slices lead to came in by w0. -/
def IsS120 (w0 W : World) (g : Nat) (f0 : List Int) (f1 : Int) (f2 : Int) (f3 : Int) : Prop := ∃ A0 c0, W.heap[g]? = some (.cells #[.slice A0 f0.length c0, .int .i64 f1, .int .u64 f2, .int .i64 f3] 120 (0, 0)) ∧ w0.heap.size ≤ g ∧ Kd.C (Kd.int .u8) w0 A0 f0.length f0
theorem IsS120.grown {w0 W : World} {g : Nat} {f0 : List Int} {f1 : Int} {f2 : Int} {f3 : Int} {W1 : World} {row : Option Nat} (h : IsS120 w0 W g f0 f1 f2 f3) (hw : W.grownBy W1 row) (hne : some g ≠ row) : IsS120 w0 W1 g f0 f1 f2 f3 := by
  obtain ⟨A0, c0, hb, hg, hr0⟩ := h
  exact ⟨A0, c0, blk_grown hb hw hne, hg, hr0⟩
theorem IsS120.own_neN {w0 W : World} {g : Nat} {f0 : List Int} {f1 : Int} {f2 : Int} {f3 : Int} {α : Type} {d : Kd α} {e : Nat} {base : Nat} {ok : Nat → Prop} {v : Value} {xs : List α} (h : IsS120 w0 W g f0 f1 f2 f3) (ho : Kd.N d e W base ok v xs) (ht : e ≠ 120) : some g ≠ v.ownBlock := by
  obtain ⟨A0, c0, hb, hg, hr0⟩ := h
  exact Kd.N_ne ho hb ht
theorem IsS120.fresh {w0 W : World} {g : Nat} {f0 : List Int} {f1 : Int} {f2 : Int} {f3 : Int} (h : IsS120 w0 W g f0 f1 f2 f3) : ∀ k, W.heap.size ≤ k → k ≠ g := by
  obtain ⟨A0, c0, hb, hg, hr0⟩ := h
  exact Kd.freshB hb
theorem IsS120.kept {w0 W : World} {g : Nat} {f0 : List Int} {f1 : Int} {f2 : Int} {f3 : Int} {W1 : World} {S : Nat → Prop} (h : IsS120 w0 W g f0 f1 f2 f3) (hk : Kept W W1 S) (hne : ¬ S g) : IsS120 w0 W1 g f0 f1 f2 f3 := by
  obtain ⟨A0, c0, hb, hg, hr0⟩ := h
  exact ⟨A0, c0, blk_kept hb hk hne, hg, hr0⟩
theorem IsS120.below {w0 W : World} {g : Nat} {f0 : List Int} {f1 : Int} {f2 : Int} {f3 : Int} {W1 : World} (h : IsS120 w0 W g f0 f1 f2 f3) (hw : Below W.heap.size W W1) : IsS120 w0 W1 g f0 f1 f2 f3 := h.grown (grown_of_below hw none) (by simp)
theorem IsS120.alloc {w0 W : World} {g : Nat} {f0 : List Int} {f1 : Int} {f2 : Int} {f3 : Int} (h : IsS120 w0 W g f0 f1 f2 f3) (o : Obj) : IsS120 w0 (W.alloc o) g f0 f1 f2 f3 := h.below (below_alloc (Below.refl _ _) o)
theorem IsS120.drewN {w0 W : World} {g : Nat} {f0 : List Int} {f1 : Int} {f2 : Int} {f3 : Int} (h : IsS120 w0 W g f0 f1 f2 f3) (m : Nat) : IsS120 w0 (W.drewN m) g f0 f1 f2 f3 := h
theorem IsS120.drew {w0 W : World} {g : Nat} {f0 : List Int} {f1 : Int} {f2 : Int} {f3 : Int} (h : IsS120 w0 W g f0 f1 f2 f3) : IsS120 w0 W.drew g f0 f1 f2 f3 := h
theorem IsS120.at_ {w0 W : World} {g : Nat} {f0 : List Int} {f1 : Int} {f2 : Int} {f3 : Int} {w' : World} {m : Nat} (hq : W.drewN m = w') (h : IsS120 w0 W g f0 f1 f2 f3) : IsS120 w0 w' g f0 f1 f2 f3 := by subst hq; exact IsS120.drewN h m
theorem IsS120.apart {w0 W : World} {g : Nat} {f0 : List Int} {f1 : Int} {f2 : Int} {f3 : Int} {α : Type} {d : Kd α} {e : Nat} {base : Nat} {ok : Nat → Prop} {v : Value} {xs : List α} (h : IsS120 w0 W g f0 f1 f2 f3) (ho : d.R e W base ok v xs) (ht : ∀ q, q ∈ e :: d.E → q ≠ 120) : d.R e W base (fun k => ok k ∧ k ≠ g) v xs := by
  obtain ⟨A0, c0, hb, hg, hr0⟩ := h
  exact Kd.R_types ho hb ht
theorem IsS120.own_ne {w0 W : World} {g : Nat} {f0 : List Int} {f1 : Int} {f2 : Int} {f3 : Int} {α : Type} {d : Kd α} {e : Nat} {base : Nat} {ok : Nat → Prop} {v : Value} {xs : List α} (h : IsS120 w0 W g f0 f1 f2 f3) (ho : d.R e W base ok v xs) (ht : e ≠ 120) : some g ≠ v.ownBlock := by
  obtain ⟨A0, c0, hb, hg, hr0⟩ := h
  exact Kd.R_ne ho hb ht
theorem IsS120.apartQ {w0 W : World} {g : Nat} {f0 : List Int} {f1 : Int} {f2 : Int} {f3 : Int} {α : Type} {d : Kd α} {e : Nat} {base : Nat} {ok : Nat → Prop} {v : Value} {xs : List α} (h : IsS120 w0 W g f0 f1 f2 f3) (ho : d.Q e W base ok v xs) (ht : ∀ q, q ∈ e :: d.E → q ≠ 120) : d.Q e W base (fun k => ok k ∧ k ≠ g) v xs := by
  obtain ⟨A0, c0, hb, hg, hr0⟩ := h
  exact Kd.Q_types ho hb ht
theorem IsS120.own_neQ {w0 W : World} {g : Nat} {f0 : List Int} {f1 : Int} {f2 : Int} {f3 : Int} {α : Type} {d : Kd α} {e : Nat} {base : Nat} {ok : Nat → Prop} {v : Value} {xs : List α} (h : IsS120 w0 W g f0 f1 f2 f3) (ho : d.Q e W base ok v xs) (ht : e ≠ 120) : some g ≠ v.ownBlock := by
  obtain ⟨A0, c0, hb, hg, hr0⟩ := h
  exact Kd.Q_ne ho hb ht
theorem IsS120.apartS {w0 W : World} {g : Nat} {f0 : List Int} {f1 : Int} {f2 : Int} {f3 : Int} {α : Type} {d : Kd α} {e : Nat} {base : Nat} {ok : Nat → Prop} {v : Value} {xs : List α} (h : IsS120 w0 W g f0 f1 f2 f3) (ho : d.S e W base ok v xs) (ht : ∀ q, q ∈ e :: d.E → q ≠ 120) : d.S e W base (fun k => ok k ∧ k ≠ g) v xs := by
  obtain ⟨A0, c0, hb, hg, hr0⟩ := h
  exact Kd.S_types ho hb ht
theorem IsS120.own_neS {w0 W : World} {g : Nat} {f0 : List Int} {f1 : Int} {f2 : Int} {f3 : Int} {α : Type} {d : Kd α} {e : Nat} {base : Nat} {ok : Nat → Prop} {v : Value} {xs : List α} (h : IsS120 w0 W g f0 f1 f2 f3) (ho : d.S e W base ok v xs) (ht : e ≠ 120) : some g ≠ v.ownBlock := by
  obtain ⟨A0, c0, hb, hg, hr0⟩ := h
  exact Kd.S_ne ho hb ht
theorem IsS120.lt {w0 W : World} {g : Nat} {f0 : List Int} {f1 : Int} {f2 : Int} {f3 : Int} (h : IsS120 w0 W g f0 f1 f2 f3) : g < W.heap.size := by
  obtain ⟨A0, c0, hb, hg, hr0⟩ := h
  exact blk_lt hb
theorem IsS120.ge {w0 W : World} {g : Nat} {f0 : List Int} {f1 : Int} {f2 : Int} {f3 : Int} (h : IsS120 w0 W g f0 f1 f2 f3) : w0.heap.size ≤ g := by
  obtain ⟨A0, c0, hb, hg, hr0⟩ := h
  exact hg
theorem IsS120.ne_blk {w0 W : World} {g : Nat} {f0 : List Int} {f1 : Int} {f2 : Int} {f3 : Int} {a : Nat} {cs : Array Value} {t : TypeId} {fr : Nat × Nat} (h : IsS120 w0 W g f0 f1 f2 f3) (hb2 : W.heap[a]? = some (.cells cs t fr)) (ht : t ≠ 120) : g ≠ a := by
  obtain ⟨A0, c0, hb, hg, hr0⟩ := h
  rintro rfl
  rw [hb] at hb2
  injection hb2 with hb2
  injection hb2 with _ ht2
  exact ht ht2.symm
theorem IsS120.far {w0 W : World} {g : Nat} {f0 : List Int} {f1 : Int} {f2 : Int} {f3 : Int} {p : Addr} (h : IsS120 w0 W g f0 f1 f2 f3) (hne : g ≠ p.block) (u : Value) : IsS120 w0 (W.setCell p u) g f0 f1 f2 f3 := by
  obtain ⟨A0, c0, hb, hg, hr0⟩ := h
  exact ⟨A0, c0, blk_far hb hne u, hg, hr0⟩
theorem cellS120_0 {W : World} {g : Nat} {A0 : Option Addr} {c0 : Nat} {f0 : List Int} {f1 : Int} {f2 : Int} {f3 : Int} (h : W.heap[g]? = some (.cells #[.slice A0 f0.length c0, .int .i64 f1, .int .u64 f2, .int .i64 f3] 120 (0, 0))) : W.cell? ⟨g, 0, none⟩ = some (.slice A0 f0.length c0) := (blk_cell h 0).trans rfl
theorem cellS120_1 {W : World} {g : Nat} {A0 : Option Addr} {c0 : Nat} {f0 : List Int} {f1 : Int} {f2 : Int} {f3 : Int} (h : W.heap[g]? = some (.cells #[.slice A0 f0.length c0, .int .i64 f1, .int .u64 f2, .int .i64 f3] 120 (0, 0))) : W.cell? ⟨g, 1, none⟩ = some (.int .i64 f1) := (blk_cell h 1).trans rfl
theorem IsS120.set_1 {w0 W : World} {g : Nat} {f0 : List Int} {f1 : Int} {f2 : Int} {f3 : Int} (h : IsS120 w0 W g f0 f1 f2 f3) (x : Int) : IsS120 w0 (W.setCell ⟨g, 1, none⟩ (.int .i64 x)) g f0 x f2 f3 := by
  obtain ⟨A0, c0, hb, hg, hr0⟩ := h
  exact ⟨A0, c0, by simpa using blk_set hb 1 (.int .i64 x), hg, hr0⟩
theorem cellS120_2 {W : World} {g : Nat} {A0 : Option Addr} {c0 : Nat} {f0 : List Int} {f1 : Int} {f2 : Int} {f3 : Int} (h : W.heap[g]? = some (.cells #[.slice A0 f0.length c0, .int .i64 f1, .int .u64 f2, .int .i64 f3] 120 (0, 0))) : W.cell? ⟨g, 2, none⟩ = some (.int .u64 f2) := (blk_cell h 2).trans rfl
theorem IsS120.set_2 {w0 W : World} {g : Nat} {f0 : List Int} {f1 : Int} {f2 : Int} {f3 : Int} (h : IsS120 w0 W g f0 f1 f2 f3) (x : Int) : IsS120 w0 (W.setCell ⟨g, 2, none⟩ (.int .u64 x)) g f0 f1 x f3 := by
  obtain ⟨A0, c0, hb, hg, hr0⟩ := h
  exact ⟨A0, c0, by simpa using blk_set hb 2 (.int .u64 x), hg, hr0⟩
theorem cellS120_3 {W : World} {g : Nat} {A0 : Option Addr} {c0 : Nat} {f0 : List Int} {f1 : Int} {f2 : Int} {f3 : Int} (h : W.heap[g]? = some (.cells #[.slice A0 f0.length c0, .int .i64 f1, .int .u64 f2, .int .i64 f3] 120 (0, 0))) : W.cell? ⟨g, 3, none⟩ = some (.int .i64 f3) := (blk_cell h 3).trans rfl
theorem IsS120.set_3 {w0 W : World} {g : Nat} {f0 : List Int} {f1 : Int} {f2 : Int} {f3 : Int} (h : IsS120 w0 W g f0 f1 f2 f3) (x : Int) : IsS120 w0 (W.setCell ⟨g, 3, none⟩ (.int .i64 x)) g f0 f1 f2 x := by
  obtain ⟨A0, c0, hb, hg, hr0⟩ := h
  exact ⟨A0, c0, by simpa using blk_set hb 3 (.int .i64 x), hg, hr0⟩
theorem IsS120.new (w0 W : World) (A0 : Option Addr) (c0 : Nat) (f0 : List Int) (f1 : Int) (f2 : Int) (f3 : Int) (hB : Below w0.heap.size w0 W) (hr0 : Kd.C (Kd.int .u8) w0 A0 f0.length f0) : IsS120 w0 (W.alloc (.cells #[.slice A0 f0.length c0, .int .i64 f1, .int .u64 f2, .int .i64 f3] 120)) W.heap.size f0 f1 f2 f3 := ⟨A0, c0, by simpa using heap_alloc_new W _, hB.size, hr0⟩

/-! ### spec_l01Source: function 62 -/
theorem IsS120.farA {w0 W : World} {g : Nat} {f0 : List Int} {f1 : Int} {f2 : Int} {f3 : Int} {p : Addr} {u : Value} (hne : Aside0 (g ≠ p.block)) (h : IsS120 w0 W g f0 f1 f2 f3) : IsS120 w0 (W.setCell p u) g f0 f1 f2 f3 := IsS120.far h hne.out u
theorem is120_ {w0 W : World} {g : Nat} {f0 : List Int} {f1 : Int} {f2 : Int} {f3 : Int} (h : IsS120 w0 W g f0 f1 f2 f3 := by repeat (first | (with_reducible first | (refine Aside0.out ?_; assumption) | apply IsS120.alloc | apply IsS120.drewN | apply IsS120.drew | (apply IsS120.farA; assumption) | apply IsS120.set_1 | apply IsS120.set_2 | apply IsS120.set_3) | (refine Aside0.out ?_; assumption))) : IsS120 w0 W g f0 f1 f2 f3 := h
def spec_l01Source.l0 : Nat → List Int → Int → List Int → Int → Int → Int → Option (List Int × Int × Int × Int)
  | 0, _, _, _, _, _, _ => none
  | k + 1, x0, x4, x305000, x305001, x305002, x305003 => if x4 < (x0.length : Int) then (if x4 < 64 then (if 0 ≤ x4 then (spec_l01Source.l0 k x0 (wrap64 (x4 + 1)) x305000 x305001 (IntKind.u64.wrap ((Go.bits .xor .u64 x305002 (IntKind.u64.wrap (rd x0 x4))) * 1099511628211)) x305003) else (none)) else (if (wrap64 ((x0.length : Int) / 20)) > 12 then (some (x305000, x305001, x305002, 12)) else (some (x305000, x305001, x305002, wrap64 ((x0.length : Int) / 20))))) else (if (wrap64 ((x0.length : Int) / 20)) > 12 then (some (x305000, x305001, x305002, 12)) else (some (x305000, x305001, x305002, wrap64 ((x0.length : Int) / 20))))
def spec_l01Source.f (k : Nat) (l0 : List Int) : Option (List Int × Int × Int × Int) := spec_l01Source.l0 k l0 0 l0 0 88172645463325252 0
theorem spec_l01Source.mono_l : ∀ k, (∀ y0 y1 y2 y3 y4 y5, LeO (spec_l01Source.l0 k y0 y1 y2 y3 y4 y5) (spec_l01Source.l0 (k + 1) y0 y1 y2 y3 y4 y5))
  | 0 => fun _ _ _ _ _ _ r h => by simp [spec_l01Source.l0] at h
  | k + 1 => by
    have ih0 := spec_l01Source.mono_l k
    · intro y0 y1 y2 y3 y4 y5
      unfold spec_l01Source.l0
      repeat' first
      | (with_reducible exact ih0 _ _ _ _ _ _)
      | (with_reducible exact LeO.refl _)
      | (with_reducible exact LeO.none _)
      | (with_reducible refine LeO.ite ?_ ?_)
      | (with_reducible refine LeO.bind ?_ (fun _ => ?_))
      | exact ih0 _ _ _ _ _ _
      | exact LeO.none _
      | refine LeO.ite ?_ ?_
      | refine LeO.bind ?_ (fun _ => ?_)
theorem spec_l01Source.mono : ∀ a0 k, LeO (spec_l01Source.f k a0) (spec_l01Source.f (k + 1) a0) := by
  intro a0 k
  have ih0 := spec_l01Source.mono_l k
  unfold spec_l01Source.f
  repeat' first
      | (with_reducible exact ih0 _ _ _ _ _ _)
      | (with_reducible exact LeO.refl _)
      | (with_reducible exact LeO.none _)
      | (with_reducible refine LeO.ite ?_ ?_)
      | (with_reducible refine LeO.bind ?_ (fun _ => ?_))
      | exact ih0 _ _ _ _ _ _
      | exact LeO.none _
      | refine LeO.ite ?_ ?_
      | refine LeO.bind ?_ (fun _ => ?_)
set_option maxHeartbeats 8000000 in
set_option maxRecDepth 100000 in
theorem spec_l01Source.calls (k : Nat) (A0 : Option Addr) (c0 : Nat) (l0 : List Int) (r1 : List Int) (r2 : Int) (r3 : Int) (r4 : Int) (w0 w : World) (hB : Below w0.heap.size w0 w) (hr0 : Kd.C (Kd.int .u8) w0 A0 l0.length l0) (hc0 : l0.length ≤ c0) (h : spec_l01Source.f k l0 = some (r1, r2, r3, r4)) :
    Calls Tryd.prog 62 #[.slice A0 l0.length c0] w fun e w' => ∃ g_ : Nat, e = .returned (.pointer (some ⟨g_, 0, none⟩)) ∧ IsS120 w0 w' g_ r1 r2 r3 r4 ∧ Below w0.heap.size w0 w' ∧ Below w.heap.size w w' := by
  have hu := Tryd.underlying120
  have HR0 := AM hr0
  have HC0 := AM hc0
  have HW0 := AM hB.size
  have hI := IsS120.new w0 w A0 c0 l0 0 88172645463325252 0 hB hr0
  have HI0 := AM hI
  have HB0 := AM (hB.alloc hB.size (Obj.cells #[.slice A0 l0.length c0, .int .i64 0, .int .u64 88172645463325252, .int .i64 0] 120))
  have HV0 := AM ((Below.refl w.heap.size w).alloc (Nat.le_refl _) (Obj.cells #[.slice A0 l0.length c0, .int .i64 0, .int .u64 88172645463325252, .int .i64 0] 120))
  have H' := AM (show spec_l01Source.l0 k l0 0 l0 0 88172645463325252 0 = some (r1, r2, r3, r4) from h)
  clear hB hr0 hc0 hI h
  go_enter Tryd.func62, Tryd.ntmps62
  go_wp2
  generalize hq : World.alloc w _ = w1 at HI0 HB0 HV0 ⊢
  revert HI0
  generalize hgg : w.heap.size = g
  intro HI0
  have HE := AM (show w.heap.size ≤ g by omega)
  clear hq hgg
  go_loopg [4] k (fun kq v4 w' => ∃ (x m : Int), v4 = .int .i64 x ∧ Aside0 (spec_l01Source.l0 kq l0 x l0 0 m 0 = some (r1, r2, r3, r4)) ∧ Aside0 (kq ≤ k) ∧ Aside0 (IsS120 w0 w' g l0 0 m 0) ∧ Aside0 (Below w0.heap.size w0 w') ∧ Aside0 (Below w.heap.size w w'))
  case atStart => exact ⟨0, 88172645463325252, rfl, H', ⟨Nat.le_refl _⟩, HI0, HB0, HV0⟩
  case round =>
    clear H' HI0 HB0 HV0
    obtain ⟨x, m, rfl, HA, HK1, HI, HB, HV⟩ := hrel
    cases gk with
    | zero => exact absurd HA.out (by simp [spec_l01Source.l0])
    | succ k1 =>
      have H := HA.out
      clear HA
      simp only [spec_l01Source.l0] at H
      obtain ⟨A1, cc, hb, hge, hr⟩ := HI.out
      have hx0 := cellS120_0 hb
      have hx2 := cellS120_2 hb
      have hx3 := cellS120_3 hb
      have hf2 := blk_frozen hb 2
      have hf3 := blk_frozen hb 3
      clear hb hge hr
      have stop : (if (wrap64 ((l0.length : Int) / 20)) > 12 then (some (l0, (0 : Int), m, (12 : Int))) else (some (l0, 0, m, wrap64 ((l0.length : Int) / 20)))) = some (r1, r2, r3, r4) → (12 < wrap64 ((l0.length : Int) / 20) ∧ l0 = r1 ∧ 0 = r2 ∧ m = r3 ∧ 12 = r4) ∨ (¬ 12 < wrap64 ((l0.length : Int) / 20) ∧ l0 = r1 ∧ 0 = r2 ∧ m = r3 ∧ wrap64 ((l0.length : Int) / 20) = r4) := by
        intro q
        by_cases c : 12 < wrap64 ((l0.length : Int) / 20)
        · rw [if_pos c] at q
          simp only [Option.some.injEq, Prod.mk.injEq] at q
          exact .inl ⟨c, q⟩
        · rw [if_neg c] at q
          simp only [Option.some.injEq, Prod.mk.injEq] at q
          exact .inr ⟨c, q⟩
      by_cases c3 : x < (l0.length : Int)
      · rw [if_pos c3] at H
        by_cases c4 : x < 64
        · rw [if_pos c4] at H
          by_cases c5 : 0 ≤ x
          · rw [if_pos c5] at H
            obtain ⟨ad, rfl, hxe⟩ := Kd.at_int HR0.out x c5 c3
            replace hxe := cellG HB.out (grow_refl _) hxe
            have H' := AM H
            have c3b0 : decide (x < (l0.length : Int)) = true := decide_eq_true c3
            have c3b1 := eq_true c3
            have c4b0 : decide (x < 64) = true := decide_eq_true c4
            have c5b0 := eq_true c5
            clear H c3 c4 c5 stop hx0 hx3 hf3
            go_wp2
            go_region
            generalize hq : World.drew _ = wn
            have HIn := AM (show IsS120 w0 wn g l0 0 (IntKind.u64.wrap ((Go.bits .xor .u64 m (IntKind.u64.wrap (rd l0 x))) * 1099511628211)) 0 by rw [← hq]; exact IsS120.set_2 HI.out _)
            have HBn := AM (show Below w0.heap.size w0 wn by rw [← hq]; (repeat refine below_drew1 ?_); exact below_set HB.out HI.out.ge)
            have HVn := AM (show Below w.heap.size w wn by rw [← hq]; (repeat refine below_drew1 ?_); exact below_set HV.out HE.out)
            clear hq hx2 hf2 hxe HI HB HV
            go_wp2
            go_roundg k1
            case measure => have := HK1.out; omega
            case rel => exact ⟨wrap64 (x + 1), _, (by first | rfl | (simp; done) | (simp [*]; done)), H', ⟨by have := HK1.out; omega⟩, HIn, HBn, HVn⟩
          · rw [if_neg c5] at H
            cases H
        · rw [if_neg c4] at H
          have c3b0 : decide (x < (l0.length : Int)) = true := decide_eq_true c3
          have c4b0 : decide (x < 64) = false := decide_eq_false c4
          clear c3 c4
          rcases stop H with ⟨c6, rfl, rfl, rfl, rfl⟩ | ⟨c6, rfl, rfl, rfl, rfl⟩
          · have c6b : decide (12 < wrap64 ((l0.length : Int) / 20)) = true := decide_eq_true c6
            clear H stop c6 hx0 hx2 hf2
            go_wp2
            go_ret
            exact ⟨g, rfl, IsS120.set_3 (IsS120.set_3 HI.out _) _, below_set (below_set HB.out HI.out.ge) HI.out.ge, below_set (below_set HV.out HE.out) HE.out⟩
          · have c6b : decide (12 < wrap64 ((l0.length : Int) / 20)) = false := decide_eq_false c6
            clear H stop c6 hx0 hx2 hf2
            go_wp2
            go_ret
            exact ⟨g, rfl, IsS120.set_3 HI.out _, below_set HB.out HI.out.ge, below_set HV.out HE.out⟩
      · rw [if_neg c3] at H
        have c3b0 : decide (x < (l0.length : Int)) = false := decide_eq_false c3
        clear c3
        rcases stop H with ⟨c6, rfl, rfl, rfl, rfl⟩ | ⟨c6, rfl, rfl, rfl, rfl⟩
        · have c6b : decide (12 < wrap64 ((l0.length : Int) / 20)) = true := decide_eq_true c6
          clear H stop c6 hx0 hx2 hf2
          go_wp2
          go_ret
          exact ⟨g, rfl, IsS120.set_3 (IsS120.set_3 HI.out _) _, below_set (below_set HB.out HI.out.ge) HI.out.ge, below_set (below_set HV.out HE.out) HE.out⟩
        · have c6b : decide (12 < wrap64 ((l0.length : Int) / 20)) = false := decide_eq_false c6
          clear H stop c6 hx0 hx2 hf2
          go_wp2
          go_ret
          exact ⟨g, rfl, IsS120.set_3 HI.out _, below_set HB.out HI.out.ge, below_set HV.out HE.out⟩
/-! ### spec_Digest: function 24 -/
def spec_Digest.f (k : Nat) (a0 : ByteArray) : Option (ByteArray) := if (a0.size : Int) > 20000 then (some (⟨#[]⟩ : ByteArray)) else ((spec_HashBegin.f).bind fun bt306 => ((spec_l05More.f k bt306.1 bt306.2.1 bt306.2.2 a0).bind fun bt311 => ((spec_l05End.f k bt311.1 bt311.2.1 bt311.2.2).bind fun t316 => (some t316))))
theorem spec_Digest.mono : ∀ a0 k, LeO (spec_Digest.f k a0) (spec_Digest.f (k + 1) a0) := by
  intro a0 k
  unfold spec_Digest.f
  repeat' first
      | (with_reducible exact spec_l05End.mono _ _ _ _)
      | (with_reducible exact spec_l05More.mono _ _ _ _ _)
      | (with_reducible exact LeO.refl _)
      | (with_reducible exact LeO.none _)
      | (with_reducible refine LeO.ite ?_ ?_)
      | (with_reducible refine LeO.bind ?_ (fun _ => ?_))
      | exact spec_l05End.mono _ _ _ _
      | exact spec_l05More.mono _ _ _ _ _
      | exact LeO.none _
      | refine LeO.ite ?_ ?_
      | refine LeO.bind ?_ (fun _ => ?_)
set_option maxHeartbeats 8000000 in
set_option maxRecDepth 100000 in
theorem spec_Digest.calls (k : Nat) (a0 : ByteArray) (r : ByteArray) (w : World) (h : spec_Digest.f k a0 = some r) :
    Calls Tryd.prog 24 #[.string a0] w fun e w' => e = .returned (.string r) ∧ Below w.heap.size w w' := by
  have HB := AM (Below.refl w.heap.size w)
  have H : (if (a0.size : Int) > 20000 then (some (⟨#[]⟩ : ByteArray)) else ((spec_HashBegin.f).bind fun bt306 => ((spec_l05More.f k bt306.1 bt306.2.1 bt306.2.2 a0).bind fun bt311 => ((spec_l05End.f k bt311.1 bt311.2.1 bt311.2.2).bind fun t316 => (some t316))))) = some r := h
  clear h
  by_cases c2 : (a0.size : Int) > 20000
  · rw [if_pos c2] at H
    have c2b0 : decide (20000 < (a0.size : Int)) = true := decide_eq_true c2
    have c2b1 : decide (20000 < a0.size) = true := decide_eq_true (by omega)
    clear c2
    obtain rfl := Option.some.inj H
    go_enter Tryd.func24, Tryd.ntmps24
    go_wp2
    go_ret
    exact ⟨ri_, bel_⟩
  · rw [if_neg c2] at H
    have c2b0 : decide (20000 < (a0.size : Int)) = false := decide_eq_false c2
    have c2b1 : decide (20000 < a0.size) = false := decide_eq_false (by omega)
    clear c2
    obtain ⟨⟨t306, t309, t310⟩, A3, H⟩ := OB H
    try dsimp only at H
    replace A3 := AM A3
    obtain ⟨⟨t311, t314, t315⟩, A4, H⟩ := OB H
    try dsimp only at H
    replace A4 := AM A4
    obtain ⟨t316, A5, H⟩ := OB H
    try dsimp only at H
    replace A5 := AM A5
    obtain rfl := Option.some.inj H
    go_enter Tryd.func24, Tryd.ntmps24
    go_wp2_with (first | ((with_reducible refine gate_callee (f := 68) rfl ?_); refine gl_ (some 6) Tryd.func68 #[] ?_; (with_reducible refine (spec_HashBegin.calls  t306 t309 t310 _ A3.out).mono ?_); rintro e w6 ⟨v307, rfl, ho0, hb⟩; refine ⟨_, rfl, ?_⟩; have HO308 := AM (Kd.R_lower ho0 (below_size bel_)); replace HB := AM (below_step bel_ hb); (try clear hb); (try clear hb2); (try clear hk); (try clear hi); (try clear ho0); obtain ⟨Ao7, co7, eo7⟩ := Kd.R_slice HO308.out; subst eo7) | ((with_reducible refine gate_callee (f := 67) rfl ?_); refine gl_ (some 8) Tryd.func67 #[.agg #[.slice Ao7 t306.length co7, .string t309, .int .i64 t310], .string a0] ?_; (with_reducible refine (spec_l05More.calls k _ _ t306 t309 t310 a0 t311 t314 t315 _ ?side1 ?side2 A4.out).mono ?_); (case side1 => repeat (first | exact (Kd.R_reads' HO308.out).2.2 | (with_reducible refine Kd.C_alloc ?_ _) | (with_reducible refine Kd.C_drewN ?_ _) | (with_reducible refine Kd.C_drew ?_))); (case side2 => exact (Kd.R_reads' HO308.out).2.1); rintro e w8 ⟨v312, rfl, ho0, hb⟩; refine ⟨_, rfl, ?_⟩; have HO313 := AM (Kd.R_lower (Kd.R_new' ho0 (Kd.R_lt (ro_ HO308.out))) (below_size bel_)); replace HO308 := AM (Kd.R_elder' (ro_ HO308.out) (Kd.R_base ho0) hb); replace HB := AM (below_step bel_ hb); (try clear hb); (try clear hb2); (try clear hk); (try clear hi); (try clear ho0); obtain ⟨Ao9, co9, eo9⟩ := Kd.R_slice HO313.out; subst eo9) | ((with_reducible refine gate_callee (f := 66) rfl ?_); refine gl_ (some 9) Tryd.func66 #[.agg #[.slice Ao9 t311.length co9, .string t314, .int .i64 t315]] ?_; (with_reducible refine (spec_l05End.calls k _ _ t311 t314 t315 t316 _ ?side1 ?side2 A5.out).mono ?_); (case side1 => repeat (first | exact (Kd.R_reads' HO313.out).2.2 | (with_reducible refine Kd.C_alloc ?_ _) | (with_reducible refine Kd.C_drewN ?_ _) | (with_reducible refine Kd.C_drew ?_))); (case side2 => exact (Kd.R_reads' HO313.out).2.1); rintro e w10 ⟨rfl, hb⟩; refine ⟨_, rfl, ?_⟩; replace HO308 := AM (Kd.R_below (ro_ HO308.out) hb); replace HO313 := AM (Kd.R_below (ro_ HO313.out) hb); replace HB := AM (below_step bel_ hb); (try clear hb); (try clear hb2); (try clear hk); (try clear hi)))
    go_ret
    exact ⟨ri_, bel_⟩

end Go.Proofs.YtddapeieolfolaaDoor.PFnFrame
