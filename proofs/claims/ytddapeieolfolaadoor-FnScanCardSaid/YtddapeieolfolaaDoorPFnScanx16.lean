-- A program of this session wrote this text: a changed copy of the kit print, with given functions.
import Derived.Test.YtddapeieolfolaaDoorPFnScanx0
import Derived.Test.YtddapeieolfolaaDoorPFnScanx2
import Derived.Test.YtddapeieolfolaaDoorPFnScanx15
namespace Go.Proofs.YtddapeieolfolaaDoor.PFnScan
open Go.RowKit Go.Proofs.YtddapeieolfolaaDoorW.PrintWords Go.Proofs.YtddapeieolfolaaDoorW.PrintLast Go.Proofs.YtddapeieolfolaaDoorW.PrintMore Go.Proofs.YtddapeieolfolaaDoor.Aut
attribute [local go_sem] max2_int min2_int max_two min_two max_three min_three max_four min_four   -- for this text's walks alone
set_option linter.unusedVariables false
set_option linter.unusedSimpArgs false

/-! ### impl_PackGet: function 43 -/
def impl_PackGet.f (k : Nat) (a0 : ByteArray) (a1_0 : ByteArray) (a1_1 : Int) (a1_2 : Int) (a1_3 : Int) : Option (Int × ByteArray × Int) := (impl_isLong.f a0).bind fun t394 => (if t394 = true then (some (0, (⟨#[]⟩ : ByteArray), 2)) else ((impl_packGet.f k a0 a1_0 a1_1 a1_2 a1_3).bind fun bt395 => (some (bt395.1, bt395.2.1, bt395.2.2))))
theorem impl_PackGet.mono : ∀ a0 a1 a2 a3 a4 k, LeO (impl_PackGet.f k a0 a1 a2 a3 a4) (impl_PackGet.f (k + 1) a0 a1 a2 a3 a4) := by
  intro a0 a1 a2 a3 a4 k
  unfold impl_PackGet.f
  repeat' first
      | (with_reducible exact impl_packGet.mono _ _ _ _ _ _)
      | (with_reducible exact LeO.refl _)
      | (with_reducible exact LeO.none _)
      | (with_reducible refine LeO.ite ?_ ?_)
      | (with_reducible refine LeO.bind ?_ (fun _ => ?_))
      | exact impl_packGet.mono _ _ _ _ _ _
      | exact LeO.none _
      | refine LeO.ite ?_ ?_
      | refine LeO.bind ?_ (fun _ => ?_)
set_option maxHeartbeats 8000000 in
set_option maxRecDepth 100000 in
theorem impl_PackGet.calls (k : Nat) (a0 : ByteArray) (a1_0 : ByteArray) (a1_1 : Int) (a1_2 : Int) (a1_3 : Int) (r1 : Int) (r2 : ByteArray) (r3 : Int) (w : World) (h : impl_PackGet.f k a0 a1_0 a1_1 a1_2 a1_3 = some (r1, r2, r3)) (hL : Hand.LaidG w := by first | exact hL | exact Hand.LaidG.below hL bel_) :
    Calls Tryd.prog 43 #[.string a0, .agg #[.string a1_0, .int .i64 a1_1, .int .i64 a1_2, .int .i64 a1_3]] w fun e w' => e = .returned (.agg #[.int .i64 r1, .string r2, .int .i64 r3]) ∧ Below w.heap.size w w' := by
  have hu61 := Tryd.underlying61
  have hu66 := Tryd.underlying66
  have HB := AM (Below.refl w.heap.size w)
  have H : ((impl_isLong.f a0).bind fun t394 => (if t394 = true then (some (0, (⟨#[]⟩ : ByteArray), 2)) else ((impl_packGet.f k a0 a1_0 a1_1 a1_2 a1_3).bind fun bt395 => (some (bt395.1, bt395.2.1, bt395.2.2))))) = some (r1, r2, r3) := h
  clear h
  obtain ⟨t394, A3, H⟩ := OB H
  try dsimp only at H
  replace A3 := AM A3
  by_cases c4 : t394 = true
  · subst c4
    rw [if_pos rfl] at H
    simp only [Option.some.injEq, Prod.mk.injEq] at H
    obtain ⟨rfl, rfl, rfl⟩ := H
    go_enter Tryd.func43, Tryd.ntmps43
    go_wp2_with (first | ((with_reducible refine gate_dst (N := 3) rfl ?_); refine be_ 3 #[.string a1_0, .int .i64 a1_1, .int .i64 a1_2, .int .i64 a1_3] 61 ?_; intro gb392 hg w5 hbox hb; have BK392 := AM hbox; have GW392 := AM ((by rw [hg]; exact (below_size bel_) : w.heap.size ≤ gb392)); have GE392 := AM ((by rw [hg]; exact (below_size bel_) : w.heap.size ≤ gb392)); replace HB := AM (below_step bel_ hb); clear hb hbox hg) | ((with_reducible refine gate_dst (N := 4) rfl ?_); refine be_ 4 #[.int .i64 0, .string (⟨#[]⟩ : ByteArray), .int .i64 0] 66 ?_; intro gb393 hg w6 hbox hb; have BK393 := AM hbox; have GW393 := AM ((by rw [hg]; exact (below_size bel_) : w.heap.size ≤ gb393)); have GE393 := AM ((by rw [hg]; exact (below_size bel_) : w.heap.size ≤ gb393)); replace HB := AM (below_step bel_ hb); have NB392_393 := AM ((by rw [hg]; exact Nat.ne_of_lt (blk_lt (g := gb392) (o := .cells #[.string a1_0, .int .i64 a1_1, .int .i64 a1_2, .int .i64 a1_3] 61 (0, 0)) (bk_ BK392.out)) : gb392 ≠ gb393)); have NB393_392 := AM ((by rw [hg]; exact Nat.ne_of_gt (blk_lt (g := gb392) (o := .cells #[.string a1_0, .int .i64 a1_1, .int .i64 a1_2, .int .i64 a1_3] 61 (0, 0)) (bk_ BK392.out)) : gb393 ≠ gb392)); replace BK392 := AM (blk_below (g := gb392) (o := .cells #[.string a1_0, .int .i64 a1_1, .int .i64 a1_2, .int .i64 a1_3] 61 (0, 0)) (bk_ BK392.out) hb); clear hb hbox hg) | ((with_reducible refine gate_callee (f := 48) rfl ?_); refine gl_ (some 6) Tryd.func48 #[.string a0] ?_; (with_reducible refine (impl_isLong.calls a0 true _ A3.out).mono ?_); rintro e w' ⟨rfl, ⟨nd, rfl⟩⟩; refine ⟨_, rfl, ?_⟩; (try (rw [drewN_self w6]; generalize hq_ : World.drewN w6 _ = w6; replace BK392 : Aside0 (w6.heap[gb392]? = some (.cells #[.string a1_0, .int .i64 a1_1, .int .i64 a1_2, .int .i64 a1_3] 61 (0, 0))) := ⟨by rw [← hq_]; exact (bk_ BK392.out)⟩; replace BK393 : Aside0 (w6.heap[gb393]? = some (.cells #[.int .i64 0, .string (⟨#[]⟩ : ByteArray), .int .i64 0] 66 (0, 0))) := ⟨by rw [← hq_]; exact (bk_ BK393.out)⟩; replace HB : Aside0 (Below w.heap.size w w6) := ⟨by rw [← hq_]; exact bel_⟩; clear hq_)); have hnb7 := NB393_392.out; have hnc7 := NB392_393.out; have hcz8_0 : w6.cell? ⟨gb393, 0, none⟩ = some (.int .i64 0) := (blk_cell BK393.out 0).trans rfl; have hcz8_1 : w6.cell? ⟨gb393, 1, none⟩ = some (.string (⟨#[]⟩ : ByteArray)) := (blk_cell BK393.out 1).trans rfl; have hcz8_2 : w6.cell? ⟨gb393, 2, none⟩ = some (.int .i64 0) := (blk_cell BK393.out 2).trans rfl; have hfz8_0 := blk_frozen BK393.out 0; have hfz8_1 := blk_frozen BK393.out 1; have hfz8_2 := blk_frozen BK393.out 2))
    refine bodyPost_ret (results_cell_row rfl _ _ gb393 66 #[.int .i64 0, .string (⟨#[]⟩ : ByteArray), .int .i64 2] (0, 0) _ rfl bka_ Tryd.underlying66 rfl (by kernel_rfl)) rfl ?_
    exact ⟨ri_, bel_⟩
  · replace c4 := Bool.eq_false_iff.mpr c4
    subst c4
    rw [if_neg (show ¬ (false = true) by decide)] at H
    obtain ⟨⟨t395, t396, t397⟩, A9, H⟩ := OB H
    try dsimp only at H
    replace A9 := AM A9
    simp only [Option.some.injEq, Prod.mk.injEq] at H
    obtain ⟨rfl, rfl, rfl⟩ := H
    go_enter Tryd.func43, Tryd.ntmps43
    go_wp2_with (first | ((with_reducible refine gate_dst (N := 3) rfl ?_); refine be_ 3 #[.string a1_0, .int .i64 a1_1, .int .i64 a1_2, .int .i64 a1_3] 61 ?_; intro gb392 hg w10 hbox hb; have BK392 := AM hbox; have GW392 := AM ((by rw [hg]; exact (below_size bel_) : w.heap.size ≤ gb392)); have GE392 := AM ((by rw [hg]; exact (below_size bel_) : w.heap.size ≤ gb392)); replace HB := AM (below_step bel_ hb); clear hb hbox hg) | ((with_reducible refine gate_dst (N := 4) rfl ?_); refine be_ 4 #[.int .i64 0, .string (⟨#[]⟩ : ByteArray), .int .i64 0] 66 ?_; intro gb393 hg w11 hbox hb; have BK393 := AM hbox; have GW393 := AM ((by rw [hg]; exact (below_size bel_) : w.heap.size ≤ gb393)); have GE393 := AM ((by rw [hg]; exact (below_size bel_) : w.heap.size ≤ gb393)); replace HB := AM (below_step bel_ hb); have NB392_393 := AM ((by rw [hg]; exact Nat.ne_of_lt (blk_lt (g := gb392) (o := .cells #[.string a1_0, .int .i64 a1_1, .int .i64 a1_2, .int .i64 a1_3] 61 (0, 0)) (bk_ BK392.out)) : gb392 ≠ gb393)); have NB393_392 := AM ((by rw [hg]; exact Nat.ne_of_gt (blk_lt (g := gb392) (o := .cells #[.string a1_0, .int .i64 a1_1, .int .i64 a1_2, .int .i64 a1_3] 61 (0, 0)) (bk_ BK392.out)) : gb393 ≠ gb392)); replace BK392 := AM (blk_below (g := gb392) (o := .cells #[.string a1_0, .int .i64 a1_1, .int .i64 a1_2, .int .i64 a1_3] 61 (0, 0)) (bk_ BK392.out) hb); clear hb hbox hg) | ((with_reducible refine gate_callee (f := 48) rfl ?_); refine gl_ (some 6) Tryd.func48 #[.string a0] ?_; (with_reducible refine (impl_isLong.calls a0 false _ A3.out).mono ?_); rintro e w' ⟨rfl, ⟨nd, rfl⟩⟩; refine ⟨_, rfl, ?_⟩; (try (rw [drewN_self w11]; generalize hq_ : World.drewN w11 _ = w11; replace BK392 : Aside0 (w11.heap[gb392]? = some (.cells #[.string a1_0, .int .i64 a1_1, .int .i64 a1_2, .int .i64 a1_3] 61 (0, 0))) := ⟨by rw [← hq_]; exact (bk_ BK392.out)⟩; replace BK393 : Aside0 (w11.heap[gb393]? = some (.cells #[.int .i64 0, .string (⟨#[]⟩ : ByteArray), .int .i64 0] 66 (0, 0))) := ⟨by rw [← hq_]; exact (bk_ BK393.out)⟩; replace HB : Aside0 (Below w.heap.size w w11) := ⟨by rw [← hq_]; exact bel_⟩; clear hq_)); have hnb12 := NB392_393.out; have hnc12 := NB393_392.out; have hcz13_0 : w11.cell? ⟨gb392, 0, none⟩ = some (.string a1_0) := (blk_cell BK392.out 0).trans rfl; have hcz13_1 : w11.cell? ⟨gb392, 1, none⟩ = some (.int .i64 a1_1) := (blk_cell BK392.out 1).trans rfl; have hcz13_2 : w11.cell? ⟨gb392, 2, none⟩ = some (.int .i64 a1_2) := (blk_cell BK392.out 2).trans rfl; have hcz13_3 : w11.cell? ⟨gb392, 3, none⟩ = some (.int .i64 a1_3) := (blk_cell BK392.out 3).trans rfl; have hfz13_0 := blk_frozen BK392.out 0; have hfz13_1 := blk_frozen BK392.out 1; have hfz13_2 := blk_frozen BK392.out 2; have hfz13_3 := blk_frozen BK392.out 3) | ((with_reducible refine gate_callee (f := 91) rfl ?_); refine gl_ (some 10) Tryd.func91 #[.string a0, .agg #[.string a1_0, .int .i64 a1_1, .int .i64 a1_2, .int .i64 a1_3]] ?_; (with_reducible refine (impl_packGet.calls k a0 a1_0 a1_1 a1_2 a1_3 t395 t396 t397 _ A9.out).mono ?_); rintro e w14 ⟨rfl, hb⟩; refine ⟨_, rfl, ?_⟩; replace BK392 := AM (blk_below (g := gb392) (o := .cells #[.string a1_0, .int .i64 a1_1, .int .i64 a1_2, .int .i64 a1_3] 61 (0, 0)) (bk_ BK392.out) hb); replace BK393 := AM (blk_below (g := gb393) (o := .cells #[.int .i64 0, .string (⟨#[]⟩ : ByteArray), .int .i64 0] 66 (0, 0)) (bk_ BK393.out) hb); replace HB := AM (below_step bel_ hb); (try clear hb); (try clear hb2); (try clear hk); (try clear hi); have hcz15_0 : w14.cell? ⟨gb393, 0, none⟩ = some (.int .i64 0) := (blk_cell BK393.out 0).trans rfl; have hcz15_1 : w14.cell? ⟨gb393, 1, none⟩ = some (.string (⟨#[]⟩ : ByteArray)) := (blk_cell BK393.out 1).trans rfl; have hcz15_2 : w14.cell? ⟨gb393, 2, none⟩ = some (.int .i64 0) := (blk_cell BK393.out 2).trans rfl; have hfz15_0 := blk_frozen BK393.out 0; have hfz15_1 := blk_frozen BK393.out 1; have hfz15_2 := blk_frozen BK393.out 2))
    refine bodyPost_ret (results_cell_row rfl _ _ gb393 66 #[.int .i64 t395, .string t396, .int .i64 t397] (0, 0) _ rfl bka_ Tryd.underlying66 rfl (by kernel_rfl)) rfl ?_
    exact ⟨ri_, bel_⟩

end Go.Proofs.YtddapeieolfolaaDoor.PFnScan
