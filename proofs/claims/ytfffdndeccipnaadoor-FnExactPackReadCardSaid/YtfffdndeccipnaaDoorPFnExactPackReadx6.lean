/- Functions of the law FnExactPackRead: the print's, with walks of this session's own. No statement is proved here. -/
import Derived.Test.YtfffdndeccipnaaDoorHEFnExactPackRead
import Derived.WalkLawsBesides
import Derived.Test.YtfffdndeccipnaaDoorVRegFnExactPackRead
-- A program of this session wrote this text: a changed copy of the kit print, with given functions.
import Derived.Test.YtfffdndeccipnaaDoorPFnExactPackReadx0
import Derived.Test.YtfffdndeccipnaaDoorPFnExactPackReadx4
import Derived.Test.YtfffdndeccipnaaDoorPFnExactPackReadx5
namespace Go.Proofs.YtfffdndeccipnaaDoor.PFnExactPackRead
open Go.RowKit Go.Proofs.YtfffdndeccipnaaDoorW.PrintWords Go.Proofs.YtfffdndeccipnaaDoorW.PrintLast Go.Proofs.YtfffdndeccipnaaDoorW.PrintMore Go.Proofs.YtfffdndeccipnaaDoor.Reg Go.Proofs.YtfffdndeccipnaaDoor.Aut
attribute [local go_sem] max2_int min2_int max_two min_two max_three min_three max_four min_four   -- for this text's walks alone
set_option linter.unusedVariables false
set_option linter.unusedSimpArgs false

/-! ### spec_PackRead: function 8 -/
def spec_PackRead.l0 : Nat → ByteArray → List (S60) → Int → Option ((List (S60)) × Int × Int)
  | 0, _, _, _ => none
  | k + 1, x0, x3, x4 => if x4 < (x0.size : Int) then ((spec_l07At.f k x0 x4).bind fun bt221 => (if bt221.2.2.2.2.2.2.2 = true then (if x3.length < 5864062014805 then (spec_PackRead.l0 k x0 (x3 ++ [(⟨bt221.2.2.2.2.1, bt221.2.2.2.2.2.1⟩ : S60)]) bt221.2.2.2.2.2.2.1) else (none)) else (some (([] : List (S60)), x4, 3)))) else ((spec_PackRight.f k x3).bind fun t234 => (if t234 = true then (some (x3, 0, 0)) else (some (([] : List (S60)), 0, 1))))
def spec_PackRead.f (k : Nat) (a0 : ByteArray) : Option ((List (S60)) × Int × Int) := if (a0.size : Int) > 20000 then (some (([] : List (S60)), 0, 2)) else (spec_PackRead.l0 k a0 (([] : List (S60))) 0)
theorem spec_PackRead.mono_l : ∀ k, (∀ y0 y1 y2, LeO (spec_PackRead.l0 k y0 y1 y2) (spec_PackRead.l0 (k + 1) y0 y1 y2))
  | 0 => fun _ _ _ r h => by simp [spec_PackRead.l0] at h
  | k + 1 => by
    have ih0 := spec_PackRead.mono_l k
    · intro y0 y1 y2
      unfold spec_PackRead.l0
      repeat' first
      | (with_reducible exact ih0 _ _ _)
      | (with_reducible exact spec_PackRight.mono _ _)
      | (with_reducible exact spec_l07At.mono _ _ _)
      | (with_reducible exact LeO.refl _)
      | (with_reducible exact LeO.none _)
      | (with_reducible refine LeO.ite ?_ ?_)
      | (with_reducible refine LeO.bind ?_ (fun _ => ?_))
      | exact ih0 _ _ _
      | exact spec_PackRight.mono _ _
      | exact spec_l07At.mono _ _ _
      | exact LeO.none _
      | refine LeO.ite ?_ ?_
      | refine LeO.bind ?_ (fun _ => ?_)
theorem spec_PackRead.mono : ∀ a0 k, LeO (spec_PackRead.f k a0) (spec_PackRead.f (k + 1) a0) := by
  intro a0 k
  have ih0 := spec_PackRead.mono_l k
  unfold spec_PackRead.f
  repeat' first
      | (with_reducible exact ih0 _ _ _)
      | (with_reducible exact spec_PackRight.mono _ _)
      | (with_reducible exact spec_l07At.mono _ _ _)
      | (with_reducible exact LeO.refl _)
      | (with_reducible exact LeO.none _)
      | (with_reducible refine LeO.ite ?_ ?_)
      | (with_reducible refine LeO.bind ?_ (fun _ => ?_))
      | exact ih0 _ _ _
      | exact spec_PackRight.mono _ _
      | exact spec_l07At.mono _ _ _
      | exact LeO.none _
      | refine LeO.ite ?_ ?_
      | refine LeO.bind ?_ (fun _ => ?_)
set_option maxHeartbeats 8000000 in
set_option maxRecDepth 100000 in
theorem spec_PackRead.calls (k : Nat) (a0 : ByteArray) (r1 : List (S60)) (r2 : Int) (r3 : Int) (w : World) (h : spec_PackRead.f k a0 = some (r1, r2, r3)) :
    Calls Tryd.prog 8 #[.string a0] w fun e w' => ∃ v0_ : Value, e = .returned (.agg #[v0_, .int .i64 r2, .int .i64 r3]) ∧ Kd.R k60 60 w' w.heap.size (fun _ => True) v0_ r1 ∧ Below w.heap.size w w' := by
  have hu24 := Tryd.underlying24
  have hu58 := Tryd.underlying58
  have hu60 := Tryd.underlying60
  have HB := AM (Below.refl w.heap.size w)
  have H : (if (a0.size : Int) > 20000 then (some (([] : List (S60)), 0, 2)) else (spec_PackRead.l0 k a0 (([] : List (S60))) 0)) = some (r1, r2, r3) := h
  clear h
  by_cases c2 : (a0.size : Int) > 20000
  · rw [if_pos c2] at H
    have c2b0 : decide (20000 < (a0.size : Int)) = true := decide_eq_true c2
    have c2b1 : decide (20000 < a0.size) = true := decide_eq_true (by omega)
    clear c2
    simp only [Option.some.injEq, Prod.mk.injEq] at H
    obtain ⟨rfl, rfl, rfl⟩ := H
    go_enter Tryd.func8, Tryd.ntmps8
    go_wp2_with (first | ((with_reducible refine gate_dst (N := 2) rfl ?_); refine be_ 2 #[.slice none 0 0, .int .i64 0, .int .i64 0] 24 ?_; intro gb217 hg w3 hbox hb; have BK217 := AM hbox; have GW217 := AM ((by rw [hg]; exact (below_size bel_) : w.heap.size ≤ gb217)); have GE217 := AM ((by rw [hg]; exact (below_size bel_) : w.heap.size ≤ gb217)); replace HB := AM (below_step bel_ hb); clear hb hbox hg; have hcz4_0 : w3.cell? ⟨gb217, 0, none⟩ = some (.slice none 0 0) := (blk_cell BK217.out 0).trans rfl; have hcz4_1 : w3.cell? ⟨gb217, 1, none⟩ = some (.int .i64 0) := (blk_cell BK217.out 1).trans rfl; have hcz4_2 : w3.cell? ⟨gb217, 2, none⟩ = some (.int .i64 0) := (blk_cell BK217.out 2).trans rfl; have hfz4_0 := blk_frozen BK217.out 0; have hfz4_1 := blk_frozen BK217.out 1; have hfz4_2 := blk_frozen BK217.out 2))
    refine bodyPost_ret (results_cell_row rfl _ _ gb217 24 #[.slice none 0 0, .int .i64 0, .int .i64 2] (0, 0) _ rfl bka_ Tryd.underlying24 rfl (by kernel_rfl)) rfl ?_
    exact ⟨_, ri_, by first | exact Kd.R_nil _ _ _ _ _ | exact Kd.N_nil _ _ _ _ _ | exact Kd.V_nil _ _ _ _ _ | exact Kd.Q_nil _ _ _ _ _ | exact Kd.S_nil _ _ _ _ _, bel_⟩
  · rw [if_neg c2] at H
    have c2b0 : decide (20000 < (a0.size : Int)) = false := decide_eq_false c2
    have c2b1 : decide (20000 < a0.size) = false := decide_eq_false (by omega)
    clear c2
    obtain ⟨y218, hy218⟩ : ∃ y_ : List (S60), y_ = (([] : List (S60))) := ⟨_, rfl⟩
    replace H : (spec_PackRead.l0 k a0 y218 0) = some (r1, r2, r3) := by first | (rw [hy218]; with_reducible exact H) | (have H2_ := (Option.bind_some _ _).symm.trans H; rw [hy218]; with_reducible exact H2_) | (have H2_ := (Option.bind_some _ _).symm.trans H; with_reducible exact H2_) | with_reducible exact H | (rw [hy218]; exact H) | exact H
    have Ny218 := AM hy218
    clear hy218
    have H' := AM H
    clear H
    go_enter Tryd.func8, Tryd.ntmps8
    go_wp2_with (first | ((with_reducible refine gate_dst (N := 2) rfl ?_); refine be_ 2 #[.slice none 0 0, .int .i64 0, .int .i64 0] 24 ?_; intro gb217 hg w5 hbox hb; have BK217 := AM hbox; have GW217 := AM ((by rw [hg]; exact (below_size bel_) : w.heap.size ≤ gb217)); have GE217 := AM ((by rw [hg]; exact (below_size bel_) : w.heap.size ≤ gb217)); replace HB := AM (below_step bel_ hb); clear hb hbox hg) | ((with_reducible refine gate_dst (N := 13) rfl ?_); refine Kd.R_lit k60 _ 60 ?hg (N := 13) ?hd (xs := ([] : List (S60))) (inner := []) (ok := fun _ => True) (okp := fun _ => True) ?hr ?hp (fun _ hk => hk) trivial (Below.refl _ _) (Nat.le_refl _) (by simp) ?_; (case hd => rfl); (case hg => rfl); (case hr => first | (go_simp; done) | (go_simp; rfl)); (case hp => exact (Reps.none _ _)); intro v219 w6 ho7 hb hg_ hnew_; clear hg_ hnew_; (first | rw [← Ny218.out] at ho7 | (simp only [Int.reduceToNat] at ho7; rw [← Ny218.out] at ho7)); have HO220 := AM (Kd.R_lower ho7 (below_size bel_)); replace BK217 := AM (blk_below (g := gb217) (o := .cells #[.slice none 0 0, .int .i64 0, .int .i64 0] 24 (0, 0)) (bk_ BK217.out) hb); replace HB := AM (below_step bel_ hb); clear hb ho7))
    go_loopg [3, 4] k (fun kq v3 v4 w' => ∃ (x3_1 : List (S60)) (x4_1 : Int) (x218001_1 : Int) (x218002_1 : Int), v4 = .int .i64 x4_1 ∧ Aside0 (spec_PackRead.l0 kq a0 x3_1 x4_1 = some (r1, r2, r3)) ∧ Aside0 (kq ≤ k) ∧ Aside0 (Kd.R k60 60 w' w.heap.size (fun _ => True) v3 x3_1) ∧ Aside0 (w'.heap[gb217]? = some (.cells #[(.slice none 0 0), .int .i64 x218001_1, .int .i64 x218002_1] 24 (0, 0))) ∧ Aside0 (Below w.heap.size w w'))
    case atStart => exact ⟨(y218), (0), (0), (0), (by first | rfl | (simp; done) | (simp [*]; done)), H', ⟨Nat.le_refl _⟩, ⟨ro_ HO220.out⟩, ⟨bk_ BK217.out⟩, ⟨bel_⟩⟩
    case round =>
      clear H'
      try clear c2
      try clear c2b0
      try clear c2b1
      try clear p2
      try clear hcz4_0
      try clear hcz4_1
      try clear hcz4_2
      try clear hfz4_0
      try clear hfz4_1
      try clear hfz4_2
      obtain ⟨x3_1, x4_1, x218001_1, x218002_1, rfl, HA, HK1, HO_3, BK217, HB⟩ := hrel
      cases gk with
      | zero => exact absurd HA.out (by simp [spec_PackRead.l0])
      | succ k1 =>
        have H := HA.out
        clear HA
        simp only [spec_PackRead.l0] at H
        by_cases c8 : x4_1 < (a0.size : Int)
        · rw [if_pos c8] at H
          have c8b0 : decide (x4_1 < (a0.size : Int)) = true := decide_eq_true c8
          clear c8
          obtain ⟨⟨t221, t222, t223, t224, t225, t226, t227, t228⟩, A9, H⟩ := OB H
          try dsimp only at H
          replace A9 := AM A9
          by_cases c10 : t228 = true
          · subst c10
            rw [if_pos rfl] at H
            by_cases c11 : x3_1.length < 5864062014805
            · rw [if_pos c11] at H
              have LMc11 := AM c11
              clear c11
              obtain ⟨y231, hy231⟩ : ∃ y_ : List (S60), y_ = (x3_1 ++ [(⟨t225, t226⟩ : S60)]) := ⟨_, rfl⟩
              replace H : (spec_PackRead.l0 k1 a0 y231 t227) = some (r1, r2, r3) := by first | (rw [hy231]; with_reducible exact H) | (have H2_ := (Option.bind_some _ _).symm.trans H; rw [hy231]; with_reducible exact H2_) | (have H2_ := (Option.bind_some _ _).symm.trans H; with_reducible exact H2_) | with_reducible exact H | (rw [hy231]; exact H) | exact H
              have Ny231 := AM hy231
              clear hy231
              have H' := AM H
              clear H
              go_wp2_with (first | ((with_reducible refine gate_callee (f := 39) rfl ?_); refine gl_ (some 21) Tryd.func39 #[.string a0, .int .i64 x4_1] ?_; (with_reducible refine (spec_l07At.calls k1 a0 x4_1 t221 t222 t223 t224 t225 t226 t227 true _ A9.out).mono ?_); rintro e w12 ⟨rfl, hb⟩; refine ⟨_, rfl, ?_⟩; replace HO_3 := AM (Kd.R_below (ro_ HO_3.out) hb); replace BK217 := AM (blk_below (g := gb217) (o := .cells #[.slice none 0 0, .int .i64 x218001_1, .int .i64 x218002_1] 24 (0, 0)) (bk_ BK217.out) hb); replace HB := AM (below_step bel_ hb); (try clear hb); (try clear hb2); (try clear hk); (try clear hi)) | ((with_reducible refine gate_dst (N := 5) rfl ?_); refine be_ 5 #[.string (⟨#[]⟩ : ByteArray), .int .i64 0, .int .i64 0, .int .i64 0] 58 ?_; intro gb229 hg w13 hbox hb; replace HO_3 := AM (Kd.R_below (ro_ HO_3.out) hb); have BK229 := AM hbox; have GW229 := AM ((by rw [hg]; exact (below_size bel_) : w.heap.size ≤ gb229)); have GE229 := AM ((by rw [hg]; exact (below_size bel_) : w.heap.size ≤ gb229)); replace HB := AM (below_step bel_ hb); have NB217_229 := AM ((by rw [hg]; exact Nat.ne_of_lt (blk_lt (g := gb217) (o := .cells #[.slice none 0 0, .int .i64 x218001_1, .int .i64 x218002_1] 24 (0, 0)) (bk_ BK217.out)) : gb217 ≠ gb229)); have NB229_217 := AM ((by rw [hg]; exact Nat.ne_of_gt (blk_lt (g := gb217) (o := .cells #[.slice none 0 0, .int .i64 x218001_1, .int .i64 x218002_1] 24 (0, 0)) (bk_ BK217.out)) : gb229 ≠ gb217)); replace BK217 := AM (blk_below (g := gb217) (o := .cells #[.slice none 0 0, .int .i64 x218001_1, .int .i64 x218002_1] 24 (0, 0)) (bk_ BK217.out) hb); clear hb hbox hg) | ((with_reducible refine gate_dst (N := 6) rfl ?_); refine be_ 6 #[.int .i64 0, .string (⟨#[]⟩ : ByteArray)] 60 ?_; intro gb230 hg w14 hbox hb; replace HO_3 := AM (Kd.R_below (Kd.R_elderB (ro_ HO_3.out) gb230 (Nat.le_of_eq hg.symm)) hb); have BK230 := AM hbox; have GW230 := AM ((by rw [hg]; exact (below_size bel_) : w.heap.size ≤ gb230)); have GE230 := AM ((by rw [hg]; exact (below_size bel_) : w.heap.size ≤ gb230)); replace HB := AM (below_step bel_ hb); have NB217_230 := AM ((by rw [hg]; exact Nat.ne_of_lt (blk_lt (g := gb217) (o := .cells #[.slice none 0 0, .int .i64 x218001_1, .int .i64 x218002_1] 24 (0, 0)) (bk_ BK217.out)) : gb217 ≠ gb230)); have NB230_217 := AM ((by rw [hg]; exact Nat.ne_of_gt (blk_lt (g := gb217) (o := .cells #[.slice none 0 0, .int .i64 x218001_1, .int .i64 x218002_1] 24 (0, 0)) (bk_ BK217.out)) : gb230 ≠ gb217)); replace BK217 := AM (blk_below (g := gb217) (o := .cells #[.slice none 0 0, .int .i64 x218001_1, .int .i64 x218002_1] 24 (0, 0)) (bk_ BK217.out) hb); have NB229_230 := AM ((by rw [hg]; exact Nat.ne_of_lt (blk_lt (g := gb229) (o := .cells #[.string (⟨#[]⟩ : ByteArray), .int .i64 0, .int .i64 0, .int .i64 0] 58 (0, 0)) (bk_ BK229.out)) : gb229 ≠ gb230)); have NB230_229 := AM ((by rw [hg]; exact Nat.ne_of_gt (blk_lt (g := gb229) (o := .cells #[.string (⟨#[]⟩ : ByteArray), .int .i64 0, .int .i64 0, .int .i64 0] 58 (0, 0)) (bk_ BK229.out)) : gb230 ≠ gb229)); replace BK229 := AM (blk_below (g := gb229) (o := .cells #[.string (⟨#[]⟩ : ByteArray), .int .i64 0, .int .i64 0, .int .i64 0] 58 (0, 0)) (bk_ BK229.out) hb); clear hb hbox hg; have hnb15 := NB229_217.out; have hnc15 := NB217_229.out; have hnb16 := NB229_230.out; have hnc16 := NB230_229.out; have hcz17_0 : w14.cell? ⟨gb229, 0, none⟩ = some (.string (⟨#[]⟩ : ByteArray)) := (blk_cell BK229.out 0).trans rfl; have hcz17_1 : w14.cell? ⟨gb229, 1, none⟩ = some (.int .i64 0) := (blk_cell BK229.out 1).trans rfl; have hcz17_2 : w14.cell? ⟨gb229, 2, none⟩ = some (.int .i64 0) := (blk_cell BK229.out 2).trans rfl; have hcz17_3 : w14.cell? ⟨gb229, 3, none⟩ = some (.int .i64 0) := (blk_cell BK229.out 3).trans rfl; have hfz17_0 := blk_frozen BK229.out 0; have hfz17_1 := blk_frozen BK229.out 1; have hfz17_2 := blk_frozen BK229.out 2; have hfz17_3 := blk_frozen BK229.out 3; have hnb18 := NB230_217.out; have hnc18 := NB217_230.out; have hcz19_0 : w14.cell? ⟨gb230, 0, none⟩ = some (.int .i64 0) := (blk_cell BK230.out 0).trans rfl; have hcz19_1 : w14.cell? ⟨gb230, 1, none⟩ = some (.string (⟨#[]⟩ : ByteArray)) := (blk_cell BK230.out 1).trans rfl; have hfz19_0 := blk_frozen BK230.out 0; have hfz19_1 := blk_frozen BK230.out 1) | ((with_reducible refine gate_builtin (b := .append) (xs := #[.tmp 30, .tmp 32]) rfl ?_); at_builtin; refine Kd.R_append k60 (w0 := w) w.heap.size rfl (.tmp 30) (.tmp 32) 22 60 (.agg #[(.int .i64 0), (.string ⟨#[]⟩)]) 24 rfl Tryd.underlying22 info60 rfl (by decide) (by omega) u3 x3_1 (⟨t225, t226⟩ : S60) [.int .i64 t225, .string t226] (fun k_ => k_ ≠ gb230) (fun _ => False) rfl (by first | (go_simp; done) | (go_simp; rfl)) ?aP (fun _ hk => hk.elim) ?aF ?aO ?aB ?aS ?aL ?_; (case aP => exact k60_mkM _ _ _ (⟨t225, t226⟩ : S60)); (case aB => exact bel_); (case aF => exact (fun k_ hk => Kd.freshB (g := gb230) (o := .cells #[.int .i64 t225, .string t226] 60 (0, 0)) bka_ k_ hk)); (case aO => exact (by (with_reducible repeat (first | apply Kd.R_alloc | apply Kd.R_drewN | apply Kd.R_drew)); exact Kd.R_mono (Kd.R_far (p := ⟨gb230, 1, none⟩) (Kd.R_far (p := ⟨gb230, 0, none⟩) (Kd.R_far (p := ⟨gb229, 3, none⟩) (Kd.R_far (p := ⟨gb229, 2, none⟩) (Kd.R_far (p := ⟨gb229, 1, none⟩) (Kd.R_far (p := ⟨gb229, 0, none⟩) (Kd.R_mono (Kd.R_types HO_3.out BK229.out (by decide)) (fun k_ hk => (⟨hk, hk.1.2⟩ : _ ∧ k_ ≠ gb230))) (fun _ hk => hk.1.2) (.string t221)) (fun _ hk => hk.1.2) (.int .i64 t222)) (fun _ hk => hk.1.2) (.int .i64 t223)) (fun _ hk => hk.1.2) (.int .i64 t224)) (fun _ hk => hk.2) (.int .i64 t225)) (fun _ hk => hk.2) (.string t226)) (fun _ hk => hk.1.1.2))); (case aS => exact (below_size bel_)); (case aL => have := LMc11.out; omega); intro v232 w20 ho hb hg hat; rw [← Ny231.out] at ho; have n0_ := AM (blk_grown (g := gb217) (o := .cells #[.slice none 0 0, .int .i64 x218001_1, .int .i64 x218002_1] 24 (0, 0)) bka_ hg (Kd.R_ne HO_3.out BK217.out (by decide))); have n1_ := AM (blk_grown (g := gb229) (o := .cells #[.string t221, .int .i64 t222, .int .i64 t223, .int .i64 t224] 58 (0, 0)) bka_ hg (Kd.R_ne HO_3.out BK229.out (by decide))); have n2_ := AM (blk_grown (g := gb230) (o := .cells #[.int .i64 t225, .string t226] 60 (0, 0)) bka_ hg (Kd.R_away HO_3.out (fun _ hk => hk.2))); have n3_ := AM hb; have n4_ := AM ho; clear BK217; clear BK229; clear BK230; clear HB; clear HO_3; have BK217 := n0_; have BK229 := n1_; have BK230 := n2_; have HB := n3_; have HO233 := n4_; clear n0_ n1_ n2_ n3_ n4_; clear ho hb hg hat))
              go_roundg k1
              case measure => have := HK1.out; omega
              case rel => exact ⟨(y231), (t227), (x218001_1), (x218002_1), (by first | rfl | (simp; done) | (simp [*]; done)), H', ⟨by have := HK1.out; omega⟩, ⟨by (with_reducible repeat (first | apply Kd.R_alloc | apply Kd.R_drewN | apply Kd.R_drew)); exact Kd.R_mono HO233.out (fun _ hk => trivial)⟩, ⟨bk_ BK217.out⟩, ⟨bel_⟩⟩
            · rw [if_neg c11] at H
              exact absurd H (by simp)
          · replace c10 := Bool.eq_false_iff.mpr c10
            subst c10
            rw [if_neg (show ¬ (false = true) by decide)] at H
            simp only [Option.some.injEq, Prod.mk.injEq] at H
            obtain ⟨rfl, rfl, rfl⟩ := H
            go_wp2_with (first | ((with_reducible refine gate_callee (f := 39) rfl ?_); refine gl_ (some 21) Tryd.func39 #[.string a0, .int .i64 x4_1] ?_; (with_reducible refine (spec_l07At.calls k1 a0 x4_1 t221 t222 t223 t224 t225 t226 t227 false _ A9.out).mono ?_); rintro e w21 ⟨rfl, hb⟩; refine ⟨_, rfl, ?_⟩; replace HO_3 := AM (Kd.R_below (ro_ HO_3.out) hb); replace BK217 := AM (blk_below (g := gb217) (o := .cells #[.slice none 0 0, .int .i64 x218001_1, .int .i64 x218002_1] 24 (0, 0)) (bk_ BK217.out) hb); replace HB := AM (below_step bel_ hb); (try clear hb); (try clear hb2); (try clear hk); (try clear hi)) | ((with_reducible refine gate_dst (N := 5) rfl ?_); refine be_ 5 #[.string (⟨#[]⟩ : ByteArray), .int .i64 0, .int .i64 0, .int .i64 0] 58 ?_; intro gb229 hg w22 hbox hb; replace HO_3 := AM (Kd.R_below (ro_ HO_3.out) hb); have BK229 := AM hbox; have GW229 := AM ((by rw [hg]; exact (below_size bel_) : w.heap.size ≤ gb229)); have GE229 := AM ((by rw [hg]; exact (below_size bel_) : w.heap.size ≤ gb229)); replace HB := AM (below_step bel_ hb); have NB217_229 := AM ((by rw [hg]; exact Nat.ne_of_lt (blk_lt (g := gb217) (o := .cells #[.slice none 0 0, .int .i64 x218001_1, .int .i64 x218002_1] 24 (0, 0)) (bk_ BK217.out)) : gb217 ≠ gb229)); have NB229_217 := AM ((by rw [hg]; exact Nat.ne_of_gt (blk_lt (g := gb217) (o := .cells #[.slice none 0 0, .int .i64 x218001_1, .int .i64 x218002_1] 24 (0, 0)) (bk_ BK217.out)) : gb229 ≠ gb217)); replace BK217 := AM (blk_below (g := gb217) (o := .cells #[.slice none 0 0, .int .i64 x218001_1, .int .i64 x218002_1] 24 (0, 0)) (bk_ BK217.out) hb); clear hb hbox hg) | ((with_reducible refine gate_dst (N := 6) rfl ?_); refine be_ 6 #[.int .i64 0, .string (⟨#[]⟩ : ByteArray)] 60 ?_; intro gb230 hg w23 hbox hb; replace HO_3 := AM (Kd.R_below (Kd.R_elderB (ro_ HO_3.out) gb230 (Nat.le_of_eq hg.symm)) hb); have BK230 := AM hbox; have GW230 := AM ((by rw [hg]; exact (below_size bel_) : w.heap.size ≤ gb230)); have GE230 := AM ((by rw [hg]; exact (below_size bel_) : w.heap.size ≤ gb230)); replace HB := AM (below_step bel_ hb); have NB217_230 := AM ((by rw [hg]; exact Nat.ne_of_lt (blk_lt (g := gb217) (o := .cells #[.slice none 0 0, .int .i64 x218001_1, .int .i64 x218002_1] 24 (0, 0)) (bk_ BK217.out)) : gb217 ≠ gb230)); have NB230_217 := AM ((by rw [hg]; exact Nat.ne_of_gt (blk_lt (g := gb217) (o := .cells #[.slice none 0 0, .int .i64 x218001_1, .int .i64 x218002_1] 24 (0, 0)) (bk_ BK217.out)) : gb230 ≠ gb217)); replace BK217 := AM (blk_below (g := gb217) (o := .cells #[.slice none 0 0, .int .i64 x218001_1, .int .i64 x218002_1] 24 (0, 0)) (bk_ BK217.out) hb); have NB229_230 := AM ((by rw [hg]; exact Nat.ne_of_lt (blk_lt (g := gb229) (o := .cells #[.string (⟨#[]⟩ : ByteArray), .int .i64 0, .int .i64 0, .int .i64 0] 58 (0, 0)) (bk_ BK229.out)) : gb229 ≠ gb230)); have NB230_229 := AM ((by rw [hg]; exact Nat.ne_of_gt (blk_lt (g := gb229) (o := .cells #[.string (⟨#[]⟩ : ByteArray), .int .i64 0, .int .i64 0, .int .i64 0] 58 (0, 0)) (bk_ BK229.out)) : gb230 ≠ gb229)); replace BK229 := AM (blk_below (g := gb229) (o := .cells #[.string (⟨#[]⟩ : ByteArray), .int .i64 0, .int .i64 0, .int .i64 0] 58 (0, 0)) (bk_ BK229.out) hb); clear hb hbox hg; have hnb24 := NB229_217.out; have hnc24 := NB217_229.out; have hnb25 := NB229_230.out; have hnc25 := NB230_229.out; have hcz26_0 : w23.cell? ⟨gb229, 0, none⟩ = some (.string (⟨#[]⟩ : ByteArray)) := (blk_cell BK229.out 0).trans rfl; have hcz26_1 : w23.cell? ⟨gb229, 1, none⟩ = some (.int .i64 0) := (blk_cell BK229.out 1).trans rfl; have hcz26_2 : w23.cell? ⟨gb229, 2, none⟩ = some (.int .i64 0) := (blk_cell BK229.out 2).trans rfl; have hcz26_3 : w23.cell? ⟨gb229, 3, none⟩ = some (.int .i64 0) := (blk_cell BK229.out 3).trans rfl; have hfz26_0 := blk_frozen BK229.out 0; have hfz26_1 := blk_frozen BK229.out 1; have hfz26_2 := blk_frozen BK229.out 2; have hfz26_3 := blk_frozen BK229.out 3; have hnb27 := NB230_217.out; have hnc27 := NB217_230.out; have hcz28_0 : w23.cell? ⟨gb230, 0, none⟩ = some (.int .i64 0) := (blk_cell BK230.out 0).trans rfl; have hcz28_1 : w23.cell? ⟨gb230, 1, none⟩ = some (.string (⟨#[]⟩ : ByteArray)) := (blk_cell BK230.out 1).trans rfl; have hfz28_0 := blk_frozen BK230.out 0; have hfz28_1 := blk_frozen BK230.out 1; have hcz29_0 : w23.cell? ⟨gb217, 0, none⟩ = some (.slice none 0 0) := (blk_cell BK217.out 0).trans rfl; have hcz29_1 : w23.cell? ⟨gb217, 1, none⟩ = some (.int .i64 x218001_1) := (blk_cell BK217.out 1).trans rfl; have hcz29_2 : w23.cell? ⟨gb217, 2, none⟩ = some (.int .i64 x218002_1) := (blk_cell BK217.out 2).trans rfl; have hfz29_0 := blk_frozen BK217.out 0; have hfz29_1 := blk_frozen BK217.out 1; have hfz29_2 := blk_frozen BK217.out 2))
            refine bodyPost_ret (results_cell_row rfl _ _ gb217 24 #[.slice none 0 0, .int .i64 x4_1, .int .i64 3] (0, 0) _ rfl bka_ Tryd.underlying24 rfl (by kernel_rfl)) rfl ?_
            exact ⟨_, ri_, by first | exact Kd.R_nil _ _ _ _ _ | exact Kd.N_nil _ _ _ _ _ | exact Kd.V_nil _ _ _ _ _ | exact Kd.Q_nil _ _ _ _ _ | exact Kd.S_nil _ _ _ _ _, bel_⟩
        · rw [if_neg c8] at H
          have c8b0 : decide (x4_1 < (a0.size : Int)) = false := decide_eq_false c8
          clear c8
          obtain ⟨t234, A30, H⟩ := OB H
          try dsimp only at H
          replace A30 := AM A30
          by_cases c31 : t234 = true
          · subst c31
            rw [if_pos rfl] at H
            simp only [Option.some.injEq, Prod.mk.injEq] at H
            obtain ⟨rfl, rfl, rfl⟩ := H
            obtain ⟨Ao32, co32, eo32⟩ := Kd.R_slice HO_3.out
            subst eo32
            go_wp2_with (first | ((with_reducible refine gate_callee (f := 40) rfl ?_); refine gl_ (some 36) Tryd.func40 #[.slice Ao32 x3_1.length co32] ?_; (with_reducible refine (spec_PackRight.calls k1 _ _ x3_1 true _ ?side1 ?side2 A30.out).mono ?_); (case side1 => repeat (first | exact (Kd.R_reads' HO_3.out).2.2 | (with_reducible refine Kd.C_alloc ?_ _) | (with_reducible refine Kd.C_drewN ?_ _) | (with_reducible refine Kd.C_drew ?_))); (case side2 => exact (Kd.R_reads' HO_3.out).2.1); rintro e w33 ⟨rfl, hb⟩; refine ⟨_, rfl, ?_⟩; replace HO_3 := AM (Kd.R_below (ro_ HO_3.out) hb); replace BK217 := AM (blk_below (g := gb217) (o := .cells #[.slice none 0 0, .int .i64 x218001_1, .int .i64 x218002_1] 24 (0, 0)) (bk_ BK217.out) hb); replace HB := AM (below_step bel_ hb); (try clear hb); (try clear hb2); (try clear hk); (try clear hi); have hcz34_0 : w33.cell? ⟨gb217, 0, none⟩ = some (.slice none 0 0) := (blk_cell BK217.out 0).trans rfl; have hcz34_1 : w33.cell? ⟨gb217, 1, none⟩ = some (.int .i64 x218001_1) := (blk_cell BK217.out 1).trans rfl; have hcz34_2 : w33.cell? ⟨gb217, 2, none⟩ = some (.int .i64 x218002_1) := (blk_cell BK217.out 2).trans rfl; have hfz34_0 := blk_frozen BK217.out 0; have hfz34_1 := blk_frozen BK217.out 1; have hfz34_2 := blk_frozen BK217.out 2))
            refine bodyPost_ret (results_cell_row rfl _ _ gb217 24 #[.slice Ao32 x3_1.length co32, .int .i64 0, .int .i64 0] (0, 0) _ rfl bka_ Tryd.underlying24 rfl (by kernel_rfl)) rfl ?_
            exact ⟨_, ri_, by (with_reducible repeat (first | apply Kd.R_alloc | apply Kd.R_drewN | apply Kd.R_drew)); exact Kd.R_mono (Kd.R_far (p := ⟨gb217, 2, none⟩) (Kd.R_far (p := ⟨gb217, 1, none⟩) (Kd.R_far (p := ⟨gb217, 0, none⟩) (Kd.R_types HO_3.out BK217.out (by decide)) (fun _ hk => hk.2) (.slice Ao32 x3_1.length co32)) (fun _ hk => hk.2) (.int .i64 0)) (fun _ hk => hk.2) (.int .i64 0)) (fun _ hk => trivial), bel_⟩
          · replace c31 := Bool.eq_false_iff.mpr c31
            subst c31
            rw [if_neg (show ¬ (false = true) by decide)] at H
            simp only [Option.some.injEq, Prod.mk.injEq] at H
            obtain ⟨rfl, rfl, rfl⟩ := H
            obtain ⟨Ao35, co35, eo35⟩ := Kd.R_slice HO_3.out
            subst eo35
            go_wp2_with (first | ((with_reducible refine gate_callee (f := 40) rfl ?_); refine gl_ (some 36) Tryd.func40 #[.slice Ao35 x3_1.length co35] ?_; (with_reducible refine (spec_PackRight.calls k1 _ _ x3_1 false _ ?side1 ?side2 A30.out).mono ?_); (case side1 => repeat (first | exact (Kd.R_reads' HO_3.out).2.2 | (with_reducible refine Kd.C_alloc ?_ _) | (with_reducible refine Kd.C_drewN ?_ _) | (with_reducible refine Kd.C_drew ?_))); (case side2 => exact (Kd.R_reads' HO_3.out).2.1); rintro e w36 ⟨rfl, hb⟩; refine ⟨_, rfl, ?_⟩; replace HO_3 := AM (Kd.R_below (ro_ HO_3.out) hb); replace BK217 := AM (blk_below (g := gb217) (o := .cells #[.slice none 0 0, .int .i64 x218001_1, .int .i64 x218002_1] 24 (0, 0)) (bk_ BK217.out) hb); replace HB := AM (below_step bel_ hb); (try clear hb); (try clear hb2); (try clear hk); (try clear hi); have hcz37_0 : w36.cell? ⟨gb217, 0, none⟩ = some (.slice none 0 0) := (blk_cell BK217.out 0).trans rfl; have hcz37_1 : w36.cell? ⟨gb217, 1, none⟩ = some (.int .i64 x218001_1) := (blk_cell BK217.out 1).trans rfl; have hcz37_2 : w36.cell? ⟨gb217, 2, none⟩ = some (.int .i64 x218002_1) := (blk_cell BK217.out 2).trans rfl; have hfz37_0 := blk_frozen BK217.out 0; have hfz37_1 := blk_frozen BK217.out 1; have hfz37_2 := blk_frozen BK217.out 2))
            refine bodyPost_ret (results_cell_row rfl _ _ gb217 24 #[.slice none 0 0, .int .i64 0, .int .i64 1] (0, 0) _ rfl bka_ Tryd.underlying24 rfl (by kernel_rfl)) rfl ?_
            exact ⟨_, ri_, by first | exact Kd.R_nil _ _ _ _ _ | exact Kd.N_nil _ _ _ _ _ | exact Kd.V_nil _ _ _ _ _ | exact Kd.Q_nil _ _ _ _ _ | exact Kd.S_nil _ _ _ _ _, bel_⟩

/-! ### impl_within: function 65 -/
def impl_within.f (a0 : Int) (a1 : Int) (a2 : Int) : Option (Bool) := if a0 ≥ a1 then (some (decide (a0 ≤ a2))) else (some false)
set_option maxHeartbeats 8000000 in
set_option maxRecDepth 100000 in
theorem impl_within.calls (a0 : Int) (a1 : Int) (a2 : Int) (r : Bool) (w : World) (h : impl_within.f a0 a1 a2 = some r) :
    Calls Tryd.prog 65 #[.int .i64 a0, .int .i64 a1, .int .i64 a2] w fun e w' => e = .returned (.bool r) ∧ Drawn0 w w' := by
  have H : (if a0 ≥ a1 then (some (decide (a0 ≤ a2))) else (some false)) = some r := h
  clear h
  by_cases c4 : a0 ≥ a1
  · rw [if_pos c4] at H
    have c4b0 : decide (a1 ≤ a0) = true := decide_eq_true c4
    clear c4
    obtain rfl := Option.some.inj H
    go_enter Tryd.func65, Tryd.ntmps65
    go_wp2
    go_ret
    exact ⟨by first | rfl | (simp; done) | (simp [*]; done), by repeat (first | exact Drawn0.refl _ | apply Drawn0.step)⟩
  · rw [if_neg c4] at H
    have c4b0 : decide (a1 ≤ a0) = false := decide_eq_false c4
    clear c4
    obtain rfl := Option.some.inj H
    go_enter Tryd.func65, Tryd.ntmps65
    go_wp2
    go_ret
    exact ⟨by first | rfl | (simp; done) | (simp [*]; done), by repeat (first | exact Drawn0.refl _ | apply Drawn0.step)⟩

/-! ### impl_isKind: function 122 -/
def impl_isKind.f (a0 : Int) : Option (Bool) := if a0 = 1 then (some true) else (some (a0 == 2))
set_option maxHeartbeats 8000000 in
set_option maxRecDepth 100000 in
theorem impl_isKind.calls (a0 : Int) (r : Bool) (w : World) (h : impl_isKind.f a0 = some r) :
    Calls Tryd.prog 122 #[.int .i64 a0] w fun e w' => e = .returned (.bool r) ∧ Drawn0 w w' := by
  have H : (if a0 = 1 then (some true) else (some (a0 == 2))) = some r := h
  clear h
  by_cases c2 : a0 = 1
  · rw [if_pos c2] at H
    have c2b0 : (a0 == 1) = true := beq_iff_eq.mpr c2
    have c2b1 : (a0 != 1) = false := bne_eq_false_iff_eq.mpr c2
    clear c2
    obtain rfl := Option.some.inj H
    go_enter Tryd.func122, Tryd.ntmps122
    go_wp2
    go_ret
    exact ⟨by first | rfl | (simp; done) | (simp [*]; done), by repeat (first | exact Drawn0.refl _ | apply Drawn0.step)⟩
  · rw [if_neg c2] at H
    have c2b0 : (a0 == 1) = false := beq_eq_false_iff_ne.mpr c2
    have c2b1 : (a0 != 1) = true := bne_iff_ne.mpr c2
    obtain rfl := Option.some.inj H
    go_enter Tryd.func122, Tryd.ntmps122
    go_wp2
    go_ret
    exact ⟨by first | rfl | (simp; done) | (simp [*]; done), by repeat (first | exact Drawn0.refl _ | apply Drawn0.step)⟩

/-! ### impl_BlobRight: function 87 -/
def impl_BlobRight.f (a0_0 : Int) (a0_1 : ByteArray) : Option (Bool) := (impl_isKind.f a0_0).bind fun t236 => (if t236 = true then (some (decide ((a0_1.size : Int) ≤ 2000))) else (some false))
set_option maxHeartbeats 8000000 in
set_option maxRecDepth 100000 in
theorem impl_BlobRight.calls (a0_0 : Int) (a0_1 : ByteArray) (r : Bool) (w : World) (h : impl_BlobRight.f a0_0 a0_1 = some r) :
    Calls Tryd.prog 87 #[.agg #[.int .i64 a0_0, .string a0_1]] w fun e w' => e = .returned (.bool r) ∧ Below w.heap.size w w' := by
  have hu60 := Tryd.underlying60
  have HB := AM (Below.refl w.heap.size w)
  have H : ((impl_isKind.f a0_0).bind fun t236 => (if t236 = true then (some (decide ((a0_1.size : Int) ≤ 2000))) else (some false))) = some r := h
  clear h
  obtain ⟨t236, A2, H⟩ := OB H
  try dsimp only at H
  replace A2 := AM A2
  by_cases c3 : t236 = true
  · subst c3
    rw [if_pos rfl] at H
    obtain rfl := Option.some.inj H
    go_enter Tryd.func87, Tryd.ntmps87
    go_wp2_with (first | ((with_reducible refine gate_dst (N := 1) rfl ?_); (try (refine gate_guard (by rfl) ?_; dsimp only)); refine be_ 1 #[.int .i64 a0_0, .string a0_1] 60 ?_; intro gb235 hg w4 hbox hb; have BK235 := AM hbox; have GW235 := AM ((by rw [hg]; exact (below_size bel_) : w.heap.size ≤ gb235)); have GE235 := AM ((by rw [hg]; exact (below_size bel_) : w.heap.size ≤ gb235)); replace HB := AM (below_step bel_ hb); clear hb hbox hg; have hcz5_0 : w4.cell? ⟨gb235, 0, none⟩ = some (.int .i64 a0_0) := (blk_cell BK235.out 0).trans rfl; have hcz5_1 : w4.cell? ⟨gb235, 1, none⟩ = some (.string a0_1) := (blk_cell BK235.out 1).trans rfl; have hfz5_0 := blk_frozen BK235.out 0; have hfz5_1 := blk_frozen BK235.out 1) | ((with_reducible refine gate_callee (f := 122) rfl ?_); refine gl_ (some 5) Tryd.func122 #[.int .i64 a0_0] ?_; (with_reducible refine (impl_isKind.calls a0_0 true _ A2.out).mono ?_); rintro e w' ⟨rfl, ⟨nd, rfl⟩⟩; refine ⟨_, rfl, ?_⟩))
    go_ret
    exact ⟨ri_, bel_⟩
  · replace c3 := Bool.eq_false_iff.mpr c3
    subst c3
    rw [if_neg (show ¬ (false = true) by decide)] at H
    obtain rfl := Option.some.inj H
    go_enter Tryd.func87, Tryd.ntmps87
    go_wp2_with (first | ((with_reducible refine gate_dst (N := 1) rfl ?_); (try (refine gate_guard (by rfl) ?_; dsimp only)); refine be_ 1 #[.int .i64 a0_0, .string a0_1] 60 ?_; intro gb235 hg w6 hbox hb; have BK235 := AM hbox; have GW235 := AM ((by rw [hg]; exact (below_size bel_) : w.heap.size ≤ gb235)); have GE235 := AM ((by rw [hg]; exact (below_size bel_) : w.heap.size ≤ gb235)); replace HB := AM (below_step bel_ hb); clear hb hbox hg; have hcz7_0 : w6.cell? ⟨gb235, 0, none⟩ = some (.int .i64 a0_0) := (blk_cell BK235.out 0).trans rfl; have hcz7_1 : w6.cell? ⟨gb235, 1, none⟩ = some (.string a0_1) := (blk_cell BK235.out 1).trans rfl; have hfz7_0 := blk_frozen BK235.out 0; have hfz7_1 := blk_frozen BK235.out 1) | ((with_reducible refine gate_callee (f := 122) rfl ?_); refine gl_ (some 5) Tryd.func122 #[.int .i64 a0_0] ?_; (with_reducible refine (impl_isKind.calls a0_0 false _ A2.out).mono ?_); rintro e w' ⟨rfl, ⟨nd, rfl⟩⟩; refine ⟨_, rfl, ?_⟩))
    go_ret
    exact ⟨ri_, bel_⟩

/-! ### impl_long: function 42 -/
def impl_long.f (a0 : ByteArray) : Option (Int) := some (a0.size : Int)
set_option maxHeartbeats 8000000 in
set_option maxRecDepth 100000 in
theorem impl_long.calls (a0 : ByteArray) (r : Int) (w : World) (h : impl_long.f a0 = some r) :
    Calls Tryd.prog 42 #[.string a0] w fun e w' => e = .returned (.int .i64 r) ∧ Drawn0 w w' := by
  have H : (some (a0.size : Int)) = some r := h
  clear h
  obtain rfl := Option.some.inj H
  go_enter Tryd.func42, Tryd.ntmps42
  go_wp2
  go_ret
  exact ⟨by first | rfl | (simp; done) | (simp [*]; done), by repeat (first | exact Drawn0.refl _ | apply Drawn0.step)⟩

/-! ### bits_RotateLeft32: function 128 -/
def bits_RotateLeft32.f (a0 : Int) (a1 : Int) : Option (Int) := if 0 ≤ (Go.bits .and .u64 (IntKind.u64.wrap (a1)) 31) then (if 0 ≤ (IntKind.u64.wrap (32 - (Go.bits .and .u64 (IntKind.u64.wrap (a1)) 31))) then (some (Go.bits .or .u32 (shl .u32 a0 (Go.bits .and .u64 (IntKind.u64.wrap (a1)) 31)) (shr .u32 a0 (IntKind.u64.wrap (32 - (Go.bits .and .u64 (IntKind.u64.wrap (a1)) 31)))))) else (none)) else (none)
set_option maxHeartbeats 8000000 in
set_option maxRecDepth 100000 in
theorem bits_RotateLeft32.calls (a0 : Int) (a1 : Int) (r : Int) (w : World) (h : bits_RotateLeft32.f a0 a1 = some r) :
    Calls Tryd.prog 128 #[.int .u32 a0, .int .i64 a1] w fun e w' => e = .returned (.int .u32 r) ∧ Drawn0 w w' := by
  have H : (if 0 ≤ (Go.bits .and .u64 (IntKind.u64.wrap (a1)) 31) then (if 0 ≤ (IntKind.u64.wrap (32 - (Go.bits .and .u64 (IntKind.u64.wrap (a1)) 31))) then (some (Go.bits .or .u32 (shl .u32 a0 (Go.bits .and .u64 (IntKind.u64.wrap (a1)) 31)) (shr .u32 a0 (IntKind.u64.wrap (32 - (Go.bits .and .u64 (IntKind.u64.wrap (a1)) 31)))))) else (none)) else (none)) = some r := h
  clear h
  obtain ⟨ji3, hji3⟩ : ∃ j_ : Int, (Go.bits .and .u64 (IntKind.u64.wrap (a1)) 31) = j_ := ⟨_, rfl⟩
  replace H : (if 0 ≤ (ji3) then (if 0 ≤ (IntKind.u64.wrap (32 - (ji3))) then (some (Go.bits .or .u32 (shl .u32 a0 (ji3)) (shr .u32 a0 (IntKind.u64.wrap (32 - (ji3)))))) else (none)) else (none)) = some r := by first | (rw [hji3] at H; exact H) | (simp only [hji3] at H ⊢; exact H)
  by_cases c4 : 0 ≤ (ji3)
  · rw [if_pos c4] at H
    have c4b0 := eq_true c4
    have c4b1 : decide (0 ≤ (ji3)) = true := decide_eq_true c4
    clear c4
    obtain ⟨ji5, hji5⟩ : ∃ j_ : Int, (shl .u32 a0 (ji3)) = j_ := ⟨_, rfl⟩
    replace H : (if 0 ≤ (IntKind.u64.wrap (32 - (ji3))) then (some (Go.bits .or .u32 (ji5) (shr .u32 a0 (IntKind.u64.wrap (32 - (ji3)))))) else (none)) = some r := by first | (rw [hji5] at H; exact H) | (simp only [hji5] at H ⊢; exact H)
    have hji5_ : (IntKind.u32.wrap (a0 * 2 ^ min (ji3).toNat 32)) = ji5 := hji5
    have hji5z : (ji3) ≤ 32 → (IntKind.u32.wrap (a0 * 2 ^ (ji3).toNat)) = ji5 := shl_small hji5
    obtain ⟨ji6, hji6⟩ : ∃ j_ : Int, (IntKind.u64.wrap (32 - (ji3))) = j_ := ⟨_, rfl⟩
    replace H : (if 0 ≤ (ji6) then (some (Go.bits .or .u32 (ji5) (shr .u32 a0 (ji6)))) else (none)) = some r := by first | (rw [hji6] at H; exact H) | (simp only [hji6] at H ⊢; exact H)
    by_cases c7 : 0 ≤ (ji6)
    · rw [if_pos c7] at H
      have c7b0 := eq_true c7
      have c7b1 : decide (0 ≤ (ji6)) = true := decide_eq_true c7
      clear c7
      obtain ⟨ji8, hji8⟩ : ∃ j_ : Int, (shr .u32 a0 (ji6)) = j_ := ⟨_, rfl⟩
      replace H : (some (Go.bits .or .u32 (ji5) (ji8))) = some r := by first | (rw [hji8] at H; exact H) | (simp only [hji8] at H ⊢; exact H)
      have hji8_ : (a0 / 2 ^ min (ji6).toNat 32) = ji8 := hji8
      have hji8z : (ji6) ≤ 32 → (a0 / 2 ^ (ji6).toNat) = ji8 := shr_small hji8
      obtain rfl := Option.some.inj H
      go_enter Tryd.func128, Tryd.ntmps128
      go_wp2
      go_ret
      exact ⟨by first | rfl | (simp; done) | (simp only [← hji3, ← hji5, ← hji6, ← hji8] <;> (first | rfl | simp)) | (simp [*]; done), by repeat (first | exact Drawn0.refl _ | apply Drawn0.step)⟩
    · rw [if_neg c7] at H
      exact absurd H (by simp)
  · rw [if_neg c4] at H
    exact absurd H (by simp)

/-! ### impl_right: function 101 -/
def impl_right.f (a0 : Int) (a1 : Int) : Option (Int) := (bits_RotateLeft32.f a0 (wrap64 (-a1))).bind fun t237 => (some t237)
set_option maxHeartbeats 8000000 in
set_option maxRecDepth 100000 in
theorem impl_right.calls (a0 : Int) (a1 : Int) (r : Int) (w : World) (h : impl_right.f a0 a1 = some r) :
    Calls Tryd.prog 101 #[.int .u32 a0, .int .i64 a1] w fun e w' => e = .returned (.int .u32 r) ∧ Drawn0 w w' := by
  have H : ((bits_RotateLeft32.f a0 (wrap64 (-a1))).bind fun t237 => (some t237)) = some r := h
  clear h
  obtain ⟨t237, A3, H⟩ := OB H
  try dsimp only at H
  replace A3 := AM A3
  obtain rfl := Option.some.inj H
  go_enter Tryd.func101, Tryd.ntmps101
  go_wp2_with (first | ((with_reducible refine gate_callee (f := 128) rfl ?_); refine gl_ (some 8) Tryd.func128 #[.int .u32 a0, .int .i64 (wrap64 (-a1))] ?_; (with_reducible refine (bits_RotateLeft32.calls a0 (wrap64 (-a1)) t237 _ A3.out).mono ?_); rintro e w' ⟨rfl, ⟨nd, rfl⟩⟩; refine ⟨_, rfl, ?_⟩))
  go_ret
  exact ⟨by first | rfl | (simp; done) | (simp [*]; done), by repeat (first | exact Drawn0.refl _ | apply Drawn0.step)⟩

-- NOT PRINTED: function 61 (impl_taken)

/-! ### stringslite_HasPrefix: function 112 -/
def stringslite_HasPrefix.f (a0 : ByteArray) (a1 : ByteArray) : Option (Bool) := if (a0.size : Int) ≥ (a1.size : Int) then (if 0 ≤ (a1.size : Int) then (if (a1.size : Int) ≤ (a0.size : Int) then (some ((a0.extract 0 ((a1.size : Int) : Int).toNat).toList == a1.toList)) else (none)) else (none)) else (some false)
set_option maxHeartbeats 8000000 in
set_option maxRecDepth 100000 in
theorem stringslite_HasPrefix.calls (a0 : ByteArray) (a1 : ByteArray) (r : Bool) (w : World) (h : stringslite_HasPrefix.f a0 a1 = some r) :
    Calls Tryd.prog 112 #[.string a0, .string a1] w fun e w' => e = .returned (.bool r) ∧ Drawn0 w w' := by
  have H : (if (a0.size : Int) ≥ (a1.size : Int) then (if 0 ≤ (a1.size : Int) then (if (a1.size : Int) ≤ (a0.size : Int) then (some ((a0.extract 0 ((a1.size : Int) : Int).toNat).toList == a1.toList)) else (none)) else (none)) else (some false)) = some r := h
  clear h
  by_cases c3 : (a0.size : Int) ≥ (a1.size : Int)
  · rw [if_pos c3] at H
    have c3b0 : decide ((a1.size : Int) ≤ (a0.size : Int)) = true := decide_eq_true c3
    have c3b1 : decide (a1.size ≤ a0.size) = true := decide_eq_true (Int.ofNat_le.mp c3)
    clear c3
    by_cases c4 : 0 ≤ (a1.size : Int)
    · rw [if_pos c4] at H
      have c4b0 := eq_true c4
      have c4b1 : decide (0 ≤ (a1.size : Int)) = true := decide_eq_true c4
      clear c4
      by_cases c5 : (a1.size : Int) ≤ (a0.size : Int)
      · rw [if_pos c5] at H
        have c5b0 := eq_true c5
        have c5b1 : decide ((a1.size : Int) ≤ (a0.size : Int)) = true := decide_eq_true c5
        clear c5
        obtain rfl := Option.some.inj H
        go_enter Tryd.func112, Tryd.ntmps112
        go_wp2
        go_ret
        exact ⟨by first | rfl | (simp; done) | (simp [*]; done), by repeat (first | exact Drawn0.refl _ | apply Drawn0.step)⟩
      · rw [if_neg c5] at H
        exact absurd H (by simp)
    · rw [if_neg c4] at H
      exact absurd H (by simp)
  · rw [if_neg c3] at H
    have c3b0 : decide ((a1.size : Int) ≤ (a0.size : Int)) = false := decide_eq_false c3
    have c3b1 : decide (a1.size ≤ a0.size) = false := decide_eq_false (fun h => c3 (Int.ofNat_le.mpr h))
    clear c3
    obtain rfl := Option.some.inj H
    go_enter Tryd.func112, Tryd.ntmps112
    go_wp2
    go_ret
    exact ⟨by first | rfl | (simp; done) | (simp [*]; done), by repeat (first | exact Drawn0.refl _ | apply Drawn0.step)⟩

/-! ### strings_HasPrefix: function 74 -/
def strings_HasPrefix.f (a0 : ByteArray) (a1 : ByteArray) : Option (Bool) := (stringslite_HasPrefix.f a0 a1).bind fun t238 => (some t238)
set_option maxHeartbeats 8000000 in
set_option maxRecDepth 100000 in
theorem strings_HasPrefix.calls (a0 : ByteArray) (a1 : ByteArray) (r : Bool) (w : World) (h : strings_HasPrefix.f a0 a1 = some r) :
    Calls Tryd.prog 74 #[.string a0, .string a1] w fun e w' => e = .returned (.bool r) ∧ Drawn0 w w' := by
  have H : ((stringslite_HasPrefix.f a0 a1).bind fun t238 => (some t238)) = some r := h
  clear h
  obtain ⟨t238, A3, H⟩ := OB H
  try dsimp only at H
  replace A3 := AM A3
  obtain rfl := Option.some.inj H
  go_enter Tryd.func74, Tryd.ntmps74
  go_wp2_with (first | ((with_reducible refine gate_callee (f := 112) rfl ?_); refine gl_ (some 7) Tryd.func112 #[.string a0, .string a1] ?_; (with_reducible refine (stringslite_HasPrefix.calls a0 a1 t238 _ A3.out).mono ?_); rintro e w' ⟨rfl, ⟨nd, rfl⟩⟩; refine ⟨_, rfl, ?_⟩))
  go_ret
  exact ⟨by first | rfl | (simp; done) | (simp [*]; done), by repeat (first | exact Drawn0.refl _ | apply Drawn0.step)⟩

/-! ### bits_Mul32: function 142 -/
def bits_Mul32.f (a0 : Int) (a1 : Int) : Option (Int × Int) := some (((IntKind.u64.wrap ((IntKind.u64.wrap (a0)) * (IntKind.u64.wrap (a1)))) / 4294967296) % 4294967296, (IntKind.u64.wrap ((IntKind.u64.wrap (a0)) * (IntKind.u64.wrap (a1)))) % 4294967296)
set_option maxHeartbeats 8000000 in
set_option maxRecDepth 100000 in
theorem bits_Mul32.calls (a0 : Int) (a1 : Int) (r1 : Int) (r2 : Int) (w : World) (h : bits_Mul32.f a0 a1 = some (r1, r2)) :
    Calls Tryd.prog 142 #[.int .u32 a0, .int .u32 a1] w fun e w' => e = .returned (.tuple #[.int .u32 r1, .int .u32 r2]) ∧ Drawn0 w w' := by
  have H : (some (((IntKind.u64.wrap ((IntKind.u64.wrap (a0)) * (IntKind.u64.wrap (a1)))) / 4294967296) % 4294967296, (IntKind.u64.wrap ((IntKind.u64.wrap (a0)) * (IntKind.u64.wrap (a1)))) % 4294967296)) = some (r1, r2) := h
  clear h
  simp only [Option.some.injEq, Prod.mk.injEq] at H
  obtain ⟨rfl, rfl⟩ := H
  go_enter Tryd.func142, Tryd.ntmps142
  go_wp2
  go_ret2
  exact ⟨by first | rfl | (simp; done) | (simp [*]; done), by repeat (first | exact Drawn0.refl _ | apply Drawn0.step)⟩

/-! ### bits_Mul64: function 143 -/
def bits_Mul64.f (a0 : Int) (a1 : Int) : Option (Int × Int) := some (IntKind.u64.wrap ((IntKind.u64.wrap ((IntKind.u64.wrap ((a0 / 4294967296) * (a1 / 4294967296))) + ((IntKind.u64.wrap ((IntKind.u64.wrap ((a0 / 4294967296) * (Go.bits .and .u64 a1 4294967295))) + ((IntKind.u64.wrap ((Go.bits .and .u64 a0 4294967295) * (Go.bits .and .u64 a1 4294967295))) / 4294967296))) / 4294967296))) + ((IntKind.u64.wrap ((Go.bits .and .u64 (IntKind.u64.wrap ((IntKind.u64.wrap ((a0 / 4294967296) * (Go.bits .and .u64 a1 4294967295))) + ((IntKind.u64.wrap ((Go.bits .and .u64 a0 4294967295) * (Go.bits .and .u64 a1 4294967295))) / 4294967296))) 4294967295) + (IntKind.u64.wrap ((Go.bits .and .u64 a0 4294967295) * (a1 / 4294967296))))) / 4294967296)), IntKind.u64.wrap (a0 * a1))
set_option maxHeartbeats 8000000 in
set_option maxRecDepth 100000 in
theorem bits_Mul64.calls (a0 : Int) (a1 : Int) (r1 : Int) (r2 : Int) (w : World) (h : bits_Mul64.f a0 a1 = some (r1, r2)) :
    Calls Tryd.prog 143 #[.int .u64 a0, .int .u64 a1] w fun e w' => e = .returned (.tuple #[.int .u64 r1, .int .u64 r2]) ∧ Drawn0 w w' := by
  have H : (some (IntKind.u64.wrap ((IntKind.u64.wrap ((IntKind.u64.wrap ((a0 / 4294967296) * (a1 / 4294967296))) + ((IntKind.u64.wrap ((IntKind.u64.wrap ((a0 / 4294967296) * (Go.bits .and .u64 a1 4294967295))) + ((IntKind.u64.wrap ((Go.bits .and .u64 a0 4294967295) * (Go.bits .and .u64 a1 4294967295))) / 4294967296))) / 4294967296))) + ((IntKind.u64.wrap ((Go.bits .and .u64 (IntKind.u64.wrap ((IntKind.u64.wrap ((a0 / 4294967296) * (Go.bits .and .u64 a1 4294967295))) + ((IntKind.u64.wrap ((Go.bits .and .u64 a0 4294967295) * (Go.bits .and .u64 a1 4294967295))) / 4294967296))) 4294967295) + (IntKind.u64.wrap ((Go.bits .and .u64 a0 4294967295) * (a1 / 4294967296))))) / 4294967296)), IntKind.u64.wrap (a0 * a1))) = some (r1, r2) := h
  clear h
  simp only [Option.some.injEq, Prod.mk.injEq] at H
  obtain ⟨rfl, rfl⟩ := H
  go_enter Tryd.func143, Tryd.ntmps143
  go_wp2
  go_ret2
  exact ⟨by first | rfl | (simp; done) | (simp [*]; done), by repeat (first | exact Drawn0.refl _ | apply Drawn0.step)⟩

/-! ### bits_Mul: function 129 -/
def bits_Mul.f (a0 : Int) (a1 : Int) : Option (Int × Int) := (bits_Mul64.f a0 a1).bind fun bt239 => (some (bt239.1, bt239.2))
set_option maxHeartbeats 8000000 in
set_option maxRecDepth 100000 in
theorem bits_Mul.calls (a0 : Int) (a1 : Int) (r1 : Int) (r2 : Int) (w : World) (h : bits_Mul.f a0 a1 = some (r1, r2)) :
    Calls Tryd.prog 129 #[.int .u64 a0, .int .u64 a1] w fun e w' => e = .returned (.tuple #[.int .u64 r1, .int .u64 r2]) ∧ Drawn0 w w' := by
  have H : ((bits_Mul64.f a0 a1).bind fun bt239 => (some (bt239.1, bt239.2))) = some (r1, r2) := h
  clear h
  obtain ⟨⟨t239, t240⟩, A3, H⟩ := OB H
  try dsimp only at H
  replace A3 := AM A3
  simp only [Option.some.injEq, Prod.mk.injEq] at H
  obtain ⟨rfl, rfl⟩ := H
  go_enter Tryd.func129, Tryd.ntmps129
  go_wp2_with (first | ((with_reducible refine gate_callee (f := 143) rfl ?_); refine gl_ (some 25) Tryd.func143 #[.int .u64 a0, .int .u64 a1] ?_; (with_reducible refine (bits_Mul64.calls a0 a1 t239 t240 _ A3.out).mono ?_); rintro e w' ⟨rfl, ⟨nd, rfl⟩⟩; refine ⟨_, rfl, ?_⟩))
  go_ret2
  exact ⟨by first | rfl | (simp; done) | (simp [*]; done), by repeat (first | exact Drawn0.refl _ | apply Drawn0.step)⟩

-- NOT PRINTED: function 160 (abi_NoEscape)

-- NOT PRINTED: function 144 (strings_Builder_copyCheck)

-- NOT PRINTED: function 161 (bytealg_MakeNoZero)

-- NOT PRINTED: function 145 (strings_Builder_grow)

-- NOT PRINTED: function 130 (strings_Builder_Grow)

-- NOT PRINTED: function 131 (strings_Builder_WriteString)

-- NOT PRINTED: function 132 (strings_Builder_Len)

-- NOT PRINTED: function 133 (strings_Builder_String)

-- NOT PRINTED: function 103 (strings_Repeat)

/-! ### impl_oneByte: function 104 -/
def impl_oneByte.f (a0 : Int) : Option (ByteArray) := some (strOfNums (([a0] : List Int)))
set_option maxHeartbeats 8000000 in
set_option maxRecDepth 100000 in
theorem impl_oneByte.calls (a0 : Int) (r : ByteArray) (w : World) (h : impl_oneByte.f a0 = some r) :
    Calls Tryd.prog 104 #[.int .u8 a0] w fun e w' => e = .returned (.string r) ∧ Below w.heap.size w w' := by
  have HB := AM (Below.refl w.heap.size w)
  have H : (some (strOfNums (([a0] : List Int)))) = some r := h
  clear h
  obtain ⟨y241, hy241⟩ : ∃ y_ : List Int, y_ = (([a0] : List Int)) := ⟨_, rfl⟩
  replace H : (some (strOfNums y241)) = some r := by first | (rw [hy241]; with_reducible exact H) | (have H2_ := (Option.bind_some _ _).symm.trans H; rw [hy241]; with_reducible exact H2_) | (have H2_ := (Option.bind_some _ _).symm.trans H; with_reducible exact H2_) | with_reducible exact H | (rw [hy241]; exact H) | exact H
  have Ny241 := AM hy241
  clear hy241
  obtain rfl := Option.some.inj H
  go_enter Tryd.func104, Tryd.ntmps104
  go_wp2_with (first | ((with_reducible refine gate_dst (N := 4) rfl ?_); refine Kd.R_lit (Kd.int .u8) _ 5 ?hg (N := 4) ?hd (xs := ([a0] : List Int)) (inner := [.int .u8 a0]) (ok := fun _ => True) (okp := fun _ => True) ?hr ?hp (fun _ hk => hk) trivial (Below.refl _ _) (Nat.le_refl _) (by simp) ?_; (case hd => rfl); (case hg => rfl); (case hr => first | (go_simp; done) | (go_simp; rfl)); (case hp => exact (Reps.one (show Kd.M (Kd.int .u8) _ _ _ a0 [.int .u8 a0] from rfl) (Reps.none _ _))); intro v242 w2 ho3 hb hg_ hnew_; clear hg_ hnew_; (first | rw [← Ny241.out] at ho3 | (simp only [Int.reduceToNat] at ho3; rw [← Ny241.out] at ho3)); have HO243 := AM (Kd.R_lower ho3 (below_size bel_)); replace HB := AM (below_step bel_ hb); clear hb ho3; have hcv4 := own_string (P := Tryd.prog) Tryd.underlying29 Tryd.underlying5 Tryd.underlying9 (Kd.own_of_R HO243.out)))
  go_ret
  exact ⟨ri_, bel_⟩

-- NOT PRINTED: function 66 (impl_summed)

/-! ### impl_digest: function 54 -/
def impl_digest.f (a0 : ByteArray) : Option (ByteArray) := if a0.size ≤ 1099511627776 then some (Hand.digestL a0) else none
theorem impl_digest.calls (a0 : ByteArray) (r : ByteArray) (w : World) (h : impl_digest.f a0 = some r) (hL : Hand.LaidG w := by first | exact hL | exact Hand.LaidG.below hL bel_) :
    Calls Tryd.prog 54 #[.string a0] w fun e w' => e = .returned (.string r) ∧ Below w.heap.size w w' := by
  unfold impl_digest.f at h
  by_cases hc : a0.size ≤ 1099511627776
  · rw [if_pos hc] at h
    obtain rfl := Option.some.inj h
    exact Hand.digest_whole a0 hc w hL
  · rw [if_neg hc] at h
    cases h

/-! ### impl_PutNum: function 123 -/
def impl_PutNum.l0 : Nat → Int → List Int → Option (ByteArray)
  | 0, _, _ => none
  | k + 1, x3, x4 => if x3 > 127 then (if x4.length < 140737488355328 then (impl_PutNum.l0 k (x3 / 128) (x4 ++ [Go.bits .or .u8 ((Go.bits .and .u64 x3 127) % 256) 128])) else (none)) else (if x4.length < 140737488355328 then (some (strOfNums (x4 ++ [(x3) % 256]))) else (none))
def impl_PutNum.f (k : Nat) (a0 : Int) : Option (ByteArray) := impl_PutNum.l0 k (Go.bits .xor .u64 (IntKind.u64.wrap ((IntKind.u64.wrap (a0)) * 2)) (IntKind.u64.wrap (a0 / 9223372036854775808))) ([] : List Int)
theorem impl_PutNum.mono_l : ∀ k, (∀ y0 y1, LeO (impl_PutNum.l0 k y0 y1) (impl_PutNum.l0 (k + 1) y0 y1))
  | 0 => fun _ _ r h => by simp [impl_PutNum.l0] at h
  | k + 1 => by
    have ih0 := impl_PutNum.mono_l k
    · intro y0 y1
      unfold impl_PutNum.l0
      repeat' first
      | (with_reducible exact ih0 _ _)
      | (with_reducible exact LeO.refl _)
      | (with_reducible exact LeO.none _)
      | (with_reducible refine LeO.ite ?_ ?_)
      | (with_reducible refine LeO.bind ?_ (fun _ => ?_))
      | exact ih0 _ _
      | exact LeO.none _
      | refine LeO.ite ?_ ?_
      | refine LeO.bind ?_ (fun _ => ?_)
theorem impl_PutNum.mono : ∀ a0 k, LeO (impl_PutNum.f k a0) (impl_PutNum.f (k + 1) a0) := by
  intro a0 k
  have ih0 := impl_PutNum.mono_l k
  unfold impl_PutNum.f
  repeat' first
      | (with_reducible exact ih0 _ _)
      | (with_reducible exact LeO.refl _)
      | (with_reducible exact LeO.none _)
      | (with_reducible refine LeO.ite ?_ ?_)
      | (with_reducible refine LeO.bind ?_ (fun _ => ?_))
      | exact ih0 _ _
      | exact LeO.none _
      | refine LeO.ite ?_ ?_
      | refine LeO.bind ?_ (fun _ => ?_)
set_option maxHeartbeats 8000000 in
set_option maxRecDepth 100000 in
theorem impl_PutNum.calls (k : Nat) (a0 : Int) (r : ByteArray) (w : World) (h : impl_PutNum.f k a0 = some r) :
    Calls Tryd.prog 123 #[.int .i64 a0] w fun e w' => e = .returned (.string r) ∧ Below w.heap.size w w' := by
  have HB := AM (Below.refl w.heap.size w)
  have H : (impl_PutNum.l0 k (Go.bits .xor .u64 (IntKind.u64.wrap ((IntKind.u64.wrap (a0)) * 2)) (IntKind.u64.wrap (a0 / 9223372036854775808))) ([] : List Int)) = some r := h
  clear h
  have H' := AM H
  clear H
  go_enter Tryd.func123, Tryd.ntmps123
  go_wp2
  go_loopg [3, 4] k (fun kq v3 v4 w' => ∃ (x3_1 : Int) (x4_1 : List Int), v3 = .int .u64 x3_1 ∧ Aside0 (impl_PutNum.l0 kq x3_1 x4_1 = some r) ∧ Aside0 (kq ≤ k) ∧ Aside0 (Kd.R (Kd.int .u8) 5 w' w.heap.size (fun _ => True) v4 x4_1) ∧ Aside0 (Below w.heap.size w w'))
  case atStart => exact ⟨(Go.bits .xor .u64 (IntKind.u64.wrap ((IntKind.u64.wrap (a0)) * 2)) (IntKind.u64.wrap (a0 / 9223372036854775808))), (([] : List Int)), (by first | rfl | (simp; done) | (simp [*]; done)), H', ⟨Nat.le_refl _⟩, ⟨by first | exact Kd.R_nil _ _ _ _ _ | exact Kd.N_nil _ _ _ _ _ | exact Kd.V_nil _ _ _ _ _ | exact Kd.Q_nil _ _ _ _ _ | exact Kd.S_nil _ _ _ _ _⟩, ⟨bel_⟩⟩
  case round =>
    clear H'
    try clear c1
    obtain ⟨x3_1, x4_1, rfl, HA, HK1, HO_4, HB⟩ := hrel
    cases gk with
    | zero => exact absurd HA.out (by simp [impl_PutNum.l0])
    | succ k1 =>
      have H := HA.out
      clear HA
      simp only [impl_PutNum.l0] at H
      by_cases c2 : x3_1 > 127
      · rw [if_pos c2] at H
        have c2b0 : decide (127 < x3_1) = true := decide_eq_true c2
        clear c2
        by_cases c3 : x4_1.length < 140737488355328
        · rw [if_pos c3] at H
          have LMc3 := AM c3
          clear c3
          obtain ⟨y244, hy244⟩ : ∃ y_ : List Int, y_ = (x4_1 ++ [Go.bits .or .u8 ((Go.bits .and .u64 x3_1 127) % 256) 128]) := ⟨_, rfl⟩
          replace H : (impl_PutNum.l0 k1 (x3_1 / 128) y244) = some r := by first | (rw [hy244]; with_reducible exact H) | (have H2_ := (Option.bind_some _ _).symm.trans H; rw [hy244]; with_reducible exact H2_) | (have H2_ := (Option.bind_some _ _).symm.trans H; with_reducible exact H2_) | with_reducible exact H | (rw [hy244]; exact H) | exact H
          have Ny244 := AM hy244
          clear hy244
          have H' := AM H
          clear H
          go_wp2_with (first | ((with_reducible refine gate_builtin (b := .append) (xs := #[.tmp 14, .tmp 19]) rfl ?_); at_builtin; refine Kd.R_append (Kd.int .u8) (w0 := w) w.heap.size rfl (.tmp 14) (.tmp 19) 29 5 (.int .u8 0) 1 rfl Tryd.underlying29 info5 rfl (by decide) (by omega) u4 x4_1 (Go.bits .or .u8 ((Go.bits .and .u64 x3_1 127) % 256) 128) [.int .u8 (Go.bits .or .u8 ((Go.bits .and .u64 x3_1 127) % 256) 128)] (fun _ => True) (fun _ => False) rfl rfl ?aP (fun _ hk => hk.elim) ?aF ?aO ?aB ?aS ?aL ?_; (case aP => exact rfl); (case aB => exact bel_); (case aF => exact (fun _ _ => trivial)); (case aO => exact (ro_ HO_4.out)); (case aS => exact (below_size bel_)); (case aL => have := LMc3.out; omega); intro v245 w4 ho hb hg hat; rw [← Ny244.out] at ho; have n0_ := AM hb; have n1_ := AM ho; clear HB; clear HO_4; have HB := n0_; have HO246 := n1_; clear n0_ n1_; clear ho hb hg hat))
          go_roundg k1
          case measure => have := HK1.out; omega
          case rel => exact ⟨(x3_1 / 128), (y244), (by first | rfl | (simp; done) | (simp [*]; done)), H', ⟨by have := HK1.out; omega⟩, ⟨ro_ HO246.out⟩, ⟨bel_⟩⟩
        · rw [if_neg c3] at H
          exact absurd H (by simp)
      · rw [if_neg c2] at H
        have c2b0 : decide (127 < x3_1) = false := decide_eq_false c2
        clear c2
        by_cases c5 : x4_1.length < 140737488355328
        · rw [if_pos c5] at H
          have LMc5 := AM c5
          clear c5
          obtain ⟨y247, hy247⟩ : ∃ y_ : List Int, y_ = (x4_1 ++ [(x3_1) % 256]) := ⟨_, rfl⟩
          replace H : (some (strOfNums y247)) = some r := by first | (rw [hy247]; with_reducible exact H) | (have H2_ := (Option.bind_some _ _).symm.trans H; rw [hy247]; with_reducible exact H2_) | (have H2_ := (Option.bind_some _ _).symm.trans H; with_reducible exact H2_) | with_reducible exact H | (rw [hy247]; exact H) | exact H
          have Ny247 := AM hy247
          clear hy247
          obtain rfl := Option.some.inj H
          go_wp2_with (first | ((with_reducible refine gate_builtin (b := .append) (xs := #[.tmp 23, .tmp 26]) rfl ?_); at_builtin; refine Kd.R_append (Kd.int .u8) (w0 := w) w.heap.size rfl (.tmp 23) (.tmp 26) 29 5 (.int .u8 0) 1 rfl Tryd.underlying29 info5 rfl (by decide) (by omega) u4 x4_1 ((x3_1) % 256) [.int .u8 ((x3_1) % 256)] (fun _ => True) (fun _ => False) rfl rfl ?aP (fun _ hk => hk.elim) ?aF ?aO ?aB ?aS ?aL ?_; (case aP => exact rfl); (case aB => exact bel_); (case aF => exact (fun _ _ => trivial)); (case aO => exact (ro_ HO_4.out)); (case aS => exact (below_size bel_)); (case aL => have := LMc5.out; omega); intro v248 w6 ho hb hg hat; rw [← Ny247.out] at ho; have n0_ := AM hb; have n1_ := AM ho; clear HB; clear HO_4; have HB := n0_; have HO249 := n1_; clear n0_ n1_; clear ho hb hg hat; have hcv7 := own_string (P := Tryd.prog) Tryd.underlying29 Tryd.underlying5 Tryd.underlying9 (Kd.own_of_R HO249.out)))
          go_ret
          exact ⟨ri_, bel_⟩
        · rw [if_neg c5] at H
          exact absurd H (by simp)

/-! ### impl_Blob_key: function 88 -/
def impl_Blob_key.f (k : Nat) (a0_0 : Int) (a0_1 : ByteArray) : Option (ByteArray) := (impl_PutNum.f k a0_0).bind fun t251 => (if t251.size + a0_1.size ≤ 9223372036854775807 then ((impl_digest.f (t251 ++ a0_1)).bind fun t252 => (some t252)) else (none))
theorem impl_Blob_key.mono : ∀ a0 a1 k, LeO (impl_Blob_key.f k a0 a1) (impl_Blob_key.f (k + 1) a0 a1) := by
  intro a0 a1 k
  unfold impl_Blob_key.f
  repeat' first
      | (with_reducible exact impl_PutNum.mono _ _)
      | (with_reducible exact LeO.refl _)
      | (with_reducible exact LeO.none _)
      | (with_reducible refine LeO.ite ?_ ?_)
      | (with_reducible refine LeO.bind ?_ (fun _ => ?_))
      | exact impl_PutNum.mono _ _
      | exact LeO.none _
      | refine LeO.ite ?_ ?_
      | refine LeO.bind ?_ (fun _ => ?_)
def impl_Blob_key.T1 : Bool × List (List Nat × List Nat) := (true, [([], []), ([0], [0]), ([1], [1]), ([], []), ([3], [3]), ([2, 4], [2, 4]), ([5, 2], [5]), ([6, 6, 0, 1, 2, 3, 4, 5, 6], [6])])
def impl_Blob_key.B1 : List Nat := [0, 1, 3, 0, 8, 31, 63, 127]
theorem impl_Blob_key.tab1 : rtab .any (opsOf Tryd.f88 1) = impl_Blob_key.T1 := by kernel_rfl
theorem impl_Blob_key.bits1 : waitsOk impl_Blob_key.T1.2 impl_Blob_key.B1 = true := by kernel_rfl
set_option maxHeartbeats 8000000 in
set_option maxRecDepth 100000 in
theorem impl_Blob_key.calls (k : Nat) (a0_0 : Int) (a0_1 : ByteArray) (r : ByteArray) (w : World) (h : impl_Blob_key.f k a0_0 a0_1 = some r) (hL : Hand.LaidG w := by first | exact hL | exact Hand.LaidG.below hL bel_) :
    Calls Tryd.prog 88 #[.agg #[.int .i64 a0_0, .string a0_1]] w fun e w' => e = .returned (.string r) ∧ Below w.heap.size w w' := by
  have hu60 := Tryd.underlying60
  have HB := AM (Below.refl w.heap.size w)
  have H : ((impl_PutNum.f k a0_0).bind fun t251 => (if t251.size + a0_1.size ≤ 9223372036854775807 then ((impl_digest.f (t251 ++ a0_1)).bind fun t252 => (some t252)) else (none))) = some r := h
  clear h
  obtain ⟨t251, A2, H⟩ := OB H
  try dsimp only at H
  replace A2 := AM A2
  by_cases c3 : t251.size + a0_1.size ≤ 9223372036854775807
  · rw [if_pos c3] at H
    have c3b0 := eq_true c3
    have c3b1 : decide (t251.size + a0_1.size ≤ 9223372036854775807) = true := decide_eq_true c3
    try have c3b2 : (9223372036854775807 < t251.size + a0_1.size) = False := eq_false (Nat.not_lt.2 c3)
    obtain ⟨t252, A4, H⟩ := OB H
    try dsimp only at H
    replace A4 := AM A4
    obtain rfl := Option.some.inj H
    go_enter Tryd.func88, Tryd.ntmps88
    try go_wp2_with (first | ((with_reducible refine gate_dst (N := 1) rfl ?_); refine be_ 1 #[.int .i64 a0_0, .string a0_1] 60 ?_; intro gb250 hg w5 hbox hb; have BK250 := AM hbox; have GW250 := AM ((by rw [hg]; exact (below_size bel_) : w.heap.size ≤ gb250)); have GE250 := AM ((by rw [hg]; exact (below_size bel_) : w.heap.size ≤ gb250)); replace HB := AM (below_step bel_ hb); clear hb hbox hg))
    replace BK250 := AM (blk_drew BK250.out)
    replace HB := AM (below_drew1 HB.out)
    refine start_ (n := 8) (S := fun w' => w'.cell? ⟨gb250, 0, none⟩ = some (.int .i64 a0_0) ∧ w'.cell? ⟨gb250, 1, none⟩ = some (.string a0_1)) (ds := []) #[false, false, false, false, false, false, false, false] (by kernel_rfl) rfl rfl ⟨(blk_cell BK250.out 0).trans rfl, (blk_cell BK250.out 1).trans rfl⟩ (fun hHeld => ?_); refine with_tabW impl_Blob_key.tab1 impl_Blob_key.bits1 (fun HT_ HW_ => ?_)
    generalize w5.drew = w6 at BK250 HB hHeld ⊢
    refine pu_ HT_ 0 (some 3) #[true, false, false, false, false, false, false, false] ?_
    refine pu_ HT_ 3 (some 6) #[true, false, false, true, false, false, false, false] ?_
    refine ta_ HT_ HW_ 1 (some 4) #[true, true, false, true, false, false, false, false] hHeld ?_
    refine ta_ HT_ HW_ 4 (some 7) #[true, true, false, true, true, false, false, false] hHeld ?_
    refine on_ HT_ 2 (some 5) #[true, true, true, true, true, false, false, false] (fun K hK => ?_)
    refine go1_ Tryd.func123 #[.int .i64 a0_0] ?_
    with_reducible refine (impl_PutNum.calls k a0_0 t251 _ A2.out).mono ?_
    rintro e w7 ⟨rfl, hb⟩
    refine ⟨_, rfl, ?_⟩
    replace BK250 := AM (blk_below (g := gb250) (o := .cells #[.int .i64 a0_0, .string a0_1] 60 (0, 0)) (bk_ BK250.out) hb)
    replace HB := AM (below_step bel_ hb)
    (try clear hb)
    (try clear hb2)
    (try clear hk)
    (try clear hi)
    refine hK.out _ _ ⟨(blk_cell BK250.out 0).trans rfl, (blk_cell BK250.out 1).trans rfl⟩ (fun hHeld => ?_)
    clear hK K
    refine nm_ ?_
    refine pu_ HT_ 5 (some 8) #[true, true, true, true, true, true, false, false] ?_
    refine on_ HT_ 6 (some 9) #[true, true, true, true, true, true, true, false] (fun K hK => ?_)
    refine go1_ Tryd.func54 #[.string (t251 ++ a0_1)] ?_
    with_reducible refine (impl_digest.calls (t251 ++ a0_1) t252 _ A4.out).mono ?_
    rintro e w8 ⟨rfl, hb⟩
    refine ⟨_, rfl, ?_⟩
    replace BK250 := AM (blk_below (g := gb250) (o := .cells #[.int .i64 a0_0, .string a0_1] 60 (0, 0)) (bk_ BK250.out) hb)
    replace HB := AM (below_step bel_ hb)
    (try clear hb)
    (try clear hb2)
    (try clear hk)
    (try clear hi)
    refine hK.out _ _ ⟨(blk_cell BK250.out 0).trans rfl, (blk_cell BK250.out 1).trans rfl⟩ (fun hHeld => ?_)
    clear hK K
    refine nm_ ?_
    refine pu_ HT_ 7 (some 2) #[true, true, true, true, true, true, true, true] ?_
    refine dn_ HT_ ?_
    try go_wp2
    go_ret
    exact ⟨ri_, bel_⟩
  · rw [if_neg c3] at H
    exact absurd H (by simp)

/-! ### impl_Blob: function 93 -/
def impl_Blob.f (l0 : List (S60)) : Option (Int) := some (l0.length : Int)
set_option maxHeartbeats 8000000 in
set_option maxRecDepth 100000 in
theorem impl_Blob.calls (A0 : Option Addr) (c0 : Nat) (l0 : List (S60)) (r : Int) (w : World) (hr0 : Kd.C k60 w A0 l0.length l0) (hc0 : l0.length ≤ c0) (h : impl_Blob.f l0 = some r) :
    Calls Tryd.prog 93 #[.slice A0 l0.length c0] w fun e w' => e = .returned (.int .i64 r) ∧ Drawn0 w w' := by
  have HR0 := AM hr0
  have HC0 := AM hc0
  clear hr0 hc0
  have H : (some (l0.length : Int)) = some r := h
  clear h
  obtain rfl := Option.some.inj H
  go_enter Tryd.func93, Tryd.ntmps93
  go_wp2
  go_ret
  exact ⟨by first | rfl | (simp; done) | (simp [*]; done), by repeat (first | exact Drawn0.refl _ | apply Drawn0.step)⟩

/-! ### impl_putText: function 124 -/
def impl_putText.f (k : Nat) (a0 : ByteArray) : Option (ByteArray) := (impl_long.f a0).bind fun t253 => ((impl_PutNum.f k t253).bind fun t254 => (if t254.size + a0.size ≤ 9223372036854775807 then (some (t254 ++ a0)) else (none)))
theorem impl_putText.mono : ∀ a0 k, LeO (impl_putText.f k a0) (impl_putText.f (k + 1) a0) := by
  intro a0 k
  unfold impl_putText.f
  repeat' first
      | (with_reducible exact impl_PutNum.mono _ _)
      | (with_reducible exact LeO.refl _)
      | (with_reducible exact LeO.none _)
      | (with_reducible refine LeO.ite ?_ ?_)
      | (with_reducible refine LeO.bind ?_ (fun _ => ?_))
      | exact impl_PutNum.mono _ _
      | exact LeO.none _
      | refine LeO.ite ?_ ?_
      | refine LeO.bind ?_ (fun _ => ?_)
set_option maxHeartbeats 8000000 in
set_option maxRecDepth 100000 in
theorem impl_putText.calls (k : Nat) (a0 : ByteArray) (r : ByteArray) (w : World) (h : impl_putText.f k a0 = some r) :
    Calls Tryd.prog 124 #[.string a0] w fun e w' => e = .returned (.string r) ∧ Below w.heap.size w w' := by
  have HB := AM (Below.refl w.heap.size w)
  have H : ((impl_long.f a0).bind fun t253 => ((impl_PutNum.f k t253).bind fun t254 => (if t254.size + a0.size ≤ 9223372036854775807 then (some (t254 ++ a0)) else (none)))) = some r := h
  clear h
  obtain ⟨t253, A2, H⟩ := OB H
  try dsimp only at H
  replace A2 := AM A2
  obtain ⟨t254, A3, H⟩ := OB H
  try dsimp only at H
  replace A3 := AM A3
  by_cases c4 : t254.size + a0.size ≤ 9223372036854775807
  · rw [if_pos c4] at H
    have c4b0 := eq_true c4
    have c4b1 : decide (t254.size + a0.size ≤ 9223372036854775807) = true := decide_eq_true c4
    try have c4b2 : (9223372036854775807 < t254.size + a0.size) = False := eq_false (Nat.not_lt.2 c4)
    obtain rfl := Option.some.inj H
    go_enter Tryd.func124, Tryd.ntmps124
    go_wp2_with (first | ((with_reducible refine gate_callee (f := 42) rfl ?_); refine gl_ (some 4) Tryd.func42 #[.string a0] ?_; (with_reducible refine (impl_long.calls a0 t253 _ A2.out).mono ?_); rintro e w' ⟨rfl, ⟨nd, rfl⟩⟩; refine ⟨_, rfl, ?_⟩) | ((with_reducible refine gate_callee (f := 123) rfl ?_); refine gl_ (some 5) Tryd.func123 #[.int .i64 t253] ?_; (with_reducible refine (impl_PutNum.calls k t253 t254 _ A3.out).mono ?_); rintro e w5 ⟨rfl, hb⟩; refine ⟨_, rfl, ?_⟩; replace HB := AM (below_step bel_ hb); (try clear hb); (try clear hb2); (try clear hk); (try clear hi)))
    go_ret
    exact ⟨ri_, bel_⟩
  · rw [if_neg c4] at H
    exact absurd H (by simp)

end Go.Proofs.YtfffdndeccipnaaDoor.PFnExactPackRead
