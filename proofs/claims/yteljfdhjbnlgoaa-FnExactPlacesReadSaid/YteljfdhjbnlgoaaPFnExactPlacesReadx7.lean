-- A program of this session wrote this text: a changed copy of the kit print, with given functions.
import Derived.Test.YteljfdhjbnlgoaaPFnExactPlacesReadx0
import Derived.Test.YteljfdhjbnlgoaaPFnExactPlacesReadx2
import Derived.Test.YteljfdhjbnlgoaaPFnExactPlacesReadx4
import Derived.Test.YteljfdhjbnlgoaaPFnExactPlacesReadx5
import Derived.Test.YteljfdhjbnlgoaaPFnExactPlacesReadx6
namespace Go.Proofs.Yteljfdhjbnlgoaa.PFnExactPlacesRead
open Go.RowKit Go.Proofs.YteljfdhjbnlgoaaW.PrintWords Go.Proofs.YteljfdhjbnlgoaaW.PrintLast Go.Proofs.YteljfdhjbnlgoaaW.PrintMore Go.Proofs.Yteljfdhjbnlgoaa.Aut
attribute [local go_sem] max2_int min2_int max_two min_two max_three min_three max_four min_four   -- for this text's walks alone
set_option linter.unusedVariables false
set_option linter.unusedSimpArgs false

/-! ### spec_PlacesRead: function 70 -/
mutual
def spec_PlacesRead.j0 : Nat → ByteArray → List (S50) → Int → Bool → ByteArray → Int → Bool → Option ((List (S50)) × Int)
  | 0, _, _, _, _, _, _, _ => none
  | k + 1, x0, x4, x5, x22, x125000, x125001, x125002 => if x22 = true then (spec_PlacesRead.j1 k x0 x4 x5 x125000 x125001 true) else (spec_PlacesRead.j1 k x0 x4 x5 x125000 x125001 x125002)
def spec_PlacesRead.j1 : Nat → ByteArray → List (S50) → Int → ByteArray → Int → Bool → Option ((List (S50)) × Int)
  | 0, _, _, _, _, _, _ => none
  | k + 1, x0, x4, x5, x125000, x125001, x125002 => spec_PlacesRead.l0 k x0 x4 x5 x125000 x125001 x125002
def spec_PlacesRead.l0 : Nat → ByteArray → List (S50) → Int → ByteArray → Int → Bool → Option ((List (S50)) × Int)
  | 0, _, _, _, _, _, _ => none
  | k + 1, x0, x4, x5, x125000, x125001, x125002 => if x5 > 0 then (spec_PlacesRead.j3 k x0 x4 x5 (!x125002) x125000 x125001 x125002) else (spec_PlacesRead.j3 k x0 x4 x5 false x125000 x125001 x125002)
def spec_PlacesRead.j3 : Nat → ByteArray → List (S50) → Int → Bool → ByteArray → Int → Bool → Option ((List (S50)) × Int)
  | 0, _, _, _, _, _, _, _ => none
  | k + 1, x0, x4, x5, x34, x125000, x125001, x125002 => if x34 = true then ((spec_l10Reader_bytes.f x125000 x125001 x125002 32).bind fun bt134 => ((spec_l10Reader_text.f k bt134.2.1 bt134.2.2.1 bt134.2.2.2).bind fun bt138 => ((spec_l10Reader_num.f k bt138.2.1 bt138.2.2.1 bt138.2.2.2).bind fun bt142 => ((spec_l10Reader_num.f k bt142.2.1 bt142.2.2.1 bt142.2.2.2).bind fun bt146 => ((spec_l10Reader_num.f k bt146.2.1 bt146.2.2.1 bt146.2.2.2).bind fun bt150 => (if x4.length < 2513169434916 then (spec_PlacesRead.l0 k x0 (x4 ++ [(⟨bt134.1, bt138.1, bt142.1, bt146.1, bt150.1⟩ : S50)]) (wrap64 (x5 - 1)) bt150.2.1 bt150.2.2.1 bt150.2.2.2) else (none))))))) else (if x125002 = true then (some (([] : List (S50)), 3)) else (if x125001 < (x0.size : Int) then (some (([] : List (S50)), 3)) else ((spec_PlacesRight.f k x4).bind fun t132 => (if t132 = true then (some (x4, 0)) else (some (([] : List (S50)), 3))))))
end
def spec_PlacesRead.f (k : Nat) (a0 : ByteArray) : Option ((List (S50)) × Int) := if (a0.size : Int) > 20000 then (some (([] : List (S50)), 2)) else ((some (([] : List (S50)) : List (S50))).bind fun y125 => ((spec_l10Reader_num.f k a0 0 false).bind fun bt128 => (if bt128.1 < 0 then (spec_PlacesRead.j0 k a0 y125 bt128.1 true bt128.2.1 bt128.2.2.1 bt128.2.2.2) else (spec_PlacesRead.j0 k a0 y125 bt128.1 (decide (bt128.1 > 300)) bt128.2.1 bt128.2.2.1 bt128.2.2.2))))
theorem spec_PlacesRead.mono_l : ∀ k, (∀ y0 y1 y2 y3 y4 y5 y6, LeO (spec_PlacesRead.j0 k y0 y1 y2 y3 y4 y5 y6) (spec_PlacesRead.j0 (k + 1) y0 y1 y2 y3 y4 y5 y6)) ∧ (∀ y0 y1 y2 y3 y4 y5, LeO (spec_PlacesRead.j1 k y0 y1 y2 y3 y4 y5) (spec_PlacesRead.j1 (k + 1) y0 y1 y2 y3 y4 y5)) ∧ (∀ y0 y1 y2 y3 y4 y5, LeO (spec_PlacesRead.l0 k y0 y1 y2 y3 y4 y5) (spec_PlacesRead.l0 (k + 1) y0 y1 y2 y3 y4 y5)) ∧ (∀ y0 y1 y2 y3 y4 y5 y6, LeO (spec_PlacesRead.j3 k y0 y1 y2 y3 y4 y5 y6) (spec_PlacesRead.j3 (k + 1) y0 y1 y2 y3 y4 y5 y6))
  | 0 => ⟨fun _ _ _ _ _ _ _ r h => by simp [spec_PlacesRead.j0] at h, fun _ _ _ _ _ _ r h => by simp [spec_PlacesRead.j1] at h, fun _ _ _ _ _ _ r h => by simp [spec_PlacesRead.l0] at h, fun _ _ _ _ _ _ _ r h => by simp [spec_PlacesRead.j3] at h⟩
  | k + 1 => by
    obtain ⟨ih0, ih1, ih2, ih3⟩ := spec_PlacesRead.mono_l k
    refine ⟨?_, ?_, ?_, ?_⟩
    · intro y0 y1 y2 y3 y4 y5 y6
      unfold spec_PlacesRead.j0
      repeat' first
      | (with_reducible exact ih0 _ _ _ _ _ _ _)
      | (with_reducible exact ih1 _ _ _ _ _ _)
      | (with_reducible exact ih2 _ _ _ _ _ _)
      | (with_reducible exact ih3 _ _ _ _ _ _ _)
      | (with_reducible exact spec_PlacesRight.mono _ _)
      | (with_reducible exact spec_l10Reader_num.mono _ _ _ _)
      | (with_reducible exact spec_l10Reader_text.mono _ _ _ _)
      | (with_reducible exact LeO.refl _)
      | (with_reducible exact LeO.none _)
      | (with_reducible refine LeO.ite ?_ ?_)
      | (with_reducible refine LeO.bind ?_ (fun _ => ?_))
      | exact ih0 _ _ _ _ _ _ _
      | exact ih1 _ _ _ _ _ _
      | exact ih2 _ _ _ _ _ _
      | exact ih3 _ _ _ _ _ _ _
      | exact spec_PlacesRight.mono _ _
      | exact spec_l10Reader_num.mono _ _ _ _
      | exact spec_l10Reader_text.mono _ _ _ _
      | exact LeO.none _
      | refine LeO.ite ?_ ?_
      | refine LeO.bind ?_ (fun _ => ?_)
    · intro y0 y1 y2 y3 y4 y5
      unfold spec_PlacesRead.j1
      repeat' first
      | (with_reducible exact ih0 _ _ _ _ _ _ _)
      | (with_reducible exact ih1 _ _ _ _ _ _)
      | (with_reducible exact ih2 _ _ _ _ _ _)
      | (with_reducible exact ih3 _ _ _ _ _ _ _)
      | (with_reducible exact spec_PlacesRight.mono _ _)
      | (with_reducible exact spec_l10Reader_num.mono _ _ _ _)
      | (with_reducible exact spec_l10Reader_text.mono _ _ _ _)
      | (with_reducible exact LeO.refl _)
      | (with_reducible exact LeO.none _)
      | (with_reducible refine LeO.ite ?_ ?_)
      | (with_reducible refine LeO.bind ?_ (fun _ => ?_))
      | exact ih0 _ _ _ _ _ _ _
      | exact ih1 _ _ _ _ _ _
      | exact ih2 _ _ _ _ _ _
      | exact ih3 _ _ _ _ _ _ _
      | exact spec_PlacesRight.mono _ _
      | exact spec_l10Reader_num.mono _ _ _ _
      | exact spec_l10Reader_text.mono _ _ _ _
      | exact LeO.none _
      | refine LeO.ite ?_ ?_
      | refine LeO.bind ?_ (fun _ => ?_)
    · intro y0 y1 y2 y3 y4 y5
      unfold spec_PlacesRead.l0
      repeat' first
      | (with_reducible exact ih0 _ _ _ _ _ _ _)
      | (with_reducible exact ih1 _ _ _ _ _ _)
      | (with_reducible exact ih2 _ _ _ _ _ _)
      | (with_reducible exact ih3 _ _ _ _ _ _ _)
      | (with_reducible exact spec_PlacesRight.mono _ _)
      | (with_reducible exact spec_l10Reader_num.mono _ _ _ _)
      | (with_reducible exact spec_l10Reader_text.mono _ _ _ _)
      | (with_reducible exact LeO.refl _)
      | (with_reducible exact LeO.none _)
      | (with_reducible refine LeO.ite ?_ ?_)
      | (with_reducible refine LeO.bind ?_ (fun _ => ?_))
      | exact ih0 _ _ _ _ _ _ _
      | exact ih1 _ _ _ _ _ _
      | exact ih2 _ _ _ _ _ _
      | exact ih3 _ _ _ _ _ _ _
      | exact spec_PlacesRight.mono _ _
      | exact spec_l10Reader_num.mono _ _ _ _
      | exact spec_l10Reader_text.mono _ _ _ _
      | exact LeO.none _
      | refine LeO.ite ?_ ?_
      | refine LeO.bind ?_ (fun _ => ?_)
    · intro y0 y1 y2 y3 y4 y5 y6
      unfold spec_PlacesRead.j3
      repeat' first
      | (with_reducible exact ih0 _ _ _ _ _ _ _)
      | (with_reducible exact ih1 _ _ _ _ _ _)
      | (with_reducible exact ih2 _ _ _ _ _ _)
      | (with_reducible exact ih3 _ _ _ _ _ _ _)
      | (with_reducible exact spec_PlacesRight.mono _ _)
      | (with_reducible exact spec_l10Reader_num.mono _ _ _ _)
      | (with_reducible exact spec_l10Reader_text.mono _ _ _ _)
      | (with_reducible exact LeO.refl _)
      | (with_reducible exact LeO.none _)
      | (with_reducible refine LeO.ite ?_ ?_)
      | (with_reducible refine LeO.bind ?_ (fun _ => ?_))
      | exact ih0 _ _ _ _ _ _ _
      | exact ih1 _ _ _ _ _ _
      | exact ih2 _ _ _ _ _ _
      | exact ih3 _ _ _ _ _ _ _
      | exact spec_PlacesRight.mono _ _
      | exact spec_l10Reader_num.mono _ _ _ _
      | exact spec_l10Reader_text.mono _ _ _ _
      | exact LeO.none _
      | refine LeO.ite ?_ ?_
      | refine LeO.bind ?_ (fun _ => ?_)
theorem spec_PlacesRead.mono : ∀ a0 k, LeO (spec_PlacesRead.f k a0) (spec_PlacesRead.f (k + 1) a0) := by
  intro a0 k
  obtain ⟨ih0, ih1, ih2, ih3⟩ := spec_PlacesRead.mono_l k
  unfold spec_PlacesRead.f
  repeat' first
      | (with_reducible exact ih0 _ _ _ _ _ _ _)
      | (with_reducible exact ih1 _ _ _ _ _ _)
      | (with_reducible exact ih2 _ _ _ _ _ _)
      | (with_reducible exact ih3 _ _ _ _ _ _ _)
      | (with_reducible exact spec_PlacesRight.mono _ _)
      | (with_reducible exact spec_l10Reader_num.mono _ _ _ _)
      | (with_reducible exact spec_l10Reader_text.mono _ _ _ _)
      | (with_reducible exact LeO.refl _)
      | (with_reducible exact LeO.none _)
      | (with_reducible refine LeO.ite ?_ ?_)
      | (with_reducible refine LeO.bind ?_ (fun _ => ?_))
      | exact ih0 _ _ _ _ _ _ _
      | exact ih1 _ _ _ _ _ _
      | exact ih2 _ _ _ _ _ _
      | exact ih3 _ _ _ _ _ _ _
      | exact spec_PlacesRight.mono _ _
      | exact spec_l10Reader_num.mono _ _ _ _
      | exact spec_l10Reader_text.mono _ _ _ _
      | exact LeO.none _
      | refine LeO.ite ?_ ?_
      | refine LeO.bind ?_ (fun _ => ?_)
set_option maxHeartbeats 8000000 in
set_option maxRecDepth 100000 in
theorem spec_PlacesRead.calls (k : Nat) (a0 : ByteArray) (r1 : List (S50)) (r2 : Int) (w : World) (h : spec_PlacesRead.f k a0 = some (r1, r2)) :
    Calls Try.prog 70 #[.string a0] w fun e w' => ∃ v0_ : Value, e = .returned (.agg #[v0_, .int .i64 r2]) ∧ Kd.R k50 50 w' w.heap.size (fun _ => True) v0_ r1 ∧ Below w.heap.size w w' := by
  have hu101 := Try.underlying101
  have hu149 := Try.underlying149
  have hu50 := Try.underlying50
  have HB := AM (Below.refl w.heap.size w)
  have H : (if (a0.size : Int) > 20000 then (some (([] : List (S50)), 2)) else ((some (([] : List (S50)) : List (S50))).bind fun y125 => ((spec_l10Reader_num.f k a0 0 false).bind fun bt128 => (if bt128.1 < 0 then (spec_PlacesRead.j0 k a0 y125 bt128.1 true bt128.2.1 bt128.2.2.1 bt128.2.2.2) else (spec_PlacesRead.j0 k a0 y125 bt128.1 (decide (bt128.1 > 300)) bt128.2.1 bt128.2.2.1 bt128.2.2.2))))) = some (r1, r2) := h
  clear h
  by_cases c2 : (a0.size : Int) > 20000
  · rw [if_pos c2] at H
    have c2b0 : decide (20000 < (a0.size : Int)) = true := decide_eq_true c2
    have c2b1 : decide (20000 < a0.size) = true := decide_eq_true (by omega)
    clear c2
    simp only [Option.some.injEq, Prod.mk.injEq] at H
    obtain ⟨rfl, rfl⟩ := H
    go_enter Try.func70, Try.ntmps70
    go_wp2_with (first | ((with_reducible refine gate_dst (N := 2) rfl ?_); (try (refine gate_guard (by rfl) ?_; dsimp only)); refine be_ 2 #[.slice none 0 0, .int .i64 0] 101 ?_; intro gb123 hg w3 hbox hb; have BK123 := AM hbox; have GW123 := AM ((by rw [hg]; exact (below_size bel_) : w.heap.size ≤ gb123)); have GE123 := AM ((by rw [hg]; exact (below_size bel_) : w.heap.size ≤ gb123)); replace HB := AM (below_step bel_ hb); clear hb hbox hg; have hcz4_0 : w3.cell? ⟨gb123, 0, none⟩ = some (.slice none 0 0) := (blk_cell BK123.out 0).trans rfl; have hcz4_1 : w3.cell? ⟨gb123, 1, none⟩ = some (.int .i64 0) := (blk_cell BK123.out 1).trans rfl; have hfz4_0 := blk_frozen BK123.out 0; have hfz4_1 := blk_frozen BK123.out 1))
    refine bodyPost_ret (results_cell_row rfl _ _ gb123 101 #[.slice none 0 0, .int .i64 2] (0, 0) _ rfl bka_ Try.underlying101 rfl (by kernel_rfl)) rfl ?_
    exact ⟨_, ri_, by first | exact Kd.R_nil _ _ _ _ _ | exact Kd.N_nil _ _ _ _ _ | exact Kd.V_nil _ _ _ _ _ | exact Kd.Q_nil _ _ _ _ _ | exact Kd.S_nil _ _ _ _ _, bel_⟩
  · rw [if_neg c2] at H
    have c2b0 : decide (20000 < (a0.size : Int)) = false := decide_eq_false c2
    have c2b1 : decide (20000 < a0.size) = false := decide_eq_false (by omega)
    clear c2
    obtain ⟨y125, hy125⟩ : ∃ y_ : List (S50), y_ = (([] : List (S50))) := ⟨_, rfl⟩
    replace H : ((spec_l10Reader_num.f k a0 0 false).bind fun bt128 => (if bt128.1 < 0 then (spec_PlacesRead.j0 k a0 y125 bt128.1 true bt128.2.1 bt128.2.2.1 bt128.2.2.2) else (spec_PlacesRead.j0 k a0 y125 bt128.1 (decide (bt128.1 > 300)) bt128.2.1 bt128.2.2.1 bt128.2.2.2))) = some (r1, r2) := by first | (rw [hy125]; with_reducible exact H) | (have H2_ := (Option.bind_some _ _).symm.trans H; rw [hy125]; with_reducible exact H2_) | (have H2_ := (Option.bind_some _ _).symm.trans H; with_reducible exact H2_) | with_reducible exact H | (rw [hy125]; exact H) | exact H
    have Ny125 := AM hy125
    clear hy125
    obtain ⟨⟨t128, t129, t130, t131⟩, A5, H⟩ := OB H
    try dsimp only at H
    replace A5 := AM A5
    have HC6 := AM H
    clear H
    go_enter Try.func70, Try.ntmps70
    go_upto_region 6 with (first | ((with_reducible refine gate_dst (N := 2) rfl ?_); (try (refine gate_guard (by rfl) ?_; dsimp only)); refine be_ 2 #[.slice none 0 0, .int .i64 0] 101 ?_; intro gb123 hg w7 hbox hb; have BK123 := AM hbox; have GW123 := AM ((by rw [hg]; exact (below_size bel_) : w.heap.size ≤ gb123)); have GE123 := AM ((by rw [hg]; exact (below_size bel_) : w.heap.size ≤ gb123)); replace HB := AM (below_step bel_ hb); clear hb hbox hg) | ((with_reducible refine gate_dst (N := 13) rfl ?_); (try (refine gate_guard (by rfl) ?_; dsimp only)); refine be_ 13 #[.string a0, .int .i64 0, .bool false] 149 ?_; intro gb124 hg w8 hbox hb; have NB123_124 := AM ((by rw [hg]; exact Nat.ne_of_lt (blk_lt (g := gb123) (o := .cells #[.slice none 0 0, .int .i64 0] 101 (0, 0)) (bk_ BK123.out)) : gb123 ≠ gb124)); have NB124_123 := AM ((by rw [hg]; exact Nat.ne_of_gt (blk_lt (g := gb123) (o := .cells #[.slice none 0 0, .int .i64 0] 101 (0, 0)) (bk_ BK123.out)) : gb124 ≠ gb123)); replace BK123 := AM (blk_below (g := gb123) (o := .cells #[.slice none 0 0, .int .i64 0] 101 (0, 0)) (bk_ BK123.out) hb); have HI124 := AM ((⟨hbox, (by rw [hg]; exact (below_size bel_) : w.heap.size ≤ gb124)⟩ : IsS149 w w8 gb124 a0 0 false)); replace HB := AM (below_step bel_ hb); clear hb hbox hg) | ((with_reducible refine gate_dst (N := 14) rfl ?_); (try (refine gate_guard (by rfl) ?_; dsimp only)); refine Kd.R_lit k50 _ 50 ?hg (N := 14) ?hd (xs := ([] : List (S50))) (inner := []) (ok := fun _ => True) (okp := fun _ => True) ?hr ?hp (fun _ hk => hk) trivial (Below.refl _ _) (Nat.le_refl _) (by simp) ?_; (case hd => rfl); (case hg => rfl); (case hr => first | (go_simp; done) | (go_simp; rfl)); (case hp => exact (Reps.none _ _)); intro v126 w9 ho10 hb hg_ hnew_; clear hg_ hnew_; (first | rw [← Ny125.out] at ho10 | (simp only [Int.reduceToNat] at ho10; rw [← Ny125.out] at ho10)); have HO127 := AM (Kd.R_lower ho10 (below_size (belg_ (IsS149.ge HI124.out)))); replace BK123 := AM (blk_below (g := gb123) (o := .cells #[.slice none 0 0, .int .i64 0] 101 (0, 0)) (bk_ BK123.out) hb); replace HB := AM (below_step (belg_ (IsS149.ge HI124.out)) hb); replace HI124 := AM (IsS149.below is149_ hb); clear hb ho10) | ((with_reducible refine gate_callee (f := 134) rfl ?_); refine gl_ (some 16) Try.func134 #[.pointer (some ⟨gb124, 0, none⟩)] ?_; (with_reducible refine (spec_l10Reader_num.calls k gb124 a0 0 false t128 t129 t130 t131 w _ ?side1 ?side2 A5.out).mono ?_); (case side1 => repeat (first | (with_reducible first | exact HI124.out | apply IsS149.alloc | apply IsS149.drewN | apply IsS149.drew | apply IsS149.set_0 | apply IsS149.set_1 | apply IsS149.set_2 | refine IsS149.far ?_ NB124_123.out _) | exact HI124.out)); (case side2 => repeat (first | (with_reducible first | exact HB.out | apply below_alloc | apply pw_below_drewN | apply below_drew1 | refine below_set ?_ (IsS149.ge HI124.out) | refine below_set ?_ GE123.out) | exact HB.out)); rintro e w11 ⟨rfl, hi, hb, hk⟩; refine ⟨_, rfl, ?_⟩; replace BK123 := AM (KeepBut.blk hk (g' := gb123) (o := .cells #[.slice none 0 0, .int .i64 0] 101 (0, 0)) (bk_ BK123.out) NB123_124.out (by simp)); replace HO127 := AM (Kd.R_mono (Kd.R_keep (IsS149.apart (show IsS149 w _ gb124 a0 0 false from is149_) (ro_ HO127.out) (by decide)) hk (fun _ h => h.2)) (fun _ h => h.1)); replace HB := AM hb; replace HI124 := AM hi; (try clear hb); (try clear hb2); (try clear hk); (try clear hi)))
    (try simp only [Act.put, List.setIfInBounds_toArray, List.set_cons_zero, List.set_cons_succ])
    go_cut [22] (fun v22 wc => ∃ (kq : Nat) (x22_5 : Bool), v22 = .bool x22_5 ∧ Aside0 (spec_PlacesRead.j0 kq a0 y125 t128 x22_5 t129 t130 t131 = some (r1, r2)) ∧ Aside0 (kq ≤ k) ∧ Aside0 (Kd.R k50 50 wc w.heap.size (fun _ => True) v126 y125) ∧ Aside0 (wc.heap[gb123]? = some (.cells #[(.slice none 0 0), .int .i64 0] 101 (0, 0))) ∧ Aside0 (IsS149 w wc gb124 t129 t130 t131) ∧ Aside0 (Below w.heap.size w wc))
    case first =>
      have H := HC6.out
      clear HC6
      by_cases c12 : t128 < 0
      · rw [if_pos c12] at H
        have c12b0 : decide (t128 < 0) = true := decide_eq_true c12
        clear c12
        (first | rw [c12b0] | (simp only [i64_w, i32_w]; rw [c12b0]) | skip)
        have H' := AM H
        clear H
        go_wp2
        go_meet
        case rel => exact ⟨_, (true), (by first | rfl | (simp; done) | (simp [*]; done)), H', ⟨by first | omega | exact Nat.le_refl _⟩, ⟨ro_ HO127.out⟩, ⟨bk_ BK123.out⟩, ⟨is149_⟩, ⟨belg_ (IsS149.ge HI124.out)⟩⟩
      · rw [if_neg c12] at H
        have c12b0 : decide (t128 < 0) = false := decide_eq_false c12
        clear c12
        (first | rw [c12b0] | (simp only [i64_w, i32_w]; rw [c12b0]) | skip)
        have H' := AM H
        clear H
        go_wp2
        go_meet
        case rel => exact ⟨_, (decide (t128 > 300)), (by first | rfl | (simp; done) | (simp [*]; done)), H', ⟨by first | omega | exact Nat.le_refl _⟩, ⟨ro_ HO127.out⟩, ⟨bk_ BK123.out⟩, ⟨is149_⟩, ⟨belg_ (IsS149.ge HI124.out)⟩⟩
    case rest =>
      clear HC6
      try clear c1
      try clear c2
      try clear c2b0
      try clear c2b1
      try clear p2
      try clear c7
      try clear c12
      try clear c12b0
      try clear hcz4_0
      try clear hcz4_1
      try clear hfz4_0
      try clear hfz4_1
      obtain ⟨kq, x22_5, rfl, HA, HJ5, HO_4, BK123, HI124, HB⟩ := hcut
      cases kq with
      | zero => exact absurd HA.out (by simp [spec_PlacesRead.j0])
      | succ kj5 =>
        have H := HA.out
        clear HA
        simp only [spec_PlacesRead.j0] at H
        have HC13 := AM H
        clear H
        go_upto_if 22 with (fail)
        go_cut [] (fun wc => ∃ (kq : Nat) (x125002_12 : Bool), Aside0 (spec_PlacesRead.j1 kq a0 y125 t128 t129 t130 x125002_12 = some (r1, r2)) ∧ Aside0 (kq ≤ kj5) ∧ Aside0 (Kd.R k50 50 wc w.heap.size (fun _ => True) v126 y125) ∧ Aside0 (wc.heap[gb123]? = some (.cells #[(.slice none 0 0), .int .i64 0] 101 (0, 0))) ∧ Aside0 (IsS149 w wc gb124 t129 t130 x125002_12) ∧ Aside0 (Below w.heap.size w wc))
        case first =>
          have H := HC13.out
          clear HC13
          by_cases c14 : x22_5 = true
          · subst c14
            rw [if_pos rfl] at H
            have H' := AM H
            clear H
            obtain ⟨HGz15, hgz15⟩ := HI124.out
            have hcz15_0 := cellS149_0 HGz15
            have hcz15_1 := cellS149_1 HGz15
            have hcz15_2 := cellS149_2 HGz15
            have hfz15_0 := blk_frozen HGz15 0
            have hfz15_1 := blk_frozen HGz15 1
            have hfz15_2 := blk_frozen HGz15 2
            clear HGz15 hgz15
            go_wp2
            go_meet
            case rel => exact ⟨_, (true), H', ⟨by have := HJ5.out; first | omega | exact Nat.le_refl _⟩, ⟨by (with_reducible repeat (first | apply Kd.R_alloc | apply Kd.R_drewN | apply Kd.R_drew)); exact Kd.R_mono (Kd.R_far (p := ⟨gb124, 2, none⟩) (IsS149.apart HI124.out HO_4.out (by decide)) (fun _ hk => hk.2) (.bool true)) (fun _ hk => trivial)⟩, ⟨bka_⟩, ⟨is149_⟩, ⟨belg_ (IsS149.ge HI124.out)⟩⟩
          · replace c14 := Bool.eq_false_iff.mpr c14
            subst c14
            rw [if_neg (show ¬ (false = true) by decide)] at H
            have H' := AM H
            clear H
            go_wp2
            go_meet
            case rel => exact ⟨_, (t131), H', ⟨by have := HJ5.out; first | omega | exact Nat.le_refl _⟩, ⟨ro_ HO_4.out⟩, ⟨bk_ BK123.out⟩, ⟨is149_⟩, ⟨belg_ (IsS149.ge HI124.out)⟩⟩
        case rest =>
          clear HC13
          try clear c1
          try clear c2
          try clear c2b0
          try clear c2b1
          try clear p2
          try clear c7
          try clear c12
          try clear c12b0
          try clear c13
          try clear c14
          try clear hcz15_0
          try clear hcz15_1
          try clear hcz15_2
          try clear hcz4_0
          try clear hcz4_1
          try clear hfz15_0
          try clear hfz15_1
          try clear hfz15_2
          try clear hfz4_0
          try clear hfz4_1
          try clear p2
          obtain ⟨kq, x125002_12, HA, HJ12, HO_4, BK123, HI124, HB⟩ := hcut
          cases kq with
          | zero => exact absurd HA.out (by simp [spec_PlacesRead.j1])
          | succ kj12 =>
            have H := HA.out
            clear HA
            simp only [spec_PlacesRead.j1] at H
            have H' := AM H
            clear H
            go_wp2
            go_loopg [4, 5] kj12 (fun kq v4 v5 w' => ∃ (x4_3 : List (S50)) (x5_3 : Int) (x125000_3 : ByteArray) (x125001_3 : Int) (x125002_3 : Bool), v5 = .int .i64 x5_3 ∧ Aside0 (spec_PlacesRead.l0 kq a0 x4_3 x5_3 x125000_3 x125001_3 x125002_3 = some (r1, r2)) ∧ Aside0 (kq ≤ kj12) ∧ Aside0 (Kd.R k50 50 w' w.heap.size (fun _ => True) v4 x4_3) ∧ Aside0 (w'.heap[gb123]? = some (.cells #[(.slice none 0 0), .int .i64 0] 101 (0, 0))) ∧ Aside0 (IsS149 w w' gb124 x125000_3 x125001_3 x125002_3) ∧ Aside0 (Below w.heap.size w w'))
            case atStart => exact ⟨(y125), (t128), (t129), (t130), (x125002_12), (by first | rfl | (simp; done) | (simp [*]; done)), H', ⟨Nat.le_refl _⟩, ⟨ro_ HO_4.out⟩, ⟨bk_ BK123.out⟩, ⟨is149_⟩, ⟨belg_ (IsS149.ge HI124.out)⟩⟩
            case round =>
              clear H'
              try clear c1
              try clear c2
              try clear c2b0
              try clear c2b1
              try clear p2
              try clear c7
              try clear c12
              try clear c12b0
              try clear c13
              try clear c14
              try clear hcz15_0
              try clear hcz15_1
              try clear hcz15_2
              try clear hcz4_0
              try clear hcz4_1
              try clear hfz15_0
              try clear hfz15_1
              try clear hfz15_2
              try clear hfz4_0
              try clear hfz4_1
              try clear p2
              obtain ⟨x4_3, x5_3, x125000_3, x125001_3, x125002_3, rfl, HA, HK3, HO_4, BK123, HI124, HB⟩ := hrel
              cases gk with
              | zero => exact absurd HA.out (by simp [spec_PlacesRead.l0])
              | succ k3 =>
                have H := HA.out
                clear HA
                simp only [spec_PlacesRead.l0] at H
                have HC16 := AM H
                clear H
                go_upto_region 8 with (fail)
                go_cut [34] (fun v34 wc => ∃ (kq : Nat) (x34_15 : Bool), v34 = .bool x34_15 ∧ Aside0 (spec_PlacesRead.j3 kq a0 x4_3 x5_3 x34_15 x125000_3 x125001_3 x125002_3 = some (r1, r2)) ∧ Aside0 (kq ≤ k3) ∧ Aside0 (Kd.R k50 50 wc w.heap.size (fun _ => True) u4 x4_3) ∧ Aside0 (wc.heap[gb123]? = some (.cells #[(.slice none 0 0), .int .i64 0] 101 (0, 0))) ∧ Aside0 (IsS149 w wc gb124 x125000_3 x125001_3 x125002_3) ∧ Aside0 (Below w.heap.size w wc))
                case first =>
                  have H := HC16.out
                  clear HC16
                  by_cases c17 : x5_3 > 0
                  · rw [if_pos c17] at H
                    have c17b0 : decide (0 < x5_3) = true := decide_eq_true c17
                    clear c17
                    (first | rw [c17b0] | (simp only [i64_w, i32_w]; rw [c17b0]) | skip)
                    have H' := AM H
                    clear H
                    obtain ⟨HGz18, hgz18⟩ := HI124.out
                    have hcz18_0 := cellS149_0 HGz18
                    have hcz18_1 := cellS149_1 HGz18
                    have hcz18_2 := cellS149_2 HGz18
                    have hfz18_0 := blk_frozen HGz18 0
                    have hfz18_1 := blk_frozen HGz18 1
                    have hfz18_2 := blk_frozen HGz18 2
                    clear HGz18 hgz18
                    go_wp2
                    go_meet
                    case rel => exact ⟨_, (!x125002_3), (by first | rfl | (simp; done) | (simp [*]; done)), H', ⟨by have := HJ5.out; have := HJ12.out; have := HK3.out; first | omega | exact Nat.le_refl _⟩, ⟨ro_ HO_4.out⟩, ⟨bk_ BK123.out⟩, ⟨is149_⟩, ⟨belg_ (IsS149.ge HI124.out)⟩⟩
                  · rw [if_neg c17] at H
                    have c17b0 : decide (0 < x5_3) = false := decide_eq_false c17
                    clear c17
                    (first | rw [c17b0] | (simp only [i64_w, i32_w]; rw [c17b0]) | skip)
                    have H' := AM H
                    clear H
                    go_wp2
                    go_meet
                    case rel => exact ⟨_, (false), (by first | rfl | (simp; done) | (simp [*]; done)), H', ⟨by have := HJ5.out; have := HJ12.out; have := HK3.out; first | omega | exact Nat.le_refl _⟩, ⟨ro_ HO_4.out⟩, ⟨bk_ BK123.out⟩, ⟨is149_⟩, ⟨belg_ (IsS149.ge HI124.out)⟩⟩
                case rest =>
                  clear HC16
                  try clear c1
                  try clear c2
                  try clear c2b0
                  try clear c2b1
                  try clear p2
                  try clear c7
                  try clear c12
                  try clear c12b0
                  try clear c13
                  try clear c14
                  try clear c17
                  try clear c17b0
                  try clear hcz15_0
                  try clear hcz15_1
                  try clear hcz15_2
                  try clear hcz18_0
                  try clear hcz18_1
                  try clear hcz18_2
                  try clear hcz4_0
                  try clear hcz4_1
                  try clear hfz15_0
                  try clear hfz15_1
                  try clear hfz15_2
                  try clear hfz18_0
                  try clear hfz18_1
                  try clear hfz18_2
                  try clear hfz4_0
                  try clear hfz4_1
                  try clear p2
                  obtain ⟨kq, x34_15, rfl, HA, HJ15, HO_4, BK123, HI124, HB⟩ := hcut
                  cases kq with
                  | zero => exact absurd HA.out (by simp [spec_PlacesRead.j3])
                  | succ kj15 =>
                    have H := HA.out
                    clear HA
                    simp only [spec_PlacesRead.j3] at H
                    by_cases c19 : x34_15 = true
                    · subst c19
                      rw [if_pos rfl] at H
                      obtain ⟨⟨t134, t135, t136, t137⟩, A20, H⟩ := OB H
                      try dsimp only at H
                      replace A20 := AM A20
                      obtain ⟨⟨t138, t139, t140, t141⟩, A21, H⟩ := OB H
                      try dsimp only at H
                      replace A21 := AM A21
                      obtain ⟨⟨t142, t143, t144, t145⟩, A22, H⟩ := OB H
                      try dsimp only at H
                      replace A22 := AM A22
                      obtain ⟨⟨t146, t147, t148, t149⟩, A23, H⟩ := OB H
                      try dsimp only at H
                      replace A23 := AM A23
                      obtain ⟨⟨t150, t151, t152, t153⟩, A24, H⟩ := OB H
                      try dsimp only at H
                      replace A24 := AM A24
                      by_cases c25 : x4_3.length < 2513169434916
                      · rw [if_pos c25] at H
                        have LMc25 := AM c25
                        clear c25
                        obtain ⟨y154, hy154⟩ : ∃ y_ : List (S50), y_ = (x4_3 ++ [(⟨t134, t138, t142, t146, t150⟩ : S50)]) := ⟨_, rfl⟩
                        replace H : (spec_PlacesRead.l0 kj15 a0 y154 (wrap64 (x5_3 - 1)) t151 t152 t153) = some (r1, r2) := by first | (rw [hy154]; with_reducible exact H) | (have H2_ := (Option.bind_some _ _).symm.trans H; rw [hy154]; with_reducible exact H2_) | (have H2_ := (Option.bind_some _ _).symm.trans H; with_reducible exact H2_) | with_reducible exact H | (rw [hy154]; exact H) | exact H
                        have Ny154 := AM hy154
                        clear hy154
                        have H' := AM H
                        clear H
                        go_wp2_with (first | ((with_reducible refine gate_dst (N := 6) rfl ?_); (try (refine gate_guard (by rfl) ?_; dsimp only)); refine be_ 6 #[.string (⟨#[]⟩ : ByteArray), .string (⟨#[]⟩ : ByteArray), .int .i64 0, .int .i64 0, .int .i64 0] 50 ?_; intro gb133 hg w26 hbox hb; replace HO_4 := AM (Kd.R_below (Kd.R_elderB (ro_ HO_4.out) gb133 (Nat.le_of_eq hg.symm)) hb); have BK133 := AM hbox; have GW133 := AM ((by rw [hg]; exact (below_size (belg_ (IsS149.ge HI124.out))) : w.heap.size ≤ gb133)); have GE133 := AM ((by rw [hg]; exact (below_size (belg_ (IsS149.ge HI124.out))) : w.heap.size ≤ gb133)); replace HB := AM (below_step (belg_ (IsS149.ge HI124.out)) hb); have NB123_133 := AM ((by rw [hg]; exact Nat.ne_of_lt (blk_lt (g := gb123) (o := .cells #[.slice none 0 0, .int .i64 0] 101 (0, 0)) (bk_ BK123.out)) : gb123 ≠ gb133)); have NB133_123 := AM ((by rw [hg]; exact Nat.ne_of_gt (blk_lt (g := gb123) (o := .cells #[.slice none 0 0, .int .i64 0] 101 (0, 0)) (bk_ BK123.out)) : gb133 ≠ gb123)); replace BK123 := AM (blk_below (g := gb123) (o := .cells #[.slice none 0 0, .int .i64 0] 101 (0, 0)) (bk_ BK123.out) hb); have NB124_133 := AM ((by rw [hg]; exact Nat.ne_of_lt (IsS149.lt (show IsS149 w _ gb124 x125000_3 x125001_3 x125002_3 from is149_)) : gb124 ≠ gb133)); have NB133_124 := AM ((by rw [hg]; exact Nat.ne_of_gt (IsS149.lt (show IsS149 w _ gb124 x125000_3 x125001_3 x125002_3 from is149_)) : gb133 ≠ gb124)); replace HI124 := AM (IsS149.below is149_ hb); clear hb hbox hg; have hnb27 := NB133_123.out; have hnc27 := NB123_133.out; have hnb28 := NB133_124.out; have hnc28 := NB124_133.out; have hcz29_0 : w26.cell? ⟨gb133, 0, none⟩ = some (.string (⟨#[]⟩ : ByteArray)) := (blk_cell BK133.out 0).trans rfl; have hcz29_1 : w26.cell? ⟨gb133, 1, none⟩ = some (.string (⟨#[]⟩ : ByteArray)) := (blk_cell BK133.out 1).trans rfl; have hcz29_2 : w26.cell? ⟨gb133, 2, none⟩ = some (.int .i64 0) := (blk_cell BK133.out 2).trans rfl; have hcz29_3 : w26.cell? ⟨gb133, 3, none⟩ = some (.int .i64 0) := (blk_cell BK133.out 3).trans rfl; have hcz29_4 : w26.cell? ⟨gb133, 4, none⟩ = some (.int .i64 0) := (blk_cell BK133.out 4).trans rfl; have hfz29_0 := blk_frozen BK133.out 0; have hfz29_1 := blk_frozen BK133.out 1; have hfz29_2 := blk_frozen BK133.out 2; have hfz29_3 := blk_frozen BK133.out 3; have hfz29_4 := blk_frozen BK133.out 4) | ((with_reducible refine gate_callee (f := 135) rfl ?_); refine gl_ (some 39) Try.func135 #[.pointer (some ⟨gb124, 0, none⟩), .int .i64 32] ?_; (with_reducible refine (spec_l10Reader_bytes.calls gb124 x125000_3 x125001_3 x125002_3 32 t134 t135 t136 t137 w _ ?side1 ?side2 A20.out).mono ?_); (case side1 => repeat (first | (with_reducible first | exact HI124.out | apply IsS149.alloc | apply IsS149.drewN | apply IsS149.drew | apply IsS149.set_0 | apply IsS149.set_1 | apply IsS149.set_2 | refine IsS149.far ?_ NB124_123.out _ | refine IsS149.far ?_ NB124_133.out _) | exact HI124.out)); (case side2 => repeat (first | (with_reducible first | exact HB.out | apply below_alloc | apply pw_below_drewN | apply below_drew1 | refine below_set ?_ (IsS149.ge HI124.out) | refine below_set ?_ GE123.out | refine below_set ?_ GE133.out) | exact HB.out)); rintro e w30 ⟨rfl, hi, hb, hk⟩; refine ⟨_, rfl, ?_⟩; have n0_ := AM (Kd.R_mono (Kd.R_keep (IsS149.apart (show IsS149 w _ gb124 x125000_3 x125001_3 x125002_3 from is149_) (by (with_reducible repeat (first | apply Kd.R_alloc | apply Kd.R_drewN | apply Kd.R_drew)); exact (Kd.R_mono (Kd.R_far (p := ⟨gb133, 4, none⟩) (Kd.R_far (p := ⟨gb133, 3, none⟩) (Kd.R_far (p := ⟨gb133, 2, none⟩) (Kd.R_far (p := ⟨gb133, 1, none⟩) (Kd.R_far (p := ⟨gb133, 0, none⟩) (Kd.R_mono HO_4.out (fun k_ hk => (⟨hk, hk.2⟩ : _ ∧ k_ ≠ gb133))) (fun _ hk => hk.2) (.string (⟨#[]⟩ : ByteArray))) (fun _ hk => hk.2) (.string (⟨#[]⟩ : ByteArray))) (fun _ hk => hk.2) (.int .i64 0)) (fun _ hk => hk.2) (.int .i64 0)) (fun _ hk => hk.2) (.int .i64 0)) (fun _ h_ => h_.1))) (by decide)) hk (fun _ h => h.2)) (fun _ h => h.1)); have n1_ := AM (KeepBut.blk hk (g' := gb123) (o := .cells #[.slice none 0 0, .int .i64 0] 101 (0, 0)) bka_ NB123_124.out (by simp)); have n2_ := AM (KeepBut.blk hk (g' := gb133) (o := .cells #[.string (⟨#[]⟩ : ByteArray), .string (⟨#[]⟩ : ByteArray), .int .i64 0, .int .i64 0, .int .i64 0] 50 (0, 0)) bka_ NB133_124.out (by simp)); have n3_ := AM hb; have n4_ := AM hi; clear HO_4; clear BK123; clear BK133; clear HB; clear HI124; have HO_4 := n0_; have BK123 := n1_; have BK133 := n2_; have HB := n3_; have HI124 := n4_; clear n0_ n1_ n2_ n3_ n4_; (try clear hb); (try clear hb2); (try clear hk); (try clear hi); have hcz31_0 : w30.cell? ⟨gb133, 0, none⟩ = some (.string (⟨#[]⟩ : ByteArray)) := (blk_cell BK133.out 0).trans rfl; have hcz31_1 : w30.cell? ⟨gb133, 1, none⟩ = some (.string (⟨#[]⟩ : ByteArray)) := (blk_cell BK133.out 1).trans rfl; have hcz31_2 : w30.cell? ⟨gb133, 2, none⟩ = some (.int .i64 0) := (blk_cell BK133.out 2).trans rfl; have hcz31_3 : w30.cell? ⟨gb133, 3, none⟩ = some (.int .i64 0) := (blk_cell BK133.out 3).trans rfl; have hcz31_4 : w30.cell? ⟨gb133, 4, none⟩ = some (.int .i64 0) := (blk_cell BK133.out 4).trans rfl; have hfz31_0 := blk_frozen BK133.out 0; have hfz31_1 := blk_frozen BK133.out 1; have hfz31_2 := blk_frozen BK133.out 2; have hfz31_3 := blk_frozen BK133.out 3; have hfz31_4 := blk_frozen BK133.out 4) | ((with_reducible refine gate_callee (f := 136) rfl ?_); refine gl_ (some 42) Try.func136 #[.pointer (some ⟨gb124, 0, none⟩)] ?_; (with_reducible refine (spec_l10Reader_text.calls kj15 gb124 t135 t136 t137 t138 t139 t140 t141 w _ ?side1 ?side2 A21.out).mono ?_); (case side1 => repeat (first | (with_reducible first | exact HI124.out | apply IsS149.alloc | apply IsS149.drewN | apply IsS149.drew | apply IsS149.set_0 | apply IsS149.set_1 | apply IsS149.set_2 | refine IsS149.far ?_ NB124_123.out _ | refine IsS149.far ?_ NB124_133.out _) | exact HI124.out)); (case side2 => repeat (first | (with_reducible first | exact HB.out | apply below_alloc | apply pw_below_drewN | apply below_drew1 | refine below_set ?_ (IsS149.ge HI124.out) | refine below_set ?_ GE123.out | refine below_set ?_ GE133.out) | exact HB.out)); rintro e w32 ⟨rfl, hi, hb, hk⟩; refine ⟨_, rfl, ?_⟩; have n0_ := AM (Kd.R_mono (Kd.R_keep (IsS149.apart (show IsS149 w _ gb124 t135 t136 t137 from is149_) (by (with_reducible repeat (first | apply Kd.R_alloc | apply Kd.R_drewN | apply Kd.R_drew)); exact (Kd.R_mono (Kd.R_far (p := ⟨gb133, 0, none⟩) (Kd.R_mono HO_4.out (fun k_ hk => (⟨hk, hk.2⟩ : _ ∧ k_ ≠ gb133))) (fun _ hk => hk.2) (.string t134)) (fun _ h_ => h_.1))) (by decide)) hk (fun _ h => h.2)) (fun _ h => h.1)); have n1_ := AM (KeepBut.blk hk (g' := gb123) (o := .cells #[.slice none 0 0, .int .i64 0] 101 (0, 0)) bka_ NB123_124.out (by simp)); have n2_ := AM (KeepBut.blk hk (g' := gb133) (o := .cells #[.string t134, .string (⟨#[]⟩ : ByteArray), .int .i64 0, .int .i64 0, .int .i64 0] 50 (0, 0)) bka_ NB133_124.out (by simp)); have n3_ := AM hb; have n4_ := AM hi; clear HO_4; clear BK123; clear BK133; clear HB; clear HI124; have HO_4 := n0_; have BK123 := n1_; have BK133 := n2_; have HB := n3_; have HI124 := n4_; clear n0_ n1_ n2_ n3_ n4_; (try clear hb); (try clear hb2); (try clear hk); (try clear hi); have hcz33_0 : w32.cell? ⟨gb133, 0, none⟩ = some (.string t134) := (blk_cell BK133.out 0).trans rfl; have hcz33_1 : w32.cell? ⟨gb133, 1, none⟩ = some (.string (⟨#[]⟩ : ByteArray)) := (blk_cell BK133.out 1).trans rfl; have hcz33_2 : w32.cell? ⟨gb133, 2, none⟩ = some (.int .i64 0) := (blk_cell BK133.out 2).trans rfl; have hcz33_3 : w32.cell? ⟨gb133, 3, none⟩ = some (.int .i64 0) := (blk_cell BK133.out 3).trans rfl; have hcz33_4 : w32.cell? ⟨gb133, 4, none⟩ = some (.int .i64 0) := (blk_cell BK133.out 4).trans rfl; have hfz33_0 := blk_frozen BK133.out 0; have hfz33_1 := blk_frozen BK133.out 1; have hfz33_2 := blk_frozen BK133.out 2; have hfz33_3 := blk_frozen BK133.out 3; have hfz33_4 := blk_frozen BK133.out 4) | ((with_reducible refine gate_callee (f := 134) rfl ?_); refine gl_ (some 45) Try.func134 #[.pointer (some ⟨gb124, 0, none⟩)] ?_; (with_reducible refine (spec_l10Reader_num.calls kj15 gb124 t139 t140 t141 t142 t143 t144 t145 w _ ?side1 ?side2 A22.out).mono ?_); (case side1 => repeat (first | (with_reducible first | exact HI124.out | apply IsS149.alloc | apply IsS149.drewN | apply IsS149.drew | apply IsS149.set_0 | apply IsS149.set_1 | apply IsS149.set_2 | refine IsS149.far ?_ NB124_123.out _ | refine IsS149.far ?_ NB124_133.out _) | exact HI124.out)); (case side2 => repeat (first | (with_reducible first | exact HB.out | apply below_alloc | apply pw_below_drewN | apply below_drew1 | refine below_set ?_ (IsS149.ge HI124.out) | refine below_set ?_ GE123.out | refine below_set ?_ GE133.out) | exact HB.out)); rintro e w34 ⟨rfl, hi, hb, hk⟩; refine ⟨_, rfl, ?_⟩; have n0_ := AM (Kd.R_mono (Kd.R_keep (IsS149.apart (show IsS149 w _ gb124 t139 t140 t141 from is149_) (by (with_reducible repeat (first | apply Kd.R_alloc | apply Kd.R_drewN | apply Kd.R_drew)); exact (Kd.R_mono (Kd.R_far (p := ⟨gb133, 1, none⟩) (Kd.R_mono HO_4.out (fun k_ hk => (⟨hk, hk.2⟩ : _ ∧ k_ ≠ gb133))) (fun _ hk => hk.2) (.string t138)) (fun _ h_ => h_.1))) (by decide)) hk (fun _ h => h.2)) (fun _ h => h.1)); have n1_ := AM (KeepBut.blk hk (g' := gb123) (o := .cells #[.slice none 0 0, .int .i64 0] 101 (0, 0)) bka_ NB123_124.out (by simp)); have n2_ := AM (KeepBut.blk hk (g' := gb133) (o := .cells #[.string t134, .string t138, .int .i64 0, .int .i64 0, .int .i64 0] 50 (0, 0)) bka_ NB133_124.out (by simp)); have n3_ := AM hb; have n4_ := AM hi; clear HO_4; clear BK123; clear BK133; clear HB; clear HI124; have HO_4 := n0_; have BK123 := n1_; have BK133 := n2_; have HB := n3_; have HI124 := n4_; clear n0_ n1_ n2_ n3_ n4_; (try clear hb); (try clear hb2); (try clear hk); (try clear hi); have hcz35_0 : w34.cell? ⟨gb133, 0, none⟩ = some (.string t134) := (blk_cell BK133.out 0).trans rfl; have hcz35_1 : w34.cell? ⟨gb133, 1, none⟩ = some (.string t138) := (blk_cell BK133.out 1).trans rfl; have hcz35_2 : w34.cell? ⟨gb133, 2, none⟩ = some (.int .i64 0) := (blk_cell BK133.out 2).trans rfl; have hcz35_3 : w34.cell? ⟨gb133, 3, none⟩ = some (.int .i64 0) := (blk_cell BK133.out 3).trans rfl; have hcz35_4 : w34.cell? ⟨gb133, 4, none⟩ = some (.int .i64 0) := (blk_cell BK133.out 4).trans rfl; have hfz35_0 := blk_frozen BK133.out 0; have hfz35_1 := blk_frozen BK133.out 1; have hfz35_2 := blk_frozen BK133.out 2; have hfz35_3 := blk_frozen BK133.out 3; have hfz35_4 := blk_frozen BK133.out 4) | ((with_reducible refine gate_callee (f := 134) rfl ?_); refine gl_ (some 48) Try.func134 #[.pointer (some ⟨gb124, 0, none⟩)] ?_; (with_reducible refine (spec_l10Reader_num.calls kj15 gb124 t143 t144 t145 t146 t147 t148 t149 w _ ?side1 ?side2 A23.out).mono ?_); (case side1 => repeat (first | (with_reducible first | exact HI124.out | apply IsS149.alloc | apply IsS149.drewN | apply IsS149.drew | apply IsS149.set_0 | apply IsS149.set_1 | apply IsS149.set_2 | refine IsS149.far ?_ NB124_123.out _ | refine IsS149.far ?_ NB124_133.out _) | exact HI124.out)); (case side2 => repeat (first | (with_reducible first | exact HB.out | apply below_alloc | apply pw_below_drewN | apply below_drew1 | refine below_set ?_ (IsS149.ge HI124.out) | refine below_set ?_ GE123.out | refine below_set ?_ GE133.out) | exact HB.out)); rintro e w36 ⟨rfl, hi, hb, hk⟩; refine ⟨_, rfl, ?_⟩; have n0_ := AM (Kd.R_mono (Kd.R_keep (IsS149.apart (show IsS149 w _ gb124 t143 t144 t145 from is149_) (by (with_reducible repeat (first | apply Kd.R_alloc | apply Kd.R_drewN | apply Kd.R_drew)); exact (Kd.R_mono (Kd.R_far (p := ⟨gb133, 2, none⟩) (Kd.R_mono HO_4.out (fun k_ hk => (⟨hk, hk.2⟩ : _ ∧ k_ ≠ gb133))) (fun _ hk => hk.2) (.int .i64 t142)) (fun _ h_ => h_.1))) (by decide)) hk (fun _ h => h.2)) (fun _ h => h.1)); have n1_ := AM (KeepBut.blk hk (g' := gb123) (o := .cells #[.slice none 0 0, .int .i64 0] 101 (0, 0)) bka_ NB123_124.out (by simp)); have n2_ := AM (KeepBut.blk hk (g' := gb133) (o := .cells #[.string t134, .string t138, .int .i64 t142, .int .i64 0, .int .i64 0] 50 (0, 0)) bka_ NB133_124.out (by simp)); have n3_ := AM hb; have n4_ := AM hi; clear HO_4; clear BK123; clear BK133; clear HB; clear HI124; have HO_4 := n0_; have BK123 := n1_; have BK133 := n2_; have HB := n3_; have HI124 := n4_; clear n0_ n1_ n2_ n3_ n4_; (try clear hb); (try clear hb2); (try clear hk); (try clear hi); have hcz37_0 : w36.cell? ⟨gb133, 0, none⟩ = some (.string t134) := (blk_cell BK133.out 0).trans rfl; have hcz37_1 : w36.cell? ⟨gb133, 1, none⟩ = some (.string t138) := (blk_cell BK133.out 1).trans rfl; have hcz37_2 : w36.cell? ⟨gb133, 2, none⟩ = some (.int .i64 t142) := (blk_cell BK133.out 2).trans rfl; have hcz37_3 : w36.cell? ⟨gb133, 3, none⟩ = some (.int .i64 0) := (blk_cell BK133.out 3).trans rfl; have hcz37_4 : w36.cell? ⟨gb133, 4, none⟩ = some (.int .i64 0) := (blk_cell BK133.out 4).trans rfl; have hfz37_0 := blk_frozen BK133.out 0; have hfz37_1 := blk_frozen BK133.out 1; have hfz37_2 := blk_frozen BK133.out 2; have hfz37_3 := blk_frozen BK133.out 3; have hfz37_4 := blk_frozen BK133.out 4) | ((with_reducible refine gate_callee (f := 134) rfl ?_); refine gl_ (some 51) Try.func134 #[.pointer (some ⟨gb124, 0, none⟩)] ?_; (with_reducible refine (spec_l10Reader_num.calls kj15 gb124 t147 t148 t149 t150 t151 t152 t153 w _ ?side1 ?side2 A24.out).mono ?_); (case side1 => repeat (first | (with_reducible first | exact HI124.out | apply IsS149.alloc | apply IsS149.drewN | apply IsS149.drew | apply IsS149.set_0 | apply IsS149.set_1 | apply IsS149.set_2 | refine IsS149.far ?_ NB124_123.out _ | refine IsS149.far ?_ NB124_133.out _) | exact HI124.out)); (case side2 => repeat (first | (with_reducible first | exact HB.out | apply below_alloc | apply pw_below_drewN | apply below_drew1 | refine below_set ?_ (IsS149.ge HI124.out) | refine below_set ?_ GE123.out | refine below_set ?_ GE133.out) | exact HB.out)); rintro e w38 ⟨rfl, hi, hb, hk⟩; refine ⟨_, rfl, ?_⟩; have n0_ := AM (Kd.R_mono (Kd.R_keep (IsS149.apart (show IsS149 w _ gb124 t147 t148 t149 from is149_) (by (with_reducible repeat (first | apply Kd.R_alloc | apply Kd.R_drewN | apply Kd.R_drew)); exact (Kd.R_mono (Kd.R_far (p := ⟨gb133, 3, none⟩) (Kd.R_mono HO_4.out (fun k_ hk => (⟨hk, hk.2⟩ : _ ∧ k_ ≠ gb133))) (fun _ hk => hk.2) (.int .i64 t146)) (fun _ h_ => h_.1))) (by decide)) hk (fun _ h => h.2)) (fun _ h => h.1)); have n1_ := AM (KeepBut.blk hk (g' := gb123) (o := .cells #[.slice none 0 0, .int .i64 0] 101 (0, 0)) bka_ NB123_124.out (by simp)); have n2_ := AM (KeepBut.blk hk (g' := gb133) (o := .cells #[.string t134, .string t138, .int .i64 t142, .int .i64 t146, .int .i64 0] 50 (0, 0)) bka_ NB133_124.out (by simp)); have n3_ := AM hb; have n4_ := AM hi; clear HO_4; clear BK123; clear BK133; clear HB; clear HI124; have HO_4 := n0_; have BK123 := n1_; have BK133 := n2_; have HB := n3_; have HI124 := n4_; clear n0_ n1_ n2_ n3_ n4_; (try clear hb); (try clear hb2); (try clear hk); (try clear hi); have hcz39_0 : w38.cell? ⟨gb133, 0, none⟩ = some (.string t134) := (blk_cell BK133.out 0).trans rfl; have hcz39_1 : w38.cell? ⟨gb133, 1, none⟩ = some (.string t138) := (blk_cell BK133.out 1).trans rfl; have hcz39_2 : w38.cell? ⟨gb133, 2, none⟩ = some (.int .i64 t142) := (blk_cell BK133.out 2).trans rfl; have hcz39_3 : w38.cell? ⟨gb133, 3, none⟩ = some (.int .i64 t146) := (blk_cell BK133.out 3).trans rfl; have hcz39_4 : w38.cell? ⟨gb133, 4, none⟩ = some (.int .i64 0) := (blk_cell BK133.out 4).trans rfl; have hfz39_0 := blk_frozen BK133.out 0; have hfz39_1 := blk_frozen BK133.out 1; have hfz39_2 := blk_frozen BK133.out 2; have hfz39_3 := blk_frozen BK133.out 3; have hfz39_4 := blk_frozen BK133.out 4) | ((with_reducible refine gate_builtin (b := .append) (xs := #[.tmp 53, .tmp 55]) rfl ?_); (try (refine gate_guard (by rfl) ?_; dsimp only)); at_builtin; refine Kd.R_append k50 (w0 := w) w.heap.size rfl (.tmp 53) (.tmp 55) 54 50 (.agg #[(.string ⟨#[]⟩), (.string ⟨#[]⟩), (.int .i64 0), (.int .i64 0), (.int .i64 0)]) 56 rfl Try.underlying54 info50 rfl (by decide) (by omega) u4 x4_3 (⟨t134, t138, t142, t146, t150⟩ : S50) [.string t134, .string t138, .int .i64 t142, .int .i64 t146, .int .i64 t150] (fun k_ => k_ ≠ gb133) (fun _ => False) rfl (by first | (go_simp; done) | (go_simp; rfl)) ?aP (fun _ hk => hk.elim) ?aF ?aO ?aB ?aS ?aL ?_; (case aP => exact k50_mkM _ _ _ (⟨t134, t138, t142, t146, t150⟩ : S50)); (case aB => exact (belg_ (IsS149.ge HI124.out))); (case aF => exact (fun k_ hk => Kd.freshB (g := gb133) (o := .cells #[.string t134, .string t138, .int .i64 t142, .int .i64 t146, .int .i64 t150] 50 (0, 0)) bka_ k_ hk)); (case aO => exact (by (with_reducible repeat (first | apply Kd.R_alloc | apply Kd.R_drewN | apply Kd.R_drew)); exact Kd.R_mono (Kd.R_far (p := ⟨gb133, 4, none⟩) (Kd.R_mono HO_4.out (fun k_ hk => (⟨hk, hk.2⟩ : _ ∧ k_ ≠ gb133))) (fun _ hk => hk.2) (.int .i64 t150)) (fun _ hk => hk.1.2))); (case aS => exact (below_size (belg_ (IsS149.ge HI124.out)))); (case aL => have := LMc25.out; omega); intro v155 w40 ho hb hg hat; rw [← Ny154.out] at ho; have n0_ := AM (blk_grown (g := gb123) (o := .cells #[.slice none 0 0, .int .i64 0] 101 (0, 0)) bka_ hg (Kd.R_ne HO_4.out BK123.out (by decide))); have n1_ := AM (IsS149.grown is149_ hg (IsS149.own_ne HI124.out HO_4.out (by decide))); have n2_ := AM (blk_grown (g := gb133) (o := .cells #[.string t134, .string t138, .int .i64 t142, .int .i64 t146, .int .i64 t150] 50 (0, 0)) bka_ hg (Kd.R_away HO_4.out (fun _ hk => hk.2))); have n3_ := AM hb; have n4_ := AM ho; clear BK123; clear HI124; clear BK133; clear HB; clear HO_4; have BK123 := n0_; have HI124 := n1_; have BK133 := n2_; have HB := n3_; have HO156 := n4_; clear n0_ n1_ n2_ n3_ n4_; clear ho hb hg hat))
                        go_roundg kj15
                        case measure => have := HJ5.out; have := HJ12.out; have := HK3.out; have := HJ15.out; omega
                        case rel => exact ⟨(y154), (wrap64 (x5_3 - 1)), (t151), (t152), (t153), (by first | rfl | (simp; done) | (simp [*]; done)), H', ⟨by have := HJ5.out; have := HJ12.out; have := HK3.out; have := HJ15.out; omega⟩, ⟨by (with_reducible repeat (first | apply Kd.R_alloc | apply Kd.R_drewN | apply Kd.R_drew)); exact Kd.R_mono HO156.out (fun _ hk => trivial)⟩, ⟨bk_ BK123.out⟩, ⟨is149_⟩, ⟨belg_ (IsS149.ge HI124.out)⟩⟩
                      · rw [if_neg c25] at H
                        exact absurd H (by simp)
                    · replace c19 := Bool.eq_false_iff.mpr c19
                      subst c19
                      rw [if_neg (show ¬ (false = true) by decide)] at H
                      by_cases c41 : x125002_3 = true
                      · subst c41
                        rw [if_pos rfl] at H
                        simp only [Option.some.injEq, Prod.mk.injEq] at H
                        obtain ⟨rfl, rfl⟩ := H
                        obtain ⟨HGz42, hgz42⟩ := HI124.out
                        have hcz42_0 := cellS149_0 HGz42
                        have hcz42_1 := cellS149_1 HGz42
                        have hcz42_2 := cellS149_2 HGz42
                        have hfz42_0 := blk_frozen HGz42 0
                        have hfz42_1 := blk_frozen HGz42 1
                        have hfz42_2 := blk_frozen HGz42 2
                        clear HGz42 hgz42
                        have hnb43 := NB123_124.out
                        have hnc43 := NB124_123.out
                        have hcz44_0 : wc.cell? ⟨gb123, 0, none⟩ = some (.slice none 0 0) := (blk_cell BK123.out 0).trans rfl
                        have hcz44_1 : wc.cell? ⟨gb123, 1, none⟩ = some (.int .i64 0) := (blk_cell BK123.out 1).trans rfl
                        have hfz44_0 := blk_frozen BK123.out 0
                        have hfz44_1 := blk_frozen BK123.out 1
                        go_wp2
                        refine bodyPost_ret (results_cell_row rfl _ _ gb123 101 #[.slice none 0 0, .int .i64 3] (0, 0) _ rfl bka_ Try.underlying101 rfl (by kernel_rfl)) rfl ?_
                        exact ⟨_, ri_, by first | exact Kd.R_nil _ _ _ _ _ | exact Kd.N_nil _ _ _ _ _ | exact Kd.V_nil _ _ _ _ _ | exact Kd.Q_nil _ _ _ _ _ | exact Kd.S_nil _ _ _ _ _, belg_ (IsS149.ge HI124.out)⟩
                      · replace c41 := Bool.eq_false_iff.mpr c41
                        subst c41
                        rw [if_neg (show ¬ (false = true) by decide)] at H
                        by_cases c45 : x125001_3 < (a0.size : Int)
                        · rw [if_pos c45] at H
                          have c45b0 : decide (x125001_3 < (a0.size : Int)) = true := decide_eq_true c45
                          clear c45
                          simp only [Option.some.injEq, Prod.mk.injEq] at H
                          obtain ⟨rfl, rfl⟩ := H
                          obtain ⟨HGz46, hgz46⟩ := HI124.out
                          have hcz46_0 := cellS149_0 HGz46
                          have hcz46_1 := cellS149_1 HGz46
                          have hcz46_2 := cellS149_2 HGz46
                          have hfz46_0 := blk_frozen HGz46 0
                          have hfz46_1 := blk_frozen HGz46 1
                          have hfz46_2 := blk_frozen HGz46 2
                          clear HGz46 hgz46
                          have hnb47 := NB123_124.out
                          have hnc47 := NB124_123.out
                          have hcz48_0 : wc.cell? ⟨gb123, 0, none⟩ = some (.slice none 0 0) := (blk_cell BK123.out 0).trans rfl
                          have hcz48_1 : wc.cell? ⟨gb123, 1, none⟩ = some (.int .i64 0) := (blk_cell BK123.out 1).trans rfl
                          have hfz48_0 := blk_frozen BK123.out 0
                          have hfz48_1 := blk_frozen BK123.out 1
                          go_wp2
                          refine bodyPost_ret (results_cell_row rfl _ _ gb123 101 #[.slice none 0 0, .int .i64 3] (0, 0) _ rfl bka_ Try.underlying101 rfl (by kernel_rfl)) rfl ?_
                          exact ⟨_, ri_, by first | exact Kd.R_nil _ _ _ _ _ | exact Kd.N_nil _ _ _ _ _ | exact Kd.V_nil _ _ _ _ _ | exact Kd.Q_nil _ _ _ _ _ | exact Kd.S_nil _ _ _ _ _, belg_ (IsS149.ge HI124.out)⟩
                        · rw [if_neg c45] at H
                          have c45b0 : decide (x125001_3 < (a0.size : Int)) = false := decide_eq_false c45
                          clear c45
                          obtain ⟨t132, A49, H⟩ := OB H
                          try dsimp only at H
                          replace A49 := AM A49
                          by_cases c50 : t132 = true
                          · subst c50
                            rw [if_pos rfl] at H
                            simp only [Option.some.injEq, Prod.mk.injEq] at H
                            obtain ⟨rfl, rfl⟩ := H
                            obtain ⟨HGz51, hgz51⟩ := HI124.out
                            have hcz51_0 := cellS149_0 HGz51
                            have hcz51_1 := cellS149_1 HGz51
                            have hcz51_2 := cellS149_2 HGz51
                            have hfz51_0 := blk_frozen HGz51 0
                            have hfz51_1 := blk_frozen HGz51 1
                            have hfz51_2 := blk_frozen HGz51 2
                            clear HGz51 hgz51
                            obtain ⟨Ao52, co52, eo52⟩ := Kd.R_slice HO_4.out
                            subst eo52
                            go_wp2_with (first | (go_at_call 102; (with_reducible refine (spec_PlacesRight.calls kj15 _ _ x4_3 true _ ?side1 ?side2 A49.out).mono ?_); (case side1 => repeat (first | exact (Kd.R_reads' HO_4.out).2.2 | (with_reducible refine Kd.C_alloc ?_ _) | (with_reducible refine Kd.C_drewN ?_ _) | (with_reducible refine Kd.C_drew ?_))); (case side2 => exact (Kd.R_reads' HO_4.out).2.1); rintro e w53 ⟨rfl, hb⟩; replace HO_4 := AM (Kd.R_below (ro_ HO_4.out) hb); replace BK123 := AM (blk_below (g := gb123) (o := .cells #[.slice none 0 0, .int .i64 0] 101 (0, 0)) (bk_ BK123.out) hb); replace HB := AM (below_step (belg_ (IsS149.ge HI124.out)) hb); replace HI124 := AM (IsS149.below is149_ hb); (try clear hb); (try clear hb2); (try clear hk); (try clear hi); have hnb54 := NB123_124.out; have hnc54 := NB124_123.out; have hcz55_0 : w53.cell? ⟨gb123, 0, none⟩ = some (.slice none 0 0) := (blk_cell BK123.out 0).trans rfl; have hcz55_1 : w53.cell? ⟨gb123, 1, none⟩ = some (.int .i64 0) := (blk_cell BK123.out 1).trans rfl; have hfz55_0 := blk_frozen BK123.out 0; have hfz55_1 := blk_frozen BK123.out 1))
                            refine bodyPost_ret (results_cell_row rfl _ _ gb123 101 #[.slice Ao52 x4_3.length co52, .int .i64 0] (0, 0) _ rfl bka_ Try.underlying101 rfl (by kernel_rfl)) rfl ?_
                            exact ⟨_, ri_, by (with_reducible repeat (first | apply Kd.R_alloc | apply Kd.R_drewN | apply Kd.R_drew)); exact Kd.R_mono (Kd.R_far (p := ⟨gb123, 1, none⟩) (Kd.R_far (p := ⟨gb123, 0, none⟩) (Kd.R_types HO_4.out BK123.out (by decide)) (fun _ hk => hk.2) (.slice Ao52 x4_3.length co52)) (fun _ hk => hk.2) (.int .i64 0)) (fun _ hk => trivial), belg_ (IsS149.ge HI124.out)⟩
                          · replace c50 := Bool.eq_false_iff.mpr c50
                            subst c50
                            rw [if_neg (show ¬ (false = true) by decide)] at H
                            simp only [Option.some.injEq, Prod.mk.injEq] at H
                            obtain ⟨rfl, rfl⟩ := H
                            obtain ⟨HGz56, hgz56⟩ := HI124.out
                            have hcz56_0 := cellS149_0 HGz56
                            have hcz56_1 := cellS149_1 HGz56
                            have hcz56_2 := cellS149_2 HGz56
                            have hfz56_0 := blk_frozen HGz56 0
                            have hfz56_1 := blk_frozen HGz56 1
                            have hfz56_2 := blk_frozen HGz56 2
                            clear HGz56 hgz56
                            obtain ⟨Ao57, co57, eo57⟩ := Kd.R_slice HO_4.out
                            subst eo57
                            go_wp2_with (first | (go_at_call 102; (with_reducible refine (spec_PlacesRight.calls kj15 _ _ x4_3 false _ ?side1 ?side2 A49.out).mono ?_); (case side1 => repeat (first | exact (Kd.R_reads' HO_4.out).2.2 | (with_reducible refine Kd.C_alloc ?_ _) | (with_reducible refine Kd.C_drewN ?_ _) | (with_reducible refine Kd.C_drew ?_))); (case side2 => exact (Kd.R_reads' HO_4.out).2.1); rintro e w58 ⟨rfl, hb⟩; replace HO_4 := AM (Kd.R_below (ro_ HO_4.out) hb); replace BK123 := AM (blk_below (g := gb123) (o := .cells #[.slice none 0 0, .int .i64 0] 101 (0, 0)) (bk_ BK123.out) hb); replace HB := AM (below_step (belg_ (IsS149.ge HI124.out)) hb); replace HI124 := AM (IsS149.below is149_ hb); (try clear hb); (try clear hb2); (try clear hk); (try clear hi); have hnb59 := NB123_124.out; have hnc59 := NB124_123.out; have hcz60_0 : w58.cell? ⟨gb123, 0, none⟩ = some (.slice none 0 0) := (blk_cell BK123.out 0).trans rfl; have hcz60_1 : w58.cell? ⟨gb123, 1, none⟩ = some (.int .i64 0) := (blk_cell BK123.out 1).trans rfl; have hfz60_0 := blk_frozen BK123.out 0; have hfz60_1 := blk_frozen BK123.out 1))
                            refine bodyPost_ret (results_cell_row rfl _ _ gb123 101 #[.slice none 0 0, .int .i64 3] (0, 0) _ rfl bka_ Try.underlying101 rfl (by kernel_rfl)) rfl ?_
                            exact ⟨_, ri_, by first | exact Kd.R_nil _ _ _ _ _ | exact Kd.N_nil _ _ _ _ _ | exact Kd.V_nil _ _ _ _ _ | exact Kd.Q_nil _ _ _ _ _ | exact Kd.S_nil _ _ _ _ _, belg_ (IsS149.ge HI124.out)⟩

/-! ### impl_isLong: function 78 -/
def impl_isLong.f (a0 : ByteArray) : Option (Bool) := some (decide ((a0.size : Int) > 20000))
set_option maxHeartbeats 8000000 in
set_option maxRecDepth 100000 in
theorem impl_isLong.calls (a0 : ByteArray) (r : Bool) (w : World) (h : impl_isLong.f a0 = some r) :
    Calls Try.prog 78 #[.string a0] w fun e w' => e = .returned (.bool r) ∧ Drawn0 w w' := by
  have H : (some (decide ((a0.size : Int) > 20000))) = some r := h
  clear h
  obtain rfl := Option.some.inj H
  go_enter Try.func78, Try.ntmps78
  go_wp2
  go_ret
  exact ⟨by first | rfl | (simp; done) | (simp [*]; done), by repeat (first | exact Drawn0.refl _ | apply Drawn0.step)⟩

/-! ### impl_within: function 143 -/
def impl_within.f (a0 : Int) (a1 : Int) (a2 : Int) : Option (Bool) := if a0 ≥ a1 then (some (decide (a0 ≤ a2))) else (some false)
set_option maxHeartbeats 8000000 in
set_option maxRecDepth 100000 in
theorem impl_within.calls (a0 : Int) (a1 : Int) (a2 : Int) (r : Bool) (w : World) (h : impl_within.f a0 a1 a2 = some r) :
    Calls Try.prog 143 #[.int .i64 a0, .int .i64 a1, .int .i64 a2] w fun e w' => e = .returned (.bool r) ∧ Drawn0 w w' := by
  have H : (if a0 ≥ a1 then (some (decide (a0 ≤ a2))) else (some false)) = some r := h
  clear h
  by_cases c4 : a0 ≥ a1
  · rw [if_pos c4] at H
    have c4b0 : decide (a1 ≤ a0) = true := decide_eq_true c4
    clear c4
    obtain rfl := Option.some.inj H
    go_enter Try.func143, Try.ntmps143
    go_wp2
    go_ret
    exact ⟨by first | rfl | (simp; done) | (simp [*]; done), by repeat (first | exact Drawn0.refl _ | apply Drawn0.step)⟩
  · rw [if_neg c4] at H
    have c4b0 : decide (a1 ≤ a0) = false := decide_eq_false c4
    clear c4
    obtain rfl := Option.some.inj H
    go_enter Try.func143, Try.ntmps143
    go_wp2
    go_ret
    exact ⟨by first | rfl | (simp; done) | (simp [*]; done), by repeat (first | exact Drawn0.refl _ | apply Drawn0.step)⟩

/-! ### impl_long: function 146 -/
def impl_long.f (a0 : ByteArray) : Option (Int) := some (a0.size : Int)
set_option maxHeartbeats 8000000 in
set_option maxRecDepth 100000 in
theorem impl_long.calls (a0 : ByteArray) (r : Int) (w : World) (h : impl_long.f a0 = some r) :
    Calls Try.prog 146 #[.string a0] w fun e w' => e = .returned (.int .i64 r) ∧ Drawn0 w w' := by
  have H : (some (a0.size : Int)) = some r := h
  clear h
  obtain rfl := Option.some.inj H
  go_enter Try.func146, Try.ntmps146
  go_wp2
  go_ret
  exact ⟨by first | rfl | (simp; done) | (simp [*]; done), by repeat (first | exact Drawn0.refl _ | apply Drawn0.step)⟩

end Go.Proofs.Yteljfdhjbnlgoaa.PFnExactPlacesRead
