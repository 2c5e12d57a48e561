-- A program of this session wrote this text: a changed copy of the kit print, with given functions.
import Derived.Test.YteljfdhjbnlgoaaPFnExactPlacesReadx0
import Derived.Test.YteljfdhjbnlgoaaPFnExactPlacesReadx7
import Derived.Test.YteljfdhjbnlgoaaPFnExactPlacesReadx9
import Derived.Test.YteljfdhjbnlgoaaPFnExactPlacesReadx11
import Derived.Test.YteljfdhjbnlgoaaPFnExactPlacesReadx12
import Derived.Test.YteljfdhjbnlgoaaPFnExactPlacesReadx13
namespace Go.Proofs.Yteljfdhjbnlgoaa.PFnExactPlacesRead
open Go.RowKit Go.Proofs.YteljfdhjbnlgoaaW.PrintWords Go.Proofs.YteljfdhjbnlgoaaW.PrintLast Go.Proofs.YteljfdhjbnlgoaaW.PrintMore Go.Proofs.Yteljfdhjbnlgoaa.Aut
attribute [local go_sem] max2_int min2_int max_two min_two max_three min_three max_four min_four   -- for this text's walks alone
set_option linter.unusedVariables false
set_option linter.unusedSimpArgs false

/-! ### impl_reader_isDone: function 141 -/
def impl_reader_isDone.f (s0_0 : ByteArray) (s0_1 : Int) (s0_2 : Bool) : Option (Bool × ByteArray × Int × Bool) := if s0_2 = true then (some (false, s0_0, s0_1, s0_2)) else ((impl_long.f s0_0).bind fun t198 => (some ((s0_1 == t198), s0_0, s0_1, s0_2)))
set_option maxHeartbeats 8000000 in
set_option maxRecDepth 100000 in
theorem impl_reader_isDone.calls (g : Nat) (s0_0 : ByteArray) (s0_1 : Int) (s0_2 : Bool) (r1 : Bool) (r2 : ByteArray) (r3 : Int) (r4 : Bool) (w0 w : World) (hI : IsS153 w0 w g s0_0 s0_1 s0_2) (hB : Below w0.heap.size w0 w) (h : impl_reader_isDone.f s0_0 s0_1 s0_2 = some (r1, r2, r3, r4)) :
    Calls Try.prog 141 #[.pointer (some ⟨g, 0, none⟩)] w fun e w' => e = .returned (.bool r1) ∧ IsS153 w0 w' g r2 r3 r4 ∧ Below w0.heap.size w0 w' ∧ KeepBut w w' g none := by
  have HI0 := AM hI
  have HK := AM (KeepBut.refl w g none)
  have HL := AM hB.size
  clear hI
  have HW0 := AM hB.size
  have HB := AM hB
  clear hB
  have H : (if s0_2 = true then (some (false, s0_0, s0_1, s0_2)) else ((impl_long.f s0_0).bind fun t198 => (some ((s0_1 == t198), s0_0, s0_1, s0_2)))) = some (r1, r2, r3, r4) := h
  clear h
  by_cases c2 : s0_2 = true
  · subst c2
    rw [if_pos rfl] at H
    simp only [Option.some.injEq, Prod.mk.injEq] at H
    obtain ⟨rfl, rfl, rfl, rfl⟩ := H
    obtain ⟨HGz3, hgz3⟩ := HI0.out
    have hcz3_0 := cellS153_0 HGz3
    have hcz3_1 := cellS153_1 HGz3
    have hcz3_2 := cellS153_2 HGz3
    have hfz3_0 := blk_frozen HGz3 0
    have hfz3_1 := blk_frozen HGz3 1
    have hfz3_2 := blk_frozen HGz3 2
    clear HGz3 hgz3
    go_enter Try.func141, Try.ntmps141
    go_wp2
    repeat (go_quiet (fail); try go_wp2)
    go_ret
    exact ⟨ri_, is153_, belg_ (IsS153.ge HI0.out), kp_⟩
  · replace c2 := Bool.eq_false_iff.mpr c2
    subst c2
    rw [if_neg (show ¬ (false = true) by decide)] at H
    obtain ⟨t198, A4, H⟩ := OB H
    try dsimp only at H
    replace A4 := AM A4
    simp only [Option.some.injEq, Prod.mk.injEq] at H
    obtain ⟨rfl, rfl, rfl, rfl⟩ := H
    obtain ⟨HGz5, hgz5⟩ := HI0.out
    have hcz5_0 := cellS153_0 HGz5
    have hcz5_1 := cellS153_1 HGz5
    have hcz5_2 := cellS153_2 HGz5
    have hfz5_0 := blk_frozen HGz5 0
    have hfz5_1 := blk_frozen HGz5 1
    have hfz5_2 := blk_frozen HGz5 2
    clear HGz5 hgz5
    go_enter Try.func141, Try.ntmps141
    go_wp2_with (first | (go_at_call 146; (with_reducible refine (impl_long.calls s0_0 t198 _ A4.out).mono ?_); rintro e w' ⟨rfl, ⟨nd, rfl⟩⟩; (try first | exact ⟨rfl, _, World.drewN_drewN _ _ _⟩ | exact ⟨rfl, _, Eq.trans (World.drewN_drewN _ _ _) (congrArg (World.drewN _) (Nat.add_assoc _ _ _))⟩)))
    repeat (go_quiet (first | (go_at_call 146; (with_reducible refine (impl_long.calls s0_0 t198 _ A4.out).mono ?_); rintro e w' ⟨rfl, ⟨nd, rfl⟩⟩; (try first | exact ⟨rfl, _, World.drewN_drewN _ _ _⟩ | exact ⟨rfl, _, Eq.trans (World.drewN_drewN _ _ _) (congrArg (World.drewN _) (Nat.add_assoc _ _ _))⟩))); try go_wp2_with (first | (go_at_call 146; (with_reducible refine (impl_long.calls s0_0 t198 _ A4.out).mono ?_); rintro e w' ⟨rfl, ⟨nd, rfl⟩⟩; (try first | exact ⟨rfl, _, World.drewN_drewN _ _ _⟩ | exact ⟨rfl, _, Eq.trans (World.drewN_drewN _ _ _) (congrArg (World.drewN _) (Nat.add_assoc _ _ _))⟩))))
    go_ret
    exact ⟨ri_, is153_, belg_ (IsS153.ge HI0.out), kp_⟩

/-! ### impl_PlacesRead: function 71 -/
mutual
def impl_PlacesRead.l0 : Nat → Int → List (S50) → Int → ByteArray → Int → Bool → Option ((List (S50)) × Int)
  | 0, _, _, _, _, _, _ => none
  | k + 1, x4, x5, x6, x202000, x202001, x202002 => if x6 < x4 then (if x6 ≤ 300 then (impl_PlacesRead.j1 k x4 x5 x6 (!x202002) x202000 x202001 x202002) else (impl_PlacesRead.j1 k x4 x5 x6 false x202000 x202001 x202002)) else (impl_PlacesRead.j1 k x4 x5 x6 false x202000 x202001 x202002)
def impl_PlacesRead.j1 : Nat → Int → List (S50) → Int → Bool → ByteArray → Int → Bool → Option ((List (S50)) × Int)
  | 0, _, _, _, _, _, _, _ => none
  | k + 1, x4, x5, x6, x28, x202000, x202001, x202002 => if x28 = true then ((impl_reader_take.f x202000 x202001 x202002 32).bind fun bt206 => ((impl_reader_string.f k bt206.2.1 bt206.2.2.1 bt206.2.2.2).bind fun bt210 => ((impl_reader_num.f k bt210.2.1 bt210.2.2.1 bt210.2.2.2).bind fun bt214 => ((impl_reader_num.f k bt214.2.1 bt214.2.2.1 bt214.2.2.2).bind fun bt218 => ((impl_reader_num.f k bt218.2.1 bt218.2.2.1 bt218.2.2.2).bind fun bt222 => (if x5.length < 2513169434916 then (impl_PlacesRead.l0 k x4 (x5 ++ [(⟨bt206.1, bt210.1, bt214.1, bt218.1, bt222.1⟩ : S50)]) (wrap64 (x6 + 1)) bt222.2.1 bt222.2.2.1 bt222.2.2.2) else (none))))))) else ((impl_Place.f x5).bind fun t229 => (if x4 = t229 then ((impl_reader_isDone.f x202000 x202001 x202002).bind fun bt230 => (if bt230.1 = true then ((impl_PlacesRight.f k x5).bind fun t234 => (if t234 = true then (some (x5, 0)) else (some (([] : List (S50)), 3)))) else (some (([] : List (S50)), 3)))) else (some (([] : List (S50)), 3))))
end
def impl_PlacesRead.f (k : Nat) (a0 : ByteArray) : Option ((List (S50)) × Int) := (impl_isLong.f a0).bind fun t200 => (if t200 = true then (some (([] : List (S50)), 2)) else ((impl_reader_num.f k a0 0 false).bind fun bt202 => (impl_PlacesRead.l0 k bt202.1 ([] : List (S50)) 0 bt202.2.1 bt202.2.2.1 bt202.2.2.2)))
theorem impl_PlacesRead.mono_l : ∀ k, (∀ y0 y1 y2 y3 y4 y5, LeO (impl_PlacesRead.l0 k y0 y1 y2 y3 y4 y5) (impl_PlacesRead.l0 (k + 1) y0 y1 y2 y3 y4 y5)) ∧ (∀ y0 y1 y2 y3 y4 y5 y6, LeO (impl_PlacesRead.j1 k y0 y1 y2 y3 y4 y5 y6) (impl_PlacesRead.j1 (k + 1) y0 y1 y2 y3 y4 y5 y6))
  | 0 => ⟨fun _ _ _ _ _ _ r h => by simp [impl_PlacesRead.l0] at h, fun _ _ _ _ _ _ _ r h => by simp [impl_PlacesRead.j1] at h⟩
  | k + 1 => by
    obtain ⟨ih0, ih1⟩ := impl_PlacesRead.mono_l k
    refine ⟨?_, ?_⟩
    · intro y0 y1 y2 y3 y4 y5
      unfold impl_PlacesRead.l0
      repeat' first
      | (with_reducible exact ih0 _ _ _ _ _ _)
      | (with_reducible exact ih1 _ _ _ _ _ _ _)
      | (with_reducible exact impl_PlacesRight.mono _ _)
      | (with_reducible exact impl_reader_num.mono _ _ _ _)
      | (with_reducible exact impl_reader_string.mono _ _ _ _)
      | (with_reducible exact LeO.refl _)
      | (with_reducible exact LeO.none _)
      | (with_reducible refine LeO.ite ?_ ?_)
      | (with_reducible refine LeO.bind ?_ (fun _ => ?_))
      | exact ih0 _ _ _ _ _ _
      | exact ih1 _ _ _ _ _ _ _
      | exact impl_PlacesRight.mono _ _
      | exact impl_reader_num.mono _ _ _ _
      | exact impl_reader_string.mono _ _ _ _
      | exact LeO.none _
      | refine LeO.ite ?_ ?_
      | refine LeO.bind ?_ (fun _ => ?_)
    · intro y0 y1 y2 y3 y4 y5 y6
      unfold impl_PlacesRead.j1
      repeat' first
      | (with_reducible exact ih0 _ _ _ _ _ _)
      | (with_reducible exact ih1 _ _ _ _ _ _ _)
      | (with_reducible exact impl_PlacesRight.mono _ _)
      | (with_reducible exact impl_reader_num.mono _ _ _ _)
      | (with_reducible exact impl_reader_string.mono _ _ _ _)
      | (with_reducible exact LeO.refl _)
      | (with_reducible exact LeO.none _)
      | (with_reducible refine LeO.ite ?_ ?_)
      | (with_reducible refine LeO.bind ?_ (fun _ => ?_))
      | exact ih0 _ _ _ _ _ _
      | exact ih1 _ _ _ _ _ _ _
      | exact impl_PlacesRight.mono _ _
      | exact impl_reader_num.mono _ _ _ _
      | exact impl_reader_string.mono _ _ _ _
      | exact LeO.none _
      | refine LeO.ite ?_ ?_
      | refine LeO.bind ?_ (fun _ => ?_)
theorem impl_PlacesRead.mono : ∀ a0 k, LeO (impl_PlacesRead.f k a0) (impl_PlacesRead.f (k + 1) a0) := by
  intro a0 k
  obtain ⟨ih0, ih1⟩ := impl_PlacesRead.mono_l k
  unfold impl_PlacesRead.f
  repeat' first
      | (with_reducible exact ih0 _ _ _ _ _ _)
      | (with_reducible exact ih1 _ _ _ _ _ _ _)
      | (with_reducible exact impl_PlacesRight.mono _ _)
      | (with_reducible exact impl_reader_num.mono _ _ _ _)
      | (with_reducible exact impl_reader_string.mono _ _ _ _)
      | (with_reducible exact LeO.refl _)
      | (with_reducible exact LeO.none _)
      | (with_reducible refine LeO.ite ?_ ?_)
      | (with_reducible refine LeO.bind ?_ (fun _ => ?_))
      | exact ih0 _ _ _ _ _ _
      | exact ih1 _ _ _ _ _ _ _
      | exact impl_PlacesRight.mono _ _
      | exact impl_reader_num.mono _ _ _ _
      | exact impl_reader_string.mono _ _ _ _
      | exact LeO.none _
      | refine LeO.ite ?_ ?_
      | refine LeO.bind ?_ (fun _ => ?_)
set_option maxHeartbeats 8000000 in
set_option maxRecDepth 100000 in
theorem impl_PlacesRead.calls (k : Nat) (a0 : ByteArray) (r1 : List (S50)) (r2 : Int) (w : World) (h : impl_PlacesRead.f k a0 = some (r1, r2)) :
    Calls Try.prog 71 #[.string a0] w fun e w' => ∃ v0_ : Value, e = .returned (.agg #[v0_, .int .i64 r2]) ∧ Kd.R k50 50 w' w.heap.size (fun _ => True) v0_ r1 ∧ Below w.heap.size w w' := by
  have hu101 := Try.underlying101
  have hu153 := Try.underlying153
  have hu50 := Try.underlying50
  have HB := AM (Below.refl w.heap.size w)
  have H : ((impl_isLong.f a0).bind fun t200 => (if t200 = true then (some (([] : List (S50)), 2)) else ((impl_reader_num.f k a0 0 false).bind fun bt202 => (impl_PlacesRead.l0 k bt202.1 ([] : List (S50)) 0 bt202.2.1 bt202.2.2.1 bt202.2.2.2)))) = some (r1, r2) := h
  clear h
  obtain ⟨t200, A2, H⟩ := OB H
  try dsimp only at H
  replace A2 := AM A2
  by_cases c3 : t200 = true
  · subst c3
    rw [if_pos rfl] at H
    simp only [Option.some.injEq, Prod.mk.injEq] at H
    obtain ⟨rfl, rfl⟩ := H
    go_enter Try.func71, Try.ntmps71
    go_wp2_with (first | ((with_reducible refine gate_dst (N := 2) rfl ?_); refine be_ 2 #[.slice none 0 0, .int .i64 0] 101 ?_; intro gb199 hg w4 hbox hb; have BK199 := AM hbox; have GW199 := AM ((by rw [hg]; exact (below_size bel_) : w.heap.size ≤ gb199)); have GE199 := AM ((by rw [hg]; exact (below_size bel_) : w.heap.size ≤ gb199)); replace HB := AM (below_step bel_ hb); clear hb hbox hg) | ((with_reducible refine gate_callee (f := 78) rfl ?_); refine gl_ (some 8) Try.func78 #[.string a0] ?_; (with_reducible refine (impl_isLong.calls a0 true _ A2.out).mono ?_); rintro e w' ⟨rfl, ⟨nd, rfl⟩⟩; refine ⟨_, rfl, ?_⟩; (try (rw [drewN_self w4]; generalize hq_ : World.drewN w4 _ = w4; replace BK199 : Aside0 (w4.heap[gb199]? = some (.cells #[.slice none 0 0, .int .i64 0] 101 (0, 0))) := ⟨by rw [← hq_]; exact (bk_ BK199.out)⟩; replace HB : Aside0 (Below w.heap.size w w4) := ⟨by rw [← hq_]; exact bel_⟩; clear hq_)); have hcz5_0 : w4.cell? ⟨gb199, 0, none⟩ = some (.slice none 0 0) := (blk_cell BK199.out 0).trans rfl; have hcz5_1 : w4.cell? ⟨gb199, 1, none⟩ = some (.int .i64 0) := (blk_cell BK199.out 1).trans rfl; have hfz5_0 := blk_frozen BK199.out 0; have hfz5_1 := blk_frozen BK199.out 1))
    refine bodyPost_ret (results_cell_row rfl _ _ gb199 101 #[.slice none 0 0, .int .i64 2] (0, 0) _ rfl bka_ Try.underlying101 rfl (by kernel_rfl)) rfl ?_
    exact ⟨_, ri_, by first | exact Kd.R_nil _ _ _ _ _ | exact Kd.N_nil _ _ _ _ _ | exact Kd.V_nil _ _ _ _ _ | exact Kd.Q_nil _ _ _ _ _ | exact Kd.S_nil _ _ _ _ _, bel_⟩
  · replace c3 := Bool.eq_false_iff.mpr c3
    subst c3
    rw [if_neg (show ¬ (false = true) by decide)] at H
    obtain ⟨⟨t202, t203, t204, t205⟩, A6, H⟩ := OB H
    try dsimp only at H
    replace A6 := AM A6
    have H' := AM H
    clear H
    go_enter Try.func71, Try.ntmps71
    go_wp2_with (first | ((with_reducible refine gate_dst (N := 2) rfl ?_); refine be_ 2 #[.slice none 0 0, .int .i64 0] 101 ?_; intro gb199 hg w7 hbox hb; have BK199 := AM hbox; have GW199 := AM ((by rw [hg]; exact (below_size bel_) : w.heap.size ≤ gb199)); have GE199 := AM ((by rw [hg]; exact (below_size bel_) : w.heap.size ≤ gb199)); replace HB := AM (below_step bel_ hb); clear hb hbox hg) | ((with_reducible refine gate_callee (f := 78) rfl ?_); refine gl_ (some 8) Try.func78 #[.string a0] ?_; (with_reducible refine (impl_isLong.calls a0 false _ A2.out).mono ?_); rintro e w' ⟨rfl, ⟨nd, rfl⟩⟩; refine ⟨_, rfl, ?_⟩) | ((with_reducible refine gate_dst (N := 12) rfl ?_); refine be_ 12 #[.string a0, .int .i64 0, .bool false] 153 ?_; intro gb201 hg w8 hbox hb; have NB199_201 := AM ((by rw [hg]; exact Nat.ne_of_lt (blk_lt (g := gb199) (o := .cells #[.slice none 0 0, .int .i64 0] 101 (0, 0)) (bk_ BK199.out)) : gb199 ≠ gb201)); have NB201_199 := AM ((by rw [hg]; exact Nat.ne_of_gt (blk_lt (g := gb199) (o := .cells #[.slice none 0 0, .int .i64 0] 101 (0, 0)) (bk_ BK199.out)) : gb201 ≠ gb199)); replace BK199 := AM (blk_below (g := gb199) (o := .cells #[.slice none 0 0, .int .i64 0] 101 (0, 0)) (bk_ BK199.out) hb); have HI201 := AM ((⟨hbox, (by rw [hg]; exact (below_size bel_) : w.heap.size ≤ gb201)⟩ : IsS153 w w8 gb201 a0 0 false)); replace HB := AM (below_step bel_ hb); clear hb hbox hg) | ((with_reducible refine gate_callee (f := 137) rfl ?_); refine gl_ (some 14) Try.func137 #[.pointer (some ⟨gb201, 0, none⟩)] ?_; (with_reducible refine (impl_reader_num.calls k gb201 a0 0 false t202 t203 t204 t205 w _ ?side1 ?side2 A6.out).mono ?_); (case side1 => repeat (first | (with_reducible first | exact HI201.out | apply IsS153.alloc | apply IsS153.drewN | apply IsS153.drew | apply IsS153.set_0 | apply IsS153.set_1 | apply IsS153.set_2 | refine IsS153.far ?_ NB201_199.out _) | exact HI201.out)); (case side2 => repeat (first | (with_reducible first | exact HB.out | apply below_alloc | apply pw_below_drewN | apply below_drew1 | refine below_set ?_ (IsS153.ge HI201.out) | refine below_set ?_ GE199.out) | exact HB.out)); rintro e w9 ⟨rfl, hi, hb, hk⟩; refine ⟨_, rfl, ?_⟩; replace BK199 := AM (KeepBut.blk hk (g' := gb199) (o := .cells #[.slice none 0 0, .int .i64 0] 101 (0, 0)) (bk_ BK199.out) NB199_201.out (by simp)); replace HB := AM hb; replace HI201 := AM hi; (try clear hb); (try clear hb2); (try clear hk); (try clear hi)))
    go_loopg [5, 6] k (fun kq v5 v6 w' => ∃ (x5_1 : List (S50)) (x6_1 : Int) (x202000_1 : ByteArray) (x202001_1 : Int) (x202002_1 : Bool), v6 = .int .i64 x6_1 ∧ Aside0 (impl_PlacesRead.l0 kq t202 x5_1 x6_1 x202000_1 x202001_1 x202002_1 = some (r1, r2)) ∧ Aside0 (kq ≤ k) ∧ Aside0 (Kd.R k50 50 w' w.heap.size (fun _ => True) v5 x5_1) ∧ Aside0 (w'.heap[gb199]? = some (.cells #[(.slice none 0 0), .int .i64 0] 101 (0, 0))) ∧ Aside0 (IsS153 w w' gb201 x202000_1 x202001_1 x202002_1) ∧ Aside0 (Below w.heap.size w w'))
    case atStart => exact ⟨(([] : List (S50))), (0), (t203), (t204), (t205), (by first | rfl | (simp; done) | (simp [*]; done)), H', ⟨Nat.le_refl _⟩, ⟨by first | exact Kd.R_nil _ _ _ _ _ | exact Kd.N_nil _ _ _ _ _ | exact Kd.V_nil _ _ _ _ _ | exact Kd.Q_nil _ _ _ _ _ | exact Kd.S_nil _ _ _ _ _⟩, ⟨bk_ BK199.out⟩, ⟨is153_⟩, ⟨belg_ (IsS153.ge HI201.out)⟩⟩
    case round =>
      clear H'
      try clear c1
      try clear p2
      try clear c3
      try clear c7
      try clear hcz5_0
      try clear hcz5_1
      try clear hfz5_0
      try clear hfz5_1
      obtain ⟨x5_1, x6_1, x202000_1, x202001_1, x202002_1, rfl, HA, HK1, HO_5, BK199, HI201, HB⟩ := hrel
      cases gk with
      | zero => exact absurd HA.out (by simp [impl_PlacesRead.l0])
      | succ k1 =>
        have H := HA.out
        clear HA
        simp only [impl_PlacesRead.l0] at H
        have HC10 := AM H
        clear H
        go_upto_region 7 with (fail)
        go_cut [28] (fun v28 wc => ∃ (kq : Nat) (x28_9 : Bool), v28 = .bool x28_9 ∧ Aside0 (impl_PlacesRead.j1 kq t202 x5_1 x6_1 x28_9 x202000_1 x202001_1 x202002_1 = some (r1, r2)) ∧ Aside0 (kq ≤ k1) ∧ Aside0 (Kd.R k50 50 wc w.heap.size (fun _ => True) u5 x5_1) ∧ Aside0 (wc.heap[gb199]? = some (.cells #[(.slice none 0 0), .int .i64 0] 101 (0, 0))) ∧ Aside0 (IsS153 w wc gb201 x202000_1 x202001_1 x202002_1) ∧ Aside0 (Below w.heap.size w wc))
        case first =>
          have H := HC10.out
          clear HC10
          by_cases c11 : x6_1 < t202
          · rw [if_pos c11] at H
            have c11b0 : decide (x6_1 < t202) = true := decide_eq_true c11
            clear c11
            (first | rw [c11b0] | (simp only [i64_w, i32_w]; rw [c11b0]) | skip)
            by_cases c12 : x6_1 ≤ 300
            · rw [if_pos c12] at H
              have c12b0 : decide (x6_1 ≤ 300) = true := decide_eq_true c12
              clear c12
              have H' := AM H
              clear H
              obtain ⟨HGz13, hgz13⟩ := HI201.out
              have hcz13_0 := cellS153_0 HGz13
              have hcz13_1 := cellS153_1 HGz13
              have hcz13_2 := cellS153_2 HGz13
              have hfz13_0 := blk_frozen HGz13 0
              have hfz13_1 := blk_frozen HGz13 1
              have hfz13_2 := blk_frozen HGz13 2
              clear HGz13 hgz13
              go_wp2
              go_meet
              case rel => exact ⟨_, (!x202002_1), (by first | rfl | (simp; done) | (simp [*]; done)), H', ⟨by have := HK1.out; first | omega | exact Nat.le_refl _⟩, ⟨ro_ HO_5.out⟩, ⟨bk_ BK199.out⟩, ⟨is153_⟩, ⟨belg_ (IsS153.ge HI201.out)⟩⟩
            · rw [if_neg c12] at H
              have c12b0 : decide (x6_1 ≤ 300) = false := decide_eq_false c12
              clear c12
              have H' := AM H
              clear H
              go_wp2
              go_meet
              case rel => exact ⟨_, (false), (by first | rfl | (simp; done) | (simp [*]; done)), H', ⟨by have := HK1.out; first | omega | exact Nat.le_refl _⟩, ⟨ro_ HO_5.out⟩, ⟨bk_ BK199.out⟩, ⟨is153_⟩, ⟨belg_ (IsS153.ge HI201.out)⟩⟩
          · rw [if_neg c11] at H
            have c11b0 : decide (x6_1 < t202) = false := decide_eq_false c11
            clear c11
            (first | rw [c11b0] | (simp only [i64_w, i32_w]; rw [c11b0]) | skip)
            have H' := AM H
            clear H
            go_wp2
            go_meet
            case rel => exact ⟨_, (false), (by first | rfl | (simp; done) | (simp [*]; done)), H', ⟨by have := HK1.out; first | omega | exact Nat.le_refl _⟩, ⟨ro_ HO_5.out⟩, ⟨bk_ BK199.out⟩, ⟨is153_⟩, ⟨belg_ (IsS153.ge HI201.out)⟩⟩
        case rest =>
          clear HC10
          try clear c1
          try clear p2
          try clear c3
          try clear c7
          try clear c11
          try clear c11b0
          try clear c12
          try clear c12b0
          try clear c13
          try clear hcz13_0
          try clear hcz13_1
          try clear hcz13_2
          try clear hcz5_0
          try clear hcz5_1
          try clear hfz13_0
          try clear hfz13_1
          try clear hfz13_2
          try clear hfz5_0
          try clear hfz5_1
          try clear p2
          obtain ⟨kq, x28_9, rfl, HA, HJ9, HO_5, BK199, HI201, HB⟩ := hcut
          cases kq with
          | zero => exact absurd HA.out (by simp [impl_PlacesRead.j1])
          | succ kj9 =>
            have H := HA.out
            clear HA
            simp only [impl_PlacesRead.j1] at H
            by_cases c14 : x28_9 = true
            · subst c14
              rw [if_pos rfl] at H
              obtain ⟨⟨t206, t207, t208, t209⟩, A15, H⟩ := OB H
              try dsimp only at H
              replace A15 := AM A15
              obtain ⟨⟨t210, t211, t212, t213⟩, A16, H⟩ := OB H
              try dsimp only at H
              replace A16 := AM A16
              obtain ⟨⟨t214, t215, t216, t217⟩, A17, H⟩ := OB H
              try dsimp only at H
              replace A17 := AM A17
              obtain ⟨⟨t218, t219, t220, t221⟩, A18, H⟩ := OB H
              try dsimp only at H
              replace A18 := AM A18
              obtain ⟨⟨t222, t223, t224, t225⟩, A19, H⟩ := OB H
              try dsimp only at H
              replace A19 := AM A19
              by_cases c20 : x5_1.length < 2513169434916
              · rw [if_pos c20] at H
                have LMc20 := AM c20
                clear c20
                obtain ⟨y226, hy226⟩ : ∃ y_ : List (S50), y_ = (x5_1 ++ [(⟨t206, t210, t214, t218, t222⟩ : S50)]) := ⟨_, rfl⟩
                replace H : (impl_PlacesRead.l0 kj9 t202 y226 (wrap64 (x6_1 + 1)) t223 t224 t225) = some (r1, r2) := by first | (rw [hy226]; with_reducible exact H) | (have H2_ := (Option.bind_some _ _).symm.trans H; rw [hy226]; with_reducible exact H2_) | (have H2_ := (Option.bind_some _ _).symm.trans H; with_reducible exact H2_) | with_reducible exact H | (rw [hy226]; exact H) | exact H
                have Ny226 := AM hy226
                clear hy226
                have H' := AM H
                clear H
                go_wp2_with (first | ((with_reducible refine gate_callee (f := 138) rfl ?_); refine gl_ (some 33) Try.func138 #[.pointer (some ⟨gb201, 0, none⟩), .int .i64 32] ?_; (with_reducible refine (impl_reader_take.calls gb201 x202000_1 x202001_1 x202002_1 32 t206 t207 t208 t209 w _ ?side1 ?side2 A15.out).mono ?_); (case side1 => repeat (first | (with_reducible first | exact HI201.out | apply IsS153.alloc | apply IsS153.drewN | apply IsS153.drew | apply IsS153.set_0 | apply IsS153.set_1 | apply IsS153.set_2 | refine IsS153.far ?_ NB201_199.out _) | exact HI201.out)); (case side2 => repeat (first | (with_reducible first | exact HB.out | apply below_alloc | apply pw_below_drewN | apply below_drew1 | refine below_set ?_ (IsS153.ge HI201.out) | refine below_set ?_ GE199.out) | exact HB.out)); rintro e w21 ⟨rfl, hi, hb, hk⟩; refine ⟨_, rfl, ?_⟩; replace HO_5 := AM (Kd.R_mono (Kd.R_keep (IsS153.apart (show IsS153 w _ gb201 x202000_1 x202001_1 x202002_1 from is153_) (ro_ HO_5.out) (by decide)) hk (fun _ h => h.2)) (fun _ h => h.1)); replace BK199 := AM (KeepBut.blk hk (g' := gb199) (o := .cells #[.slice none 0 0, .int .i64 0] 101 (0, 0)) (bk_ BK199.out) NB199_201.out (by simp)); replace HB := AM hb; replace HI201 := AM hi; (try clear hb); (try clear hb2); (try clear hk); (try clear hi)) | ((with_reducible refine gate_callee (f := 139) rfl ?_); refine gl_ (some 35) Try.func139 #[.pointer (some ⟨gb201, 0, none⟩)] ?_; (with_reducible refine (impl_reader_string.calls kj9 gb201 t207 t208 t209 t210 t211 t212 t213 w _ ?side1 ?side2 A16.out).mono ?_); (case side1 => repeat (first | (with_reducible first | exact HI201.out | apply IsS153.alloc | apply IsS153.drewN | apply IsS153.drew | apply IsS153.set_0 | apply IsS153.set_1 | apply IsS153.set_2 | refine IsS153.far ?_ NB201_199.out _) | exact HI201.out)); (case side2 => repeat (first | (with_reducible first | exact HB.out | apply below_alloc | apply pw_below_drewN | apply below_drew1 | refine below_set ?_ (IsS153.ge HI201.out) | refine below_set ?_ GE199.out) | exact HB.out)); rintro e w22 ⟨rfl, hi, hb, hk⟩; refine ⟨_, rfl, ?_⟩; replace HO_5 := AM (Kd.R_mono (Kd.R_keep (IsS153.apart (show IsS153 w _ gb201 t207 t208 t209 from is153_) (ro_ HO_5.out) (by decide)) hk (fun _ h => h.2)) (fun _ h => h.1)); replace BK199 := AM (KeepBut.blk hk (g' := gb199) (o := .cells #[.slice none 0 0, .int .i64 0] 101 (0, 0)) (bk_ BK199.out) NB199_201.out (by simp)); replace HB := AM hb; replace HI201 := AM hi; (try clear hb); (try clear hb2); (try clear hk); (try clear hi)) | ((with_reducible refine gate_callee (f := 137) rfl ?_); refine gl_ (some 37) Try.func137 #[.pointer (some ⟨gb201, 0, none⟩)] ?_; (with_reducible refine (impl_reader_num.calls kj9 gb201 t211 t212 t213 t214 t215 t216 t217 w _ ?side1 ?side2 A17.out).mono ?_); (case side1 => repeat (first | (with_reducible first | exact HI201.out | apply IsS153.alloc | apply IsS153.drewN | apply IsS153.drew | apply IsS153.set_0 | apply IsS153.set_1 | apply IsS153.set_2 | refine IsS153.far ?_ NB201_199.out _) | exact HI201.out)); (case side2 => repeat (first | (with_reducible first | exact HB.out | apply below_alloc | apply pw_below_drewN | apply below_drew1 | refine below_set ?_ (IsS153.ge HI201.out) | refine below_set ?_ GE199.out) | exact HB.out)); rintro e w23 ⟨rfl, hi, hb, hk⟩; refine ⟨_, rfl, ?_⟩; replace HO_5 := AM (Kd.R_mono (Kd.R_keep (IsS153.apart (show IsS153 w _ gb201 t211 t212 t213 from is153_) (ro_ HO_5.out) (by decide)) hk (fun _ h => h.2)) (fun _ h => h.1)); replace BK199 := AM (KeepBut.blk hk (g' := gb199) (o := .cells #[.slice none 0 0, .int .i64 0] 101 (0, 0)) (bk_ BK199.out) NB199_201.out (by simp)); replace HB := AM hb; replace HI201 := AM hi; (try clear hb); (try clear hb2); (try clear hk); (try clear hi)) | ((with_reducible refine gate_callee (f := 137) rfl ?_); refine gl_ (some 39) Try.func137 #[.pointer (some ⟨gb201, 0, none⟩)] ?_; (with_reducible refine (impl_reader_num.calls kj9 gb201 t215 t216 t217 t218 t219 t220 t221 w _ ?side1 ?side2 A18.out).mono ?_); (case side1 => repeat (first | (with_reducible first | exact HI201.out | apply IsS153.alloc | apply IsS153.drewN | apply IsS153.drew | apply IsS153.set_0 | apply IsS153.set_1 | apply IsS153.set_2 | refine IsS153.far ?_ NB201_199.out _) | exact HI201.out)); (case side2 => repeat (first | (with_reducible first | exact HB.out | apply below_alloc | apply pw_below_drewN | apply below_drew1 | refine below_set ?_ (IsS153.ge HI201.out) | refine below_set ?_ GE199.out) | exact HB.out)); rintro e w24 ⟨rfl, hi, hb, hk⟩; refine ⟨_, rfl, ?_⟩; replace HO_5 := AM (Kd.R_mono (Kd.R_keep (IsS153.apart (show IsS153 w _ gb201 t215 t216 t217 from is153_) (ro_ HO_5.out) (by decide)) hk (fun _ h => h.2)) (fun _ h => h.1)); replace BK199 := AM (KeepBut.blk hk (g' := gb199) (o := .cells #[.slice none 0 0, .int .i64 0] 101 (0, 0)) (bk_ BK199.out) NB199_201.out (by simp)); replace HB := AM hb; replace HI201 := AM hi; (try clear hb); (try clear hb2); (try clear hk); (try clear hi)) | ((with_reducible refine gate_callee (f := 137) rfl ?_); refine gl_ (some 41) Try.func137 #[.pointer (some ⟨gb201, 0, none⟩)] ?_; (with_reducible refine (impl_reader_num.calls kj9 gb201 t219 t220 t221 t222 t223 t224 t225 w _ ?side1 ?side2 A19.out).mono ?_); (case side1 => repeat (first | (with_reducible first | exact HI201.out | apply IsS153.alloc | apply IsS153.drewN | apply IsS153.drew | apply IsS153.set_0 | apply IsS153.set_1 | apply IsS153.set_2 | refine IsS153.far ?_ NB201_199.out _) | exact HI201.out)); (case side2 => repeat (first | (with_reducible first | exact HB.out | apply below_alloc | apply pw_below_drewN | apply below_drew1 | refine below_set ?_ (IsS153.ge HI201.out) | refine below_set ?_ GE199.out) | exact HB.out)); rintro e w25 ⟨rfl, hi, hb, hk⟩; refine ⟨_, rfl, ?_⟩; replace HO_5 := AM (Kd.R_mono (Kd.R_keep (IsS153.apart (show IsS153 w _ gb201 t219 t220 t221 from is153_) (ro_ HO_5.out) (by decide)) hk (fun _ h => h.2)) (fun _ h => h.1)); replace BK199 := AM (KeepBut.blk hk (g' := gb199) (o := .cells #[.slice none 0 0, .int .i64 0] 101 (0, 0)) (bk_ BK199.out) NB199_201.out (by simp)); replace HB := AM hb; replace HI201 := AM hi; (try clear hb); (try clear hb2); (try clear hk); (try clear hi)) | ((with_reducible refine gate_builtin (b := .append) (xs := #[.tmp 31, .tmp 43]) rfl ?_); at_builtin; refine Kd.R_append k50 (w0 := w) w.heap.size rfl (.tmp 31) (.tmp 43) 54 50 (.agg #[(.string ⟨#[]⟩), (.string ⟨#[]⟩), (.int .i64 0), (.int .i64 0), (.int .i64 0)]) 56 rfl Try.underlying54 info50 rfl (by decide) (by omega) u5 x5_1 (⟨t206, t210, t214, t218, t222⟩ : S50) [.string t206, .string t210, .int .i64 t214, .int .i64 t218, .int .i64 t222] (fun _ => True) (fun _ => False) rfl rfl ?aP (fun _ hk => hk.elim) ?aF ?aO ?aB ?aS ?aL ?_; (case aP => exact k50_mkM _ _ _ (⟨t206, t210, t214, t218, t222⟩ : S50)); (case aB => exact (belg_ (IsS153.ge HI201.out))); (case aF => exact (fun _ _ => trivial)); (case aO => exact (ro_ HO_5.out)); (case aS => exact (below_size (belg_ (IsS153.ge HI201.out)))); (case aL => have := LMc20.out; omega); intro v227 w26 ho hb hg hat; rw [← Ny226.out] at ho; have n0_ := AM (blk_grown (g := gb199) (o := .cells #[.slice none 0 0, .int .i64 0] 101 (0, 0)) (bk_ BK199.out) hg (Kd.R_ne HO_5.out BK199.out (by decide))); have n1_ := AM (IsS153.grown is153_ hg (IsS153.own_ne HI201.out HO_5.out (by decide))); have n2_ := AM hb; have n3_ := AM ho; clear BK199; clear HI201; clear HB; clear HO_5; have BK199 := n0_; have HI201 := n1_; have HB := n2_; have HO228 := n3_; clear n0_ n1_ n2_ n3_; clear ho hb hg hat))
                go_roundg kj9
                case measure => have := HK1.out; have := HJ9.out; omega
                case rel => exact ⟨(y226), (wrap64 (x6_1 + 1)), (t223), (t224), (t225), (by first | rfl | (simp; done) | (simp [*]; done)), H', ⟨by have := HK1.out; have := HJ9.out; omega⟩, ⟨ro_ HO228.out⟩, ⟨bk_ BK199.out⟩, ⟨is153_⟩, ⟨belg_ (IsS153.ge HI201.out)⟩⟩
              · rw [if_neg c20] at H
                exact absurd H (by simp)
            · replace c14 := Bool.eq_false_iff.mpr c14
              subst c14
              rw [if_neg (show ¬ (false = true) by decide)] at H
              obtain ⟨t229, A27, H⟩ := OB H
              try dsimp only at H
              replace A27 := AM A27
              by_cases c28 : t202 = t229
              · rw [if_pos c28] at H
                have c28b0 : (t202 == t229) = true := beq_iff_eq.mpr c28
                have c28b1 : (t202 != t229) = false := bne_eq_false_iff_eq.mpr c28
                clear c28
                obtain ⟨⟨t230, t231, t232, t233⟩, A29, H⟩ := OB H
                try dsimp only at H
                replace A29 := AM A29
                by_cases c30 : t230 = true
                · subst c30
                  rw [if_pos rfl] at H
                  obtain ⟨t234, A31, H⟩ := OB H
                  try dsimp only at H
                  replace A31 := AM A31
                  by_cases c32 : t234 = true
                  · subst c32
                    rw [if_pos rfl] at H
                    simp only [Option.some.injEq, Prod.mk.injEq] at H
                    obtain ⟨rfl, rfl⟩ := H
                    obtain ⟨Ao33, co33, eo33⟩ := Kd.R_slice HO_5.out
                    subst eo33
                    go_wp2_with (first | ((with_reducible refine gate_callee (f := 140) rfl ?_); refine gl_ (some 47) Try.func140 #[.slice Ao33 x5_1.length co33] ?_; (with_reducible refine (impl_Place.calls _ _ x5_1 t229 _ ?side1 ?side2 A27.out).mono ?_); (case side1 => repeat (first | exact (Kd.R_reads' HO_5.out).2.2 | (with_reducible refine Kd.C_alloc ?_ _) | (with_reducible refine Kd.C_drewN ?_ _) | (with_reducible refine Kd.C_drew ?_))); (case side2 => exact (Kd.R_reads' HO_5.out).2.1); rintro e w' ⟨rfl, ⟨nd, rfl⟩⟩; refine ⟨_, rfl, ?_⟩; (try (rw [drewN_self wc]; generalize hq_ : World.drewN wc _ = wc; replace HO_5 : Aside0 (Kd.R k50 50 wc w.heap.size (fun _ => True) (.slice Ao33 x5_1.length co33) x5_1) := ⟨by rw [← hq_]; exact (ro_ HO_5.out)⟩; replace BK199 : Aside0 (wc.heap[gb199]? = some (.cells #[.slice none 0 0, .int .i64 0] 101 (0, 0))) := ⟨by rw [← hq_]; exact (bk_ BK199.out)⟩; replace HB : Aside0 (Below w.heap.size w wc) := ⟨by rw [← hq_]; exact (belg_ (IsS153.ge HI201.out))⟩; replace HI201 : Aside0 (IsS153 w wc gb201 x202000_1 x202001_1 x202002_1) := ⟨by rw [← hq_]; exact is153_⟩; clear hq_))) | (go_at_call 141; (with_reducible refine (impl_reader_isDone.calls gb201 x202000_1 x202001_1 x202002_1 true t231 t232 t233 w _ ?side1 ?side2 A29.out).mono ?_); (case side1 => repeat (first | (with_reducible first | exact HI201.out | apply IsS153.alloc | apply IsS153.drewN | apply IsS153.drew | apply IsS153.set_0 | apply IsS153.set_1 | apply IsS153.set_2 | refine IsS153.far ?_ NB201_199.out _) | exact HI201.out)); (case side2 => repeat (first | (with_reducible first | exact HB.out | apply below_alloc | apply pw_below_drewN | apply below_drew1 | refine below_set ?_ (IsS153.ge HI201.out) | refine below_set ?_ GE199.out) | exact HB.out)); rintro e w34 ⟨rfl, hi, hb, hk⟩; replace HO_5 := AM (Kd.R_mono (Kd.R_keep (IsS153.apart (show IsS153 w _ gb201 x202000_1 x202001_1 x202002_1 from is153_) (ro_ HO_5.out) (by decide)) hk (fun _ h => h.2)) (fun _ h => h.1)); replace BK199 := AM (KeepBut.blk hk (g' := gb199) (o := .cells #[.slice none 0 0, .int .i64 0] 101 (0, 0)) (bk_ BK199.out) NB199_201.out (by simp)); replace HB := AM hb; replace HI201 := AM hi; (try clear hb); (try clear hb2); (try clear hk); (try clear hi)) | (go_at_call 106; (with_reducible refine (impl_PlacesRight.calls kj9 _ _ x5_1 true _ ?side1 ?side2 A31.out).mono ?_); (case side1 => repeat (first | exact (Kd.R_reads' HO_5.out).2.2 | (with_reducible refine Kd.C_alloc ?_ _) | (with_reducible refine Kd.C_drewN ?_ _) | (with_reducible refine Kd.C_drew ?_))); (case side2 => exact (Kd.R_reads' HO_5.out).2.1); rintro e w35 ⟨rfl, hb⟩; replace HO_5 := AM (Kd.R_below (ro_ HO_5.out) hb); replace BK199 := AM (blk_below (g := gb199) (o := .cells #[.slice none 0 0, .int .i64 0] 101 (0, 0)) (bk_ BK199.out) hb); replace HB := AM (below_step (belg_ (IsS153.ge HI201.out)) hb); replace HI201 := AM (IsS153.below is153_ hb); (try clear hb); (try clear hb2); (try clear hk); (try clear hi); have hnb36 := NB199_201.out; have hnc36 := NB201_199.out; have hcz37_0 : w35.cell? ⟨gb199, 0, none⟩ = some (.slice none 0 0) := (blk_cell BK199.out 0).trans rfl; have hcz37_1 : w35.cell? ⟨gb199, 1, none⟩ = some (.int .i64 0) := (blk_cell BK199.out 1).trans rfl; have hfz37_0 := blk_frozen BK199.out 0; have hfz37_1 := blk_frozen BK199.out 1))
                    refine bodyPost_ret (results_cell_row rfl _ _ gb199 101 #[.slice Ao33 x5_1.length co33, .int .i64 0] (0, 0) _ rfl bka_ Try.underlying101 rfl (by kernel_rfl)) rfl ?_
                    exact ⟨_, ri_, by (with_reducible repeat (first | apply Kd.R_alloc | apply Kd.R_drewN | apply Kd.R_drew)); exact Kd.R_mono (Kd.R_far (p := ⟨gb199, 1, none⟩) (Kd.R_far (p := ⟨gb199, 0, none⟩) (Kd.R_types HO_5.out BK199.out (by decide)) (fun _ hk => hk.2) (.slice Ao33 x5_1.length co33)) (fun _ hk => hk.2) (.int .i64 0)) (fun _ hk => trivial), belg_ (IsS153.ge HI201.out)⟩
                  · replace c32 := Bool.eq_false_iff.mpr c32
                    subst c32
                    rw [if_neg (show ¬ (false = true) by decide)] at H
                    simp only [Option.some.injEq, Prod.mk.injEq] at H
                    obtain ⟨rfl, rfl⟩ := H
                    obtain ⟨Ao38, co38, eo38⟩ := Kd.R_slice HO_5.out
                    subst eo38
                    go_wp2_with (first | ((with_reducible refine gate_callee (f := 140) rfl ?_); refine gl_ (some 47) Try.func140 #[.slice Ao38 x5_1.length co38] ?_; (with_reducible refine (impl_Place.calls _ _ x5_1 t229 _ ?side1 ?side2 A27.out).mono ?_); (case side1 => repeat (first | exact (Kd.R_reads' HO_5.out).2.2 | (with_reducible refine Kd.C_alloc ?_ _) | (with_reducible refine Kd.C_drewN ?_ _) | (with_reducible refine Kd.C_drew ?_))); (case side2 => exact (Kd.R_reads' HO_5.out).2.1); rintro e w' ⟨rfl, ⟨nd, rfl⟩⟩; refine ⟨_, rfl, ?_⟩; (try (rw [drewN_self wc]; generalize hq_ : World.drewN wc _ = wc; replace HO_5 : Aside0 (Kd.R k50 50 wc w.heap.size (fun _ => True) (.slice Ao38 x5_1.length co38) x5_1) := ⟨by rw [← hq_]; exact (ro_ HO_5.out)⟩; replace BK199 : Aside0 (wc.heap[gb199]? = some (.cells #[.slice none 0 0, .int .i64 0] 101 (0, 0))) := ⟨by rw [← hq_]; exact (bk_ BK199.out)⟩; replace HB : Aside0 (Below w.heap.size w wc) := ⟨by rw [← hq_]; exact (belg_ (IsS153.ge HI201.out))⟩; replace HI201 : Aside0 (IsS153 w wc gb201 x202000_1 x202001_1 x202002_1) := ⟨by rw [← hq_]; exact is153_⟩; clear hq_))) | (go_at_call 141; (with_reducible refine (impl_reader_isDone.calls gb201 x202000_1 x202001_1 x202002_1 true t231 t232 t233 w _ ?side1 ?side2 A29.out).mono ?_); (case side1 => repeat (first | (with_reducible first | exact HI201.out | apply IsS153.alloc | apply IsS153.drewN | apply IsS153.drew | apply IsS153.set_0 | apply IsS153.set_1 | apply IsS153.set_2 | refine IsS153.far ?_ NB201_199.out _) | exact HI201.out)); (case side2 => repeat (first | (with_reducible first | exact HB.out | apply below_alloc | apply pw_below_drewN | apply below_drew1 | refine below_set ?_ (IsS153.ge HI201.out) | refine below_set ?_ GE199.out) | exact HB.out)); rintro e w39 ⟨rfl, hi, hb, hk⟩; replace HO_5 := AM (Kd.R_mono (Kd.R_keep (IsS153.apart (show IsS153 w _ gb201 x202000_1 x202001_1 x202002_1 from is153_) (ro_ HO_5.out) (by decide)) hk (fun _ h => h.2)) (fun _ h => h.1)); replace BK199 := AM (KeepBut.blk hk (g' := gb199) (o := .cells #[.slice none 0 0, .int .i64 0] 101 (0, 0)) (bk_ BK199.out) NB199_201.out (by simp)); replace HB := AM hb; replace HI201 := AM hi; (try clear hb); (try clear hb2); (try clear hk); (try clear hi)) | (go_at_call 106; (with_reducible refine (impl_PlacesRight.calls kj9 _ _ x5_1 false _ ?side1 ?side2 A31.out).mono ?_); (case side1 => repeat (first | exact (Kd.R_reads' HO_5.out).2.2 | (with_reducible refine Kd.C_alloc ?_ _) | (with_reducible refine Kd.C_drewN ?_ _) | (with_reducible refine Kd.C_drew ?_))); (case side2 => exact (Kd.R_reads' HO_5.out).2.1); rintro e w40 ⟨rfl, hb⟩; replace HO_5 := AM (Kd.R_below (ro_ HO_5.out) hb); replace BK199 := AM (blk_below (g := gb199) (o := .cells #[.slice none 0 0, .int .i64 0] 101 (0, 0)) (bk_ BK199.out) hb); replace HB := AM (below_step (belg_ (IsS153.ge HI201.out)) hb); replace HI201 := AM (IsS153.below is153_ hb); (try clear hb); (try clear hb2); (try clear hk); (try clear hi); have hnb41 := NB199_201.out; have hnc41 := NB201_199.out; have hcz42_0 : w40.cell? ⟨gb199, 0, none⟩ = some (.slice none 0 0) := (blk_cell BK199.out 0).trans rfl; have hcz42_1 : w40.cell? ⟨gb199, 1, none⟩ = some (.int .i64 0) := (blk_cell BK199.out 1).trans rfl; have hfz42_0 := blk_frozen BK199.out 0; have hfz42_1 := blk_frozen BK199.out 1))
                    refine bodyPost_ret (results_cell_row rfl _ _ gb199 101 #[.slice none 0 0, .int .i64 3] (0, 0) _ rfl bka_ Try.underlying101 rfl (by kernel_rfl)) rfl ?_
                    exact ⟨_, ri_, by first | exact Kd.R_nil _ _ _ _ _ | exact Kd.N_nil _ _ _ _ _ | exact Kd.V_nil _ _ _ _ _ | exact Kd.Q_nil _ _ _ _ _ | exact Kd.S_nil _ _ _ _ _, belg_ (IsS153.ge HI201.out)⟩
                · replace c30 := Bool.eq_false_iff.mpr c30
                  subst c30
                  rw [if_neg (show ¬ (false = true) by decide)] at H
                  simp only [Option.some.injEq, Prod.mk.injEq] at H
                  obtain ⟨rfl, rfl⟩ := H
                  obtain ⟨Ao43, co43, eo43⟩ := Kd.R_slice HO_5.out
                  subst eo43
                  go_wp2_with (first | ((with_reducible refine gate_callee (f := 140) rfl ?_); refine gl_ (some 47) Try.func140 #[.slice Ao43 x5_1.length co43] ?_; (with_reducible refine (impl_Place.calls _ _ x5_1 t229 _ ?side1 ?side2 A27.out).mono ?_); (case side1 => repeat (first | exact (Kd.R_reads' HO_5.out).2.2 | (with_reducible refine Kd.C_alloc ?_ _) | (with_reducible refine Kd.C_drewN ?_ _) | (with_reducible refine Kd.C_drew ?_))); (case side2 => exact (Kd.R_reads' HO_5.out).2.1); rintro e w' ⟨rfl, ⟨nd, rfl⟩⟩; refine ⟨_, rfl, ?_⟩; (try (rw [drewN_self wc]; generalize hq_ : World.drewN wc _ = wc; replace HO_5 : Aside0 (Kd.R k50 50 wc w.heap.size (fun _ => True) (.slice Ao43 x5_1.length co43) x5_1) := ⟨by rw [← hq_]; exact (ro_ HO_5.out)⟩; replace BK199 : Aside0 (wc.heap[gb199]? = some (.cells #[.slice none 0 0, .int .i64 0] 101 (0, 0))) := ⟨by rw [← hq_]; exact (bk_ BK199.out)⟩; replace HB : Aside0 (Below w.heap.size w wc) := ⟨by rw [← hq_]; exact (belg_ (IsS153.ge HI201.out))⟩; replace HI201 : Aside0 (IsS153 w wc gb201 x202000_1 x202001_1 x202002_1) := ⟨by rw [← hq_]; exact is153_⟩; clear hq_))) | (go_at_call 141; (with_reducible refine (impl_reader_isDone.calls gb201 x202000_1 x202001_1 x202002_1 false t231 t232 t233 w _ ?side1 ?side2 A29.out).mono ?_); (case side1 => repeat (first | (with_reducible first | exact HI201.out | apply IsS153.alloc | apply IsS153.drewN | apply IsS153.drew | apply IsS153.set_0 | apply IsS153.set_1 | apply IsS153.set_2 | refine IsS153.far ?_ NB201_199.out _) | exact HI201.out)); (case side2 => repeat (first | (with_reducible first | exact HB.out | apply below_alloc | apply pw_below_drewN | apply below_drew1 | refine below_set ?_ (IsS153.ge HI201.out) | refine below_set ?_ GE199.out) | exact HB.out)); rintro e w44 ⟨rfl, hi, hb, hk⟩; replace HO_5 := AM (Kd.R_mono (Kd.R_keep (IsS153.apart (show IsS153 w _ gb201 x202000_1 x202001_1 x202002_1 from is153_) (ro_ HO_5.out) (by decide)) hk (fun _ h => h.2)) (fun _ h => h.1)); replace BK199 := AM (KeepBut.blk hk (g' := gb199) (o := .cells #[.slice none 0 0, .int .i64 0] 101 (0, 0)) (bk_ BK199.out) NB199_201.out (by simp)); replace HB := AM hb; replace HI201 := AM hi; (try clear hb); (try clear hb2); (try clear hk); (try clear hi); have hnb45 := NB199_201.out; have hnc45 := NB201_199.out; have hcz46_0 : w44.cell? ⟨gb199, 0, none⟩ = some (.slice none 0 0) := (blk_cell BK199.out 0).trans rfl; have hcz46_1 : w44.cell? ⟨gb199, 1, none⟩ = some (.int .i64 0) := (blk_cell BK199.out 1).trans rfl; have hfz46_0 := blk_frozen BK199.out 0; have hfz46_1 := blk_frozen BK199.out 1))
                  refine bodyPost_ret (results_cell_row rfl _ _ gb199 101 #[.slice none 0 0, .int .i64 3] (0, 0) _ rfl bka_ Try.underlying101 rfl (by kernel_rfl)) rfl ?_
                  exact ⟨_, ri_, by first | exact Kd.R_nil _ _ _ _ _ | exact Kd.N_nil _ _ _ _ _ | exact Kd.V_nil _ _ _ _ _ | exact Kd.Q_nil _ _ _ _ _ | exact Kd.S_nil _ _ _ _ _, belg_ (IsS153.ge HI201.out)⟩
              · rw [if_neg c28] at H
                have c28b0 : (t202 == t229) = false := beq_eq_false_iff_ne.mpr c28
                have c28b1 : (t202 != t229) = true := bne_iff_ne.mpr c28
                simp only [Option.some.injEq, Prod.mk.injEq] at H
                obtain ⟨rfl, rfl⟩ := H
                obtain ⟨Ao47, co47, eo47⟩ := Kd.R_slice HO_5.out
                subst eo47
                go_wp2_with (first | ((with_reducible refine gate_callee (f := 140) rfl ?_); refine gl_ (some 47) Try.func140 #[.slice Ao47 x5_1.length co47] ?_; (with_reducible refine (impl_Place.calls _ _ x5_1 t229 _ ?side1 ?side2 A27.out).mono ?_); (case side1 => repeat (first | exact (Kd.R_reads' HO_5.out).2.2 | (with_reducible refine Kd.C_alloc ?_ _) | (with_reducible refine Kd.C_drewN ?_ _) | (with_reducible refine Kd.C_drew ?_))); (case side2 => exact (Kd.R_reads' HO_5.out).2.1); rintro e w' ⟨rfl, ⟨nd, rfl⟩⟩; refine ⟨_, rfl, ?_⟩; (try (rw [drewN_self wc]; generalize hq_ : World.drewN wc _ = wc; replace HO_5 : Aside0 (Kd.R k50 50 wc w.heap.size (fun _ => True) (.slice Ao47 x5_1.length co47) x5_1) := ⟨by rw [← hq_]; exact (ro_ HO_5.out)⟩; replace BK199 : Aside0 (wc.heap[gb199]? = some (.cells #[.slice none 0 0, .int .i64 0] 101 (0, 0))) := ⟨by rw [← hq_]; exact (bk_ BK199.out)⟩; replace HB : Aside0 (Below w.heap.size w wc) := ⟨by rw [← hq_]; exact (belg_ (IsS153.ge HI201.out))⟩; replace HI201 : Aside0 (IsS153 w wc gb201 x202000_1 x202001_1 x202002_1) := ⟨by rw [← hq_]; exact is153_⟩; clear hq_)); have hnb48 := NB199_201.out; have hnc48 := NB201_199.out; have hcz49_0 : wc.cell? ⟨gb199, 0, none⟩ = some (.slice none 0 0) := (blk_cell BK199.out 0).trans rfl; have hcz49_1 : wc.cell? ⟨gb199, 1, none⟩ = some (.int .i64 0) := (blk_cell BK199.out 1).trans rfl; have hfz49_0 := blk_frozen BK199.out 0; have hfz49_1 := blk_frozen BK199.out 1))
                refine bodyPost_ret (results_cell_row rfl _ _ gb199 101 #[.slice none 0 0, .int .i64 3] (0, 0) _ rfl bka_ Try.underlying101 rfl (by kernel_rfl)) rfl ?_
                exact ⟨_, ri_, by first | exact Kd.R_nil _ _ _ _ _ | exact Kd.N_nil _ _ _ _ _ | exact Kd.V_nil _ _ _ _ _ | exact Kd.Q_nil _ _ _ _ _ | exact Kd.S_nil _ _ _ _ _, belg_ (IsS153.ge HI201.out)⟩

/-! ### laws_eqPlace: function 108 -/
def laws_eqPlace.f (a0_0 : ByteArray) (a0_1 : ByteArray) (a0_2 : Int) (a0_3 : Int) (a0_4 : Int) (a1_0 : ByteArray) (a1_1 : ByteArray) (a1_2 : Int) (a1_3 : Int) (a1_4 : Int) : Option (Bool) := if a0_0.toList = a1_0.toList then (if a0_1.toList = a1_1.toList then (if a0_2 = a1_2 then (if a0_3 = a1_3 then (if a0_4 = a1_4 then (some true) else (some false)) else (some false)) else (some false)) else (some false)) else (some false)
set_option maxHeartbeats 8000000 in
set_option maxRecDepth 100000 in
theorem laws_eqPlace.calls (a0_0 : ByteArray) (a0_1 : ByteArray) (a0_2 : Int) (a0_3 : Int) (a0_4 : Int) (a1_0 : ByteArray) (a1_1 : ByteArray) (a1_2 : Int) (a1_3 : Int) (a1_4 : Int) (r : Bool) (w : World) (h : laws_eqPlace.f a0_0 a0_1 a0_2 a0_3 a0_4 a1_0 a1_1 a1_2 a1_3 a1_4 = some r) :
    Calls Try.prog 108 #[.agg #[.string a0_0, .string a0_1, .int .i64 a0_2, .int .i64 a0_3, .int .i64 a0_4], .agg #[.string a1_0, .string a1_1, .int .i64 a1_2, .int .i64 a1_3, .int .i64 a1_4]] w fun e w' => e = .returned (.bool r) ∧ Below w.heap.size w w' := by
  have hu50 := Try.underlying50
  have HB := AM (Below.refl w.heap.size w)
  have H : (if a0_0.toList = a1_0.toList then (if a0_1.toList = a1_1.toList then (if a0_2 = a1_2 then (if a0_3 = a1_3 then (if a0_4 = a1_4 then (some true) else (some false)) else (some false)) else (some false)) else (some false)) else (some false)) = some r := h
  clear h
  by_cases c3 : a0_0.toList = a1_0.toList
  · rw [if_pos c3] at H
    have c3b0 : (a0_0.toList == a1_0.toList) = true := beq_iff_eq.mpr c3
    have c3b1 : (a0_0.toList != a1_0.toList) = false := bne_eq_false_iff_eq.mpr c3
    clear c3
    by_cases c4 : a0_1.toList = a1_1.toList
    · rw [if_pos c4] at H
      have c4b0 : (a0_1.toList == a1_1.toList) = true := beq_iff_eq.mpr c4
      have c4b1 : (a0_1.toList != a1_1.toList) = false := bne_eq_false_iff_eq.mpr c4
      clear c4
      by_cases c5 : a0_2 = a1_2
      · rw [if_pos c5] at H
        have c5b0 : (a0_2 == a1_2) = true := beq_iff_eq.mpr c5
        have c5b1 : (a0_2 != a1_2) = false := bne_eq_false_iff_eq.mpr c5
        clear c5
        by_cases c6 : a0_3 = a1_3
        · rw [if_pos c6] at H
          have c6b0 : (a0_3 == a1_3) = true := beq_iff_eq.mpr c6
          have c6b1 : (a0_3 != a1_3) = false := bne_eq_false_iff_eq.mpr c6
          clear c6
          by_cases c7 : a0_4 = a1_4
          · rw [if_pos c7] at H
            have c7b0 : (a0_4 == a1_4) = true := beq_iff_eq.mpr c7
            have c7b1 : (a0_4 != a1_4) = false := bne_eq_false_iff_eq.mpr c7
            clear c7
            obtain rfl := Option.some.inj H
            go_enter Try.func108, Try.ntmps108
            go_wp2_with (first | ((with_reducible refine gate_dst (N := 2) rfl ?_); refine be_ 2 #[.string a0_0, .string a0_1, .int .i64 a0_2, .int .i64 a0_3, .int .i64 a0_4] 50 ?_; intro gb235 hg w8 hbox hb; have BK235 := AM hbox; have GW235 := AM ((by rw [hg]; exact (below_size bel_) : w.heap.size ≤ gb235)); have GE235 := AM ((by rw [hg]; exact (below_size bel_) : w.heap.size ≤ gb235)); replace HB := AM (below_step bel_ hb); clear hb hbox hg) | ((with_reducible refine gate_dst (N := 3) rfl ?_); refine be_ 3 #[.string a1_0, .string a1_1, .int .i64 a1_2, .int .i64 a1_3, .int .i64 a1_4] 50 ?_; intro gb236 hg w9 hbox hb; have BK236 := AM hbox; have GW236 := AM ((by rw [hg]; exact (below_size bel_) : w.heap.size ≤ gb236)); have GE236 := AM ((by rw [hg]; exact (below_size bel_) : w.heap.size ≤ gb236)); replace HB := AM (below_step bel_ hb); have NB235_236 := AM ((by rw [hg]; exact Nat.ne_of_lt (blk_lt (g := gb235) (o := .cells #[.string a0_0, .string a0_1, .int .i64 a0_2, .int .i64 a0_3, .int .i64 a0_4] 50 (0, 0)) (bk_ BK235.out)) : gb235 ≠ gb236)); have NB236_235 := AM ((by rw [hg]; exact Nat.ne_of_gt (blk_lt (g := gb235) (o := .cells #[.string a0_0, .string a0_1, .int .i64 a0_2, .int .i64 a0_3, .int .i64 a0_4] 50 (0, 0)) (bk_ BK235.out)) : gb236 ≠ gb235)); replace BK235 := AM (blk_below (g := gb235) (o := .cells #[.string a0_0, .string a0_1, .int .i64 a0_2, .int .i64 a0_3, .int .i64 a0_4] 50 (0, 0)) (bk_ BK235.out) hb); clear hb hbox hg; have hnb10 := NB235_236.out; have hnc10 := NB236_235.out; have hcz11_0 : w9.cell? ⟨gb235, 0, none⟩ = some (.string a0_0) := (blk_cell BK235.out 0).trans rfl; have hcz11_1 : w9.cell? ⟨gb235, 1, none⟩ = some (.string a0_1) := (blk_cell BK235.out 1).trans rfl; have hcz11_2 : w9.cell? ⟨gb235, 2, none⟩ = some (.int .i64 a0_2) := (blk_cell BK235.out 2).trans rfl; have hcz11_3 : w9.cell? ⟨gb235, 3, none⟩ = some (.int .i64 a0_3) := (blk_cell BK235.out 3).trans rfl; have hcz11_4 : w9.cell? ⟨gb235, 4, none⟩ = some (.int .i64 a0_4) := (blk_cell BK235.out 4).trans rfl; have hfz11_0 := blk_frozen BK235.out 0; have hfz11_1 := blk_frozen BK235.out 1; have hfz11_2 := blk_frozen BK235.out 2; have hfz11_3 := blk_frozen BK235.out 3; have hfz11_4 := blk_frozen BK235.out 4; have hcz12_0 : w9.cell? ⟨gb236, 0, none⟩ = some (.string a1_0) := (blk_cell BK236.out 0).trans rfl; have hcz12_1 : w9.cell? ⟨gb236, 1, none⟩ = some (.string a1_1) := (blk_cell BK236.out 1).trans rfl; have hcz12_2 : w9.cell? ⟨gb236, 2, none⟩ = some (.int .i64 a1_2) := (blk_cell BK236.out 2).trans rfl; have hcz12_3 : w9.cell? ⟨gb236, 3, none⟩ = some (.int .i64 a1_3) := (blk_cell BK236.out 3).trans rfl; have hcz12_4 : w9.cell? ⟨gb236, 4, none⟩ = some (.int .i64 a1_4) := (blk_cell BK236.out 4).trans rfl; have hfz12_0 := blk_frozen BK236.out 0; have hfz12_1 := blk_frozen BK236.out 1; have hfz12_2 := blk_frozen BK236.out 2; have hfz12_3 := blk_frozen BK236.out 3; have hfz12_4 := blk_frozen BK236.out 4))
            go_ret
            exact ⟨ri_, bel_⟩
          · rw [if_neg c7] at H
            have c7b0 : (a0_4 == a1_4) = false := beq_eq_false_iff_ne.mpr c7
            have c7b1 : (a0_4 != a1_4) = true := bne_iff_ne.mpr c7
            obtain rfl := Option.some.inj H
            go_enter Try.func108, Try.ntmps108
            go_wp2_with (first | ((with_reducible refine gate_dst (N := 2) rfl ?_); refine be_ 2 #[.string a0_0, .string a0_1, .int .i64 a0_2, .int .i64 a0_3, .int .i64 a0_4] 50 ?_; intro gb235 hg w13 hbox hb; have BK235 := AM hbox; have GW235 := AM ((by rw [hg]; exact (below_size bel_) : w.heap.size ≤ gb235)); have GE235 := AM ((by rw [hg]; exact (below_size bel_) : w.heap.size ≤ gb235)); replace HB := AM (below_step bel_ hb); clear hb hbox hg) | ((with_reducible refine gate_dst (N := 3) rfl ?_); refine be_ 3 #[.string a1_0, .string a1_1, .int .i64 a1_2, .int .i64 a1_3, .int .i64 a1_4] 50 ?_; intro gb236 hg w14 hbox hb; have BK236 := AM hbox; have GW236 := AM ((by rw [hg]; exact (below_size bel_) : w.heap.size ≤ gb236)); have GE236 := AM ((by rw [hg]; exact (below_size bel_) : w.heap.size ≤ gb236)); replace HB := AM (below_step bel_ hb); have NB235_236 := AM ((by rw [hg]; exact Nat.ne_of_lt (blk_lt (g := gb235) (o := .cells #[.string a0_0, .string a0_1, .int .i64 a0_2, .int .i64 a0_3, .int .i64 a0_4] 50 (0, 0)) (bk_ BK235.out)) : gb235 ≠ gb236)); have NB236_235 := AM ((by rw [hg]; exact Nat.ne_of_gt (blk_lt (g := gb235) (o := .cells #[.string a0_0, .string a0_1, .int .i64 a0_2, .int .i64 a0_3, .int .i64 a0_4] 50 (0, 0)) (bk_ BK235.out)) : gb236 ≠ gb235)); replace BK235 := AM (blk_below (g := gb235) (o := .cells #[.string a0_0, .string a0_1, .int .i64 a0_2, .int .i64 a0_3, .int .i64 a0_4] 50 (0, 0)) (bk_ BK235.out) hb); clear hb hbox hg; have hnb15 := NB235_236.out; have hnc15 := NB236_235.out; have hcz16_0 : w14.cell? ⟨gb235, 0, none⟩ = some (.string a0_0) := (blk_cell BK235.out 0).trans rfl; have hcz16_1 : w14.cell? ⟨gb235, 1, none⟩ = some (.string a0_1) := (blk_cell BK235.out 1).trans rfl; have hcz16_2 : w14.cell? ⟨gb235, 2, none⟩ = some (.int .i64 a0_2) := (blk_cell BK235.out 2).trans rfl; have hcz16_3 : w14.cell? ⟨gb235, 3, none⟩ = some (.int .i64 a0_3) := (blk_cell BK235.out 3).trans rfl; have hcz16_4 : w14.cell? ⟨gb235, 4, none⟩ = some (.int .i64 a0_4) := (blk_cell BK235.out 4).trans rfl; have hfz16_0 := blk_frozen BK235.out 0; have hfz16_1 := blk_frozen BK235.out 1; have hfz16_2 := blk_frozen BK235.out 2; have hfz16_3 := blk_frozen BK235.out 3; have hfz16_4 := blk_frozen BK235.out 4; have hcz17_0 : w14.cell? ⟨gb236, 0, none⟩ = some (.string a1_0) := (blk_cell BK236.out 0).trans rfl; have hcz17_1 : w14.cell? ⟨gb236, 1, none⟩ = some (.string a1_1) := (blk_cell BK236.out 1).trans rfl; have hcz17_2 : w14.cell? ⟨gb236, 2, none⟩ = some (.int .i64 a1_2) := (blk_cell BK236.out 2).trans rfl; have hcz17_3 : w14.cell? ⟨gb236, 3, none⟩ = some (.int .i64 a1_3) := (blk_cell BK236.out 3).trans rfl; have hcz17_4 : w14.cell? ⟨gb236, 4, none⟩ = some (.int .i64 a1_4) := (blk_cell BK236.out 4).trans rfl; have hfz17_0 := blk_frozen BK236.out 0; have hfz17_1 := blk_frozen BK236.out 1; have hfz17_2 := blk_frozen BK236.out 2; have hfz17_3 := blk_frozen BK236.out 3; have hfz17_4 := blk_frozen BK236.out 4))
            go_ret
            exact ⟨ri_, bel_⟩
        · rw [if_neg c6] at H
          have c6b0 : (a0_3 == a1_3) = false := beq_eq_false_iff_ne.mpr c6
          have c6b1 : (a0_3 != a1_3) = true := bne_iff_ne.mpr c6
          obtain rfl := Option.some.inj H
          go_enter Try.func108, Try.ntmps108
          go_wp2_with (first | ((with_reducible refine gate_dst (N := 2) rfl ?_); refine be_ 2 #[.string a0_0, .string a0_1, .int .i64 a0_2, .int .i64 a0_3, .int .i64 a0_4] 50 ?_; intro gb235 hg w18 hbox hb; have BK235 := AM hbox; have GW235 := AM ((by rw [hg]; exact (below_size bel_) : w.heap.size ≤ gb235)); have GE235 := AM ((by rw [hg]; exact (below_size bel_) : w.heap.size ≤ gb235)); replace HB := AM (below_step bel_ hb); clear hb hbox hg) | ((with_reducible refine gate_dst (N := 3) rfl ?_); refine be_ 3 #[.string a1_0, .string a1_1, .int .i64 a1_2, .int .i64 a1_3, .int .i64 a1_4] 50 ?_; intro gb236 hg w19 hbox hb; have BK236 := AM hbox; have GW236 := AM ((by rw [hg]; exact (below_size bel_) : w.heap.size ≤ gb236)); have GE236 := AM ((by rw [hg]; exact (below_size bel_) : w.heap.size ≤ gb236)); replace HB := AM (below_step bel_ hb); have NB235_236 := AM ((by rw [hg]; exact Nat.ne_of_lt (blk_lt (g := gb235) (o := .cells #[.string a0_0, .string a0_1, .int .i64 a0_2, .int .i64 a0_3, .int .i64 a0_4] 50 (0, 0)) (bk_ BK235.out)) : gb235 ≠ gb236)); have NB236_235 := AM ((by rw [hg]; exact Nat.ne_of_gt (blk_lt (g := gb235) (o := .cells #[.string a0_0, .string a0_1, .int .i64 a0_2, .int .i64 a0_3, .int .i64 a0_4] 50 (0, 0)) (bk_ BK235.out)) : gb236 ≠ gb235)); replace BK235 := AM (blk_below (g := gb235) (o := .cells #[.string a0_0, .string a0_1, .int .i64 a0_2, .int .i64 a0_3, .int .i64 a0_4] 50 (0, 0)) (bk_ BK235.out) hb); clear hb hbox hg; have hnb20 := NB235_236.out; have hnc20 := NB236_235.out; have hcz21_0 : w19.cell? ⟨gb235, 0, none⟩ = some (.string a0_0) := (blk_cell BK235.out 0).trans rfl; have hcz21_1 : w19.cell? ⟨gb235, 1, none⟩ = some (.string a0_1) := (blk_cell BK235.out 1).trans rfl; have hcz21_2 : w19.cell? ⟨gb235, 2, none⟩ = some (.int .i64 a0_2) := (blk_cell BK235.out 2).trans rfl; have hcz21_3 : w19.cell? ⟨gb235, 3, none⟩ = some (.int .i64 a0_3) := (blk_cell BK235.out 3).trans rfl; have hcz21_4 : w19.cell? ⟨gb235, 4, none⟩ = some (.int .i64 a0_4) := (blk_cell BK235.out 4).trans rfl; have hfz21_0 := blk_frozen BK235.out 0; have hfz21_1 := blk_frozen BK235.out 1; have hfz21_2 := blk_frozen BK235.out 2; have hfz21_3 := blk_frozen BK235.out 3; have hfz21_4 := blk_frozen BK235.out 4; have hcz22_0 : w19.cell? ⟨gb236, 0, none⟩ = some (.string a1_0) := (blk_cell BK236.out 0).trans rfl; have hcz22_1 : w19.cell? ⟨gb236, 1, none⟩ = some (.string a1_1) := (blk_cell BK236.out 1).trans rfl; have hcz22_2 : w19.cell? ⟨gb236, 2, none⟩ = some (.int .i64 a1_2) := (blk_cell BK236.out 2).trans rfl; have hcz22_3 : w19.cell? ⟨gb236, 3, none⟩ = some (.int .i64 a1_3) := (blk_cell BK236.out 3).trans rfl; have hcz22_4 : w19.cell? ⟨gb236, 4, none⟩ = some (.int .i64 a1_4) := (blk_cell BK236.out 4).trans rfl; have hfz22_0 := blk_frozen BK236.out 0; have hfz22_1 := blk_frozen BK236.out 1; have hfz22_2 := blk_frozen BK236.out 2; have hfz22_3 := blk_frozen BK236.out 3; have hfz22_4 := blk_frozen BK236.out 4))
          go_ret
          exact ⟨ri_, bel_⟩
      · rw [if_neg c5] at H
        have c5b0 : (a0_2 == a1_2) = false := beq_eq_false_iff_ne.mpr c5
        have c5b1 : (a0_2 != a1_2) = true := bne_iff_ne.mpr c5
        obtain rfl := Option.some.inj H
        go_enter Try.func108, Try.ntmps108
        go_wp2_with (first | ((with_reducible refine gate_dst (N := 2) rfl ?_); refine be_ 2 #[.string a0_0, .string a0_1, .int .i64 a0_2, .int .i64 a0_3, .int .i64 a0_4] 50 ?_; intro gb235 hg w23 hbox hb; have BK235 := AM hbox; have GW235 := AM ((by rw [hg]; exact (below_size bel_) : w.heap.size ≤ gb235)); have GE235 := AM ((by rw [hg]; exact (below_size bel_) : w.heap.size ≤ gb235)); replace HB := AM (below_step bel_ hb); clear hb hbox hg) | ((with_reducible refine gate_dst (N := 3) rfl ?_); refine be_ 3 #[.string a1_0, .string a1_1, .int .i64 a1_2, .int .i64 a1_3, .int .i64 a1_4] 50 ?_; intro gb236 hg w24 hbox hb; have BK236 := AM hbox; have GW236 := AM ((by rw [hg]; exact (below_size bel_) : w.heap.size ≤ gb236)); have GE236 := AM ((by rw [hg]; exact (below_size bel_) : w.heap.size ≤ gb236)); replace HB := AM (below_step bel_ hb); have NB235_236 := AM ((by rw [hg]; exact Nat.ne_of_lt (blk_lt (g := gb235) (o := .cells #[.string a0_0, .string a0_1, .int .i64 a0_2, .int .i64 a0_3, .int .i64 a0_4] 50 (0, 0)) (bk_ BK235.out)) : gb235 ≠ gb236)); have NB236_235 := AM ((by rw [hg]; exact Nat.ne_of_gt (blk_lt (g := gb235) (o := .cells #[.string a0_0, .string a0_1, .int .i64 a0_2, .int .i64 a0_3, .int .i64 a0_4] 50 (0, 0)) (bk_ BK235.out)) : gb236 ≠ gb235)); replace BK235 := AM (blk_below (g := gb235) (o := .cells #[.string a0_0, .string a0_1, .int .i64 a0_2, .int .i64 a0_3, .int .i64 a0_4] 50 (0, 0)) (bk_ BK235.out) hb); clear hb hbox hg; have hnb25 := NB235_236.out; have hnc25 := NB236_235.out; have hcz26_0 : w24.cell? ⟨gb235, 0, none⟩ = some (.string a0_0) := (blk_cell BK235.out 0).trans rfl; have hcz26_1 : w24.cell? ⟨gb235, 1, none⟩ = some (.string a0_1) := (blk_cell BK235.out 1).trans rfl; have hcz26_2 : w24.cell? ⟨gb235, 2, none⟩ = some (.int .i64 a0_2) := (blk_cell BK235.out 2).trans rfl; have hcz26_3 : w24.cell? ⟨gb235, 3, none⟩ = some (.int .i64 a0_3) := (blk_cell BK235.out 3).trans rfl; have hcz26_4 : w24.cell? ⟨gb235, 4, none⟩ = some (.int .i64 a0_4) := (blk_cell BK235.out 4).trans rfl; have hfz26_0 := blk_frozen BK235.out 0; have hfz26_1 := blk_frozen BK235.out 1; have hfz26_2 := blk_frozen BK235.out 2; have hfz26_3 := blk_frozen BK235.out 3; have hfz26_4 := blk_frozen BK235.out 4; have hcz27_0 : w24.cell? ⟨gb236, 0, none⟩ = some (.string a1_0) := (blk_cell BK236.out 0).trans rfl; have hcz27_1 : w24.cell? ⟨gb236, 1, none⟩ = some (.string a1_1) := (blk_cell BK236.out 1).trans rfl; have hcz27_2 : w24.cell? ⟨gb236, 2, none⟩ = some (.int .i64 a1_2) := (blk_cell BK236.out 2).trans rfl; have hcz27_3 : w24.cell? ⟨gb236, 3, none⟩ = some (.int .i64 a1_3) := (blk_cell BK236.out 3).trans rfl; have hcz27_4 : w24.cell? ⟨gb236, 4, none⟩ = some (.int .i64 a1_4) := (blk_cell BK236.out 4).trans rfl; have hfz27_0 := blk_frozen BK236.out 0; have hfz27_1 := blk_frozen BK236.out 1; have hfz27_2 := blk_frozen BK236.out 2; have hfz27_3 := blk_frozen BK236.out 3; have hfz27_4 := blk_frozen BK236.out 4))
        go_ret
        exact ⟨ri_, bel_⟩
    · rw [if_neg c4] at H
      have c4b0 : (a0_1.toList == a1_1.toList) = false := beq_eq_false_iff_ne.mpr c4
      have c4b1 : (a0_1.toList != a1_1.toList) = true := bne_iff_ne.mpr c4
      obtain rfl := Option.some.inj H
      go_enter Try.func108, Try.ntmps108
      go_wp2_with (first | ((with_reducible refine gate_dst (N := 2) rfl ?_); refine be_ 2 #[.string a0_0, .string a0_1, .int .i64 a0_2, .int .i64 a0_3, .int .i64 a0_4] 50 ?_; intro gb235 hg w28 hbox hb; have BK235 := AM hbox; have GW235 := AM ((by rw [hg]; exact (below_size bel_) : w.heap.size ≤ gb235)); have GE235 := AM ((by rw [hg]; exact (below_size bel_) : w.heap.size ≤ gb235)); replace HB := AM (below_step bel_ hb); clear hb hbox hg) | ((with_reducible refine gate_dst (N := 3) rfl ?_); refine be_ 3 #[.string a1_0, .string a1_1, .int .i64 a1_2, .int .i64 a1_3, .int .i64 a1_4] 50 ?_; intro gb236 hg w29 hbox hb; have BK236 := AM hbox; have GW236 := AM ((by rw [hg]; exact (below_size bel_) : w.heap.size ≤ gb236)); have GE236 := AM ((by rw [hg]; exact (below_size bel_) : w.heap.size ≤ gb236)); replace HB := AM (below_step bel_ hb); have NB235_236 := AM ((by rw [hg]; exact Nat.ne_of_lt (blk_lt (g := gb235) (o := .cells #[.string a0_0, .string a0_1, .int .i64 a0_2, .int .i64 a0_3, .int .i64 a0_4] 50 (0, 0)) (bk_ BK235.out)) : gb235 ≠ gb236)); have NB236_235 := AM ((by rw [hg]; exact Nat.ne_of_gt (blk_lt (g := gb235) (o := .cells #[.string a0_0, .string a0_1, .int .i64 a0_2, .int .i64 a0_3, .int .i64 a0_4] 50 (0, 0)) (bk_ BK235.out)) : gb236 ≠ gb235)); replace BK235 := AM (blk_below (g := gb235) (o := .cells #[.string a0_0, .string a0_1, .int .i64 a0_2, .int .i64 a0_3, .int .i64 a0_4] 50 (0, 0)) (bk_ BK235.out) hb); clear hb hbox hg; have hnb30 := NB235_236.out; have hnc30 := NB236_235.out; have hcz31_0 : w29.cell? ⟨gb235, 0, none⟩ = some (.string a0_0) := (blk_cell BK235.out 0).trans rfl; have hcz31_1 : w29.cell? ⟨gb235, 1, none⟩ = some (.string a0_1) := (blk_cell BK235.out 1).trans rfl; have hcz31_2 : w29.cell? ⟨gb235, 2, none⟩ = some (.int .i64 a0_2) := (blk_cell BK235.out 2).trans rfl; have hcz31_3 : w29.cell? ⟨gb235, 3, none⟩ = some (.int .i64 a0_3) := (blk_cell BK235.out 3).trans rfl; have hcz31_4 : w29.cell? ⟨gb235, 4, none⟩ = some (.int .i64 a0_4) := (blk_cell BK235.out 4).trans rfl; have hfz31_0 := blk_frozen BK235.out 0; have hfz31_1 := blk_frozen BK235.out 1; have hfz31_2 := blk_frozen BK235.out 2; have hfz31_3 := blk_frozen BK235.out 3; have hfz31_4 := blk_frozen BK235.out 4; have hcz32_0 : w29.cell? ⟨gb236, 0, none⟩ = some (.string a1_0) := (blk_cell BK236.out 0).trans rfl; have hcz32_1 : w29.cell? ⟨gb236, 1, none⟩ = some (.string a1_1) := (blk_cell BK236.out 1).trans rfl; have hcz32_2 : w29.cell? ⟨gb236, 2, none⟩ = some (.int .i64 a1_2) := (blk_cell BK236.out 2).trans rfl; have hcz32_3 : w29.cell? ⟨gb236, 3, none⟩ = some (.int .i64 a1_3) := (blk_cell BK236.out 3).trans rfl; have hcz32_4 : w29.cell? ⟨gb236, 4, none⟩ = some (.int .i64 a1_4) := (blk_cell BK236.out 4).trans rfl; have hfz32_0 := blk_frozen BK236.out 0; have hfz32_1 := blk_frozen BK236.out 1; have hfz32_2 := blk_frozen BK236.out 2; have hfz32_3 := blk_frozen BK236.out 3; have hfz32_4 := blk_frozen BK236.out 4))
      go_ret
      exact ⟨ri_, bel_⟩
  · rw [if_neg c3] at H
    have c3b0 : (a0_0.toList == a1_0.toList) = false := beq_eq_false_iff_ne.mpr c3
    have c3b1 : (a0_0.toList != a1_0.toList) = true := bne_iff_ne.mpr c3
    obtain rfl := Option.some.inj H
    go_enter Try.func108, Try.ntmps108
    go_wp2_with (first | ((with_reducible refine gate_dst (N := 2) rfl ?_); refine be_ 2 #[.string a0_0, .string a0_1, .int .i64 a0_2, .int .i64 a0_3, .int .i64 a0_4] 50 ?_; intro gb235 hg w33 hbox hb; have BK235 := AM hbox; have GW235 := AM ((by rw [hg]; exact (below_size bel_) : w.heap.size ≤ gb235)); have GE235 := AM ((by rw [hg]; exact (below_size bel_) : w.heap.size ≤ gb235)); replace HB := AM (below_step bel_ hb); clear hb hbox hg) | ((with_reducible refine gate_dst (N := 3) rfl ?_); refine be_ 3 #[.string a1_0, .string a1_1, .int .i64 a1_2, .int .i64 a1_3, .int .i64 a1_4] 50 ?_; intro gb236 hg w34 hbox hb; have BK236 := AM hbox; have GW236 := AM ((by rw [hg]; exact (below_size bel_) : w.heap.size ≤ gb236)); have GE236 := AM ((by rw [hg]; exact (below_size bel_) : w.heap.size ≤ gb236)); replace HB := AM (below_step bel_ hb); have NB235_236 := AM ((by rw [hg]; exact Nat.ne_of_lt (blk_lt (g := gb235) (o := .cells #[.string a0_0, .string a0_1, .int .i64 a0_2, .int .i64 a0_3, .int .i64 a0_4] 50 (0, 0)) (bk_ BK235.out)) : gb235 ≠ gb236)); have NB236_235 := AM ((by rw [hg]; exact Nat.ne_of_gt (blk_lt (g := gb235) (o := .cells #[.string a0_0, .string a0_1, .int .i64 a0_2, .int .i64 a0_3, .int .i64 a0_4] 50 (0, 0)) (bk_ BK235.out)) : gb236 ≠ gb235)); replace BK235 := AM (blk_below (g := gb235) (o := .cells #[.string a0_0, .string a0_1, .int .i64 a0_2, .int .i64 a0_3, .int .i64 a0_4] 50 (0, 0)) (bk_ BK235.out) hb); clear hb hbox hg; have hnb35 := NB235_236.out; have hnc35 := NB236_235.out; have hcz36_0 : w34.cell? ⟨gb235, 0, none⟩ = some (.string a0_0) := (blk_cell BK235.out 0).trans rfl; have hcz36_1 : w34.cell? ⟨gb235, 1, none⟩ = some (.string a0_1) := (blk_cell BK235.out 1).trans rfl; have hcz36_2 : w34.cell? ⟨gb235, 2, none⟩ = some (.int .i64 a0_2) := (blk_cell BK235.out 2).trans rfl; have hcz36_3 : w34.cell? ⟨gb235, 3, none⟩ = some (.int .i64 a0_3) := (blk_cell BK235.out 3).trans rfl; have hcz36_4 : w34.cell? ⟨gb235, 4, none⟩ = some (.int .i64 a0_4) := (blk_cell BK235.out 4).trans rfl; have hfz36_0 := blk_frozen BK235.out 0; have hfz36_1 := blk_frozen BK235.out 1; have hfz36_2 := blk_frozen BK235.out 2; have hfz36_3 := blk_frozen BK235.out 3; have hfz36_4 := blk_frozen BK235.out 4; have hcz37_0 : w34.cell? ⟨gb236, 0, none⟩ = some (.string a1_0) := (blk_cell BK236.out 0).trans rfl; have hcz37_1 : w34.cell? ⟨gb236, 1, none⟩ = some (.string a1_1) := (blk_cell BK236.out 1).trans rfl; have hcz37_2 : w34.cell? ⟨gb236, 2, none⟩ = some (.int .i64 a1_2) := (blk_cell BK236.out 2).trans rfl; have hcz37_3 : w34.cell? ⟨gb236, 3, none⟩ = some (.int .i64 a1_3) := (blk_cell BK236.out 3).trans rfl; have hcz37_4 : w34.cell? ⟨gb236, 4, none⟩ = some (.int .i64 a1_4) := (blk_cell BK236.out 4).trans rfl; have hfz37_0 := blk_frozen BK236.out 0; have hfz37_1 := blk_frozen BK236.out 1; have hfz37_2 := blk_frozen BK236.out 2; have hfz37_3 := blk_frozen BK236.out 3; have hfz37_4 := blk_frozen BK236.out 4))
    go_ret
    exact ⟨ri_, bel_⟩

/-! ### laws_eqPlaceS: function 43 -/
def laws_eqPlaceS.l0 : Nat → List (S50) → List (S50) → Int → Option (Bool)
  | 0, _, _, _ => none
  | k + 1, x0, x1, x5 => if x5 < (x0.length : Int) then (if 0 ≤ x5 then (if x5 < (x1.length : Int) then ((laws_eqPlace.f ((rd_T50 x0 x5).f0) ((rd_T50 x0 x5).f1) ((rd_T50 x0 x5).f2) ((rd_T50 x0 x5).f3) ((rd_T50 x0 x5).f4) ((rd_T50 x1 x5).f0) ((rd_T50 x1 x5).f1) ((rd_T50 x1 x5).f2) ((rd_T50 x1 x5).f3) ((rd_T50 x1 x5).f4)).bind fun t239 => (if t239 = true then (laws_eqPlaceS.l0 k x0 x1 (wrap64 (x5 + 1))) else (some false))) else (none)) else (none)) else (some true)
def laws_eqPlaceS.f (k : Nat) (l0 : List (S50)) (l1 : List (S50)) : Option (Bool) := if (l0.length : Int) = (l1.length : Int) then (laws_eqPlaceS.l0 k l0 l1 0) else (some false)
theorem laws_eqPlaceS.mono_l : ∀ k, (∀ y0 y1 y2, LeO (laws_eqPlaceS.l0 k y0 y1 y2) (laws_eqPlaceS.l0 (k + 1) y0 y1 y2))
  | 0 => fun _ _ _ r h => by simp [laws_eqPlaceS.l0] at h
  | k + 1 => by
    have ih0 := laws_eqPlaceS.mono_l k
    · intro y0 y1 y2
      unfold laws_eqPlaceS.l0
      repeat' first
      | (with_reducible exact ih0 _ _ _)
      | (with_reducible exact LeO.refl _)
      | (with_reducible exact LeO.none _)
      | (with_reducible refine LeO.ite ?_ ?_)
      | (with_reducible refine LeO.bind ?_ (fun _ => ?_))
      | exact ih0 _ _ _
      | exact LeO.none _
      | refine LeO.ite ?_ ?_
      | refine LeO.bind ?_ (fun _ => ?_)
theorem laws_eqPlaceS.mono : ∀ a0 a1 k, LeO (laws_eqPlaceS.f k a0 a1) (laws_eqPlaceS.f (k + 1) a0 a1) := by
  intro a0 a1 k
  have ih0 := laws_eqPlaceS.mono_l k
  unfold laws_eqPlaceS.f
  repeat' first
      | (with_reducible exact ih0 _ _ _)
      | (with_reducible exact LeO.refl _)
      | (with_reducible exact LeO.none _)
      | (with_reducible refine LeO.ite ?_ ?_)
      | (with_reducible refine LeO.bind ?_ (fun _ => ?_))
      | exact ih0 _ _ _
      | exact LeO.none _
      | refine LeO.ite ?_ ?_
      | refine LeO.bind ?_ (fun _ => ?_)
def laws_eqPlaceS.T6 : Bool × List (List Nat × List Nat) := (true, [([], []), ([], []), ([0, 1], [0, 1]), ([2], [2]), ([], []), ([], []), ([4, 5], [4, 5]), ([6], [6]), ([3, 7], [3, 7]), ([8], [8])])
def laws_eqPlaceS.B6 : List Nat := [0, 0, 3, 7, 0, 0, 48, 112, 255, 511]
theorem laws_eqPlaceS.tab6 : rtab .any (opsOf Try.f43 6) = laws_eqPlaceS.T6 := by kernel_rfl
theorem laws_eqPlaceS.bits6 : waitsOk laws_eqPlaceS.T6.2 laws_eqPlaceS.B6 = true := by kernel_rfl
set_option maxHeartbeats 8000000 in
set_option maxRecDepth 100000 in
theorem laws_eqPlaceS.calls (k : Nat) (A0 : Option Addr) (c0 : Nat) (l0 : List (S50)) (A1 : Option Addr) (c1 : Nat) (l1 : List (S50)) (r : Bool) (w : World) (hr0 : Kd.C k50 w A0 l0.length l0) (hc0 : l0.length ≤ c0) (hr1 : Kd.C k50 w A1 l1.length l1) (hc1 : l1.length ≤ c1) (h : laws_eqPlaceS.f k l0 l1 = some r) :
    Calls Try.prog 43 #[.slice A0 l0.length c0, .slice A1 l1.length c1] w fun e w' => e = .returned (.bool r) ∧ Below w.heap.size w w' := by
  have hu50 := Try.underlying50
  have HR0 := AM hr0
  have HC0 := AM hc0
  clear hr0 hc0
  have HR1 := AM hr1
  have HC1 := AM hc1
  clear hr1 hc1
  have HB := AM (Below.refl w.heap.size w)
  have H : (if (l0.length : Int) = (l1.length : Int) then (laws_eqPlaceS.l0 k l0 l1 0) else (some false)) = some r := h
  clear h
  by_cases c3 : (l0.length : Int) = (l1.length : Int)
  · rw [if_pos c3] at H
    have c3b0 : ((l0.length : Int) == (l1.length : Int)) = true := beq_iff_eq.mpr c3
    have c3b1 : ((l0.length : Int) != (l1.length : Int)) = false := bne_eq_false_iff_eq.mpr c3
    have c3b2 : (l0.length == l1.length) = true := by first | simpa using c3 | (simp at c3 ⊢; omega)
    clear c3
    have H' := AM H
    clear H
    go_enter Try.func43, Try.ntmps43
    go_wp2
    go_loopg [5] k (fun kq v5 w' => ∃ (x5_1 : Int), v5 = .int .i64 x5_1 ∧ Aside0 (laws_eqPlaceS.l0 kq l0 l1 x5_1 = some r) ∧ Aside0 (kq ≤ k) ∧ Aside0 (Below w.heap.size w w'))
    case atStart => exact ⟨(0), (by first | rfl | (simp; done) | (simp [*]; done)), H', ⟨Nat.le_refl _⟩, ⟨bel_⟩⟩
    case round =>
      clear H'
      try clear c1
      try clear p2
      try clear c3
      try clear c3b0
      try clear c3b1
      try clear c3b2
      obtain ⟨x5_1, rfl, HA, HK1, HB⟩ := hrel
      cases gk with
      | zero => exact absurd HA.out (by simp [laws_eqPlaceS.l0])
      | succ k1 =>
        have H := HA.out
        clear HA
        simp only [laws_eqPlaceS.l0] at H
        by_cases c4 : x5_1 < (l0.length : Int)
        · rw [if_pos c4] at H
          have c4b0 : decide (x5_1 < (l0.length : Int)) = true := decide_eq_true c4
          clear c4
          by_cases c5 : 0 ≤ x5_1
          · rw [if_pos c5] at H
            have c5b0 : decide (0 ≤ x5_1) = true := decide_eq_true c5
            clear c5
            by_cases c6 : x5_1 < (l1.length : Int)
            · rw [if_pos c6] at H
              have c6b0 : decide (x5_1 < (l1.length : Int)) = true := decide_eq_true c6
              clear c6
              obtain ⟨t239, A7, H⟩ := OB H
              try dsimp only at H
              replace A7 := AM A7
              by_cases c8 : t239 = true
              · subst c8
                rw [if_pos rfl] at H
                have H' := AM H
                clear H
                try go_wp2
                replace HB := AM (below_drew1 HB.out)
                have p237 : 0 ≤ (x5_1 : Int) := of_decide_eq_true (by first | (with_reducible assumption) | assumption)
                have q237 : x5_1 < (l0.length : Int) := of_decide_eq_true (by first | (with_reducible assumption) | assumption)
                obtain ⟨ad237, e237, hx237_0, hx237_1, hx237_2, hx237_3, hx237_4⟩ := at_T50 HR0.out x5_1 p237 q237
                have hw237_4 := hx237_4
                have hw237_3 := hx237_3
                have hw237_2 := hx237_2
                have hw237_1 := hx237_1
                have hw237_0 := hx237_0
                cases e237
                replace hx237_0 := (HB.out.cell (World.block_lt_of_cell? w _ hx237_0)).trans hx237_0
                replace hx237_1 := (HB.out.cell (World.block_lt_of_cell? w _ hx237_1)).trans hx237_1
                replace hx237_2 := (HB.out.cell (World.block_lt_of_cell? w _ hx237_2)).trans hx237_2
                replace hx237_3 := (HB.out.cell (World.block_lt_of_cell? w _ hx237_3)).trans hx237_3
                replace hx237_4 := (HB.out.cell (World.block_lt_of_cell? w _ hx237_4)).trans hx237_4
                replace p237 := eq_true p237
                replace q237 := eq_true q237
                have p238 : 0 ≤ (x5_1 : Int) := of_decide_eq_true (by first | (with_reducible assumption) | assumption)
                have q238 : x5_1 < (l1.length : Int) := of_decide_eq_true (by first | (with_reducible assumption) | assumption)
                obtain ⟨ad238, e238, hx238_0, hx238_1, hx238_2, hx238_3, hx238_4⟩ := at_T50 HR1.out x5_1 p238 q238
                have hw238_4 := hx238_4
                have hw238_3 := hx238_3
                have hw238_2 := hx238_2
                have hw238_1 := hx238_1
                have hw238_0 := hx238_0
                cases e238
                replace hx238_0 := (HB.out.cell (World.block_lt_of_cell? w _ hx238_0)).trans hx238_0
                replace hx238_1 := (HB.out.cell (World.block_lt_of_cell? w _ hx238_1)).trans hx238_1
                replace hx238_2 := (HB.out.cell (World.block_lt_of_cell? w _ hx238_2)).trans hx238_2
                replace hx238_3 := (HB.out.cell (World.block_lt_of_cell? w _ hx238_3)).trans hx238_3
                replace hx238_4 := (HB.out.cell (World.block_lt_of_cell? w _ hx238_4)).trans hx238_4
                replace p238 := eq_true p238
                replace q238 := eq_true q238
                refine start_ (n := 10) (S := fun w' => w'.cell? (ad237.add ((x5_1).toNat * 5)) = some (.string ((rd_T50 l0 x5_1).f0)) ∧ w'.cell? ⟨(ad237.add ((x5_1).toNat * 5)).block, (ad237.add ((x5_1).toNat * 5)).off + 1, none⟩ = some (.string ((rd_T50 l0 x5_1).f1)) ∧ w'.cell? ⟨(ad237.add ((x5_1).toNat * 5)).block, (ad237.add ((x5_1).toNat * 5)).off + 2, none⟩ = some (.int .i64 ((rd_T50 l0 x5_1).f2)) ∧ w'.cell? ⟨(ad237.add ((x5_1).toNat * 5)).block, (ad237.add ((x5_1).toNat * 5)).off + 3, none⟩ = some (.int .i64 ((rd_T50 l0 x5_1).f3)) ∧ w'.cell? ⟨(ad237.add ((x5_1).toNat * 5)).block, (ad237.add ((x5_1).toNat * 5)).off + 4, none⟩ = some (.int .i64 ((rd_T50 l0 x5_1).f4)) ∧ w'.cell? (ad238.add ((x5_1).toNat * 5)) = some (.string ((rd_T50 l1 x5_1).f0)) ∧ w'.cell? ⟨(ad238.add ((x5_1).toNat * 5)).block, (ad238.add ((x5_1).toNat * 5)).off + 1, none⟩ = some (.string ((rd_T50 l1 x5_1).f1)) ∧ w'.cell? ⟨(ad238.add ((x5_1).toNat * 5)).block, (ad238.add ((x5_1).toNat * 5)).off + 2, none⟩ = some (.int .i64 ((rd_T50 l1 x5_1).f2)) ∧ w'.cell? ⟨(ad238.add ((x5_1).toNat * 5)).block, (ad238.add ((x5_1).toNat * 5)).off + 3, none⟩ = some (.int .i64 ((rd_T50 l1 x5_1).f3)) ∧ w'.cell? ⟨(ad238.add ((x5_1).toNat * 5)).block, (ad238.add ((x5_1).toNat * 5)).off + 4, none⟩ = some (.int .i64 ((rd_T50 l1 x5_1).f4))) (ds := []) #[false, false, false, false, false, false, false, false, false, false] (by kernel_rfl) rfl rfl ⟨((HB.out.cell (World.block_lt_of_cell? w _ hw237_0)).trans hw237_0), ((HB.out.cell (World.block_lt_of_cell? w _ hw237_1)).trans hw237_1), ((HB.out.cell (World.block_lt_of_cell? w _ hw237_2)).trans hw237_2), ((HB.out.cell (World.block_lt_of_cell? w _ hw237_3)).trans hw237_3), ((HB.out.cell (World.block_lt_of_cell? w _ hw237_4)).trans hw237_4), ((HB.out.cell (World.block_lt_of_cell? w _ hw238_0)).trans hw238_0), ((HB.out.cell (World.block_lt_of_cell? w _ hw238_1)).trans hw238_1), ((HB.out.cell (World.block_lt_of_cell? w _ hw238_2)).trans hw238_2), ((HB.out.cell (World.block_lt_of_cell? w _ hw238_3)).trans hw238_3), ((HB.out.cell (World.block_lt_of_cell? w _ hw238_4)).trans hw238_4)⟩ (fun hHeld => ?_); refine with_tabW laws_eqPlaceS.tab6 laws_eqPlaceS.bits6 (fun HT_ HW_ => ?_)
                generalize wr.drew = w9 at HB hx237_0 hx237_1 hx237_2 hx237_3 hx237_4 hx238_0 hx238_1 hx238_2 hx238_3 hx238_4 hHeld ⊢
                refine pu_ HT_ 0 (some 17) #[true, false, false, false, false, false, false, false, false, false] ?_
                refine pu_ HT_ 1 (some 18) #[true, true, false, false, false, false, false, false, false, false] ?_
                refine pu_ HT_ 2 (some 19) #[true, true, true, false, false, false, false, false, false, false] ?_
                refine pu_ HT_ 4 (some 21) #[true, true, true, false, true, false, false, false, false, false] ?_
                refine pu_ HT_ 5 (some 22) #[true, true, true, false, true, true, false, false, false, false] ?_
                refine pu_ HT_ 6 (some 23) #[true, true, true, false, true, true, true, false, false, false] ?_
                refine ta_ HT_ HW_ 3 (some 20) #[true, true, true, true, true, true, true, false, false, false] hHeld ?_
                refine ta_ HT_ HW_ 7 (some 24) #[true, true, true, true, true, true, true, true, false, false] hHeld ?_
                refine on_ HT_ 8 (some 25) #[true, true, true, true, true, true, true, true, true, false] (fun K hK => ?_)
                refine go1_ Try.func108 #[.agg #[.string ((rd_T50 l0 x5_1).f0), .string ((rd_T50 l0 x5_1).f1), .int .i64 ((rd_T50 l0 x5_1).f2), .int .i64 ((rd_T50 l0 x5_1).f3), .int .i64 ((rd_T50 l0 x5_1).f4)], .agg #[.string ((rd_T50 l1 x5_1).f0), .string ((rd_T50 l1 x5_1).f1), .int .i64 ((rd_T50 l1 x5_1).f2), .int .i64 ((rd_T50 l1 x5_1).f3), .int .i64 ((rd_T50 l1 x5_1).f4)]] ?_
                with_reducible refine (laws_eqPlace.calls ((rd_T50 l0 x5_1).f0) ((rd_T50 l0 x5_1).f1) ((rd_T50 l0 x5_1).f2) ((rd_T50 l0 x5_1).f3) ((rd_T50 l0 x5_1).f4) ((rd_T50 l1 x5_1).f0) ((rd_T50 l1 x5_1).f1) ((rd_T50 l1 x5_1).f2) ((rd_T50 l1 x5_1).f3) ((rd_T50 l1 x5_1).f4) true _ A7.out).mono ?_
                rintro e w10 ⟨rfl, hb⟩
                refine ⟨_, rfl, ?_⟩
                replace HB := AM (below_step bel_ hb)
                (try clear hb)
                (try clear hb2)
                (try clear hk)
                (try clear hi)
                refine hK.out _ _ ⟨((HB.out.cell (World.block_lt_of_cell? w _ hw237_0)).trans hw237_0), ((HB.out.cell (World.block_lt_of_cell? w _ hw237_1)).trans hw237_1), ((HB.out.cell (World.block_lt_of_cell? w _ hw237_2)).trans hw237_2), ((HB.out.cell (World.block_lt_of_cell? w _ hw237_3)).trans hw237_3), ((HB.out.cell (World.block_lt_of_cell? w _ hw237_4)).trans hw237_4), ((HB.out.cell (World.block_lt_of_cell? w _ hw238_0)).trans hw238_0), ((HB.out.cell (World.block_lt_of_cell? w _ hw238_1)).trans hw238_1), ((HB.out.cell (World.block_lt_of_cell? w _ hw238_2)).trans hw238_2), ((HB.out.cell (World.block_lt_of_cell? w _ hw238_3)).trans hw238_3), ((HB.out.cell (World.block_lt_of_cell? w _ hw238_4)).trans hw238_4)⟩ (fun hHeld => ?_)
                clear hK K
                refine nm_ ?_
                refine pu_ HT_ 9 (some 26) #[true, true, true, true, true, true, true, true, true, true] ?_
                refine dn_ HT_ ?_
                try go_wp2
                go_roundg k1
                case measure => have := HK1.out; omega
                case rel => exact ⟨(wrap64 (x5_1 + 1)), (by first | rfl | (simp; done) | (simp [*]; done)), H', ⟨by have := HK1.out; omega⟩, ⟨bel_⟩⟩
              · replace c8 := Bool.eq_false_iff.mpr c8
                subst c8
                rw [if_neg (show ¬ (false = true) by decide)] at H
                obtain rfl := Option.some.inj H
                try go_wp2
                replace HB := AM (below_drew1 HB.out)
                have p237 : 0 ≤ (x5_1 : Int) := of_decide_eq_true (by first | (with_reducible assumption) | assumption)
                have q237 : x5_1 < (l0.length : Int) := of_decide_eq_true (by first | (with_reducible assumption) | assumption)
                obtain ⟨ad237, e237, hx237_0, hx237_1, hx237_2, hx237_3, hx237_4⟩ := at_T50 HR0.out x5_1 p237 q237
                have hw237_4 := hx237_4
                have hw237_3 := hx237_3
                have hw237_2 := hx237_2
                have hw237_1 := hx237_1
                have hw237_0 := hx237_0
                cases e237
                replace hx237_0 := (HB.out.cell (World.block_lt_of_cell? w _ hx237_0)).trans hx237_0
                replace hx237_1 := (HB.out.cell (World.block_lt_of_cell? w _ hx237_1)).trans hx237_1
                replace hx237_2 := (HB.out.cell (World.block_lt_of_cell? w _ hx237_2)).trans hx237_2
                replace hx237_3 := (HB.out.cell (World.block_lt_of_cell? w _ hx237_3)).trans hx237_3
                replace hx237_4 := (HB.out.cell (World.block_lt_of_cell? w _ hx237_4)).trans hx237_4
                replace p237 := eq_true p237
                replace q237 := eq_true q237
                have p238 : 0 ≤ (x5_1 : Int) := of_decide_eq_true (by first | (with_reducible assumption) | assumption)
                have q238 : x5_1 < (l1.length : Int) := of_decide_eq_true (by first | (with_reducible assumption) | assumption)
                obtain ⟨ad238, e238, hx238_0, hx238_1, hx238_2, hx238_3, hx238_4⟩ := at_T50 HR1.out x5_1 p238 q238
                have hw238_4 := hx238_4
                have hw238_3 := hx238_3
                have hw238_2 := hx238_2
                have hw238_1 := hx238_1
                have hw238_0 := hx238_0
                cases e238
                replace hx238_0 := (HB.out.cell (World.block_lt_of_cell? w _ hx238_0)).trans hx238_0
                replace hx238_1 := (HB.out.cell (World.block_lt_of_cell? w _ hx238_1)).trans hx238_1
                replace hx238_2 := (HB.out.cell (World.block_lt_of_cell? w _ hx238_2)).trans hx238_2
                replace hx238_3 := (HB.out.cell (World.block_lt_of_cell? w _ hx238_3)).trans hx238_3
                replace hx238_4 := (HB.out.cell (World.block_lt_of_cell? w _ hx238_4)).trans hx238_4
                replace p238 := eq_true p238
                replace q238 := eq_true q238
                refine start_ (n := 10) (S := fun w' => w'.cell? (ad237.add ((x5_1).toNat * 5)) = some (.string ((rd_T50 l0 x5_1).f0)) ∧ w'.cell? ⟨(ad237.add ((x5_1).toNat * 5)).block, (ad237.add ((x5_1).toNat * 5)).off + 1, none⟩ = some (.string ((rd_T50 l0 x5_1).f1)) ∧ w'.cell? ⟨(ad237.add ((x5_1).toNat * 5)).block, (ad237.add ((x5_1).toNat * 5)).off + 2, none⟩ = some (.int .i64 ((rd_T50 l0 x5_1).f2)) ∧ w'.cell? ⟨(ad237.add ((x5_1).toNat * 5)).block, (ad237.add ((x5_1).toNat * 5)).off + 3, none⟩ = some (.int .i64 ((rd_T50 l0 x5_1).f3)) ∧ w'.cell? ⟨(ad237.add ((x5_1).toNat * 5)).block, (ad237.add ((x5_1).toNat * 5)).off + 4, none⟩ = some (.int .i64 ((rd_T50 l0 x5_1).f4)) ∧ w'.cell? (ad238.add ((x5_1).toNat * 5)) = some (.string ((rd_T50 l1 x5_1).f0)) ∧ w'.cell? ⟨(ad238.add ((x5_1).toNat * 5)).block, (ad238.add ((x5_1).toNat * 5)).off + 1, none⟩ = some (.string ((rd_T50 l1 x5_1).f1)) ∧ w'.cell? ⟨(ad238.add ((x5_1).toNat * 5)).block, (ad238.add ((x5_1).toNat * 5)).off + 2, none⟩ = some (.int .i64 ((rd_T50 l1 x5_1).f2)) ∧ w'.cell? ⟨(ad238.add ((x5_1).toNat * 5)).block, (ad238.add ((x5_1).toNat * 5)).off + 3, none⟩ = some (.int .i64 ((rd_T50 l1 x5_1).f3)) ∧ w'.cell? ⟨(ad238.add ((x5_1).toNat * 5)).block, (ad238.add ((x5_1).toNat * 5)).off + 4, none⟩ = some (.int .i64 ((rd_T50 l1 x5_1).f4))) (ds := []) #[false, false, false, false, false, false, false, false, false, false] (by kernel_rfl) rfl rfl ⟨((HB.out.cell (World.block_lt_of_cell? w _ hw237_0)).trans hw237_0), ((HB.out.cell (World.block_lt_of_cell? w _ hw237_1)).trans hw237_1), ((HB.out.cell (World.block_lt_of_cell? w _ hw237_2)).trans hw237_2), ((HB.out.cell (World.block_lt_of_cell? w _ hw237_3)).trans hw237_3), ((HB.out.cell (World.block_lt_of_cell? w _ hw237_4)).trans hw237_4), ((HB.out.cell (World.block_lt_of_cell? w _ hw238_0)).trans hw238_0), ((HB.out.cell (World.block_lt_of_cell? w _ hw238_1)).trans hw238_1), ((HB.out.cell (World.block_lt_of_cell? w _ hw238_2)).trans hw238_2), ((HB.out.cell (World.block_lt_of_cell? w _ hw238_3)).trans hw238_3), ((HB.out.cell (World.block_lt_of_cell? w _ hw238_4)).trans hw238_4)⟩ (fun hHeld => ?_); refine with_tabW laws_eqPlaceS.tab6 laws_eqPlaceS.bits6 (fun HT_ HW_ => ?_)
                generalize wr.drew = w11 at HB hx237_0 hx237_1 hx237_2 hx237_3 hx237_4 hx238_0 hx238_1 hx238_2 hx238_3 hx238_4 hHeld ⊢
                refine pu_ HT_ 0 (some 17) #[true, false, false, false, false, false, false, false, false, false] ?_
                refine pu_ HT_ 1 (some 18) #[true, true, false, false, false, false, false, false, false, false] ?_
                refine pu_ HT_ 2 (some 19) #[true, true, true, false, false, false, false, false, false, false] ?_
                refine pu_ HT_ 4 (some 21) #[true, true, true, false, true, false, false, false, false, false] ?_
                refine pu_ HT_ 5 (some 22) #[true, true, true, false, true, true, false, false, false, false] ?_
                refine pu_ HT_ 6 (some 23) #[true, true, true, false, true, true, true, false, false, false] ?_
                refine ta_ HT_ HW_ 3 (some 20) #[true, true, true, true, true, true, true, false, false, false] hHeld ?_
                refine ta_ HT_ HW_ 7 (some 24) #[true, true, true, true, true, true, true, true, false, false] hHeld ?_
                refine on_ HT_ 8 (some 25) #[true, true, true, true, true, true, true, true, true, false] (fun K hK => ?_)
                refine go1_ Try.func108 #[.agg #[.string ((rd_T50 l0 x5_1).f0), .string ((rd_T50 l0 x5_1).f1), .int .i64 ((rd_T50 l0 x5_1).f2), .int .i64 ((rd_T50 l0 x5_1).f3), .int .i64 ((rd_T50 l0 x5_1).f4)], .agg #[.string ((rd_T50 l1 x5_1).f0), .string ((rd_T50 l1 x5_1).f1), .int .i64 ((rd_T50 l1 x5_1).f2), .int .i64 ((rd_T50 l1 x5_1).f3), .int .i64 ((rd_T50 l1 x5_1).f4)]] ?_
                with_reducible refine (laws_eqPlace.calls ((rd_T50 l0 x5_1).f0) ((rd_T50 l0 x5_1).f1) ((rd_T50 l0 x5_1).f2) ((rd_T50 l0 x5_1).f3) ((rd_T50 l0 x5_1).f4) ((rd_T50 l1 x5_1).f0) ((rd_T50 l1 x5_1).f1) ((rd_T50 l1 x5_1).f2) ((rd_T50 l1 x5_1).f3) ((rd_T50 l1 x5_1).f4) false _ A7.out).mono ?_
                rintro e w12 ⟨rfl, hb⟩
                refine ⟨_, rfl, ?_⟩
                replace HB := AM (below_step bel_ hb)
                (try clear hb)
                (try clear hb2)
                (try clear hk)
                (try clear hi)
                refine hK.out _ _ ⟨((HB.out.cell (World.block_lt_of_cell? w _ hw237_0)).trans hw237_0), ((HB.out.cell (World.block_lt_of_cell? w _ hw237_1)).trans hw237_1), ((HB.out.cell (World.block_lt_of_cell? w _ hw237_2)).trans hw237_2), ((HB.out.cell (World.block_lt_of_cell? w _ hw237_3)).trans hw237_3), ((HB.out.cell (World.block_lt_of_cell? w _ hw237_4)).trans hw237_4), ((HB.out.cell (World.block_lt_of_cell? w _ hw238_0)).trans hw238_0), ((HB.out.cell (World.block_lt_of_cell? w _ hw238_1)).trans hw238_1), ((HB.out.cell (World.block_lt_of_cell? w _ hw238_2)).trans hw238_2), ((HB.out.cell (World.block_lt_of_cell? w _ hw238_3)).trans hw238_3), ((HB.out.cell (World.block_lt_of_cell? w _ hw238_4)).trans hw238_4)⟩ (fun hHeld => ?_)
                clear hK K
                refine nm_ ?_
                refine pu_ HT_ 9 (some 26) #[true, true, true, true, true, true, true, true, true, true] ?_
                refine dn_ HT_ ?_
                try go_wp2
                go_ret
                exact ⟨ri_, bel_⟩
            · rw [if_neg c6] at H
              exact absurd H (by simp)
          · rw [if_neg c5] at H
            exact absurd H (by simp)
        · rw [if_neg c4] at H
          have c4b0 : decide (x5_1 < (l0.length : Int)) = false := decide_eq_false c4
          clear c4
          obtain rfl := Option.some.inj H
          go_wp2
          go_ret
          exact ⟨ri_, bel_⟩
  · rw [if_neg c3] at H
    have c3b0 : ((l0.length : Int) == (l1.length : Int)) = false := beq_eq_false_iff_ne.mpr c3
    have c3b1 : ((l0.length : Int) != (l1.length : Int)) = true := bne_iff_ne.mpr c3
    have c3b2 : (l0.length == l1.length) = false := by first | simpa using c3 | (simp at c3 ⊢; omega)
    obtain rfl := Option.some.inj H
    go_enter Try.func43, Try.ntmps43
    go_wp2
    go_ret
    exact ⟨ri_, bel_⟩

end Go.Proofs.Yteljfdhjbnlgoaa.PFnExactPlacesRead
