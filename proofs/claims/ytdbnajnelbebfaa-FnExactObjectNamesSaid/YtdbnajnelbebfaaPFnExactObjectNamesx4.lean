-- A program of this session wrote this text: a changed copy of the kit print, with given functions.
import Derived.Test.YtdbnajnelbebfaaPFnExactObjectNamesx0
import Derived.Test.YtdbnajnelbebfaaPFnExactObjectNamesx1
import Derived.Test.YtdbnajnelbebfaaPFnExactObjectNamesx3
namespace Go.Proofs.Ytdbnajnelbebfaa.PFnExactObjectNames
open Go.RowKit Go.Proofs.YtdbnajnelbebfaaW.PrintWords Go.Proofs.YtdbnajnelbebfaaW.PrintLast Go.Proofs.YtdbnajnelbebfaaW.PrintMore Go.Proofs.Ytdbnajnelbebfaa.Aut
attribute [local go_sem] max2_int min2_int max_two min_two max_three min_three max_four min_four   -- for this text's walks alone
set_option linter.unusedVariables false
set_option linter.unusedSimpArgs false

/-! ### spec_ArrayRight: function 102 -/
mutual
def spec_ArrayRight.j0 : Nat → Bool → Int → Int → List (S192) → Option (Bool)
  | 0, _, _, _, _ => none
  | k + 1, x20, x119000, x119001, x119002 => if x20 = true then (some false) else (spec_ArrayRight.l0 k 0 x119000 x119001 x119002)
def spec_ArrayRight.l0 : Nat → Int → Int → Int → List (S192) → Option (Bool)
  | 0, _, _, _, _ => none
  | k + 1, x3, x119000, x119001, x119002 => if x3 < (x119002.length : Int) then (if 0 ≤ x3 then ((spec_DriveRight.f k ((rd_T192 x119002 x3).f0) ((rd_T192 x119002 x3).f1)).bind fun t121 => (if t121 = true then (spec_ArrayRight.l0 k (wrap64 (x3 + 1)) x119000 x119001 x119002) else (some false))) else (none)) else (some true)
end
def spec_ArrayRight.f (k : Nat) (a0_0 : Int) (a0_1 : Int) (l0_2 : List (S192)) : Option (Bool) := (spec_CodeRight.f a0_0 a0_1).bind fun t119 => (if t119 = true then (spec_ArrayRight.j0 k ((l0_2.length : Int) != (wrap64 (a0_0 + a0_1))) a0_0 a0_1 l0_2) else (spec_ArrayRight.j0 k true a0_0 a0_1 l0_2))
theorem spec_ArrayRight.mono_l : ∀ k, (∀ y0 y1 y2 y3, LeO (spec_ArrayRight.j0 k y0 y1 y2 y3) (spec_ArrayRight.j0 (k + 1) y0 y1 y2 y3)) ∧ (∀ y0 y1 y2 y3, LeO (spec_ArrayRight.l0 k y0 y1 y2 y3) (spec_ArrayRight.l0 (k + 1) y0 y1 y2 y3))
  | 0 => ⟨fun _ _ _ _ r h => by simp [spec_ArrayRight.j0] at h, fun _ _ _ _ r h => by simp [spec_ArrayRight.l0] at h⟩
  | k + 1 => by
    obtain ⟨ih0, ih1⟩ := spec_ArrayRight.mono_l k
    refine ⟨?_, ?_⟩
    · intro y0 y1 y2 y3
      unfold spec_ArrayRight.j0
      repeat' first
      | (with_reducible exact ih0 _ _ _ _)
      | (with_reducible exact ih1 _ _ _ _)
      | (with_reducible exact spec_DriveRight.mono _ _ _)
      | (with_reducible exact LeO.refl _)
      | (with_reducible exact LeO.none _)
      | (with_reducible refine LeO.ite ?_ ?_)
      | (with_reducible refine LeO.bind ?_ (fun _ => ?_))
      | exact ih0 _ _ _ _
      | exact ih1 _ _ _ _
      | exact spec_DriveRight.mono _ _ _
      | exact LeO.none _
      | refine LeO.ite ?_ ?_
      | refine LeO.bind ?_ (fun _ => ?_)
    · intro y0 y1 y2 y3
      unfold spec_ArrayRight.l0
      repeat' first
      | (with_reducible exact ih0 _ _ _ _)
      | (with_reducible exact ih1 _ _ _ _)
      | (with_reducible exact spec_DriveRight.mono _ _ _)
      | (with_reducible exact LeO.refl _)
      | (with_reducible exact LeO.none _)
      | (with_reducible refine LeO.ite ?_ ?_)
      | (with_reducible refine LeO.bind ?_ (fun _ => ?_))
      | exact ih0 _ _ _ _
      | exact ih1 _ _ _ _
      | exact spec_DriveRight.mono _ _ _
      | exact LeO.none _
      | refine LeO.ite ?_ ?_
      | refine LeO.bind ?_ (fun _ => ?_)
theorem spec_ArrayRight.mono : ∀ a0 a1 a2 k, LeO (spec_ArrayRight.f k a0 a1 a2) (spec_ArrayRight.f (k + 1) a0 a1 a2) := by
  intro a0 a1 a2 k
  obtain ⟨ih0, ih1⟩ := spec_ArrayRight.mono_l k
  unfold spec_ArrayRight.f
  repeat' first
      | (with_reducible exact ih0 _ _ _ _)
      | (with_reducible exact ih1 _ _ _ _)
      | (with_reducible exact spec_DriveRight.mono _ _ _)
      | (with_reducible exact LeO.refl _)
      | (with_reducible exact LeO.none _)
      | (with_reducible refine LeO.ite ?_ ?_)
      | (with_reducible refine LeO.bind ?_ (fun _ => ?_))
      | exact ih0 _ _ _ _
      | exact ih1 _ _ _ _
      | exact spec_DriveRight.mono _ _ _
      | exact LeO.none _
      | refine LeO.ite ?_ ?_
      | refine LeO.bind ?_ (fun _ => ?_)
set_option maxHeartbeats 8000000 in
set_option maxRecDepth 100000 in
theorem spec_ArrayRight.calls (k : Nat) (a0_0 : Int) (a0_1 : Int) (A0_2 : Option Addr) (c0_2 : Nat) (l0_2 : List (S192)) (r : Bool) (w : World) (hr0_2 : Kd.C k192 w A0_2 l0_2.length l0_2) (hc0_2 : l0_2.length ≤ c0_2) (h : spec_ArrayRight.f k a0_0 a0_1 l0_2 = some r) :
    Calls Try.prog 102 #[.agg #[.int .i64 a0_0, .int .i64 a0_1, .slice A0_2 l0_2.length c0_2]] w fun e w' => e = .returned (.bool r) ∧ Below w.heap.size w w' := by
  have hu64 := Try.underlying64
  have hu192 := Try.underlying192
  have HR0_2 := AM hr0_2
  have HC0_2 := AM hc0_2
  clear hr0_2 hc0_2
  have HB := AM (Below.refl w.heap.size w)
  have H : ((spec_CodeRight.f a0_0 a0_1).bind fun t119 => (if t119 = true then (spec_ArrayRight.j0 k ((l0_2.length : Int) != (wrap64 (a0_0 + a0_1))) a0_0 a0_1 l0_2) else (spec_ArrayRight.j0 k true a0_0 a0_1 l0_2))) = some r := h
  clear h
  have HC2 := AM H
  clear H
  go_enter Try.func102, Try.ntmps102
  go_upto_region 1 with (first | ((with_reducible refine gate_dst (N := 1) rfl ?_); (try (refine gate_guard (by rfl) ?_; dsimp only)); refine be_ 1 #[.int .i64 a0_0, .int .i64 a0_1, .slice A0_2 l0_2.length c0_2] 64 ?_; intro gb118 hg w3 hbox hb; have BK118 := AM hbox; have GW118 := AM ((by rw [hg]; exact (below_size bel_) : w.heap.size ≤ gb118)); have GE118 := AM ((by rw [hg]; exact (below_size bel_) : w.heap.size ≤ gb118)); replace HB := AM (below_step bel_ hb); clear hb hbox hg))
  (try simp only [Act.put, List.setIfInBounds_toArray, List.set_cons_zero, List.set_cons_succ])
  go_cut [20] (fun v20 wc => ∃ (kq : Nat) (x20_1 : Bool), v20 = .bool x20_1 ∧ Aside0 (spec_ArrayRight.j0 kq x20_1 a0_0 a0_1 l0_2 = some r) ∧ Aside0 (kq ≤ k) ∧ Aside0 (wc.heap[gb118]? = some (.cells #[.int .i64 a0_0, .int .i64 a0_1, (.slice A0_2 l0_2.length c0_2)] 64 (0, 0))) ∧ Aside0 (Below w.heap.size w wc))
  case first =>
    have H := HC2.out
    clear HC2
    obtain ⟨t119, A4, H⟩ := OB H
    try dsimp only at H
    replace A4 := AM A4
    by_cases c5 : t119 = true
    · subst c5
      rw [if_pos rfl] at H
      have H' := AM H
      clear H
      have hcz6_0 : w3.cell? ⟨gb118, 0, none⟩ = some (.int .i64 a0_0) := (blk_cell BK118.out 0).trans rfl
      have hcz6_1 : w3.cell? ⟨gb118, 1, none⟩ = some (.int .i64 a0_1) := (blk_cell BK118.out 1).trans rfl
      have hcz6_2 : w3.cell? ⟨gb118, 2, none⟩ = some (.slice A0_2 l0_2.length c0_2) := (blk_cell BK118.out 2).trans rfl
      have hfz6_0 := blk_frozen BK118.out 0
      have hfz6_1 := blk_frozen BK118.out 1
      have hfz6_2 := blk_frozen BK118.out 2
      go_wp2_with (first | ((with_reducible refine gate_callee (f := 51) rfl ?_); refine gl_ (some 8) Try.func51 #[.int .i64 a0_0, .int .i64 a0_1] ?_; (with_reducible refine (spec_CodeRight.calls a0_0 a0_1 true _ A4.out).mono ?_); rintro e w' ⟨rfl, ⟨nd, rfl⟩⟩; refine ⟨_, rfl, ?_⟩))
      go_meet
      case rel => exact ⟨_, (((l0_2.length : Int) != (wrap64 (a0_0 + a0_1)))), (by first | rfl | (simp; done) | (simp [*]; done)), H', ⟨by first | omega | exact Nat.le_refl _⟩, ⟨bk_ BK118.out⟩, ⟨bel_⟩⟩
    · replace c5 := Bool.eq_false_iff.mpr c5
      subst c5
      rw [if_neg (show ¬ (false = true) by decide)] at H
      have H' := AM H
      clear H
      have hcz7_0 : w3.cell? ⟨gb118, 0, none⟩ = some (.int .i64 a0_0) := (blk_cell BK118.out 0).trans rfl
      have hcz7_1 : w3.cell? ⟨gb118, 1, none⟩ = some (.int .i64 a0_1) := (blk_cell BK118.out 1).trans rfl
      have hcz7_2 : w3.cell? ⟨gb118, 2, none⟩ = some (.slice A0_2 l0_2.length c0_2) := (blk_cell BK118.out 2).trans rfl
      have hfz7_0 := blk_frozen BK118.out 0
      have hfz7_1 := blk_frozen BK118.out 1
      have hfz7_2 := blk_frozen BK118.out 2
      go_wp2_with (first | ((with_reducible refine gate_callee (f := 51) rfl ?_); refine gl_ (some 8) Try.func51 #[.int .i64 a0_0, .int .i64 a0_1] ?_; (with_reducible refine (spec_CodeRight.calls a0_0 a0_1 false _ A4.out).mono ?_); rintro e w' ⟨rfl, ⟨nd, rfl⟩⟩; refine ⟨_, rfl, ?_⟩))
      go_meet
      case rel => exact ⟨_, (true), (by first | rfl | (simp; done) | (simp [*]; done)), H', ⟨by first | omega | exact Nat.le_refl _⟩, ⟨bk_ BK118.out⟩, ⟨bel_⟩⟩
  case rest =>
    clear HC2
    try clear c1
    try clear p2
    try clear c5
    try clear p6
    try clear hcz6_0
    try clear hcz6_1
    try clear hcz6_2
    try clear hcz7_0
    try clear hcz7_1
    try clear hcz7_2
    try clear hfz6_0
    try clear hfz6_1
    try clear hfz6_2
    try clear hfz7_0
    try clear hfz7_1
    try clear hfz7_2
    obtain ⟨kq, x20_1, rfl, HA, HJ1, BK118, HB⟩ := hcut
    cases kq with
    | zero => exact absurd HA.out (by simp [spec_ArrayRight.j0])
    | succ kj1 =>
      have H := HA.out
      clear HA
      simp only [spec_ArrayRight.j0] at H
      by_cases c8 : x20_1 = true
      · subst c8
        rw [if_pos rfl] at H
        obtain rfl := Option.some.inj H
        go_wp2
        go_ret
        exact ⟨ri_, bel_⟩
      · replace c8 := Bool.eq_false_iff.mpr c8
        subst c8
        rw [if_neg (show ¬ (false = true) by decide)] at H
        have H' := AM H
        clear H
        go_wp2
        go_loopg [3] kj1 (fun kq v3 w' => ∃ (x3_2 : Int), v3 = .int .i64 x3_2 ∧ Aside0 (spec_ArrayRight.l0 kq x3_2 a0_0 a0_1 l0_2 = some r) ∧ Aside0 (kq ≤ kj1) ∧ Aside0 (w'.heap[gb118]? = some (.cells #[.int .i64 a0_0, .int .i64 a0_1, (.slice A0_2 l0_2.length c0_2)] 64 (0, 0))) ∧ Aside0 (Below w.heap.size w w'))
        case atStart => exact ⟨(0), (by first | rfl | (simp; done) | (simp [*]; done)), H', ⟨Nat.le_refl _⟩, ⟨bk_ BK118.out⟩, ⟨bel_⟩⟩
        case round =>
          clear H'
          try clear c1
          try clear p2
          try clear c5
          try clear p6
          try clear c8
          try clear hcz6_0
          try clear hcz6_1
          try clear hcz6_2
          try clear hcz7_0
          try clear hcz7_1
          try clear hcz7_2
          try clear hfz6_0
          try clear hfz6_1
          try clear hfz6_2
          try clear hfz7_0
          try clear hfz7_1
          try clear hfz7_2
          try clear p2
          try clear p6
          obtain ⟨x3_2, rfl, HA, HK2, BK118, HB⟩ := hrel
          cases gk with
          | zero => exact absurd HA.out (by simp [spec_ArrayRight.l0])
          | succ k2 =>
            have H := HA.out
            clear HA
            simp only [spec_ArrayRight.l0] at H
            by_cases c9 : x3_2 < (l0_2.length : Int)
            · rw [if_pos c9] at H
              have c9b0 : decide (x3_2 < (l0_2.length : Int)) = true := decide_eq_true c9
              clear c9
              by_cases c10 : 0 ≤ x3_2
              · rw [if_pos c10] at H
                have c10b0 : decide (0 ≤ x3_2) = true := decide_eq_true c10
                clear c10
                obtain ⟨t121, A11, H⟩ := OB H
                try dsimp only at H
                replace A11 := AM A11
                by_cases c12 : t121 = true
                · subst c12
                  rw [if_pos rfl] at H
                  have H' := AM H
                  clear H
                  have hcz13_0 : wr.cell? ⟨gb118, 0, none⟩ = some (.int .i64 a0_0) := (blk_cell BK118.out 0).trans rfl
                  have hcz13_1 : wr.cell? ⟨gb118, 1, none⟩ = some (.int .i64 a0_1) := (blk_cell BK118.out 1).trans rfl
                  have hcz13_2 : wr.cell? ⟨gb118, 2, none⟩ = some (.slice A0_2 l0_2.length c0_2) := (blk_cell BK118.out 2).trans rfl
                  have hfz13_0 := blk_frozen BK118.out 0
                  have hfz13_1 := blk_frozen BK118.out 1
                  have hfz13_2 := blk_frozen BK118.out 2
                  have p120 : 0 ≤ (x3_2 : Int) := of_decide_eq_true (by first | (with_reducible assumption) | assumption)
                  have q120 : x3_2 < (l0_2.length : Int) := of_decide_eq_true (by first | (with_reducible assumption) | assumption)
                  obtain ⟨ad120, A120_0, c120_0, e120, hx120_0, hx120_1, hl120_0, hi120_0⟩ := at_T192 HR0_2.out x3_2 p120 q120
                  cases e120
                  replace hx120_0 := (HB.out.cell (World.block_lt_of_cell? w _ hx120_0)).trans hx120_0
                  replace hx120_1 := (HB.out.cell (World.block_lt_of_cell? w _ hx120_1)).trans hx120_1
                  have HR120_0 := AM hi120_0
                  have HC120_0 := AM hl120_0
                  clear hi120_0 hl120_0
                  replace p120 := eq_true p120
                  replace q120 := eq_true q120
                  go_wp2_with (first | ((with_reducible refine gate_callee (f := 153) rfl ?_); refine gl_ (some 33) Try.func153 #[.agg #[.slice A120_0 ((rd_T192 l0_2 x3_2).f0).length c120_0, .int .i64 ((rd_T192 l0_2 x3_2).f1)]] ?_; (with_reducible refine (spec_DriveRight.calls k2 _ _ ((rd_T192 l0_2 x3_2).f0) ((rd_T192 l0_2 x3_2).f1) true _ ?side1 ?side2 A11.out).mono ?_); (case side1 => repeat (first | exact (Kd.C_below HR120_0.out HB.out) | (with_reducible refine Kd.C_alloc ?_ _) | (with_reducible refine Kd.C_drewN ?_ _) | (with_reducible refine Kd.C_drew ?_))); (case side2 => exact HC120_0.out); rintro e w14 ⟨rfl, hb⟩; refine ⟨_, rfl, ?_⟩; replace BK118 := AM (blk_below (g := gb118) (o := .cells #[.int .i64 a0_0, .int .i64 a0_1, .slice (some ad120) l0_2.length c0_2] 64 (0, 0)) (bk_ BK118.out) hb); replace HB := AM (below_step bel_ hb); (try clear hb); (try clear hb2); (try clear hk); (try clear hi)))
                  go_roundg k2
                  case measure => have := HJ1.out; have := HK2.out; omega
                  case rel => exact ⟨(wrap64 (x3_2 + 1)), (by first | rfl | (simp; done) | (simp [*]; done)), H', ⟨by have := HJ1.out; have := HK2.out; omega⟩, ⟨bk_ BK118.out⟩, ⟨bel_⟩⟩
                · replace c12 := Bool.eq_false_iff.mpr c12
                  subst c12
                  rw [if_neg (show ¬ (false = true) by decide)] at H
                  obtain rfl := Option.some.inj H
                  have hcz15_0 : wr.cell? ⟨gb118, 0, none⟩ = some (.int .i64 a0_0) := (blk_cell BK118.out 0).trans rfl
                  have hcz15_1 : wr.cell? ⟨gb118, 1, none⟩ = some (.int .i64 a0_1) := (blk_cell BK118.out 1).trans rfl
                  have hcz15_2 : wr.cell? ⟨gb118, 2, none⟩ = some (.slice A0_2 l0_2.length c0_2) := (blk_cell BK118.out 2).trans rfl
                  have hfz15_0 := blk_frozen BK118.out 0
                  have hfz15_1 := blk_frozen BK118.out 1
                  have hfz15_2 := blk_frozen BK118.out 2
                  have p120 : 0 ≤ (x3_2 : Int) := of_decide_eq_true (by first | (with_reducible assumption) | assumption)
                  have q120 : x3_2 < (l0_2.length : Int) := of_decide_eq_true (by first | (with_reducible assumption) | assumption)
                  obtain ⟨ad120, A120_0, c120_0, e120, hx120_0, hx120_1, hl120_0, hi120_0⟩ := at_T192 HR0_2.out x3_2 p120 q120
                  cases e120
                  replace hx120_0 := (HB.out.cell (World.block_lt_of_cell? w _ hx120_0)).trans hx120_0
                  replace hx120_1 := (HB.out.cell (World.block_lt_of_cell? w _ hx120_1)).trans hx120_1
                  have HR120_0 := AM hi120_0
                  have HC120_0 := AM hl120_0
                  clear hi120_0 hl120_0
                  replace p120 := eq_true p120
                  replace q120 := eq_true q120
                  go_wp2_with (first | ((with_reducible refine gate_callee (f := 153) rfl ?_); refine gl_ (some 33) Try.func153 #[.agg #[.slice A120_0 ((rd_T192 l0_2 x3_2).f0).length c120_0, .int .i64 ((rd_T192 l0_2 x3_2).f1)]] ?_; (with_reducible refine (spec_DriveRight.calls k2 _ _ ((rd_T192 l0_2 x3_2).f0) ((rd_T192 l0_2 x3_2).f1) false _ ?side1 ?side2 A11.out).mono ?_); (case side1 => repeat (first | exact (Kd.C_below HR120_0.out HB.out) | (with_reducible refine Kd.C_alloc ?_ _) | (with_reducible refine Kd.C_drewN ?_ _) | (with_reducible refine Kd.C_drew ?_))); (case side2 => exact HC120_0.out); rintro e w16 ⟨rfl, hb⟩; refine ⟨_, rfl, ?_⟩; replace BK118 := AM (blk_below (g := gb118) (o := .cells #[.int .i64 a0_0, .int .i64 a0_1, .slice (some ad120) l0_2.length c0_2] 64 (0, 0)) (bk_ BK118.out) hb); replace HB := AM (below_step bel_ hb); (try clear hb); (try clear hb2); (try clear hk); (try clear hi)))
                  go_ret
                  exact ⟨ri_, bel_⟩
              · rw [if_neg c10] at H
                exact absurd H (by simp)
            · rw [if_neg c9] at H
              have c9b0 : decide (x3_2 < (l0_2.length : Int)) = false := decide_eq_false c9
              clear c9
              obtain rfl := Option.some.inj H
              have hcz17_0 : wr.cell? ⟨gb118, 0, none⟩ = some (.int .i64 a0_0) := (blk_cell BK118.out 0).trans rfl
              have hcz17_1 : wr.cell? ⟨gb118, 1, none⟩ = some (.int .i64 a0_1) := (blk_cell BK118.out 1).trans rfl
              have hcz17_2 : wr.cell? ⟨gb118, 2, none⟩ = some (.slice A0_2 l0_2.length c0_2) := (blk_cell BK118.out 2).trans rfl
              have hfz17_0 := blk_frozen BK118.out 0
              have hfz17_1 := blk_frozen BK118.out 1
              have hfz17_2 := blk_frozen BK118.out 2
              go_wp2
              go_ret
              exact ⟨ri_, bel_⟩

/-! ### spec_ObjectRight: function 85 -/
def spec_ObjectRight.f (k : Nat) (a0 : ByteArray) : Option (Bool) := (spec_NameRight.f k a0).bind fun t122 => (if t122 = true then (if (a0.size : Int) ≤ 60 then (if (a0.size : Int) < 2 then (some true) else (if 0 ≤ 2 then (if 2 ≤ (a0.size : Int) then (some ((a0.extract 0 2).toList != ([116, 45] : List UInt8))) else (none)) else (none))) else (some false)) else (some false))
theorem spec_ObjectRight.mono : ∀ a0 k, LeO (spec_ObjectRight.f k a0) (spec_ObjectRight.f (k + 1) a0) := by
  intro a0 k
  unfold spec_ObjectRight.f
  repeat' first
      | (with_reducible exact spec_NameRight.mono _ _)
      | (with_reducible exact LeO.refl _)
      | (with_reducible exact LeO.none _)
      | (with_reducible refine LeO.ite ?_ ?_)
      | (with_reducible refine LeO.bind ?_ (fun _ => ?_))
      | exact spec_NameRight.mono _ _
      | exact LeO.none _
      | refine LeO.ite ?_ ?_
      | refine LeO.bind ?_ (fun _ => ?_)
set_option maxHeartbeats 8000000 in
set_option maxRecDepth 100000 in
theorem spec_ObjectRight.calls (k : Nat) (a0 : ByteArray) (r : Bool) (w : World) (h : spec_ObjectRight.f k a0 = some r) :
    Calls Try.prog 85 #[.string a0] w fun e w' => e = .returned (.bool r) ∧ Drawn0 w w' := by
  have H : ((spec_NameRight.f k a0).bind fun t122 => (if t122 = true then (if (a0.size : Int) ≤ 60 then (if (a0.size : Int) < 2 then (some true) else (if 0 ≤ 2 then (if 2 ≤ (a0.size : Int) then (some ((a0.extract 0 2).toList != ([116, 45] : List UInt8))) else (none)) else (none))) else (some false)) else (some false))) = some r := h
  clear h
  obtain ⟨t122, A2, H⟩ := OB H
  try dsimp only at H
  replace A2 := AM A2
  by_cases c3 : t122 = true
  · subst c3
    rw [if_pos rfl] at H
    by_cases c4 : (a0.size : Int) ≤ 60
    · rw [if_pos c4] at H
      have c4b0 : decide ((a0.size : Int) ≤ 60) = true := decide_eq_true c4
      have c4b1 : decide (a0.size ≤ 60) = true := decide_eq_true (by omega)
      clear c4
      by_cases c5 : (a0.size : Int) < 2
      · rw [if_pos c5] at H
        have c5b0 : decide ((a0.size : Int) < 2) = true := decide_eq_true c5
        have c5b1 : decide (a0.size < 2) = true := decide_eq_true (by omega)
        clear c5
        obtain rfl := Option.some.inj H
        go_enter Try.func85, Try.ntmps85
        go_wp2_with (first | ((with_reducible refine gate_callee (f := 145) rfl ?_); refine gl_ (some 4) Try.func145 #[.string a0] ?_; (with_reducible refine (spec_NameRight.calls k a0 true _ A2.out).mono ?_); rintro e w' ⟨rfl, ⟨nd, rfl⟩⟩; refine ⟨_, rfl, ?_⟩))
        go_ret
        exact ⟨by first | rfl | (simp; done) | (simp [*]; done), by repeat (first | exact Drawn0.refl _ | apply Drawn0.step)⟩
      · rw [if_neg c5] at H
        have c5b0 : decide ((a0.size : Int) < 2) = false := decide_eq_false c5
        have c5b1 : decide (a0.size < 2) = false := decide_eq_false (by omega)
        clear c5
        by_cases c6 : 0 ≤ 2
        · rw [if_pos c6] at H
          have c6b0 := eq_true c6
          have c6b1 : decide (0 ≤ 2) = true := decide_eq_true c6
          clear c6
          by_cases c7 : 2 ≤ (a0.size : Int)
          · rw [if_pos c7] at H
            have c7b0 := eq_true c7
            have c7b1 : decide (2 ≤ (a0.size : Int)) = true := decide_eq_true c7
            clear c7
            obtain rfl := Option.some.inj H
            go_enter Try.func85, Try.ntmps85
            go_wp2_with (first | ((with_reducible refine gate_callee (f := 145) rfl ?_); refine gl_ (some 4) Try.func145 #[.string a0] ?_; (with_reducible refine (spec_NameRight.calls k a0 true _ A2.out).mono ?_); rintro e w' ⟨rfl, ⟨nd, rfl⟩⟩; refine ⟨_, rfl, ?_⟩))
            go_ret
            exact ⟨by first | rfl | (simp; done) | (simp [*]; done), by repeat (first | exact Drawn0.refl _ | apply Drawn0.step)⟩
          · rw [if_neg c7] at H
            exact absurd H (by simp)
        · rw [if_neg c6] at H
          exact absurd H (by simp)
    · rw [if_neg c4] at H
      have c4b0 : decide ((a0.size : Int) ≤ 60) = false := decide_eq_false c4
      have c4b1 : decide (a0.size ≤ 60) = false := decide_eq_false (by omega)
      clear c4
      obtain rfl := Option.some.inj H
      go_enter Try.func85, Try.ntmps85
      go_wp2_with (first | ((with_reducible refine gate_callee (f := 145) rfl ?_); refine gl_ (some 4) Try.func145 #[.string a0] ?_; (with_reducible refine (spec_NameRight.calls k a0 true _ A2.out).mono ?_); rintro e w' ⟨rfl, ⟨nd, rfl⟩⟩; refine ⟨_, rfl, ?_⟩))
      go_ret
      exact ⟨by first | rfl | (simp; done) | (simp [*]; done), by repeat (first | exact Drawn0.refl _ | apply Drawn0.step)⟩
  · replace c3 := Bool.eq_false_iff.mpr c3
    subst c3
    rw [if_neg (show ¬ (false = true) by decide)] at H
    obtain rfl := Option.some.inj H
    go_enter Try.func85, Try.ntmps85
    go_wp2_with (first | ((with_reducible refine gate_callee (f := 145) rfl ?_); refine gl_ (some 4) Try.func145 #[.string a0] ?_; (with_reducible refine (spec_NameRight.calls k a0 false _ A2.out).mono ?_); rintro e w' ⟨rfl, ⟨nd, rfl⟩⟩; refine ⟨_, rfl, ?_⟩))
    go_ret
    exact ⟨by first | rfl | (simp; done) | (simp [*]; done), by repeat (first | exact Drawn0.refl _ | apply Drawn0.step)⟩

/-! ### spec_l09Put: function 154 -/
def spec_l09Put.l0 : Nat → List ByteArray → ByteArray → Int → Option (List ByteArray)
  | 0, _, _, _ => none
  | k + 1, x0, x1, x5 => if x5 < (x0.length : Int) then (if 0 ≤ x5 then (if (Op.bytesLess ((rdOf ByteArray.empty x0 x5).toList) x1.toList) = true then (spec_l09Put.l0 k x0 x1 (wrap64 (x5 + 1))) else (if (rdOf ByteArray.empty x0 x5).toList = x1.toList then (some x0) else ((some (([] : List ByteArray) : List ByteArray)).bind fun y125 => (if x5 ≤ (x0.length : Int) then ((some (x0.take (x5 : Int).toNat : List ByteArray)).bind fun y128 => (if y125.length + y128.length < 8796093022208 then ((some (y125 ++ y128 : List ByteArray)).bind fun y132 => (if y132.length < 8796093022208 then ((some (y132 ++ [x1] : List ByteArray)).bind fun y135 => ((some (x0.drop (x5 : Int).toNat : List ByteArray)).bind fun y138 => (if y135.length + y138.length < 8796093022208 then (some (y135 ++ y138)) else (none)))) else (none))) else (none))) else (none))))) else (none)) else ((some (([] : List ByteArray) : List ByteArray)).bind fun y145 => (if 0 ≤ x5 then (if x5 ≤ (x0.length : Int) then ((some (x0.take (x5 : Int).toNat : List ByteArray)).bind fun y148 => (if y145.length + y148.length < 8796093022208 then ((some (y145 ++ y148 : List ByteArray)).bind fun y152 => (if y152.length < 8796093022208 then ((some (y152 ++ [x1] : List ByteArray)).bind fun y155 => ((some (x0.drop (x5 : Int).toNat : List ByteArray)).bind fun y158 => (if y155.length + y158.length < 8796093022208 then (some (y155 ++ y158)) else (none)))) else (none))) else (none))) else (none)) else (none)))
def spec_l09Put.f (k : Nat) (l0 : List ByteArray) (a1 : ByteArray) : Option (List ByteArray) := spec_l09Put.l0 k l0 a1 0
theorem spec_l09Put.mono_l : ∀ k, (∀ y0 y1 y2, LeO (spec_l09Put.l0 k y0 y1 y2) (spec_l09Put.l0 (k + 1) y0 y1 y2))
  | 0 => fun _ _ _ r h => by simp [spec_l09Put.l0] at h
  | k + 1 => by
    have ih0 := spec_l09Put.mono_l k
    · intro y0 y1 y2
      unfold spec_l09Put.l0
      repeat' first
      | (with_reducible exact ih0 _ _ _)
      | (with_reducible exact LeO.refl _)
      | (with_reducible exact LeO.none _)
      | (with_reducible refine LeO.ite ?_ ?_)
      | (with_reducible refine LeO.bind ?_ (fun _ => ?_))
      | exact ih0 _ _ _
      | exact LeO.none _
      | refine LeO.ite ?_ ?_
      | refine LeO.bind ?_ (fun _ => ?_)
theorem spec_l09Put.mono : ∀ a0 a1 k, LeO (spec_l09Put.f k a0 a1) (spec_l09Put.f (k + 1) a0 a1) := by
  intro a0 a1 k
  have ih0 := spec_l09Put.mono_l k
  unfold spec_l09Put.f
  repeat' first
      | (with_reducible exact ih0 _ _ _)
      | (with_reducible exact LeO.refl _)
      | (with_reducible exact LeO.none _)
      | (with_reducible refine LeO.ite ?_ ?_)
      | (with_reducible refine LeO.bind ?_ (fun _ => ?_))
      | exact ih0 _ _ _
      | exact LeO.none _
      | refine LeO.ite ?_ ?_
      | refine LeO.bind ?_ (fun _ => ?_)
set_option maxHeartbeats 8000000 in
set_option maxRecDepth 100000 in
theorem spec_l09Put.calls (k : Nat) (P0_ : Nat → Prop) (u9000_ : Value) (l0 : List ByteArray) (a1 : ByteArray) (r : List ByteArray) (w0 w : World) (hB : Below w0.heap.size w0 w) (ho0 : Kd.R Kd.string 9 w w0.heap.size P0_ u9000_ l0) (h : spec_l09Put.f k l0 a1 = some r) :
    Calls Try.prog 154 #[u9000_, .string a1] w fun e w' => ∃ v0_ : Value, e = .returned (v0_) ∧ Kd.R Kd.string 9 w' w0.heap.size (fun k_ => (P0_ k_ ∨ w.heap.size ≤ k_)) v0_ r ∧ Below w0.heap.size w0 w' ∧ Kept w w' (fun k_ => P0_ k_) := by
  have HO0 := AM (show Kd.R Kd.string 9 w w0.heap.size (fun k_ => (P0_ k_ ∨ w.heap.size ≤ k_)) u9000_ l0 from Kd.R_mono ho0 (fun k_ hk => (.inl hk)))
  have HK := AM (Kept.refl w (fun k_ => P0_ k_))
  have HW0 := AM hB.size
  have HB := AM hB
  clear hB
  have H : (spec_l09Put.l0 k l0 a1 0) = some r := h
  clear h
  have H' := AM H
  clear H
  go_enter Try.func154, Try.ntmps154
  go_wp2
  go_loopg [5] k (fun kq v5 w' => ∃ (x5_1 : Int), v5 = .int .i64 x5_1 ∧ Aside0 (spec_l09Put.l0 kq l0 a1 x5_1 = some r) ∧ Aside0 (kq ≤ k) ∧ Aside0 (Kd.R Kd.string 9 w' w0.heap.size (fun k_ => (P0_ k_ ∨ w.heap.size ≤ k_)) u9000_ l0) ∧ Aside0 (Kept w w' (fun k_ => P0_ k_)) ∧ Aside0 (Below w0.heap.size w0 w'))
  case atStart => exact ⟨(0), (by first | rfl | (simp; done) | (simp [*]; done)), H', ⟨Nat.le_refl _⟩, ⟨ro_ HO0.out⟩, ⟨kt_⟩, ⟨bel_⟩⟩
  case round =>
    clear H'
    try clear c1
    try clear p2
    obtain ⟨x5_1, rfl, HA, HK1, HO_0, HK, HB⟩ := hrel
    cases gk with
    | zero => exact absurd HA.out (by simp [spec_l09Put.l0])
    | succ k1 =>
      have H := HA.out
      clear HA
      simp only [spec_l09Put.l0] at H
      by_cases c3 : x5_1 < (l0.length : Int)
      · rw [if_pos c3] at H
        have c3b0 : decide (x5_1 < (l0.length : Int)) = true := decide_eq_true c3
        clear c3
        by_cases c4 : 0 ≤ x5_1
        · rw [if_pos c4] at H
          have c4b0 : decide (0 ≤ x5_1) = true := decide_eq_true c4
          clear c4
          by_cases c5 : (Op.bytesLess ((rdOf ByteArray.empty l0 x5_1).toList) a1.toList) = true
          · rw [if_pos c5] at H
            have c5b0 : (Op.bytesLess ((rdOf ByteArray.empty l0 x5_1).toList) a1.toList) = true := c5
            clear c5
            have H' := AM H
            clear H
            obtain ⟨Ao6, co6, eo6⟩ := Kd.R_slice HO_0.out
            subst eo6
            have p123 : 0 ≤ (x5_1 : Int) := of_decide_eq_true (by first | (with_reducible assumption) | assumption)
            have q123 : x5_1 < (l0.length : Int) := of_decide_eq_true (by first | (with_reducible assumption) | assumption)
            obtain ⟨ad123, e123, hx123_0⟩ := Kd.at_string (Kd.R_reads' HO_0.out).2.2 x5_1 p123 q123
            cases e123
            replace p123 := eq_true p123
            replace q123 := eq_true q123
            go_wp2
            go_roundg k1
            case measure => have := HK1.out; omega
            case rel => exact ⟨(wrap64 (x5_1 + 1)), (by first | rfl | (simp; done) | (simp [*]; done)), H', ⟨by have := HK1.out; omega⟩, ⟨ro_ HO_0.out⟩, ⟨kt_⟩, ⟨bel_⟩⟩
          · rw [if_neg c5] at H
            have c5b0 : (Op.bytesLess ((rdOf ByteArray.empty l0 x5_1).toList) a1.toList) = false := by simpa using c5
            clear c5
            by_cases c7 : (rdOf ByteArray.empty l0 x5_1).toList = a1.toList
            · rw [if_pos c7] at H
              have c7b0 : ((rdOf ByteArray.empty l0 x5_1).toList == a1.toList) = true := beq_iff_eq.mpr c7
              have c7b1 : ((rdOf ByteArray.empty l0 x5_1).toList != a1.toList) = false := bne_eq_false_iff_eq.mpr c7
              clear c7
              obtain rfl := Option.some.inj H
              obtain ⟨Ao8, co8, eo8⟩ := Kd.R_slice HO_0.out
              subst eo8
              have p123 : 0 ≤ (x5_1 : Int) := of_decide_eq_true (by first | (with_reducible assumption) | assumption)
              have q123 : x5_1 < (l0.length : Int) := of_decide_eq_true (by first | (with_reducible assumption) | assumption)
              obtain ⟨ad123, e123, hx123_0⟩ := Kd.at_string (Kd.R_reads' HO_0.out).2.2 x5_1 p123 q123
              cases e123
              replace p123 := eq_true p123
              replace q123 := eq_true q123
              have p124 : 0 ≤ (x5_1 : Int) := of_decide_eq_true (by first | (with_reducible assumption) | assumption)
              have q124 : x5_1 < (l0.length : Int) := of_decide_eq_true (by first | (with_reducible assumption) | assumption)
              obtain ⟨ad124, e124, hx124_0⟩ := Kd.at_string (Kd.R_reads' HO_0.out).2.2 x5_1 p124 q124
              obtain rfl : ad123 = ad124 := (by injection e124)
              replace p124 := eq_true p124
              replace q124 := eq_true q124
              go_wp2
              go_ret
              exact ⟨_, ri_, ro_ HO_0.out, bel_, kt_⟩
            · rw [if_neg c7] at H
              have c7b0 : ((rdOf ByteArray.empty l0 x5_1).toList == a1.toList) = false := beq_eq_false_iff_ne.mpr c7
              have c7b1 : ((rdOf ByteArray.empty l0 x5_1).toList != a1.toList) = true := bne_iff_ne.mpr c7
              obtain ⟨y125, hy125⟩ : ∃ y_ : List ByteArray, y_ = (([] : List ByteArray)) := ⟨_, rfl⟩
              replace H : (if x5_1 ≤ (l0.length : Int) then ((some (l0.take (x5_1 : Int).toNat : List ByteArray)).bind fun y128 => (if y125.length + y128.length < 8796093022208 then ((some (y125 ++ y128 : List ByteArray)).bind fun y132 => (if y132.length < 8796093022208 then ((some (y132 ++ [a1] : List ByteArray)).bind fun y135 => ((some (l0.drop (x5_1 : Int).toNat : List ByteArray)).bind fun y138 => (if y135.length + y138.length < 8796093022208 then (some (y135 ++ y138)) else (none)))) else (none))) else (none))) else (none)) = some r := by first | (rw [hy125]; with_reducible exact H) | (have H2_ := (Option.bind_some _ _).symm.trans H; rw [hy125]; with_reducible exact H2_) | (have H2_ := (Option.bind_some _ _).symm.trans H; with_reducible exact H2_) | with_reducible exact H | (rw [hy125]; exact H) | exact H
              have Ny125 := AM hy125
              clear hy125
              have c9b0 := eq_true (of_decide_eq_true (by first | (with_reducible assumption) | assumption) : 0 ≤ x5_1)
              by_cases c10 : x5_1 ≤ (l0.length : Int)
              · rw [if_pos c10] at H
                have c10b0 := eq_true c10
                have c10b1 : decide (x5_1 ≤ (l0.length : Int)) = true := decide_eq_true c10
                clear c10
                obtain ⟨y128, hy128⟩ : ∃ y_ : List ByteArray, y_ = (l0.take (x5_1 : Int).toNat) := ⟨_, rfl⟩
                replace H : (if y125.length + y128.length < 8796093022208 then ((some (y125 ++ y128 : List ByteArray)).bind fun y132 => (if y132.length < 8796093022208 then ((some (y132 ++ [a1] : List ByteArray)).bind fun y135 => ((some (l0.drop (x5_1 : Int).toNat : List ByteArray)).bind fun y138 => (if y135.length + y138.length < 8796093022208 then (some (y135 ++ y138)) else (none)))) else (none))) else (none)) = some r := by first | (rw [hy128]; with_reducible exact H) | (have H2_ := (Option.bind_some _ _).symm.trans H; rw [hy128]; with_reducible exact H2_) | (have H2_ := (Option.bind_some _ _).symm.trans H; with_reducible exact H2_) | with_reducible exact H | (rw [hy128]; exact H) | exact H
                have Ny128 := AM hy128
                clear hy128
                by_cases c11 : y125.length + y128.length < 8796093022208
                · rw [if_pos c11] at H
                  have LMc11 := AM c11
                  clear c11
                  obtain ⟨y132, hy132⟩ : ∃ y_ : List ByteArray, y_ = (y125 ++ y128) := ⟨_, rfl⟩
                  replace H : (if y132.length < 8796093022208 then ((some (y132 ++ [a1] : List ByteArray)).bind fun y135 => ((some (l0.drop (x5_1 : Int).toNat : List ByteArray)).bind fun y138 => (if y135.length + y138.length < 8796093022208 then (some (y135 ++ y138)) else (none)))) else (none)) = some r := by first | (rw [hy132]; with_reducible exact H) | (have H2_ := (Option.bind_some _ _).symm.trans H; rw [hy132]; with_reducible exact H2_) | (have H2_ := (Option.bind_some _ _).symm.trans H; with_reducible exact H2_) | with_reducible exact H | (rw [hy132]; exact H) | exact H
                  have Ny132 := AM hy132
                  clear hy132
                  by_cases c12 : y132.length < 8796093022208
                  · rw [if_pos c12] at H
                    have LMc12 := AM c12
                    clear c12
                    obtain ⟨y135, hy135⟩ : ∃ y_ : List ByteArray, y_ = (y132 ++ [a1]) := ⟨_, rfl⟩
                    replace H : ((some (l0.drop (x5_1 : Int).toNat : List ByteArray)).bind fun y138 => (if y135.length + y138.length < 8796093022208 then (some (y135 ++ y138)) else (none))) = some r := by first | (rw [hy135]; with_reducible exact H) | (have H2_ := (Option.bind_some _ _).symm.trans H; rw [hy135]; with_reducible exact H2_) | (have H2_ := (Option.bind_some _ _).symm.trans H; with_reducible exact H2_) | with_reducible exact H | (rw [hy135]; exact H) | exact H
                    have Ny135 := AM hy135
                    clear hy135
                    have c13b0 := eq_true (of_decide_eq_true (by first | (with_reducible assumption) | assumption) : 0 ≤ x5_1)
                    have c14b0 := eq_true (of_decide_eq_true (by first | (with_reducible assumption) | assumption) : x5_1 ≤ (l0.length : Int))
                    obtain ⟨y138, hy138⟩ : ∃ y_ : List ByteArray, y_ = (l0.drop (x5_1 : Int).toNat) := ⟨_, rfl⟩
                    replace H : (if y135.length + y138.length < 8796093022208 then (some (y135 ++ y138)) else (none)) = some r := by first | (rw [hy138]; with_reducible exact H) | (have H2_ := (Option.bind_some _ _).symm.trans H; rw [hy138]; with_reducible exact H2_) | (have H2_ := (Option.bind_some _ _).symm.trans H; with_reducible exact H2_) | with_reducible exact H | (rw [hy138]; exact H) | exact H
                    have Ny138 := AM hy138
                    clear hy138
                    by_cases c15 : y135.length + y138.length < 8796093022208
                    · rw [if_pos c15] at H
                      have LMc15 := AM c15
                      clear c15
                      obtain ⟨y142, hy142⟩ : ∃ y_ : List ByteArray, y_ = (y135 ++ y138) := ⟨_, rfl⟩
                      replace H : (some y142) = some r := by first | (rw [hy142]; with_reducible exact H) | (have H2_ := (Option.bind_some _ _).symm.trans H; rw [hy142]; with_reducible exact H2_) | (have H2_ := (Option.bind_some _ _).symm.trans H; with_reducible exact H2_) | with_reducible exact H | (rw [hy142]; exact H) | exact H
                      have Ny142 := AM hy142
                      clear hy142
                      obtain rfl := Option.some.inj H
                      obtain ⟨Ao16, co16, eo16⟩ := Kd.R_slice HO_0.out
                      subst eo16
                      have p123 : 0 ≤ (x5_1 : Int) := of_decide_eq_true (by first | (with_reducible assumption) | assumption)
                      have q123 : x5_1 < (l0.length : Int) := of_decide_eq_true (by first | (with_reducible assumption) | assumption)
                      obtain ⟨ad123, e123, hx123_0⟩ := Kd.at_string (Kd.R_reads' HO_0.out).2.2 x5_1 p123 q123
                      cases e123
                      replace p123 := eq_true p123
                      replace q123 := eq_true q123
                      have p124 : 0 ≤ (x5_1 : Int) := of_decide_eq_true (by first | (with_reducible assumption) | assumption)
                      have q124 : x5_1 < (l0.length : Int) := of_decide_eq_true (by first | (with_reducible assumption) | assumption)
                      obtain ⟨ad124, e124, hx124_0⟩ := Kd.at_string (Kd.R_reads' HO_0.out).2.2 x5_1 p124 q124
                      obtain rfl : ad123 = ad124 := (by injection e124)
                      replace p124 := eq_true p124
                      replace q124 := eq_true q124
                      go_wp2_with (first | ((with_reducible refine gate_dst (N := 34) rfl ?_); refine Kd.R_lit Kd.string _ 9 ?hgL1 (N := 34) ?hdL1 (xs := ([] : List ByteArray)) (inner := []) (ok := fun _ => True) (okp := fun _ => True) ?hrL1 ?hpL1 (fun _ hk => hk) trivial (Below.refl _ _) (Nat.le_refl _) (by simp) ?_; (case hdL1 => rfl); (case hgL1 => rfl); (case hrL1 => first | (go_simp; done) | (go_simp; rfl)); (case hpL1 => exact (Reps.none _ _)); intro v126 w17 ho18 hb hg_ hnew_; clear hg_ hnew_; (first | rw [← Ny125.out] at ho18 | (simp only [Int.reduceToNat] at ho18; rw [← Ny125.out] at ho18)); have HO127 := AM (Kd.R_lower (Kd.R_new' (Kd.R_newM (M := fun k_ => (P0_ k_ ∨ w.heap.size ≤ k_)) ho18 (by first | exact HK.out.1 | exact (show Kept w _ (fun k_ => P0_ k_) from kt_).1) (fun k_ h_ => .inr h_)) (Kd.R_lt (ro_ HO_0.out))) (below_size bel_)); replace HO_0 := AM (Kd.R_elder' (ro_ HO_0.out) (Kd.R_base ho18) hb); replace HK := AM (Kept.below (S := (fun k_ => P0_ k_)) kt_ hb); replace HB := AM (below_step bel_ hb); clear hb ho18; have q19 : (x5_1 : Int) ≤ ((l0.length : Int) : Int) := of_decide_eq_true (by first | (with_reducible assumption) | assumption); obtain ⟨i019, hi019, _, hsz19, _⟩ := info_parts info9; have hroom19 : l0.length ≤ co16 := (Kd.R_reads' HO_0.out).2.1; have hC19 : Kd.C Kd.string _ (some ad123) l0.length l0 := (Kd.R_reads' HO_0.out).2.2; have hcut19 := cut_to (P := Try.prog) 25 9 .i64 Try.underlying25 hi019 (some ad123) l0.length co16 x5_1 (of_decide_eq_true (by first | (with_reducible assumption) | assumption)) q19 hroom19; have hr19 := Kd.C_take (m := (x5_1 : Int).toNat) hC19 (by omega); have hy19 : y128.length = (x5_1 : Int).toNat := (by rw [Ny128.out, List.length_take]; omega); rw [← Ny128.out] at hr19; rw [← hy19] at hcut19; have HR131 := AM hr19; have HC131 := AM (show y128.length ≤ co16 from by omega); clear hr19 hC19 hroom19 hi019 hsz19; have KY19 := AM hy19; clear hy19; have KL19 := AM (show (x5_1 : Int).toNat ≤ l0.length from by omega); replace q19 := eq_true q19) | ((with_reducible refine gate_builtin (b := .append) (xs := #[.tmp 34, .tmp 37]) rfl ?_); at_builtin; refine Kd.R_append_rows Kd.string (w0 := w0) w0.heap.size rfl (.tmp 34) (.tmp 37) 25 9 (.string ⟨#[]⟩) 16 rfl Try.underlying25 info9 rfl (by decide) (by omega) v126 y125 y128 _ _ _ (fun k_ => (P0_ k_ ∨ w.heap.size ≤ k_) ∧ some k_ ≠ (.slice (some ad123) l0.length co16 : Value).ownBlock) (fun _ => False) rfl rfl ?aO ?aR (fun _ _ h => h) (fun _ h => h.elim) ?aF ?aB ?aS ?aL ?_; (case aR => repeat (first | exact (by repeat (first | (with_reducible exact HR131.out) | (with_reducible refine Kd.C_alloc ?_ _) | (with_reducible refine Kd.C_drewN ?_ _) | (with_reducible refine Kd.C_drew ?_) | exact HR131.out)) | (with_reducible refine Kd.C_alloc ?_ _) | (with_reducible refine Kd.C_drewN ?_ _) | (with_reducible refine Kd.C_drew ?_))); (case aB => exact bel_); (case aF => exact (fun k_ hk => ⟨(.inr (Nat.le_trans (by first | exact HK.out.1 | exact (show Kept w _ (fun k_ => P0_ k_) from kt_).1) hk)), Kd.fresh' (Kd.R_lt (ro_ HO_0.out)) k_ hk⟩)); (case aO => exact (by (with_reducible repeat (first | apply Kd.R_alloc | apply Kd.R_drewN | apply Kd.R_drew)); exact Kd.R_mono HO127.out (fun _ hk => ⟨hk.1.1, hk.2⟩))); (case aS => exact (below_size bel_)); (case aL => have := LMc11.out; omega); intro v133 w20 ho hb hg hat; rw [← Ny132.out] at ho; have n0_ := AM (Kd.R_after (ok := (fun k_ => (P0_ k_ ∨ w.heap.size ≤ k_))) (ro_ HO_0.out) hg hat); have n1_ := AM hb; have n2_ := AM (Kept.of_grown (S := (fun k_ => P0_ k_)) hg kt_ (fun k_ e_ => (HO127.out.1 k_ e_).1.1)); have n3_ := AM ((show Kd.C Kd.string w20 (some ad123) y128.length y128 from by rw [Ny128.out]; exact Kd.C_take (m := (x5_1 : Int).toNat) ((Kd.R_reads' (Kd.R_after (ok := (fun k_ => (P0_ k_ ∨ w.heap.size ≤ k_))) (ro_ HO_0.out) hg hat)).2.2) KL19.out)); have n4_ := AM ho; clear HO_0; clear HB; clear HK; clear HR131; clear HO127; have HO_0 := n0_; have HB := n1_; have HK := n2_; have HR131 := n3_; have HO134 := n4_; clear n0_ n1_ n2_ n3_ n4_; clear ho hb hg hat) | ((with_reducible refine gate_builtin (b := .append) (xs := #[.tmp 39, .tmp 41]) rfl ?_); at_builtin; refine Kd.R_append Kd.string (w0 := w0) w0.heap.size rfl (.tmp 39) (.tmp 41) 25 9 (.string ⟨#[]⟩) 16 rfl Try.underlying25 info9 rfl (by decide) (by omega) v133 y132 a1 [.string a1] (fun k_ => (P0_ k_ ∨ w.heap.size ≤ k_) ∧ some k_ ≠ (.slice (some ad123) l0.length co16 : Value).ownBlock) (fun _ => False) rfl rfl ?aP (fun _ hk => hk.elim) ?aF ?aO ?aB ?aS ?aL ?_; (case aP => exact rfl); (case aB => exact bel_); (case aF => exact (fun k_ hk => ⟨(.inr (Nat.le_trans (by first | exact HK.out.1 | exact (show Kept w _ (fun k_ => P0_ k_) from kt_).1) hk)), Kd.fresh' (Kd.R_lt (ro_ HO_0.out)) k_ hk⟩)); (case aO => exact (ro_ HO134.out)); (case aS => exact (below_size bel_)); (case aL => have := LMc12.out; omega); intro v136 w21 ho hb hg hat; rw [← Ny135.out] at ho; have n0_ := AM (Kd.R_after (ok := (fun k_ => (P0_ k_ ∨ w.heap.size ≤ k_))) (ro_ HO_0.out) hg hat); have n1_ := AM hb; have n2_ := AM (Kept.of_grown (S := (fun k_ => P0_ k_)) hg kt_ (fun k_ e_ => (HO134.out.1 k_ e_).1)); have n3_ := AM ((show Kd.C Kd.string w21 (some ad123) y128.length y128 from by rw [Ny128.out]; exact Kd.C_take (m := (x5_1 : Int).toNat) ((Kd.R_reads' (Kd.R_after (ok := (fun k_ => (P0_ k_ ∨ w.heap.size ≤ k_))) (ro_ HO_0.out) hg hat)).2.2) KL19.out)); have n4_ := AM ho; clear HO_0; clear HB; clear HK; clear HR131; clear HO134; have HO_0 := n0_; have HB := n1_; have HK := n2_; have HR131 := n3_; have HO137 := n4_; clear n0_ n1_ n2_ n3_ n4_; clear ho hb hg hat; have q22 : (x5_1 : Int) ≤ ((l0.length : Int) : Int) := of_decide_eq_true (by first | (with_reducible assumption) | assumption); obtain ⟨i022, hi022, _, hsz22, _⟩ := info_parts info9; have hroom22 : l0.length ≤ co16 := (Kd.R_reads' HO_0.out).2.1; have hC22 : Kd.C Kd.string _ (some ad123) l0.length l0 := (Kd.R_reads' HO_0.out).2.2; have q022 : (0 : Int) ≤ (x5_1 : Int) := of_decide_eq_true (by first | (with_reducible assumption) | assumption); have hcut22 := cut_from (P := Try.prog) 25 9 .i64 Try.underlying25 hi022 1 hsz22 (some ad123) l0.length co16 x5_1 q022 q22; have hr22 := Kd.C_drop (m := (x5_1 : Int).toNat) (c := co16) hC22 (by omega) hroom22; obtain ⟨A22, hA22⟩ : ∃ A1, A1 = (if co16 = (x5_1 : Int).toNat then (some ad123) else ((some ad123) : Option Addr).map (·.add ((x5_1 : Int).toNat * 1))) := ⟨_, rfl⟩; obtain ⟨c22, hc22⟩ : ∃ c1, c1 = co16 - (x5_1 : Int).toNat := ⟨_, rfl⟩; have hy22 : y138.length = l0.length - (x5_1 : Int).toNat := (by rw [Ny138.out, List.length_drop] <;> omega); rw [show (l0).drop (x5_1 : Int).toNat = y138 from Ny138.out.symm] at hr22; replace hr22 : Kd.C Kd.string _ A22 y138.length y138 := (by rw [hA22]; exact hr22); rw [← hy22, ← hA22, ← hc22] at hcut22; have HR141 := AM hr22; have HC141 := AM (show y138.length ≤ c22 from by rw [hy22, hc22]; exact Nat.sub_le_sub_right hroom22 _); clear hr22 hC22 hroom22 hi022 hsz22 hc22; have KY22 := AM hy22; have KA22 := AM hA22; clear hy22 hA22; have KL22 := AM (show (x5_1 : Int).toNat ≤ l0.length from by omega); replace q22 := eq_true q22) | ((with_reducible refine gate_builtin (b := .append) (xs := #[.tmp 43, .tmp 46]) rfl ?_); at_builtin; refine Kd.R_append_rows Kd.string (w0 := w0) w0.heap.size rfl (.tmp 43) (.tmp 46) 25 9 (.string ⟨#[]⟩) 16 rfl Try.underlying25 info9 rfl (by decide) (by omega) v136 y135 y138 _ _ _ (fun k_ => (P0_ k_ ∨ w.heap.size ≤ k_) ∧ some k_ ≠ (.slice (some ad123) l0.length co16 : Value).ownBlock) (fun _ => False) rfl rfl ?aO ?aR (fun _ _ h => h) (fun _ h => h.elim) ?aF ?aB ?aS ?aL ?_; (case aR => repeat (first | exact (by repeat (first | (with_reducible exact HR141.out) | (with_reducible refine Kd.C_alloc ?_ _) | (with_reducible refine Kd.C_drewN ?_ _) | (with_reducible refine Kd.C_drew ?_) | exact HR141.out)) | (with_reducible refine Kd.C_alloc ?_ _) | (with_reducible refine Kd.C_drewN ?_ _) | (with_reducible refine Kd.C_drew ?_))); (case aB => exact bel_); (case aF => exact (fun k_ hk => ⟨(.inr (Nat.le_trans (by first | exact HK.out.1 | exact (show Kept w _ (fun k_ => P0_ k_) from kt_).1) hk)), Kd.fresh' (Kd.R_lt (ro_ HO_0.out)) k_ hk⟩)); (case aO => exact (ro_ HO137.out)); (case aS => exact (below_size bel_)); (case aL => have := LMc15.out; omega); intro v143 w23 ho hb hg hat; rw [← Ny142.out] at ho; have n0_ := AM (Kd.R_after (ok := (fun k_ => (P0_ k_ ∨ w.heap.size ≤ k_))) (ro_ HO_0.out) hg hat); have n1_ := AM hb; have n2_ := AM (Kept.of_grown (S := (fun k_ => P0_ k_)) hg kt_ (fun k_ e_ => (HO137.out.1 k_ e_).1)); have n3_ := AM ((show Kd.C Kd.string w23 (some ad123) y128.length y128 from by rw [Ny128.out]; exact Kd.C_take (m := (x5_1 : Int).toNat) ((Kd.R_reads' (Kd.R_after (ok := (fun k_ => (P0_ k_ ∨ w.heap.size ≤ k_))) (ro_ HO_0.out) hg hat)).2.2) KL19.out)); have n4_ := AM ((show Kd.C Kd.string w23 A22 y138.length y138 from by rw [Ny138.out, KA22.out]; exact Kd.C_drop (m := (x5_1 : Int).toNat) (c := co16) ((Kd.R_reads' (Kd.R_after (ok := (fun k_ => (P0_ k_ ∨ w.heap.size ≤ k_))) (ro_ HO_0.out) hg hat)).2.2) KL22.out ((Kd.R_reads' (Kd.R_after (ok := (fun k_ => (P0_ k_ ∨ w.heap.size ≤ k_))) (ro_ HO_0.out) hg hat)).2.1))); have n5_ := AM ho; clear HO_0; clear HB; clear HK; clear HR131; clear HR141; clear HO137; have HO_0 := n0_; have HB := n1_; have HK := n2_; have HR131 := n3_; have HR141 := n4_; have HO144 := n5_; clear n0_ n1_ n2_ n3_ n4_ n5_; clear ho hb hg hat))
                      go_ret
                      exact ⟨_, ri_, by (with_reducible repeat (first | apply Kd.R_alloc | apply Kd.R_drewN | apply Kd.R_drew)); exact Kd.R_mono HO144.out (fun _ hk => hk.1), bel_, kt_⟩
                    · rw [if_neg c15] at H
                      exact absurd H (by simp)
                  · rw [if_neg c12] at H
                    exact absurd H (by simp)
                · rw [if_neg c11] at H
                  exact absurd H (by simp)
              · rw [if_neg c10] at H
                exact absurd H (by simp)
        · rw [if_neg c4] at H
          exact absurd H (by simp)
      · rw [if_neg c3] at H
        have c3b0 : decide (x5_1 < (l0.length : Int)) = false := decide_eq_false c3
        clear c3
        obtain ⟨y145, hy145⟩ : ∃ y_ : List ByteArray, y_ = (([] : List ByteArray)) := ⟨_, rfl⟩
        replace H : (if 0 ≤ x5_1 then (if x5_1 ≤ (l0.length : Int) then ((some (l0.take (x5_1 : Int).toNat : List ByteArray)).bind fun y148 => (if y145.length + y148.length < 8796093022208 then ((some (y145 ++ y148 : List ByteArray)).bind fun y152 => (if y152.length < 8796093022208 then ((some (y152 ++ [a1] : List ByteArray)).bind fun y155 => ((some (l0.drop (x5_1 : Int).toNat : List ByteArray)).bind fun y158 => (if y155.length + y158.length < 8796093022208 then (some (y155 ++ y158)) else (none)))) else (none))) else (none))) else (none)) else (none)) = some r := by first | (rw [hy145]; with_reducible exact H) | (have H2_ := (Option.bind_some _ _).symm.trans H; rw [hy145]; with_reducible exact H2_) | (have H2_ := (Option.bind_some _ _).symm.trans H; with_reducible exact H2_) | with_reducible exact H | (rw [hy145]; exact H) | exact H
        have Ny145 := AM hy145
        clear hy145
        by_cases c24 : 0 ≤ x5_1
        · rw [if_pos c24] at H
          have c24b0 := eq_true c24
          have c24b1 : decide (0 ≤ x5_1) = true := decide_eq_true c24
          clear c24
          by_cases c25 : x5_1 ≤ (l0.length : Int)
          · rw [if_pos c25] at H
            have c25b0 := eq_true c25
            have c25b1 : decide (x5_1 ≤ (l0.length : Int)) = true := decide_eq_true c25
            clear c25
            obtain ⟨y148, hy148⟩ : ∃ y_ : List ByteArray, y_ = (l0.take (x5_1 : Int).toNat) := ⟨_, rfl⟩
            replace H : (if y145.length + y148.length < 8796093022208 then ((some (y145 ++ y148 : List ByteArray)).bind fun y152 => (if y152.length < 8796093022208 then ((some (y152 ++ [a1] : List ByteArray)).bind fun y155 => ((some (l0.drop (x5_1 : Int).toNat : List ByteArray)).bind fun y158 => (if y155.length + y158.length < 8796093022208 then (some (y155 ++ y158)) else (none)))) else (none))) else (none)) = some r := by first | (rw [hy148]; with_reducible exact H) | (have H2_ := (Option.bind_some _ _).symm.trans H; rw [hy148]; with_reducible exact H2_) | (have H2_ := (Option.bind_some _ _).symm.trans H; with_reducible exact H2_) | with_reducible exact H | (rw [hy148]; exact H) | exact H
            have Ny148 := AM hy148
            clear hy148
            by_cases c26 : y145.length + y148.length < 8796093022208
            · rw [if_pos c26] at H
              have LMc26 := AM c26
              clear c26
              obtain ⟨y152, hy152⟩ : ∃ y_ : List ByteArray, y_ = (y145 ++ y148) := ⟨_, rfl⟩
              replace H : (if y152.length < 8796093022208 then ((some (y152 ++ [a1] : List ByteArray)).bind fun y155 => ((some (l0.drop (x5_1 : Int).toNat : List ByteArray)).bind fun y158 => (if y155.length + y158.length < 8796093022208 then (some (y155 ++ y158)) else (none)))) else (none)) = some r := by first | (rw [hy152]; with_reducible exact H) | (have H2_ := (Option.bind_some _ _).symm.trans H; rw [hy152]; with_reducible exact H2_) | (have H2_ := (Option.bind_some _ _).symm.trans H; with_reducible exact H2_) | with_reducible exact H | (rw [hy152]; exact H) | exact H
              have Ny152 := AM hy152
              clear hy152
              by_cases c27 : y152.length < 8796093022208
              · rw [if_pos c27] at H
                have LMc27 := AM c27
                clear c27
                obtain ⟨y155, hy155⟩ : ∃ y_ : List ByteArray, y_ = (y152 ++ [a1]) := ⟨_, rfl⟩
                replace H : ((some (l0.drop (x5_1 : Int).toNat : List ByteArray)).bind fun y158 => (if y155.length + y158.length < 8796093022208 then (some (y155 ++ y158)) else (none))) = some r := by first | (rw [hy155]; with_reducible exact H) | (have H2_ := (Option.bind_some _ _).symm.trans H; rw [hy155]; with_reducible exact H2_) | (have H2_ := (Option.bind_some _ _).symm.trans H; with_reducible exact H2_) | with_reducible exact H | (rw [hy155]; exact H) | exact H
                have Ny155 := AM hy155
                clear hy155
                have c28b0 := eq_true (of_decide_eq_true (by first | (with_reducible assumption) | assumption) : 0 ≤ x5_1)
                have c29b0 := eq_true (of_decide_eq_true (by first | (with_reducible assumption) | assumption) : x5_1 ≤ (l0.length : Int))
                obtain ⟨y158, hy158⟩ : ∃ y_ : List ByteArray, y_ = (l0.drop (x5_1 : Int).toNat) := ⟨_, rfl⟩
                replace H : (if y155.length + y158.length < 8796093022208 then (some (y155 ++ y158)) else (none)) = some r := by first | (rw [hy158]; with_reducible exact H) | (have H2_ := (Option.bind_some _ _).symm.trans H; rw [hy158]; with_reducible exact H2_) | (have H2_ := (Option.bind_some _ _).symm.trans H; with_reducible exact H2_) | with_reducible exact H | (rw [hy158]; exact H) | exact H
                have Ny158 := AM hy158
                clear hy158
                by_cases c30 : y155.length + y158.length < 8796093022208
                · rw [if_pos c30] at H
                  have LMc30 := AM c30
                  clear c30
                  obtain ⟨y162, hy162⟩ : ∃ y_ : List ByteArray, y_ = (y155 ++ y158) := ⟨_, rfl⟩
                  replace H : (some y162) = some r := by first | (rw [hy162]; with_reducible exact H) | (have H2_ := (Option.bind_some _ _).symm.trans H; rw [hy162]; with_reducible exact H2_) | (have H2_ := (Option.bind_some _ _).symm.trans H; with_reducible exact H2_) | with_reducible exact H | (rw [hy162]; exact H) | exact H
                  have Ny162 := AM hy162
                  clear hy162
                  obtain rfl := Option.some.inj H
                  obtain ⟨Ao31, co31, eo31⟩ := Kd.R_slice HO_0.out
                  subst eo31
                  go_wp2_with (first | ((with_reducible refine gate_dst (N := 34) rfl ?_); refine Kd.R_lit Kd.string _ 9 ?hgL2 (N := 34) ?hdL2 (xs := ([] : List ByteArray)) (inner := []) (ok := fun _ => True) (okp := fun _ => True) ?hrL2 ?hpL2 (fun _ hk => hk) trivial (Below.refl _ _) (Nat.le_refl _) (by simp) ?_; (case hdL2 => rfl); (case hgL2 => rfl); (case hrL2 => first | (go_simp; done) | (go_simp; rfl)); (case hpL2 => exact (Reps.none _ _)); intro v146 w32 ho33 hb hg_ hnew_; clear hg_ hnew_; (first | rw [← Ny145.out] at ho33 | (simp only [Int.reduceToNat] at ho33; rw [← Ny145.out] at ho33)); have HO147 := AM (Kd.R_lower (Kd.R_new' (Kd.R_newM (M := fun k_ => (P0_ k_ ∨ w.heap.size ≤ k_)) ho33 (by first | exact HK.out.1 | exact (show Kept w _ (fun k_ => P0_ k_) from kt_).1) (fun k_ h_ => .inr h_)) (Kd.R_lt (ro_ HO_0.out))) (below_size bel_)); replace HO_0 := AM (Kd.R_elder' (ro_ HO_0.out) (Kd.R_base ho33) hb); replace HK := AM (Kept.below (S := (fun k_ => P0_ k_)) kt_ hb); replace HB := AM (below_step bel_ hb); clear hb ho33; have q34 : (x5_1 : Int) ≤ ((l0.length : Int) : Int) := of_decide_eq_true (by first | (with_reducible assumption) | assumption); obtain ⟨i034, hi034, _, hsz34, _⟩ := info_parts info9; have hroom34 : l0.length ≤ co31 := (Kd.R_reads' HO_0.out).2.1; have hC34 : Kd.C Kd.string _ Ao31 l0.length l0 := (Kd.R_reads' HO_0.out).2.2; have hcut34 := cut_to (P := Try.prog) 25 9 .i64 Try.underlying25 hi034 Ao31 l0.length co31 x5_1 (of_decide_eq_true (by first | (with_reducible assumption) | assumption)) q34 hroom34; have hr34 := Kd.C_take (m := (x5_1 : Int).toNat) hC34 (by omega); have hy34 : y148.length = (x5_1 : Int).toNat := (by rw [Ny148.out, List.length_take]; omega); rw [← Ny148.out] at hr34; rw [← hy34] at hcut34; have HR151 := AM hr34; have HC151 := AM (show y148.length ≤ co31 from by omega); clear hr34 hC34 hroom34 hi034 hsz34; have KY34 := AM hy34; clear hy34; have KL34 := AM (show (x5_1 : Int).toNat ≤ l0.length from by omega); replace q34 := eq_true q34) | ((with_reducible refine gate_builtin (b := .append) (xs := #[.tmp 34, .tmp 37]) rfl ?_); at_builtin; refine Kd.R_append_rows Kd.string (w0 := w0) w0.heap.size rfl (.tmp 34) (.tmp 37) 25 9 (.string ⟨#[]⟩) 16 rfl Try.underlying25 info9 rfl (by decide) (by omega) v146 y145 y148 _ _ _ (fun k_ => (P0_ k_ ∨ w.heap.size ≤ k_) ∧ some k_ ≠ (.slice Ao31 l0.length co31 : Value).ownBlock) (fun _ => False) rfl rfl ?aO ?aR (fun _ _ h => h) (fun _ h => h.elim) ?aF ?aB ?aS ?aL ?_; (case aR => repeat (first | exact (by repeat (first | (with_reducible exact HR151.out) | (with_reducible refine Kd.C_alloc ?_ _) | (with_reducible refine Kd.C_drewN ?_ _) | (with_reducible refine Kd.C_drew ?_) | exact HR151.out)) | (with_reducible refine Kd.C_alloc ?_ _) | (with_reducible refine Kd.C_drewN ?_ _) | (with_reducible refine Kd.C_drew ?_))); (case aB => exact bel_); (case aF => exact (fun k_ hk => ⟨(.inr (Nat.le_trans (by first | exact HK.out.1 | exact (show Kept w _ (fun k_ => P0_ k_) from kt_).1) hk)), Kd.fresh' (Kd.R_lt (ro_ HO_0.out)) k_ hk⟩)); (case aO => exact (by (with_reducible repeat (first | apply Kd.R_alloc | apply Kd.R_drewN | apply Kd.R_drew)); exact Kd.R_mono HO147.out (fun _ hk => ⟨hk.1.1, hk.2⟩))); (case aS => exact (below_size bel_)); (case aL => have := LMc26.out; omega); intro v153 w35 ho hb hg hat; rw [← Ny152.out] at ho; have n0_ := AM (Kd.R_after (ok := (fun k_ => (P0_ k_ ∨ w.heap.size ≤ k_))) (ro_ HO_0.out) hg hat); have n1_ := AM hb; have n2_ := AM (Kept.of_grown (S := (fun k_ => P0_ k_)) hg kt_ (fun k_ e_ => (HO147.out.1 k_ e_).1.1)); have n3_ := AM ((show Kd.C Kd.string w35 Ao31 y148.length y148 from by rw [Ny148.out]; exact Kd.C_take (m := (x5_1 : Int).toNat) ((Kd.R_reads' (Kd.R_after (ok := (fun k_ => (P0_ k_ ∨ w.heap.size ≤ k_))) (ro_ HO_0.out) hg hat)).2.2) KL34.out)); have n4_ := AM ho; clear HO_0; clear HB; clear HK; clear HR151; clear HO147; have HO_0 := n0_; have HB := n1_; have HK := n2_; have HR151 := n3_; have HO154 := n4_; clear n0_ n1_ n2_ n3_ n4_; clear ho hb hg hat) | ((with_reducible refine gate_builtin (b := .append) (xs := #[.tmp 39, .tmp 41]) rfl ?_); at_builtin; refine Kd.R_append Kd.string (w0 := w0) w0.heap.size rfl (.tmp 39) (.tmp 41) 25 9 (.string ⟨#[]⟩) 16 rfl Try.underlying25 info9 rfl (by decide) (by omega) v153 y152 a1 [.string a1] (fun k_ => (P0_ k_ ∨ w.heap.size ≤ k_) ∧ some k_ ≠ (.slice Ao31 l0.length co31 : Value).ownBlock) (fun _ => False) rfl rfl ?aP (fun _ hk => hk.elim) ?aF ?aO ?aB ?aS ?aL ?_; (case aP => exact rfl); (case aB => exact bel_); (case aF => exact (fun k_ hk => ⟨(.inr (Nat.le_trans (by first | exact HK.out.1 | exact (show Kept w _ (fun k_ => P0_ k_) from kt_).1) hk)), Kd.fresh' (Kd.R_lt (ro_ HO_0.out)) k_ hk⟩)); (case aO => exact (ro_ HO154.out)); (case aS => exact (below_size bel_)); (case aL => have := LMc27.out; omega); intro v156 w36 ho hb hg hat; rw [← Ny155.out] at ho; have n0_ := AM (Kd.R_after (ok := (fun k_ => (P0_ k_ ∨ w.heap.size ≤ k_))) (ro_ HO_0.out) hg hat); have n1_ := AM hb; have n2_ := AM (Kept.of_grown (S := (fun k_ => P0_ k_)) hg kt_ (fun k_ e_ => (HO154.out.1 k_ e_).1)); have n3_ := AM ((show Kd.C Kd.string w36 Ao31 y148.length y148 from by rw [Ny148.out]; exact Kd.C_take (m := (x5_1 : Int).toNat) ((Kd.R_reads' (Kd.R_after (ok := (fun k_ => (P0_ k_ ∨ w.heap.size ≤ k_))) (ro_ HO_0.out) hg hat)).2.2) KL34.out)); have n4_ := AM ho; clear HO_0; clear HB; clear HK; clear HR151; clear HO154; have HO_0 := n0_; have HB := n1_; have HK := n2_; have HR151 := n3_; have HO157 := n4_; clear n0_ n1_ n2_ n3_ n4_; clear ho hb hg hat; have q37 : (x5_1 : Int) ≤ ((l0.length : Int) : Int) := of_decide_eq_true (by first | (with_reducible assumption) | assumption); obtain ⟨i037, hi037, _, hsz37, _⟩ := info_parts info9; have hroom37 : l0.length ≤ co31 := (Kd.R_reads' HO_0.out).2.1; have hC37 : Kd.C Kd.string _ Ao31 l0.length l0 := (Kd.R_reads' HO_0.out).2.2; have q037 : (0 : Int) ≤ (x5_1 : Int) := of_decide_eq_true (by first | (with_reducible assumption) | assumption); have hcut37 := cut_from (P := Try.prog) 25 9 .i64 Try.underlying25 hi037 1 hsz37 Ao31 l0.length co31 x5_1 q037 q37; have hr37 := Kd.C_drop (m := (x5_1 : Int).toNat) (c := co31) hC37 (by omega) hroom37; obtain ⟨A37, hA37⟩ : ∃ A1, A1 = (if co31 = (x5_1 : Int).toNat then Ao31 else (Ao31 : Option Addr).map (·.add ((x5_1 : Int).toNat * 1))) := ⟨_, rfl⟩; obtain ⟨c37, hc37⟩ : ∃ c1, c1 = co31 - (x5_1 : Int).toNat := ⟨_, rfl⟩; have hy37 : y158.length = l0.length - (x5_1 : Int).toNat := (by rw [Ny158.out, List.length_drop] <;> omega); rw [show (l0).drop (x5_1 : Int).toNat = y158 from Ny158.out.symm] at hr37; replace hr37 : Kd.C Kd.string _ A37 y158.length y158 := (by rw [hA37]; exact hr37); rw [← hy37, ← hA37, ← hc37] at hcut37; have HR161 := AM hr37; have HC161 := AM (show y158.length ≤ c37 from by rw [hy37, hc37]; exact Nat.sub_le_sub_right hroom37 _); clear hr37 hC37 hroom37 hi037 hsz37 hc37; have KY37 := AM hy37; have KA37 := AM hA37; clear hy37 hA37; have KL37 := AM (show (x5_1 : Int).toNat ≤ l0.length from by omega); replace q37 := eq_true q37) | ((with_reducible refine gate_builtin (b := .append) (xs := #[.tmp 43, .tmp 46]) rfl ?_); at_builtin; refine Kd.R_append_rows Kd.string (w0 := w0) w0.heap.size rfl (.tmp 43) (.tmp 46) 25 9 (.string ⟨#[]⟩) 16 rfl Try.underlying25 info9 rfl (by decide) (by omega) v156 y155 y158 _ _ _ (fun k_ => (P0_ k_ ∨ w.heap.size ≤ k_) ∧ some k_ ≠ (.slice Ao31 l0.length co31 : Value).ownBlock) (fun _ => False) rfl rfl ?aO ?aR (fun _ _ h => h) (fun _ h => h.elim) ?aF ?aB ?aS ?aL ?_; (case aR => repeat (first | exact (by repeat (first | (with_reducible exact HR161.out) | (with_reducible refine Kd.C_alloc ?_ _) | (with_reducible refine Kd.C_drewN ?_ _) | (with_reducible refine Kd.C_drew ?_) | exact HR161.out)) | (with_reducible refine Kd.C_alloc ?_ _) | (with_reducible refine Kd.C_drewN ?_ _) | (with_reducible refine Kd.C_drew ?_))); (case aB => exact bel_); (case aF => exact (fun k_ hk => ⟨(.inr (Nat.le_trans (by first | exact HK.out.1 | exact (show Kept w _ (fun k_ => P0_ k_) from kt_).1) hk)), Kd.fresh' (Kd.R_lt (ro_ HO_0.out)) k_ hk⟩)); (case aO => exact (ro_ HO157.out)); (case aS => exact (below_size bel_)); (case aL => have := LMc30.out; omega); intro v163 w38 ho hb hg hat; rw [← Ny162.out] at ho; have n0_ := AM (Kd.R_after (ok := (fun k_ => (P0_ k_ ∨ w.heap.size ≤ k_))) (ro_ HO_0.out) hg hat); have n1_ := AM hb; have n2_ := AM (Kept.of_grown (S := (fun k_ => P0_ k_)) hg kt_ (fun k_ e_ => (HO157.out.1 k_ e_).1)); have n3_ := AM ((show Kd.C Kd.string w38 Ao31 y148.length y148 from by rw [Ny148.out]; exact Kd.C_take (m := (x5_1 : Int).toNat) ((Kd.R_reads' (Kd.R_after (ok := (fun k_ => (P0_ k_ ∨ w.heap.size ≤ k_))) (ro_ HO_0.out) hg hat)).2.2) KL34.out)); have n4_ := AM ((show Kd.C Kd.string w38 A37 y158.length y158 from by rw [Ny158.out, KA37.out]; exact Kd.C_drop (m := (x5_1 : Int).toNat) (c := co31) ((Kd.R_reads' (Kd.R_after (ok := (fun k_ => (P0_ k_ ∨ w.heap.size ≤ k_))) (ro_ HO_0.out) hg hat)).2.2) KL37.out ((Kd.R_reads' (Kd.R_after (ok := (fun k_ => (P0_ k_ ∨ w.heap.size ≤ k_))) (ro_ HO_0.out) hg hat)).2.1))); have n5_ := AM ho; clear HO_0; clear HB; clear HK; clear HR151; clear HR161; clear HO157; have HO_0 := n0_; have HB := n1_; have HK := n2_; have HR151 := n3_; have HR161 := n4_; have HO164 := n5_; clear n0_ n1_ n2_ n3_ n4_ n5_; clear ho hb hg hat))
                  go_ret
                  exact ⟨_, ri_, by (with_reducible repeat (first | apply Kd.R_alloc | apply Kd.R_drewN | apply Kd.R_drew)); exact Kd.R_mono HO164.out (fun _ hk => hk.1), bel_, kt_⟩
                · rw [if_neg c30] at H
                  exact absurd H (by simp)
              · rw [if_neg c27] at H
                exact absurd H (by simp)
            · rw [if_neg c26] at H
              exact absurd H (by simp)
          · rw [if_neg c25] at H
            exact absurd H (by simp)
        · rw [if_neg c24] at H
          exact absurd H (by simp)

end Go.Proofs.Ytdbnajnelbebfaa.PFnExactObjectNames
