-- A program of this session wrote this text: a changed copy of the kit print, with given functions.
import Derived.Test.YtdbnajnelbebfaaPFnExactObjectNamesx0
import Derived.Test.YtdbnajnelbebfaaPFnExactObjectNamesx4
namespace Go.Proofs.Ytdbnajnelbebfaa.PFnExactObjectNames
open Go.RowKit Go.Proofs.YtdbnajnelbebfaaW.PrintWords Go.Proofs.YtdbnajnelbebfaaW.PrintLast Go.Proofs.YtdbnajnelbebfaaW.PrintMore Go.Proofs.Ytdbnajnelbebfaa.Aut
attribute [local go_sem] max2_int min2_int max_two min_two max_three min_three max_four min_four   -- for this text's walks alone
set_option linter.unusedVariables false
set_option linter.unusedSimpArgs false

/-! ### spec_l09Names: function 103 -/
mutual
def spec_l09Names.l0 : Nat → List ByteArray → Int → Int → Int → List (S192) → Option (List ByteArray)
  | 0, _, _, _, _, _ => none
  | k + 1, x3, x4, x166000, x166001, x166002 => if x4 < (x166002.length : Int) then (spec_l09Names.l1 k x3 x4 0 x166000 x166001 x166002) else (some x3)
def spec_l09Names.l1 : Nat → List ByteArray → Int → Int → Int → Int → List (S192) → Option (List ByteArray)
  | 0, _, _, _, _, _, _ => none
  | k + 1, x3, x4, x5, x166000, x166001, x166002 => if 0 ≤ x4 then (if x4 < (x166002.length : Int) then (if x5 < (((rd_T192 x166002 x4).f0).length : Int) then (if 0 ≤ x5 then ((spec_ObjectRight.f k ((rd_T194 ((rd_T192 x166002 x4).f0) x5).f0)).bind fun t172 => (if t172 = true then ((spec_l09Put.f k x3 ((rd_T194 ((rd_T192 x166002 x4).f0) x5).f0)).bind fun t173 => (spec_l09Names.l1 k t173 x4 (wrap64 (x5 + 1)) x166000 x166001 x166002)) else (spec_l09Names.l1 k x3 x4 (wrap64 (x5 + 1)) x166000 x166001 x166002))) else (none)) else (spec_l09Names.l0 k x3 (wrap64 (x4 + 1)) x166000 x166001 x166002)) else (none)) else (none)
end
def spec_l09Names.f (k : Nat) (a0_0 : Int) (a0_1 : Int) (l0_2 : List (S192)) : Option (List ByteArray) := spec_l09Names.l0 k (([] : List ByteArray)) 0 a0_0 a0_1 l0_2
theorem spec_l09Names.mono_l : ∀ k, (∀ y0 y1 y2 y3 y4, LeO (spec_l09Names.l0 k y0 y1 y2 y3 y4) (spec_l09Names.l0 (k + 1) y0 y1 y2 y3 y4)) ∧ (∀ y0 y1 y2 y3 y4 y5, LeO (spec_l09Names.l1 k y0 y1 y2 y3 y4 y5) (spec_l09Names.l1 (k + 1) y0 y1 y2 y3 y4 y5))
  | 0 => ⟨fun _ _ _ _ _ r h => by simp [spec_l09Names.l0] at h, fun _ _ _ _ _ _ r h => by simp [spec_l09Names.l1] at h⟩
  | k + 1 => by
    obtain ⟨ih0, ih1⟩ := spec_l09Names.mono_l k
    refine ⟨?_, ?_⟩
    · intro y0 y1 y2 y3 y4
      unfold spec_l09Names.l0
      repeat' first
      | (with_reducible exact ih0 _ _ _ _ _)
      | (with_reducible exact ih1 _ _ _ _ _ _)
      | (with_reducible exact spec_ObjectRight.mono _ _)
      | (with_reducible exact spec_l09Put.mono _ _ _)
      | (with_reducible exact LeO.refl _)
      | (with_reducible exact LeO.none _)
      | (with_reducible refine LeO.ite ?_ ?_)
      | (with_reducible refine LeO.bind ?_ (fun _ => ?_))
      | exact ih0 _ _ _ _ _
      | exact ih1 _ _ _ _ _ _
      | exact spec_ObjectRight.mono _ _
      | exact spec_l09Put.mono _ _ _
      | exact LeO.none _
      | refine LeO.ite ?_ ?_
      | refine LeO.bind ?_ (fun _ => ?_)
    · intro y0 y1 y2 y3 y4 y5
      unfold spec_l09Names.l1
      repeat' first
      | (with_reducible exact ih0 _ _ _ _ _)
      | (with_reducible exact ih1 _ _ _ _ _ _)
      | (with_reducible exact spec_ObjectRight.mono _ _)
      | (with_reducible exact spec_l09Put.mono _ _ _)
      | (with_reducible exact LeO.refl _)
      | (with_reducible exact LeO.none _)
      | (with_reducible refine LeO.ite ?_ ?_)
      | (with_reducible refine LeO.bind ?_ (fun _ => ?_))
      | exact ih0 _ _ _ _ _
      | exact ih1 _ _ _ _ _ _
      | exact spec_ObjectRight.mono _ _
      | exact spec_l09Put.mono _ _ _
      | exact LeO.none _
      | refine LeO.ite ?_ ?_
      | refine LeO.bind ?_ (fun _ => ?_)
theorem spec_l09Names.mono : ∀ a0 a1 a2 k, LeO (spec_l09Names.f k a0 a1 a2) (spec_l09Names.f (k + 1) a0 a1 a2) := by
  intro a0 a1 a2 k
  obtain ⟨ih0, ih1⟩ := spec_l09Names.mono_l k
  unfold spec_l09Names.f
  repeat' first
      | (with_reducible exact ih0 _ _ _ _ _)
      | (with_reducible exact ih1 _ _ _ _ _ _)
      | (with_reducible exact spec_ObjectRight.mono _ _)
      | (with_reducible exact spec_l09Put.mono _ _ _)
      | (with_reducible exact LeO.refl _)
      | (with_reducible exact LeO.none _)
      | (with_reducible refine LeO.ite ?_ ?_)
      | (with_reducible refine LeO.bind ?_ (fun _ => ?_))
      | exact ih0 _ _ _ _ _
      | exact ih1 _ _ _ _ _ _
      | exact spec_ObjectRight.mono _ _
      | exact spec_l09Put.mono _ _ _
      | exact LeO.none _
      | refine LeO.ite ?_ ?_
      | refine LeO.bind ?_ (fun _ => ?_)
set_option maxHeartbeats 8000000 in
set_option maxRecDepth 100000 in
theorem spec_l09Names.calls (k : Nat) (a0_0 : Int) (a0_1 : Int) (A0_2 : Option Addr) (c0_2 : Nat) (l0_2 : List (S192)) (r : List ByteArray) (w : World) (hr0_2 : Kd.C k192 w A0_2 l0_2.length l0_2) (hc0_2 : l0_2.length ≤ c0_2) (h : spec_l09Names.f k a0_0 a0_1 l0_2 = some r) :
    Calls Try.prog 103 #[.agg #[.int .i64 a0_0, .int .i64 a0_1, .slice A0_2 l0_2.length c0_2]] w fun e w' => ∃ v0_ : Value, e = .returned (v0_) ∧ Kd.R Kd.string 9 w' w.heap.size (fun _ => True) v0_ r ∧ Below w.heap.size w w' := by
  have hu64 := Try.underlying64
  have HR0_2 := AM hr0_2
  have HC0_2 := AM hc0_2
  clear hr0_2 hc0_2
  have HB := AM (Below.refl w.heap.size w)
  have H : (spec_l09Names.l0 k (([] : List ByteArray)) 0 a0_0 a0_1 l0_2) = some r := h
  clear h
  obtain ⟨y166, hy166⟩ : ∃ y_ : List ByteArray, y_ = (([] : List ByteArray)) := ⟨_, rfl⟩
  replace H : (spec_l09Names.l0 k y166 0 a0_0 a0_1 l0_2) = some r := by first | (rw [hy166]; with_reducible exact H) | (have H2_ := (Option.bind_some _ _).symm.trans H; rw [hy166]; with_reducible exact H2_) | (have H2_ := (Option.bind_some _ _).symm.trans H; with_reducible exact H2_) | with_reducible exact H | (rw [hy166]; exact H) | exact H
  have Ny166 := AM hy166
  clear hy166
  have H' := AM H
  clear H
  go_enter Try.func103, Try.ntmps103
  go_wp2_with (first | ((with_reducible refine gate_dst (N := 1) rfl ?_); refine be_ 1 #[.int .i64 a0_0, .int .i64 a0_1, .slice A0_2 l0_2.length c0_2] 64 ?_; intro gb165 hg w2 hbox hb; have BK165 := AM hbox; have GW165 := AM ((by rw [hg]; exact (below_size bel_) : w.heap.size ≤ gb165)); have GE165 := AM ((by rw [hg]; exact (below_size bel_) : w.heap.size ≤ gb165)); replace HB := AM (below_step bel_ hb); clear hb hbox hg) | ((with_reducible refine gate_dst (N := 7) rfl ?_); refine Kd.R_lit Kd.string _ 9 ?hgL1 (N := 7) ?hdL1 (xs := ([] : List ByteArray)) (inner := []) (ok := fun _ => True) (okp := fun _ => True) ?hrL1 ?hpL1 (fun _ hk => hk) trivial (Below.refl _ _) (Nat.le_refl _) (by simp) ?_; (case hdL1 => rfl); (case hgL1 => rfl); (case hrL1 => first | (go_simp; done) | (go_simp; rfl)); (case hpL1 => exact (Reps.none _ _)); intro v167 w3 ho4 hb hg_ hnew_; clear hg_ hnew_; (first | rw [← Ny166.out] at ho4 | (simp only [Int.reduceToNat] at ho4; rw [← Ny166.out] at ho4)); have HO168 := AM (Kd.R_lower ho4 (below_size bel_)); replace BK165 := AM (blk_below (g := gb165) (o := .cells #[.int .i64 a0_0, .int .i64 a0_1, .slice A0_2 l0_2.length c0_2] 64 (0, 0)) (bk_ BK165.out) hb); replace HB := AM (below_step bel_ hb); clear hb ho4))
  go_loopg [3, 4] k (fun kq v3 v4 w' => ∃ (x3_1 : List ByteArray) (x4_1 : Int), v4 = .int .i64 x4_1 ∧ Aside0 (spec_l09Names.l0 kq x3_1 x4_1 a0_0 a0_1 l0_2 = some r) ∧ Aside0 (kq ≤ k) ∧ Aside0 (Kd.R Kd.string 9 w' w.heap.size (fun _ => True) v3 x3_1) ∧ Aside0 (w'.heap[gb165]? = some (.cells #[.int .i64 a0_0, .int .i64 a0_1, (.slice A0_2 l0_2.length c0_2)] 64 (0, 0))) ∧ Aside0 (Below w.heap.size w w'))
  case atStart => exact ⟨(y166), (0), (by first | rfl | (simp; done) | (simp [*]; done)), H', ⟨Nat.le_refl _⟩, ⟨ro_ HO168.out⟩, ⟨bk_ BK165.out⟩, ⟨bel_⟩⟩
  case round =>
    clear H'
    try clear c1
    try clear p2
    obtain ⟨x3_1, x4_1, rfl, HA, HK1, HO_3, BK165, HB⟩ := hrel
    cases gk with
    | zero => exact absurd HA.out (by simp [spec_l09Names.l0])
    | succ k1 =>
      have H := HA.out
      clear HA
      simp only [spec_l09Names.l0] at H
      by_cases c5 : x4_1 < (l0_2.length : Int)
      · rw [if_pos c5] at H
        have c5b0 : decide (x4_1 < (l0_2.length : Int)) = true := decide_eq_true c5
        clear c5
        have H' := AM H
        clear H
        have hcz6_0 : wr.cell? ⟨gb165, 0, none⟩ = some (.int .i64 a0_0) := (blk_cell BK165.out 0).trans rfl
        have hcz6_1 : wr.cell? ⟨gb165, 1, none⟩ = some (.int .i64 a0_1) := (blk_cell BK165.out 1).trans rfl
        have hcz6_2 : wr.cell? ⟨gb165, 2, none⟩ = some (.slice A0_2 l0_2.length c0_2) := (blk_cell BK165.out 2).trans rfl
        have hfz6_0 := blk_frozen BK165.out 0
        have hfz6_1 := blk_frozen BK165.out 1
        have hfz6_2 := blk_frozen BK165.out 2
        go_wp2
        go_loopg [3, 5] k1 (fun kq v3 v5 w' => ∃ (x3_2 : List ByteArray) (x5_2 : Int), v5 = .int .i64 x5_2 ∧ Aside0 (spec_l09Names.l1 kq x3_2 x4_1 x5_2 a0_0 a0_1 l0_2 = some r) ∧ Aside0 (kq ≤ k1) ∧ Aside0 (Kd.R Kd.string 9 w' w.heap.size (fun _ => True) v3 x3_2) ∧ Aside0 (w'.heap[gb165]? = some (.cells #[.int .i64 a0_0, .int .i64 a0_1, (.slice A0_2 l0_2.length c0_2)] 64 (0, 0))) ∧ Aside0 (Below w.heap.size w w'))
        case atStart => exact ⟨(x3_1), (0), (by first | rfl | (simp; done) | (simp [*]; done)), H', ⟨Nat.le_refl _⟩, ⟨ro_ HO_3.out⟩, ⟨bk_ BK165.out⟩, ⟨bel_⟩⟩
        case round =>
          clear H'
          try clear c1
          try clear p2
          try clear c5
          try clear c5b0
          try clear hcz6_0
          try clear hcz6_1
          try clear hcz6_2
          try clear hfz6_0
          try clear hfz6_1
          try clear hfz6_2
          try clear p2
          obtain ⟨x3_2, x5_2, rfl, HA, HK2, HO_3, BK165, HB⟩ := hrel
          cases gk with
          | zero => exact absurd HA.out (by simp [spec_l09Names.l1])
          | succ k2 =>
            have H := HA.out
            clear HA
            simp only [spec_l09Names.l1] at H
            by_cases c7 : 0 ≤ x4_1
            · rw [if_pos c7] at H
              have c7b0 : decide (0 ≤ x4_1) = true := decide_eq_true c7
              clear c7
              by_cases c8 : x4_1 < (l0_2.length : Int)
              · rw [if_pos c8] at H
                have c8b0 : decide (x4_1 < (l0_2.length : Int)) = true := decide_eq_true c8
                clear c8
                by_cases c9 : x5_2 < (((rd_T192 l0_2 x4_1).f0).length : Int)
                · rw [if_pos c9] at H
                  have c9b0 : decide (x5_2 < (((rd_T192 l0_2 x4_1).f0).length : Int)) = true := decide_eq_true c9
                  clear c9
                  by_cases c10 : 0 ≤ x5_2
                  · rw [if_pos c10] at H
                    have c10b0 : decide (0 ≤ x5_2) = true := decide_eq_true c10
                    clear c10
                    obtain ⟨t172, A11, H⟩ := OB H
                    try dsimp only at H
                    replace A11 := AM A11
                    by_cases c12 : t172 = true
                    · subst c12
                      rw [if_pos rfl] at H
                      obtain ⟨t173, A13, H⟩ := OB H
                      try dsimp only at H
                      replace A13 := AM A13
                      have H' := AM H
                      clear H
                      have hcz14_0 : wr.cell? ⟨gb165, 0, none⟩ = some (.int .i64 a0_0) := (blk_cell BK165.out 0).trans rfl
                      have hcz14_1 : wr.cell? ⟨gb165, 1, none⟩ = some (.int .i64 a0_1) := (blk_cell BK165.out 1).trans rfl
                      have hcz14_2 : wr.cell? ⟨gb165, 2, none⟩ = some (.slice A0_2 l0_2.length c0_2) := (blk_cell BK165.out 2).trans rfl
                      have hfz14_0 := blk_frozen BK165.out 0
                      have hfz14_1 := blk_frozen BK165.out 1
                      have hfz14_2 := blk_frozen BK165.out 2
                      have p169 : 0 ≤ (x4_1 : Int) := of_decide_eq_true (by first | (with_reducible assumption) | assumption)
                      have q169 : x4_1 < (l0_2.length : Int) := of_decide_eq_true (by first | (with_reducible assumption) | assumption)
                      obtain ⟨ad169, A169_0, c169_0, e169, hx169_0, hx169_1, hl169_0, hi169_0⟩ := at_T192 HR0_2.out x4_1 p169 q169
                      cases e169
                      replace hx169_0 := (HB.out.cell (World.block_lt_of_cell? w _ hx169_0)).trans hx169_0
                      replace hx169_1 := (HB.out.cell (World.block_lt_of_cell? w _ hx169_1)).trans hx169_1
                      have HR169_0 := AM hi169_0
                      have HC169_0 := AM hl169_0
                      clear hi169_0 hl169_0
                      replace p169 := eq_true p169
                      replace q169 := eq_true q169
                      have p170 : 0 ≤ (x4_1 : Int) := of_decide_eq_true (by first | (with_reducible assumption) | assumption)
                      have q170 : x4_1 < (l0_2.length : Int) := of_decide_eq_true (by first | (with_reducible assumption) | assumption)
                      obtain ⟨ad170, A170_0, c170_0, e170, hx170_0, hx170_1, hl170_0, hi170_0⟩ := at_T192 HR0_2.out x4_1 p170 q170
                      obtain rfl : ad169 = ad170 := (by injection e170)
                      replace hx170_0 := (HB.out.cell (World.block_lt_of_cell? w _ hx170_0)).trans hx170_0
                      replace hx170_1 := (HB.out.cell (World.block_lt_of_cell? w _ hx170_1)).trans hx170_1
                      have HR170_0 := AM hi170_0
                      have HC170_0 := AM hl170_0
                      clear hi170_0 hl170_0
                      replace p170 := eq_true p170
                      replace q170 := eq_true q170
                      have ea_ := Option.some.inj (hx169_0.symm.trans hx170_0)
                      injection ea_ with ea_ en_ ec_
                      subst ea_
                      subst ec_
                      clear en_
                      have p171 : 0 ≤ (x5_2 : Int) := of_decide_eq_true (by first | (with_reducible assumption) | assumption)
                      have q171 : x5_2 < (((rd_T192 l0_2 x4_1).f0).length : Int) := of_decide_eq_true (by first | (with_reducible assumption) | assumption)
                      obtain ⟨ad171, e171, hx171_0, hx171_1, hx171_2⟩ := at_T194 HR170_0.out x5_2 p171 q171
                      cases e171
                      replace hx171_0 := (HB.out.cell (World.block_lt_of_cell? w _ hx171_0)).trans hx171_0
                      replace hx171_1 := (HB.out.cell (World.block_lt_of_cell? w _ hx171_1)).trans hx171_1
                      replace hx171_2 := (HB.out.cell (World.block_lt_of_cell? w _ hx171_2)).trans hx171_2
                      replace p171 := eq_true p171
                      replace q171 := eq_true q171
                      go_wp2_with (first | ((with_reducible refine gate_callee (f := 85) rfl ?_); refine gl_ (some 37) Try.func85 #[.string ((rd_T194 ((rd_T192 l0_2 x4_1).f0) x5_2).f0)] ?_; (with_reducible refine (spec_ObjectRight.calls k2 ((rd_T194 ((rd_T192 l0_2 x4_1).f0) x5_2).f0) true _ A11.out).mono ?_); rintro e w' ⟨rfl, ⟨nd, rfl⟩⟩; refine ⟨_, rfl, ?_⟩; obtain ⟨Ao15, co15, eo15⟩ := Kd.R_slice HO_3.out; subst eo15) | ((with_reducible refine gate_callee (f := 154) rfl ?_); refine gl_ (some 40) Try.func154 #[.slice Ao15 x3_2.length co15, .string ((rd_T194 ((rd_T192 l0_2 x4_1).f0) x5_2).f0)] ?_; (with_reducible refine (spec_l09Put.calls k2 (fun k_ => some k_ = (.slice Ao15 x3_2.length co15 : Value).ownBlock) (.slice Ao15 x3_2.length co15) x3_2 ((rd_T194 ((rd_T192 l0_2 x4_1).f0) x5_2).f0) t173 w _ ?side1 ?side2 A13.out).mono ?_); (case side1 => repeat (first | (with_reducible first | exact HB.out | apply below_alloc | apply pw_below_drewN | apply below_drew1 | refine below_set ?_ GE165.out) | exact HB.out)); (case side2 => exact Kd.R_tight rfl HO_3.out); rintro e w16 ⟨v174, rfl, ho0, hb, hkp⟩; refine ⟨_, rfl, ?_⟩; have n0_ := AM (blk_kept (bk_ BK165.out) hkp (fun hs_ => (fun e_ => (Kd.R_ne HO_3.out BK165.out (by decide)) e_) hs_)); have n1_ := AM (Kd.R_mono (ok' := fun k_ => True) ho0 (fun k_ hk_ => trivial)); have n2_ := AM hb; clear BK165; clear HB; clear HO_3; have BK165 := n0_; have HO175 := n1_; have HB := n2_; clear n0_ n1_ n2_; (try clear hb); (try clear hkp); (try clear ho0)))
                      go_roundg k2
                      case measure => have := HK1.out; have := HK2.out; omega
                      case rel => exact ⟨(t173), (wrap64 (x5_2 + 1)), (by first | rfl | (simp; done) | (simp [*]; done)), H', ⟨by have := HK1.out; have := HK2.out; omega⟩, ⟨ro_ HO175.out⟩, ⟨bk_ BK165.out⟩, ⟨bel_⟩⟩
                    · replace c12 := Bool.eq_false_iff.mpr c12
                      subst c12
                      rw [if_neg (show ¬ (false = true) by decide)] at H
                      have H' := AM H
                      clear H
                      have hcz17_0 : wr.cell? ⟨gb165, 0, none⟩ = some (.int .i64 a0_0) := (blk_cell BK165.out 0).trans rfl
                      have hcz17_1 : wr.cell? ⟨gb165, 1, none⟩ = some (.int .i64 a0_1) := (blk_cell BK165.out 1).trans rfl
                      have hcz17_2 : wr.cell? ⟨gb165, 2, none⟩ = some (.slice A0_2 l0_2.length c0_2) := (blk_cell BK165.out 2).trans rfl
                      have hfz17_0 := blk_frozen BK165.out 0
                      have hfz17_1 := blk_frozen BK165.out 1
                      have hfz17_2 := blk_frozen BK165.out 2
                      have p169 : 0 ≤ (x4_1 : Int) := of_decide_eq_true (by first | (with_reducible assumption) | assumption)
                      have q169 : x4_1 < (l0_2.length : Int) := of_decide_eq_true (by first | (with_reducible assumption) | assumption)
                      obtain ⟨ad169, A169_0, c169_0, e169, hx169_0, hx169_1, hl169_0, hi169_0⟩ := at_T192 HR0_2.out x4_1 p169 q169
                      cases e169
                      replace hx169_0 := (HB.out.cell (World.block_lt_of_cell? w _ hx169_0)).trans hx169_0
                      replace hx169_1 := (HB.out.cell (World.block_lt_of_cell? w _ hx169_1)).trans hx169_1
                      have HR169_0 := AM hi169_0
                      have HC169_0 := AM hl169_0
                      clear hi169_0 hl169_0
                      replace p169 := eq_true p169
                      replace q169 := eq_true q169
                      have p170 : 0 ≤ (x4_1 : Int) := of_decide_eq_true (by first | (with_reducible assumption) | assumption)
                      have q170 : x4_1 < (l0_2.length : Int) := of_decide_eq_true (by first | (with_reducible assumption) | assumption)
                      obtain ⟨ad170, A170_0, c170_0, e170, hx170_0, hx170_1, hl170_0, hi170_0⟩ := at_T192 HR0_2.out x4_1 p170 q170
                      obtain rfl : ad169 = ad170 := (by injection e170)
                      replace hx170_0 := (HB.out.cell (World.block_lt_of_cell? w _ hx170_0)).trans hx170_0
                      replace hx170_1 := (HB.out.cell (World.block_lt_of_cell? w _ hx170_1)).trans hx170_1
                      have HR170_0 := AM hi170_0
                      have HC170_0 := AM hl170_0
                      clear hi170_0 hl170_0
                      replace p170 := eq_true p170
                      replace q170 := eq_true q170
                      have ea_ := Option.some.inj (hx169_0.symm.trans hx170_0)
                      injection ea_ with ea_ en_ ec_
                      subst ea_
                      subst ec_
                      clear en_
                      have p171 : 0 ≤ (x5_2 : Int) := of_decide_eq_true (by first | (with_reducible assumption) | assumption)
                      have q171 : x5_2 < (((rd_T192 l0_2 x4_1).f0).length : Int) := of_decide_eq_true (by first | (with_reducible assumption) | assumption)
                      obtain ⟨ad171, e171, hx171_0, hx171_1, hx171_2⟩ := at_T194 HR170_0.out x5_2 p171 q171
                      cases e171
                      replace hx171_0 := (HB.out.cell (World.block_lt_of_cell? w _ hx171_0)).trans hx171_0
                      replace hx171_1 := (HB.out.cell (World.block_lt_of_cell? w _ hx171_1)).trans hx171_1
                      replace hx171_2 := (HB.out.cell (World.block_lt_of_cell? w _ hx171_2)).trans hx171_2
                      replace p171 := eq_true p171
                      replace q171 := eq_true q171
                      go_wp2_with (first | ((with_reducible refine gate_callee (f := 85) rfl ?_); refine gl_ (some 37) Try.func85 #[.string ((rd_T194 ((rd_T192 l0_2 x4_1).f0) x5_2).f0)] ?_; (with_reducible refine (spec_ObjectRight.calls k2 ((rd_T194 ((rd_T192 l0_2 x4_1).f0) x5_2).f0) false _ A11.out).mono ?_); rintro e w' ⟨rfl, ⟨nd, rfl⟩⟩; refine ⟨_, rfl, ?_⟩))
                      go_roundg k2
                      case measure => have := HK1.out; have := HK2.out; omega
                      case rel => exact ⟨(x3_2), (wrap64 (x5_2 + 1)), (by first | rfl | (simp; done) | (simp [*]; done)), H', ⟨by have := HK1.out; have := HK2.out; omega⟩, ⟨ro_ HO_3.out⟩, ⟨bk_ BK165.out⟩, ⟨bel_⟩⟩
                  · rw [if_neg c10] at H
                    exact absurd H (by simp)
                · rw [if_neg c9] at H
                  have c9b0 : decide (x5_2 < (((rd_T192 l0_2 x4_1).f0).length : Int)) = false := decide_eq_false c9
                  clear c9
                  have H' := AM H
                  clear H
                  have hcz18_0 : wr.cell? ⟨gb165, 0, none⟩ = some (.int .i64 a0_0) := (blk_cell BK165.out 0).trans rfl
                  have hcz18_1 : wr.cell? ⟨gb165, 1, none⟩ = some (.int .i64 a0_1) := (blk_cell BK165.out 1).trans rfl
                  have hcz18_2 : wr.cell? ⟨gb165, 2, none⟩ = some (.slice A0_2 l0_2.length c0_2) := (blk_cell BK165.out 2).trans rfl
                  have hfz18_0 := blk_frozen BK165.out 0
                  have hfz18_1 := blk_frozen BK165.out 1
                  have hfz18_2 := blk_frozen BK165.out 2
                  have p169 : 0 ≤ (x4_1 : Int) := of_decide_eq_true (by first | (with_reducible assumption) | assumption)
                  have q169 : x4_1 < (l0_2.length : Int) := of_decide_eq_true (by first | (with_reducible assumption) | assumption)
                  obtain ⟨ad169, A169_0, c169_0, e169, hx169_0, hx169_1, hl169_0, hi169_0⟩ := at_T192 HR0_2.out x4_1 p169 q169
                  cases e169
                  replace hx169_0 := (HB.out.cell (World.block_lt_of_cell? w _ hx169_0)).trans hx169_0
                  replace hx169_1 := (HB.out.cell (World.block_lt_of_cell? w _ hx169_1)).trans hx169_1
                  have HR169_0 := AM hi169_0
                  have HC169_0 := AM hl169_0
                  clear hi169_0 hl169_0
                  replace p169 := eq_true p169
                  replace q169 := eq_true q169
                  go_wp2
                  go_roundg k2
                  case measure => have := HK1.out; have := HK2.out; omega
                  case rel => exact ⟨(x3_2), (wrap64 (x4_1 + 1)), (by first | rfl | (simp; done) | (simp [*]; done)), H', ⟨by have := HK1.out; have := HK2.out; omega⟩, ⟨ro_ HO_3.out⟩, ⟨bk_ BK165.out⟩, ⟨bel_⟩⟩
              · rw [if_neg c8] at H
                exact absurd H (by simp)
            · rw [if_neg c7] at H
              exact absurd H (by simp)
      · rw [if_neg c5] at H
        have c5b0 : decide (x4_1 < (l0_2.length : Int)) = false := decide_eq_false c5
        clear c5
        obtain rfl := Option.some.inj H
        have hcz19_0 : wr.cell? ⟨gb165, 0, none⟩ = some (.int .i64 a0_0) := (blk_cell BK165.out 0).trans rfl
        have hcz19_1 : wr.cell? ⟨gb165, 1, none⟩ = some (.int .i64 a0_1) := (blk_cell BK165.out 1).trans rfl
        have hcz19_2 : wr.cell? ⟨gb165, 2, none⟩ = some (.slice A0_2 l0_2.length c0_2) := (blk_cell BK165.out 2).trans rfl
        have hfz19_0 := blk_frozen BK165.out 0
        have hfz19_1 := blk_frozen BK165.out 1
        have hfz19_2 := blk_frozen BK165.out 2
        go_wp2
        go_ret
        exact ⟨_, ri_, ro_ HO_3.out, bel_⟩

/-! ### spec_ObjectNames: function 35 -/
def spec_ObjectNames.f (k : Nat) (a0_0 : Int) (a0_1 : Int) (l0_2 : List (S192)) : Option (List ByteArray) := (spec_ArrayRight.f k a0_0 a0_1 l0_2).bind fun t177 => (if t177 = true then ((spec_l09Names.f k a0_0 a0_1 l0_2).bind fun t178 => (some t178)) else (some (([] : List ByteArray))))
theorem spec_ObjectNames.mono : ∀ a0 a1 a2 k, LeO (spec_ObjectNames.f k a0 a1 a2) (spec_ObjectNames.f (k + 1) a0 a1 a2) := by
  intro a0 a1 a2 k
  unfold spec_ObjectNames.f
  repeat' first
      | (with_reducible exact spec_ArrayRight.mono _ _ _ _)
      | (with_reducible exact spec_l09Names.mono _ _ _ _)
      | (with_reducible exact LeO.refl _)
      | (with_reducible exact LeO.none _)
      | (with_reducible refine LeO.ite ?_ ?_)
      | (with_reducible refine LeO.bind ?_ (fun _ => ?_))
      | exact spec_ArrayRight.mono _ _ _ _
      | exact spec_l09Names.mono _ _ _ _
      | exact LeO.none _
      | refine LeO.ite ?_ ?_
      | refine LeO.bind ?_ (fun _ => ?_)
set_option maxHeartbeats 8000000 in
set_option maxRecDepth 100000 in
theorem spec_ObjectNames.calls (k : Nat) (a0_0 : Int) (a0_1 : Int) (A0_2 : Option Addr) (c0_2 : Nat) (l0_2 : List (S192)) (r : List ByteArray) (w : World) (hr0_2 : Kd.C k192 w A0_2 l0_2.length l0_2) (hc0_2 : l0_2.length ≤ c0_2) (h : spec_ObjectNames.f k a0_0 a0_1 l0_2 = some r) :
    Calls Try.prog 35 #[.agg #[.int .i64 a0_0, .int .i64 a0_1, .slice A0_2 l0_2.length c0_2]] w fun e w' => ∃ v0_ : Value, e = .returned (v0_) ∧ Kd.R Kd.string 9 w' w.heap.size (fun _ => True) v0_ r ∧ Below w.heap.size w w' := by
  have hu64 := Try.underlying64
  have HR0_2 := AM hr0_2
  have HC0_2 := AM hc0_2
  clear hr0_2 hc0_2
  have HB := AM (Below.refl w.heap.size w)
  have H : ((spec_ArrayRight.f k a0_0 a0_1 l0_2).bind fun t177 => (if t177 = true then ((spec_l09Names.f k a0_0 a0_1 l0_2).bind fun t178 => (some t178)) else (some (([] : List ByteArray))))) = some r := h
  clear h
  obtain ⟨t177, A2, H⟩ := OB H
  try dsimp only at H
  replace A2 := AM A2
  by_cases c3 : t177 = true
  · subst c3
    rw [if_pos rfl] at H
    obtain ⟨t178, A4, H⟩ := OB H
    try dsimp only at H
    replace A4 := AM A4
    obtain rfl := Option.some.inj H
    go_enter Try.func35, Try.ntmps35
    go_wp2_with (first | ((with_reducible refine gate_dst (N := 1) rfl ?_); refine be_ 1 #[.int .i64 a0_0, .int .i64 a0_1, .slice A0_2 l0_2.length c0_2] 64 ?_; intro gb176 hg w5 hbox hb; have BK176 := AM hbox; have GW176 := AM ((by rw [hg]; exact (below_size bel_) : w.heap.size ≤ gb176)); have GE176 := AM ((by rw [hg]; exact (below_size bel_) : w.heap.size ≤ gb176)); replace HB := AM (below_step bel_ hb); clear hb hbox hg; have hcz6_0 : w5.cell? ⟨gb176, 0, none⟩ = some (.int .i64 a0_0) := (blk_cell BK176.out 0).trans rfl; have hcz6_1 : w5.cell? ⟨gb176, 1, none⟩ = some (.int .i64 a0_1) := (blk_cell BK176.out 1).trans rfl; have hcz6_2 : w5.cell? ⟨gb176, 2, none⟩ = some (.slice A0_2 l0_2.length c0_2) := (blk_cell BK176.out 2).trans rfl; have hfz6_0 := blk_frozen BK176.out 0; have hfz6_1 := blk_frozen BK176.out 1; have hfz6_2 := blk_frozen BK176.out 2) | ((with_reducible refine gate_callee (f := 102) rfl ?_); refine gl_ (some 4) Try.func102 #[.agg #[.int .i64 a0_0, .int .i64 a0_1, .slice A0_2 l0_2.length c0_2]] ?_; (with_reducible refine (spec_ArrayRight.calls k a0_0 a0_1 _ _ l0_2 true _ ?side1 ?side2 A2.out).mono ?_); (case side1 => repeat (first | exact (Kd.C_below HR0_2.out HB.out) | (with_reducible refine Kd.C_alloc ?_ _) | (with_reducible refine Kd.C_drewN ?_ _) | (with_reducible refine Kd.C_drew ?_))); (case side2 => exact HC0_2.out); rintro e w7 ⟨rfl, hb⟩; refine ⟨_, rfl, ?_⟩; replace BK176 := AM (blk_below (g := gb176) (o := .cells #[.int .i64 a0_0, .int .i64 a0_1, .slice A0_2 l0_2.length c0_2] 64 (0, 0)) (bk_ BK176.out) hb); replace HB := AM (below_step bel_ hb); (try clear hb); (try clear hb2); (try clear hk); (try clear hi); have hcz8_0 : w7.cell? ⟨gb176, 0, none⟩ = some (.int .i64 a0_0) := (blk_cell BK176.out 0).trans rfl; have hcz8_1 : w7.cell? ⟨gb176, 1, none⟩ = some (.int .i64 a0_1) := (blk_cell BK176.out 1).trans rfl; have hcz8_2 : w7.cell? ⟨gb176, 2, none⟩ = some (.slice A0_2 l0_2.length c0_2) := (blk_cell BK176.out 2).trans rfl; have hfz8_0 := blk_frozen BK176.out 0; have hfz8_1 := blk_frozen BK176.out 1; have hfz8_2 := blk_frozen BK176.out 2) | ((with_reducible refine gate_callee (f := 103) rfl ?_); refine gl_ (some 8) Try.func103 #[.agg #[.int .i64 a0_0, .int .i64 a0_1, .slice A0_2 l0_2.length c0_2]] ?_; (with_reducible refine (spec_l09Names.calls k a0_0 a0_1 _ _ l0_2 t178 _ ?side1 ?side2 A4.out).mono ?_); (case side1 => repeat (first | exact (Kd.C_below HR0_2.out HB.out) | (with_reducible refine Kd.C_alloc ?_ _) | (with_reducible refine Kd.C_drewN ?_ _) | (with_reducible refine Kd.C_drew ?_))); (case side2 => exact HC0_2.out); rintro e w9 ⟨v179, rfl, ho0, hb⟩; refine ⟨_, rfl, ?_⟩; have HO180 := AM (Kd.R_lower ho0 (below_size bel_)); replace BK176 := AM (blk_below (g := gb176) (o := .cells #[.int .i64 a0_0, .int .i64 a0_1, .slice A0_2 l0_2.length c0_2] 64 (0, 0)) (bk_ BK176.out) hb); replace HB := AM (below_step bel_ hb); (try clear hb); (try clear hb2); (try clear hk); (try clear hi); (try clear ho0)))
    go_ret
    exact ⟨_, ri_, ro_ HO180.out, bel_⟩
  · replace c3 := Bool.eq_false_iff.mpr c3
    subst c3
    rw [if_neg (show ¬ (false = true) by decide)] at H
    obtain ⟨y181, hy181⟩ : ∃ y_ : List ByteArray, y_ = (([] : List ByteArray)) := ⟨_, rfl⟩
    replace H : (some y181) = some r := by first | (rw [hy181]; with_reducible exact H) | (have H2_ := (Option.bind_some _ _).symm.trans H; rw [hy181]; with_reducible exact H2_) | (have H2_ := (Option.bind_some _ _).symm.trans H; with_reducible exact H2_) | with_reducible exact H | (rw [hy181]; exact H) | exact H
    have Ny181 := AM hy181
    clear hy181
    obtain rfl := Option.some.inj H
    go_enter Try.func35, Try.ntmps35
    go_wp2_with (first | ((with_reducible refine gate_dst (N := 1) rfl ?_); refine be_ 1 #[.int .i64 a0_0, .int .i64 a0_1, .slice A0_2 l0_2.length c0_2] 64 ?_; intro gb176 hg w10 hbox hb; have BK176 := AM hbox; have GW176 := AM ((by rw [hg]; exact (below_size bel_) : w.heap.size ≤ gb176)); have GE176 := AM ((by rw [hg]; exact (below_size bel_) : w.heap.size ≤ gb176)); replace HB := AM (below_step bel_ hb); clear hb hbox hg; have hcz11_0 : w10.cell? ⟨gb176, 0, none⟩ = some (.int .i64 a0_0) := (blk_cell BK176.out 0).trans rfl; have hcz11_1 : w10.cell? ⟨gb176, 1, none⟩ = some (.int .i64 a0_1) := (blk_cell BK176.out 1).trans rfl; have hcz11_2 : w10.cell? ⟨gb176, 2, none⟩ = some (.slice A0_2 l0_2.length c0_2) := (blk_cell BK176.out 2).trans rfl; have hfz11_0 := blk_frozen BK176.out 0; have hfz11_1 := blk_frozen BK176.out 1; have hfz11_2 := blk_frozen BK176.out 2) | ((with_reducible refine gate_callee (f := 102) rfl ?_); refine gl_ (some 4) Try.func102 #[.agg #[.int .i64 a0_0, .int .i64 a0_1, .slice A0_2 l0_2.length c0_2]] ?_; (with_reducible refine (spec_ArrayRight.calls k a0_0 a0_1 _ _ l0_2 false _ ?side1 ?side2 A2.out).mono ?_); (case side1 => repeat (first | exact (Kd.C_below HR0_2.out HB.out) | (with_reducible refine Kd.C_alloc ?_ _) | (with_reducible refine Kd.C_drewN ?_ _) | (with_reducible refine Kd.C_drew ?_))); (case side2 => exact HC0_2.out); rintro e w12 ⟨rfl, hb⟩; refine ⟨_, rfl, ?_⟩; replace BK176 := AM (blk_below (g := gb176) (o := .cells #[.int .i64 a0_0, .int .i64 a0_1, .slice A0_2 l0_2.length c0_2] 64 (0, 0)) (bk_ BK176.out) hb); replace HB := AM (below_step bel_ hb); (try clear hb); (try clear hb2); (try clear hk); (try clear hi)) | ((with_reducible refine gate_dst (N := 6) rfl ?_); refine Kd.R_lit Kd.string _ 9 ?hgL2 (N := 6) ?hdL2 (xs := ([] : List ByteArray)) (inner := []) (ok := fun _ => True) (okp := fun _ => True) ?hrL2 ?hpL2 (fun _ hk => hk) trivial (Below.refl _ _) (Nat.le_refl _) (by simp) ?_; (case hdL2 => rfl); (case hgL2 => rfl); (case hrL2 => first | (go_simp; done) | (go_simp; rfl)); (case hpL2 => exact (Reps.none _ _)); intro v182 w13 ho14 hb hg_ hnew_; clear hg_ hnew_; (first | rw [← Ny181.out] at ho14 | (simp only [Int.reduceToNat] at ho14; rw [← Ny181.out] at ho14)); have HO183 := AM (Kd.R_lower ho14 (below_size bel_)); replace BK176 := AM (blk_below (g := gb176) (o := .cells #[.int .i64 a0_0, .int .i64 a0_1, .slice A0_2 l0_2.length c0_2] 64 (0, 0)) (bk_ BK176.out) hb); replace HB := AM (below_step bel_ hb); clear hb ho14))
    go_ret
    exact ⟨_, ri_, ro_ HO183.out, bel_⟩

/-! ### laws_toStored: function 211 -/
def laws_toStored.f (a0_0 : ByteArray) (a0_1 : ByteArray) (a0_2 : Int) : Option (ByteArray × ByteArray × Int) := some (a0_0, a0_1, a0_2)
set_option maxHeartbeats 8000000 in
set_option maxRecDepth 100000 in
theorem laws_toStored.calls (a0_0 : ByteArray) (a0_1 : ByteArray) (a0_2 : Int) (r1 : ByteArray) (r2 : ByteArray) (r3 : Int) (w : World) (h : laws_toStored.f a0_0 a0_1 a0_2 = some (r1, r2, r3)) :
    Calls Try.prog 211 #[.agg #[.string a0_0, .string a0_1, .int .i64 a0_2]] w fun e w' => e = .returned (.agg #[.string r1, .string r2, .int .i64 r3]) ∧ Below w.heap.size w w' := by
  have hu247 := Try.underlying247
  have hu194 := Try.underlying194
  have HB := AM (Below.refl w.heap.size w)
  have H : (some (a0_0, a0_1, a0_2)) = some (r1, r2, r3) := h
  clear h
  simp only [Option.some.injEq, Prod.mk.injEq] at H
  obtain ⟨rfl, rfl, rfl⟩ := H
  go_enter Try.func211, Try.ntmps211
  go_wp2_with (first | ((with_reducible refine gate_dst (N := 1) rfl ?_); refine be_ 1 #[.string a0_0, .string a0_1, .int .i64 a0_2] 247 ?_; intro gb184 hg w2 hbox hb; have BK184 := AM hbox; have GW184 := AM ((by rw [hg]; exact (below_size bel_) : w.heap.size ≤ gb184)); have GE184 := AM ((by rw [hg]; exact (below_size bel_) : w.heap.size ≤ gb184)); replace HB := AM (below_step bel_ hb); clear hb hbox hg) | ((with_reducible refine gate_dst (N := 2) rfl ?_); refine be_ 2 #[.string (⟨#[]⟩ : ByteArray), .string (⟨#[]⟩ : ByteArray), .int .i64 0] 194 ?_; intro gb185 hg w3 hbox hb; have BK185 := AM hbox; have GW185 := AM ((by rw [hg]; exact (below_size bel_) : w.heap.size ≤ gb185)); have GE185 := AM ((by rw [hg]; exact (below_size bel_) : w.heap.size ≤ gb185)); replace HB := AM (below_step bel_ hb); have NB184_185 := AM ((by rw [hg]; exact Nat.ne_of_lt (blk_lt (g := gb184) (o := .cells #[.string a0_0, .string a0_1, .int .i64 a0_2] 247 (0, 0)) (bk_ BK184.out)) : gb184 ≠ gb185)); have NB185_184 := AM ((by rw [hg]; exact Nat.ne_of_gt (blk_lt (g := gb184) (o := .cells #[.string a0_0, .string a0_1, .int .i64 a0_2] 247 (0, 0)) (bk_ BK184.out)) : gb185 ≠ gb184)); replace BK184 := AM (blk_below (g := gb184) (o := .cells #[.string a0_0, .string a0_1, .int .i64 a0_2] 247 (0, 0)) (bk_ BK184.out) hb); clear hb hbox hg) | ((with_reducible refine gate_dst (N := 3) rfl ?_); refine be_ 3 #[.string (⟨#[]⟩ : ByteArray), .string (⟨#[]⟩ : ByteArray), .int .i64 0] 194 ?_; intro gb186 hg w4 hbox hb; have BK186 := AM hbox; have GW186 := AM ((by rw [hg]; exact (below_size bel_) : w.heap.size ≤ gb186)); have GE186 := AM ((by rw [hg]; exact (below_size bel_) : w.heap.size ≤ gb186)); replace HB := AM (below_step bel_ hb); have NB184_186 := AM ((by rw [hg]; exact Nat.ne_of_lt (blk_lt (g := gb184) (o := .cells #[.string a0_0, .string a0_1, .int .i64 a0_2] 247 (0, 0)) (bk_ BK184.out)) : gb184 ≠ gb186)); have NB186_184 := AM ((by rw [hg]; exact Nat.ne_of_gt (blk_lt (g := gb184) (o := .cells #[.string a0_0, .string a0_1, .int .i64 a0_2] 247 (0, 0)) (bk_ BK184.out)) : gb186 ≠ gb184)); replace BK184 := AM (blk_below (g := gb184) (o := .cells #[.string a0_0, .string a0_1, .int .i64 a0_2] 247 (0, 0)) (bk_ BK184.out) hb); have NB185_186 := AM ((by rw [hg]; exact Nat.ne_of_lt (blk_lt (g := gb185) (o := .cells #[.string (⟨#[]⟩ : ByteArray), .string (⟨#[]⟩ : ByteArray), .int .i64 0] 194 (0, 0)) (bk_ BK185.out)) : gb185 ≠ gb186)); have NB186_185 := AM ((by rw [hg]; exact Nat.ne_of_gt (blk_lt (g := gb185) (o := .cells #[.string (⟨#[]⟩ : ByteArray), .string (⟨#[]⟩ : ByteArray), .int .i64 0] 194 (0, 0)) (bk_ BK185.out)) : gb186 ≠ gb185)); replace BK185 := AM (blk_below (g := gb185) (o := .cells #[.string (⟨#[]⟩ : ByteArray), .string (⟨#[]⟩ : ByteArray), .int .i64 0] 194 (0, 0)) (bk_ BK185.out) hb); clear hb hbox hg; have hnb5 := NB184_185.out; have hnc5 := NB185_184.out; have hnb6 := NB184_186.out; have hnc6 := NB186_184.out; have hcz7_0 : w4.cell? ⟨gb184, 0, none⟩ = some (.string a0_0) := (blk_cell BK184.out 0).trans rfl; have hcz7_1 : w4.cell? ⟨gb184, 1, none⟩ = some (.string a0_1) := (blk_cell BK184.out 1).trans rfl; have hcz7_2 : w4.cell? ⟨gb184, 2, none⟩ = some (.int .i64 a0_2) := (blk_cell BK184.out 2).trans rfl; have hfz7_0 := blk_frozen BK184.out 0; have hfz7_1 := blk_frozen BK184.out 1; have hfz7_2 := blk_frozen BK184.out 2; have hnb8 := NB186_185.out; have hnc8 := NB185_186.out; have hcz9_0 : w4.cell? ⟨gb186, 0, none⟩ = some (.string (⟨#[]⟩ : ByteArray)) := (blk_cell BK186.out 0).trans rfl; have hcz9_1 : w4.cell? ⟨gb186, 1, none⟩ = some (.string (⟨#[]⟩ : ByteArray)) := (blk_cell BK186.out 1).trans rfl; have hcz9_2 : w4.cell? ⟨gb186, 2, none⟩ = some (.int .i64 0) := (blk_cell BK186.out 2).trans rfl; have hfz9_0 := blk_frozen BK186.out 0; have hfz9_1 := blk_frozen BK186.out 1; have hfz9_2 := blk_frozen BK186.out 2; have hcz10_0 : w4.cell? ⟨gb185, 0, none⟩ = some (.string (⟨#[]⟩ : ByteArray)) := (blk_cell BK185.out 0).trans rfl; have hcz10_1 : w4.cell? ⟨gb185, 1, none⟩ = some (.string (⟨#[]⟩ : ByteArray)) := (blk_cell BK185.out 1).trans rfl; have hcz10_2 : w4.cell? ⟨gb185, 2, none⟩ = some (.int .i64 0) := (blk_cell BK185.out 2).trans rfl; have hfz10_0 := blk_frozen BK185.out 0; have hfz10_1 := blk_frozen BK185.out 1; have hfz10_2 := blk_frozen BK185.out 2))
  refine bodyPost_ret (results_cell_row rfl _ _ gb185 194 #[.string a0_0, .string a0_1, .int .i64 a0_2] (0, 0) _ rfl bka_ Try.underlying194 rfl (by kernel_rfl)) rfl ?_
  exact ⟨ri_, bel_⟩

/-! ### laws_toStoredS: function 187 -/
def laws_toStoredS.l0 : Nat → List (S247) → List (S194) → Int → Option ((List (S194)))
  | 0, _, _, _ => none
  | k + 1, x0, x3, x4 => if x4 < (x0.length : Int) then (if 0 ≤ x4 then ((laws_toStored.f ((rd_T247 x0 x4).f0) ((rd_T247 x0 x4).f1) ((rd_T247 x0 x4).f2)).bind fun bt191 => (if x4 < (x3.length : Int) then (laws_toStoredS.l0 k x0 (x3.set (x4 : Int).toNat (⟨bt191.1, bt191.2.1, bt191.2.2⟩ : S194)) (wrap64 (x4 + 1))) else (none))) else (none)) else (some x3)
def laws_toStoredS.f (k : Nat) (l0 : List (S247)) : Option ((List (S194))) := if 0 ≤ (l0.length : Int) then (if ((l0.length : Int) : Int).toNat ≤ 7036874417766 then (laws_toStoredS.l0 k l0 (List.replicate ((l0.length : Int) : Int).toNat z194) 0) else (none)) else (none)
theorem laws_toStoredS.mono_l : ∀ k, (∀ y0 y1 y2, LeO (laws_toStoredS.l0 k y0 y1 y2) (laws_toStoredS.l0 (k + 1) y0 y1 y2))
  | 0 => fun _ _ _ r h => by simp [laws_toStoredS.l0] at h
  | k + 1 => by
    have ih0 := laws_toStoredS.mono_l k
    · intro y0 y1 y2
      unfold laws_toStoredS.l0
      repeat' first
      | (with_reducible exact ih0 _ _ _)
      | (with_reducible exact LeO.refl _)
      | (with_reducible exact LeO.none _)
      | (with_reducible refine LeO.ite ?_ ?_)
      | (with_reducible refine LeO.bind ?_ (fun _ => ?_))
      | exact ih0 _ _ _
      | exact LeO.none _
      | refine LeO.ite ?_ ?_
      | refine LeO.bind ?_ (fun _ => ?_)
theorem laws_toStoredS.mono : ∀ a0 k, LeO (laws_toStoredS.f k a0) (laws_toStoredS.f (k + 1) a0) := by
  intro a0 k
  have ih0 := laws_toStoredS.mono_l k
  unfold laws_toStoredS.f
  repeat' first
      | (with_reducible exact ih0 _ _ _)
      | (with_reducible exact LeO.refl _)
      | (with_reducible exact LeO.none _)
      | (with_reducible refine LeO.ite ?_ ?_)
      | (with_reducible refine LeO.bind ?_ (fun _ => ?_))
      | exact ih0 _ _ _
      | exact LeO.none _
      | refine LeO.ite ?_ ?_
      | refine LeO.bind ?_ (fun _ => ?_)
set_option maxHeartbeats 8000000 in
set_option maxRecDepth 100000 in
theorem laws_toStoredS.calls (k : Nat) (A0 : Option Addr) (c0 : Nat) (l0 : List (S247)) (r : List (S194)) (w : World) (hr0 : Kd.C k247 w A0 l0.length l0) (hc0 : l0.length ≤ c0) (h : laws_toStoredS.f k l0 = some r) :
    Calls Try.prog 187 #[.slice A0 l0.length c0] w fun e w' => ∃ v0_ : Value, e = .returned (v0_) ∧ Kd.R k194 194 w' w.heap.size (fun _ => True) v0_ r ∧ Below w.heap.size w w' := by
  have hu247 := Try.underlying247
  have hu194 := Try.underlying194
  have HR0 := AM hr0
  have HC0 := AM hc0
  clear hr0 hc0
  have HB := AM (Below.refl w.heap.size w)
  have H : (if 0 ≤ (l0.length : Int) then (if ((l0.length : Int) : Int).toNat ≤ 7036874417766 then (laws_toStoredS.l0 k l0 (List.replicate ((l0.length : Int) : Int).toNat z194) 0) else (none)) else (none)) = some r := h
  clear h
  by_cases c2 : 0 ≤ (l0.length : Int)
  · rw [if_pos c2] at H
    have c2b0 := eq_true c2
    have c2b1 : decide (0 ≤ (l0.length : Int)) = true := decide_eq_true c2
    clear c2
    by_cases c3 : ((l0.length : Int) : Int).toNat ≤ 7036874417766
    · rw [if_pos c3] at H
      have c3b0 := eq_true c3
      have c3b1 : decide (((l0.length : Int) : Int).toNat ≤ 7036874417766) = true := decide_eq_true c3
      clear c3
      obtain ⟨y187, hy187⟩ : ∃ y_ : List (S194), y_ = (List.replicate ((l0.length : Int) : Int).toNat z194) := ⟨_, rfl⟩
      replace H : (laws_toStoredS.l0 k l0 y187 0) = some r := by first | (rw [hy187]; with_reducible exact H) | (have H2_ := (Option.bind_some _ _).symm.trans H; rw [hy187]; with_reducible exact H2_) | (have H2_ := (Option.bind_some _ _).symm.trans H; with_reducible exact H2_) | with_reducible exact H | (rw [hy187]; exact H) | exact H
      have Ny187 := AM hy187
      clear hy187
      have H' := AM H
      clear H
      go_enter Try.func187, Try.ntmps187
      go_wp2_with (first | ((with_reducible refine gate_dst (N := 7) rfl ?_); refine Kd.R_make k194 _ 194 rfl (N := 7) rfl 190 _ _ rfl (l0.length : Int) rfl rfl Try.underlying190 (.agg #[(.string ⟨#[]⟩), (.string ⟨#[]⟩), (.int .i64 0)]) 40 info194 rfl (by decide) (by omega) z194 (ok := fun _ => True) (okp := fun _ => True) (k194_mkM _ _ _ z194 ) (fun _ hk => hk) trivial (of_decide_eq_true (by first | (with_reducible assumption) | assumption)) (Nat.le_trans (Nat.mul_le_mul_right _ (of_decide_eq_true (by first | (with_reducible assumption) | assumption) : (l0.length : Int).toNat ≤ 7036874417766)) (by omega)) (Below.refl _ _) (Nat.le_refl _) ?_; intro v188 w4 ho5 hb hg_ hnew_; clear hg_ hnew_; (first | rw [← Ny187.out] at ho5 | (simp only [Int.reduceToNat] at ho5; rw [← Ny187.out] at ho5)); have HO189 := AM (Kd.R_lower ho5 (below_size bel_)); replace HB := AM (below_step bel_ hb); clear hb ho5))
      go_loopg [4] k (fun kq v4 w' => ∃ (x3_1 : List (S194)) (x4_1 : Int), v4 = .int .i64 x4_1 ∧ Aside0 (laws_toStoredS.l0 kq l0 x3_1 x4_1 = some r) ∧ Aside0 (kq ≤ k) ∧ Aside0 (Kd.R k194 194 w' w.heap.size (fun _ => True) v188 x3_1) ∧ Aside0 (Below w.heap.size w w'))
      case atStart => exact ⟨(y187), (0), (by first | rfl | (simp; done) | (simp [*]; done)), H', ⟨Nat.le_refl _⟩, ⟨ro_ HO189.out⟩, ⟨bel_⟩⟩
      case round =>
        clear H'
        try clear c1
        try clear c2
        try clear c2b0
        try clear c2b1
        try clear p2
        try clear c3
        try clear c3b0
        try clear c3b1
        obtain ⟨x3_1, x4_1, rfl, HA, HK1, HO_3, HB⟩ := hrel
        cases gk with
        | zero => exact absurd HA.out (by simp [laws_toStoredS.l0])
        | succ k1 =>
          have H := HA.out
          clear HA
          simp only [laws_toStoredS.l0] at H
          by_cases c6 : x4_1 < (l0.length : Int)
          · rw [if_pos c6] at H
            have c6b0 : decide (x4_1 < (l0.length : Int)) = true := decide_eq_true c6
            clear c6
            by_cases c7 : 0 ≤ x4_1
            · rw [if_pos c7] at H
              have c7b0 : decide (0 ≤ x4_1) = true := decide_eq_true c7
              clear c7
              obtain ⟨⟨t191, t192, t193⟩, A8, H⟩ := OB H
              try dsimp only at H
              replace A8 := AM A8
              by_cases c9 : x4_1 < (x3_1.length : Int)
              · rw [if_pos c9] at H
                have c9b0 : decide (x4_1 < (x3_1.length : Int)) = true := decide_eq_true c9
                clear c9
                obtain ⟨y194, hy194⟩ : ∃ y_ : List (S194), y_ = (x3_1.set (x4_1 : Int).toNat (⟨t191, t192, t193⟩ : S194)) := ⟨_, rfl⟩
                replace H : (laws_toStoredS.l0 k1 l0 y194 (wrap64 (x4_1 + 1))) = some r := by first | (rw [hy194]; with_reducible exact H) | (have H2_ := (Option.bind_some _ _).symm.trans H; rw [hy194]; with_reducible exact H2_) | (have H2_ := (Option.bind_some _ _).symm.trans H; with_reducible exact H2_) | with_reducible exact H | (rw [hy194]; exact H) | exact H
                have Ny194 := AM hy194
                clear hy194
                have H' := AM H
                clear H
                have p190 : 0 ≤ (x4_1 : Int) := of_decide_eq_true (by first | (with_reducible assumption) | assumption)
                have q190 : x4_1 < (l0.length : Int) := of_decide_eq_true (by first | (with_reducible assumption) | assumption)
                obtain ⟨ad190, e190, hx190_0, hx190_1, hx190_2⟩ := at_T247 HR0.out x4_1 p190 q190
                cases e190
                replace hx190_0 := (HB.out.cell (World.block_lt_of_cell? w _ hx190_0)).trans hx190_0
                replace hx190_1 := (HB.out.cell (World.block_lt_of_cell? w _ hx190_1)).trans hx190_1
                replace hx190_2 := (HB.out.cell (World.block_lt_of_cell? w _ hx190_2)).trans hx190_2
                replace p190 := eq_true p190
                replace q190 := eq_true q190
                go_wp2_with (first | ((with_reducible refine gate_callee (f := 211) rfl ?_); refine gl_ (some 20) Try.func211 #[.agg #[.string ((rd_T247 l0 x4_1).f0), .string ((rd_T247 l0 x4_1).f1), .int .i64 ((rd_T247 l0 x4_1).f2)]] ?_; (with_reducible refine (laws_toStored.calls ((rd_T247 l0 x4_1).f0) ((rd_T247 l0 x4_1).f1) ((rd_T247 l0 x4_1).f2) t191 t192 t193 _ A8.out).mono ?_); rintro e w11 ⟨rfl, hb⟩; refine ⟨_, rfl, ?_⟩; replace HO_3 := AM (Kd.R_below (ro_ HO_3.out) hb); replace HB := AM (below_step bel_ hb); (try clear hb); (try clear hb2); (try clear hk); (try clear hi); have p10 : 0 ≤ (x4_1 : Int) := of_decide_eq_true (by first | (with_reducible assumption) | assumption); have q10 : (x4_1 : Int) < ((x3_1.length : Int) : Int) := of_decide_eq_true (by first | (with_reducible assumption) | assumption); obtain ⟨go10, co10, eo10, gb10, gl10, cl10, HG10⟩ := Kd.R_form HO_3.out (by omega); (first | cases eo10 | (injection eo10 with ea_ en_ ec_; (first | subst ea_ | (injection ea_ with ea_; subst ea_)); subst ec_; clear en_)); have GB10 := AM gb10; have GG10 := AM HG10; clear gb10 gl10 HG10; obtain ⟨ce10, hcl10, hM10, hcc10, hfr10⟩ := Kd.R_elem HO_3.out z194 (x4_1 : Int) p10 q10; obtain rfl := k194_openM hM10; have hx10_0 : w11.cell? ⟨go10, (x4_1 : Int).toNat * 3, none⟩ = some (.string ((rd_T194 x3_1 x4_1).f0)) := hcc10 0 _ rfl; have hx10_1 : w11.cell? ⟨go10, (x4_1 : Int).toNat * 3 + 1, none⟩ = some (.string ((rd_T194 x3_1 x4_1).f1)) := hcc10 1 _ rfl; have hx10_2 : w11.cell? ⟨go10, (x4_1 : Int).toNat * 3 + 2, none⟩ = some (.int .i64 ((rd_T194 x3_1 x4_1).f2)) := hcc10 2 _ rfl; have hf10_0 : w11.frozen? ⟨go10, (x4_1 : Int).toNat * 3, none⟩ = false := hfr10 0; have hf10_1 : w11.frozen? ⟨go10, (x4_1 : Int).toNat * 3 + 1, none⟩ = false := hfr10 1; have hf10_2 : w11.frozen? ⟨go10, (x4_1 : Int).toNat * 3 + 2, none⟩ = false := hfr10 2; clear hcl10 hcc10 hfr10 hM10; replace p10 := eq_true p10; replace q10 := eq_true q10; have HX12 := AM (show Kd.R k194 194 w11 w.heap.size (fun _ => True) (.slice (some ⟨go10, 0, none⟩) x3_1.length co10) x3_1 from (ro_ HO_3.out)); obtain ⟨ce12, hcl12, hM12, hcc12, hfr12⟩ := Kd.R_elem HX12.out z194 (x4_1 : Int) (of_decide_eq_true (by first | (with_reducible assumption) | assumption)) (by have h_ : (x4_1 : Int) < ((x3_1.length : Int) : Int) := of_decide_eq_true (by first | (with_reducible assumption) | assumption); first | exact h_ | (have e_ := (Kd.R_reads' HO_3.out).1; omega) | simpa using h_); obtain rfl := k194_openM hM12; have HP12 := Kd.R_seg HX12.out (x4_1 : Int) (of_decide_eq_true (by first | (with_reducible assumption) | assumption)) (by have h_ : (x4_1 : Int) < ((x3_1.length : Int) : Int) := of_decide_eq_true (by first | (with_reducible assumption) | assumption); first | exact h_ | (have e_ := (Kd.R_reads' HO_3.out).1; omega) | simpa using h_) (seg := [.string t191, .string t192, .int .i64 t193]) (j := 0) hcl12 hcc12 (show 3 ≤ 3 from by decide) (x' := (⟨t191, t192, t193⟩ : S194)) (k194_mkM _ _ _ (⟨t191, t192, t193⟩ : S194) ) (fun _ hk => hk); have hx12_0 := hcc12 0 _ rfl; (try simp only [show (k194).sz = 3 from rfl, Nat.mul_one, Nat.add_zero] at hx12_0); have hf12_0 := hfr12 0; (try simp only [show (k194).sz = 3 from rfl, Nat.mul_one, Nat.add_zero] at hf12_0); have hx12_1 := hcc12 1 _ rfl; (try simp only [show (k194).sz = 3 from rfl, Nat.mul_one, Nat.add_zero] at hx12_1); have hf12_1 := hfr12 1; (try simp only [show (k194).sz = 3 from rfl, Nat.mul_one, Nat.add_zero] at hf12_1); have hx12_2 := hcc12 2 _ rfl; (try simp only [show (k194).sz = 3 from rfl, Nat.mul_one, Nat.add_zero] at hx12_2); have hf12_2 := hfr12 2; (try simp only [show (k194).sz = 3 from rfl, Nat.mul_one, Nat.add_zero] at hf12_2); clear hcl12 hcc12 hfr12 hM12) | ((with_reducible refine gate_store (t := 194) (p := 21) rfl ?_); refine store_event (t := 194) (p := 21) (v := ?vo_w13) (w1 := (((w11.setCell ⟨go10, (x4_1 : Int).toNat * 3, none⟩ (.string t191)).setCell ⟨go10, (x4_1 : Int).toNat * 3 + 1, none⟩ (.string t192)).setCell ⟨go10, (x4_1 : Int).toNat * 3 + 2, none⟩ (.int .i64 t193))) ?hg ?ho ?hn ?hr ?_; (case ho => rfl); (case hg => rfl); (case hn => rfl); (case hr => first | (go_simp; done) | (go_simp; rfl)); intro w13 hw; have hg : w11.grownBy w13 (some go10) := (by rw [hw]; exact HP12.2); have hp_ : Kd.R k194 194 w13 w.heap.size (fun _ => True) (.slice (some ⟨go10, 0, none⟩) x3_1.length co10) y194 := (by rw [hw, Ny194.out]; exact HP12.1); clear HP12; replace HO_3 := AM hp_; replace HB := AM ((by rw [hw]; exact below_set (below_set (below_set (HB.out) GB10.out) GB10.out) GB10.out : Below w.heap.size w w13)); clear hg hw hp_))
                go_roundg k1
                case measure => have := HK1.out; omega
                case rel => exact ⟨(y194), (wrap64 (x4_1 + 1)), (by first | rfl | (simp; done) | (simp [*]; done)), H', ⟨by have := HK1.out; omega⟩, ⟨ro_ HO_3.out⟩, ⟨bel_⟩⟩
              · rw [if_neg c9] at H
                exact absurd H (by simp)
            · rw [if_neg c7] at H
              exact absurd H (by simp)
          · rw [if_neg c6] at H
            have c6b0 : decide (x4_1 < (l0.length : Int)) = false := decide_eq_false c6
            clear c6
            obtain rfl := Option.some.inj H
            go_wp2
            go_ret
            exact ⟨_, ri_, ro_ HO_3.out, bel_⟩
    · rw [if_neg c3] at H
      exact absurd H (by simp)
  · rw [if_neg c2] at H
    exact absurd H (by simp)

/-! ### laws_toDrive: function 155 -/
def laws_toDrive.f (k : Nat) (l0_0 : List (S247)) (a0_1 : Int) : Option ((List (S194)) × Int) := (laws_toStoredS.f k l0_0).bind fun t198 => (some (t198, a0_1))
theorem laws_toDrive.mono : ∀ a0 a1 k, LeO (laws_toDrive.f k a0 a1) (laws_toDrive.f (k + 1) a0 a1) := by
  intro a0 a1 k
  unfold laws_toDrive.f
  repeat' first
      | (with_reducible exact laws_toStoredS.mono _ _)
      | (with_reducible exact LeO.refl _)
      | (with_reducible exact LeO.none _)
      | (with_reducible refine LeO.ite ?_ ?_)
      | (with_reducible refine LeO.bind ?_ (fun _ => ?_))
      | exact laws_toStoredS.mono _ _
      | exact LeO.none _
      | refine LeO.ite ?_ ?_
      | refine LeO.bind ?_ (fun _ => ?_)
set_option maxHeartbeats 8000000 in
set_option maxRecDepth 100000 in
theorem laws_toDrive.calls (k : Nat) (A0_0 : Option Addr) (c0_0 : Nat) (l0_0 : List (S247)) (a0_1 : Int) (r1 : List (S194)) (r2 : Int) (w : World) (hr0_0 : Kd.C k247 w A0_0 l0_0.length l0_0) (hc0_0 : l0_0.length ≤ c0_0) (h : laws_toDrive.f k l0_0 a0_1 = some (r1, r2)) :
    Calls Try.prog 155 #[.agg #[.slice A0_0 l0_0.length c0_0, .int .i64 a0_1]] w fun e w' => ∃ v0_ : Value, e = .returned (.agg #[v0_, .int .i64 r2]) ∧ Kd.R k194 194 w' w.heap.size (fun _ => True) v0_ r1 ∧ Below w.heap.size w w' := by
  have hu188 := Try.underlying188
  have hu192 := Try.underlying192
  have HR0_0 := AM hr0_0
  have HC0_0 := AM hc0_0
  clear hr0_0 hc0_0
  have HB := AM (Below.refl w.heap.size w)
  have H : ((laws_toStoredS.f k l0_0).bind fun t198 => (some (t198, a0_1))) = some (r1, r2) := h
  clear h
  obtain ⟨t198, A2, H⟩ := OB H
  try dsimp only at H
  replace A2 := AM A2
  simp only [Option.some.injEq, Prod.mk.injEq] at H
  obtain ⟨rfl, rfl⟩ := H
  go_enter Try.func155, Try.ntmps155
  go_wp2_with (first | ((with_reducible refine gate_dst (N := 1) rfl ?_); refine be_ 1 #[.slice A0_0 l0_0.length c0_0, .int .i64 a0_1] 188 ?_; intro gb195 hg w3 hbox hb; have BK195 := AM hbox; have GW195 := AM ((by rw [hg]; exact (below_size bel_) : w.heap.size ≤ gb195)); have GE195 := AM ((by rw [hg]; exact (below_size bel_) : w.heap.size ≤ gb195)); replace HB := AM (below_step bel_ hb); clear hb hbox hg) | ((with_reducible refine gate_dst (N := 2) rfl ?_); refine be_ 2 #[.slice none 0 0, .int .i64 0] 192 ?_; intro gb196 hg w4 hbox hb; have BK196 := AM hbox; have GW196 := AM ((by rw [hg]; exact (below_size bel_) : w.heap.size ≤ gb196)); have GE196 := AM ((by rw [hg]; exact (below_size bel_) : w.heap.size ≤ gb196)); replace HB := AM (below_step bel_ hb); have NB195_196 := AM ((by rw [hg]; exact Nat.ne_of_lt (blk_lt (g := gb195) (o := .cells #[.slice A0_0 l0_0.length c0_0, .int .i64 a0_1] 188 (0, 0)) (bk_ BK195.out)) : gb195 ≠ gb196)); have NB196_195 := AM ((by rw [hg]; exact Nat.ne_of_gt (blk_lt (g := gb195) (o := .cells #[.slice A0_0 l0_0.length c0_0, .int .i64 a0_1] 188 (0, 0)) (bk_ BK195.out)) : gb196 ≠ gb195)); replace BK195 := AM (blk_below (g := gb195) (o := .cells #[.slice A0_0 l0_0.length c0_0, .int .i64 a0_1] 188 (0, 0)) (bk_ BK195.out) hb); clear hb hbox hg) | ((with_reducible refine gate_dst (N := 3) rfl ?_); refine be_ 3 #[.slice none 0 0, .int .i64 0] 192 ?_; intro gb197 hg w5 hbox hb; have BK197 := AM hbox; have GW197 := AM ((by rw [hg]; exact (below_size bel_) : w.heap.size ≤ gb197)); have GE197 := AM ((by rw [hg]; exact (below_size bel_) : w.heap.size ≤ gb197)); replace HB := AM (below_step bel_ hb); have NB195_197 := AM ((by rw [hg]; exact Nat.ne_of_lt (blk_lt (g := gb195) (o := .cells #[.slice A0_0 l0_0.length c0_0, .int .i64 a0_1] 188 (0, 0)) (bk_ BK195.out)) : gb195 ≠ gb197)); have NB197_195 := AM ((by rw [hg]; exact Nat.ne_of_gt (blk_lt (g := gb195) (o := .cells #[.slice A0_0 l0_0.length c0_0, .int .i64 a0_1] 188 (0, 0)) (bk_ BK195.out)) : gb197 ≠ gb195)); replace BK195 := AM (blk_below (g := gb195) (o := .cells #[.slice A0_0 l0_0.length c0_0, .int .i64 a0_1] 188 (0, 0)) (bk_ BK195.out) hb); have NB196_197 := AM ((by rw [hg]; exact Nat.ne_of_lt (blk_lt (g := gb196) (o := .cells #[.slice none 0 0, .int .i64 0] 192 (0, 0)) (bk_ BK196.out)) : gb196 ≠ gb197)); have NB197_196 := AM ((by rw [hg]; exact Nat.ne_of_gt (blk_lt (g := gb196) (o := .cells #[.slice none 0 0, .int .i64 0] 192 (0, 0)) (bk_ BK196.out)) : gb197 ≠ gb196)); replace BK196 := AM (blk_below (g := gb196) (o := .cells #[.slice none 0 0, .int .i64 0] 192 (0, 0)) (bk_ BK196.out) hb); clear hb hbox hg; have hnb6 := NB195_196.out; have hnc6 := NB196_195.out; have hnb7 := NB195_197.out; have hnc7 := NB197_195.out; have hcz8_0 : w5.cell? ⟨gb195, 0, none⟩ = some (.slice A0_0 l0_0.length c0_0) := (blk_cell BK195.out 0).trans rfl; have hcz8_1 : w5.cell? ⟨gb195, 1, none⟩ = some (.int .i64 a0_1) := (blk_cell BK195.out 1).trans rfl; have hfz8_0 := blk_frozen BK195.out 0; have hfz8_1 := blk_frozen BK195.out 1) | ((with_reducible refine gate_callee (f := 187) rfl ?_); refine gl_ (some 6) Try.func187 #[.slice A0_0 l0_0.length c0_0] ?_; (with_reducible refine (laws_toStoredS.calls k _ _ l0_0 t198 _ ?side1 ?side2 A2.out).mono ?_); (case side1 => repeat (first | exact (Kd.C_below HR0_0.out HB.out) | (with_reducible refine Kd.C_alloc ?_ _) | (with_reducible refine Kd.C_drewN ?_ _) | (with_reducible refine Kd.C_drew ?_))); (case side2 => exact HC0_0.out); rintro e w9 ⟨v199, rfl, ho0, hb⟩; refine ⟨_, rfl, ?_⟩; have HO200 := AM (Kd.R_lower ho0 (below_size bel_)); replace BK195 := AM (blk_below (g := gb195) (o := .cells #[.slice A0_0 l0_0.length c0_0, .int .i64 a0_1] 188 (0, 0)) (bk_ BK195.out) hb); replace BK196 := AM (blk_below (g := gb196) (o := .cells #[.slice none 0 0, .int .i64 0] 192 (0, 0)) (bk_ BK196.out) hb); replace BK197 := AM (blk_below (g := gb197) (o := .cells #[.slice none 0 0, .int .i64 0] 192 (0, 0)) (bk_ BK197.out) hb); replace HB := AM (below_step bel_ hb); (try clear hb); (try clear hb2); (try clear hk); (try clear hi); (try clear ho0); obtain ⟨Ao10, co10, eo10⟩ := Kd.R_slice HO200.out; subst eo10; have hnb11 := NB197_196.out; have hnc11 := NB196_197.out; have hcz12_0 : w9.cell? ⟨gb197, 0, none⟩ = some (.slice none 0 0) := (blk_cell BK197.out 0).trans rfl; have hcz12_1 : w9.cell? ⟨gb197, 1, none⟩ = some (.int .i64 0) := (blk_cell BK197.out 1).trans rfl; have hfz12_0 := blk_frozen BK197.out 0; have hfz12_1 := blk_frozen BK197.out 1; have hcz13_0 : w9.cell? ⟨gb195, 0, none⟩ = some (.slice A0_0 l0_0.length c0_0) := (blk_cell BK195.out 0).trans rfl; have hcz13_1 : w9.cell? ⟨gb195, 1, none⟩ = some (.int .i64 a0_1) := (blk_cell BK195.out 1).trans rfl; have hfz13_0 := blk_frozen BK195.out 0; have hfz13_1 := blk_frozen BK195.out 1; have hcz14_0 : w9.cell? ⟨gb196, 0, none⟩ = some (.slice none 0 0) := (blk_cell BK196.out 0).trans rfl; have hcz14_1 : w9.cell? ⟨gb196, 1, none⟩ = some (.int .i64 0) := (blk_cell BK196.out 1).trans rfl; have hfz14_0 := blk_frozen BK196.out 0; have hfz14_1 := blk_frozen BK196.out 1))
  refine bodyPost_ret (results_cell_row rfl _ _ gb196 192 #[.slice Ao10 t198.length co10, .int .i64 a0_1] (0, 0) _ rfl bka_ Try.underlying192 rfl (by kernel_rfl)) rfl ?_
  exact ⟨_, ri_, by (with_reducible repeat (first | apply Kd.R_alloc | apply Kd.R_drewN | apply Kd.R_drew)); exact Kd.R_mono (Kd.R_far (p := ⟨gb196, 1, none⟩) (Kd.R_far (p := ⟨gb196, 0, none⟩) (Kd.R_far (p := ⟨gb197, 1, none⟩) (Kd.R_far (p := ⟨gb197, 0, none⟩) (Kd.R_types (Kd.R_types HO200.out BK197.out (by decide)) BK196.out (by decide)) (fun _ hk => hk.1.2) (.slice Ao10 t198.length co10)) (fun _ hk => hk.1.2) (.int .i64 a0_1)) (fun _ hk => hk.2) (.slice Ao10 t198.length co10)) (fun _ hk => hk.2) (.int .i64 a0_1)) (fun _ hk => trivial), bel_⟩

/-! ### laws_toDriveS: function 104 -/
def laws_toDriveS.l0 : Nat → List (S188) → List (S192) → Int → Option ((List (S192)))
  | 0, _, _, _ => none
  | k + 1, x0, x3, x4 => if x4 < (x0.length : Int) then (if 0 ≤ x4 then ((laws_toDrive.f k ((rd_T188 x0 x4).f0) ((rd_T188 x0 x4).f1)).bind fun bt205 => (if x4 < (x3.length : Int) then (laws_toDriveS.l0 k x0 (x3.set (x4 : Int).toNat (⟨bt205.1, bt205.2⟩ : S192)) (wrap64 (x4 + 1))) else (none))) else (none)) else (some x3)
def laws_toDriveS.f (k : Nat) (l0 : List (S188)) : Option ((List (S192))) := if 0 ≤ (l0.length : Int) then (if ((l0.length : Int) : Int).toNat ≤ 8796093022208 then (laws_toDriveS.l0 k l0 (List.replicate ((l0.length : Int) : Int).toNat z192) 0) else (none)) else (none)
theorem laws_toDriveS.mono_l : ∀ k, (∀ y0 y1 y2, LeO (laws_toDriveS.l0 k y0 y1 y2) (laws_toDriveS.l0 (k + 1) y0 y1 y2))
  | 0 => fun _ _ _ r h => by simp [laws_toDriveS.l0] at h
  | k + 1 => by
    have ih0 := laws_toDriveS.mono_l k
    · intro y0 y1 y2
      unfold laws_toDriveS.l0
      repeat' first
      | (with_reducible exact ih0 _ _ _)
      | (with_reducible exact laws_toDrive.mono _ _ _)
      | (with_reducible exact LeO.refl _)
      | (with_reducible exact LeO.none _)
      | (with_reducible refine LeO.ite ?_ ?_)
      | (with_reducible refine LeO.bind ?_ (fun _ => ?_))
      | exact ih0 _ _ _
      | exact laws_toDrive.mono _ _ _
      | exact LeO.none _
      | refine LeO.ite ?_ ?_
      | refine LeO.bind ?_ (fun _ => ?_)
theorem laws_toDriveS.mono : ∀ a0 k, LeO (laws_toDriveS.f k a0) (laws_toDriveS.f (k + 1) a0) := by
  intro a0 k
  have ih0 := laws_toDriveS.mono_l k
  unfold laws_toDriveS.f
  repeat' first
      | (with_reducible exact ih0 _ _ _)
      | (with_reducible exact laws_toDrive.mono _ _ _)
      | (with_reducible exact LeO.refl _)
      | (with_reducible exact LeO.none _)
      | (with_reducible refine LeO.ite ?_ ?_)
      | (with_reducible refine LeO.bind ?_ (fun _ => ?_))
      | exact ih0 _ _ _
      | exact laws_toDrive.mono _ _ _
      | exact LeO.none _
      | refine LeO.ite ?_ ?_
      | refine LeO.bind ?_ (fun _ => ?_)
set_option maxHeartbeats 8000000 in
set_option maxRecDepth 100000 in
theorem laws_toDriveS.calls (k : Nat) (A0 : Option Addr) (c0 : Nat) (l0 : List (S188)) (r : List (S192)) (w : World) (hr0 : Kd.C k188 w A0 l0.length l0) (hc0 : l0.length ≤ c0) (h : laws_toDriveS.f k l0 = some r) :
    Calls Try.prog 104 #[.slice A0 l0.length c0] w fun e w' => ∃ v0_ : Value, e = .returned (v0_) ∧ Kd.S k192 192 w' w.heap.size (fun _ => True) v0_ r ∧ Below w.heap.size w w' := by
  have hu188 := Try.underlying188
  have hu192 := Try.underlying192
  have HR0 := AM hr0
  have HC0 := AM hc0
  clear hr0 hc0
  have HB := AM (Below.refl w.heap.size w)
  have H : (if 0 ≤ (l0.length : Int) then (if ((l0.length : Int) : Int).toNat ≤ 8796093022208 then (laws_toDriveS.l0 k l0 (List.replicate ((l0.length : Int) : Int).toNat z192) 0) else (none)) else (none)) = some r := h
  clear h
  by_cases c2 : 0 ≤ (l0.length : Int)
  · rw [if_pos c2] at H
    have c2b0 := eq_true c2
    have c2b1 : decide (0 ≤ (l0.length : Int)) = true := decide_eq_true c2
    clear c2
    by_cases c3 : ((l0.length : Int) : Int).toNat ≤ 8796093022208
    · rw [if_pos c3] at H
      have c3b0 := eq_true c3
      have c3b1 : decide (((l0.length : Int) : Int).toNat ≤ 8796093022208) = true := decide_eq_true c3
      clear c3
      obtain ⟨y201, hy201⟩ : ∃ y_ : List (S192), y_ = (List.replicate ((l0.length : Int) : Int).toNat z192) := ⟨_, rfl⟩
      replace H : (laws_toDriveS.l0 k l0 y201 0) = some r := by first | (rw [hy201]; with_reducible exact H) | (have H2_ := (Option.bind_some _ _).symm.trans H; rw [hy201]; with_reducible exact H2_) | (have H2_ := (Option.bind_some _ _).symm.trans H; with_reducible exact H2_) | with_reducible exact H | (rw [hy201]; exact H) | exact H
      have Ny201 := AM hy201
      clear hy201
      have H' := AM H
      clear H
      go_enter Try.func104, Try.ntmps104
      go_wp2_with (first | ((with_reducible refine gate_dst (N := 7) rfl ?_); refine Kd.S_make k192 _ 192 rfl (N := 7) rfl 62 _ _ rfl (l0.length : Int) rfl rfl Try.underlying62 (.agg #[(.slice none 0 0), (.int .i64 0)]) 32 info192 rfl (by decide) (by omega) z192 (ok := fun _ => True) (okp := fun _ => True) (k192_mkM _ _ _ z192 (Kd.R_nil _ _ _ _ _)) (fun _ hk => hk) trivial (of_decide_eq_true (by first | (with_reducible assumption) | assumption)) (Nat.le_trans (Nat.mul_le_mul_right _ (of_decide_eq_true (by first | (with_reducible assumption) | assumption) : (l0.length : Int).toNat ≤ 8796093022208)) (by omega)) (Below.refl _ _) (Nat.le_refl _) ?_; intro v202 w4 ho5 hb hg_ hnew_; clear hg_ hnew_; (first | rw [← Ny201.out] at ho5 | (simp only [Int.reduceToNat] at ho5; rw [← Ny201.out] at ho5)); have HO203 := AM (Kd.S_lower ho5 (below_size bel_)); replace HB := AM (below_step bel_ hb); clear hb ho5))
      go_loopg [4] k (fun kq v4 w' => ∃ (x3_1 : List (S192)) (x4_1 : Int), v4 = .int .i64 x4_1 ∧ Aside0 (laws_toDriveS.l0 kq l0 x3_1 x4_1 = some r) ∧ Aside0 (kq ≤ k) ∧ Aside0 (Kd.S k192 192 w' w.heap.size (fun _ => True) v202 x3_1) ∧ Aside0 (Below w.heap.size w w'))
      case atStart => exact ⟨(y201), (0), (by first | rfl | (simp; done) | (simp [*]; done)), H', ⟨Nat.le_refl _⟩, ⟨by (with_reducible repeat (first | apply Kd.S_alloc | apply Kd.S_drewN | apply Kd.S_drew)); exact HO203.out⟩, ⟨bel_⟩⟩
      case round =>
        clear H'
        try clear c1
        try clear c2
        try clear c2b0
        try clear c2b1
        try clear p2
        try clear c3
        try clear c3b0
        try clear c3b1
        obtain ⟨x3_1, x4_1, rfl, HA, HK1, HO_3, HB⟩ := hrel
        cases gk with
        | zero => exact absurd HA.out (by simp [laws_toDriveS.l0])
        | succ k1 =>
          have H := HA.out
          clear HA
          simp only [laws_toDriveS.l0] at H
          by_cases c6 : x4_1 < (l0.length : Int)
          · rw [if_pos c6] at H
            have c6b0 : decide (x4_1 < (l0.length : Int)) = true := decide_eq_true c6
            clear c6
            by_cases c7 : 0 ≤ x4_1
            · rw [if_pos c7] at H
              have c7b0 : decide (0 ≤ x4_1) = true := decide_eq_true c7
              clear c7
              obtain ⟨⟨t205, t208⟩, A8, H⟩ := OB H
              try dsimp only at H
              replace A8 := AM A8
              by_cases c9 : x4_1 < (x3_1.length : Int)
              · rw [if_pos c9] at H
                have c9b0 : decide (x4_1 < (x3_1.length : Int)) = true := decide_eq_true c9
                clear c9
                obtain ⟨y209, hy209⟩ : ∃ y_ : List (S192), y_ = (x3_1.set (x4_1 : Int).toNat (⟨t205, t208⟩ : S192)) := ⟨_, rfl⟩
                replace H : (laws_toDriveS.l0 k1 l0 y209 (wrap64 (x4_1 + 1))) = some r := by first | (rw [hy209]; with_reducible exact H) | (have H2_ := (Option.bind_some _ _).symm.trans H; rw [hy209]; with_reducible exact H2_) | (have H2_ := (Option.bind_some _ _).symm.trans H; with_reducible exact H2_) | with_reducible exact H | (rw [hy209]; exact H) | exact H
                have Ny209 := AM hy209
                clear hy209
                have H' := AM H
                clear H
                have p204 : 0 ≤ (x4_1 : Int) := of_decide_eq_true (by first | (with_reducible assumption) | assumption)
                have q204 : x4_1 < (l0.length : Int) := of_decide_eq_true (by first | (with_reducible assumption) | assumption)
                obtain ⟨ad204, A204_0, c204_0, e204, hx204_0, hx204_1, hl204_0, hi204_0⟩ := at_T188 HR0.out x4_1 p204 q204
                cases e204
                replace hx204_0 := (HB.out.cell (World.block_lt_of_cell? w _ hx204_0)).trans hx204_0
                replace hx204_1 := (HB.out.cell (World.block_lt_of_cell? w _ hx204_1)).trans hx204_1
                have HR204_0 := AM hi204_0
                have HC204_0 := AM hl204_0
                clear hi204_0 hl204_0
                replace p204 := eq_true p204
                replace q204 := eq_true q204
                go_wp2_with (first | ((with_reducible refine gate_callee (f := 155) rfl ?_); refine gl_ (some 20) Try.func155 #[.agg #[.slice A204_0 ((rd_T188 l0 x4_1).f0).length c204_0, .int .i64 ((rd_T188 l0 x4_1).f1)]] ?_; (with_reducible refine (laws_toDrive.calls k1 _ _ ((rd_T188 l0 x4_1).f0) ((rd_T188 l0 x4_1).f1) t205 t208 _ ?side1 ?side2 A8.out).mono ?_); (case side1 => repeat (first | exact (Kd.C_below HR204_0.out HB.out) | (with_reducible refine Kd.C_alloc ?_ _) | (with_reducible refine Kd.C_drewN ?_ _) | (with_reducible refine Kd.C_drew ?_))); (case side2 => exact HC204_0.out); rintro e w11 ⟨v206, rfl, ho0, hb⟩; refine ⟨_, rfl, ?_⟩; obtain ⟨Av_, cv_, rfl⟩ := Kd.R_slice ho0; replace HO_3 := AM (Kd.S_elder' (by (with_reducible repeat (first | apply Kd.S_alloc | apply Kd.S_drewN | apply Kd.S_drew)); exact HO_3.out) (Kd.R_base ho0) hb); have HO207 := AM (Kd.R_lower ho0 (below_size bel_)); replace HB := AM (below_step bel_ hb); (try clear hb); (try clear hb2); (try clear hk); (try clear hi); (try clear ho0); have p10 : 0 ≤ (x4_1 : Int) := of_decide_eq_true (by first | (with_reducible assumption) | assumption); have q10 : (x4_1 : Int) < ((x3_1.length : Int) : Int) := of_decide_eq_true (by first | (with_reducible assumption) | assumption); obtain ⟨go10, co10, eo10, gb10, gl10, cl10, HG10⟩ := Kd.S_form HO_3.out (by omega); (first | cases eo10 | (injection eo10 with ea_ en_ ec_; (first | subst ea_ | (injection ea_ with ea_; subst ea_)); subst ec_; clear en_)); have GB10 := AM gb10; have GG10 := AM HG10; clear gb10 gl10 HG10; obtain ⟨_, ce10, hcl10, hM10, hcc10, hfr10, _, _⟩ := Kd.S_elem HO_3.out z192 (x4_1 : Int) p10 q10; obtain ⟨ve10_0, rfl, ge10_0⟩ := k192_openM hM10; have hx10_0 : w11.cell? ⟨go10, (x4_1 : Int).toNat * 2, none⟩ = some (ve10_0) := hcc10 0 _ rfl; have hx10_1 : w11.cell? ⟨go10, (x4_1 : Int).toNat * 2 + 1, none⟩ = some (.int .i64 ((rd_T192 x3_1 x4_1).f1)) := hcc10 1 _ rfl; have hf10_0 : w11.frozen? ⟨go10, (x4_1 : Int).toNat * 2, none⟩ = false := hfr10 0; have hf10_1 : w11.frozen? ⟨go10, (x4_1 : Int).toNat * 2 + 1, none⟩ = false := hfr10 1; clear hcl10 hcc10 hfr10 hM10; replace p10 := eq_true p10; replace q10 := eq_true q10; have n_ := AM (Kd.S_mono (ok' := (fun k_ => some k_ ≠ ((.slice Av_ t205.length cv_) : Value).ownBlock)) HO_3.out (fun k_ hk => hk.2)); clear HO_3; have HO_3 := n_; clear n_; have HX12 := AM (show Kd.S k192 192 w11 w.heap.size (fun k_ => ((fun _ => True)) k_ ∧ ¬ ((fun k_ => some k_ = ((.slice Av_ t205.length cv_) : Value).ownBlock)) k_) (.slice (some ⟨go10, 0, none⟩) x3_1.length co10) x3_1 from (by (with_reducible repeat (first | apply Kd.S_alloc | apply Kd.S_drewN | apply Kd.S_drew)); exact Kd.S_mono HO_3.out (fun k_ hk => ⟨trivial, fun e_ => hk e_⟩))); obtain ⟨oki12, ce12, hcl12, hM12, hcc12, hfr12, hoki12, hH12⟩ := Kd.S_elem HX12.out z192 (x4_1 : Int) (of_decide_eq_true (by first | (with_reducible assumption) | assumption)) (by have h_ : (x4_1 : Int) < ((x3_1.length : Int) : Int) := of_decide_eq_true (by first | (with_reducible assumption) | assumption); first | exact h_ | (have e_ := (Kd.S_reads' HO_3.out).1; omega) | simpa using h_); obtain ⟨ve12_0, rfl, ge12_0⟩ := k192_openM hM12; have HP12 := Kd.S_seg hH12 (of_decide_eq_true (by first | (with_reducible assumption) | assumption)) (by have h_ : (x4_1 : Int) < ((x3_1.length : Int) : Int) := of_decide_eq_true (by first | (with_reducible assumption) | assumption); first | exact h_ | (have e_ := (Kd.S_reads' HO_3.out).1; omega) | simpa using h_) (seg := [(.slice Av_ t205.length cv_), .int .i64 t208]) (j := 0) (show 2 ≤ 2 from by decide) (x' := (⟨t205, t208⟩ : S192)) (k192_mkM _ _ _ (⟨t205, t208⟩ : S192) (Kd.R_mono (Kd.R_tight rfl (Kd.R_mono (ok' := fun k_ => ((fun _ => True)) k_ ∧ k_ ≠ go10) (Kd.R_apart' (HO207.out) (Kd.S_typed HO_3.out) (by decide)) (fun k_ hk => ⟨trivial, fun e_ => (hk.2) (by rw [e_]; rfl)⟩))) (fun _ h_ => Or.inr (h_)))) (fun _ hk => hk) (fun k_ hk_ => ((Kd.R_mono (ok' := fun k_ => ((fun _ => True)) k_ ∧ k_ ≠ go10) (Kd.R_apart' (HO207.out) (Kd.S_typed HO_3.out) (by decide)) (fun k_ hk => ⟨trivial, fun e_ => (hk.2) (by rw [e_]; rfl)⟩))).1 k_ hk_.symm); have hx12_0 := hcc12 0 _ rfl; (try simp only [show (k192).sz = 2 from rfl, Nat.mul_one, Nat.add_zero] at hx12_0); have hf12_0 := hfr12 0; (try simp only [show (k192).sz = 2 from rfl, Nat.mul_one, Nat.add_zero] at hf12_0); have hx12_1 := hcc12 1 _ rfl; (try simp only [show (k192).sz = 2 from rfl, Nat.mul_one, Nat.add_zero] at hx12_1); have hf12_1 := hfr12 1; (try simp only [show (k192).sz = 2 from rfl, Nat.mul_one, Nat.add_zero] at hf12_1); clear hcl12 hcc12 hfr12 hM12 hoki12 hH12) | ((with_reducible refine gate_store (t := 192) (p := 21) rfl ?_); refine store_event (t := 192) (p := 21) (v := ?vo_w13) (w1 := ((w11.setCell ⟨go10, (x4_1 : Int).toNat * 2, none⟩ ((.slice Av_ t205.length cv_))).setCell ⟨go10, (x4_1 : Int).toNat * 2 + 1, none⟩ (.int .i64 t208))) ?hg ?ho ?hn ?hr ?_; (case ho => rfl); (case hg => rfl); (case hn => rfl); (case hr => first | (go_simp; done) | (go_simp; rfl)); intro w13 hw; have hg : w11.grownBy w13 (some go10) := (by rw [hw]; exact HP12.2); have hp_ : Kd.S k192 192 w13 w.heap.size (fun _ => True) (.slice (some ⟨go10, 0, none⟩) x3_1.length co10) y209 := (by rw [hw, Ny209.out]; exact HP12.1); clear HP12; have n0_ := AM hp_; have n1_ := AM ((by rw [hw]; exact below_set (below_set (HB.out) GB10.out) GB10.out : Below w.heap.size w w13)); clear HO_3; clear HB; clear HO207; have HO_3 := n0_; have HB := n1_; clear n0_ n1_; clear hg hw hp_))
                go_roundg k1
                case measure => have := HK1.out; omega
                case rel => exact ⟨(y209), (wrap64 (x4_1 + 1)), (by first | rfl | (simp; done) | (simp [*]; done)), H', ⟨by have := HK1.out; omega⟩, ⟨by (with_reducible repeat (first | apply Kd.S_alloc | apply Kd.S_drewN | apply Kd.S_drew)); exact HO_3.out⟩, ⟨bel_⟩⟩
              · rw [if_neg c9] at H
                exact absurd H (by simp)
            · rw [if_neg c7] at H
              exact absurd H (by simp)
          · rw [if_neg c6] at H
            have c6b0 : decide (x4_1 < (l0.length : Int)) = false := decide_eq_false c6
            clear c6
            obtain rfl := Option.some.inj H
            go_wp2
            go_ret
            exact ⟨_, ri_, by (with_reducible repeat (first | apply Kd.S_alloc | apply Kd.S_drewN | apply Kd.S_drew)); exact HO_3.out, bel_⟩
    · rw [if_neg c3] at H
      exact absurd H (by simp)
  · rw [if_neg c2] at H
    exact absurd H (by simp)

/-! ### laws_toArray: function 36 -/
def laws_toArray.f (k : Nat) (a0_0 : Int) (a0_1 : Int) (l0_2 : List (S188)) : Option (Int × Int × (List (S192))) := (laws_toDriveS.f k l0_2).bind fun t213 => (some (a0_0, a0_1, t213))
theorem laws_toArray.mono : ∀ a0 a1 a2 k, LeO (laws_toArray.f k a0 a1 a2) (laws_toArray.f (k + 1) a0 a1 a2) := by
  intro a0 a1 a2 k
  unfold laws_toArray.f
  repeat' first
      | (with_reducible exact laws_toDriveS.mono _ _)
      | (with_reducible exact LeO.refl _)
      | (with_reducible exact LeO.none _)
      | (with_reducible refine LeO.ite ?_ ?_)
      | (with_reducible refine LeO.bind ?_ (fun _ => ?_))
      | exact laws_toDriveS.mono _ _
      | exact LeO.none _
      | refine LeO.ite ?_ ?_
      | refine LeO.bind ?_ (fun _ => ?_)
set_option maxHeartbeats 8000000 in
set_option maxRecDepth 100000 in
theorem laws_toArray.calls (k : Nat) (a0_0 : Int) (a0_1 : Int) (A0_2 : Option Addr) (c0_2 : Nat) (l0_2 : List (S188)) (r1 : Int) (r2 : Int) (r3 : List (S192)) (w : World) (hr0_2 : Kd.C k188 w A0_2 l0_2.length l0_2) (hc0_2 : l0_2.length ≤ c0_2) (h : laws_toArray.f k a0_0 a0_1 l0_2 = some (r1, r2, r3)) :
    Calls Try.prog 36 #[.agg #[.int .i64 a0_0, .int .i64 a0_1, .slice A0_2 l0_2.length c0_2]] w fun e w' => ∃ v2_ : Value, e = .returned (.agg #[.int .i64 r1, .int .i64 r2, v2_]) ∧ Kd.S k192 192 w' w.heap.size (fun _ => True) v2_ r3 ∧ Below w.heap.size w w' := by
  have hu59 := Try.underlying59
  have hu64 := Try.underlying64
  have HR0_2 := AM hr0_2
  have HC0_2 := AM hc0_2
  clear hr0_2 hc0_2
  have HB := AM (Below.refl w.heap.size w)
  have H : ((laws_toDriveS.f k l0_2).bind fun t213 => (some (a0_0, a0_1, t213))) = some (r1, r2, r3) := h
  clear h
  obtain ⟨t213, A2, H⟩ := OB H
  try dsimp only at H
  replace A2 := AM A2
  simp only [Option.some.injEq, Prod.mk.injEq] at H
  obtain ⟨rfl, rfl, rfl⟩ := H
  go_enter Try.func36, Try.ntmps36
  go_wp2_with (first | ((with_reducible refine gate_dst (N := 1) rfl ?_); refine be_ 1 #[.int .i64 a0_0, .int .i64 a0_1, .slice A0_2 l0_2.length c0_2] 59 ?_; intro gb210 hg w3 hbox hb; have BK210 := AM hbox; have GW210 := AM ((by rw [hg]; exact (below_size bel_) : w.heap.size ≤ gb210)); have GE210 := AM ((by rw [hg]; exact (below_size bel_) : w.heap.size ≤ gb210)); replace HB := AM (below_step bel_ hb); clear hb hbox hg) | ((with_reducible refine gate_dst (N := 2) rfl ?_); refine be_ 2 #[.int .i64 0, .int .i64 0, .slice none 0 0] 64 ?_; intro gb211 hg w4 hbox hb; have BK211 := AM hbox; have GW211 := AM ((by rw [hg]; exact (below_size bel_) : w.heap.size ≤ gb211)); have GE211 := AM ((by rw [hg]; exact (below_size bel_) : w.heap.size ≤ gb211)); replace HB := AM (below_step bel_ hb); have NB210_211 := AM ((by rw [hg]; exact Nat.ne_of_lt (blk_lt (g := gb210) (o := .cells #[.int .i64 a0_0, .int .i64 a0_1, .slice A0_2 l0_2.length c0_2] 59 (0, 0)) (bk_ BK210.out)) : gb210 ≠ gb211)); have NB211_210 := AM ((by rw [hg]; exact Nat.ne_of_gt (blk_lt (g := gb210) (o := .cells #[.int .i64 a0_0, .int .i64 a0_1, .slice A0_2 l0_2.length c0_2] 59 (0, 0)) (bk_ BK210.out)) : gb211 ≠ gb210)); replace BK210 := AM (blk_below (g := gb210) (o := .cells #[.int .i64 a0_0, .int .i64 a0_1, .slice A0_2 l0_2.length c0_2] 59 (0, 0)) (bk_ BK210.out) hb); clear hb hbox hg) | ((with_reducible refine gate_dst (N := 3) rfl ?_); refine be_ 3 #[.int .i64 0, .int .i64 0, .slice none 0 0] 64 ?_; intro gb212 hg w5 hbox hb; have BK212 := AM hbox; have GW212 := AM ((by rw [hg]; exact (below_size bel_) : w.heap.size ≤ gb212)); have GE212 := AM ((by rw [hg]; exact (below_size bel_) : w.heap.size ≤ gb212)); replace HB := AM (below_step bel_ hb); have NB210_212 := AM ((by rw [hg]; exact Nat.ne_of_lt (blk_lt (g := gb210) (o := .cells #[.int .i64 a0_0, .int .i64 a0_1, .slice A0_2 l0_2.length c0_2] 59 (0, 0)) (bk_ BK210.out)) : gb210 ≠ gb212)); have NB212_210 := AM ((by rw [hg]; exact Nat.ne_of_gt (blk_lt (g := gb210) (o := .cells #[.int .i64 a0_0, .int .i64 a0_1, .slice A0_2 l0_2.length c0_2] 59 (0, 0)) (bk_ BK210.out)) : gb212 ≠ gb210)); replace BK210 := AM (blk_below (g := gb210) (o := .cells #[.int .i64 a0_0, .int .i64 a0_1, .slice A0_2 l0_2.length c0_2] 59 (0, 0)) (bk_ BK210.out) hb); have NB211_212 := AM ((by rw [hg]; exact Nat.ne_of_lt (blk_lt (g := gb211) (o := .cells #[.int .i64 0, .int .i64 0, .slice none 0 0] 64 (0, 0)) (bk_ BK211.out)) : gb211 ≠ gb212)); have NB212_211 := AM ((by rw [hg]; exact Nat.ne_of_gt (blk_lt (g := gb211) (o := .cells #[.int .i64 0, .int .i64 0, .slice none 0 0] 64 (0, 0)) (bk_ BK211.out)) : gb212 ≠ gb211)); replace BK211 := AM (blk_below (g := gb211) (o := .cells #[.int .i64 0, .int .i64 0, .slice none 0 0] 64 (0, 0)) (bk_ BK211.out) hb); clear hb hbox hg; have hnb6 := NB210_211.out; have hnc6 := NB211_210.out; have hnb7 := NB210_212.out; have hnc7 := NB212_210.out; have hcz8_0 : w5.cell? ⟨gb210, 0, none⟩ = some (.int .i64 a0_0) := (blk_cell BK210.out 0).trans rfl; have hcz8_1 : w5.cell? ⟨gb210, 1, none⟩ = some (.int .i64 a0_1) := (blk_cell BK210.out 1).trans rfl; have hcz8_2 : w5.cell? ⟨gb210, 2, none⟩ = some (.slice A0_2 l0_2.length c0_2) := (blk_cell BK210.out 2).trans rfl; have hfz8_0 := blk_frozen BK210.out 0; have hfz8_1 := blk_frozen BK210.out 1; have hfz8_2 := blk_frozen BK210.out 2; have hnb9 := NB212_211.out; have hnc9 := NB211_212.out; have hcz10_0 : w5.cell? ⟨gb212, 0, none⟩ = some (.int .i64 0) := (blk_cell BK212.out 0).trans rfl; have hcz10_1 : w5.cell? ⟨gb212, 1, none⟩ = some (.int .i64 0) := (blk_cell BK212.out 1).trans rfl; have hcz10_2 : w5.cell? ⟨gb212, 2, none⟩ = some (.slice none 0 0) := (blk_cell BK212.out 2).trans rfl; have hfz10_0 := blk_frozen BK212.out 0; have hfz10_1 := blk_frozen BK212.out 1; have hfz10_2 := blk_frozen BK212.out 2) | ((with_reducible refine gate_callee (f := 104) rfl ?_); refine gl_ (some 12) Try.func104 #[.slice A0_2 l0_2.length c0_2] ?_; (with_reducible refine (laws_toDriveS.calls k _ _ l0_2 t213 _ ?side1 ?side2 A2.out).mono ?_); (case side1 => exact Kd.C_below HR0_2.out bel_); (case side2 => exact HC0_2.out); rintro e w11 ⟨v214, rfl, ho0, hb⟩; refine ⟨_, rfl, ?_⟩; have n0_ := AM (Kd.S_lower ho0 (below_size bel_)); have n1_ := AM (blk_below (g := gb210) (o := .cells #[.int .i64 a0_0, .int .i64 a0_1, .slice A0_2 l0_2.length c0_2] 59 (0, 0)) bka_ hb); have n2_ := AM (blk_below (g := gb211) (o := .cells #[.int .i64 0, .int .i64 0, .slice none 0 0] 64 (0, 0)) bka_ hb); have n3_ := AM (blk_below (g := gb212) (o := .cells #[.int .i64 a0_0, .int .i64 a0_1, .slice none 0 0] 64 (0, 0)) bka_ hb); have n4_ := AM (below_step bel_ hb); clear BK210; clear BK211; clear BK212; clear HB; have HO215 := n0_; have BK210 := n1_; have BK211 := n2_; have BK212 := n3_; have HB := n4_; clear n0_ n1_ n2_ n3_ n4_; (try clear hb); (try clear hb2); (try clear hk); (try clear hi); (try clear ho0); obtain ⟨Ao12, co12, eo12⟩ := Kd.S_slice HO215.out; subst eo12; have hcz13_0 : w11.cell? ⟨gb212, 0, none⟩ = some (.int .i64 a0_0) := (blk_cell BK212.out 0).trans rfl; have hcz13_1 : w11.cell? ⟨gb212, 1, none⟩ = some (.int .i64 a0_1) := (blk_cell BK212.out 1).trans rfl; have hcz13_2 : w11.cell? ⟨gb212, 2, none⟩ = some (.slice none 0 0) := (blk_cell BK212.out 2).trans rfl; have hfz13_0 := blk_frozen BK212.out 0; have hfz13_1 := blk_frozen BK212.out 1; have hfz13_2 := blk_frozen BK212.out 2; have hcz14_0 : w11.cell? ⟨gb211, 0, none⟩ = some (.int .i64 0) := (blk_cell BK211.out 0).trans rfl; have hcz14_1 : w11.cell? ⟨gb211, 1, none⟩ = some (.int .i64 0) := (blk_cell BK211.out 1).trans rfl; have hcz14_2 : w11.cell? ⟨gb211, 2, none⟩ = some (.slice none 0 0) := (blk_cell BK211.out 2).trans rfl; have hfz14_0 := blk_frozen BK211.out 0; have hfz14_1 := blk_frozen BK211.out 1; have hfz14_2 := blk_frozen BK211.out 2))
  refine bodyPost_ret (results_cell_row rfl _ _ gb211 64 #[.int .i64 a0_0, .int .i64 a0_1, .slice Ao12 t213.length co12] (0, 0) _ rfl bka_ Try.underlying64 rfl (by kernel_rfl)) rfl ?_
  exact ⟨_, ri_, by (with_reducible repeat (first | apply Kd.S_alloc | apply Kd.S_drewN | apply Kd.S_drew)); exact Kd.S_mono (Kd.S_far (p := ⟨gb211, 2, none⟩) (Kd.S_far (p := ⟨gb211, 1, none⟩) (Kd.S_far (p := ⟨gb211, 0, none⟩) (Kd.S_far (p := ⟨gb212, 2, none⟩) (Kd.S_types (Kd.S_types HO215.out BK212.out (by decide)) BK211.out (by decide)) (fun _ hk => hk.1.2) (.slice Ao12 t213.length co12)) (fun _ hk => hk.2) (.int .i64 a0_0)) (fun _ hk => hk.2) (.int .i64 a0_1)) (fun _ hk => hk.2) (.slice Ao12 t213.length co12)) (fun _ hk => trivial), bel_⟩

/-! ### impl_within: function 89 -/
def impl_within.f (a0 : Int) (a1 : Int) (a2 : Int) : Option (Bool) := if a0 ≥ a1 then (some (decide (a0 ≤ a2))) else (some false)
set_option maxHeartbeats 8000000 in
set_option maxRecDepth 100000 in
theorem impl_within.calls (a0 : Int) (a1 : Int) (a2 : Int) (r : Bool) (w : World) (h : impl_within.f a0 a1 a2 = some r) :
    Calls Try.prog 89 #[.int .i64 a0, .int .i64 a1, .int .i64 a2] w fun e w' => e = .returned (.bool r) ∧ Drawn0 w w' := by
  have H : (if a0 ≥ a1 then (some (decide (a0 ≤ a2))) else (some false)) = some r := h
  clear h
  by_cases c4 : a0 ≥ a1
  · rw [if_pos c4] at H
    have c4b0 : decide (a1 ≤ a0) = true := decide_eq_true c4
    clear c4
    obtain rfl := Option.some.inj H
    go_enter Try.func89, Try.ntmps89
    go_wp2
    go_ret
    exact ⟨by first | rfl | (simp; done) | (simp [*]; done), by repeat (first | exact Drawn0.refl _ | apply Drawn0.step)⟩
  · rw [if_neg c4] at H
    have c4b0 : decide (a1 ≤ a0) = false := decide_eq_false c4
    clear c4
    obtain rfl := Option.some.inj H
    go_enter Try.func89, Try.ntmps89
    go_wp2
    go_ret
    exact ⟨by first | rfl | (simp; done) | (simp [*]; done), by repeat (first | exact Drawn0.refl _ | apply Drawn0.step)⟩

/-! ### impl_CodeRight: function 56 -/
def impl_CodeRight.f (a0 : Int) (a1 : Int) : Option (Bool) := (impl_within.f a0 1 8).bind fun t216 => (if t216 = true then ((impl_within.f a1 0 6).bind fun t217 => (some t217)) else (some false))
set_option maxHeartbeats 8000000 in
set_option maxRecDepth 100000 in
theorem impl_CodeRight.calls (a0 : Int) (a1 : Int) (r : Bool) (w : World) (h : impl_CodeRight.f a0 a1 = some r) :
    Calls Try.prog 56 #[.int .i64 a0, .int .i64 a1] w fun e w' => e = .returned (.bool r) ∧ Drawn0 w w' := by
  have H : ((impl_within.f a0 1 8).bind fun t216 => (if t216 = true then ((impl_within.f a1 0 6).bind fun t217 => (some t217)) else (some false))) = some r := h
  clear h
  obtain ⟨t216, A3, H⟩ := OB H
  try dsimp only at H
  replace A3 := AM A3
  by_cases c4 : t216 = true
  · subst c4
    rw [if_pos rfl] at H
    obtain ⟨t217, A5, H⟩ := OB H
    try dsimp only at H
    replace A5 := AM A5
    obtain rfl := Option.some.inj H
    go_enter Try.func56, Try.ntmps56
    go_wp2_with (first | ((with_reducible refine gate_callee (f := 89) rfl ?_); refine gl_ (some 6) Try.func89 #[.int .i64 a0, .int .i64 1, .int .i64 8] ?_; (with_reducible refine (impl_within.calls a0 1 8 true _ A3.out).mono ?_); rintro e w' ⟨rfl, ⟨nd, rfl⟩⟩; refine ⟨_, rfl, ?_⟩) | (go_at_call 89; (with_reducible refine (impl_within.calls a1 0 6 t217 _ A5.out).mono ?_); rintro e w' ⟨rfl, ⟨nd, rfl⟩⟩))
    go_ret
    exact ⟨by first | rfl | (simp; done) | (simp [*]; done), by repeat (first | exact Drawn0.refl _ | apply Drawn0.step)⟩
  · replace c4 := Bool.eq_false_iff.mpr c4
    subst c4
    rw [if_neg (show ¬ (false = true) by decide)] at H
    obtain rfl := Option.some.inj H
    go_enter Try.func56, Try.ntmps56
    go_wp2_with (first | ((with_reducible refine gate_callee (f := 89) rfl ?_); refine gl_ (some 6) Try.func89 #[.int .i64 a0, .int .i64 1, .int .i64 8] ?_; (with_reducible refine (impl_within.calls a0 1 8 false _ A3.out).mono ?_); rintro e w' ⟨rfl, ⟨nd, rfl⟩⟩; refine ⟨_, rfl, ?_⟩))
    go_ret
    exact ⟨by first | rfl | (simp; done) | (simp [*]; done), by repeat (first | exact Drawn0.refl _ | apply Drawn0.step)⟩

/-! ### impl_Drive_156: function 156 -/
def impl_Drive_156.f (l0 : List (S192)) : Option (Int) := some (l0.length : Int)
set_option maxHeartbeats 8000000 in
set_option maxRecDepth 100000 in
theorem impl_Drive_156.calls (A0 : Option Addr) (c0 : Nat) (l0 : List (S192)) (r : Int) (w : World) (hr0 : Kd.C k192 w A0 l0.length l0) (hc0 : l0.length ≤ c0) (h : impl_Drive_156.f l0 = some r) :
    Calls Try.prog 156 #[.slice A0 l0.length c0] w fun e w' => e = .returned (.int .i64 r) ∧ Drawn0 w w' := by
  have HR0 := AM hr0
  have HC0 := AM hc0
  clear hr0 hc0
  have H : (some (l0.length : Int)) = some r := h
  clear h
  obtain rfl := Option.some.inj H
  go_enter Try.func156, Try.ntmps156
  go_wp2
  go_ret
  exact ⟨by first | rfl | (simp; done) | (simp [*]; done), by repeat (first | exact Drawn0.refl _ | apply Drawn0.step)⟩

-- NOT PRINTED: function 188 (impl_Drive_188)

-- NOT PRINTED: function 157 (impl_Drive_157)

/-! ### impl_isLong: function 60 -/
def impl_isLong.f (a0 : ByteArray) : Option (Bool) := some (decide ((a0.size : Int) > 20000))
set_option maxHeartbeats 8000000 in
set_option maxRecDepth 100000 in
theorem impl_isLong.calls (a0 : ByteArray) (r : Bool) (w : World) (h : impl_isLong.f a0 = some r) :
    Calls Try.prog 60 #[.string a0] w fun e w' => e = .returned (.bool r) ∧ Drawn0 w w' := by
  have H : (some (decide ((a0.size : Int) > 20000))) = some r := h
  clear h
  obtain rfl := Option.some.inj H
  go_enter Try.func60, Try.ntmps60
  go_wp2
  go_ret
  exact ⟨by first | rfl | (simp; done) | (simp [*]; done), by repeat (first | exact Drawn0.refl _ | apply Drawn0.step)⟩

/-! ### impl_long: function 117 -/
def impl_long.f (a0 : ByteArray) : Option (Int) := some (a0.size : Int)
set_option maxHeartbeats 8000000 in
set_option maxRecDepth 100000 in
theorem impl_long.calls (a0 : ByteArray) (r : Int) (w : World) (h : impl_long.f a0 = some r) :
    Calls Try.prog 117 #[.string a0] w fun e w' => e = .returned (.int .i64 r) ∧ Drawn0 w w' := by
  have H : (some (a0.size : Int)) = some r := h
  clear h
  obtain rfl := Option.some.inj H
  go_enter Try.func117, Try.ntmps117
  go_wp2
  go_ret
  exact ⟨by first | rfl | (simp; done) | (simp [*]; done), by repeat (first | exact Drawn0.refl _ | apply Drawn0.step)⟩

end Go.Proofs.Ytdbnajnelbebfaa.PFnExactObjectNames
