/- Functions of the law FnExactPackRead: the print's, with walks of this session's own. No statement is proved here. -/
import Derived.WalkLawsBesides
import Derived.Test.YtfffdndeccipnaaDoorVRegFnExactPackRead
-- A program of this session wrote this text: a changed copy of the kit print, with given functions.
import Derived.Test.YtfffdndeccipnaaDoorPFnExactPackReadx0
import Derived.Test.YtfffdndeccipnaaDoorPFnExactPackReadx6
namespace Go.Proofs.YtfffdndeccipnaaDoor.PFnExactPackRead
open Go.RowKit Go.Proofs.YtfffdndeccipnaaDoorW.PrintWords Go.Proofs.YtfffdndeccipnaaDoorW.PrintLast Go.Proofs.YtfffdndeccipnaaDoorW.PrintMore Go.Proofs.YtfffdndeccipnaaDoor.Reg Go.Proofs.YtfffdndeccipnaaDoor.Aut
attribute [local go_sem] max2_int min2_int max_two min_two max_three min_three max_four min_four   -- for this text's walks alone
set_option linter.unusedVariables false
set_option linter.unusedSimpArgs false

/-! ### impl_getNum: function 120 -/
mutual
def impl_getNum.l0 : Nat → ByteArray → Int → Int → Int → Option (Int × Int × Int)
  | 0, _, _, _, _ => none
  | k + 1, x0, x1, x5, x6 => (impl_long.f x0).bind fun t263 => (if x1 > (wrap64 ((wrap64 (t263 - 1)) - x6)) then (some (0, 0, 4)) else (if 0 ≤ (wrap64 (x1 + x6)) then (if (wrap64 (x1 + x6)) < (x0.size : Int) then (if 0 ≤ (wrap64 (7 * x6)) then (if x6 = 9 then (impl_getNum.j1 k x0 x1 (Go.bits .or .u64 x5 (shl .u64 (IntKind.u64.wrap (Go.bits .and .u8 (bt x0 (wrap64 (x1 + x6))) 127)) (wrap64 (7 * x6)))) x6 (bt x0 (wrap64 (x1 + x6))) (decide ((bt x0 (wrap64 (x1 + x6))) > 1))) else (impl_getNum.j1 k x0 x1 (Go.bits .or .u64 x5 (shl .u64 (IntKind.u64.wrap (Go.bits .and .u8 (bt x0 (wrap64 (x1 + x6))) 127)) (wrap64 (7 * x6)))) x6 (bt x0 (wrap64 (x1 + x6))) false)) else (none)) else (none)) else (none)))
def impl_getNum.j1 : Nat → ByteArray → Int → Int → Int → Int → Bool → Option (Int × Int × Int)
  | 0, _, _, _, _, _, _ => none
  | k + 1, x0, x1, x5, x6, x7, x34 => if x34 = true then (impl_getNum.j2 k x0 x1 x5 x6 x7 x34) else (if x7 = 0 then (impl_getNum.j2 k x0 x1 x5 x6 x7 (decide (x6 > 0))) else (impl_getNum.j2 k x0 x1 x5 x6 x7 false))
def impl_getNum.j2 : Nat → ByteArray → Int → Int → Int → Int → Bool → Option (Int × Int × Int)
  | 0, _, _, _, _, _, _ => none
  | k + 1, x0, x1, x5, x6, x7, x34 => if x34 = true then (some (0, 0, 3)) else (if x7 < 128 then (some (Go.bits .xor .i64 (wrap64 (x5 / 2)) (wrap64 (-(wrap64 (Go.bits .and .u64 x5 1)))), wrap64 ((wrap64 (x1 + x6)) + 1), 0)) else (impl_getNum.l0 k x0 x1 x5 (wrap64 (x6 + 1))))
end
def impl_getNum.f (k : Nat) (a0 : ByteArray) (a1 : Int) : Option (Int × Int × Int) := if a1 < 0 then (some (0, 0, 1)) else (impl_getNum.l0 k a0 a1 0 0)
theorem impl_getNum.mono_l : ∀ k, (∀ y0 y1 y2 y3, LeO (impl_getNum.l0 k y0 y1 y2 y3) (impl_getNum.l0 (k + 1) y0 y1 y2 y3)) ∧ (∀ y0 y1 y2 y3 y4 y5, LeO (impl_getNum.j1 k y0 y1 y2 y3 y4 y5) (impl_getNum.j1 (k + 1) y0 y1 y2 y3 y4 y5)) ∧ (∀ y0 y1 y2 y3 y4 y5, LeO (impl_getNum.j2 k y0 y1 y2 y3 y4 y5) (impl_getNum.j2 (k + 1) y0 y1 y2 y3 y4 y5))
  | 0 => ⟨fun _ _ _ _ r h => by simp [impl_getNum.l0] at h, fun _ _ _ _ _ _ r h => by simp [impl_getNum.j1] at h, fun _ _ _ _ _ _ r h => by simp [impl_getNum.j2] at h⟩
  | k + 1 => by
    obtain ⟨ih0, ih1, ih2⟩ := impl_getNum.mono_l k
    refine ⟨?_, ?_, ?_⟩
    · intro y0 y1 y2 y3
      unfold impl_getNum.l0
      repeat' first
      | (with_reducible exact ih0 _ _ _ _)
      | (with_reducible exact ih1 _ _ _ _ _ _)
      | (with_reducible exact ih2 _ _ _ _ _ _)
      | (with_reducible exact LeO.refl _)
      | (with_reducible exact LeO.none _)
      | (with_reducible refine LeO.ite ?_ ?_)
      | (with_reducible refine LeO.bind ?_ (fun _ => ?_))
      | exact ih0 _ _ _ _
      | exact ih1 _ _ _ _ _ _
      | exact ih2 _ _ _ _ _ _
      | exact LeO.none _
      | refine LeO.ite ?_ ?_
      | refine LeO.bind ?_ (fun _ => ?_)
    · intro y0 y1 y2 y3 y4 y5
      unfold impl_getNum.j1
      repeat' first
      | (with_reducible exact ih0 _ _ _ _)
      | (with_reducible exact ih1 _ _ _ _ _ _)
      | (with_reducible exact ih2 _ _ _ _ _ _)
      | (with_reducible exact LeO.refl _)
      | (with_reducible exact LeO.none _)
      | (with_reducible refine LeO.ite ?_ ?_)
      | (with_reducible refine LeO.bind ?_ (fun _ => ?_))
      | exact ih0 _ _ _ _
      | exact ih1 _ _ _ _ _ _
      | exact ih2 _ _ _ _ _ _
      | exact LeO.none _
      | refine LeO.ite ?_ ?_
      | refine LeO.bind ?_ (fun _ => ?_)
    · intro y0 y1 y2 y3 y4 y5
      unfold impl_getNum.j2
      repeat' first
      | (with_reducible exact ih0 _ _ _ _)
      | (with_reducible exact ih1 _ _ _ _ _ _)
      | (with_reducible exact ih2 _ _ _ _ _ _)
      | (with_reducible exact LeO.refl _)
      | (with_reducible exact LeO.none _)
      | (with_reducible refine LeO.ite ?_ ?_)
      | (with_reducible refine LeO.bind ?_ (fun _ => ?_))
      | exact ih0 _ _ _ _
      | exact ih1 _ _ _ _ _ _
      | exact ih2 _ _ _ _ _ _
      | exact LeO.none _
      | refine LeO.ite ?_ ?_
      | refine LeO.bind ?_ (fun _ => ?_)
theorem impl_getNum.mono : ∀ a0 a1 k, LeO (impl_getNum.f k a0 a1) (impl_getNum.f (k + 1) a0 a1) := by
  intro a0 a1 k
  obtain ⟨ih0, ih1, ih2⟩ := impl_getNum.mono_l k
  unfold impl_getNum.f
  repeat' first
      | (with_reducible exact ih0 _ _ _ _)
      | (with_reducible exact ih1 _ _ _ _ _ _)
      | (with_reducible exact ih2 _ _ _ _ _ _)
      | (with_reducible exact LeO.refl _)
      | (with_reducible exact LeO.none _)
      | (with_reducible refine LeO.ite ?_ ?_)
      | (with_reducible refine LeO.bind ?_ (fun _ => ?_))
      | exact ih0 _ _ _ _
      | exact ih1 _ _ _ _ _ _
      | exact ih2 _ _ _ _ _ _
      | exact LeO.none _
      | refine LeO.ite ?_ ?_
      | refine LeO.bind ?_ (fun _ => ?_)
set_option maxHeartbeats 8000000 in
set_option maxRecDepth 100000 in
theorem impl_getNum.calls (k : Nat) (a0 : ByteArray) (a1 : Int) (r1 : Int) (r2 : Int) (r3 : Int) (w : World) (h : impl_getNum.f k a0 a1 = some (r1, r2, r3)) :
    Calls Tryd.prog 120 #[.string a0, .int .i64 a1] w fun e w' => e = .returned (.agg #[.int .i64 r1, .int .i64 r2, .int .i64 r3]) ∧ Below w.heap.size w w' := by
  have hu102 := Tryd.underlying102
  have HB := AM (Below.refl w.heap.size w)
  have H : (if a1 < 0 then (some (0, 0, 1)) else (impl_getNum.l0 k a0 a1 0 0)) = some (r1, r2, r3) := h
  clear h
  by_cases c3 : a1 < 0
  · rw [if_pos c3] at H
    have c3b0 : decide (a1 < 0) = true := decide_eq_true c3
    clear c3
    simp only [Option.some.injEq, Prod.mk.injEq] at H
    obtain ⟨rfl, rfl, rfl⟩ := H
    go_enter Tryd.func120, Tryd.ntmps120
    go_wp2_with (first | ((with_reducible refine gate_dst (N := 4) rfl ?_); refine be_ 4 #[.int .i64 0, .int .i64 0, .int .i64 0] 102 ?_; intro gb262 hg w4 hbox hb; have BK262 := AM hbox; have GW262 := AM ((by rw [hg]; exact (below_size bel_) : w.heap.size ≤ gb262)); have GE262 := AM ((by rw [hg]; exact (below_size bel_) : w.heap.size ≤ gb262)); replace HB := AM (below_step bel_ hb); clear hb hbox hg; have hcz5_0 : w4.cell? ⟨gb262, 0, none⟩ = some (.int .i64 0) := (blk_cell BK262.out 0).trans rfl; have hcz5_1 : w4.cell? ⟨gb262, 1, none⟩ = some (.int .i64 0) := (blk_cell BK262.out 1).trans rfl; have hcz5_2 : w4.cell? ⟨gb262, 2, none⟩ = some (.int .i64 0) := (blk_cell BK262.out 2).trans rfl; have hfz5_0 := blk_frozen BK262.out 0; have hfz5_1 := blk_frozen BK262.out 1; have hfz5_2 := blk_frozen BK262.out 2))
    refine bodyPost_ret (results_cell_row rfl _ _ gb262 102 #[.int .i64 0, .int .i64 0, .int .i64 1] (0, 0) _ rfl bka_ Tryd.underlying102 rfl (by kernel_rfl)) rfl ?_
    exact ⟨ri_, bel_⟩
  · rw [if_neg c3] at H
    have c3b0 : decide (a1 < 0) = false := decide_eq_false c3
    clear c3
    have H' := AM H
    clear H
    go_enter Tryd.func120, Tryd.ntmps120
    go_wp2_with (first | ((with_reducible refine gate_dst (N := 4) rfl ?_); refine be_ 4 #[.int .i64 0, .int .i64 0, .int .i64 0] 102 ?_; intro gb262 hg w6 hbox hb; have BK262 := AM hbox; have GW262 := AM ((by rw [hg]; exact (below_size bel_) : w.heap.size ≤ gb262)); have GE262 := AM ((by rw [hg]; exact (below_size bel_) : w.heap.size ≤ gb262)); replace HB := AM (below_step bel_ hb); clear hb hbox hg))
    go_loopg [5, 6] k (fun kq v5 v6 w' => ∃ (x5_1 : Int) (x6_1 : Int) (x263000_1 : Int) (x263001_1 : Int) (x263002_1 : Int), v5 = .int .u64 x5_1 ∧ v6 = .int .i64 x6_1 ∧ Aside0 (impl_getNum.l0 kq a0 a1 x5_1 x6_1 = some (r1, r2, r3)) ∧ Aside0 (kq ≤ k) ∧ Aside0 (w'.heap[gb262]? = some (.cells #[.int .i64 x263000_1, .int .i64 x263001_1, .int .i64 x263002_1] 102 (0, 0))) ∧ Aside0 (Below w.heap.size w w'))
    case atStart => exact ⟨(0), (0), (0), (0), (0), (by first | rfl | (simp; done) | (simp [*]; done)), (by first | rfl | (simp; done) | (simp [*]; done)), H', ⟨Nat.le_refl _⟩, ⟨bk_ BK262.out⟩, ⟨bel_⟩⟩
    case round =>
      clear H'
      try clear c1
      try clear p2
      try clear c3
      try clear c3b0
      try clear hcz5_0
      try clear hcz5_1
      try clear hcz5_2
      try clear hfz5_0
      try clear hfz5_1
      try clear hfz5_2
      obtain ⟨x5_1, x6_1, x263000_1, x263001_1, x263002_1, rfl, rfl, HA, HK1, BK262, HB⟩ := hrel
      cases gk with
      | zero => exact absurd HA.out (by simp [impl_getNum.l0])
      | succ k1 =>
        have H := HA.out
        clear HA
        simp only [impl_getNum.l0] at H
        obtain ⟨t263, A7, H⟩ := OB H
        try dsimp only at H
        replace A7 := AM A7
        by_cases c8 : a1 > (wrap64 ((wrap64 (t263 - 1)) - x6_1))
        · rw [if_pos c8] at H
          have c8b0 : decide ((wrap64 ((wrap64 (t263 - 1)) - x6_1)) < a1) = true := decide_eq_true c8
          try have c8b9 : (decide (((((t263 - 1)) - x6_1)) < a1)) = true := (by have hw0 : wrap64 (t263 - 1) = t263 - 1 := (by unfold wrap64; omega); have hw1 : wrap64 (((t263 - 1)) - x6_1) = ((t263 - 1)) - x6_1 := (by unfold wrap64; omega); have z_ := c8b0; simp only [hw0, hw1] at z_; exact z_)
          clear c8
          simp only [Option.some.injEq, Prod.mk.injEq] at H
          obtain ⟨rfl, rfl, rfl⟩ := H
          go_wp2_with (first | ((with_reducible refine gate_callee (f := 42) rfl ?_); refine gl_ (some 15) Tryd.func42 #[.string a0] ?_; (with_reducible refine (impl_long.calls a0 t263 _ A7.out).mono ?_); rintro e w' ⟨rfl, ⟨nd, rfl⟩⟩; refine ⟨_, rfl, ?_⟩; (try (rw [drewN_self wr]; generalize hq_ : World.drewN wr _ = wr; replace BK262 : Aside0 (wr.heap[gb262]? = some (.cells #[.int .i64 x263000_1, .int .i64 x263001_1, .int .i64 x263002_1] 102 (0, 0))) := ⟨by rw [← hq_]; exact (bk_ BK262.out)⟩; replace HB : Aside0 (Below w.heap.size w wr) := ⟨by rw [← hq_]; exact bel_⟩; clear hq_)); have hcz9_0 : wr.cell? ⟨gb262, 0, none⟩ = some (.int .i64 x263000_1) := (blk_cell BK262.out 0).trans rfl; have hcz9_1 : wr.cell? ⟨gb262, 1, none⟩ = some (.int .i64 x263001_1) := (blk_cell BK262.out 1).trans rfl; have hcz9_2 : wr.cell? ⟨gb262, 2, none⟩ = some (.int .i64 x263002_1) := (blk_cell BK262.out 2).trans rfl; have hfz9_0 := blk_frozen BK262.out 0; have hfz9_1 := blk_frozen BK262.out 1; have hfz9_2 := blk_frozen BK262.out 2))
          refine bodyPost_ret (results_cell_row rfl _ _ gb262 102 #[.int .i64 0, .int .i64 0, .int .i64 4] (0, 0) _ rfl bka_ Tryd.underlying102 rfl (by kernel_rfl)) rfl ?_
          exact ⟨ri_, bel_⟩
        · rw [if_neg c8] at H
          have c8b0 : decide ((wrap64 ((wrap64 (t263 - 1)) - x6_1)) < a1) = false := decide_eq_false c8
          try have c8b9 : (decide (((((t263 - 1)) - x6_1)) < a1)) = false := (by have hw0 : wrap64 (t263 - 1) = t263 - 1 := (by unfold wrap64; omega); have hw1 : wrap64 (((t263 - 1)) - x6_1) = ((t263 - 1)) - x6_1 := (by unfold wrap64; omega); have z_ := c8b0; simp only [hw0, hw1] at z_; exact z_)
          clear c8
          obtain ⟨ji10, hji10⟩ : ∃ j_ : Int, (wrap64 (a1 + x6_1)) = j_ := ⟨_, rfl⟩
          replace H : (if 0 ≤ (ji10) then (if (ji10) < (a0.size : Int) then (if 0 ≤ (wrap64 (7 * x6_1)) then (if x6_1 = 9 then (impl_getNum.j1 k1 a0 a1 (Go.bits .or .u64 x5_1 (shl .u64 (IntKind.u64.wrap (Go.bits .and .u8 (bt a0 (ji10)) 127)) (wrap64 (7 * x6_1)))) x6_1 (bt a0 (ji10)) (decide ((bt a0 (ji10)) > 1))) else (impl_getNum.j1 k1 a0 a1 (Go.bits .or .u64 x5_1 (shl .u64 (IntKind.u64.wrap (Go.bits .and .u8 (bt a0 (ji10)) 127)) (wrap64 (7 * x6_1)))) x6_1 (bt a0 (ji10)) false)) else (none)) else (none)) else (none)) = some (r1, r2, r3) := by first | (rw [hji10] at H; exact H) | (simp only [hji10] at H ⊢; exact H)
          (try rw [hji10] at A7)
          have hji10w : (IntKind.i64.wrap (a1 + x6_1)) = ji10 := (i64_w _).trans hji10
          by_cases c11 : 0 ≤ (ji10)
          · rw [if_pos c11] at H
            have c11b0 : decide (0 ≤ (ji10)) = true := decide_eq_true c11
            clear c11
            by_cases c12 : (ji10) < (a0.size : Int)
            · rw [if_pos c12] at H
              have c12b0 : decide ((ji10) < (a0.size : Int)) = true := decide_eq_true c12
              clear c12
              obtain ⟨ji14, hji14⟩ : ∃ j_ : Int, (wrap64 (7 * x6_1)) = j_ := ⟨_, rfl⟩
              replace H : (if 0 ≤ (ji14) then (if x6_1 = 9 then (impl_getNum.j1 k1 a0 a1 (Go.bits .or .u64 x5_1 (shl .u64 (IntKind.u64.wrap (Go.bits .and .u8 (bt a0 (ji10)) 127)) (ji14))) x6_1 (bt a0 (ji10)) (decide ((bt a0 (ji10)) > 1))) else (impl_getNum.j1 k1 a0 a1 (Go.bits .or .u64 x5_1 (shl .u64 (IntKind.u64.wrap (Go.bits .and .u8 (bt a0 (ji10)) 127)) (ji14))) x6_1 (bt a0 (ji10)) false)) else (none)) = some (r1, r2, r3) := by first | (rw [hji14] at H; exact H) | (simp only [hji14] at H ⊢; exact H)
              (try rw [hji14] at A7)
              have hji14w : (IntKind.i64.wrap (7 * x6_1)) = ji14 := (i64_w _).trans hji14
              by_cases c15 : 0 ≤ (ji14)
              · rw [if_pos c15] at H
                have c15b0 := eq_true c15
                have c15b1 : decide (0 ≤ (ji14)) = true := decide_eq_true c15
                clear c15
                obtain ⟨ji16, hji16⟩ : ∃ j_ : Int, (shl .u64 (IntKind.u64.wrap (Go.bits .and .u8 (bt a0 (ji10)) 127)) (ji14)) = j_ := ⟨_, rfl⟩
                replace H : (if x6_1 = 9 then (impl_getNum.j1 k1 a0 a1 (Go.bits .or .u64 x5_1 (ji16)) x6_1 (bt a0 (ji10)) (decide ((bt a0 (ji10)) > 1))) else (impl_getNum.j1 k1 a0 a1 (Go.bits .or .u64 x5_1 (ji16)) x6_1 (bt a0 (ji10)) false)) = some (r1, r2, r3) := by first | (rw [hji16] at H; exact H) | (simp only [hji16] at H ⊢; exact H)
                (try rw [hji16] at A7)
                have hji16_ : (IntKind.u64.wrap ((IntKind.u64.wrap (Go.bits .and .u8 (bt a0 (ji10)) 127)) * 2 ^ min (ji14).toNat 64)) = ji16 := hji16
                have hji16z : (ji14) ≤ 64 → (IntKind.u64.wrap ((IntKind.u64.wrap (Go.bits .and .u8 (bt a0 (ji10)) 127)) * 2 ^ (ji14).toNat)) = ji16 := shl_small hji16
                have HC17 := AM H
                clear H
                go_upto_region 10 with (first | ((with_reducible refine gate_callee (f := 42) rfl ?_); refine gl_ (some 15) Tryd.func42 #[.string a0] ?_; (with_reducible refine (impl_long.calls a0 t263 _ A7.out).mono ?_); rintro e w' ⟨rfl, ⟨nd, rfl⟩⟩; refine ⟨_, rfl, ?_⟩; have p13 : 0 ≤ ((ji10) : Int) := of_decide_eq_true (by first | (with_reducible assumption) | assumption); have q13 : (ji10) < (a0.size : Int) := of_decide_eq_true (by first | (with_reducible assumption) | assumption); have hx13 := bt_at a0 (ji10); replace p13 := eq_true p13; replace q13 := eq_true q13))
                (try simp only [Act.put, List.setIfInBounds_toArray, List.set_cons_zero, List.set_cons_succ])
                go_cut [34] (fun v34 wc => ∃ (kq : Nat) (x34_16 : Bool), v34 = .bool x34_16 ∧ Aside0 (impl_getNum.j1 kq a0 a1 (Go.bits .or .u64 x5_1 (ji16)) x6_1 (bt a0 (ji10)) x34_16 = some (r1, r2, r3)) ∧ Aside0 (kq ≤ k1) ∧ Aside0 (wc.heap[gb262]? = some (.cells #[.int .i64 x263000_1, .int .i64 x263001_1, .int .i64 x263002_1] 102 (0, 0))) ∧ Aside0 (Below w.heap.size w wc))
                case first =>
                  have H := HC17.out
                  clear HC17
                  by_cases c18 : x6_1 = 9
                  · rw [if_pos c18] at H
                    have c18b0 : (x6_1 == 9) = true := beq_iff_eq.mpr c18
                    have c18b1 : (x6_1 != 9) = false := bne_eq_false_iff_eq.mpr c18
                    clear c18
                    (first | rw [c18b0] | (simp only [i64_w, i32_w]; rw [c18b0]) | skip)
                    have H' := AM H
                    clear H
                    go_wp2
                    go_meet
                    case rel => exact ⟨_, (decide ((bt a0 (ji10)) > 1)), (by first | rfl | (simp; done) | (simp only [← hji10] <;> (first | rfl | simp)) | (simp [*]; done)), H', ⟨by have := HK1.out; first | omega | exact Nat.le_refl _⟩, ⟨bk_ BK262.out⟩, ⟨bel_⟩⟩
                  · rw [if_neg c18] at H
                    have c18b0 : (x6_1 == 9) = false := beq_eq_false_iff_ne.mpr c18
                    have c18b1 : (x6_1 != 9) = true := bne_iff_ne.mpr c18
                    (first | rw [c18b0] | (simp only [i64_w, i32_w]; rw [c18b0]) | skip)
                    have H' := AM H
                    clear H
                    go_wp2
                    go_meet
                    case rel => exact ⟨_, (false), (by first | rfl | (simp; done) | (simp [*]; done)), H', ⟨by have := HK1.out; first | omega | exact Nat.le_refl _⟩, ⟨bk_ BK262.out⟩, ⟨bel_⟩⟩
                case rest =>
                  clear HC17
                  try clear c1
                  try clear p1
                  try clear q1
                  try clear hx1
                  try clear p2
                  try clear c3
                  try clear c3b0
                  try clear c4
                  try clear p6
                  try clear c8
                  try clear c8b0
                  try clear c11
                  try clear c11b0
                  try clear c12
                  try clear c12b0
                  try clear p13
                  try clear q13
                  try clear hx13
                  try clear c15
                  try clear c15b0
                  try clear c15b1
                  try clear c18
                  try clear c18b0
                  try clear c18b1
                  try clear hcz5_0
                  try clear hcz5_1
                  try clear hcz5_2
                  try clear hcz9_0
                  try clear hcz9_1
                  try clear hcz9_2
                  try clear hfz5_0
                  try clear hfz5_1
                  try clear hfz5_2
                  try clear hfz9_0
                  try clear hfz9_1
                  try clear hfz9_2
                  try clear p13
                  try clear p2
                  try clear q13
                  obtain ⟨kq, x34_16, rfl, HA, HJ16, BK262, HB⟩ := hcut
                  cases kq with
                  | zero => exact absurd HA.out (by simp [impl_getNum.j1])
                  | succ kj16 =>
                    have H := HA.out
                    clear HA
                    simp only [impl_getNum.j1] at H
                    have HC19 := AM H
                    clear H
                    go_upto_if 34 with (fail)
                    go_cut [34] (fun v34 wc => ∃ (kq : Nat) (x34_18 : Bool), v34 = .bool x34_18 ∧ Aside0 (impl_getNum.j2 kq a0 a1 (Go.bits .or .u64 x5_1 (ji16)) x6_1 (bt a0 (ji10)) x34_18 = some (r1, r2, r3)) ∧ Aside0 (kq ≤ kj16) ∧ Aside0 (wc.heap[gb262]? = some (.cells #[.int .i64 x263000_1, .int .i64 x263001_1, .int .i64 x263002_1] 102 (0, 0))) ∧ Aside0 (Below w.heap.size w wc))
                    case first =>
                      have H := HC19.out
                      clear HC19
                      by_cases c20 : x34_16 = true
                      · subst c20
                        rw [if_pos rfl] at H
                        have H' := AM H
                        clear H
                        go_wp2
                        go_meet
                        case rel => exact ⟨_, (true), (by first | rfl | (simp; done) | (simp [*]; done)), H', ⟨by have := HK1.out; have := HJ16.out; first | omega | exact Nat.le_refl _⟩, ⟨bk_ BK262.out⟩, ⟨bel_⟩⟩
                      · replace c20 := Bool.eq_false_iff.mpr c20
                        subst c20
                        rw [if_neg (show ¬ (false = true) by decide)] at H
                        by_cases c21 : (bt a0 (ji10)) = 0
                        · rw [if_pos c21] at H
                          have c21b0 : ((bt a0 (ji10)) == 0) = true := beq_iff_eq.mpr c21
                          have c21b1 : ((bt a0 (ji10)) != 0) = false := bne_eq_false_iff_eq.mpr c21
                          clear c21
                          (first | rw [c21b0] | (simp only [i64_w, i32_w]; rw [c21b0]) | skip)
                          have H' := AM H
                          clear H
                          go_wp2
                          go_meet
                          case rel => exact ⟨_, (decide (x6_1 > 0)), (by first | rfl | (simp; done) | (simp [*]; done)), H', ⟨by have := HK1.out; have := HJ16.out; first | omega | exact Nat.le_refl _⟩, ⟨bk_ BK262.out⟩, ⟨bel_⟩⟩
                        · rw [if_neg c21] at H
                          have c21b0 : ((bt a0 (ji10)) == 0) = false := beq_eq_false_iff_ne.mpr c21
                          have c21b1 : ((bt a0 (ji10)) != 0) = true := bne_iff_ne.mpr c21
                          (first | rw [c21b0] | (simp only [i64_w, i32_w]; rw [c21b0]) | skip)
                          have H' := AM H
                          clear H
                          go_wp2
                          go_meet
                          case rel => exact ⟨_, (false), (by first | rfl | (simp; done) | (simp [*]; done)), H', ⟨by have := HK1.out; have := HJ16.out; first | omega | exact Nat.le_refl _⟩, ⟨bk_ BK262.out⟩, ⟨bel_⟩⟩
                    case rest =>
                      clear HC19
                      try clear c1
                      try clear p1
                      try clear q1
                      try clear hx1
                      try clear c2
                      try clear p2
                      try clear c3
                      try clear c3b0
                      try clear c4
                      try clear p6
                      try clear c8
                      try clear c8b0
                      try clear c11
                      try clear c11b0
                      try clear c12
                      try clear c12b0
                      try clear p13
                      try clear q13
                      try clear hx13
                      try clear c15
                      try clear c15b0
                      try clear c15b1
                      try clear c18
                      try clear c18b0
                      try clear c18b1
                      try clear c20
                      try clear c21
                      try clear c21b0
                      try clear c21b1
                      try clear hcz5_0
                      try clear hcz5_1
                      try clear hcz5_2
                      try clear hcz9_0
                      try clear hcz9_1
                      try clear hcz9_2
                      try clear hfz5_0
                      try clear hfz5_1
                      try clear hfz5_2
                      try clear hfz9_0
                      try clear hfz9_1
                      try clear hfz9_2
                      try clear p1
                      try clear p13
                      try clear p2
                      try clear p6
                      try clear q1
                      try clear q13
                      obtain ⟨kq, x34_18, rfl, HA, HJ18, BK262, HB⟩ := hcut
                      cases kq with
                      | zero => exact absurd HA.out (by simp [impl_getNum.j2])
                      | succ kj18 =>
                        have H := HA.out
                        clear HA
                        simp only [impl_getNum.j2] at H
                        by_cases c22 : x34_18 = true
                        · subst c22
                          rw [if_pos rfl] at H
                          simp only [Option.some.injEq, Prod.mk.injEq] at H
                          obtain ⟨rfl, rfl, rfl⟩ := H
                          have hcz23_0 : wc.cell? ⟨gb262, 0, none⟩ = some (.int .i64 x263000_1) := (blk_cell BK262.out 0).trans rfl
                          have hcz23_1 : wc.cell? ⟨gb262, 1, none⟩ = some (.int .i64 x263001_1) := (blk_cell BK262.out 1).trans rfl
                          have hcz23_2 : wc.cell? ⟨gb262, 2, none⟩ = some (.int .i64 x263002_1) := (blk_cell BK262.out 2).trans rfl
                          have hfz23_0 := blk_frozen BK262.out 0
                          have hfz23_1 := blk_frozen BK262.out 1
                          have hfz23_2 := blk_frozen BK262.out 2
                          go_wp2
                          refine bodyPost_ret (results_cell_row rfl _ _ gb262 102 #[.int .i64 0, .int .i64 0, .int .i64 3] (0, 0) _ rfl bka_ Tryd.underlying102 rfl (by kernel_rfl)) rfl ?_
                          exact ⟨by first | rfl | (simp [errW_none, errW_some] <;> rfl) | (simp only [← hji10, ← hji14, ← hji16]; first | rfl | (simp [errW_none, errW_some] <;> rfl)) | (simp [*, errW_none, errW_some] <;> rfl), bel_⟩
                        · replace c22 := Bool.eq_false_iff.mpr c22
                          subst c22
                          rw [if_neg (show ¬ (false = true) by decide)] at H
                          by_cases c24 : (bt a0 (ji10)) < 128
                          · rw [if_pos c24] at H
                            have c24b0 : decide ((bt a0 (ji10)) < 128) = true := decide_eq_true c24
                            clear c24
                            simp only [Option.some.injEq, Prod.mk.injEq] at H
                            obtain ⟨rfl, rfl, rfl⟩ := H
                            have hcz25_0 : wc.cell? ⟨gb262, 0, none⟩ = some (.int .i64 x263000_1) := (blk_cell BK262.out 0).trans rfl
                            have hcz25_1 : wc.cell? ⟨gb262, 1, none⟩ = some (.int .i64 x263001_1) := (blk_cell BK262.out 1).trans rfl
                            have hcz25_2 : wc.cell? ⟨gb262, 2, none⟩ = some (.int .i64 x263002_1) := (blk_cell BK262.out 2).trans rfl
                            have hfz25_0 := blk_frozen BK262.out 0
                            have hfz25_1 := blk_frozen BK262.out 1
                            have hfz25_2 := blk_frozen BK262.out 2
                            go_wp2
                            (try rw [← hji10])
                            refine bodyPost_ret (results_cell_row rfl _ _ gb262 102 #[.int .i64 (Go.bits .xor .i64 (wrap64 ((Go.bits .or .u64 x5_1 (ji16)) / 2)) (wrap64 (-(wrap64 (Go.bits .and .u64 (Go.bits .or .u64 x5_1 (ji16)) 1))))), .int .i64 (wrap64 ((wrap64 (a1 + x6_1)) + 1)), .int .i64 0] (0, 0) _ rfl bka_ Tryd.underlying102 rfl (by kernel_rfl)) rfl ?_
                            exact ⟨by first | rfl | (simp [errW_none, errW_some] <;> rfl) | (simp only [← hji10, ← hji14, ← hji16]; first | rfl | (simp [errW_none, errW_some] <;> rfl)) | (simp [*, errW_none, errW_some] <;> rfl), bel_⟩
                          · rw [if_neg c24] at H
                            have c24b0 : decide ((bt a0 (ji10)) < 128) = false := decide_eq_false c24
                            clear c24
                            have H' := AM H
                            clear H
                            go_wp2
                            go_roundg kj18
                            case measure => have := HK1.out; have := HJ16.out; have := HJ18.out; omega
                            case rel => exact ⟨((Go.bits .or .u64 x5_1 (ji16))), (wrap64 (x6_1 + 1)), (x263000_1), (x263001_1), (x263002_1), (by first | rfl | (simp; done) | (simp only [← hji16] <;> (first | rfl | simp)) | (simp [*]; done)), (by first | rfl | (simp; done) | (simp [*]; done)), H', ⟨by have := HK1.out; have := HJ16.out; have := HJ18.out; omega⟩, ⟨bk_ BK262.out⟩, ⟨bel_⟩⟩
              · rw [if_neg c15] at H
                exact absurd H (by simp)
            · rw [if_neg c12] at H
              exact absurd H (by simp)
          · rw [if_neg c11] at H
            exact absurd H (by simp)

end Go.Proofs.YtfffdndeccipnaaDoor.PFnExactPackRead
