import Derived.Test.YtfffdndeccipnaaDoorPFnPackx0
import Derived.Test.YtfffdndeccipnaaDoorPFnPackx0
import Derived.Test.YtfffdndeccipnaaDoorHEFnPack
import Derived.WalkLawsBesides
namespace Go.Proofs.YtfffdndeccipnaaDoor.PFnPack
open Go.RowKit Go.Proofs.YtfffdndeccipnaaDoorW.PrintWords Go.Proofs.YtfffdndeccipnaaDoorW.PrintLast Go.Proofs.YtfffdndeccipnaaDoorW.PrintMore Go.Proofs.YtfffdndeccipnaaDoor.Aut Go.Proofs.YtfffdndeccipnaaDoor.Reg
attribute [local go_sem] max2_int min2_int max_two min_two y9_ y8_ max_four min_four
set_option linter.unusedVariables false
set_option linter.unusedSimpArgs false
set_option maxHeartbeats 8000000
set_option maxRecDepth 100000
theorem eqA60 (d : Nat) (w : World) (x0 y0 : Int) (x1 y1 : ByteArray) :
 (Op.equalIn (d + 2) 60 (.agg #[.int .i64 x0, .string x1]) (.agg #[.int .i64 y0, .string y1])).run Tryd.prog w = .ok (x0 == y0 && (x1.toList == y1.toList)) w := by
 refine eqA_of Tryd.underlying60 (by kernel_rfl) ?_
 refine eqf_cons (by rfl) (by go_simp; rfl) (by go_simp; rfl) (by go_simp) ?_
 exact eqf_last (by rfl) (by go_simp; rfl) (by go_simp; rfl) (by go_simp)
/-! ### zl_: function 82 -/
mutual
def zl_.l0 : Nat → ByteArray → Int → Int → Int → Option (Int × Int × Int)
 | 0, _, _, _, _ => none
 | k + 1, x0, x1, x5, x6 => if x6 < 10 then (if x1 ≥ (wrap64 ((x0.size : Int) - x6)) then (some (0, 0, 4)) else (if 0 ≤ (wrap64 (x1 + x6)) then (if (wrap64 (x1 + x6)) < (x0.size : Int) then (if x6 = 9 then (zl_.j1 k x0 x1 x5 x6 (IntKind.u64.wrap (bt x0 (wrap64 (x1 + x6)))) (decide ((IntKind.u64.wrap (bt x0 (wrap64 (x1 + x6)))) > 1))) else (zl_.j1 k x0 x1 x5 x6 (IntKind.u64.wrap (bt x0 (wrap64 (x1 + x6)))) false)) else (none)) else (none))) else (some (0, 0, 3))
def zl_.j1 : Nat → ByteArray → Int → Int → Int → Int → Bool → Option (Int × Int × Int)
 | 0, _, _, _, _, _, _ => none
 | k + 1, x0, x1, x5, x6, x7, x38 => if x38 = true then (some (0, 0, 3)) else (if 0 ≤ (IntKind.u64.wrap (wrap64 (7 * x6))) then (if x7 < 128 then (if x7 = 0 then (zl_.j2 k x1 (IntKind.u64.wrap (x5 + (shl .u64 (Int.tmod x7 128) (IntKind.u64.wrap (wrap64 (7 * x6)))))) x6 (decide (x6 > 0))) else (zl_.j2 k x1 (IntKind.u64.wrap (x5 + (shl .u64 (Int.tmod x7 128) (IntKind.u64.wrap (wrap64 (7 * x6)))))) x6 false)) else (zl_.l0 k x0 x1 (IntKind.u64.wrap (x5 + (shl .u64 (Int.tmod x7 128) (IntKind.u64.wrap (wrap64 (7 * x6)))))) (wrap64 (x6 + 1)))) else (none))
def zl_.j2 : Nat → Int → Int → Int → Bool → Option (Int × Int × Int)
 | 0, _, _, _, _ => none
 | k + 1, x1, x5, x6, x55 => if x55 = true then (some (0, 0, 3)) else (if (Int.tmod x5 2) = 1 then (some (wrap64 ((wrap64 (-(wrap64 (IntKind.u64.wrap (Int.tdiv x5 2))))) - 1), wrap64 ((wrap64 (x1 + x6)) + 1), 0)) else (some (wrap64 (IntKind.u64.wrap (Int.tdiv x5 2)), wrap64 ((wrap64 (x1 + x6)) + 1), 0)))
end
def zl_.f (k : Nat) (a0 : ByteArray) (a1 : Int) : Option (Int × Int × Int) := if (a0.size : Int) > 20000 then (some (0, 0, 2)) else (if a1 < 0 then (some (0, 0, 1)) else (zl_.l0 k a0 a1 0 0))
theorem zl_.mono_l : ∀ k, (∀ y0 y1 y2 y3, LeO (zl_.l0 k y0 y1 y2 y3) (zl_.l0 (k + 1) y0 y1 y2 y3)) ∧ (∀ y0 y1 y2 y3 y4 y5, LeO (zl_.j1 k y0 y1 y2 y3 y4 y5) (zl_.j1 (k + 1) y0 y1 y2 y3 y4 y5)) ∧ (∀ y0 y1 y2 y3, LeO (zl_.j2 k y0 y1 y2 y3) (zl_.j2 (k + 1) y0 y1 y2 y3))
 | 0 => ⟨fun _ _ _ _ r h => by simp [zl_.l0] at h, fun _ _ _ _ _ _ r h => by simp [zl_.j1] at h, fun _ _ _ _ r h => by simp [zl_.j2] at h⟩
 | k + 1 => by
  obtain ⟨ih0, ih1, ih2⟩ := zl_.mono_l k
  refine ⟨?_, ?_, ?_⟩
  ·
   intro y0 y1 y2 y3
   unfold zl_.l0
   repeat' with_reducible first | exact ih0 _ _ _ _ | exact ih1 _ _ _ _ _ _ | exact ih2 _ _ _ _ | exact LeO.refl _ | exact LeO.none _ | refine LeO.ite ?_ ?_ | refine LeO.bind ?_ (fun _ => ?_)
  ·
   intro y0 y1 y2 y3 y4 y5
   unfold zl_.j1
   repeat' with_reducible first | exact ih0 _ _ _ _ | exact ih1 _ _ _ _ _ _ | exact ih2 _ _ _ _ | exact LeO.refl _ | exact LeO.none _ | refine LeO.ite ?_ ?_ | refine LeO.bind ?_ (fun _ => ?_)
  ·
   intro y0 y1 y2 y3
   unfold zl_.j2
   repeat' with_reducible first | exact ih0 _ _ _ _ | exact ih1 _ _ _ _ _ _ | exact ih2 _ _ _ _ | exact LeO.refl _ | exact LeO.none _ | refine LeO.ite ?_ ?_ | refine LeO.bind ?_ (fun _ => ?_)
theorem zl_.mono : ∀ a0 a1 k, LeO (zl_.f k a0 a1) (zl_.f (k + 1) a0 a1) := by
 intro a0 a1 k
 obtain ⟨ih0, ih1, ih2⟩ := zl_.mono_l k
 unfold zl_.f
 repeat' with_reducible first | exact ih0 _ _ _ _ | exact ih1 _ _ _ _ _ _ | exact ih2 _ _ _ _ | exact LeO.refl _ | exact LeO.none _ | refine LeO.ite ?_ ?_ | refine LeO.bind ?_ (fun _ => ?_)
theorem zl_.calls (k : Nat) (a0 : ByteArray) (a1 : Int) (r1 : Int) (r2 : Int) (r3 : Int) (w : World) (h : zl_.f k a0 a1 = some (r1, r2, r3)) :
 Calls Tryd.prog 82 #[.string a0, .int .i64 a1] w fun e w' => e = .returned (.agg #[.int .i64 r1, .int .i64 r2, .int .i64 r3]) ∧ Below w.heap.size w w' := by
 have hu102 := Tryd.underlying102
 have HB := AM (Below.refl w.heap.size w)
 have H : (if (a0.size : Int) > 20000 then (some (0, 0, 2)) else (if a1 < 0 then (some (0, 0, 1)) else (zl_.l0 k a0 a1 0 0))) = some (r1, r2, r3) := h
 clear h
 by_cases c3 : (a0.size : Int) > 20000
 ·
  rw [if_pos c3] at H
  have c3b0 : decide (20000 < (a0.size : Int)) = true := decide_eq_true c3
  have c3b1 : decide (20000 < a0.size) = true := decide_eq_true (by omega)
  clear c3
  simp only [Option.some.injEq, Prod.mk.injEq] at H
  obtain ⟨rfl, rfl, rfl⟩ := H
  go_enter Tryd.func82, Tryd.ntmps82
  go_wp2_with (first | ((with_reducible refine zy_ (N := 4) rfl ?_); refine be_ 4 #[.int .i64 0, .int .i64 0, .int .i64 0] 102 ?_; intro gb101 hg w4 hbox hb; have BK101 := AM hbox; have GW101 := AM ((by rw [hg]; exact (zf_ bel_) : w.heap.size ≤ gb101)); have GE101 := AM ((by rw [hg]; exact (zf_ bel_) : w.heap.size ≤ gb101)); replace HB := AM (zc_ bel_ hb); clear hb hbox hg; have hcz5_0 : w4.cell? ⟨gb101, 0, none⟩ = some (.int .i64 0) := (zb_ BK101.out 0).trans rfl; have hcz5_1 : w4.cell? ⟨gb101, 1, none⟩ = some (.int .i64 0) := (zb_ BK101.out 1).trans rfl; have hcz5_2 : w4.cell? ⟨gb101, 2, none⟩ = some (.int .i64 0) := (zb_ BK101.out 2).trans rfl; have hfz5_0 := za_ BK101.out 0; have hfz5_1 := za_ BK101.out 1; have hfz5_2 := za_ BK101.out 2))
  refine bodyPost_ret (results_cell_row rfl _ _ gb101 102 #[.int .i64 0, .int .i64 0, .int .i64 2] (0, 0) _ rfl bka_ Tryd.underlying102 rfl (by kernel_rfl)) rfl ?_
  exact ⟨ri_, bel_⟩
 ·
  rw [if_neg c3] at H
  have c3b0 : decide (20000 < (a0.size : Int)) = false := decide_eq_false c3
  have c3b1 : decide (20000 < a0.size) = false := decide_eq_false (by omega)
  clear c3
  by_cases c6 : a1 < 0
  ·
   rw [if_pos c6] at H
   have c6b0 : decide (a1 < 0) = true := decide_eq_true c6
   clear c6
   simp only [Option.some.injEq, Prod.mk.injEq] at H
   obtain ⟨rfl, rfl, rfl⟩ := H
   go_enter Tryd.func82, Tryd.ntmps82
   go_wp2_with (first | ((with_reducible refine zy_ (N := 4) rfl ?_); refine be_ 4 #[.int .i64 0, .int .i64 0, .int .i64 0] 102 ?_; intro gb101 hg w7 hbox hb; have BK101 := AM hbox; have GW101 := AM ((by rw [hg]; exact (zf_ bel_) : w.heap.size ≤ gb101)); have GE101 := AM ((by rw [hg]; exact (zf_ bel_) : w.heap.size ≤ gb101)); replace HB := AM (zc_ bel_ hb); clear hb hbox hg; have hcz8_0 : w7.cell? ⟨gb101, 0, none⟩ = some (.int .i64 0) := (zb_ BK101.out 0).trans rfl; have hcz8_1 : w7.cell? ⟨gb101, 1, none⟩ = some (.int .i64 0) := (zb_ BK101.out 1).trans rfl; have hcz8_2 : w7.cell? ⟨gb101, 2, none⟩ = some (.int .i64 0) := (zb_ BK101.out 2).trans rfl; have hfz8_0 := za_ BK101.out 0; have hfz8_1 := za_ BK101.out 1; have hfz8_2 := za_ BK101.out 2))
   refine bodyPost_ret (results_cell_row rfl _ _ gb101 102 #[.int .i64 0, .int .i64 0, .int .i64 1] (0, 0) _ rfl bka_ Tryd.underlying102 rfl (by kernel_rfl)) rfl ?_
   exact ⟨ri_, bel_⟩
  ·
   rw [if_neg c6] at H
   have c6b0 : decide (a1 < 0) = false := decide_eq_false c6
   clear c6
   have H' := AM H
   clear H
   go_enter Tryd.func82, Tryd.ntmps82
   go_wp2_with (first | ((with_reducible refine zy_ (N := 4) rfl ?_); refine be_ 4 #[.int .i64 0, .int .i64 0, .int .i64 0] 102 ?_; intro gb101 hg w9 hbox hb; have BK101 := AM hbox; have GW101 := AM ((by rw [hg]; exact (zf_ bel_) : w.heap.size ≤ gb101)); have GE101 := AM ((by rw [hg]; exact (zf_ bel_) : w.heap.size ≤ gb101)); replace HB := AM (zc_ bel_ hb); clear hb hbox hg))
   go_loopg [5, 6] k (fun kq v5 v6 w' => ∃ (x5_1 : Int) (x6_1 : Int) (x102000_1 : Int) (x102001_1 : Int) (x102002_1 : Int), v5 = .int .u64 x5_1 ∧ v6 = .int .i64 x6_1 ∧ zd_ (zl_.l0 kq a0 a1 x5_1 x6_1 = some (r1, r2, r3)) ∧ zd_ (kq ≤ k) ∧ zd_ (w'.heap[gb101]? = some (.cells #[.int .i64 x102000_1, .int .i64 x102001_1, .int .i64 x102002_1] 102 (0, 0))) ∧ zd_ (Below w.heap.size w w'))
   case atStart => exact ⟨(0), (0), (0), (0), (0), re_, re_, H', ⟨Nat.le_refl _⟩, ⟨bk_ BK101.out⟩, ⟨bel_⟩⟩
   case round =>
    clear H'
    (try clear c3b0); (try clear c3b1); (try clear c6b0); (try clear hcz5_0); (try clear hcz5_1); (try clear hcz5_2); (try clear hcz8_0); (try clear hcz8_1); (try clear hcz8_2); (try clear hfz5_0); (try clear hfz5_1); (try clear hfz5_2); (try clear hfz8_0); (try clear hfz8_1); (try clear hfz8_2)
    obtain ⟨x5_1, x6_1, x102000_1, x102001_1, x102002_1, rfl, rfl, HA, HK1, BK101, HB⟩ := hrel
    cases gk with
    | zero => exact absurd HA.out (by simp [zl_.l0])
    | succ k1 =>
     have H := HA.out
     clear HA
     simp only [zl_.l0] at H
     by_cases c10 : x6_1 < 10
     ·
      rw [if_pos c10] at H
      have c10b0 : decide (x6_1 < 10) = true := decide_eq_true c10
      clear c10
      by_cases c11 : a1 ≥ (wrap64 ((a0.size : Int) - x6_1))
      ·
       rw [if_pos c11] at H
       have c11b0 : decide ((wrap64 ((a0.size : Int) - x6_1)) ≤ a1) = true := decide_eq_true c11
       try have c11b9 : (decide ((((a0.size : Int) - x6_1)) ≤ a1)) = true := (by have hw0 : wrap64 ((a0.size : Int) - x6_1) = (a0.size : Int) - x6_1 := (by unfold wrap64; omega); have z_ := c11b0; simp only [hw0] at z_; exact z_)
       clear c11
       simp only [Option.some.injEq, Prod.mk.injEq] at H
       obtain ⟨rfl, rfl, rfl⟩ := H
       have hcz12_0 : wr.cell? ⟨gb101, 0, none⟩ = some (.int .i64 x102000_1) := (zb_ BK101.out 0).trans rfl
       have hcz12_1 : wr.cell? ⟨gb101, 1, none⟩ = some (.int .i64 x102001_1) := (zb_ BK101.out 1).trans rfl
       have hcz12_2 : wr.cell? ⟨gb101, 2, none⟩ = some (.int .i64 x102002_1) := (zb_ BK101.out 2).trans rfl
       have hfz12_0 := za_ BK101.out 0
       have hfz12_1 := za_ BK101.out 1
       have hfz12_2 := za_ BK101.out 2
       go_wp2
       refine bodyPost_ret (results_cell_row rfl _ _ gb101 102 #[.int .i64 0, .int .i64 0, .int .i64 4] (0, 0) _ rfl bka_ Tryd.underlying102 rfl (by kernel_rfl)) rfl ?_
       exact ⟨ri_, bel_⟩
      ·
       rw [if_neg c11] at H
       have c11b0 : decide ((wrap64 ((a0.size : Int) - x6_1)) ≤ a1) = false := decide_eq_false c11
       try have c11b9 : (decide ((((a0.size : Int) - x6_1)) ≤ a1)) = false := (by have hw0 : wrap64 ((a0.size : Int) - x6_1) = (a0.size : Int) - x6_1 := (by unfold wrap64; omega); have z_ := c11b0; simp only [hw0] at z_; exact z_)
       clear c11
       obtain ⟨ji13, hji13⟩ : ∃ j_ : Int, (wrap64 (a1 + x6_1)) = j_ := ⟨_, rfl⟩
       replace H : (if 0 ≤ (ji13) then (if (ji13) < (a0.size : Int) then (if x6_1 = 9 then (zl_.j1 k1 a0 a1 x5_1 x6_1 (IntKind.u64.wrap (bt a0 (ji13))) (decide ((IntKind.u64.wrap (bt a0 (ji13))) > 1))) else (zl_.j1 k1 a0 a1 x5_1 x6_1 (IntKind.u64.wrap (bt a0 (ji13))) false)) else (none)) else (none)) = some (r1, r2, r3) := by first | (rw [hji13] at H; exact H) | (simp only [hji13] at H ⊢; exact H)
       have hji13w : (IntKind.i64.wrap (a1 + x6_1)) = ji13 := (i64_w _).trans hji13
       by_cases c14 : 0 ≤ (ji13)
       ·
        rw [if_pos c14] at H
        have c14b0 : decide (0 ≤ (ji13)) = true := decide_eq_true c14
        clear c14
        by_cases c15 : (ji13) < (a0.size : Int)
        ·
         rw [if_pos c15] at H
         have c15b0 : decide ((ji13) < (a0.size : Int)) = true := decide_eq_true c15
         clear c15
         have HC17 := AM H
         clear H
         have p16 : 0 ≤ ((ji13) : Int) := of_decide_eq_true asm_
         have q16 : (ji13) < (a0.size : Int) := of_decide_eq_true asm_
         have hx16 := bt_at a0 (ji13)
         replace p16 := eq_true p16
         replace q16 := eq_true q16
         go_upto_region 12 with (fail)
         go_cut [38] (fun v38 wc => ∃ (kq : Nat) (x38_16 : Bool), v38 = .bool x38_16 ∧ zd_ (zl_.j1 kq a0 a1 x5_1 x6_1 (IntKind.u64.wrap (bt a0 (ji13))) x38_16 = some (r1, r2, r3)) ∧ zd_ (kq ≤ k1) ∧ zd_ (wc.heap[gb101]? = some (.cells #[.int .i64 x102000_1, .int .i64 x102001_1, .int .i64 x102002_1] 102 (0, 0))) ∧ zd_ (Below w.heap.size w wc))
         case first =>
          have H := HC17.out
          clear HC17
          by_cases c18 : x6_1 = 9
          ·
           rw [if_pos c18] at H
           have c18b0 : (x6_1 == 9) = true := beq_iff_eq.mpr c18
           have c18b1 : (x6_1 != 9) = false := bne_eq_false_iff_eq.mpr c18
           clear c18
           (first | rw [c18b0] | (simp only [i64_w, i32_w]; rw [c18b0]) | skip)
           have H' := AM H
           clear H
           go_wp2
           go_meet
           case rel => exact ⟨_, (decide ((IntKind.u64.wrap (bt a0 (ji13))) > 1)), (by first | rfl | (simp; done) | (simp only [← hji13] <;> (first | rfl | simp)) | (simp [*]; done)), H', ⟨by have := HK1.out; first | omega | exact Nat.le_refl _⟩, ⟨bk_ BK101.out⟩, ⟨bel_⟩⟩
          ·
           rw [if_neg c18] at H
           have c18b0 : (x6_1 == 9) = false := beq_eq_false_iff_ne.mpr c18
           have c18b1 : (x6_1 != 9) = true := bne_iff_ne.mpr c18
           (first | rw [c18b0] | (simp only [i64_w, i32_w]; rw [c18b0]) | skip)
           have H' := AM H
           clear H
           go_wp2
           go_meet
           case rel => exact ⟨_, (false), re_, H', ⟨by have := HK1.out; first | omega | exact Nat.le_refl _⟩, ⟨bk_ BK101.out⟩, ⟨bel_⟩⟩
         case rest =>
          clear HC17
          (try clear c10b0); (try clear c11b0); (try clear c14b0); (try clear c15b0); (try clear p16); (try clear q16); (try clear hx16); (try clear c18); (try clear c18b0); (try clear c18b1); (try clear hcz12_0); (try clear hcz12_1); (try clear hcz12_2); (try clear hfz12_0); (try clear hfz12_1); (try clear hfz12_2)
          obtain ⟨kq, x38_16, rfl, HA, HJ16, BK101, HB⟩ := hcut
          cases kq with
          | zero => exact absurd HA.out (by simp [zl_.j1])
          | succ kj16 =>
           have H := HA.out
           clear HA
           simp only [zl_.j1] at H
           by_cases c19 : x38_16 = true
           ·
            subst c19
            rw [if_pos rfl] at H
            simp only [Option.some.injEq, Prod.mk.injEq] at H
            obtain ⟨rfl, rfl, rfl⟩ := H
            have hcz20_0 : wc.cell? ⟨gb101, 0, none⟩ = some (.int .i64 x102000_1) := (zb_ BK101.out 0).trans rfl
            have hcz20_1 : wc.cell? ⟨gb101, 1, none⟩ = some (.int .i64 x102001_1) := (zb_ BK101.out 1).trans rfl
            have hcz20_2 : wc.cell? ⟨gb101, 2, none⟩ = some (.int .i64 x102002_1) := (zb_ BK101.out 2).trans rfl
            have hfz20_0 := za_ BK101.out 0
            have hfz20_1 := za_ BK101.out 1
            have hfz20_2 := za_ BK101.out 2
            go_wp2
            refine bodyPost_ret (results_cell_row rfl _ _ gb101 102 #[.int .i64 0, .int .i64 0, .int .i64 3] (0, 0) _ rfl bka_ Tryd.underlying102 rfl (by kernel_rfl)) rfl ?_
            exact ⟨by first | rfl | (simp [yd_, yc_] <;> rfl) | (simp only [← hji13]; first | rfl | (simp [yd_, yc_] <;> rfl)) | (simp [*, yd_, yc_] <;> rfl), bel_⟩
           ·
            replace c19 := Bool.eq_false_iff.mpr c19
            subst c19
            rw [if_neg (show ¬ (false = true) by decide)] at H
            obtain ⟨ji21, hji21⟩ : ∃ j_ : Int, (IntKind.u64.wrap (wrap64 (7 * x6_1))) = j_ := ⟨_, rfl⟩
            replace H : (if 0 ≤ (ji21) then (if (IntKind.u64.wrap (bt a0 (ji13))) < 128 then (if (IntKind.u64.wrap (bt a0 (ji13))) = 0 then (zl_.j2 kj16 a1 (IntKind.u64.wrap (x5_1 + (shl .u64 (Int.tmod (IntKind.u64.wrap (bt a0 (ji13))) 128) (ji21)))) x6_1 (decide (x6_1 > 0))) else (zl_.j2 kj16 a1 (IntKind.u64.wrap (x5_1 + (shl .u64 (Int.tmod (IntKind.u64.wrap (bt a0 (ji13))) 128) (ji21)))) x6_1 false)) else (zl_.l0 kj16 a0 a1 (IntKind.u64.wrap (x5_1 + (shl .u64 (Int.tmod (IntKind.u64.wrap (bt a0 (ji13))) 128) (ji21)))) (wrap64 (x6_1 + 1)))) else (none)) = some (r1, r2, r3) := by first | (rw [hji21] at H; exact H) | (simp only [hji21] at H ⊢; exact H)
            by_cases c22 : 0 ≤ (ji21)
            ·
             rw [if_pos c22] at H
             have c22b0 := eq_true c22
             have c22b1 : decide (0 ≤ (ji21)) = true := decide_eq_true c22
             clear c22
             obtain ⟨ji23, hji23⟩ : ∃ j_ : Int, (shl .u64 (Int.tmod (IntKind.u64.wrap (bt a0 (ji13))) 128) (ji21)) = j_ := ⟨_, rfl⟩
             replace H : (if (IntKind.u64.wrap (bt a0 (ji13))) < 128 then (if (IntKind.u64.wrap (bt a0 (ji13))) = 0 then (zl_.j2 kj16 a1 (IntKind.u64.wrap (x5_1 + (ji23))) x6_1 (decide (x6_1 > 0))) else (zl_.j2 kj16 a1 (IntKind.u64.wrap (x5_1 + (ji23))) x6_1 false)) else (zl_.l0 kj16 a0 a1 (IntKind.u64.wrap (x5_1 + (ji23))) (wrap64 (x6_1 + 1)))) = some (r1, r2, r3) := by first | (rw [hji23] at H; exact H) | (simp only [hji23] at H ⊢; exact H)
             have hji23_ : (IntKind.u64.wrap ((Int.tmod (IntKind.u64.wrap (bt a0 (ji13))) 128) * 2 ^ min (ji21).toNat 64)) = ji23 := hji23
             have hji23z : (ji21) ≤ 64 → (IntKind.u64.wrap ((Int.tmod (IntKind.u64.wrap (bt a0 (ji13))) 128) * 2 ^ (ji21).toNat)) = ji23 := shl_small hji23
             by_cases c24 : (IntKind.u64.wrap (bt a0 (ji13))) < 128
             ·
              rw [if_pos c24] at H
              have c24b0 : decide ((IntKind.u64.wrap (bt a0 (ji13))) < 128) = true := decide_eq_true c24
              clear c24
              have HC25 := AM H
              clear H
              go_upto_region 16 with (fail)
              go_cut [55] (fun v55 wc => ∃ (kq : Nat) (x55_24 : Bool), v55 = .bool x55_24 ∧ zd_ (zl_.j2 kq a1 (IntKind.u64.wrap (x5_1 + (ji23))) x6_1 x55_24 = some (r1, r2, r3)) ∧ zd_ (kq ≤ kj16) ∧ zd_ (wc.heap[gb101]? = some (.cells #[.int .i64 x102000_1, .int .i64 x102001_1, .int .i64 x102002_1] 102 (0, 0))) ∧ zd_ (Below w.heap.size w wc))
              case first =>
               have H := HC25.out
               clear HC25
               by_cases c26 : (IntKind.u64.wrap (bt a0 (ji13))) = 0
               ·
                rw [if_pos c26] at H
                have c26b0 : ((IntKind.u64.wrap (bt a0 (ji13))) == 0) = true := beq_iff_eq.mpr c26
                have c26b1 : ((IntKind.u64.wrap (bt a0 (ji13))) != 0) = false := bne_eq_false_iff_eq.mpr c26
                clear c26
                (first | rw [c26b0] | (simp only [i64_w, i32_w]; rw [c26b0]) | skip)
                have H' := AM H
                clear H
                go_wp2
                go_meet
                case rel => exact ⟨_, (decide (x6_1 > 0)), re_, H', ⟨by have := HK1.out; have := HJ16.out; first | omega | exact Nat.le_refl _⟩, ⟨bk_ BK101.out⟩, ⟨bel_⟩⟩
               ·
                rw [if_neg c26] at H
                have c26b0 : ((IntKind.u64.wrap (bt a0 (ji13))) == 0) = false := beq_eq_false_iff_ne.mpr c26
                have c26b1 : ((IntKind.u64.wrap (bt a0 (ji13))) != 0) = true := bne_iff_ne.mpr c26
                (first | rw [c26b0] | (simp only [i64_w, i32_w]; rw [c26b0]) | skip)
                have H' := AM H
                clear H
                go_wp2
                go_meet
                case rel => exact ⟨_, (false), re_, H', ⟨by have := HK1.out; have := HJ16.out; first | omega | exact Nat.le_refl _⟩, ⟨bk_ BK101.out⟩, ⟨bel_⟩⟩
              case rest =>
               clear HC25
               (try clear c19); (try clear c22b0); (try clear c22b1); (try clear c24b0); (try clear c26); (try clear c26b0); (try clear c26b1); (try clear hcz20_0); (try clear hcz20_1); (try clear hcz20_2); (try clear hfz20_0); (try clear hfz20_1); (try clear hfz20_2)
               obtain ⟨kq, x55_24, rfl, HA, HJ24, BK101, HB⟩ := hcut
               cases kq with
               | zero => exact absurd HA.out (by simp [zl_.j2])
               | succ kj24 =>
                have H := HA.out
                clear HA
                simp only [zl_.j2] at H
                by_cases c27 : x55_24 = true
                ·
                 subst c27
                 rw [if_pos rfl] at H
                 simp only [Option.some.injEq, Prod.mk.injEq] at H
                 obtain ⟨rfl, rfl, rfl⟩ := H
                 have hcz28_0 : wc.cell? ⟨gb101, 0, none⟩ = some (.int .i64 x102000_1) := (zb_ BK101.out 0).trans rfl
                 have hcz28_1 : wc.cell? ⟨gb101, 1, none⟩ = some (.int .i64 x102001_1) := (zb_ BK101.out 1).trans rfl
                 have hcz28_2 : wc.cell? ⟨gb101, 2, none⟩ = some (.int .i64 x102002_1) := (zb_ BK101.out 2).trans rfl
                 have hfz28_0 := za_ BK101.out 0
                 have hfz28_1 := za_ BK101.out 1
                 have hfz28_2 := za_ BK101.out 2
                 go_wp2
                 refine bodyPost_ret (results_cell_row rfl _ _ gb101 102 #[.int .i64 0, .int .i64 0, .int .i64 3] (0, 0) _ rfl bka_ Tryd.underlying102 rfl (by kernel_rfl)) rfl ?_
                 exact ⟨by first | rfl | (simp [yd_, yc_] <;> rfl) | (simp only [← hji13, ← hji21, ← hji23]; first | rfl | (simp [yd_, yc_] <;> rfl)) | (simp [*, yd_, yc_] <;> rfl), bel_⟩
                ·
                 replace c27 := Bool.eq_false_iff.mpr c27
                 subst c27
                 rw [if_neg (show ¬ (false = true) by decide)] at H
                 by_cases c29 : (Int.tmod (IntKind.u64.wrap (x5_1 + (ji23))) 2) = 1
                 ·
                  rw [if_pos c29] at H
                  have c29b0 : ((Int.tmod (IntKind.u64.wrap (x5_1 + (ji23))) 2) == 1) = true := beq_iff_eq.mpr c29
                  have c29b1 : ((Int.tmod (IntKind.u64.wrap (x5_1 + (ji23))) 2) != 1) = false := bne_eq_false_iff_eq.mpr c29
                  clear c29
                  simp only [Option.some.injEq, Prod.mk.injEq] at H
                  obtain ⟨rfl, rfl, rfl⟩ := H
                  have hcz30_0 : wc.cell? ⟨gb101, 0, none⟩ = some (.int .i64 x102000_1) := (zb_ BK101.out 0).trans rfl
                  have hcz30_1 : wc.cell? ⟨gb101, 1, none⟩ = some (.int .i64 x102001_1) := (zb_ BK101.out 1).trans rfl
                  have hcz30_2 : wc.cell? ⟨gb101, 2, none⟩ = some (.int .i64 x102002_1) := (zb_ BK101.out 2).trans rfl
                  have hfz30_0 := za_ BK101.out 0
                  have hfz30_1 := za_ BK101.out 1
                  have hfz30_2 := za_ BK101.out 2
                  go_wp2
                  (try rw [← hji13])
                  refine bodyPost_ret (results_cell_row rfl _ _ gb101 102 #[.int .i64 (wrap64 ((wrap64 (-(wrap64 (IntKind.u64.wrap (Int.tdiv (IntKind.u64.wrap (x5_1 + (ji23))) 2))))) - 1)), .int .i64 (wrap64 ((wrap64 (a1 + x6_1)) + 1)), .int .i64 0] (0, 0) _ rfl bka_ Tryd.underlying102 rfl (by kernel_rfl)) rfl ?_
                  exact ⟨by first | rfl | (simp [yd_, yc_] <;> rfl) | (simp only [← hji13, ← hji21, ← hji23]; first | rfl | (simp [yd_, yc_] <;> rfl)) | (simp [*, yd_, yc_] <;> rfl), bel_⟩
                 ·
                  rw [if_neg c29] at H
                  have c29b0 : ((Int.tmod (IntKind.u64.wrap (x5_1 + (ji23))) 2) == 1) = false := beq_eq_false_iff_ne.mpr c29
                  have c29b1 : ((Int.tmod (IntKind.u64.wrap (x5_1 + (ji23))) 2) != 1) = true := bne_iff_ne.mpr c29
                  simp only [Option.some.injEq, Prod.mk.injEq] at H
                  obtain ⟨rfl, rfl, rfl⟩ := H
                  have hcz31_0 : wc.cell? ⟨gb101, 0, none⟩ = some (.int .i64 x102000_1) := (zb_ BK101.out 0).trans rfl
                  have hcz31_1 : wc.cell? ⟨gb101, 1, none⟩ = some (.int .i64 x102001_1) := (zb_ BK101.out 1).trans rfl
                  have hcz31_2 : wc.cell? ⟨gb101, 2, none⟩ = some (.int .i64 x102002_1) := (zb_ BK101.out 2).trans rfl
                  have hfz31_0 := za_ BK101.out 0
                  have hfz31_1 := za_ BK101.out 1
                  have hfz31_2 := za_ BK101.out 2
                  go_wp2
                  (try rw [← hji13])
                  refine bodyPost_ret (results_cell_row rfl _ _ gb101 102 #[.int .i64 (wrap64 (IntKind.u64.wrap (Int.tdiv (IntKind.u64.wrap (x5_1 + (ji23))) 2))), .int .i64 (wrap64 ((wrap64 (a1 + x6_1)) + 1)), .int .i64 0] (0, 0) _ rfl bka_ Tryd.underlying102 rfl (by kernel_rfl)) rfl ?_
                  exact ⟨by first | rfl | (simp [yd_, yc_] <;> rfl) | (simp only [← hji13, ← hji21, ← hji23]; first | rfl | (simp [yd_, yc_] <;> rfl)) | (simp [*, yd_, yc_] <;> rfl), bel_⟩
             ·
              rw [if_neg c24] at H
              have c24b0 : decide ((IntKind.u64.wrap (bt a0 (ji13))) < 128) = false := decide_eq_false c24
              clear c24
              have H' := AM H
              clear H
              go_wp2
              go_roundg kj16
              case measure => have := HK1.out; have := HJ16.out; omega
              case rel => exact ⟨(IntKind.u64.wrap (x5_1 + (ji23))), (wrap64 (x6_1 + 1)), (x102000_1), (x102001_1), (x102002_1), (by first | rfl | (simp; done) | (simp only [← hji23] <;> (first | rfl | simp)) | (simp [*]; done)), re_, H', ⟨by have := HK1.out; have := HJ16.out; omega⟩, ⟨bk_ BK101.out⟩, ⟨bel_⟩⟩
            ·
             rw [if_neg c22] at H
             exact absurd H (by simp)
        ·
         rw [if_neg c15] at H
         exact absurd H (by simp)
       ·
        rw [if_neg c14] at H
        exact absurd H (by simp)
     ·
      rw [if_neg c10] at H
      have c10b0 : decide (x6_1 < 10) = false := decide_eq_false c10
      clear c10
      simp only [Option.some.injEq, Prod.mk.injEq] at H
      obtain ⟨rfl, rfl, rfl⟩ := H
      have hcz32_0 : wr.cell? ⟨gb101, 0, none⟩ = some (.int .i64 x102000_1) := (zb_ BK101.out 0).trans rfl
      have hcz32_1 : wr.cell? ⟨gb101, 1, none⟩ = some (.int .i64 x102001_1) := (zb_ BK101.out 1).trans rfl
      have hcz32_2 : wr.cell? ⟨gb101, 2, none⟩ = some (.int .i64 x102002_1) := (zb_ BK101.out 2).trans rfl
      have hfz32_0 := za_ BK101.out 0
      have hfz32_1 := za_ BK101.out 1
      have hfz32_2 := za_ BK101.out 2
      go_wp2
      refine bodyPost_ret (results_cell_row rfl _ _ gb101 102 #[.int .i64 0, .int .i64 0, .int .i64 3] (0, 0) _ rfl bka_ Tryd.underlying102 rfl (by kernel_rfl)) rfl ?_
      exact ⟨ri_, bel_⟩
/-! ### yY_: function 126 -/
def yY_.f (a0 : Int) (a1 : Int) : Option (Int) := if 0 ≤ a1 then (if 0 ≤ (IntKind.u64.wrap (32 - a1)) then (some (Go.bits .or .u32 (shr .u32 a0 a1) (shl .u32 a0 (IntKind.u64.wrap (32 - a1))))) else (none)) else (none)
theorem yY_.calls (a0 : Int) (a1 : Int) (r : Int) (w : World) (h : yY_.f a0 a1 = some r) :
 Calls Tryd.prog 126 #[.int .u32 a0, .int .u64 a1] w fun e w' => e = .returned (.int .u32 r) ∧ yO_ w w' := by
 have H : (if 0 ≤ a1 then (if 0 ≤ (IntKind.u64.wrap (32 - a1)) then (some (Go.bits .or .u32 (shr .u32 a0 a1) (shl .u32 a0 (IntKind.u64.wrap (32 - a1))))) else (none)) else (none)) = some r := h
 clear h
 by_cases c3 : 0 ≤ a1
 ·
  rw [if_pos c3] at H
  have c3b0 := eq_true c3
  have c3b1 : decide (0 ≤ a1) = true := decide_eq_true c3
  clear c3
  obtain ⟨ji4, hji4⟩ : ∃ j_ : Int, (shr .u32 a0 a1) = j_ := ⟨_, rfl⟩
  replace H : (if 0 ≤ (IntKind.u64.wrap (32 - a1)) then (some (Go.bits .or .u32 (ji4) (shl .u32 a0 (IntKind.u64.wrap (32 - a1))))) else (none)) = some r := by first | (rw [hji4] at H; exact H) | (simp only [hji4] at H ⊢; exact H)
  have hji4_ : (a0 / 2 ^ min a1.toNat 32) = ji4 := hji4
  have hji4z : a1 ≤ 32 → (a0 / 2 ^ a1.toNat) = ji4 := shr_small hji4
  obtain ⟨ji5, hji5⟩ : ∃ j_ : Int, (IntKind.u64.wrap (32 - a1)) = j_ := ⟨_, rfl⟩
  replace H : (if 0 ≤ (ji5) then (some (Go.bits .or .u32 (ji4) (shl .u32 a0 (ji5)))) else (none)) = some r := by first | (rw [hji5] at H; exact H) | (simp only [hji5] at H ⊢; exact H)
  by_cases c6 : 0 ≤ (ji5)
  ·
   rw [if_pos c6] at H
   have c6b0 := eq_true c6
   have c6b1 : decide (0 ≤ (ji5)) = true := decide_eq_true c6
   clear c6
   obtain ⟨ji7, hji7⟩ : ∃ j_ : Int, (shl .u32 a0 (ji5)) = j_ := ⟨_, rfl⟩
   replace H : (some (Go.bits .or .u32 (ji4) (ji7))) = some r := by first | (rw [hji7] at H; exact H) | (simp only [hji7] at H ⊢; exact H)
   have hji7_ : (IntKind.u32.wrap (a0 * 2 ^ min (ji5).toNat 32)) = ji7 := hji7
   have hji7z : (ji5) ≤ 32 → (IntKind.u32.wrap (a0 * 2 ^ (ji5).toNat)) = ji7 := shl_small hji7
   obtain rfl := Option.some.inj H
   go_enter Tryd.func126, Tryd.ntmps126
   go_wp2
   go_ret
   exact ⟨by first | rfl | (simp; done) | (simp only [← hji4, ← hji5, ← hji7] <;> (first | rfl | simp)) | (simp [*]; done), dr_⟩
  ·
   rw [if_neg c6] at H
   exact absurd H (by simp)
 ·
  rw [if_neg c3] at H
  exact absurd H (by simp)
/-! ### yZ_: function 127 -/
def yZ_.f  : Option (List Int) := some (([1116352408, 1899447441, 3049323471, 3921009573, 961987163, 1508970993, 2453635748, 2870763221, 3624381080, 310598401, 607225278, 1426881987, 1925078388, 2162078206, 2614888103, 3248222580, 3835390401, 4022224774, 264347078, 604807628, 770255983, 1249150122, 1555081692, 1996064986, 2554220882, 2821834349, 2952996808, 3210313671, 3336571891, 3584528711, 113926993, 338241895, 666307205, 773529912, 1294757372, 1396182291, 1695183700, 1986661051, 2177026350, 2456956037, 2730485921, 2820302411, 3259730800, 3345764771, 3516065817, 3600352804, 4094571909, 275423344, 430227734, 506948616, 659060556, 883997877, 958139571, 1322822218, 1537002063, 1747873779, 1955562222, 2024104815, 2227730452, 2361852424, 2428436474, 2756734187, 3204031479, 3329325298] : List Int))
theorem yZ_.calls  (r : List Int) (w : World) (h : yZ_.f  = some r) :
 Calls Tryd.prog 127 #[] w fun e w' => ∃ v0_ : Value, e = .returned (v0_) ∧ Kd.R (Kd.int .u32) 76 w' w.heap.size (fun _ => True) v0_ r ∧ Below w.heap.size w w' := by
 have HB := AM (Below.refl w.heap.size w)
 have H : (some (([1116352408, 1899447441, 3049323471, 3921009573, 961987163, 1508970993, 2453635748, 2870763221, 3624381080, 310598401, 607225278, 1426881987, 1925078388, 2162078206, 2614888103, 3248222580, 3835390401, 4022224774, 264347078, 604807628, 770255983, 1249150122, 1555081692, 1996064986, 2554220882, 2821834349, 2952996808, 3210313671, 3336571891, 3584528711, 113926993, 338241895, 666307205, 773529912, 1294757372, 1396182291, 1695183700, 1986661051, 2177026350, 2456956037, 2730485921, 2820302411, 3259730800, 3345764771, 3516065817, 3600352804, 4094571909, 275423344, 430227734, 506948616, 659060556, 883997877, 958139571, 1322822218, 1537002063, 1747873779, 1955562222, 2024104815, 2227730452, 2361852424, 2428436474, 2756734187, 3204031479, 3329325298] : List Int))) = some r := h
 clear h
 obtain ⟨y102, hy102⟩ : ∃ y_ : List Int, y_ = (([1116352408, 1899447441, 3049323471, 3921009573, 961987163, 1508970993, 2453635748, 2870763221, 3624381080, 310598401, 607225278, 1426881987, 1925078388, 2162078206, 2614888103, 3248222580, 3835390401, 4022224774, 264347078, 604807628, 770255983, 1249150122, 1555081692, 1996064986, 2554220882, 2821834349, 2952996808, 3210313671, 3336571891, 3584528711, 113926993, 338241895, 666307205, 773529912, 1294757372, 1396182291, 1695183700, 1986661051, 2177026350, 2456956037, 2730485921, 2820302411, 3259730800, 3345764771, 3516065817, 3600352804, 4094571909, 275423344, 430227734, 506948616, 659060556, 883997877, 958139571, 1322822218, 1537002063, 1747873779, 1955562222, 2024104815, 2227730452, 2361852424, 2428436474, 2756734187, 3204031479, 3329325298] : List Int)) := ⟨_, rfl⟩
 replace H : (some y102) = some r := hy_ hy102 H
 have Ny102 := AM hy102
 clear hy102
 obtain rfl := Option.some.inj H
 go_enter Tryd.func127, Tryd.ntmps127
 go_wp2_with (first | ((with_reducible refine zy_ (N := 1) rfl ?_); refine Kd.R_lit (Kd.int .u32) _ 76 ?hgL1 (N := 1) ?hdL1 (xs := ([1116352408, 1899447441, 3049323471, 3921009573, 961987163, 1508970993, 2453635748, 2870763221, 3624381080, 310598401, 607225278, 1426881987, 1925078388, 2162078206, 2614888103, 3248222580, 3835390401, 4022224774, 264347078, 604807628, 770255983, 1249150122, 1555081692, 1996064986, 2554220882, 2821834349, 2952996808, 3210313671, 3336571891, 3584528711, 113926993, 338241895, 666307205, 773529912, 1294757372, 1396182291, 1695183700, 1986661051, 2177026350, 2456956037, 2730485921, 2820302411, 3259730800, 3345764771, 3516065817, 3600352804, 4094571909, 275423344, 430227734, 506948616, 659060556, 883997877, 958139571, 1322822218, 1537002063, 1747873779, 1955562222, 2024104815, 2227730452, 2361852424, 2428436474, 2756734187, 3204031479, 3329325298] : List Int)) (inner := [.int .u32 1116352408, .int .u32 1899447441, .int .u32 3049323471, .int .u32 3921009573, .int .u32 961987163, .int .u32 1508970993, .int .u32 2453635748, .int .u32 2870763221, .int .u32 3624381080, .int .u32 310598401, .int .u32 607225278, .int .u32 1426881987, .int .u32 1925078388, .int .u32 2162078206, .int .u32 2614888103, .int .u32 3248222580, .int .u32 3835390401, .int .u32 4022224774, .int .u32 264347078, .int .u32 604807628, .int .u32 770255983, .int .u32 1249150122, .int .u32 1555081692, .int .u32 1996064986, .int .u32 2554220882, .int .u32 2821834349, .int .u32 2952996808, .int .u32 3210313671, .int .u32 3336571891, .int .u32 3584528711, .int .u32 113926993, .int .u32 338241895, .int .u32 666307205, .int .u32 773529912, .int .u32 1294757372, .int .u32 1396182291, .int .u32 1695183700, .int .u32 1986661051, .int .u32 2177026350, .int .u32 2456956037, .int .u32 2730485921, .int .u32 2820302411, .int .u32 3259730800, .int .u32 3345764771, .int .u32 3516065817, .int .u32 3600352804, .int .u32 4094571909, .int .u32 275423344, .int .u32 430227734, .int .u32 506948616, .int .u32 659060556, .int .u32 883997877, .int .u32 958139571, .int .u32 1322822218, .int .u32 1537002063, .int .u32 1747873779, .int .u32 1955562222, .int .u32 2024104815, .int .u32 2227730452, .int .u32 2361852424, .int .u32 2428436474, .int .u32 2756734187, .int .u32 3204031479, .int .u32 3329325298]) (ok := fun _ => True) (okp := fun _ => True) ?hrL1 ?hpL1 (fun _ hk => hk) trivial (Below.refl _ _) (Nat.le_refl _) (by simp) ?_; (case hdL1 => rfl); (case hgL1 => rfl); (case hrL1 => first | (go_simp; done) | (go_simp; rfl)); (case hpL1 => exact (Reps.one (show Kd.M (Kd.int .u32) _ _ _ 1116352408 [.int .u32 1116352408] from rfl) (Reps.one (show Kd.M (Kd.int .u32) _ _ _ 1899447441 [.int .u32 1899447441] from rfl) (Reps.one (show Kd.M (Kd.int .u32) _ _ _ 3049323471 [.int .u32 3049323471] from rfl) (Reps.one (show Kd.M (Kd.int .u32) _ _ _ 3921009573 [.int .u32 3921009573] from rfl) (Reps.one (show Kd.M (Kd.int .u32) _ _ _ 961987163 [.int .u32 961987163] from rfl) (Reps.one (show Kd.M (Kd.int .u32) _ _ _ 1508970993 [.int .u32 1508970993] from rfl) (Reps.one (show Kd.M (Kd.int .u32) _ _ _ 2453635748 [.int .u32 2453635748] from rfl) (Reps.one (show Kd.M (Kd.int .u32) _ _ _ 2870763221 [.int .u32 2870763221] from rfl) (Reps.one (show Kd.M (Kd.int .u32) _ _ _ 3624381080 [.int .u32 3624381080] from rfl) (Reps.one (show Kd.M (Kd.int .u32) _ _ _ 310598401 [.int .u32 310598401] from rfl) (Reps.one (show Kd.M (Kd.int .u32) _ _ _ 607225278 [.int .u32 607225278] from rfl) (Reps.one (show Kd.M (Kd.int .u32) _ _ _ 1426881987 [.int .u32 1426881987] from rfl) (Reps.one (show Kd.M (Kd.int .u32) _ _ _ 1925078388 [.int .u32 1925078388] from rfl) (Reps.one (show Kd.M (Kd.int .u32) _ _ _ 2162078206 [.int .u32 2162078206] from rfl) (Reps.one (show Kd.M (Kd.int .u32) _ _ _ 2614888103 [.int .u32 2614888103] from rfl) (Reps.one (show Kd.M (Kd.int .u32) _ _ _ 3248222580 [.int .u32 3248222580] from rfl) (Reps.one (show Kd.M (Kd.int .u32) _ _ _ 3835390401 [.int .u32 3835390401] from rfl) (Reps.one (show Kd.M (Kd.int .u32) _ _ _ 4022224774 [.int .u32 4022224774] from rfl) (Reps.one (show Kd.M (Kd.int .u32) _ _ _ 264347078 [.int .u32 264347078] from rfl) (Reps.one (show Kd.M (Kd.int .u32) _ _ _ 604807628 [.int .u32 604807628] from rfl) (Reps.one (show Kd.M (Kd.int .u32) _ _ _ 770255983 [.int .u32 770255983] from rfl) (Reps.one (show Kd.M (Kd.int .u32) _ _ _ 1249150122 [.int .u32 1249150122] from rfl) (Reps.one (show Kd.M (Kd.int .u32) _ _ _ 1555081692 [.int .u32 1555081692] from rfl) (Reps.one (show Kd.M (Kd.int .u32) _ _ _ 1996064986 [.int .u32 1996064986] from rfl) (Reps.one (show Kd.M (Kd.int .u32) _ _ _ 2554220882 [.int .u32 2554220882] from rfl) (Reps.one (show Kd.M (Kd.int .u32) _ _ _ 2821834349 [.int .u32 2821834349] from rfl) (Reps.one (show Kd.M (Kd.int .u32) _ _ _ 2952996808 [.int .u32 2952996808] from rfl) (Reps.one (show Kd.M (Kd.int .u32) _ _ _ 3210313671 [.int .u32 3210313671] from rfl) (Reps.one (show Kd.M (Kd.int .u32) _ _ _ 3336571891 [.int .u32 3336571891] from rfl) (Reps.one (show Kd.M (Kd.int .u32) _ _ _ 3584528711 [.int .u32 3584528711] from rfl) (Reps.one (show Kd.M (Kd.int .u32) _ _ _ 113926993 [.int .u32 113926993] from rfl) (Reps.one (show Kd.M (Kd.int .u32) _ _ _ 338241895 [.int .u32 338241895] from rfl) (Reps.one (show Kd.M (Kd.int .u32) _ _ _ 666307205 [.int .u32 666307205] from rfl) (Reps.one (show Kd.M (Kd.int .u32) _ _ _ 773529912 [.int .u32 773529912] from rfl) (Reps.one (show Kd.M (Kd.int .u32) _ _ _ 1294757372 [.int .u32 1294757372] from rfl) (Reps.one (show Kd.M (Kd.int .u32) _ _ _ 1396182291 [.int .u32 1396182291] from rfl) (Reps.one (show Kd.M (Kd.int .u32) _ _ _ 1695183700 [.int .u32 1695183700] from rfl) (Reps.one (show Kd.M (Kd.int .u32) _ _ _ 1986661051 [.int .u32 1986661051] from rfl) (Reps.one (show Kd.M (Kd.int .u32) _ _ _ 2177026350 [.int .u32 2177026350] from rfl) (Reps.one (show Kd.M (Kd.int .u32) _ _ _ 2456956037 [.int .u32 2456956037] from rfl) (Reps.one (show Kd.M (Kd.int .u32) _ _ _ 2730485921 [.int .u32 2730485921] from rfl) (Reps.one (show Kd.M (Kd.int .u32) _ _ _ 2820302411 [.int .u32 2820302411] from rfl) (Reps.one (show Kd.M (Kd.int .u32) _ _ _ 3259730800 [.int .u32 3259730800] from rfl) (Reps.one (show Kd.M (Kd.int .u32) _ _ _ 3345764771 [.int .u32 3345764771] from rfl) (Reps.one (show Kd.M (Kd.int .u32) _ _ _ 3516065817 [.int .u32 3516065817] from rfl) (Reps.one (show Kd.M (Kd.int .u32) _ _ _ 3600352804 [.int .u32 3600352804] from rfl) (Reps.one (show Kd.M (Kd.int .u32) _ _ _ 4094571909 [.int .u32 4094571909] from rfl) (Reps.one (show Kd.M (Kd.int .u32) _ _ _ 275423344 [.int .u32 275423344] from rfl) (Reps.one (show Kd.M (Kd.int .u32) _ _ _ 430227734 [.int .u32 430227734] from rfl) (Reps.one (show Kd.M (Kd.int .u32) _ _ _ 506948616 [.int .u32 506948616] from rfl) (Reps.one (show Kd.M (Kd.int .u32) _ _ _ 659060556 [.int .u32 659060556] from rfl) (Reps.one (show Kd.M (Kd.int .u32) _ _ _ 883997877 [.int .u32 883997877] from rfl) (Reps.one (show Kd.M (Kd.int .u32) _ _ _ 958139571 [.int .u32 958139571] from rfl) (Reps.one (show Kd.M (Kd.int .u32) _ _ _ 1322822218 [.int .u32 1322822218] from rfl) (Reps.one (show Kd.M (Kd.int .u32) _ _ _ 1537002063 [.int .u32 1537002063] from rfl) (Reps.one (show Kd.M (Kd.int .u32) _ _ _ 1747873779 [.int .u32 1747873779] from rfl) (Reps.one (show Kd.M (Kd.int .u32) _ _ _ 1955562222 [.int .u32 1955562222] from rfl) (Reps.one (show Kd.M (Kd.int .u32) _ _ _ 2024104815 [.int .u32 2024104815] from rfl) (Reps.one (show Kd.M (Kd.int .u32) _ _ _ 2227730452 [.int .u32 2227730452] from rfl) (Reps.one (show Kd.M (Kd.int .u32) _ _ _ 2361852424 [.int .u32 2361852424] from rfl) (Reps.one (show Kd.M (Kd.int .u32) _ _ _ 2428436474 [.int .u32 2428436474] from rfl) (Reps.one (show Kd.M (Kd.int .u32) _ _ _ 2756734187 [.int .u32 2756734187] from rfl) (Reps.one (show Kd.M (Kd.int .u32) _ _ _ 3204031479 [.int .u32 3204031479] from rfl) (Reps.one (show Kd.M (Kd.int .u32) _ _ _ 3329325298 [.int .u32 3329325298] from rfl) (Reps.none _ _)))))))))))))))))))))))))))))))))))))))))))))))))))))))))))))))))); intro v103 w1 ho2 hb hg_ hnew_; clear hg_ hnew_; (first | rw [← Ny102.out] at ho2 | (simp only [Int.reduceToNat] at ho2; rw [← Ny102.out] at ho2)); have HO104 := AM (Kd.ya_ ho2 (zf_ bel_)); replace HB := AM (zc_ bel_ hb); clear hb ho2))
 go_ret
 exact ⟨_, ri_, ro_ HO104.out, bel_⟩
/-! ### yM_: function 99 -/
def yM_.f (a0 : List Int) (a1 : ByteArray) : Option (List Int) := if a0.length = 8 ∧ a1.size = 64 then some (Hand.takenL (a0.map (· % 4294967296)) a1) else none
theorem yM_.calls (A0 : Option Addr) (c0 : Nat) (l0 : List Int) (a1 : ByteArray) (r : List Int) (w : World) (hr0 : Kd.C (Kd.int .i64) w A0 l0.length l0) (hc0 : l0.length ≤ c0) (h : yM_.f l0 a1 = some r) :
 Calls Tryd.prog 99 #[.slice A0 l0.length c0, .string a1] w fun e w' => ∃ v0_ : Value, e = .returned (v0_) ∧ Kd.R (Kd.int .i64) 2 w' w.heap.size (fun _ => True) v0_ r ∧ Below w.heap.size w w' := by
 unfold yM_.f at h
 by_cases hc : l0.length = 8 ∧ a1.size = 64
 ·
  rw [if_pos hc] at h
  obtain rfl := Option.some.inj h
  exact Hand.block_x A0 c0 l0 a1 w hr0 hc.1 hc.2
 ·
  rw [if_neg hc] at h
  cases h
/-! ### zr_: function 56 -/
def zr_.l0 : Nat → Int → List Int → ByteArray → Int → Option (List Int × ByteArray × Int)
 | 0, _, _, _, _ => none
 | k + 1, x6, x114000, x114001, x114002 => if (wrap64 ((x114001.size : Int) - x6)) ≥ 64 then (if 0 ≤ x6 then (if x6 ≤ (wrap64 (x6 + 64)) then (if (wrap64 (x6 + 64)) ≤ (x114001.size : Int) then ((yM_.f x114000 (x114001.extract (x6 : Int).toNat ((wrap64 (x6 + 64)) : Int).toNat)).bind fun t114 => (zr_.l0 k (wrap64 (x6 + 64)) t114 x114001 x114002)) else (none)) else (none)) else (none)) else (if 0 ≤ x6 then (if x6 ≤ (x114001.size : Int) then (some (x114000, x114001.extract (x6 : Int).toNat x114001.size, x114002)) else (none)) else (none))
def zr_.f (k : Nat) (l0_0 : List Int) (a0_1 : ByteArray) (a0_2 : Int) (a1 : ByteArray) : Option (List Int × ByteArray × Int) := (some (([] : List Int) : List Int)).bind fun y107 => (if y107.length + l0_0.length < 17592186044416 then (if a0_1.size + a1.size ≤ 9223372036854775807 then (zr_.l0 k 0 (y107 ++ l0_0) (a0_1 ++ a1) (wrap64 (a0_2 + (a1.size : Int)))) else (none)) else (none))
theorem zr_.mono_l : ∀ k, (∀ y0 y1 y2 y3, LeO (zr_.l0 k y0 y1 y2 y3) (zr_.l0 (k + 1) y0 y1 y2 y3))
 | 0 => fun _ _ _ _ r h => by simp [zr_.l0] at h
 | k + 1 => by
  have ih0 := zr_.mono_l k
  ·
   intro y0 y1 y2 y3
   unfold zr_.l0
   repeat' with_reducible first | exact ih0 _ _ _ _ | exact LeO.refl _ | exact LeO.none _ | refine LeO.ite ?_ ?_ | refine LeO.bind ?_ (fun _ => ?_)
theorem zr_.mono : ∀ a0 a1 a2 a3 k, LeO (zr_.f k a0 a1 a2 a3) (zr_.f (k + 1) a0 a1 a2 a3) := by
 intro a0 a1 a2 a3 k
 have ih0 := zr_.mono_l k
 unfold zr_.f
 repeat' with_reducible first | exact ih0 _ _ _ _ | exact LeO.refl _ | exact LeO.none _ | refine LeO.ite ?_ ?_ | refine LeO.bind ?_ (fun _ => ?_)
def zr_.T1 : Bool × List (List Nat × List Nat) := (true, [([], []), ([], []), ([1], [1]), ([0, 2], [0, 2]), ([], []), ([4], [4]), ([], []), ([5, 6], [5, 6]), ([], []), ([8], [8]), ([], []), ([10], [10]), ([9, 11], [9, 11]), ([3, 7, 12], [3, 7, 12]), ([], []), ([14, 13, 3, 0, 1, 2, 3, 4, 5, 6, 7, 8, 9, 10, 11, 12, 13, 14], [13, 14])])
def zr_.B1 : List Nat := [0, 0, 2, 7, 0, 16, 0, 112, 0, 256, 0, 1024, 3840, 8191, 0, 32767]
theorem zr_.tab1 : rtab .any (opsOf Tryd.f56 1) = zr_.T1 := by kernel_rfl
theorem zr_.bits1 : yR_ zr_.T1.2 zr_.B1 = true := by kernel_rfl
def zr_.T5 : Bool × List (List Nat × List Nat) := (true, [([], []), ([0], [0]), ([], []), ([2], [2]), ([], []), ([], []), ([5], [5]), ([3, 4, 6], [3, 4, 6]), ([1, 7], [1, 7]), ([0, 1, 2, 3, 4, 5, 6, 7, 8], []), ([9, 8, 8, 0, 1, 2, 3, 4, 5, 6, 7, 8], [8, 9])])
def zr_.B5 : List Nat := [0, 1, 0, 4, 0, 0, 32, 124, 255, 511, 1023]
theorem zr_.tab5 : rtab .any (opsOf Tryd.f56 5) = zr_.T5 := by kernel_rfl
theorem zr_.bits5 : yR_ zr_.T5.2 zr_.B5 = true := by kernel_rfl
theorem zr_.calls (k : Nat) (A0_0 : Option Addr) (c0_0 : Nat) (l0_0 : List Int) (a0_1 : ByteArray) (a0_2 : Int) (a1 : ByteArray) (r1 : List Int) (r2 : ByteArray) (r3 : Int) (w : World) (hr0_0 : Kd.C (Kd.int .i64) w A0_0 l0_0.length l0_0) (hc0_0 : l0_0.length ≤ c0_0) (h : zr_.f k l0_0 a0_1 a0_2 a1 = some (r1, r2, r3)) :
 Calls Tryd.prog 56 #[.agg #[.slice A0_0 l0_0.length c0_0, .string a0_1, .int .i64 a0_2], .string a1] w fun e w' => ∃ v0_ : Value, e = .returned (.agg #[v0_, .string r2, .int .i64 r3]) ∧ Kd.R (Kd.int .i64) 2 w' w.heap.size (fun _ => True) v0_ r1 ∧ Below w.heap.size w w' := by
 have hu39 := Tryd.underlying39
 have HR0_0 := AM hr0_0
 have HC0_0 := AM hc0_0
 clear hr0_0 hc0_0
 have HB := AM (Below.refl w.heap.size w)
 have H : ((some (([] : List Int) : List Int)).bind fun y107 => (if y107.length + l0_0.length < 17592186044416 then (if a0_1.size + a1.size ≤ 9223372036854775807 then (zr_.l0 k 0 (y107 ++ l0_0) (a0_1 ++ a1) (wrap64 (a0_2 + (a1.size : Int)))) else (none)) else (none))) = some (r1, r2, r3) := h
 clear h
 obtain ⟨y107, hy107⟩ : ∃ y_ : List Int, y_ = (([] : List Int)) := ⟨_, rfl⟩
 replace H : (if y107.length + l0_0.length < 17592186044416 then (if a0_1.size + a1.size ≤ 9223372036854775807 then (zr_.l0 k 0 (y107 ++ l0_0) (a0_1 ++ a1) (wrap64 (a0_2 + (a1.size : Int)))) else (none)) else (none)) = some (r1, r2, r3) := hy_ hy107 H
 have Ny107 := AM hy107
 clear hy107
 by_cases c3 : y107.length + l0_0.length < 17592186044416
 ·
  rw [if_pos c3] at H
  have LMc3 := AM c3
  clear c3
  obtain ⟨y110, hy110⟩ : ∃ y_ : List Int, y_ = (y107 ++ l0_0) := ⟨_, rfl⟩
  replace H : (if a0_1.size + a1.size ≤ 9223372036854775807 then (zr_.l0 k 0 y110 (a0_1 ++ a1) (wrap64 (a0_2 + (a1.size : Int)))) else (none)) = some (r1, r2, r3) := hy_ hy110 H
  have Ny110 := AM hy110
  clear hy110
  by_cases c4 : a0_1.size + a1.size ≤ 9223372036854775807
  ·
   rw [if_pos c4] at H
   have c4b0 := eq_true c4
   have c4b1 : decide (a0_1.size + a1.size ≤ 9223372036854775807) = true := decide_eq_true c4
   try have c4b2 : (9223372036854775807 < a0_1.size + a1.size) = False := eq_false (Nat.not_lt.2 c4)
   have H' := AM H
   clear H
   go_enter Tryd.func56, Tryd.ntmps56
   try go_wp2_with (first | ((with_reducible refine zy_ (N := 2) rfl ?_); refine be_ 2 #[.slice A0_0 l0_0.length c0_0, .string a0_1, .int .i64 a0_2] 39 ?_; intro gb105 hg w5 hbox hb; have BK105 := AM hbox; have GW105 := AM ((by rw [hg]; exact (zf_ bel_) : w.heap.size ≤ gb105)); have GE105 := AM ((by rw [hg]; exact (zf_ bel_) : w.heap.size ≤ gb105)); replace HB := AM (zc_ bel_ hb); clear hb hbox hg) | ((with_reducible refine zy_ (N := 4) rfl ?_); refine be_ 4 #[.slice none 0 0, .string (⟨#[]⟩ : ByteArray), .int .i64 0] 39 ?_; intro gb106 hg w6 hbox hb; have BK106 := AM hbox; have GW106 := AM ((by rw [hg]; exact (zf_ bel_) : w.heap.size ≤ gb106)); have GE106 := AM ((by rw [hg]; exact (zf_ bel_) : w.heap.size ≤ gb106)); replace HB := AM (zc_ bel_ hb); have NB105_106 := AM ((by rw [hg]; exact Nat.ne_of_lt (zA_ (g := gb105) (o := .cells #[.slice A0_0 l0_0.length c0_0, .string a0_1, .int .i64 a0_2] 39 (0, 0)) (bk_ BK105.out)) : gb105 ≠ gb106)); have NB106_105 := AM ((by rw [hg]; exact Nat.ne_of_gt (zA_ (g := gb105) (o := .cells #[.slice A0_0 l0_0.length c0_0, .string a0_1, .int .i64 a0_2] 39 (0, 0)) (bk_ BK105.out)) : gb106 ≠ gb105)); replace BK105 := AM (zh_ (g := gb105) (o := .cells #[.slice A0_0 l0_0.length c0_0, .string a0_1, .int .i64 a0_2] 39 (0, 0)) (bk_ BK105.out) hb); clear hb hbox hg))
   replace BK105 := AM (zN_ BK105.out)
   replace BK106 := AM (zN_ BK106.out)
   replace HB := AM (zF_ HB.out)
   refine yU_ (n := 16) (S := fun w' => w'.cell? ⟨gb105, 0, none⟩ = some (.slice A0_0 l0_0.length c0_0) ∧ w'.cell? ⟨gb105, 1, none⟩ = some (.string a0_1) ∧ w'.cell? ⟨gb105, 2, none⟩ = some (.int .i64 a0_2)) (ds := []) (Array.replicate 16 false) (by kernel_rfl) rfl rfl ⟨(zb_ BK105.out 0).trans rfl, (zb_ BK105.out 1).trans rfl, (zb_ BK105.out 2).trans rfl⟩ (fun hHeld => ?_); refine yx_ zr_.tab1 zr_.bits1 (fun HT_ HW_ => ?_)
   generalize w6.drew = w7 at BK105 BK106 HB hHeld ⊢
   refine pu_ HT_ 1 (some 8) (bA 16 2) ?_
   refine pu_ HT_ 4 (some 11) (bA 16 18) ?_
   refine pu_ HT_ 6 (some 13) (bA 16 82) ?_
   refine pu_ HT_ 8 (some 15) (bA 16 338) ?_
   refine pu_ HT_ 10 (some 17) (bA 16 1362) ?_
   refine pu_ HT_ 11 (some 18) (bA 16 3410) ?_
   refine ta_ HT_ HW_ 2 (some 9) (bA 16 3414) hHeld ?_
   refine ta_ HT_ HW_ 5 (some 12) (bA 16 3446) hHeld ?_
   refine pu_ HT_ 7 (some 14) (bA 16 3574) ?_
   refine ta_ HT_ HW_ 9 (some 16) (bA 16 4086) hHeld ?_
   refine pu_ HT_ 12 (some 19) (bA 16 8182) ?_
   refine join_ (σ := Value × Value × Nat) 1 #[true, true, true, true, true, true, true, true, true, true, true, true, true, true, true, false] (fun s_ => [(7, s_.1), (10, s_.2.1), (5, .pointer (some ⟨s_.2.2, 0, none⟩)), (20, .agg #[s_.2.1, .string (a0_1 ++ a1), .int .i64 (wrap64 (a0_2 + (a1.size : Int)))])]) (fun s_ w' => (w'.cell? ⟨gb105, 0, none⟩ = some (.slice A0_0 l0_0.length c0_0) ∧ w'.cell? ⟨gb105, 1, none⟩ = some (.string a0_1) ∧ w'.cell? ⟨gb105, 2, none⟩ = some (.int .i64 a0_2)) ∧ (Kd.R (Kd.int .i64) 2 w' w.heap.size (fun _ => True) s_.2.1 y110) ∧ (w'.heap[gb105]? = some (.cells #[.slice A0_0 l0_0.length c0_0, .string a0_1, .int .i64 a0_2] 39 (0, 0))) ∧ (w'.heap[gb106]? = some (.cells #[.slice none 0 0, .string (⟨#[]⟩ : ByteArray), .int .i64 0] 39 (0, 0))) ∧ (w'.heap[s_.2.2]? = some (.cells #[.slice none 0 0, .string (⟨#[]⟩ : ByteArray), .int .i64 0] 39 (0, 0))) ∧ (w.heap.size ≤ s_.2.2) ∧ (w.heap.size ≤ s_.2.2) ∧ (gb105 ≠ s_.2.2) ∧ (s_.2.2 ≠ gb105) ∧ (gb106 ≠ s_.2.2) ∧ (s_.2.2 ≠ gb106) ∧ (Below w.heap.size w w')) ?_ ?_
   rotate_left
   ·
    intro hCont
    refine tw_ HT_ 0 14 (some 7) (some 5) (bA 16 8183) (bA 16 24566) (fun K hK => ?_) (fun K hK => ?_)
    ·
     skip
     refine Kd.R_lit_step (Kd.int .i64) _ 2 ?hgL1 (N := 7) ?hdL1 (xs := ([] : List Int)) (inner := []) (ok := fun _ => True) (okp := fun _ => True) ?hrL1 ?hpL1 (fun _ hk => hk) trivial (Below.refl _ _) (Nat.le_refl _) (by simp) ?_; (case hdL1 => rfl); (case hgL1 => rfl); (case hrL1 => first | (go_simp; done) | (go_simp; rfl)); (case hpL1 => exact (Reps.none _ _))
     intro v108 w8 ho9 hb hg_ hnew_
     clear hg_ hnew_
     (first | rw [← Ny107.out] at ho9 | (simp only [Int.reduceToNat] at ho9; rw [← Ny107.out] at ho9))
     have HO109 := AM (Kd.ya_ ho9 (zf_ bel_))
     replace BK105 := AM (zh_ (g := gb105) (o := .cells #[.slice A0_0 l0_0.length c0_0, .string a0_1, .int .i64 a0_2] 39 (0, 0)) (bk_ BK105.out) hb)
     replace BK106 := AM (zh_ (g := gb106) (o := .cells #[.slice none 0 0, .string (⟨#[]⟩ : ByteArray), .int .i64 0] 39 (0, 0)) (bk_ BK106.out) hb)
     replace HB := AM (zc_ bel_ hb)
     clear hb ho9
     refine hK.out _ _ ⟨(zb_ BK105.out 0).trans rfl, (zb_ BK105.out 1).trans rfl, (zb_ BK105.out 2).trans rfl⟩ (fun hHeld => ?_)
     clear hK K
     refine nm_ ?_
     refine tw_ HT_ 3 14 (some 10) (some 5) (bA 16 8191) (bA 16 24567) (fun K hK => ?_) (fun K hK => ?_)
     ·
      skip
      refine Kd.xi_ (Kd.int .i64) (w0 := w) w.heap.size (by rfl) (.tmp 7) (.tmp 9) 37 2 (.int .i64 0) 8 rfl Tryd.underlying37 info2 rfl (by decide) (by omega) v108 y107 l0_0 _ _ _ (fun _ => True) (fun _ => False) rfl rfl ?aO ?aR (fun _ _ h => h) (fun _ h => h.elim) ?aF ?aB ?aS ?aL ?_
      (case aR => repeat (first | exact (Kd.C_below HR0_0.out HB.out) | (with_reducible refine Kd.yo_ ?_ _) | (with_reducible refine Kd.yn_ ?_ _) | (with_reducible refine Kd.yz_ ?_)))
      (case aB => exact bel_)
      (case aF => exact (fun _ _ => trivial))
      (case aO => exact (ro_ HO109.out))
      (case aS => exact (zf_ bel_))
      (case aL => have := LMc3.out; omega)
      intro v111 w10 ho hb hg hat
      rw [← Ny110.out] at ho
      have n0_ := AM (yu_ (g := gb105) (o := .cells #[.slice A0_0 l0_0.length c0_0, .string a0_1, .int .i64 a0_2] 39 (0, 0)) (bk_ BK105.out) hg (Kd.R_ne HO109.out BK105.out (by decide)))
      have n1_ := AM (yu_ (g := gb106) (o := .cells #[.slice none 0 0, .string (⟨#[]⟩ : ByteArray), .int .i64 0] 39 (0, 0)) (bk_ BK106.out) hg (Kd.R_ne HO109.out BK106.out (by decide)))
      have n2_ := AM hb
      have n3_ := AM ho
      clear BK105
      clear BK106
      clear HB
      clear HO109
      have BK105 := n0_
      have BK106 := n1_
      have HB := n2_
      have HO112 := n3_
      clear n0_ n1_ n2_ n3_
      clear ho hb hg hat
      obtain ⟨Ao11, co11, eo11⟩ := Kd.yg_ HO112.out
      (first | subst eo11 | (injection eo11 with f1_ f2_ f3_; have f4_ := f1_.symm; have f5_ := f3_.symm; clear f1_ f2_ f3_; subst f4_; subst f5_))
      refine hK.out _ _ ⟨(zb_ BK105.out 0).trans rfl, (zb_ BK105.out 1).trans rfl, (zb_ BK105.out 2).trans rfl⟩ (fun hHeld => ?_)
      clear hK K
      refine nm_ ?_
      refine pu_ HT_ 13 (some 20) (bA 16 16383) ?_
      refine on_ HT_ 14 (some 5) (bA 16 32767) (fun K hK => ?_)
      refine bs_ 5 #[.slice none 0 0, .string (⟨#[]⟩ : ByteArray), .int .i64 0] 39 ?_
      intro gb113 hg w12 hbox hb
      replace HO112 := AM (Kd.zX_ (ro_ HO112.out) hb)
      have BK113 := AM hbox
      have GW113 := AM ((by rw [hg]; exact (zf_ bel_) : w.heap.size ≤ gb113))
      have GE113 := AM ((by rw [hg]; exact (zf_ bel_) : w.heap.size ≤ gb113))
      replace HB := AM (zc_ bel_ hb)
      have NB105_113 := AM ((by rw [hg]; exact Nat.ne_of_lt (zA_ (g := gb105) (o := .cells #[.slice A0_0 l0_0.length c0_0, .string a0_1, .int .i64 a0_2] 39 (0, 0)) (bk_ BK105.out)) : gb105 ≠ gb113))
      have NB113_105 := AM ((by rw [hg]; exact Nat.ne_of_gt (zA_ (g := gb105) (o := .cells #[.slice A0_0 l0_0.length c0_0, .string a0_1, .int .i64 a0_2] 39 (0, 0)) (bk_ BK105.out)) : gb113 ≠ gb105))
      replace BK105 := AM (zh_ (g := gb105) (o := .cells #[.slice A0_0 l0_0.length c0_0, .string a0_1, .int .i64 a0_2] 39 (0, 0)) (bk_ BK105.out) hb)
      have NB106_113 := AM ((by rw [hg]; exact Nat.ne_of_lt (zA_ (g := gb106) (o := .cells #[.slice none 0 0, .string (⟨#[]⟩ : ByteArray), .int .i64 0] 39 (0, 0)) (bk_ BK106.out)) : gb106 ≠ gb113))
      have NB113_106 := AM ((by rw [hg]; exact Nat.ne_of_gt (zA_ (g := gb106) (o := .cells #[.slice none 0 0, .string (⟨#[]⟩ : ByteArray), .int .i64 0] 39 (0, 0)) (bk_ BK106.out)) : gb113 ≠ gb106))
      replace BK106 := AM (zh_ (g := gb106) (o := .cells #[.slice none 0 0, .string (⟨#[]⟩ : ByteArray), .int .i64 0] 39 (0, 0)) (bk_ BK106.out) hb)
      clear hb hbox hg
      refine hK.out _ _ ⟨(zb_ BK105.out 0).trans rfl, (zb_ BK105.out 1).trans rfl, (zb_ BK105.out 2).trans rfl⟩ (fun hHeld => ?_)
      clear hK K
      refine nm_ ?_
      exact nmE_ (hCont (v108, .slice Ao11 y110.length co11, gb113) _ ⟨hHeld, (ro_ HO112.out), (bk_ BK105.out), (bk_ BK106.out), (bk_ BK113.out), GW113.out, GE113.out, NB105_113.out, NB113_105.out, NB106_113.out, NB113_106.out, bel_⟩)
     ·
      skip
      refine bs_ 5 #[.slice none 0 0, .string (⟨#[]⟩ : ByteArray), .int .i64 0] 39 ?_
      intro gb113 hg w10 hbox hb
      replace HO109 := AM (Kd.zX_ (ro_ HO109.out) hb)
      have BK113 := AM hbox
      have GW113 := AM ((by rw [hg]; exact (zf_ bel_) : w.heap.size ≤ gb113))
      have GE113 := AM ((by rw [hg]; exact (zf_ bel_) : w.heap.size ≤ gb113))
      replace HB := AM (zc_ bel_ hb)
      have NB105_113 := AM ((by rw [hg]; exact Nat.ne_of_lt (zA_ (g := gb105) (o := .cells #[.slice A0_0 l0_0.length c0_0, .string a0_1, .int .i64 a0_2] 39 (0, 0)) (bk_ BK105.out)) : gb105 ≠ gb113))
      have NB113_105 := AM ((by rw [hg]; exact Nat.ne_of_gt (zA_ (g := gb105) (o := .cells #[.slice A0_0 l0_0.length c0_0, .string a0_1, .int .i64 a0_2] 39 (0, 0)) (bk_ BK105.out)) : gb113 ≠ gb105))
      replace BK105 := AM (zh_ (g := gb105) (o := .cells #[.slice A0_0 l0_0.length c0_0, .string a0_1, .int .i64 a0_2] 39 (0, 0)) (bk_ BK105.out) hb)
      have NB106_113 := AM ((by rw [hg]; exact Nat.ne_of_lt (zA_ (g := gb106) (o := .cells #[.slice none 0 0, .string (⟨#[]⟩ : ByteArray), .int .i64 0] 39 (0, 0)) (bk_ BK106.out)) : gb106 ≠ gb113))
      have NB113_106 := AM ((by rw [hg]; exact Nat.ne_of_gt (zA_ (g := gb106) (o := .cells #[.slice none 0 0, .string (⟨#[]⟩ : ByteArray), .int .i64 0] 39 (0, 0)) (bk_ BK106.out)) : gb113 ≠ gb106))
      replace BK106 := AM (zh_ (g := gb106) (o := .cells #[.slice none 0 0, .string (⟨#[]⟩ : ByteArray), .int .i64 0] 39 (0, 0)) (bk_ BK106.out) hb)
      clear hb hbox hg
      refine hK.out _ _ ⟨(zb_ BK105.out 0).trans rfl, (zb_ BK105.out 1).trans rfl, (zb_ BK105.out 2).trans rfl⟩ (fun hHeld => ?_)
      clear hK K
      refine nm_ ?_
      refine on_ HT_ 3 (some 10) (bA 16 24575) (fun K hK => ?_)
      refine Kd.xi_ (Kd.int .i64) (w0 := w) w.heap.size (by rfl) (.tmp 7) (.tmp 9) 37 2 (.int .i64 0) 8 rfl Tryd.underlying37 info2 rfl (by decide) (by omega) v108 y107 l0_0 _ _ _ (fun _ => True) (fun _ => False) rfl rfl ?aO ?aR (fun _ _ h => h) (fun _ h => h.elim) ?aF ?aB ?aS ?aL ?_
      (case aR => repeat (first | exact (Kd.C_below HR0_0.out HB.out) | (with_reducible refine Kd.yo_ ?_ _) | (with_reducible refine Kd.yn_ ?_ _) | (with_reducible refine Kd.yz_ ?_)))
      (case aB => exact bel_)
      (case aF => exact (fun _ _ => trivial))
      (case aO => exact (ro_ HO109.out))
      (case aS => exact (zf_ bel_))
      (case aL => have := LMc3.out; omega)
      intro v111 w11 ho hb hg hat
      rw [← Ny110.out] at ho
      have n0_ := AM (yu_ (g := gb105) (o := .cells #[.slice A0_0 l0_0.length c0_0, .string a0_1, .int .i64 a0_2] 39 (0, 0)) (bk_ BK105.out) hg (Kd.R_ne HO109.out BK105.out (by decide)))
      have n1_ := AM (yu_ (g := gb106) (o := .cells #[.slice none 0 0, .string (⟨#[]⟩ : ByteArray), .int .i64 0] 39 (0, 0)) (bk_ BK106.out) hg (Kd.R_ne HO109.out BK106.out (by decide)))
      have n2_ := AM (yu_ (g := gb113) (o := .cells #[.slice none 0 0, .string (⟨#[]⟩ : ByteArray), .int .i64 0] 39 (0, 0)) (bk_ BK113.out) hg (Kd.R_ne HO109.out BK113.out (by decide)))
      have n3_ := AM hb
      have n4_ := AM ho
      clear BK105
      clear BK106
      clear BK113
      clear HB
      clear HO109
      have BK105 := n0_
      have BK106 := n1_
      have BK113 := n2_
      have HB := n3_
      have HO112 := n4_
      clear n0_ n1_ n2_ n3_ n4_
      clear ho hb hg hat
      obtain ⟨Ao12, co12, eo12⟩ := Kd.yg_ HO112.out
      (first | subst eo12 | (injection eo12 with f1_ f2_ f3_; have f4_ := f1_.symm; have f5_ := f3_.symm; clear f1_ f2_ f3_; subst f4_; subst f5_))
      refine hK.out _ _ ⟨(zb_ BK105.out 0).trans rfl, (zb_ BK105.out 1).trans rfl, (zb_ BK105.out 2).trans rfl⟩ (fun hHeld => ?_)
      clear hK K
      refine nm_ ?_
      refine pu_ HT_ 13 (some 20) (bA 16 32767) ?_
      exact nmE_ (hCont (v108, .slice Ao12 y110.length co12, gb113) _ ⟨hHeld, (ro_ HO112.out), (bk_ BK105.out), (bk_ BK106.out), (bk_ BK113.out), GW113.out, GE113.out, NB105_113.out, NB113_105.out, NB106_113.out, NB113_106.out, bel_⟩)
    ·
     skip
     refine bs_ 5 #[.slice none 0 0, .string (⟨#[]⟩ : ByteArray), .int .i64 0] 39 ?_
     intro gb113 hg w8 hbox hb
     have BK113 := AM hbox
     have GW113 := AM ((by rw [hg]; exact (zf_ bel_) : w.heap.size ≤ gb113))
     have GE113 := AM ((by rw [hg]; exact (zf_ bel_) : w.heap.size ≤ gb113))
     replace HB := AM (zc_ bel_ hb)
     have NB105_113 := AM ((by rw [hg]; exact Nat.ne_of_lt (zA_ (g := gb105) (o := .cells #[.slice A0_0 l0_0.length c0_0, .string a0_1, .int .i64 a0_2] 39 (0, 0)) (bk_ BK105.out)) : gb105 ≠ gb113))
     have NB113_105 := AM ((by rw [hg]; exact Nat.ne_of_gt (zA_ (g := gb105) (o := .cells #[.slice A0_0 l0_0.length c0_0, .string a0_1, .int .i64 a0_2] 39 (0, 0)) (bk_ BK105.out)) : gb113 ≠ gb105))
     replace BK105 := AM (zh_ (g := gb105) (o := .cells #[.slice A0_0 l0_0.length c0_0, .string a0_1, .int .i64 a0_2] 39 (0, 0)) (bk_ BK105.out) hb)
     have NB106_113 := AM ((by rw [hg]; exact Nat.ne_of_lt (zA_ (g := gb106) (o := .cells #[.slice none 0 0, .string (⟨#[]⟩ : ByteArray), .int .i64 0] 39 (0, 0)) (bk_ BK106.out)) : gb106 ≠ gb113))
     have NB113_106 := AM ((by rw [hg]; exact Nat.ne_of_gt (zA_ (g := gb106) (o := .cells #[.slice none 0 0, .string (⟨#[]⟩ : ByteArray), .int .i64 0] 39 (0, 0)) (bk_ BK106.out)) : gb113 ≠ gb106))
     replace BK106 := AM (zh_ (g := gb106) (o := .cells #[.slice none 0 0, .string (⟨#[]⟩ : ByteArray), .int .i64 0] 39 (0, 0)) (bk_ BK106.out) hb)
     clear hb hbox hg
     refine hK.out _ _ ⟨(zb_ BK105.out 0).trans rfl, (zb_ BK105.out 1).trans rfl, (zb_ BK105.out 2).trans rfl⟩ (fun hHeld => ?_)
     clear hK K
     refine nm_ ?_
     refine on_ HT_ 0 (some 7) (bA 16 24567) (fun K hK => ?_)
     refine Kd.R_lit_step (Kd.int .i64) _ 2 ?hgL2 (N := 7) ?hdL2 (xs := ([] : List Int)) (inner := []) (ok := fun _ => True) (okp := fun _ => True) ?hrL2 ?hpL2 (fun _ hk => hk) trivial (Below.refl _ _) (Nat.le_refl _) (by simp) ?_; (case hdL2 => rfl); (case hgL2 => rfl); (case hrL2 => first | (go_simp; done) | (go_simp; rfl)); (case hpL2 => exact (Reps.none _ _))
     intro v108 w9 ho10 hb hg_ hnew_
     clear hg_ hnew_
     (first | rw [← Ny107.out] at ho10 | (simp only [Int.reduceToNat] at ho10; rw [← Ny107.out] at ho10))
     have HO109 := AM (Kd.ya_ ho10 (zf_ bel_))
     replace BK105 := AM (zh_ (g := gb105) (o := .cells #[.slice A0_0 l0_0.length c0_0, .string a0_1, .int .i64 a0_2] 39 (0, 0)) (bk_ BK105.out) hb)
     replace BK106 := AM (zh_ (g := gb106) (o := .cells #[.slice none 0 0, .string (⟨#[]⟩ : ByteArray), .int .i64 0] 39 (0, 0)) (bk_ BK106.out) hb)
     replace BK113 := AM (zh_ (g := gb113) (o := .cells #[.slice none 0 0, .string (⟨#[]⟩ : ByteArray), .int .i64 0] 39 (0, 0)) (bk_ BK113.out) hb)
     replace HB := AM (zc_ bel_ hb)
     clear hb ho10
     refine hK.out _ _ ⟨(zb_ BK105.out 0).trans rfl, (zb_ BK105.out 1).trans rfl, (zb_ BK105.out 2).trans rfl⟩ (fun hHeld => ?_)
     clear hK K
     refine nm_ ?_
     refine on_ HT_ 3 (some 10) (bA 16 24575) (fun K hK => ?_)
     refine Kd.xi_ (Kd.int .i64) (w0 := w) w.heap.size (by rfl) (.tmp 7) (.tmp 9) 37 2 (.int .i64 0) 8 rfl Tryd.underlying37 info2 rfl (by decide) (by omega) v108 y107 l0_0 _ _ _ (fun _ => True) (fun _ => False) rfl rfl ?aO ?aR (fun _ _ h => h) (fun _ h => h.elim) ?aF ?aB ?aS ?aL ?_
     (case aR => repeat (first | exact (Kd.C_below HR0_0.out HB.out) | (with_reducible refine Kd.yo_ ?_ _) | (with_reducible refine Kd.yn_ ?_ _) | (with_reducible refine Kd.yz_ ?_)))
     (case aB => exact bel_)
     (case aF => exact (fun _ _ => trivial))
     (case aO => exact (ro_ HO109.out))
     (case aS => exact (zf_ bel_))
     (case aL => have := LMc3.out; omega)
     intro v111 w11 ho hb hg hat
     rw [← Ny110.out] at ho
     have n0_ := AM (yu_ (g := gb105) (o := .cells #[.slice A0_0 l0_0.length c0_0, .string a0_1, .int .i64 a0_2] 39 (0, 0)) (bk_ BK105.out) hg (Kd.R_ne HO109.out BK105.out (by decide)))
     have n1_ := AM (yu_ (g := gb106) (o := .cells #[.slice none 0 0, .string (⟨#[]⟩ : ByteArray), .int .i64 0] 39 (0, 0)) (bk_ BK106.out) hg (Kd.R_ne HO109.out BK106.out (by decide)))
     have n2_ := AM (yu_ (g := gb113) (o := .cells #[.slice none 0 0, .string (⟨#[]⟩ : ByteArray), .int .i64 0] 39 (0, 0)) (bk_ BK113.out) hg (Kd.R_ne HO109.out BK113.out (by decide)))
     have n3_ := AM hb
     have n4_ := AM ho
     clear BK105
     clear BK106
     clear BK113
     clear HB
     clear HO109
     have BK105 := n0_
     have BK106 := n1_
     have BK113 := n2_
     have HB := n3_
     have HO112 := n4_
     clear n0_ n1_ n2_ n3_ n4_
     clear ho hb hg hat
     obtain ⟨Ao12, co12, eo12⟩ := Kd.yg_ HO112.out
     (first | subst eo12 | (injection eo12 with f1_ f2_ f3_; have f4_ := f1_.symm; have f5_ := f3_.symm; clear f1_ f2_ f3_; subst f4_; subst f5_))
     refine hK.out _ _ ⟨(zb_ BK105.out 0).trans rfl, (zb_ BK105.out 1).trans rfl, (zb_ BK105.out 2).trans rfl⟩ (fun hHeld => ?_)
     clear hK K
     refine nm_ ?_
     refine pu_ HT_ 13 (some 20) (bA 16 32767) ?_
     exact nmE_ (hCont (v108, .slice Ao12 y110.length co12, gb113) _ ⟨hHeld, (ro_ HO112.out), (bk_ BK105.out), (bk_ BK106.out), (bk_ BK113.out), GW113.out, GE113.out, NB105_113.out, NB113_105.out, NB106_113.out, NB113_106.out, bel_⟩)
   rintro ⟨v108, v111, gb113⟩ w13 ⟨hS_, h0_, h1_, h2_, h3_, h4_, h5_, h6_, h7_, h8_, h9_, h10_⟩
   have HO112 : zd_ (Kd.R (Kd.int .i64) 2 w13 w.heap.size (fun _ => True) v111 y110) := ⟨h0_⟩
   replace BK105 : zd_ (w13.heap[gb105]? = some (.cells #[.slice A0_0 l0_0.length c0_0, .string a0_1, .int .i64 a0_2] 39 (0, 0))) := ⟨h1_⟩
   replace BK106 : zd_ (w13.heap[gb106]? = some (.cells #[.slice none 0 0, .string (⟨#[]⟩ : ByteArray), .int .i64 0] 39 (0, 0))) := ⟨h2_⟩
   have BK113 : zd_ (w13.heap[gb113]? = some (.cells #[.slice none 0 0, .string (⟨#[]⟩ : ByteArray), .int .i64 0] 39 (0, 0))) := ⟨h3_⟩
   have GW113 : zd_ (w.heap.size ≤ gb113) := ⟨h4_⟩
   have GE113 : zd_ (w.heap.size ≤ gb113) := ⟨h5_⟩
   have NB105_113 : zd_ (gb105 ≠ gb113) := ⟨h6_⟩
   have NB113_105 : zd_ (gb113 ≠ gb105) := ⟨h7_⟩
   have NB106_113 : zd_ (gb106 ≠ gb113) := ⟨h8_⟩
   have NB113_106 : zd_ (gb113 ≠ gb106) := ⟨h9_⟩
   replace HB : zd_ (Below w.heap.size w w13) := ⟨h10_⟩
   clear h0_ h1_ h2_ h3_ h4_ h5_ h6_ h7_ h8_ h9_ h10_
   have hHeld : w13.cell? ⟨gb105, 0, none⟩ = some (.slice A0_0 l0_0.length c0_0) ∧ w13.cell? ⟨gb105, 1, none⟩ = some (.string a0_1) ∧ w13.cell? ⟨gb105, 2, none⟩ = some (.int .i64 a0_2) := hS_
   obtain ⟨Ao14, co14, eo14⟩ := Kd.yg_ HO112.out
   (first | subst eo14 | (injection eo14 with f1_ f2_ f3_; have f4_ := f1_.symm; have f5_ := f3_.symm; clear f1_ f2_ f3_; subst f4_; subst f5_))
   refine nmA_ ?_
   refine on_ HT_ 15 none (bA 16 65535) (fun K hK => ?_)
   have hs15 : w13.cell? ⟨gb113, 0, none⟩ = some (.slice none 0 0) := (zb_ BK113.out 0).trans rfl
   have hfs15 := za_ BK113.out 0
   have hns15_0 := NB105_113.out
   have hns15_1 := NB106_113.out
   have hms15_0 := NB113_105.out
   have hms15_1 := NB113_106.out
   have hs16 : w13.cell? ⟨gb113, 1, none⟩ = some (.string (⟨#[]⟩ : ByteArray)) := (zb_ BK113.out 1).trans rfl
   have hfs16 := za_ BK113.out 1
   have hns16_0 := NB105_113.out
   have hns16_1 := NB106_113.out
   have hms16_0 := NB113_105.out
   have hms16_1 := NB113_106.out
   have hs17 : w13.cell? ⟨gb113, 2, none⟩ = some (.int .i64 0) := (zb_ BK113.out 2).trans rfl
   have hfs17 := za_ BK113.out 2
   have hns17_0 := NB105_113.out
   have hns17_1 := NB106_113.out
   have hms17_0 := NB113_105.out
   have hms17_1 := NB113_106.out
   refine sk_ ?_
   refine hK.out _ _ ⟨(by (rw [cell_far, cell_far, cell_far]) <;> first | exact hHeld.1 | exact NB105_113.out), (by (rw [cell_far, cell_far, cell_far]) <;> first | exact hHeld.2.1 | exact NB105_113.out), (by (rw [cell_far, cell_far, cell_far]) <;> first | exact hHeld.2.2 | exact NB105_113.out)⟩ (fun hHeld => ?_)
   clear hK K
   refine dn_ HT_ ?_
   try go_wp2
   obtain ⟨cat, hcat⟩ : ∃ c_ : ByteArray, a0_1 ++ a1 = c_ := ⟨_, rfl⟩
   replace H' := H'.out
   replace BK113 := BK113.out
   rw [hcat] at H'
   try rw [hcat] at BK113
   try rw [hcat]
   replace H' := AM H'
   replace BK113 := AM BK113
   have Ncat := AM hcat
   clear hcat
   go_loopg [6] k (fun kq v6 w' => ∃ (x6_1 : Int) (x114000_1 : List Int) (u114000 : Value), v6 = .int .i64 x6_1 ∧ zd_ (zr_.l0 kq x6_1 x114000_1 cat (wrap64 (a0_2 + (a1.size : Int))) = some (r1, r2, r3)) ∧ zd_ (kq ≤ k) ∧ zd_ (Kd.R (Kd.int .i64) 2 w' w.heap.size (fun _ => True) u114000 x114000_1) ∧ zd_ (w'.heap[gb105]? = some (.cells #[(.slice A0_0 l0_0.length c0_0), .string a0_1, .int .i64 a0_2] 39 (0, 0))) ∧ zd_ (w'.heap[gb106]? = some (.cells #[(.slice none 0 0), .string (⟨#[]⟩ : ByteArray), .int .i64 0] 39 (0, 0))) ∧ zd_ (w'.heap[gb113]? = some (.cells #[u114000, .string cat, .int .i64 (wrap64 (a0_2 + (a1.size : Int)))] 39 (0, 0))) ∧ zd_ (Below w.heap.size w w'))
   case atStart => exact ⟨(0), (y110), (.slice Ao14 y110.length co14), re_, H', ⟨Nat.le_refl _⟩, ⟨by (with_reducible repeat (first | apply Kd.yv_ | apply Kd.yt_ | apply Kd.yI_)); exact Kd.z9_ (Kd.R_far (p := ⟨gb113, 2, none⟩) (Kd.R_far (p := ⟨gb113, 1, none⟩) (Kd.R_far (p := ⟨gb113, 0, none⟩) (Kd.yB_ HO112.out BK113.out (by decide)) (fun _ hk => hk.2) (.slice Ao14 y110.length co14)) (fun _ hk => hk.2) (.string cat)) (fun _ hk => hk.2) (.int .i64 (wrap64 (a0_2 + (a1.size : Int))))) (fun _ hk => trivial)⟩, ⟨bka_⟩, ⟨bka_⟩, ⟨bka_⟩, ⟨bel_⟩⟩
   case round =>
    clear H'
    (try clear c4); (try clear c4b0); (try clear c4b1); (try clear c4b2)
    obtain ⟨x6_1, x114000_1, u114000, rfl, HA, HK1, HO_114000, BK105, BK106, BK113, HB⟩ := hrel
    cases gk with
    | zero => exact absurd HA.out (by simp [zr_.l0])
    | succ k1 =>
     have H := HA.out
     clear HA
     simp only [zr_.l0] at H
     by_cases c18 : (wrap64 ((cat.size : Int) - x6_1)) ≥ 64
     ·
      rw [if_pos c18] at H
      have c18b0 : decide (64 ≤ (wrap64 ((cat.size : Int) - x6_1))) = true := decide_eq_true c18
      try have c18b9 : (decide (64 ≤ (((cat.size : Int) - x6_1)))) = true := (by have hw0 : wrap64 ((cat.size : Int) - x6_1) = (cat.size : Int) - x6_1 := (by unfold wrap64; omega); have z_ := c18b0; simp only [hw0] at z_; exact z_)
      clear c18
      by_cases c19 : 0 ≤ x6_1
      ·
       rw [if_pos c19] at H
       have c19b0 := eq_true c19
       have c19b1 : decide (0 ≤ x6_1) = true := decide_eq_true c19
       clear c19
       by_cases c20 : x6_1 ≤ (wrap64 (x6_1 + 64))
       ·
        rw [if_pos c20] at H
        have c20b0 := eq_true c20
        have c20b1 : decide (x6_1 ≤ (wrap64 (x6_1 + 64))) = true := decide_eq_true c20
        by_cases c21 : (wrap64 (x6_1 + 64)) ≤ (cat.size : Int)
        ·
         rw [if_pos c21] at H
         have c21b0 := eq_true c21
         have c21b1 : decide ((wrap64 (x6_1 + 64)) ≤ (cat.size : Int)) = true := decide_eq_true c21
         obtain ⟨t114, A22, H⟩ := OB H
         try dsimp only at H
         replace A22 := AM A22
         have H' := AM H
         clear H
         have hnb23 := NB113_105.out
         have hnc23 := NB105_113.out
         have hnb24 := NB113_106.out
         have hnc24 := NB106_113.out
         have hcz25_0 : wr.cell? ⟨gb113, 0, none⟩ = some (u114000) := (zb_ BK113.out 0).trans rfl
         have hcz25_1 : wr.cell? ⟨gb113, 1, none⟩ = some (.string cat) := (zb_ BK113.out 1).trans rfl
         have hcz25_2 : wr.cell? ⟨gb113, 2, none⟩ = some (.int .i64 (wrap64 (a0_2 + (a1.size : Int)))) := (zb_ BK113.out 2).trans rfl
         have hfz25_0 := za_ BK113.out 0
         have hfz25_1 := za_ BK113.out 1
         have hfz25_2 := za_ BK113.out 2
         try go_wp2
         replace HO_114000 := AM (Kd.yI_ HO_114000.out)
         replace BK105 := AM (zN_ BK105.out)
         replace BK106 := AM (zN_ BK106.out)
         replace BK113 := AM (zN_ BK113.out)
         replace HB := AM (zF_ HB.out)
         obtain ⟨Ao27, co27, eo27⟩ := Kd.yg_ HO_114000.out
         (first | subst eo27 | (injection eo27 with f1_ f2_ f3_; have f4_ := f1_.symm; have f5_ := f3_.symm; clear f1_ f2_ f3_; subst f4_; subst f5_))
         refine yU_ (n := 11) (S := fun w' => w'.cell? ⟨gb113, 0, none⟩ = some (.slice Ao27 x114000_1.length co27) ∧ w'.cell? ⟨gb113, 1, none⟩ = some (.string cat) ∧ w'.cell? ⟨gb113, 2, none⟩ = some (.int .i64 (wrap64 (a0_2 + (a1.size : Int))))) (ds := [10]) (Array.replicate 11 false) (by kernel_rfl) rfl rfl ⟨(zb_ BK113.out 0).trans rfl, (zb_ BK113.out 1).trans rfl, (zb_ BK113.out 2).trans rfl⟩ (fun hHeld => ?_); refine yx_ zr_.tab5 zr_.bits5 (fun HT_ HW_ => ?_)
         generalize wr.drew = w26 at HO_114000 BK105 BK106 BK113 HB hHeld ⊢
         refine pu_ HT_ 0 (some 29) (bA 11 1) ?_
         refine pu_ HT_ 2 (some 31) (bA 11 5) ?_
         refine pu_ HT_ 4 (some 33) (bA 11 21) ?_
         refine pu_ HT_ 5 (some 34) (bA 11 53) ?_
         refine pu_ HT_ 6 (some 35) (bA 11 117) ?_
         refine ta_ HT_ HW_ 1 (some 30) (bA 11 119) hHeld ?_
         refine ta_ HT_ HW_ 3 (some 32) (bA 11 127) hHeld ?_
         refine pu_ HT_ 7 (some 36) (bA 11 255) ?_
         refine on_ HT_ 8 (some 37) (bA 11 511) (fun K hK => ?_)
         refine go1_ Tryd.func99 #[.slice Ao27 x114000_1.length co27, .string (cat.extract (x6_1 : Int).toNat ((wrap64 (x6_1 + 64)) : Int).toNat)] ?_
         with_reducible refine (yM_.calls _ _ x114000_1 (cat.extract (x6_1 : Int).toNat ((wrap64 (x6_1 + 64)) : Int).toNat) t114 _ ?side1 ?side2 A22.out).mono ?_
         (case side1 => repeat (first | exact (Kd.zY_ HO_114000.out).2.2 | (with_reducible refine Kd.yo_ ?_ _) | (with_reducible refine Kd.yn_ ?_ _) | (with_reducible refine Kd.yz_ ?_)))
         (case side2 => exact (Kd.zY_ HO_114000.out).2.1)
         rintro e w28 ⟨v115, rfl, ho0, hb⟩
         refine ⟨_, rfl, ?_⟩
         have HO116 := AM (Kd.ya_ (Kd.xf_ ho0 (Kd.R_lt (ro_ HO_114000.out))) (zf_ bel_))
         replace HO_114000 := AM (Kd.yJ_ (ro_ HO_114000.out) (Kd.xh_ ho0) hb)
         replace BK105 := AM (zh_ (g := gb105) (o := .cells #[.slice A0_0 l0_0.length c0_0, .string a0_1, .int .i64 a0_2] 39 (0, 0)) (bk_ BK105.out) hb)
         replace BK106 := AM (zh_ (g := gb106) (o := .cells #[.slice none 0 0, .string (⟨#[]⟩ : ByteArray), .int .i64 0] 39 (0, 0)) (bk_ BK106.out) hb)
         replace BK113 := AM (zh_ (g := gb113) (o := .cells #[.slice Ao27 x114000_1.length co27, .string cat, .int .i64 (wrap64 (a0_2 + (a1.size : Int)))] 39 (0, 0)) (bk_ BK113.out) hb)
         replace HB := AM (zc_ bel_ hb)
         (try clear hb); (try clear hk); (try clear ho0)
         obtain ⟨Ao29, co29, eo29⟩ := Kd.yg_ HO116.out
         (first | subst eo29 | (injection eo29 with f1_ f2_ f3_; have f4_ := f1_.symm; have f5_ := f3_.symm; clear f1_ f2_ f3_; subst f4_; subst f5_))
         refine hK.out _ _ ⟨(zb_ BK113.out 0).trans rfl, (zb_ BK113.out 1).trans rfl, (zb_ BK113.out 2).trans rfl⟩ (fun hHeld => ?_)
         clear hK K
         refine nm_ ?_
         refine pu_ HT_ 9 (some 38) (bA 11 1023) ?_
         refine last_ (i := 10) (N := none) (bA 11 2047) rfl rfl (one_of HT_.out (by kernel_rfl)) (by decide) (fun K hK => ?_)
         have hs30 : w28.cell? ⟨gb113, 0, none⟩ = some (.slice Ao27 x114000_1.length co27) := (zb_ BK113.out 0).trans rfl
         have hfs30 := za_ BK113.out 0
         have hns30_0 := NB105_113.out
         have hns30_1 := NB106_113.out
         have hms30_0 := NB113_105.out
         have hms30_1 := NB113_106.out
         refine sk_ ?_
         refine hK.out _ _ ?_
         clear hK K
         refine dn_ HT_ ?_
         try go_wp2
         go_roundg k1
         case measure => have := HK1.out; omega
         case rel => exact ⟨(wrap64 (x6_1 + 64)), (t114), (.slice Ao29 t114.length co29), re_, H', ⟨by have := HK1.out; omega⟩, ⟨by (with_reducible repeat (first | apply Kd.yv_ | apply Kd.yt_ | apply Kd.yI_)); exact Kd.z9_ (Kd.R_far (p := ⟨gb113, 0, none⟩) (Kd.yB_ HO116.out BK113.out (by decide)) (fun _ hk => hk.2) (.slice Ao29 t114.length co29)) (fun _ hk => trivial)⟩, ⟨bka_⟩, ⟨bka_⟩, ⟨bka_⟩, ⟨bel_⟩⟩
        ·
         rw [if_neg c21] at H
         exact absurd H (by simp)
       ·
        rw [if_neg c20] at H
        exact absurd H (by simp)
      ·
       rw [if_neg c19] at H
       exact absurd H (by simp)
     ·
      rw [if_neg c18] at H
      have c18b0 : decide (64 ≤ (wrap64 ((cat.size : Int) - x6_1))) = false := decide_eq_false c18
      try have c18b9 : (decide (64 ≤ (((cat.size : Int) - x6_1)))) = false := (by have hw0 : wrap64 ((cat.size : Int) - x6_1) = (cat.size : Int) - x6_1 := (by unfold wrap64; omega); have z_ := c18b0; simp only [hw0] at z_; exact z_)
      clear c18
      by_cases c31 : 0 ≤ x6_1
      ·
       rw [if_pos c31] at H
       have c31b0 := eq_true c31
       have c31b1 : decide (0 ≤ x6_1) = true := decide_eq_true c31
       clear c31
       by_cases c32 : x6_1 ≤ (cat.size : Int)
       ·
        rw [if_pos c32] at H
        have c32b0 := eq_true c32
        have c32b1 : decide (x6_1 ≤ (cat.size : Int)) = true := decide_eq_true c32
        simp only [Option.some.injEq, Prod.mk.injEq] at H
        obtain ⟨rfl, rfl, rfl⟩ := H
        have hnb33 := NB113_105.out
        have hnc33 := NB105_113.out
        have hnb34 := NB113_106.out
        have hnc34 := NB106_113.out
        have hcz35_0 : wr.cell? ⟨gb113, 0, none⟩ = some (u114000) := (zb_ BK113.out 0).trans rfl
        have hcz35_1 : wr.cell? ⟨gb113, 1, none⟩ = some (.string cat) := (zb_ BK113.out 1).trans rfl
        have hcz35_2 : wr.cell? ⟨gb113, 2, none⟩ = some (.int .i64 (wrap64 (a0_2 + (a1.size : Int)))) := (zb_ BK113.out 2).trans rfl
        have hfz35_0 := za_ BK113.out 0
        have hfz35_1 := za_ BK113.out 1
        have hfz35_2 := za_ BK113.out 2
        obtain ⟨Ao36, co36, eo36⟩ := Kd.yg_ HO_114000.out
        subst eo36
        have hnb37 := NB106_105.out
        have hnc37 := NB105_106.out
        have hcz38_0 : wr.cell? ⟨gb106, 0, none⟩ = some (.slice none 0 0) := (zb_ BK106.out 0).trans rfl
        have hcz38_1 : wr.cell? ⟨gb106, 1, none⟩ = some (.string (⟨#[]⟩ : ByteArray)) := (zb_ BK106.out 1).trans rfl
        have hcz38_2 : wr.cell? ⟨gb106, 2, none⟩ = some (.int .i64 0) := (zb_ BK106.out 2).trans rfl
        have hfz38_0 := za_ BK106.out 0
        have hfz38_1 := za_ BK106.out 1
        have hfz38_2 := za_ BK106.out 2
        go_wp2
        refine bodyPost_ret (results_cell_row rfl _ _ gb106 39 #[.slice Ao36 x114000_1.length co36, .string (cat.extract (x6_1 : Int).toNat cat.size), .int .i64 (wrap64 (a0_2 + (a1.size : Int)))] (0, 0) _ rfl bka_ Tryd.underlying39 rfl (by kernel_rfl)) rfl ?_
        exact ⟨_, ri_, by (with_reducible repeat (first | apply Kd.yv_ | apply Kd.yt_ | apply Kd.yI_)); exact Kd.z9_ (Kd.R_far (p := ⟨gb106, 2, none⟩) (Kd.R_far (p := ⟨gb106, 1, none⟩) (Kd.R_far (p := ⟨gb106, 0, none⟩) (Kd.R_far (p := ⟨gb113, 1, none⟩) (Kd.yB_ (Kd.yB_ HO_114000.out BK113.out (by decide)) BK106.out (by decide)) (fun _ hk => hk.1.2) (.string (cat.extract (x6_1 : Int).toNat cat.size))) (fun _ hk => hk.2) (.slice Ao36 x114000_1.length co36)) (fun _ hk => hk.2) (.string (cat.extract (x6_1 : Int).toNat cat.size))) (fun _ hk => hk.2) (.int .i64 (wrap64 (a0_2 + (a1.size : Int))))) (fun _ hk => trivial), bel_⟩
       ·
        rw [if_neg c32] at H
        exact absurd H (by simp)
      ·
       rw [if_neg c31] at H
       exact absurd H (by simp)
  ·
   rw [if_neg c4] at H
   exact absurd H (by simp)
 ·
  rw [if_neg c3] at H
  exact absurd H (by simp)
end Go.Proofs.YtfffdndeccipnaaDoor.PFnPack
