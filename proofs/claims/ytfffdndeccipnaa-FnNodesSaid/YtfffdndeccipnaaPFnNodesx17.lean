/- Functions of the law FnNodes: the print's, with walks of this session's own. No statement is proved here. -/
import Derived.WalkLawsBesides
import Derived.Test.YtfffdndeccipnaaPFnNodesx8
namespace Go.Proofs.Ytfffdndeccipnaa.PFnNodes
open Go.RowKit Go.Proofs.YtfffdndeccipnaaW.PrintWords Go.Proofs.YtfffdndeccipnaaW.PrintLast Go.Proofs.YtfffdndeccipnaaW.PrintMore Go.Proofs.Ytfffdndeccipnaa.Reg Go.Proofs.Ytfffdndeccipnaa.Aut
attribute [local go_sem] xE_ xC_ max_two min_two xn_ xm_ xD_ xB_
set_option linter.unusedVariables false
set_option linter.unusedSimpArgs false
set_option maxHeartbeats 8000000
set_option maxRecDepth 100000
/-! ### zr_: function 160 -/
mutual
def zr_.l0 : Nat → ByteArray → Int → Int → Int → Option (Int × Int × Int)
 | 0, _, _, _, _ => none
 | k + 1, x0, x1, x5, x6 => (yj_.f x0).bind fun t326 => (if x1 > (wrap64 ((wrap64 (t326 - 1)) - x6)) then (some (0, 0, 4)) else (if 0 ≤ (wrap64 (x1 + x6)) then (if (wrap64 (x1 + x6)) < (x0.size : Int) then (if 0 ≤ (wrap64 (7 * x6)) then (if x6 = 9 then (zr_.j1 k x0 x1 (Go.bits .or .u64 x5 (shl .u64 (IntKind.u64.wrap (Go.bits .and .u8 (bt x0 (wrap64 (x1 + x6))) 127)) (wrap64 (7 * x6)))) x6 (bt x0 (wrap64 (x1 + x6))) (decide ((bt x0 (wrap64 (x1 + x6))) > 1))) else (zr_.j1 k x0 x1 (Go.bits .or .u64 x5 (shl .u64 (IntKind.u64.wrap (Go.bits .and .u8 (bt x0 (wrap64 (x1 + x6))) 127)) (wrap64 (7 * x6)))) x6 (bt x0 (wrap64 (x1 + x6))) false)) else (none)) else (none)) else (none)))
def zr_.j1 : Nat → ByteArray → Int → Int → Int → Int → Bool → Option (Int × Int × Int)
 | 0, _, _, _, _, _, _ => none
 | k + 1, x0, x1, x5, x6, x7, x34 => if x34 = true then (zr_.j2 k x0 x1 x5 x6 x7 x34) else (if x7 = 0 then (zr_.j2 k x0 x1 x5 x6 x7 (decide (x6 > 0))) else (zr_.j2 k x0 x1 x5 x6 x7 false))
def zr_.j2 : Nat → ByteArray → Int → Int → Int → Int → Bool → Option (Int × Int × Int)
 | 0, _, _, _, _, _, _ => none
 | k + 1, x0, x1, x5, x6, x7, x34 => if x34 = true then (some (0, 0, 3)) else (if x7 < 128 then (some (Go.bits .xor .i64 (wrap64 (x5 / 2)) (wrap64 (-(wrap64 (Go.bits .and .u64 x5 1)))), wrap64 ((wrap64 (x1 + x6)) + 1), 0)) else (zr_.l0 k x0 x1 x5 (wrap64 (x6 + 1))))
end
def zr_.f (k : Nat) (a0 : ByteArray) (a1 : Int) : Option (Int × Int × Int) := if a1 < 0 then (some (0, 0, 1)) else (zr_.l0 k a0 a1 0 0)
theorem zr_.mono_l : ∀ k, (∀ y0 y1 y2 y3, LeO (zr_.l0 k y0 y1 y2 y3) (zr_.l0 (k + 1) y0 y1 y2 y3)) ∧ (∀ y0 y1 y2 y3 y4 y5, LeO (zr_.j1 k y0 y1 y2 y3 y4 y5) (zr_.j1 (k + 1) y0 y1 y2 y3 y4 y5)) ∧ (∀ y0 y1 y2 y3 y4 y5, LeO (zr_.j2 k y0 y1 y2 y3 y4 y5) (zr_.j2 (k + 1) y0 y1 y2 y3 y4 y5))
 | 0 => ⟨fun _ _ _ _ r h => by simp [zr_.l0] at h, fun _ _ _ _ _ _ r h => by simp [zr_.j1] at h, fun _ _ _ _ _ _ r h => by simp [zr_.j2] at h⟩
 | k + 1 => by
  obtain ⟨ih0, ih1, ih2⟩ := zr_.mono_l k
  refine ⟨?_, ?_, ?_⟩
  ·
   intro y0 y1 y2 y3
   unfold zr_.l0
   repeat' with_reducible first | exact ih0 _ _ _ _ | exact ih1 _ _ _ _ _ _ | exact ih2 _ _ _ _ _ _ | exact LeO.refl _ | exact LeO.none _ | refine LeO.ite ?_ ?_ | refine LeO.bind ?_ (fun _ => ?_)
  ·
   intro y0 y1 y2 y3 y4 y5
   unfold zr_.j1
   repeat' with_reducible first | exact ih0 _ _ _ _ | exact ih1 _ _ _ _ _ _ | exact ih2 _ _ _ _ _ _ | exact LeO.refl _ | exact LeO.none _ | refine LeO.ite ?_ ?_ | refine LeO.bind ?_ (fun _ => ?_)
  ·
   intro y0 y1 y2 y3 y4 y5
   unfold zr_.j2
   repeat' with_reducible first | exact ih0 _ _ _ _ | exact ih1 _ _ _ _ _ _ | exact ih2 _ _ _ _ _ _ | exact LeO.refl _ | exact LeO.none _ | refine LeO.ite ?_ ?_ | refine LeO.bind ?_ (fun _ => ?_)
theorem zr_.mono : ∀ a0 a1 k, LeO (zr_.f k a0 a1) (zr_.f (k + 1) a0 a1) := by
 intro a0 a1 k
 obtain ⟨ih0, ih1, ih2⟩ := zr_.mono_l k
 unfold zr_.f
 repeat' with_reducible first | exact ih0 _ _ _ _ | exact ih1 _ _ _ _ _ _ | exact ih2 _ _ _ _ _ _ | exact LeO.refl _ | exact LeO.none _ | refine LeO.ite ?_ ?_ | refine LeO.bind ?_ (fun _ => ?_)
theorem zr_.calls (k : Nat) (a0 : ByteArray) (a1 : Int) (r1 : Int) (r2 : Int) (r3 : Int) (w : World) (h : zr_.f k a0 a1 = some (r1, r2, r3)) :
 Calls Try.prog 160 #[.string a0, .int .i64 a1] w fun e w' => e = .returned (.agg #[.int .i64 r1, .int .i64 r2, .int .i64 r3]) ∧ Below w.heap.size w w' := by
 have hu199 := Try.underlying199
 have HB := AM (Below.refl w.heap.size w)
 have H : (if a1 < 0 then (some (0, 0, 1)) else (zr_.l0 k a0 a1 0 0)) = some (r1, r2, r3) := h
 clear h
 by_cases c3 : a1 < 0
 ·
  rw [if_pos c3] at H
  have c3b0 : decide (a1 < 0) = true := decide_eq_true c3
  clear c3
  simp only [Option.some.injEq, Prod.mk.injEq] at H
  obtain ⟨rfl, rfl, rfl⟩ := H
  go_enter Try.func160, Try.ntmps160
  go_wp2_with (first | ((with_reducible refine z6_ (N := 4) rfl ?_); refine be_ 4 #[.int .i64 0, .int .i64 0, .int .i64 0] 199 ?_; intro gb325 hg w4 hbox hb; have BK325 := AM hbox; have GW325 := AM ((by rw [hg]; exact (zj_ bel_) : w.heap.size ≤ gb325)); have GE325 := AM ((by rw [hg]; exact (zj_ bel_) : w.heap.size ≤ gb325)); replace HB := AM (zg_ bel_ hb); clear hb hbox hg; have hcz5_0 : w4.cell? ⟨gb325, 0, none⟩ = some (.int .i64 0) := (zb_ BK325.out 0).trans rfl; have hcz5_1 : w4.cell? ⟨gb325, 1, none⟩ = some (.int .i64 0) := (zb_ BK325.out 1).trans rfl; have hcz5_2 : w4.cell? ⟨gb325, 2, none⟩ = some (.int .i64 0) := (zb_ BK325.out 2).trans rfl; have hfz5_0 := za_ BK325.out 0; have hfz5_1 := za_ BK325.out 1; have hfz5_2 := za_ BK325.out 2))
  refine bodyPost_ret (results_cell_row rfl _ _ gb325 199 #[.int .i64 0, .int .i64 0, .int .i64 1] (0, 0) _ rfl bka_ Try.underlying199 rfl (by kernel_rfl)) rfl ?_
  exact ⟨ri_, bel_⟩
 ·
  rw [if_neg c3] at H
  have c3b0 : decide (a1 < 0) = false := decide_eq_false c3
  clear c3
  have H' := AM H
  clear H
  go_enter Try.func160, Try.ntmps160
  go_wp2_with (first | ((with_reducible refine z6_ (N := 4) rfl ?_); refine be_ 4 #[.int .i64 0, .int .i64 0, .int .i64 0] 199 ?_; intro gb325 hg w6 hbox hb; have BK325 := AM hbox; have GW325 := AM ((by rw [hg]; exact (zj_ bel_) : w.heap.size ≤ gb325)); have GE325 := AM ((by rw [hg]; exact (zj_ bel_) : w.heap.size ≤ gb325)); replace HB := AM (zg_ bel_ hb); clear hb hbox hg))
  go_loopg [5, 6] k (fun kq v5 v6 w' => ∃ (x5_1 : Int) (x6_1 : Int) (x326000_1 : Int) (x326001_1 : Int) (x326002_1 : Int), v5 = .int .u64 x5_1 ∧ v6 = .int .i64 x6_1 ∧ zd_ (zr_.l0 kq a0 a1 x5_1 x6_1 = some (r1, r2, r3)) ∧ zd_ (kq ≤ k) ∧ zd_ (w'.heap[gb325]? = some (.cells #[.int .i64 x326000_1, .int .i64 x326001_1, .int .i64 x326002_1] 199 (0, 0))) ∧ zd_ (Below w.heap.size w w'))
  case atStart => exact ⟨(0), (0), (0), (0), (0), re_, re_, H', ⟨Nat.le_refl _⟩, ⟨bk_ BK325.out⟩, ⟨bel_⟩⟩
  case round =>
   clear H'
   (try clear c3b0); (try clear hcz5_0); (try clear hcz5_1); (try clear hcz5_2); (try clear hfz5_0); (try clear hfz5_1); (try clear hfz5_2)
   obtain ⟨x5_1, x6_1, x326000_1, x326001_1, x326002_1, rfl, rfl, HA, HK1, BK325, HB⟩ := hrel
   cases gk with
   | zero => exact absurd HA.out (by simp [zr_.l0])
   | succ k1 =>
    have H := HA.out
    clear HA
    simp only [zr_.l0] at H
    obtain ⟨t326, A7, H⟩ := OB H
    try dsimp only at H
    replace A7 := AM A7
    by_cases c8 : a1 > (wrap64 ((wrap64 (t326 - 1)) - x6_1))
    ·
     rw [if_pos c8] at H
     have c8b0 : decide ((wrap64 ((wrap64 (t326 - 1)) - x6_1)) < a1) = true := decide_eq_true c8
     try have c8b9 : (decide (((((t326 - 1)) - x6_1)) < a1)) = true := (by have hw0 : wrap64 (t326 - 1) = t326 - 1 := (by unfold wrap64; omega); have hw1 : wrap64 (((t326 - 1)) - x6_1) = ((t326 - 1)) - x6_1 := (by unfold wrap64; omega); have z_ := c8b0; simp only [hw0, hw1] at z_; exact z_)
     clear c8
     simp only [Option.some.injEq, Prod.mk.injEq] at H
     obtain ⟨rfl, rfl, rfl⟩ := H
     go_wp2_with (first | ((with_reducible refine zl_ (f := 128) rfl ?_); refine gl_ (some 15) Try.func128 #[.string a0] ?_; (with_reducible refine (yj_.calls a0 t326 _ A7.out).mono ?_); rintro e w' ⟨rfl, ⟨nd, rfl⟩⟩; refine ⟨_, rfl, ?_⟩; (try (rw [xy_ wr]; generalize hq_ : World.drewN wr _ = wr; replace BK325 : zd_ (wr.heap[gb325]? = some (.cells #[.int .i64 x326000_1, .int .i64 x326001_1, .int .i64 x326002_1] 199 (0, 0))) := ⟨by rw [← hq_]; exact (bk_ BK325.out)⟩; replace HB : zd_ (Below w.heap.size w wr) := ⟨by rw [← hq_]; exact bel_⟩; clear hq_)); have hcz9_0 : wr.cell? ⟨gb325, 0, none⟩ = some (.int .i64 x326000_1) := (zb_ BK325.out 0).trans rfl; have hcz9_1 : wr.cell? ⟨gb325, 1, none⟩ = some (.int .i64 x326001_1) := (zb_ BK325.out 1).trans rfl; have hcz9_2 : wr.cell? ⟨gb325, 2, none⟩ = some (.int .i64 x326002_1) := (zb_ BK325.out 2).trans rfl; have hfz9_0 := za_ BK325.out 0; have hfz9_1 := za_ BK325.out 1; have hfz9_2 := za_ BK325.out 2))
     refine bodyPost_ret (results_cell_row rfl _ _ gb325 199 #[.int .i64 0, .int .i64 0, .int .i64 4] (0, 0) _ rfl bka_ Try.underlying199 rfl (by kernel_rfl)) rfl ?_
     exact ⟨ri_, bel_⟩
    ·
     rw [if_neg c8] at H
     have c8b0 : decide ((wrap64 ((wrap64 (t326 - 1)) - x6_1)) < a1) = false := decide_eq_false c8
     try have c8b9 : (decide (((((t326 - 1)) - x6_1)) < a1)) = false := (by have hw0 : wrap64 (t326 - 1) = t326 - 1 := (by unfold wrap64; omega); have hw1 : wrap64 (((t326 - 1)) - x6_1) = ((t326 - 1)) - x6_1 := (by unfold wrap64; omega); have z_ := c8b0; simp only [hw0, hw1] at z_; exact z_)
     clear c8
     obtain ⟨ji10, hji10⟩ : ∃ j_ : Int, (wrap64 (a1 + x6_1)) = j_ := ⟨_, rfl⟩
     replace H : (if 0 ≤ (ji10) then (if (ji10) < (a0.size : Int) then (if 0 ≤ (wrap64 (7 * x6_1)) then (if x6_1 = 9 then (zr_.j1 k1 a0 a1 (Go.bits .or .u64 x5_1 (shl .u64 (IntKind.u64.wrap (Go.bits .and .u8 (bt a0 (ji10)) 127)) (wrap64 (7 * x6_1)))) x6_1 (bt a0 (ji10)) (decide ((bt a0 (ji10)) > 1))) else (zr_.j1 k1 a0 a1 (Go.bits .or .u64 x5_1 (shl .u64 (IntKind.u64.wrap (Go.bits .and .u8 (bt a0 (ji10)) 127)) (wrap64 (7 * x6_1)))) x6_1 (bt a0 (ji10)) false)) else (none)) else (none)) else (none)) = some (r1, r2, r3) := by first | (rw [hji10] at H; exact H) | (simp only [hji10] at H ⊢; exact H)
     (try rw [hji10] at A7)
     have hji10w : (IntKind.i64.wrap (a1 + x6_1)) = ji10 := (i64_w _).trans hji10
     by_cases c11 : 0 ≤ (ji10)
     ·
      rw [if_pos c11] at H
      have c11b0 : decide (0 ≤ (ji10)) = true := decide_eq_true c11
      clear c11
      by_cases c12 : (ji10) < (a0.size : Int)
      ·
       rw [if_pos c12] at H
       have c12b0 : decide ((ji10) < (a0.size : Int)) = true := decide_eq_true c12
       clear c12
       obtain ⟨ji14, hji14⟩ : ∃ j_ : Int, (wrap64 (7 * x6_1)) = j_ := ⟨_, rfl⟩
       replace H : (if 0 ≤ (ji14) then (if x6_1 = 9 then (zr_.j1 k1 a0 a1 (Go.bits .or .u64 x5_1 (shl .u64 (IntKind.u64.wrap (Go.bits .and .u8 (bt a0 (ji10)) 127)) (ji14))) x6_1 (bt a0 (ji10)) (decide ((bt a0 (ji10)) > 1))) else (zr_.j1 k1 a0 a1 (Go.bits .or .u64 x5_1 (shl .u64 (IntKind.u64.wrap (Go.bits .and .u8 (bt a0 (ji10)) 127)) (ji14))) x6_1 (bt a0 (ji10)) false)) else (none)) = some (r1, r2, r3) := by first | (rw [hji14] at H; exact H) | (simp only [hji14] at H ⊢; exact H)
       (try rw [hji14] at A7)
       have hji14w : (IntKind.i64.wrap (7 * x6_1)) = ji14 := (i64_w _).trans hji14
       by_cases c15 : 0 ≤ (ji14)
       ·
        rw [if_pos c15] at H
        have c15b0 := eq_true c15
        have c15b1 : decide (0 ≤ (ji14)) = true := decide_eq_true c15
        clear c15
        obtain ⟨ji16, hji16⟩ : ∃ j_ : Int, (shl .u64 (IntKind.u64.wrap (Go.bits .and .u8 (bt a0 (ji10)) 127)) (ji14)) = j_ := ⟨_, rfl⟩
        replace H : (if x6_1 = 9 then (zr_.j1 k1 a0 a1 (Go.bits .or .u64 x5_1 (ji16)) x6_1 (bt a0 (ji10)) (decide ((bt a0 (ji10)) > 1))) else (zr_.j1 k1 a0 a1 (Go.bits .or .u64 x5_1 (ji16)) x6_1 (bt a0 (ji10)) false)) = some (r1, r2, r3) := by first | (rw [hji16] at H; exact H) | (simp only [hji16] at H ⊢; exact H)
        (try rw [hji16] at A7)
        have hji16_ : (IntKind.u64.wrap ((IntKind.u64.wrap (Go.bits .and .u8 (bt a0 (ji10)) 127)) * 2 ^ min (ji14).toNat 64)) = ji16 := hji16
        have hji16z : (ji14) ≤ 64 → (IntKind.u64.wrap ((IntKind.u64.wrap (Go.bits .and .u8 (bt a0 (ji10)) 127)) * 2 ^ (ji14).toNat)) = ji16 := shl_small hji16
        have HC17 := AM H
        clear H
        go_upto_region 10 with (first | ((with_reducible refine zl_ (f := 128) rfl ?_); refine gl_ (some 15) Try.func128 #[.string a0] ?_; (with_reducible refine (yj_.calls a0 t326 _ A7.out).mono ?_); rintro e w' ⟨rfl, ⟨nd, rfl⟩⟩; refine ⟨_, rfl, ?_⟩; have p13 : 0 ≤ ((ji10) : Int) := of_decide_eq_true asm_; have q13 : (ji10) < (a0.size : Int) := of_decide_eq_true asm_; have hx13 := bt_at a0 (ji10); replace p13 := eq_true p13; replace q13 := eq_true q13))
        (try simp only [Act.put, List.setIfInBounds_toArray, List.set_cons_zero, List.set_cons_succ])
        go_cut [34] (fun v34 wc => ∃ (kq : Nat) (x34_16 : Bool), v34 = .bool x34_16 ∧ zd_ (zr_.j1 kq a0 a1 (Go.bits .or .u64 x5_1 (ji16)) x6_1 (bt a0 (ji10)) x34_16 = some (r1, r2, r3)) ∧ zd_ (kq ≤ k1) ∧ zd_ (wc.heap[gb325]? = some (.cells #[.int .i64 x326000_1, .int .i64 x326001_1, .int .i64 x326002_1] 199 (0, 0))) ∧ zd_ (Below w.heap.size w wc))
        case first =>
         have H := HC17.out
         clear HC17
         by_cases c18 : x6_1 = 9
         ·
          rw [if_pos c18] at H
          have c18b0 : (x6_1 == 9) = true := beq_iff_eq.mpr c18
          have c18b1 : (x6_1 != 9) = false := bne_eq_false_iff_eq.mpr c18
          clear c18
          (first | rw [c18b0] | (simp only [i64_w, i32_w]; rw [c18b0]) | skip)
          have H' := AM H
          clear H
          go_wp2
          go_meet
          case rel => exact ⟨_, (decide ((bt a0 (ji10)) > 1)), (by first | rfl | (simp; done) | (simp only [← hji10] <;> (first | rfl | simp)) | (simp [*]; done)), H', ⟨by have := HK1.out; first | omega | exact Nat.le_refl _⟩, ⟨bk_ BK325.out⟩, ⟨bel_⟩⟩
         ·
          rw [if_neg c18] at H
          have c18b0 : (x6_1 == 9) = false := beq_eq_false_iff_ne.mpr c18
          have c18b1 : (x6_1 != 9) = true := bne_iff_ne.mpr c18
          (first | rw [c18b0] | (simp only [i64_w, i32_w]; rw [c18b0]) | skip)
          have H' := AM H
          clear H
          go_wp2
          go_meet
          case rel => exact ⟨_, (false), re_, H', ⟨by have := HK1.out; first | omega | exact Nat.le_refl _⟩, ⟨bk_ BK325.out⟩, ⟨bel_⟩⟩
        case rest =>
         clear HC17
         (try clear c8b0); (try clear c11b0); (try clear c12b0); (try clear p13); (try clear q13); (try clear hx13); (try clear c15b0); (try clear c15b1); (try clear c18); (try clear c18b0); (try clear c18b1); (try clear hcz9_0); (try clear hcz9_1); (try clear hcz9_2); (try clear hfz9_0); (try clear hfz9_1); (try clear hfz9_2)
         obtain ⟨kq, x34_16, rfl, HA, HJ16, BK325, HB⟩ := hcut
         cases kq with
         | zero => exact absurd HA.out (by simp [zr_.j1])
         | succ kj16 =>
          have H := HA.out
          clear HA
          simp only [zr_.j1] at H
          have HC19 := AM H
          clear H
          go_upto_if 34 with (fail)
          go_cut [34] (fun v34 wc => ∃ (kq : Nat) (x34_18 : Bool), v34 = .bool x34_18 ∧ zd_ (zr_.j2 kq a0 a1 (Go.bits .or .u64 x5_1 (ji16)) x6_1 (bt a0 (ji10)) x34_18 = some (r1, r2, r3)) ∧ zd_ (kq ≤ kj16) ∧ zd_ (wc.heap[gb325]? = some (.cells #[.int .i64 x326000_1, .int .i64 x326001_1, .int .i64 x326002_1] 199 (0, 0))) ∧ zd_ (Below w.heap.size w wc))
          case first =>
           have H := HC19.out
           clear HC19
           by_cases c20 : x34_16 = true
           ·
            subst c20
            rw [if_pos rfl] at H
            have H' := AM H
            clear H
            go_wp2
            go_meet
            case rel => exact ⟨_, (true), re_, H', ⟨by have := HK1.out; have := HJ16.out; first | omega | exact Nat.le_refl _⟩, ⟨bk_ BK325.out⟩, ⟨bel_⟩⟩
           ·
            replace c20 := Bool.eq_false_iff.mpr c20
            subst c20
            rw [if_neg (show ¬ (false = true) by decide)] at H
            by_cases c21 : (bt a0 (ji10)) = 0
            ·
             rw [if_pos c21] at H
             have c21b0 : ((bt a0 (ji10)) == 0) = true := beq_iff_eq.mpr c21
             have c21b1 : ((bt a0 (ji10)) != 0) = false := bne_eq_false_iff_eq.mpr c21
             clear c21
             (first | rw [c21b0] | (simp only [i64_w, i32_w]; rw [c21b0]) | skip)
             have H' := AM H
             clear H
             go_wp2
             go_meet
             case rel => exact ⟨_, (decide (x6_1 > 0)), re_, H', ⟨by have := HK1.out; have := HJ16.out; first | omega | exact Nat.le_refl _⟩, ⟨bk_ BK325.out⟩, ⟨bel_⟩⟩
            ·
             rw [if_neg c21] at H
             have c21b0 : ((bt a0 (ji10)) == 0) = false := beq_eq_false_iff_ne.mpr c21
             have c21b1 : ((bt a0 (ji10)) != 0) = true := bne_iff_ne.mpr c21
             (first | rw [c21b0] | (simp only [i64_w, i32_w]; rw [c21b0]) | skip)
             have H' := AM H
             clear H
             go_wp2
             go_meet
             case rel => exact ⟨_, (false), re_, H', ⟨by have := HK1.out; have := HJ16.out; first | omega | exact Nat.le_refl _⟩, ⟨bk_ BK325.out⟩, ⟨bel_⟩⟩
          case rest =>
           clear HC19
           (try clear c20); (try clear c21); (try clear c21b0); (try clear c21b1)
           obtain ⟨kq, x34_18, rfl, HA, HJ18, BK325, HB⟩ := hcut
           cases kq with
           | zero => exact absurd HA.out (by simp [zr_.j2])
           | succ kj18 =>
            have H := HA.out
            clear HA
            simp only [zr_.j2] at H
            by_cases c22 : x34_18 = true
            ·
             subst c22
             rw [if_pos rfl] at H
             simp only [Option.some.injEq, Prod.mk.injEq] at H
             obtain ⟨rfl, rfl, rfl⟩ := H
             have hcz23_0 : wc.cell? ⟨gb325, 0, none⟩ = some (.int .i64 x326000_1) := (zb_ BK325.out 0).trans rfl
             have hcz23_1 : wc.cell? ⟨gb325, 1, none⟩ = some (.int .i64 x326001_1) := (zb_ BK325.out 1).trans rfl
             have hcz23_2 : wc.cell? ⟨gb325, 2, none⟩ = some (.int .i64 x326002_1) := (zb_ BK325.out 2).trans rfl
             have hfz23_0 := za_ BK325.out 0
             have hfz23_1 := za_ BK325.out 1
             have hfz23_2 := za_ BK325.out 2
             go_wp2
             refine bodyPost_ret (results_cell_row rfl _ _ gb325 199 #[.int .i64 0, .int .i64 0, .int .i64 3] (0, 0) _ rfl bka_ Try.underlying199 rfl (by kernel_rfl)) rfl ?_
             exact ⟨by first | rfl | (simp [ym_, yl_] <;> rfl) | (simp only [← hji10, ← hji14, ← hji16]; first | rfl | (simp [ym_, yl_] <;> rfl)) | (simp [*, ym_, yl_] <;> rfl), bel_⟩
            ·
             replace c22 := Bool.eq_false_iff.mpr c22
             subst c22
             rw [if_neg (show ¬ (false = true) by decide)] at H
             by_cases c24 : (bt a0 (ji10)) < 128
             ·
              rw [if_pos c24] at H
              have c24b0 : decide ((bt a0 (ji10)) < 128) = true := decide_eq_true c24
              clear c24
              simp only [Option.some.injEq, Prod.mk.injEq] at H
              obtain ⟨rfl, rfl, rfl⟩ := H
              have hcz25_0 : wc.cell? ⟨gb325, 0, none⟩ = some (.int .i64 x326000_1) := (zb_ BK325.out 0).trans rfl
              have hcz25_1 : wc.cell? ⟨gb325, 1, none⟩ = some (.int .i64 x326001_1) := (zb_ BK325.out 1).trans rfl
              have hcz25_2 : wc.cell? ⟨gb325, 2, none⟩ = some (.int .i64 x326002_1) := (zb_ BK325.out 2).trans rfl
              have hfz25_0 := za_ BK325.out 0
              have hfz25_1 := za_ BK325.out 1
              have hfz25_2 := za_ BK325.out 2
              go_wp2
              (try rw [← hji10])
              refine bodyPost_ret (results_cell_row rfl _ _ gb325 199 #[.int .i64 (Go.bits .xor .i64 (wrap64 ((Go.bits .or .u64 x5_1 (ji16)) / 2)) (wrap64 (-(wrap64 (Go.bits .and .u64 (Go.bits .or .u64 x5_1 (ji16)) 1))))), .int .i64 (wrap64 ((wrap64 (a1 + x6_1)) + 1)), .int .i64 0] (0, 0) _ rfl bka_ Try.underlying199 rfl (by kernel_rfl)) rfl ?_
              exact ⟨by first | rfl | (simp [ym_, yl_] <;> rfl) | (simp only [← hji10, ← hji14, ← hji16]; first | rfl | (simp [ym_, yl_] <;> rfl)) | (simp [*, ym_, yl_] <;> rfl), bel_⟩
             ·
              rw [if_neg c24] at H
              have c24b0 : decide ((bt a0 (ji10)) < 128) = false := decide_eq_false c24
              clear c24
              have H' := AM H
              clear H
              go_wp2
              go_roundg kj18
              case measure => have := HK1.out; have := HJ16.out; have := HJ18.out; omega
              case rel => exact ⟨((Go.bits .or .u64 x5_1 (ji16))), (wrap64 (x6_1 + 1)), (x326000_1), (x326001_1), (x326002_1), (by first | rfl | (simp; done) | (simp only [← hji16] <;> (first | rfl | simp)) | (simp [*]; done)), re_, H', ⟨by have := HK1.out; have := HJ16.out; have := HJ18.out; omega⟩, ⟨bk_ BK325.out⟩, ⟨bel_⟩⟩
       ·
        rw [if_neg c15] at H
        exact absurd H (by simp)
      ·
       rw [if_neg c12] at H
       exact absurd H (by simp)
     ·
      rw [if_neg c11] at H
      exact absurd H (by simp)
/-- A state of type 112 at block g of W; what its slices lead to came in by w0. -/
def zk_ (w0 W : World) (g : Nat) (f0 : ByteArray) (f1 : Int) (f2 : Bool) : Prop := W.heap[g]? = some (.cells #[.string f0, .int .i64 f1, .bool f2] 112 (0, 0)) ∧ w0.heap.size ≤ g
theorem zk_.grown {w0 W : World} {g : Nat} {f0 : ByteArray} {f1 : Int} {f2 : Bool} {W1 : World} {row : Option Nat} (h : zk_ w0 W g f0 f1 f2) (hw : W.grownBy W1 row) (hne : some g ≠ row) : zk_ w0 W1 g f0 f1 f2 := by
 obtain ⟨hb, hg⟩ := h
 exact ⟨yp_ hb hw hne, hg⟩
theorem zk_.own_neN {w0 W : World} {g : Nat} {f0 : ByteArray} {f1 : Int} {f2 : Bool} {α : Type} {d : Kd α} {e : Nat} {base : Nat} {ok : Nat → Prop} {v : Value} {xs : List α} (h : zk_ w0 W g f0 f1 f2) (ho : Kd.N d e W base ok v xs) (ht : e ≠ 112) : some g ≠ v.ownBlock := by
 obtain ⟨hb, hg⟩ := h
 exact Kd.N_ne ho hb ht
theorem zk_.fresh {w0 W : World} {g : Nat} {f0 : ByteArray} {f1 : Int} {f2 : Bool} (h : zk_ w0 W g f0 f1 f2) : ∀ k, W.heap.size ≤ k → k ≠ g := by
 obtain ⟨hb, hg⟩ := h
 exact Kd.freshB hb
theorem zk_.kept {w0 W : World} {g : Nat} {f0 : ByteArray} {f1 : Int} {f2 : Bool} {W1 : World} {S : Nat → Prop} (h : zk_ w0 W g f0 f1 f2) (hk : Kept W W1 S) (hne : ¬ S g) : zk_ w0 W1 g f0 f1 f2 := by
 obtain ⟨hb, hg⟩ := h
 exact ⟨blk_kept hb hk hne, hg⟩
theorem zk_.below {w0 W : World} {g : Nat} {f0 : ByteArray} {f1 : Int} {f2 : Bool} {W1 : World} (h : zk_ w0 W g f0 f1 f2) (hw : Below W.heap.size W W1) : zk_ w0 W1 g f0 f1 f2 := h.grown (grown_of_below hw none) (by simp)
theorem zk_.alloc {w0 W : World} {g : Nat} {f0 : ByteArray} {f1 : Int} {f2 : Bool} (h : zk_ w0 W g f0 f1 f2) (o : Obj) : zk_ w0 (W.alloc o) g f0 f1 f2 := h.below (yD_ (Below.refl _ _) o)
theorem zk_.drewN {w0 W : World} {g : Nat} {f0 : ByteArray} {f1 : Int} {f2 : Bool} (h : zk_ w0 W g f0 f1 f2) (m : Nat) : zk_ w0 (W.drewN m) g f0 f1 f2 := h
theorem zk_.drew {w0 W : World} {g : Nat} {f0 : ByteArray} {f1 : Int} {f2 : Bool} (h : zk_ w0 W g f0 f1 f2) : zk_ w0 W.drew g f0 f1 f2 := h
theorem zk_.at_ {w0 W : World} {g : Nat} {f0 : ByteArray} {f1 : Int} {f2 : Bool} {w' : World} {m : Nat} (hq : W.drewN m = w') (h : zk_ w0 W g f0 f1 f2) : zk_ w0 w' g f0 f1 f2 := by subst hq; exact zk_.drewN h m
theorem zk_.apart {w0 W : World} {g : Nat} {f0 : ByteArray} {f1 : Int} {f2 : Bool} {α : Type} {d : Kd α} {e : Nat} {base : Nat} {ok : Nat → Prop} {v : Value} {xs : List α} (h : zk_ w0 W g f0 f1 f2) (ho : d.R e W base ok v xs) (ht : ∀ q, q ∈ e :: d.E → q ≠ 112) : d.R e W base (fun k => ok k ∧ k ≠ g) v xs := by
 obtain ⟨hb, hg⟩ := h
 exact Kd.yo_ ho hb ht
theorem zk_.own_ne {w0 W : World} {g : Nat} {f0 : ByteArray} {f1 : Int} {f2 : Bool} {α : Type} {d : Kd α} {e : Nat} {base : Nat} {ok : Nat → Prop} {v : Value} {xs : List α} (h : zk_ w0 W g f0 f1 f2) (ho : d.R e W base ok v xs) (ht : e ≠ 112) : some g ≠ v.ownBlock := by
 obtain ⟨hb, hg⟩ := h
 exact Kd.R_ne ho hb ht
theorem zk_.apartQ {w0 W : World} {g : Nat} {f0 : ByteArray} {f1 : Int} {f2 : Bool} {α : Type} {d : Kd α} {e : Nat} {base : Nat} {ok : Nat → Prop} {v : Value} {xs : List α} (h : zk_ w0 W g f0 f1 f2) (ho : d.Q e W base ok v xs) (ht : ∀ q, q ∈ e :: d.E → q ≠ 112) : d.Q e W base (fun k => ok k ∧ k ≠ g) v xs := by
 obtain ⟨hb, hg⟩ := h
 exact Kd.Q_types ho hb ht
theorem zk_.own_neQ {w0 W : World} {g : Nat} {f0 : ByteArray} {f1 : Int} {f2 : Bool} {α : Type} {d : Kd α} {e : Nat} {base : Nat} {ok : Nat → Prop} {v : Value} {xs : List α} (h : zk_ w0 W g f0 f1 f2) (ho : d.Q e W base ok v xs) (ht : e ≠ 112) : some g ≠ v.ownBlock := by
 obtain ⟨hb, hg⟩ := h
 exact Kd.Q_ne ho hb ht
theorem zk_.apartS {w0 W : World} {g : Nat} {f0 : ByteArray} {f1 : Int} {f2 : Bool} {α : Type} {d : Kd α} {e : Nat} {base : Nat} {ok : Nat → Prop} {v : Value} {xs : List α} (h : zk_ w0 W g f0 f1 f2) (ho : d.S e W base ok v xs) (ht : ∀ q, q ∈ e :: d.E → q ≠ 112) : d.S e W base (fun k => ok k ∧ k ≠ g) v xs := by
 obtain ⟨hb, hg⟩ := h
 exact Kd.S_types ho hb ht
theorem zk_.own_neS {w0 W : World} {g : Nat} {f0 : ByteArray} {f1 : Int} {f2 : Bool} {α : Type} {d : Kd α} {e : Nat} {base : Nat} {ok : Nat → Prop} {v : Value} {xs : List α} (h : zk_ w0 W g f0 f1 f2) (ho : d.S e W base ok v xs) (ht : e ≠ 112) : some g ≠ v.ownBlock := by
 obtain ⟨hb, hg⟩ := h
 exact Kd.S_ne ho hb ht
theorem zk_.lt {w0 W : World} {g : Nat} {f0 : ByteArray} {f1 : Int} {f2 : Bool} (h : zk_ w0 W g f0 f1 f2) : g < W.heap.size := by
 obtain ⟨hb, hg⟩ := h
 exact yS_ hb
theorem zk_.ge {w0 W : World} {g : Nat} {f0 : ByteArray} {f1 : Int} {f2 : Bool} (h : zk_ w0 W g f0 f1 f2) : w0.heap.size ≤ g := by
 obtain ⟨hb, hg⟩ := h
 exact hg
theorem zk_.ne_blk {w0 W : World} {g : Nat} {f0 : ByteArray} {f1 : Int} {f2 : Bool} {a : Nat} {cs : Array Value} {t : TypeId} {fr : Nat × Nat} (h : zk_ w0 W g f0 f1 f2) (hb2 : W.heap[a]? = some (.cells cs t fr)) (ht : t ≠ 112) : g ≠ a := by
 obtain ⟨hb, hg⟩ := h
 rintro rfl
 rw [hb] at hb2
 injection hb2 with hb2
 injection hb2 with _ ht2
 exact ht ht2.symm
theorem zk_.far {w0 W : World} {g : Nat} {f0 : ByteArray} {f1 : Int} {f2 : Bool} {p : Addr} (h : zk_ w0 W g f0 f1 f2) (hne : g ≠ p.block) (u : Value) : zk_ w0 (W.setCell p u) g f0 f1 f2 := by
 obtain ⟨hb, hg⟩ := h
 exact ⟨blk_far hb hne u, hg⟩
theorem zU_ {W : World} {g : Nat} {f0 : ByteArray} {f1 : Int} {f2 : Bool} (h : W.heap[g]? = some (.cells #[.string f0, .int .i64 f1, .bool f2] 112 (0, 0))) : W.cell? ⟨g, 0, none⟩ = some (.string f0) := (zb_ h 0).trans rfl
theorem zk_.set_0 {w0 W : World} {g : Nat} {f0 : ByteArray} {f1 : Int} {f2 : Bool} (h : zk_ w0 W g f0 f1 f2) (x : ByteArray) : zk_ w0 (W.setCell ⟨g, 0, none⟩ (.string x)) g x f1 f2 := by
 obtain ⟨hb, hg⟩ := h
 exact ⟨by simpa using blk_set hb 0 (.string x), hg⟩
theorem zT_ {W : World} {g : Nat} {f0 : ByteArray} {f1 : Int} {f2 : Bool} (h : W.heap[g]? = some (.cells #[.string f0, .int .i64 f1, .bool f2] 112 (0, 0))) : W.cell? ⟨g, 1, none⟩ = some (.int .i64 f1) := (zb_ h 1).trans rfl
theorem zk_.set_1 {w0 W : World} {g : Nat} {f0 : ByteArray} {f1 : Int} {f2 : Bool} (h : zk_ w0 W g f0 f1 f2) (x : Int) : zk_ w0 (W.setCell ⟨g, 1, none⟩ (.int .i64 x)) g f0 x f2 := by
 obtain ⟨hb, hg⟩ := h
 exact ⟨by simpa using blk_set hb 1 (.int .i64 x), hg⟩
theorem zS_ {W : World} {g : Nat} {f0 : ByteArray} {f1 : Int} {f2 : Bool} (h : W.heap[g]? = some (.cells #[.string f0, .int .i64 f1, .bool f2] 112 (0, 0))) : W.cell? ⟨g, 2, none⟩ = some (.bool f2) := (zb_ h 2).trans rfl
theorem zk_.set_2 {w0 W : World} {g : Nat} {f0 : ByteArray} {f1 : Int} {f2 : Bool} (h : zk_ w0 W g f0 f1 f2) (x : Bool) : zk_ w0 (W.setCell ⟨g, 2, none⟩ (.bool x)) g f0 f1 x := by
 obtain ⟨hb, hg⟩ := h
 exact ⟨by simpa using blk_set hb 2 (.bool x), hg⟩
theorem zk_.new (w0 W : World) (f0 : ByteArray) (f1 : Int) (f2 : Bool) (hB : Below w0.heap.size w0 W) : zk_ w0 (W.alloc (.cells #[.string f0, .int .i64 f1, .bool f2] 112)) W.heap.size f0 f1 f2 := ⟨by simpa using heap_alloc_new W _, hB.size⟩
/-! ### zG_: function 80 -/
theorem zk_.farA {w0 W : World} {g : Nat} {f0 : ByteArray} {f1 : Int} {f2 : Bool} {p : Addr} {u : Value} (hne : zd_ (g ≠ p.block)) (h : zk_ w0 W g f0 f1 f2) : zk_ w0 (W.setCell p u) g f0 f1 f2 := zk_.far h hne.out u
theorem zV_ {w0 W : World} {g : Nat} {f0 : ByteArray} {f1 : Int} {f2 : Bool} (h : zk_ w0 W g f0 f1 f2 := by repeat (first | (with_reducible first | (refine zd_.out ?_; assumption) | apply zk_.alloc | apply zk_.drewN | apply zk_.drew | (apply zk_.farA; assumption) | apply zk_.set_0 | apply zk_.set_1 | apply zk_.set_2) | (refine zd_.out ?_; assumption))) : zk_ w0 W g f0 f1 f2 := h
def zG_.f (k : Nat) (s0_0 : ByteArray) (s0_1 : Int) (s0_2 : Bool) : Option (Int × ByteArray × Int × Bool) := (zr_.f k s0_0 s0_1).bind fun bt327 => (if s0_2 = true then (some (0, s0_0, s0_1, true)) else (if bt327.2.2 = 0 then (some (bt327.1, s0_0, bt327.2.1, s0_2)) else (some (0, s0_0, s0_1, true))))
theorem zG_.mono : ∀ a0 a1 a2 k, LeO (zG_.f k a0 a1 a2) (zG_.f (k + 1) a0 a1 a2) := by
 intro a0 a1 a2 k
 unfold zG_.f
 repeat' with_reducible first | exact zr_.mono _ _ _ | exact LeO.refl _ | exact LeO.none _ | refine LeO.ite ?_ ?_ | refine LeO.bind ?_ (fun _ => ?_)
def zG_.T1 : Bool × List (List Nat × List Nat) := (true, [([], []), ([0], [0]), ([1], [1]), ([2], [2]), ([], []), ([4], [4]), ([5], [5]), ([6], [6]), ([3, 7], [3, 7]), ([], []), ([9, 8, 8, 0, 1, 2, 3, 4, 5, 6, 7, 8, 9], [8, 9])])
def zG_.B1 : List Nat := [0, 1, 3, 7, 0, 16, 48, 112, 255, 0, 1023]
theorem zG_.tab1 : rtab .any (opsOf Try.f80 1) = zG_.T1 := by kernel_rfl
theorem zG_.bits1 : xe_ zG_.T1.2 zG_.B1 = true := by kernel_rfl
theorem zG_.calls (k : Nat) (g : Nat) (s0_0 : ByteArray) (s0_1 : Int) (s0_2 : Bool) (r1 : Int) (r2 : ByteArray) (r3 : Int) (r4 : Bool) (w0 w : World) (hI : zk_ w0 w g s0_0 s0_1 s0_2) (hB : Below w0.heap.size w0 w) (h : zG_.f k s0_0 s0_1 s0_2 = some (r1, r2, r3, r4)) :
 Calls Try.prog 80 #[.pointer (some ⟨g, 0, none⟩)] w fun e w' => e = .returned (.int .i64 r1) ∧ zk_ w0 w' g r2 r3 r4 ∧ Below w0.heap.size w0 w' ∧ zs_ w w' g none := by
 have hu199 := Try.underlying199
 have HI0 := AM hI
 have HK := AM (zs_.refl w g none)
 have HL := AM hB.size
 clear hI
 have HW0 := AM hB.size
 have HB := AM hB
 clear hB
 have H : ((zr_.f k s0_0 s0_1).bind fun bt327 => (if s0_2 = true then (some (0, s0_0, s0_1, true)) else (if bt327.2.2 = 0 then (some (bt327.1, s0_0, bt327.2.1, s0_2)) else (some (0, s0_0, s0_1, true))))) = some (r1, r2, r3, r4) := h
 clear h
 obtain ⟨⟨t327, t328, t329⟩, A2, H⟩ := OB H
 try dsimp only at H
 replace A2 := AM A2
 by_cases c3 : s0_2 = true
 ·
  subst c3
  rw [if_pos rfl] at H
  simp only [Option.some.injEq, Prod.mk.injEq] at H
  obtain ⟨rfl, rfl, rfl, rfl⟩ := H
  go_enter Try.func80, Try.ntmps80
  try go_wp2
  replace HI0 := AM (zk_.drew HI0.out)
  replace HK := AM (yZ_ HK.out)
  replace HB := AM (z1_ HB.out)
  refine xi_ (n := 11) (S := fun w' => w'.cell? ⟨g, 0, none⟩ = some (.string s0_0) ∧ w'.cell? ⟨g, 1, none⟩ = some (.int .i64 s0_1) ∧ w'.cell? ⟨g, 2, none⟩ = some (.bool true)) (ds := []) (Array.replicate 11 false) (by kernel_rfl) rfl rfl ⟨(zU_ HI0.out.1), (zT_ HI0.out.1), (zS_ HI0.out.1)⟩ (fun hHeld => ?_); refine yu_ zG_.tab1 zG_.bits1 (fun HT_ HW_ => ?_)
  generalize w.drew = w4 at HI0 HK HB hHeld ⊢
  refine pu_ HT_ 0 (some 4) (bA 11 1) ?_
  refine pu_ HT_ 1 (some 5) (bA 11 3) ?_
  refine pu_ HT_ 2 (some 6) (bA 11 7) ?_
  refine pu_ HT_ 4 (some 8) (bA 11 23) ?_
  refine pu_ HT_ 5 (some 9) (bA 11 55) ?_
  refine pu_ HT_ 6 (some 10) (bA 11 119) ?_
  refine ta_ HT_ HW_ 3 (some 7) (bA 11 127) hHeld ?_
  refine ta_ HT_ HW_ 7 (some 11) (bA 11 255) hHeld ?_
  refine join_ (σ := Nat) 1 #[true, true, true, true, true, true, true, true, true, true, false] (fun s_ => [(12, .agg #[.int .i64 t327, .int .i64 t328, .int .i64 t329]), (3, .pointer (some ⟨s_, 0, none⟩))]) (fun s_ w' => (w'.cell? ⟨g, 0, none⟩ = some (.string s0_0) ∧ w'.cell? ⟨g, 1, none⟩ = some (.int .i64 s0_1) ∧ w'.cell? ⟨g, 2, none⟩ = some (.bool true)) ∧ (w'.heap[s_]? = some (.cells #[.int .i64 0, .int .i64 0, .int .i64 0] 199 (0, 0))) ∧ (w.heap.size ≤ s_) ∧ (w0.heap.size ≤ s_) ∧ (g ≠ s_) ∧ (s_ ≠ g) ∧ (zk_ w0 w' g s0_0 s0_1 true) ∧ (zs_ w w' g none) ∧ (Below w0.heap.size w0 w')) ?_ ?_
  rotate_left
  ·
   intro hCont
   refine tw_ HT_ 8 9 (some 12) (some 3) (bA 11 511) (bA 11 767) (fun K hK => ?_) (fun K hK => ?_)
   ·
    skip
    refine go1_ Try.func160 #[.string s0_0, .int .i64 s0_1] ?_
    with_reducible refine (zr_.calls k s0_0 s0_1 t327 t328 t329 _ A2.out).mono ?_
    rintro e w5 ⟨rfl, hb⟩
    refine ⟨_, rfl, ?_⟩
    replace HK := AM (kb_ w g hb)
    replace HB := AM (zg_ (belg_ (zk_.ge HI0.out)) hb)
    replace HI0 := AM (zk_.below zV_ hb)
    (try clear hb)
    refine hK.out _ _ ⟨(zU_ HI0.out.1), (zT_ HI0.out.1), (zS_ HI0.out.1)⟩ (fun hHeld => ?_)
    clear hK K
    refine nm_ ?_
    refine on_ HT_ 9 (some 3) (bA 11 1023) (fun K hK => ?_)
    refine bs_ 3 #[.int .i64 0, .int .i64 0, .int .i64 0] 199 ?_
    intro gb330 hg w6 hbox hb
    replace HB := AM (zg_ (belg_ (zk_.ge HI0.out)) hb)
    have BK330 := AM hbox
    have GW330 := AM ((by rw [hg]; exact (zF_ (w := w) (g := g) (row := none) kp_) : w.heap.size ≤ gb330))
    have GE330 := AM ((Nat.le_trans HW0.out (by rw [hg]; exact (zF_ (w := w) (g := g) (row := none) kp_) : w.heap.size ≤ gb330) : w0.heap.size ≤ gb330))
    replace HK := AM (kb_ w g hb)
    have NB0_330 := AM ((by rw [hg]; exact Nat.ne_of_lt (zk_.lt (show zk_ w0 _ g s0_0 s0_1 true from zV_)) : g ≠ gb330))
    have NB330_0 := AM ((by rw [hg]; exact Nat.ne_of_gt (zk_.lt (show zk_ w0 _ g s0_0 s0_1 true from zV_)) : gb330 ≠ g))
    replace HI0 := AM (zk_.below zV_ hb)
    clear hb hbox hg
    refine hK.out _ _ ⟨(zU_ HI0.out.1), (zT_ HI0.out.1), (zS_ HI0.out.1)⟩ (fun hHeld => ?_)
    clear hK K
    refine nm_ ?_
    exact nmE_ (hCont (gb330) _ ⟨hHeld, (bk_ BK330.out), GW330.out, GE330.out, NB0_330.out, NB330_0.out, zV_, kp_, (belg_ (zk_.ge HI0.out))⟩)
   ·
    skip
    refine bs_ 3 #[.int .i64 0, .int .i64 0, .int .i64 0] 199 ?_
    intro gb330 hg w5 hbox hb
    replace HB := AM (zg_ (belg_ (zk_.ge HI0.out)) hb)
    have BK330 := AM hbox
    have GW330 := AM ((by rw [hg]; exact (zF_ (w := w) (g := g) (row := none) kp_) : w.heap.size ≤ gb330))
    have GE330 := AM ((Nat.le_trans HW0.out (by rw [hg]; exact (zF_ (w := w) (g := g) (row := none) kp_) : w.heap.size ≤ gb330) : w0.heap.size ≤ gb330))
    replace HK := AM (kb_ w g hb)
    have NB0_330 := AM ((by rw [hg]; exact Nat.ne_of_lt (zk_.lt (show zk_ w0 _ g s0_0 s0_1 true from zV_)) : g ≠ gb330))
    have NB330_0 := AM ((by rw [hg]; exact Nat.ne_of_gt (zk_.lt (show zk_ w0 _ g s0_0 s0_1 true from zV_)) : gb330 ≠ g))
    replace HI0 := AM (zk_.below zV_ hb)
    clear hb hbox hg
    refine hK.out _ _ ⟨(zU_ HI0.out.1), (zT_ HI0.out.1), (zS_ HI0.out.1)⟩ (fun hHeld => ?_)
    clear hK K
    refine nm_ ?_
    refine on_ HT_ 8 (some 12) (bA 11 1023) (fun K hK => ?_)
    refine go1_ Try.func160 #[.string s0_0, .int .i64 s0_1] ?_
    with_reducible refine (zr_.calls k s0_0 s0_1 t327 t328 t329 _ A2.out).mono ?_
    rintro e w6 ⟨rfl, hb⟩
    refine ⟨_, rfl, ?_⟩
    replace BK330 := AM (zP_ (g := gb330) (o := .cells #[.int .i64 0, .int .i64 0, .int .i64 0] 199 (0, 0)) (bk_ BK330.out) hb)
    replace HK := AM (kb_ w g hb)
    replace HB := AM (zg_ (belg_ (zk_.ge HI0.out)) hb)
    replace HI0 := AM (zk_.below zV_ hb)
    (try clear hb)
    refine hK.out _ _ ⟨(zU_ HI0.out.1), (zT_ HI0.out.1), (zS_ HI0.out.1)⟩ (fun hHeld => ?_)
    clear hK K
    refine nm_ ?_
    exact nmE_ (hCont (gb330) _ ⟨hHeld, (bk_ BK330.out), GW330.out, GE330.out, NB0_330.out, NB330_0.out, zV_, kp_, (belg_ (zk_.ge HI0.out))⟩)
  rintro gb330 w7 ⟨hS_, h0_, h1_, h2_, h3_, h4_, h5_, h6_, h7_⟩
  have BK330 : zd_ (w7.heap[gb330]? = some (.cells #[.int .i64 0, .int .i64 0, .int .i64 0] 199 (0, 0))) := ⟨h0_⟩
  have GW330 : zd_ (w.heap.size ≤ gb330) := ⟨h1_⟩
  have GE330 : zd_ (w0.heap.size ≤ gb330) := ⟨h2_⟩
  have NB0_330 : zd_ (g ≠ gb330) := ⟨h3_⟩
  have NB330_0 : zd_ (gb330 ≠ g) := ⟨h4_⟩
  replace HI0 : zd_ (zk_ w0 w7 g s0_0 s0_1 true) := ⟨h5_⟩
  replace HK : zd_ (zs_ w w7 g none) := ⟨h6_⟩
  replace HB : zd_ (Below w0.heap.size w0 w7) := ⟨h7_⟩
  clear h0_ h1_ h2_ h3_ h4_ h5_ h6_ h7_
  have hHeld : w7.cell? ⟨g, 0, none⟩ = some (.string s0_0) ∧ w7.cell? ⟨g, 1, none⟩ = some (.int .i64 s0_1) ∧ w7.cell? ⟨g, 2, none⟩ = some (.bool true) := hS_
  refine nmA_ ?_
  refine on_ HT_ 10 none (bA 11 2047) (fun K hK => ?_)
  have hs8 : w7.cell? ⟨gb330, 0, none⟩ = some (.int .i64 0) := (zb_ BK330.out 0).trans rfl
  have hfs8 := za_ BK330.out 0
  have hs9 : w7.cell? ⟨gb330, 1, none⟩ = some (.int .i64 0) := (zb_ BK330.out 1).trans rfl
  have hfs9 := za_ BK330.out 1
  have hs10 : w7.cell? ⟨gb330, 2, none⟩ = some (.int .i64 0) := (zb_ BK330.out 2).trans rfl
  have hfs10 := za_ BK330.out 2
  refine sk_ ?_
  refine hK.out _ _ ⟨(by (rw [cell_far, cell_far, cell_far]) <;> first | exact hHeld.1 | exact NB0_330.out), (by (rw [cell_far, cell_far, cell_far]) <;> first | exact hHeld.2.1 | exact NB0_330.out), (by (rw [cell_far, cell_far, cell_far]) <;> first | exact hHeld.2.2 | exact NB0_330.out)⟩ (fun hHeld => ?_)
  clear hK K
  refine dn_ HT_ ?_
  obtain ⟨HGz11, hgz11⟩ := HI0.out
  have hcz11_0 := zU_ HGz11
  have hcz11_1 := zT_ HGz11
  have hcz11_2 := zS_ HGz11
  have hfz11_0 := za_ HGz11 0
  have hfz11_1 := za_ HGz11 1
  have hfz11_2 := za_ HGz11 2
  clear HGz11 hgz11
  try go_wp2
  go_ret
  exact ⟨ri_, zV_, belg_ (zk_.ge HI0.out), kp_⟩
 ·
  replace c3 := Bool.eq_false_iff.mpr c3
  subst c3
  rw [if_neg (show ¬ (false = true) by decide)] at H
  by_cases c12 : t329 = 0
  ·
   rw [if_pos c12] at H
   have c12b0 : (t329 == 0) = true := beq_iff_eq.mpr c12
   have c12b1 : (t329 != 0) = false := bne_eq_false_iff_eq.mpr c12
   clear c12
   simp only [Option.some.injEq, Prod.mk.injEq] at H
   obtain ⟨rfl, rfl, rfl, rfl⟩ := H
   go_enter Try.func80, Try.ntmps80
   try go_wp2
   replace HI0 := AM (zk_.drew HI0.out)
   replace HK := AM (yZ_ HK.out)
   replace HB := AM (z1_ HB.out)
   refine xi_ (n := 11) (S := fun w' => w'.cell? ⟨g, 0, none⟩ = some (.string s0_0) ∧ w'.cell? ⟨g, 1, none⟩ = some (.int .i64 s0_1) ∧ w'.cell? ⟨g, 2, none⟩ = some (.bool false)) (ds := []) (Array.replicate 11 false) (by kernel_rfl) rfl rfl ⟨(zU_ HI0.out.1), (zT_ HI0.out.1), (zS_ HI0.out.1)⟩ (fun hHeld => ?_); refine yu_ zG_.tab1 zG_.bits1 (fun HT_ HW_ => ?_)
   generalize w.drew = w13 at HI0 HK HB hHeld ⊢
   refine pu_ HT_ 0 (some 4) (bA 11 1) ?_
   refine pu_ HT_ 1 (some 5) (bA 11 3) ?_
   refine pu_ HT_ 2 (some 6) (bA 11 7) ?_
   refine pu_ HT_ 4 (some 8) (bA 11 23) ?_
   refine pu_ HT_ 5 (some 9) (bA 11 55) ?_
   refine pu_ HT_ 6 (some 10) (bA 11 119) ?_
   refine ta_ HT_ HW_ 3 (some 7) (bA 11 127) hHeld ?_
   refine ta_ HT_ HW_ 7 (some 11) (bA 11 255) hHeld ?_
   refine join_ (σ := Nat) 1 #[true, true, true, true, true, true, true, true, true, true, false] (fun s_ => [(12, .agg #[.int .i64 t327, .int .i64 t328, .int .i64 t329]), (3, .pointer (some ⟨s_, 0, none⟩))]) (fun s_ w' => (w'.cell? ⟨g, 0, none⟩ = some (.string s0_0) ∧ w'.cell? ⟨g, 1, none⟩ = some (.int .i64 s0_1) ∧ w'.cell? ⟨g, 2, none⟩ = some (.bool false)) ∧ (w'.heap[s_]? = some (.cells #[.int .i64 0, .int .i64 0, .int .i64 0] 199 (0, 0))) ∧ (w.heap.size ≤ s_) ∧ (w0.heap.size ≤ s_) ∧ (g ≠ s_) ∧ (s_ ≠ g) ∧ (zk_ w0 w' g s0_0 s0_1 false) ∧ (zs_ w w' g none) ∧ (Below w0.heap.size w0 w')) ?_ ?_
   rotate_left
   ·
    intro hCont
    refine tw_ HT_ 8 9 (some 12) (some 3) (bA 11 511) (bA 11 767) (fun K hK => ?_) (fun K hK => ?_)
    ·
     skip
     refine go1_ Try.func160 #[.string s0_0, .int .i64 s0_1] ?_
     with_reducible refine (zr_.calls k s0_0 s0_1 t327 t328 t329 _ A2.out).mono ?_
     rintro e w14 ⟨rfl, hb⟩
     refine ⟨_, rfl, ?_⟩
     replace HK := AM (kb_ w g hb)
     replace HB := AM (zg_ (belg_ (zk_.ge HI0.out)) hb)
     replace HI0 := AM (zk_.below zV_ hb)
     (try clear hb)
     refine hK.out _ _ ⟨(zU_ HI0.out.1), (zT_ HI0.out.1), (zS_ HI0.out.1)⟩ (fun hHeld => ?_)
     clear hK K
     refine nm_ ?_
     refine on_ HT_ 9 (some 3) (bA 11 1023) (fun K hK => ?_)
     refine bs_ 3 #[.int .i64 0, .int .i64 0, .int .i64 0] 199 ?_
     intro gb330 hg w15 hbox hb
     replace HB := AM (zg_ (belg_ (zk_.ge HI0.out)) hb)
     have BK330 := AM hbox
     have GW330 := AM ((by rw [hg]; exact (zF_ (w := w) (g := g) (row := none) kp_) : w.heap.size ≤ gb330))
     have GE330 := AM ((Nat.le_trans HW0.out (by rw [hg]; exact (zF_ (w := w) (g := g) (row := none) kp_) : w.heap.size ≤ gb330) : w0.heap.size ≤ gb330))
     replace HK := AM (kb_ w g hb)
     have NB0_330 := AM ((by rw [hg]; exact Nat.ne_of_lt (zk_.lt (show zk_ w0 _ g s0_0 s0_1 false from zV_)) : g ≠ gb330))
     have NB330_0 := AM ((by rw [hg]; exact Nat.ne_of_gt (zk_.lt (show zk_ w0 _ g s0_0 s0_1 false from zV_)) : gb330 ≠ g))
     replace HI0 := AM (zk_.below zV_ hb)
     clear hb hbox hg
     refine hK.out _ _ ⟨(zU_ HI0.out.1), (zT_ HI0.out.1), (zS_ HI0.out.1)⟩ (fun hHeld => ?_)
     clear hK K
     refine nm_ ?_
     exact nmE_ (hCont (gb330) _ ⟨hHeld, (bk_ BK330.out), GW330.out, GE330.out, NB0_330.out, NB330_0.out, zV_, kp_, (belg_ (zk_.ge HI0.out))⟩)
    ·
     skip
     refine bs_ 3 #[.int .i64 0, .int .i64 0, .int .i64 0] 199 ?_
     intro gb330 hg w14 hbox hb
     replace HB := AM (zg_ (belg_ (zk_.ge HI0.out)) hb)
     have BK330 := AM hbox
     have GW330 := AM ((by rw [hg]; exact (zF_ (w := w) (g := g) (row := none) kp_) : w.heap.size ≤ gb330))
     have GE330 := AM ((Nat.le_trans HW0.out (by rw [hg]; exact (zF_ (w := w) (g := g) (row := none) kp_) : w.heap.size ≤ gb330) : w0.heap.size ≤ gb330))
     replace HK := AM (kb_ w g hb)
     have NB0_330 := AM ((by rw [hg]; exact Nat.ne_of_lt (zk_.lt (show zk_ w0 _ g s0_0 s0_1 false from zV_)) : g ≠ gb330))
     have NB330_0 := AM ((by rw [hg]; exact Nat.ne_of_gt (zk_.lt (show zk_ w0 _ g s0_0 s0_1 false from zV_)) : gb330 ≠ g))
     replace HI0 := AM (zk_.below zV_ hb)
     clear hb hbox hg
     refine hK.out _ _ ⟨(zU_ HI0.out.1), (zT_ HI0.out.1), (zS_ HI0.out.1)⟩ (fun hHeld => ?_)
     clear hK K
     refine nm_ ?_
     refine on_ HT_ 8 (some 12) (bA 11 1023) (fun K hK => ?_)
     refine go1_ Try.func160 #[.string s0_0, .int .i64 s0_1] ?_
     with_reducible refine (zr_.calls k s0_0 s0_1 t327 t328 t329 _ A2.out).mono ?_
     rintro e w15 ⟨rfl, hb⟩
     refine ⟨_, rfl, ?_⟩
     replace BK330 := AM (zP_ (g := gb330) (o := .cells #[.int .i64 0, .int .i64 0, .int .i64 0] 199 (0, 0)) (bk_ BK330.out) hb)
     replace HK := AM (kb_ w g hb)
     replace HB := AM (zg_ (belg_ (zk_.ge HI0.out)) hb)
     replace HI0 := AM (zk_.below zV_ hb)
     (try clear hb)
     refine hK.out _ _ ⟨(zU_ HI0.out.1), (zT_ HI0.out.1), (zS_ HI0.out.1)⟩ (fun hHeld => ?_)
     clear hK K
     refine nm_ ?_
     exact nmE_ (hCont (gb330) _ ⟨hHeld, (bk_ BK330.out), GW330.out, GE330.out, NB0_330.out, NB330_0.out, zV_, kp_, (belg_ (zk_.ge HI0.out))⟩)
   rintro gb330 w16 ⟨hS_, h0_, h1_, h2_, h3_, h4_, h5_, h6_, h7_⟩
   have BK330 : zd_ (w16.heap[gb330]? = some (.cells #[.int .i64 0, .int .i64 0, .int .i64 0] 199 (0, 0))) := ⟨h0_⟩
   have GW330 : zd_ (w.heap.size ≤ gb330) := ⟨h1_⟩
   have GE330 : zd_ (w0.heap.size ≤ gb330) := ⟨h2_⟩
   have NB0_330 : zd_ (g ≠ gb330) := ⟨h3_⟩
   have NB330_0 : zd_ (gb330 ≠ g) := ⟨h4_⟩
   replace HI0 : zd_ (zk_ w0 w16 g s0_0 s0_1 false) := ⟨h5_⟩
   replace HK : zd_ (zs_ w w16 g none) := ⟨h6_⟩
   replace HB : zd_ (Below w0.heap.size w0 w16) := ⟨h7_⟩
   clear h0_ h1_ h2_ h3_ h4_ h5_ h6_ h7_
   have hHeld : w16.cell? ⟨g, 0, none⟩ = some (.string s0_0) ∧ w16.cell? ⟨g, 1, none⟩ = some (.int .i64 s0_1) ∧ w16.cell? ⟨g, 2, none⟩ = some (.bool false) := hS_
   refine nmA_ ?_
   refine on_ HT_ 10 none (bA 11 2047) (fun K hK => ?_)
   have hs17 : w16.cell? ⟨gb330, 0, none⟩ = some (.int .i64 0) := (zb_ BK330.out 0).trans rfl
   have hfs17 := za_ BK330.out 0
   have hs18 : w16.cell? ⟨gb330, 1, none⟩ = some (.int .i64 0) := (zb_ BK330.out 1).trans rfl
   have hfs18 := za_ BK330.out 1
   have hs19 : w16.cell? ⟨gb330, 2, none⟩ = some (.int .i64 0) := (zb_ BK330.out 2).trans rfl
   have hfs19 := za_ BK330.out 2
   refine sk_ ?_
   refine hK.out _ _ ⟨(by (rw [cell_far, cell_far, cell_far]) <;> first | exact hHeld.1 | exact NB0_330.out), (by (rw [cell_far, cell_far, cell_far]) <;> first | exact hHeld.2.1 | exact NB0_330.out), (by (rw [cell_far, cell_far, cell_far]) <;> first | exact hHeld.2.2 | exact NB0_330.out)⟩ (fun hHeld => ?_)
   clear hK K
   refine dn_ HT_ ?_
   obtain ⟨HGz20, hgz20⟩ := HI0.out
   have hcz20_0 := zU_ HGz20
   have hcz20_1 := zT_ HGz20
   have hcz20_2 := zS_ HGz20
   have hfz20_0 := za_ HGz20 0
   have hfz20_1 := za_ HGz20 1
   have hfz20_2 := za_ HGz20 2
   clear HGz20 hgz20
   have hnb21 := NB330_0.out
   have hnc21 := NB0_330.out
   have hcz22_0 : w16.cell? ⟨gb330, 0, none⟩ = some (.int .i64 0) := (zb_ BK330.out 0).trans rfl
   have hcz22_1 : w16.cell? ⟨gb330, 1, none⟩ = some (.int .i64 0) := (zb_ BK330.out 1).trans rfl
   have hcz22_2 : w16.cell? ⟨gb330, 2, none⟩ = some (.int .i64 0) := (zb_ BK330.out 2).trans rfl
   have hfz22_0 := za_ BK330.out 0
   have hfz22_1 := za_ BK330.out 1
   have hfz22_2 := za_ BK330.out 2
   try go_wp2
   go_ret
   exact ⟨ri_, zV_, belg_ (zk_.ge HI0.out), kp_⟩
  ·
   rw [if_neg c12] at H
   have c12b0 : (t329 == 0) = false := beq_eq_false_iff_ne.mpr c12
   have c12b1 : (t329 != 0) = true := bne_iff_ne.mpr c12
   simp only [Option.some.injEq, Prod.mk.injEq] at H
   obtain ⟨rfl, rfl, rfl, rfl⟩ := H
   go_enter Try.func80, Try.ntmps80
   try go_wp2
   replace HI0 := AM (zk_.drew HI0.out)
   replace HK := AM (yZ_ HK.out)
   replace HB := AM (z1_ HB.out)
   refine xi_ (n := 11) (S := fun w' => w'.cell? ⟨g, 0, none⟩ = some (.string s0_0) ∧ w'.cell? ⟨g, 1, none⟩ = some (.int .i64 s0_1) ∧ w'.cell? ⟨g, 2, none⟩ = some (.bool false)) (ds := []) (Array.replicate 11 false) (by kernel_rfl) rfl rfl ⟨(zU_ HI0.out.1), (zT_ HI0.out.1), (zS_ HI0.out.1)⟩ (fun hHeld => ?_); refine yu_ zG_.tab1 zG_.bits1 (fun HT_ HW_ => ?_)
   generalize w.drew = w23 at HI0 HK HB hHeld ⊢
   refine pu_ HT_ 0 (some 4) (bA 11 1) ?_
   refine pu_ HT_ 1 (some 5) (bA 11 3) ?_
   refine pu_ HT_ 2 (some 6) (bA 11 7) ?_
   refine pu_ HT_ 4 (some 8) (bA 11 23) ?_
   refine pu_ HT_ 5 (some 9) (bA 11 55) ?_
   refine pu_ HT_ 6 (some 10) (bA 11 119) ?_
   refine ta_ HT_ HW_ 3 (some 7) (bA 11 127) hHeld ?_
   refine ta_ HT_ HW_ 7 (some 11) (bA 11 255) hHeld ?_
   refine join_ (σ := Nat) 1 #[true, true, true, true, true, true, true, true, true, true, false] (fun s_ => [(12, .agg #[.int .i64 t327, .int .i64 t328, .int .i64 t329]), (3, .pointer (some ⟨s_, 0, none⟩))]) (fun s_ w' => (w'.cell? ⟨g, 0, none⟩ = some (.string s0_0) ∧ w'.cell? ⟨g, 1, none⟩ = some (.int .i64 s0_1) ∧ w'.cell? ⟨g, 2, none⟩ = some (.bool false)) ∧ (w'.heap[s_]? = some (.cells #[.int .i64 0, .int .i64 0, .int .i64 0] 199 (0, 0))) ∧ (w.heap.size ≤ s_) ∧ (w0.heap.size ≤ s_) ∧ (g ≠ s_) ∧ (s_ ≠ g) ∧ (zk_ w0 w' g s0_0 s0_1 false) ∧ (zs_ w w' g none) ∧ (Below w0.heap.size w0 w')) ?_ ?_
   rotate_left
   ·
    intro hCont
    refine tw_ HT_ 8 9 (some 12) (some 3) (bA 11 511) (bA 11 767) (fun K hK => ?_) (fun K hK => ?_)
    ·
     skip
     refine go1_ Try.func160 #[.string s0_0, .int .i64 s0_1] ?_
     with_reducible refine (zr_.calls k s0_0 s0_1 t327 t328 t329 _ A2.out).mono ?_
     rintro e w24 ⟨rfl, hb⟩
     refine ⟨_, rfl, ?_⟩
     replace HK := AM (kb_ w g hb)
     replace HB := AM (zg_ (belg_ (zk_.ge HI0.out)) hb)
     replace HI0 := AM (zk_.below zV_ hb)
     (try clear hb)
     refine hK.out _ _ ⟨(zU_ HI0.out.1), (zT_ HI0.out.1), (zS_ HI0.out.1)⟩ (fun hHeld => ?_)
     clear hK K
     refine nm_ ?_
     refine on_ HT_ 9 (some 3) (bA 11 1023) (fun K hK => ?_)
     refine bs_ 3 #[.int .i64 0, .int .i64 0, .int .i64 0] 199 ?_
     intro gb330 hg w25 hbox hb
     replace HB := AM (zg_ (belg_ (zk_.ge HI0.out)) hb)
     have BK330 := AM hbox
     have GW330 := AM ((by rw [hg]; exact (zF_ (w := w) (g := g) (row := none) kp_) : w.heap.size ≤ gb330))
     have GE330 := AM ((Nat.le_trans HW0.out (by rw [hg]; exact (zF_ (w := w) (g := g) (row := none) kp_) : w.heap.size ≤ gb330) : w0.heap.size ≤ gb330))
     replace HK := AM (kb_ w g hb)
     have NB0_330 := AM ((by rw [hg]; exact Nat.ne_of_lt (zk_.lt (show zk_ w0 _ g s0_0 s0_1 false from zV_)) : g ≠ gb330))
     have NB330_0 := AM ((by rw [hg]; exact Nat.ne_of_gt (zk_.lt (show zk_ w0 _ g s0_0 s0_1 false from zV_)) : gb330 ≠ g))
     replace HI0 := AM (zk_.below zV_ hb)
     clear hb hbox hg
     refine hK.out _ _ ⟨(zU_ HI0.out.1), (zT_ HI0.out.1), (zS_ HI0.out.1)⟩ (fun hHeld => ?_)
     clear hK K
     refine nm_ ?_
     exact nmE_ (hCont (gb330) _ ⟨hHeld, (bk_ BK330.out), GW330.out, GE330.out, NB0_330.out, NB330_0.out, zV_, kp_, (belg_ (zk_.ge HI0.out))⟩)
    ·
     skip
     refine bs_ 3 #[.int .i64 0, .int .i64 0, .int .i64 0] 199 ?_
     intro gb330 hg w24 hbox hb
     replace HB := AM (zg_ (belg_ (zk_.ge HI0.out)) hb)
     have BK330 := AM hbox
     have GW330 := AM ((by rw [hg]; exact (zF_ (w := w) (g := g) (row := none) kp_) : w.heap.size ≤ gb330))
     have GE330 := AM ((Nat.le_trans HW0.out (by rw [hg]; exact (zF_ (w := w) (g := g) (row := none) kp_) : w.heap.size ≤ gb330) : w0.heap.size ≤ gb330))
     replace HK := AM (kb_ w g hb)
     have NB0_330 := AM ((by rw [hg]; exact Nat.ne_of_lt (zk_.lt (show zk_ w0 _ g s0_0 s0_1 false from zV_)) : g ≠ gb330))
     have NB330_0 := AM ((by rw [hg]; exact Nat.ne_of_gt (zk_.lt (show zk_ w0 _ g s0_0 s0_1 false from zV_)) : gb330 ≠ g))
     replace HI0 := AM (zk_.below zV_ hb)
     clear hb hbox hg
     refine hK.out _ _ ⟨(zU_ HI0.out.1), (zT_ HI0.out.1), (zS_ HI0.out.1)⟩ (fun hHeld => ?_)
     clear hK K
     refine nm_ ?_
     refine on_ HT_ 8 (some 12) (bA 11 1023) (fun K hK => ?_)
     refine go1_ Try.func160 #[.string s0_0, .int .i64 s0_1] ?_
     with_reducible refine (zr_.calls k s0_0 s0_1 t327 t328 t329 _ A2.out).mono ?_
     rintro e w25 ⟨rfl, hb⟩
     refine ⟨_, rfl, ?_⟩
     replace BK330 := AM (zP_ (g := gb330) (o := .cells #[.int .i64 0, .int .i64 0, .int .i64 0] 199 (0, 0)) (bk_ BK330.out) hb)
     replace HK := AM (kb_ w g hb)
     replace HB := AM (zg_ (belg_ (zk_.ge HI0.out)) hb)
     replace HI0 := AM (zk_.below zV_ hb)
     (try clear hb)
     refine hK.out _ _ ⟨(zU_ HI0.out.1), (zT_ HI0.out.1), (zS_ HI0.out.1)⟩ (fun hHeld => ?_)
     clear hK K
     refine nm_ ?_
     exact nmE_ (hCont (gb330) _ ⟨hHeld, (bk_ BK330.out), GW330.out, GE330.out, NB0_330.out, NB330_0.out, zV_, kp_, (belg_ (zk_.ge HI0.out))⟩)
   rintro gb330 w26 ⟨hS_, h0_, h1_, h2_, h3_, h4_, h5_, h6_, h7_⟩
   have BK330 : zd_ (w26.heap[gb330]? = some (.cells #[.int .i64 0, .int .i64 0, .int .i64 0] 199 (0, 0))) := ⟨h0_⟩
   have GW330 : zd_ (w.heap.size ≤ gb330) := ⟨h1_⟩
   have GE330 : zd_ (w0.heap.size ≤ gb330) := ⟨h2_⟩
   have NB0_330 : zd_ (g ≠ gb330) := ⟨h3_⟩
   have NB330_0 : zd_ (gb330 ≠ g) := ⟨h4_⟩
   replace HI0 : zd_ (zk_ w0 w26 g s0_0 s0_1 false) := ⟨h5_⟩
   replace HK : zd_ (zs_ w w26 g none) := ⟨h6_⟩
   replace HB : zd_ (Below w0.heap.size w0 w26) := ⟨h7_⟩
   clear h0_ h1_ h2_ h3_ h4_ h5_ h6_ h7_
   have hHeld : w26.cell? ⟨g, 0, none⟩ = some (.string s0_0) ∧ w26.cell? ⟨g, 1, none⟩ = some (.int .i64 s0_1) ∧ w26.cell? ⟨g, 2, none⟩ = some (.bool false) := hS_
   refine nmA_ ?_
   refine on_ HT_ 10 none (bA 11 2047) (fun K hK => ?_)
   have hs27 : w26.cell? ⟨gb330, 0, none⟩ = some (.int .i64 0) := (zb_ BK330.out 0).trans rfl
   have hfs27 := za_ BK330.out 0
   have hs28 : w26.cell? ⟨gb330, 1, none⟩ = some (.int .i64 0) := (zb_ BK330.out 1).trans rfl
   have hfs28 := za_ BK330.out 1
   have hs29 : w26.cell? ⟨gb330, 2, none⟩ = some (.int .i64 0) := (zb_ BK330.out 2).trans rfl
   have hfs29 := za_ BK330.out 2
   refine sk_ ?_
   refine hK.out _ _ ⟨(by (rw [cell_far, cell_far, cell_far]) <;> first | exact hHeld.1 | exact NB0_330.out), (by (rw [cell_far, cell_far, cell_far]) <;> first | exact hHeld.2.1 | exact NB0_330.out), (by (rw [cell_far, cell_far, cell_far]) <;> first | exact hHeld.2.2 | exact NB0_330.out)⟩ (fun hHeld => ?_)
   clear hK K
   refine dn_ HT_ ?_
   obtain ⟨HGz30, hgz30⟩ := HI0.out
   have hcz30_0 := zU_ HGz30
   have hcz30_1 := zT_ HGz30
   have hcz30_2 := zS_ HGz30
   have hfz30_0 := za_ HGz30 0
   have hfz30_1 := za_ HGz30 1
   have hfz30_2 := za_ HGz30 2
   clear HGz30 hgz30
   have hnb31 := NB330_0.out
   have hnc31 := NB0_330.out
   have hcz32_0 : w26.cell? ⟨gb330, 0, none⟩ = some (.int .i64 0) := (zb_ BK330.out 0).trans rfl
   have hcz32_1 : w26.cell? ⟨gb330, 1, none⟩ = some (.int .i64 0) := (zb_ BK330.out 1).trans rfl
   have hcz32_2 : w26.cell? ⟨gb330, 2, none⟩ = some (.int .i64 0) := (zb_ BK330.out 2).trans rfl
   have hfz32_0 := za_ BK330.out 0
   have hfz32_1 := za_ BK330.out 1
   have hfz32_2 := za_ BK330.out 2
   try go_wp2
   go_ret
   exact ⟨ri_, zV_, belg_ (zk_.ge HI0.out), kp_⟩
/-! ### yK_: function 81 -/
def yK_.f (s0_0 : ByteArray) (s0_1 : Int) (s0_2 : Bool) (a1 : Int) : Option (ByteArray × ByteArray × Int × Bool) := if s0_2 = true then (some ((⟨#[]⟩ : ByteArray), s0_0, s0_1, true)) else ((yj_.f s0_0).bind fun t331 => (if a1 > (wrap64 (t331 - s0_1)) then (some ((⟨#[]⟩ : ByteArray), s0_0, s0_1, true)) else (if 0 ≤ (wrap64 ((wrap64 (s0_1 + a1)) - a1)) then (if (wrap64 ((wrap64 (s0_1 + a1)) - a1)) ≤ (wrap64 (s0_1 + a1)) then (if (wrap64 (s0_1 + a1)) ≤ (s0_0.size : Int) then (some (s0_0.extract ((wrap64 ((wrap64 (s0_1 + a1)) - a1)) : Int).toNat ((wrap64 (s0_1 + a1)) : Int).toNat, s0_0, wrap64 (s0_1 + a1), s0_2)) else (none)) else (none)) else (none))))
theorem yK_.calls (g : Nat) (s0_0 : ByteArray) (s0_1 : Int) (s0_2 : Bool) (a1 : Int) (r1 : ByteArray) (r2 : ByteArray) (r3 : Int) (r4 : Bool) (w0 w : World) (hI : zk_ w0 w g s0_0 s0_1 s0_2) (hB : Below w0.heap.size w0 w) (h : yK_.f s0_0 s0_1 s0_2 a1 = some (r1, r2, r3, r4)) :
 Calls Try.prog 81 #[.pointer (some ⟨g, 0, none⟩), .int .i64 a1] w fun e w' => e = .returned (.string r1) ∧ zk_ w0 w' g r2 r3 r4 ∧ Below w0.heap.size w0 w' ∧ zs_ w w' g none := by
 have HI0 := AM hI
 have HK := AM (zs_.refl w g none)
 have HL := AM hB.size
 clear hI
 have HW0 := AM hB.size
 have HB := AM hB
 clear hB
 have H : (if s0_2 = true then (some ((⟨#[]⟩ : ByteArray), s0_0, s0_1, true)) else ((yj_.f s0_0).bind fun t331 => (if a1 > (wrap64 (t331 - s0_1)) then (some ((⟨#[]⟩ : ByteArray), s0_0, s0_1, true)) else (if 0 ≤ (wrap64 ((wrap64 (s0_1 + a1)) - a1)) then (if (wrap64 ((wrap64 (s0_1 + a1)) - a1)) ≤ (wrap64 (s0_1 + a1)) then (if (wrap64 (s0_1 + a1)) ≤ (s0_0.size : Int) then (some (s0_0.extract ((wrap64 ((wrap64 (s0_1 + a1)) - a1)) : Int).toNat ((wrap64 (s0_1 + a1)) : Int).toNat, s0_0, wrap64 (s0_1 + a1), s0_2)) else (none)) else (none)) else (none))))) = some (r1, r2, r3, r4) := h
 clear h
 by_cases c3 : s0_2 = true
 ·
  subst c3
  rw [if_pos rfl] at H
  simp only [Option.some.injEq, Prod.mk.injEq] at H
  obtain ⟨rfl, rfl, rfl, rfl⟩ := H
  obtain ⟨HGz4, hgz4⟩ := HI0.out
  have hcz4_0 := zU_ HGz4
  have hcz4_1 := zT_ HGz4
  have hcz4_2 := zS_ HGz4
  have hfz4_0 := za_ HGz4 0
  have hfz4_1 := za_ HGz4 1
  have hfz4_2 := za_ HGz4 2
  clear HGz4 hgz4
  go_enter Try.func81, Try.ntmps81
  go_wp2
  repeat (go_quiet (fail); try go_wp2)
  go_ret
  exact ⟨ri_, zV_, belg_ (zk_.ge HI0.out), kp_⟩
 ·
  replace c3 := Bool.eq_false_iff.mpr c3
  subst c3
  rw [if_neg (show ¬ (false = true) by decide)] at H
  obtain ⟨t331, A5, H⟩ := OB H
  try dsimp only at H
  replace A5 := AM A5
  by_cases c6 : a1 > (wrap64 (t331 - s0_1))
  ·
   rw [if_pos c6] at H
   have c6b0 : decide ((wrap64 (t331 - s0_1)) < a1) = true := decide_eq_true c6
   try have c6b9 : (decide (((t331 - s0_1)) < a1)) = true := (by have hw0 : wrap64 (t331 - s0_1) = t331 - s0_1 := (by unfold wrap64; omega); have z_ := c6b0; simp only [hw0] at z_; exact z_)
   clear c6
   simp only [Option.some.injEq, Prod.mk.injEq] at H
   obtain ⟨rfl, rfl, rfl, rfl⟩ := H
   obtain ⟨HGz7, hgz7⟩ := HI0.out
   have hcz7_0 := zU_ HGz7
   have hcz7_1 := zT_ HGz7
   have hcz7_2 := zS_ HGz7
   have hfz7_0 := za_ HGz7 0
   have hfz7_1 := za_ HGz7 1
   have hfz7_2 := za_ HGz7 2
   clear HGz7 hgz7
   go_enter Try.func81, Try.ntmps81
   go_wp2_with (first | (go_at_call 128; (with_reducible refine (yj_.calls s0_0 t331 _ A5.out).mono ?_); rintro e w' ⟨rfl, ⟨nd, rfl⟩⟩; (try first | exact ⟨rfl, _, World.drewN_drewN _ _ _⟩ | exact ⟨rfl, _, Eq.trans (World.drewN_drewN _ _ _) (congrArg (World.drewN _) (Nat.add_assoc _ _ _))⟩)))
   repeat (go_quiet (first | (go_at_call 128; (with_reducible refine (yj_.calls s0_0 t331 _ A5.out).mono ?_); rintro e w' ⟨rfl, ⟨nd, rfl⟩⟩; (try first | exact ⟨rfl, _, World.drewN_drewN _ _ _⟩ | exact ⟨rfl, _, Eq.trans (World.drewN_drewN _ _ _) (congrArg (World.drewN _) (Nat.add_assoc _ _ _))⟩))); try go_wp2_with (first | (go_at_call 128; (with_reducible refine (yj_.calls s0_0 t331 _ A5.out).mono ?_); rintro e w' ⟨rfl, ⟨nd, rfl⟩⟩; (try first | exact ⟨rfl, _, World.drewN_drewN _ _ _⟩ | exact ⟨rfl, _, Eq.trans (World.drewN_drewN _ _ _) (congrArg (World.drewN _) (Nat.add_assoc _ _ _))⟩))))
   go_ret
   exact ⟨ri_, zV_, belg_ (zk_.ge HI0.out), kp_⟩
  ·
   rw [if_neg c6] at H
   have c6b0 : decide ((wrap64 (t331 - s0_1)) < a1) = false := decide_eq_false c6
   try have c6b9 : (decide (((t331 - s0_1)) < a1)) = false := (by have hw0 : wrap64 (t331 - s0_1) = t331 - s0_1 := (by unfold wrap64; omega); have z_ := c6b0; simp only [hw0] at z_; exact z_)
   clear c6
   obtain ⟨ji8, hji8⟩ : ∃ j_ : Int, (wrap64 ((wrap64 (s0_1 + a1)) - a1)) = j_ := ⟨_, rfl⟩
   replace H : (if 0 ≤ (ji8) then (if (ji8) ≤ (wrap64 (s0_1 + a1)) then (if (wrap64 (s0_1 + a1)) ≤ (s0_0.size : Int) then (some (s0_0.extract ((ji8) : Int).toNat ((wrap64 (s0_1 + a1)) : Int).toNat, s0_0, wrap64 (s0_1 + a1), false)) else (none)) else (none)) else (none)) = some (r1, r2, r3, r4) := by first | (rw [hji8] at H; exact H) | (simp only [hji8] at H ⊢; exact H)
   (try rw [hji8] at A5)
   have hji8w : (IntKind.i64.wrap ((wrap64 (s0_1 + a1)) - a1)) = ji8 := (i64_w _).trans hji8
   by_cases c9 : 0 ≤ (ji8)
   ·
    rw [if_pos c9] at H
    have c9b0 := eq_true c9
    have c9b1 : decide (0 ≤ (ji8)) = true := decide_eq_true c9
    clear c9
    by_cases c10 : (ji8) ≤ (wrap64 (s0_1 + a1))
    ·
     rw [if_pos c10] at H
     have c10b0 := eq_true c10
     have c10b1 : decide ((ji8) ≤ (wrap64 (s0_1 + a1))) = true := decide_eq_true c10
     by_cases c11 : (wrap64 (s0_1 + a1)) ≤ (s0_0.size : Int)
     ·
      rw [if_pos c11] at H
      have c11b0 := eq_true c11
      have c11b1 : decide ((wrap64 (s0_1 + a1)) ≤ (s0_0.size : Int)) = true := decide_eq_true c11
      simp only [Option.some.injEq, Prod.mk.injEq] at H
      obtain ⟨rfl, rfl, rfl, rfl⟩ := H
      obtain ⟨HGz12, hgz12⟩ := HI0.out
      have hcz12_0 := zU_ HGz12
      have hcz12_1 := zT_ HGz12
      have hcz12_2 := zS_ HGz12
      have hfz12_0 := za_ HGz12 0
      have hfz12_1 := za_ HGz12 1
      have hfz12_2 := za_ HGz12 2
      clear HGz12 hgz12
      go_enter Try.func81, Try.ntmps81
      go_wp2_with (first | (go_at_call 128; (with_reducible refine (yj_.calls s0_0 t331 _ A5.out).mono ?_); rintro e w' ⟨rfl, ⟨nd, rfl⟩⟩; (try first | exact ⟨rfl, _, World.drewN_drewN _ _ _⟩ | exact ⟨rfl, _, Eq.trans (World.drewN_drewN _ _ _) (congrArg (World.drewN _) (Nat.add_assoc _ _ _))⟩)))
      repeat (go_quiet (first | (go_at_call 128; (with_reducible refine (yj_.calls s0_0 t331 _ A5.out).mono ?_); rintro e w' ⟨rfl, ⟨nd, rfl⟩⟩; (try first | exact ⟨rfl, _, World.drewN_drewN _ _ _⟩ | exact ⟨rfl, _, Eq.trans (World.drewN_drewN _ _ _) (congrArg (World.drewN _) (Nat.add_assoc _ _ _))⟩))); try go_wp2_with (first | (go_at_call 128; (with_reducible refine (yj_.calls s0_0 t331 _ A5.out).mono ?_); rintro e w' ⟨rfl, ⟨nd, rfl⟩⟩; (try first | exact ⟨rfl, _, World.drewN_drewN _ _ _⟩ | exact ⟨rfl, _, Eq.trans (World.drewN_drewN _ _ _) (congrArg (World.drewN _) (Nat.add_assoc _ _ _))⟩))))
      go_ret
      exact ⟨by first | rfl | (simp [ym_, yl_] <;> rfl) | (simp only [← hji8]; first | rfl | (simp [ym_, yl_] <;> rfl)) | (simp [*, ym_, yl_] <;> rfl), zV_, belg_ (zk_.ge HI0.out), kp_⟩
     ·
      rw [if_neg c11] at H
      exact absurd H (by simp)
    ·
     rw [if_neg c10] at H
     exact absurd H (by simp)
   ·
    rw [if_neg c9] at H
    exact absurd H (by simp)
/-! ### zX_: function 161 -/
def zX_.f (k : Nat) (a0 : ByteArray) (a1 : Int) : Option (ByteArray × Int × Int) := (zr_.f k a0 a1).bind fun bt333 => (if bt333.2.2 = 0 then ((yg_.f bt333.1 0 20000).bind fun t337 => (if t337 = true then ((yj_.f a0).bind fun t338 => (if (wrap64 (bt333.2.1 + bt333.1)) > t338 then (some ((⟨#[]⟩ : ByteArray), 0, 4)) else (if 0 ≤ bt333.2.1 then (if bt333.2.1 ≤ (wrap64 (bt333.2.1 + bt333.1)) then (if (wrap64 (bt333.2.1 + bt333.1)) ≤ (a0.size : Int) then (some (a0.extract (bt333.2.1 : Int).toNat ((wrap64 (bt333.2.1 + bt333.1)) : Int).toNat, wrap64 (bt333.2.1 + bt333.1), 0)) else (none)) else (none)) else (none)))) else (some ((⟨#[]⟩ : ByteArray), 0, 3)))) else (some ((⟨#[]⟩ : ByteArray), 0, bt333.2.2)))
theorem zX_.mono : ∀ a0 a1 k, LeO (zX_.f k a0 a1) (zX_.f (k + 1) a0 a1) := by
 intro a0 a1 k
 unfold zX_.f
 repeat' with_reducible first | exact zr_.mono _ _ _ | exact LeO.refl _ | exact LeO.none _ | refine LeO.ite ?_ ?_ | refine LeO.bind ?_ (fun _ => ?_)
def zX_.T6 : Bool × List (List Nat × List Nat) := (true, [([], []), ([0], [0]), ([], []), ([2], [2]), ([1, 3], [1, 3]), ([], []), ([5], [5]), ([4, 6], [4, 6]), ([7, 6], [7])])
def zX_.B6 : List Nat := [0, 1, 0, 4, 15, 0, 32, 127, 255]
theorem zX_.tab6 : rtab .any (opsOf Try.f161 6) = zX_.T6 := by kernel_rfl
theorem zX_.bits6 : xe_ zX_.T6.2 zX_.B6 = true := by kernel_rfl
def zX_.T8 : Bool × List (List Nat × List Nat) := (true, [([], []), ([], []), ([1], [1]), ([], []), ([3], [3]), ([], []), ([5], [5]), ([4, 6], [4, 6]), ([0, 2, 7], [0, 2, 7]), ([], []), ([9], [9]), ([], []), ([11], [11]), ([10, 12], [10, 12]), ([8, 13], [8, 13]), ([14, 0, 1, 2, 3, 4, 5, 6, 7, 8, 9, 10, 11, 12, 13, 14], [14])])
def zX_.B8 : List Nat := [0, 0, 2, 0, 8, 0, 32, 120, 255, 0, 512, 0, 2048, 7680, 16383, 32767]
theorem zX_.tab8 : rtab .any (opsOf Try.f161 8) = zX_.T8 := by kernel_rfl
theorem zX_.bits8 : xe_ zX_.T8.2 zX_.B8 = true := by kernel_rfl
theorem zX_.calls (k : Nat) (a0 : ByteArray) (a1 : Int) (r1 : ByteArray) (r2 : Int) (r3 : Int) (w : World) (h : zX_.f k a0 a1 = some (r1, r2, r3)) :
 Calls Try.prog 161 #[.string a0, .int .i64 a1] w fun e w' => e = .returned (.agg #[.string r1, .int .i64 r2, .int .i64 r3]) ∧ Below w.heap.size w w' := by
 have hu202 := Try.underlying202
 have hu199 := Try.underlying199
 have HB := AM (Below.refl w.heap.size w)
 have H : ((zr_.f k a0 a1).bind fun bt333 => (if bt333.2.2 = 0 then ((yg_.f bt333.1 0 20000).bind fun t337 => (if t337 = true then ((yj_.f a0).bind fun t338 => (if (wrap64 (bt333.2.1 + bt333.1)) > t338 then (some ((⟨#[]⟩ : ByteArray), 0, 4)) else (if 0 ≤ bt333.2.1 then (if bt333.2.1 ≤ (wrap64 (bt333.2.1 + bt333.1)) then (if (wrap64 (bt333.2.1 + bt333.1)) ≤ (a0.size : Int) then (some (a0.extract (bt333.2.1 : Int).toNat ((wrap64 (bt333.2.1 + bt333.1)) : Int).toNat, wrap64 (bt333.2.1 + bt333.1), 0)) else (none)) else (none)) else (none)))) else (some ((⟨#[]⟩ : ByteArray), 0, 3)))) else (some ((⟨#[]⟩ : ByteArray), 0, bt333.2.2)))) = some (r1, r2, r3) := h
 clear h
 obtain ⟨⟨t333, t334, t335⟩, A3, H⟩ := OB H
 try dsimp only at H
 replace A3 := AM A3
 by_cases c4 : t335 = 0
 ·
  rw [if_pos c4] at H
  have c4b0 : (t335 == 0) = true := beq_iff_eq.mpr c4
  have c4b1 : (t335 != 0) = false := bne_eq_false_iff_eq.mpr c4
  clear c4
  obtain ⟨t337, A5, H⟩ := OB H
  try dsimp only at H
  replace A5 := AM A5
  by_cases c6 : t337 = true
  ·
   subst c6
   rw [if_pos rfl] at H
   obtain ⟨t338, A7, H⟩ := OB H
   try dsimp only at H
   replace A7 := AM A7
   by_cases c8 : (wrap64 (t334 + t333)) > t338
   ·
    rw [if_pos c8] at H
    have c8b0 : decide (t338 < (wrap64 (t334 + t333))) = true := decide_eq_true c8
    try have c8b9 : (decide (t338 < ((t334 + t333)))) = true := (by have hw0 : wrap64 (t334 + t333) = t334 + t333 := (by unfold wrap64; omega); have z_ := c8b0; simp only [hw0] at z_; exact z_)
    clear c8
    simp only [Option.some.injEq, Prod.mk.injEq] at H
    obtain ⟨rfl, rfl, rfl⟩ := H
    go_enter Try.func161, Try.ntmps161
    try go_wp2_with (first | ((with_reducible refine z6_ (N := 4) rfl ?_); refine be_ 4 #[.string (⟨#[]⟩ : ByteArray), .int .i64 0, .int .i64 0] 202 ?_; intro gb332 hg w9 hbox hb; have BK332 := AM hbox; have GW332 := AM ((by rw [hg]; exact (zj_ bel_) : w.heap.size ≤ gb332)); have GE332 := AM ((by rw [hg]; exact (zj_ bel_) : w.heap.size ≤ gb332)); replace HB := AM (zg_ bel_ hb); clear hb hbox hg) | ((with_reducible refine zl_ (f := 160) rfl ?_); refine gl_ (some 8) Try.func160 #[.string a0, .int .i64 a1] ?_; (with_reducible refine (zr_.calls k a0 a1 t333 t334 t335 _ A3.out).mono ?_); rintro e w10 ⟨rfl, hb⟩; refine ⟨_, rfl, ?_⟩; replace BK332 := AM (zP_ (g := gb332) (o := .cells #[.string (⟨#[]⟩ : ByteArray), .int .i64 0, .int .i64 0] 202 (0, 0)) (bk_ BK332.out) hb); replace HB := AM (zg_ bel_ hb); (try clear hb)) | ((with_reducible refine z6_ (N := 5) rfl ?_); refine be_ 5 #[.int .i64 0, .int .i64 0, .int .i64 0] 199 ?_; intro gb336 hg w11 hbox hb; have BK336 := AM hbox; have GW336 := AM ((by rw [hg]; exact (zj_ bel_) : w.heap.size ≤ gb336)); have GE336 := AM ((by rw [hg]; exact (zj_ bel_) : w.heap.size ≤ gb336)); replace HB := AM (zg_ bel_ hb); have NB332_336 := AM ((by rw [hg]; exact Nat.ne_of_lt (yS_ (g := gb332) (o := .cells #[.string (⟨#[]⟩ : ByteArray), .int .i64 0, .int .i64 0] 202 (0, 0)) (bk_ BK332.out)) : gb332 ≠ gb336)); have NB336_332 := AM ((by rw [hg]; exact Nat.ne_of_gt (yS_ (g := gb332) (o := .cells #[.string (⟨#[]⟩ : ByteArray), .int .i64 0, .int .i64 0] 202 (0, 0)) (bk_ BK332.out)) : gb336 ≠ gb332)); replace BK332 := AM (zP_ (g := gb332) (o := .cells #[.string (⟨#[]⟩ : ByteArray), .int .i64 0, .int .i64 0] 202 (0, 0)) (bk_ BK332.out) hb); clear hb hbox hg; have hnb12 := NB336_332.out; have hnc12 := NB332_336.out; have hcz13_0 : w11.cell? ⟨gb336, 0, none⟩ = some (.int .i64 0) := (zb_ BK336.out 0).trans rfl; have hcz13_1 : w11.cell? ⟨gb336, 1, none⟩ = some (.int .i64 0) := (zb_ BK336.out 1).trans rfl; have hcz13_2 : w11.cell? ⟨gb336, 2, none⟩ = some (.int .i64 0) := (zb_ BK336.out 2).trans rfl; have hfz13_0 := za_ BK336.out 0; have hfz13_1 := za_ BK336.out 1; have hfz13_2 := za_ BK336.out 2) | ((with_reducible refine zl_ (f := 61) rfl ?_); refine gl_ (some 19) Try.func61 #[.int .i64 t333, .int .i64 0, .int .i64 20000] ?_; (with_reducible refine (yg_.calls t333 0 20000 true _ A5.out).mono ?_); rintro e w' ⟨rfl, ⟨nd, rfl⟩⟩; refine ⟨_, rfl, ?_⟩))
    have n0_ : zd_ ((((w11.setCell ⟨gb336, 0, none⟩ (.int .i64 t333)).setCell ⟨gb336, 1, none⟩ (.int .i64 t334)).setCell ⟨gb336, 2, none⟩ (.int .i64 t335)).heap[gb332]? = some (.cells #[.string (⟨#[]⟩ : ByteArray), .int .i64 0, .int .i64 0] 202 (0, 0))) := ⟨bka_⟩
    have n1_ : zd_ ((((w11.setCell ⟨gb336, 0, none⟩ (.int .i64 t333)).setCell ⟨gb336, 1, none⟩ (.int .i64 t334)).setCell ⟨gb336, 2, none⟩ (.int .i64 t335)).heap[gb336]? = some (.cells #[.int .i64 t333, .int .i64 t334, .int .i64 t335] 199 (0, 0))) := ⟨bka_⟩
    have n2_ : zd_ (Below w.heap.size w (((w11.setCell ⟨gb336, 0, none⟩ (.int .i64 t333)).setCell ⟨gb336, 1, none⟩ (.int .i64 t334)).setCell ⟨gb336, 2, none⟩ (.int .i64 t335))) := ⟨bel_⟩
    (try clear BK332); (try clear BK336); (try clear HB)
    generalize (((w11.setCell ⟨gb336, 0, none⟩ (.int .i64 t333)).setCell ⟨gb336, 1, none⟩ (.int .i64 t334)).setCell ⟨gb336, 2, none⟩ (.int .i64 t335)) = w14 at n0_ n1_ n2_ ⊢
    have BK332 := n0_
    have BK336 := n1_
    have HB := n2_
    clear n0_ n1_ n2_
    (try (rw [xy_ w14]; generalize hq_ : World.drewN w14 _ = w14; replace BK332 : zd_ (w14.heap[gb332]? = some (.cells #[.string (⟨#[]⟩ : ByteArray), .int .i64 0, .int .i64 0] 202 (0, 0))) := ⟨by rw [← hq_]; exact (bk_ BK332.out)⟩; replace BK336 : zd_ (w14.heap[gb336]? = some (.cells #[.int .i64 t333, .int .i64 t334, .int .i64 t335] 199 (0, 0))) := ⟨by rw [← hq_]; exact (bk_ BK336.out)⟩; replace HB : zd_ (Below w.heap.size w w14) := ⟨by rw [← hq_]; exact bel_⟩; clear hq_))
    replace BK332 := AM (yU_ BK332.out)
    replace BK336 := AM (yU_ BK336.out)
    replace HB := AM (z1_ HB.out)
    refine xi_ (n := 9) (S := fun w' => w'.cell? ⟨gb336, 0, none⟩ = some (.int .i64 t333) ∧ w'.cell? ⟨gb336, 1, none⟩ = some (.int .i64 t334) ∧ w'.cell? ⟨gb336, 2, none⟩ = some (.int .i64 t335)) (ds := []) (Array.replicate 9 false) (by kernel_rfl) rfl rfl ⟨(zb_ BK336.out 0).trans rfl, (zb_ BK336.out 1).trans rfl, (zb_ BK336.out 2).trans rfl⟩ (fun hHeld => ?_); refine yu_ zX_.tab6 zX_.bits6 (fun HT_ HW_ => ?_)
    generalize w14.drew = w15 at BK332 BK336 HB hHeld ⊢
    refine pu_ HT_ 0 (some 23) (bA 9 1) ?_
    refine pu_ HT_ 2 (some 25) (bA 9 5) ?_
    refine pu_ HT_ 5 (some 28) (bA 9 37) ?_
    refine ta_ HT_ HW_ 1 (some 24) (bA 9 39) hHeld ?_
    refine ta_ HT_ HW_ 3 (some 26) (bA 9 47) hHeld ?_
    refine pu_ HT_ 4 (some 27) (bA 9 63) ?_
    refine on_ HT_ 6 (some 29) (bA 9 127) (fun K hK => ?_)
    refine go1_ Try.func128 #[.string a0] ?_
    with_reducible refine (yj_.calls a0 t338 _ A7.out).mono ?_
    rintro e w' ⟨rfl, ⟨nd, rfl⟩⟩
    refine ⟨_, rfl, ?_⟩
    refine hK.out _ _ ⟨(zb_ BK336.out 0).trans rfl, (zb_ BK336.out 1).trans rfl, (zb_ BK336.out 2).trans rfl⟩ (fun hHeld => ?_)
    clear hK K
    refine nm_ ?_
    refine pu_ HT_ 7 (some 30) (bA 9 255) ?_
    refine pu_ HT_ 8 (some 22) (bA 9 511) ?_
    refine dn_ HT_ ?_
    have hcz16_0 : w15.cell? ⟨gb332, 0, none⟩ = some (.string (⟨#[]⟩ : ByteArray)) := (zb_ BK332.out 0).trans rfl
    have hcz16_1 : w15.cell? ⟨gb332, 1, none⟩ = some (.int .i64 0) := (zb_ BK332.out 1).trans rfl
    have hcz16_2 : w15.cell? ⟨gb332, 2, none⟩ = some (.int .i64 0) := (zb_ BK332.out 2).trans rfl
    have hfz16_0 := za_ BK332.out 0
    have hfz16_1 := za_ BK332.out 1
    have hfz16_2 := za_ BK332.out 2
    try go_wp2
    refine bodyPost_ret (results_cell_row rfl _ _ gb332 202 #[.string (⟨#[]⟩ : ByteArray), .int .i64 0, .int .i64 4] (0, 0) _ rfl bka_ Try.underlying202 rfl (by kernel_rfl)) rfl ?_
    exact ⟨ri_, bel_⟩
   ·
    rw [if_neg c8] at H
    have c8b0 : decide (t338 < (wrap64 (t334 + t333))) = false := decide_eq_false c8
    try have c8b9 : (decide (t338 < ((t334 + t333)))) = false := (by have hw0 : wrap64 (t334 + t333) = t334 + t333 := (by unfold wrap64; omega); have z_ := c8b0; simp only [hw0] at z_; exact z_)
    clear c8
    by_cases c17 : 0 ≤ t334
    ·
     rw [if_pos c17] at H
     have c17b0 := eq_true c17
     have c17b1 : decide (0 ≤ t334) = true := decide_eq_true c17
     clear c17
     by_cases c18 : t334 ≤ (wrap64 (t334 + t333))
     ·
      rw [if_pos c18] at H
      have c18b0 := eq_true c18
      have c18b1 : decide (t334 ≤ (wrap64 (t334 + t333))) = true := decide_eq_true c18
      by_cases c19 : (wrap64 (t334 + t333)) ≤ (a0.size : Int)
      ·
       rw [if_pos c19] at H
       have c19b0 := eq_true c19
       have c19b1 : decide ((wrap64 (t334 + t333)) ≤ (a0.size : Int)) = true := decide_eq_true c19
       simp only [Option.some.injEq, Prod.mk.injEq] at H
       obtain ⟨rfl, rfl, rfl⟩ := H
       go_enter Try.func161, Try.ntmps161
       try go_wp2_with (first | ((with_reducible refine z6_ (N := 4) rfl ?_); refine be_ 4 #[.string (⟨#[]⟩ : ByteArray), .int .i64 0, .int .i64 0] 202 ?_; intro gb332 hg w20 hbox hb; have BK332 := AM hbox; have GW332 := AM ((by rw [hg]; exact (zj_ bel_) : w.heap.size ≤ gb332)); have GE332 := AM ((by rw [hg]; exact (zj_ bel_) : w.heap.size ≤ gb332)); replace HB := AM (zg_ bel_ hb); clear hb hbox hg) | ((with_reducible refine zl_ (f := 160) rfl ?_); refine gl_ (some 8) Try.func160 #[.string a0, .int .i64 a1] ?_; (with_reducible refine (zr_.calls k a0 a1 t333 t334 t335 _ A3.out).mono ?_); rintro e w21 ⟨rfl, hb⟩; refine ⟨_, rfl, ?_⟩; replace BK332 := AM (zP_ (g := gb332) (o := .cells #[.string (⟨#[]⟩ : ByteArray), .int .i64 0, .int .i64 0] 202 (0, 0)) (bk_ BK332.out) hb); replace HB := AM (zg_ bel_ hb); (try clear hb)) | ((with_reducible refine z6_ (N := 5) rfl ?_); refine be_ 5 #[.int .i64 0, .int .i64 0, .int .i64 0] 199 ?_; intro gb336 hg w22 hbox hb; have BK336 := AM hbox; have GW336 := AM ((by rw [hg]; exact (zj_ bel_) : w.heap.size ≤ gb336)); have GE336 := AM ((by rw [hg]; exact (zj_ bel_) : w.heap.size ≤ gb336)); replace HB := AM (zg_ bel_ hb); have NB332_336 := AM ((by rw [hg]; exact Nat.ne_of_lt (yS_ (g := gb332) (o := .cells #[.string (⟨#[]⟩ : ByteArray), .int .i64 0, .int .i64 0] 202 (0, 0)) (bk_ BK332.out)) : gb332 ≠ gb336)); have NB336_332 := AM ((by rw [hg]; exact Nat.ne_of_gt (yS_ (g := gb332) (o := .cells #[.string (⟨#[]⟩ : ByteArray), .int .i64 0, .int .i64 0] 202 (0, 0)) (bk_ BK332.out)) : gb336 ≠ gb332)); replace BK332 := AM (zP_ (g := gb332) (o := .cells #[.string (⟨#[]⟩ : ByteArray), .int .i64 0, .int .i64 0] 202 (0, 0)) (bk_ BK332.out) hb); clear hb hbox hg; have hnb23 := NB336_332.out; have hnc23 := NB332_336.out; have hcz24_0 : w22.cell? ⟨gb336, 0, none⟩ = some (.int .i64 0) := (zb_ BK336.out 0).trans rfl; have hcz24_1 : w22.cell? ⟨gb336, 1, none⟩ = some (.int .i64 0) := (zb_ BK336.out 1).trans rfl; have hcz24_2 : w22.cell? ⟨gb336, 2, none⟩ = some (.int .i64 0) := (zb_ BK336.out 2).trans rfl; have hfz24_0 := za_ BK336.out 0; have hfz24_1 := za_ BK336.out 1; have hfz24_2 := za_ BK336.out 2) | ((with_reducible refine zl_ (f := 61) rfl ?_); refine gl_ (some 19) Try.func61 #[.int .i64 t333, .int .i64 0, .int .i64 20000] ?_; (with_reducible refine (yg_.calls t333 0 20000 true _ A5.out).mono ?_); rintro e w' ⟨rfl, ⟨nd, rfl⟩⟩; refine ⟨_, rfl, ?_⟩))
       have n0_ : zd_ ((((w22.setCell ⟨gb336, 0, none⟩ (.int .i64 t333)).setCell ⟨gb336, 1, none⟩ (.int .i64 t334)).setCell ⟨gb336, 2, none⟩ (.int .i64 t335)).heap[gb332]? = some (.cells #[.string (⟨#[]⟩ : ByteArray), .int .i64 0, .int .i64 0] 202 (0, 0))) := ⟨bka_⟩
       have n1_ : zd_ ((((w22.setCell ⟨gb336, 0, none⟩ (.int .i64 t333)).setCell ⟨gb336, 1, none⟩ (.int .i64 t334)).setCell ⟨gb336, 2, none⟩ (.int .i64 t335)).heap[gb336]? = some (.cells #[.int .i64 t333, .int .i64 t334, .int .i64 t335] 199 (0, 0))) := ⟨bka_⟩
       have n2_ : zd_ (Below w.heap.size w (((w22.setCell ⟨gb336, 0, none⟩ (.int .i64 t333)).setCell ⟨gb336, 1, none⟩ (.int .i64 t334)).setCell ⟨gb336, 2, none⟩ (.int .i64 t335))) := ⟨bel_⟩
       (try clear BK332); (try clear BK336); (try clear HB)
       generalize (((w22.setCell ⟨gb336, 0, none⟩ (.int .i64 t333)).setCell ⟨gb336, 1, none⟩ (.int .i64 t334)).setCell ⟨gb336, 2, none⟩ (.int .i64 t335)) = w25 at n0_ n1_ n2_ ⊢
       have BK332 := n0_
       have BK336 := n1_
       have HB := n2_
       clear n0_ n1_ n2_
       (try (rw [xy_ w25]; generalize hq_ : World.drewN w25 _ = w25; replace BK332 : zd_ (w25.heap[gb332]? = some (.cells #[.string (⟨#[]⟩ : ByteArray), .int .i64 0, .int .i64 0] 202 (0, 0))) := ⟨by rw [← hq_]; exact (bk_ BK332.out)⟩; replace BK336 : zd_ (w25.heap[gb336]? = some (.cells #[.int .i64 t333, .int .i64 t334, .int .i64 t335] 199 (0, 0))) := ⟨by rw [← hq_]; exact (bk_ BK336.out)⟩; replace HB : zd_ (Below w.heap.size w w25) := ⟨by rw [← hq_]; exact bel_⟩; clear hq_))
       replace BK332 := AM (yU_ BK332.out)
       replace BK336 := AM (yU_ BK336.out)
       replace HB := AM (z1_ HB.out)
       refine xi_ (n := 9) (S := fun w' => w'.cell? ⟨gb336, 0, none⟩ = some (.int .i64 t333) ∧ w'.cell? ⟨gb336, 1, none⟩ = some (.int .i64 t334) ∧ w'.cell? ⟨gb336, 2, none⟩ = some (.int .i64 t335)) (ds := []) (Array.replicate 9 false) (by kernel_rfl) rfl rfl ⟨(zb_ BK336.out 0).trans rfl, (zb_ BK336.out 1).trans rfl, (zb_ BK336.out 2).trans rfl⟩ (fun hHeld => ?_); refine yu_ zX_.tab6 zX_.bits6 (fun HT_ HW_ => ?_)
       generalize w25.drew = w26 at BK332 BK336 HB hHeld ⊢
       refine pu_ HT_ 0 (some 23) (bA 9 1) ?_
       refine pu_ HT_ 2 (some 25) (bA 9 5) ?_
       refine pu_ HT_ 5 (some 28) (bA 9 37) ?_
       refine ta_ HT_ HW_ 1 (some 24) (bA 9 39) hHeld ?_
       refine ta_ HT_ HW_ 3 (some 26) (bA 9 47) hHeld ?_
       refine pu_ HT_ 4 (some 27) (bA 9 63) ?_
       refine on_ HT_ 6 (some 29) (bA 9 127) (fun K hK => ?_)
       refine go1_ Try.func128 #[.string a0] ?_
       with_reducible refine (yj_.calls a0 t338 _ A7.out).mono ?_
       rintro e w' ⟨rfl, ⟨nd, rfl⟩⟩
       refine ⟨_, rfl, ?_⟩
       refine hK.out _ _ ⟨(zb_ BK336.out 0).trans rfl, (zb_ BK336.out 1).trans rfl, (zb_ BK336.out 2).trans rfl⟩ (fun hHeld => ?_)
       clear hK K
       refine nm_ ?_
       refine pu_ HT_ 7 (some 30) (bA 9 255) ?_
       refine pu_ HT_ 8 (some 22) (bA 9 511) ?_
       refine dn_ HT_ ?_
       try go_wp2
       (try (rw [xy_ w26]; generalize hq_ : World.drewN w26 _ = w26; replace BK332 : zd_ (w26.heap[gb332]? = some (.cells #[.string (⟨#[]⟩ : ByteArray), .int .i64 0, .int .i64 0] 202 (0, 0))) := ⟨by rw [← hq_]; exact (bk_ BK332.out)⟩; replace BK336 : zd_ (w26.heap[gb336]? = some (.cells #[.int .i64 t333, .int .i64 t334, .int .i64 t335] 199 (0, 0))) := ⟨by rw [← hq_]; exact (bk_ BK336.out)⟩; replace HB : zd_ (Below w.heap.size w w26) := ⟨by rw [← hq_]; exact bel_⟩; clear hq_))
       replace BK332 := AM (yU_ BK332.out)
       replace BK336 := AM (yU_ BK336.out)
       replace HB := AM (z1_ HB.out)
       refine xi_ (n := 16) (S := fun w' => w'.cell? ⟨gb336, 0, none⟩ = some (.int .i64 t333) ∧ w'.cell? ⟨gb336, 1, none⟩ = some (.int .i64 t334) ∧ w'.cell? ⟨gb336, 2, none⟩ = some (.int .i64 t335)) (ds := []) (Array.replicate 16 false) (by kernel_rfl) rfl rfl ⟨(zb_ BK336.out 0).trans rfl, (zb_ BK336.out 1).trans rfl, (zb_ BK336.out 2).trans rfl⟩ (fun hHeld => ?_); refine yu_ zX_.tab8 zX_.bits8 (fun HT_ HW_ => ?_)
       generalize w26.drew = w27 at BK332 BK336 HB hHeld ⊢
       refine pu_ HT_ 0 (some 32) (bA 16 1) ?_
       refine pu_ HT_ 1 (some 33) (bA 16 3) ?_
       refine pu_ HT_ 3 (some 35) (bA 16 11) ?_
       refine pu_ HT_ 5 (some 37) (bA 16 43) ?_
       refine pu_ HT_ 9 (some 41) (bA 16 555) ?_
       refine pu_ HT_ 11 (some 43) (bA 16 2603) ?_
       refine ta_ HT_ HW_ 2 (some 34) (bA 16 2607) hHeld ?_
       refine ta_ HT_ HW_ 4 (some 36) (bA 16 2623) hHeld ?_
       refine ta_ HT_ HW_ 6 (some 38) (bA 16 2687) hHeld ?_
       refine pu_ HT_ 7 (some 39) (bA 16 2815) ?_
       refine pu_ HT_ 8 (some 40) (bA 16 3071) ?_
       refine ta_ HT_ HW_ 10 (some 42) (bA 16 4095) hHeld ?_
       refine ta_ HT_ HW_ 12 (some 44) (bA 16 8191) hHeld ?_
       refine pu_ HT_ 13 (some 45) (bA 16 16383) ?_
       refine pu_ HT_ 14 (some 46) (bA 16 32767) ?_
       refine on_ HT_ 15 none (bA 16 65535) (fun K hK => ?_)
       have hs28 : w27.cell? ⟨gb332, 0, none⟩ = some (.string (⟨#[]⟩ : ByteArray)) := (zb_ BK332.out 0).trans rfl
       have hfs28 := za_ BK332.out 0
       have hns28_1 := NB336_332.out
       have hms28_1 := NB332_336.out
       have hs29 : w27.cell? ⟨gb332, 1, none⟩ = some (.int .i64 0) := (zb_ BK332.out 1).trans rfl
       have hfs29 := za_ BK332.out 1
       have hns29_1 := NB336_332.out
       have hms29_1 := NB332_336.out
       have hs30 : w27.cell? ⟨gb332, 2, none⟩ = some (.int .i64 0) := (zb_ BK332.out 2).trans rfl
       have hfs30 := za_ BK332.out 2
       have hns30_1 := NB336_332.out
       have hms30_1 := NB332_336.out
       refine sk_ ?_
       refine hK.out _ _ ⟨(by (rw [cell_far, cell_far, cell_far]) <;> first | exact hHeld.1 | exact NB336_332.out), (by (rw [cell_far, cell_far, cell_far]) <;> first | exact hHeld.2.1 | exact NB336_332.out), (by (rw [cell_far, cell_far, cell_far]) <;> first | exact hHeld.2.2 | exact NB336_332.out)⟩ (fun hHeld => ?_)
       clear hK K
       refine dn_ HT_ ?_
       try go_wp2
       refine bodyPost_ret (results_cell_row rfl _ _ gb332 202 #[.string (a0.extract (t334 : Int).toNat ((wrap64 (t334 + t333)) : Int).toNat), .int .i64 (wrap64 (t334 + t333)), .int .i64 0] (0, 0) _ rfl bka_ Try.underlying202 rfl (by kernel_rfl)) rfl ?_
       exact ⟨ri_, bel_⟩
      ·
       rw [if_neg c19] at H
       exact absurd H (by simp)
     ·
      rw [if_neg c18] at H
      exact absurd H (by simp)
    ·
     rw [if_neg c17] at H
     exact absurd H (by simp)
  ·
   replace c6 := Bool.eq_false_iff.mpr c6
   subst c6
   rw [if_neg (show ¬ (false = true) by decide)] at H
   simp only [Option.some.injEq, Prod.mk.injEq] at H
   obtain ⟨rfl, rfl, rfl⟩ := H
   go_enter Try.func161, Try.ntmps161
   go_wp2_with (first | ((with_reducible refine z6_ (N := 4) rfl ?_); refine be_ 4 #[.string (⟨#[]⟩ : ByteArray), .int .i64 0, .int .i64 0] 202 ?_; intro gb332 hg w31 hbox hb; have BK332 := AM hbox; have GW332 := AM ((by rw [hg]; exact (zj_ bel_) : w.heap.size ≤ gb332)); have GE332 := AM ((by rw [hg]; exact (zj_ bel_) : w.heap.size ≤ gb332)); replace HB := AM (zg_ bel_ hb); clear hb hbox hg) | ((with_reducible refine zl_ (f := 160) rfl ?_); refine gl_ (some 8) Try.func160 #[.string a0, .int .i64 a1] ?_; (with_reducible refine (zr_.calls k a0 a1 t333 t334 t335 _ A3.out).mono ?_); rintro e w32 ⟨rfl, hb⟩; refine ⟨_, rfl, ?_⟩; replace BK332 := AM (zP_ (g := gb332) (o := .cells #[.string (⟨#[]⟩ : ByteArray), .int .i64 0, .int .i64 0] 202 (0, 0)) (bk_ BK332.out) hb); replace HB := AM (zg_ bel_ hb); (try clear hb)) | ((with_reducible refine z6_ (N := 5) rfl ?_); refine be_ 5 #[.int .i64 0, .int .i64 0, .int .i64 0] 199 ?_; intro gb336 hg w33 hbox hb; have BK336 := AM hbox; have GW336 := AM ((by rw [hg]; exact (zj_ bel_) : w.heap.size ≤ gb336)); have GE336 := AM ((by rw [hg]; exact (zj_ bel_) : w.heap.size ≤ gb336)); replace HB := AM (zg_ bel_ hb); have NB332_336 := AM ((by rw [hg]; exact Nat.ne_of_lt (yS_ (g := gb332) (o := .cells #[.string (⟨#[]⟩ : ByteArray), .int .i64 0, .int .i64 0] 202 (0, 0)) (bk_ BK332.out)) : gb332 ≠ gb336)); have NB336_332 := AM ((by rw [hg]; exact Nat.ne_of_gt (yS_ (g := gb332) (o := .cells #[.string (⟨#[]⟩ : ByteArray), .int .i64 0, .int .i64 0] 202 (0, 0)) (bk_ BK332.out)) : gb336 ≠ gb332)); replace BK332 := AM (zP_ (g := gb332) (o := .cells #[.string (⟨#[]⟩ : ByteArray), .int .i64 0, .int .i64 0] 202 (0, 0)) (bk_ BK332.out) hb); clear hb hbox hg; have hnb34 := NB336_332.out; have hnc34 := NB332_336.out; have hcz35_0 : w33.cell? ⟨gb336, 0, none⟩ = some (.int .i64 0) := (zb_ BK336.out 0).trans rfl; have hcz35_1 : w33.cell? ⟨gb336, 1, none⟩ = some (.int .i64 0) := (zb_ BK336.out 1).trans rfl; have hcz35_2 : w33.cell? ⟨gb336, 2, none⟩ = some (.int .i64 0) := (zb_ BK336.out 2).trans rfl; have hfz35_0 := za_ BK336.out 0; have hfz35_1 := za_ BK336.out 1; have hfz35_2 := za_ BK336.out 2) | ((with_reducible refine zl_ (f := 61) rfl ?_); refine gl_ (some 19) Try.func61 #[.int .i64 t333, .int .i64 0, .int .i64 20000] ?_; (with_reducible refine (yg_.calls t333 0 20000 false _ A5.out).mono ?_); rintro e w' ⟨rfl, ⟨nd, rfl⟩⟩; refine ⟨_, rfl, ?_⟩; have hcz36_0 : w33.cell? ⟨gb332, 0, none⟩ = some (.string (⟨#[]⟩ : ByteArray)) := (zb_ BK332.out 0).trans rfl; have hcz36_1 : w33.cell? ⟨gb332, 1, none⟩ = some (.int .i64 0) := (zb_ BK332.out 1).trans rfl; have hcz36_2 : w33.cell? ⟨gb332, 2, none⟩ = some (.int .i64 0) := (zb_ BK332.out 2).trans rfl; have hfz36_0 := za_ BK332.out 0; have hfz36_1 := za_ BK332.out 1; have hfz36_2 := za_ BK332.out 2))
   refine bodyPost_ret (results_cell_row rfl _ _ gb332 202 #[.string (⟨#[]⟩ : ByteArray), .int .i64 0, .int .i64 3] (0, 0) _ rfl bka_ Try.underlying202 rfl (by kernel_rfl)) rfl ?_
   exact ⟨ri_, bel_⟩
 ·
  rw [if_neg c4] at H
  have c4b0 : (t335 == 0) = false := beq_eq_false_iff_ne.mpr c4
  have c4b1 : (t335 != 0) = true := bne_iff_ne.mpr c4
  simp only [Option.some.injEq, Prod.mk.injEq] at H
  obtain ⟨rfl, rfl, rfl⟩ := H
  go_enter Try.func161, Try.ntmps161
  go_wp2_with (first | ((with_reducible refine z6_ (N := 4) rfl ?_); refine be_ 4 #[.string (⟨#[]⟩ : ByteArray), .int .i64 0, .int .i64 0] 202 ?_; intro gb332 hg w37 hbox hb; have BK332 := AM hbox; have GW332 := AM ((by rw [hg]; exact (zj_ bel_) : w.heap.size ≤ gb332)); have GE332 := AM ((by rw [hg]; exact (zj_ bel_) : w.heap.size ≤ gb332)); replace HB := AM (zg_ bel_ hb); clear hb hbox hg) | ((with_reducible refine zl_ (f := 160) rfl ?_); refine gl_ (some 8) Try.func160 #[.string a0, .int .i64 a1] ?_; (with_reducible refine (zr_.calls k a0 a1 t333 t334 t335 _ A3.out).mono ?_); rintro e w38 ⟨rfl, hb⟩; refine ⟨_, rfl, ?_⟩; replace BK332 := AM (zP_ (g := gb332) (o := .cells #[.string (⟨#[]⟩ : ByteArray), .int .i64 0, .int .i64 0] 202 (0, 0)) (bk_ BK332.out) hb); replace HB := AM (zg_ bel_ hb); (try clear hb)) | ((with_reducible refine z6_ (N := 5) rfl ?_); refine be_ 5 #[.int .i64 0, .int .i64 0, .int .i64 0] 199 ?_; intro gb336 hg w39 hbox hb; have BK336 := AM hbox; have GW336 := AM ((by rw [hg]; exact (zj_ bel_) : w.heap.size ≤ gb336)); have GE336 := AM ((by rw [hg]; exact (zj_ bel_) : w.heap.size ≤ gb336)); replace HB := AM (zg_ bel_ hb); have NB332_336 := AM ((by rw [hg]; exact Nat.ne_of_lt (yS_ (g := gb332) (o := .cells #[.string (⟨#[]⟩ : ByteArray), .int .i64 0, .int .i64 0] 202 (0, 0)) (bk_ BK332.out)) : gb332 ≠ gb336)); have NB336_332 := AM ((by rw [hg]; exact Nat.ne_of_gt (yS_ (g := gb332) (o := .cells #[.string (⟨#[]⟩ : ByteArray), .int .i64 0, .int .i64 0] 202 (0, 0)) (bk_ BK332.out)) : gb336 ≠ gb332)); replace BK332 := AM (zP_ (g := gb332) (o := .cells #[.string (⟨#[]⟩ : ByteArray), .int .i64 0, .int .i64 0] 202 (0, 0)) (bk_ BK332.out) hb); clear hb hbox hg; have hnb40 := NB336_332.out; have hnc40 := NB332_336.out; have hcz41_0 : w39.cell? ⟨gb336, 0, none⟩ = some (.int .i64 0) := (zb_ BK336.out 0).trans rfl; have hcz41_1 : w39.cell? ⟨gb336, 1, none⟩ = some (.int .i64 0) := (zb_ BK336.out 1).trans rfl; have hcz41_2 : w39.cell? ⟨gb336, 2, none⟩ = some (.int .i64 0) := (zb_ BK336.out 2).trans rfl; have hfz41_0 := za_ BK336.out 0; have hfz41_1 := za_ BK336.out 1; have hfz41_2 := za_ BK336.out 2; have hcz42_0 : w39.cell? ⟨gb332, 0, none⟩ = some (.string (⟨#[]⟩ : ByteArray)) := (zb_ BK332.out 0).trans rfl; have hcz42_1 : w39.cell? ⟨gb332, 1, none⟩ = some (.int .i64 0) := (zb_ BK332.out 1).trans rfl; have hcz42_2 : w39.cell? ⟨gb332, 2, none⟩ = some (.int .i64 0) := (zb_ BK332.out 2).trans rfl; have hfz42_0 := za_ BK332.out 0; have hfz42_1 := za_ BK332.out 1; have hfz42_2 := za_ BK332.out 2))
  refine bodyPost_ret (results_cell_row rfl _ _ gb332 202 #[.string (⟨#[]⟩ : ByteArray), .int .i64 0, .int .i64 t335] (0, 0) _ rfl bka_ Try.underlying202 rfl (by kernel_rfl)) rfl ?_
  exact ⟨ri_, bel_⟩
/-! ### zJ_: function 82 -/
def zJ_.f (k : Nat) (s0_0 : ByteArray) (s0_1 : Int) (s0_2 : Bool) : Option (ByteArray × ByteArray × Int × Bool) := (zX_.f k s0_0 s0_1).bind fun bt339 => (if s0_2 = true then (some ((⟨#[]⟩ : ByteArray), s0_0, s0_1, true)) else (if bt339.2.2 = 0 then (some (bt339.1, s0_0, bt339.2.1, s0_2)) else (some ((⟨#[]⟩ : ByteArray), s0_0, s0_1, true))))
theorem zJ_.mono : ∀ a0 a1 a2 k, LeO (zJ_.f k a0 a1 a2) (zJ_.f (k + 1) a0 a1 a2) := by
 intro a0 a1 a2 k
 unfold zJ_.f
 repeat' with_reducible first | exact zX_.mono _ _ _ | exact LeO.refl _ | exact LeO.none _ | refine LeO.ite ?_ ?_ | refine LeO.bind ?_ (fun _ => ?_)
def zJ_.T1 : Bool × List (List Nat × List Nat) := (true, [([], []), ([0], [0]), ([1], [1]), ([2], [2]), ([], []), ([4], [4]), ([5], [5]), ([6], [6]), ([3, 7], [3, 7]), ([], []), ([9, 8, 8, 0, 1, 2, 3, 4, 5, 6, 7, 8, 9], [8, 9])])
def zJ_.B1 : List Nat := [0, 1, 3, 7, 0, 16, 48, 112, 255, 0, 1023]
theorem zJ_.tab1 : rtab .any (opsOf Try.f82 1) = zJ_.T1 := by kernel_rfl
theorem zJ_.bits1 : xe_ zJ_.T1.2 zJ_.B1 = true := by kernel_rfl
theorem zJ_.calls (k : Nat) (g : Nat) (s0_0 : ByteArray) (s0_1 : Int) (s0_2 : Bool) (r1 : ByteArray) (r2 : ByteArray) (r3 : Int) (r4 : Bool) (w0 w : World) (hI : zk_ w0 w g s0_0 s0_1 s0_2) (hB : Below w0.heap.size w0 w) (h : zJ_.f k s0_0 s0_1 s0_2 = some (r1, r2, r3, r4)) :
 Calls Try.prog 82 #[.pointer (some ⟨g, 0, none⟩)] w fun e w' => e = .returned (.string r1) ∧ zk_ w0 w' g r2 r3 r4 ∧ Below w0.heap.size w0 w' ∧ zs_ w w' g none := by
 have hu202 := Try.underlying202
 have HI0 := AM hI
 have HK := AM (zs_.refl w g none)
 have HL := AM hB.size
 clear hI
 have HW0 := AM hB.size
 have HB := AM hB
 clear hB
 have H : ((zX_.f k s0_0 s0_1).bind fun bt339 => (if s0_2 = true then (some ((⟨#[]⟩ : ByteArray), s0_0, s0_1, true)) else (if bt339.2.2 = 0 then (some (bt339.1, s0_0, bt339.2.1, s0_2)) else (some ((⟨#[]⟩ : ByteArray), s0_0, s0_1, true))))) = some (r1, r2, r3, r4) := h
 clear h
 obtain ⟨⟨t339, t340, t341⟩, A2, H⟩ := OB H
 try dsimp only at H
 replace A2 := AM A2
 by_cases c3 : s0_2 = true
 ·
  subst c3
  rw [if_pos rfl] at H
  simp only [Option.some.injEq, Prod.mk.injEq] at H
  obtain ⟨rfl, rfl, rfl, rfl⟩ := H
  go_enter Try.func82, Try.ntmps82
  try go_wp2
  replace HI0 := AM (zk_.drew HI0.out)
  replace HK := AM (yZ_ HK.out)
  replace HB := AM (z1_ HB.out)
  refine xi_ (n := 11) (S := fun w' => w'.cell? ⟨g, 0, none⟩ = some (.string s0_0) ∧ w'.cell? ⟨g, 1, none⟩ = some (.int .i64 s0_1) ∧ w'.cell? ⟨g, 2, none⟩ = some (.bool true)) (ds := []) (Array.replicate 11 false) (by kernel_rfl) rfl rfl ⟨(zU_ HI0.out.1), (zT_ HI0.out.1), (zS_ HI0.out.1)⟩ (fun hHeld => ?_); refine yu_ zJ_.tab1 zJ_.bits1 (fun HT_ HW_ => ?_)
  generalize w.drew = w4 at HI0 HK HB hHeld ⊢
  refine pu_ HT_ 0 (some 4) (bA 11 1) ?_
  refine pu_ HT_ 1 (some 5) (bA 11 3) ?_
  refine pu_ HT_ 2 (some 6) (bA 11 7) ?_
  refine pu_ HT_ 4 (some 8) (bA 11 23) ?_
  refine pu_ HT_ 5 (some 9) (bA 11 55) ?_
  refine pu_ HT_ 6 (some 10) (bA 11 119) ?_
  refine ta_ HT_ HW_ 3 (some 7) (bA 11 127) hHeld ?_
  refine ta_ HT_ HW_ 7 (some 11) (bA 11 255) hHeld ?_
  refine join_ (σ := Nat) 1 #[true, true, true, true, true, true, true, true, true, true, false] (fun s_ => [(12, .agg #[.string t339, .int .i64 t340, .int .i64 t341]), (3, .pointer (some ⟨s_, 0, none⟩))]) (fun s_ w' => (w'.cell? ⟨g, 0, none⟩ = some (.string s0_0) ∧ w'.cell? ⟨g, 1, none⟩ = some (.int .i64 s0_1) ∧ w'.cell? ⟨g, 2, none⟩ = some (.bool true)) ∧ (w'.heap[s_]? = some (.cells #[.string (⟨#[]⟩ : ByteArray), .int .i64 0, .int .i64 0] 202 (0, 0))) ∧ (w.heap.size ≤ s_) ∧ (w0.heap.size ≤ s_) ∧ (g ≠ s_) ∧ (s_ ≠ g) ∧ (zk_ w0 w' g s0_0 s0_1 true) ∧ (zs_ w w' g none) ∧ (Below w0.heap.size w0 w')) ?_ ?_
  rotate_left
  ·
   intro hCont
   refine tw_ HT_ 8 9 (some 12) (some 3) (bA 11 511) (bA 11 767) (fun K hK => ?_) (fun K hK => ?_)
   ·
    skip
    refine go1_ Try.func161 #[.string s0_0, .int .i64 s0_1] ?_
    with_reducible refine (zX_.calls k s0_0 s0_1 t339 t340 t341 _ A2.out).mono ?_
    rintro e w5 ⟨rfl, hb⟩
    refine ⟨_, rfl, ?_⟩
    replace HK := AM (kb_ w g hb)
    replace HB := AM (zg_ (belg_ (zk_.ge HI0.out)) hb)
    replace HI0 := AM (zk_.below zV_ hb)
    (try clear hb)
    refine hK.out _ _ ⟨(zU_ HI0.out.1), (zT_ HI0.out.1), (zS_ HI0.out.1)⟩ (fun hHeld => ?_)
    clear hK K
    refine nm_ ?_
    refine on_ HT_ 9 (some 3) (bA 11 1023) (fun K hK => ?_)
    refine bs_ 3 #[.string (⟨#[]⟩ : ByteArray), .int .i64 0, .int .i64 0] 202 ?_
    intro gb342 hg w6 hbox hb
    replace HB := AM (zg_ (belg_ (zk_.ge HI0.out)) hb)
    have BK342 := AM hbox
    have GW342 := AM ((by rw [hg]; exact (zF_ (w := w) (g := g) (row := none) kp_) : w.heap.size ≤ gb342))
    have GE342 := AM ((Nat.le_trans HW0.out (by rw [hg]; exact (zF_ (w := w) (g := g) (row := none) kp_) : w.heap.size ≤ gb342) : w0.heap.size ≤ gb342))
    replace HK := AM (kb_ w g hb)
    have NB0_342 := AM ((by rw [hg]; exact Nat.ne_of_lt (zk_.lt (show zk_ w0 _ g s0_0 s0_1 true from zV_)) : g ≠ gb342))
    have NB342_0 := AM ((by rw [hg]; exact Nat.ne_of_gt (zk_.lt (show zk_ w0 _ g s0_0 s0_1 true from zV_)) : gb342 ≠ g))
    replace HI0 := AM (zk_.below zV_ hb)
    clear hb hbox hg
    refine hK.out _ _ ⟨(zU_ HI0.out.1), (zT_ HI0.out.1), (zS_ HI0.out.1)⟩ (fun hHeld => ?_)
    clear hK K
    refine nm_ ?_
    exact nmE_ (hCont (gb342) _ ⟨hHeld, (bk_ BK342.out), GW342.out, GE342.out, NB0_342.out, NB342_0.out, zV_, kp_, (belg_ (zk_.ge HI0.out))⟩)
   ·
    skip
    refine bs_ 3 #[.string (⟨#[]⟩ : ByteArray), .int .i64 0, .int .i64 0] 202 ?_
    intro gb342 hg w5 hbox hb
    replace HB := AM (zg_ (belg_ (zk_.ge HI0.out)) hb)
    have BK342 := AM hbox
    have GW342 := AM ((by rw [hg]; exact (zF_ (w := w) (g := g) (row := none) kp_) : w.heap.size ≤ gb342))
    have GE342 := AM ((Nat.le_trans HW0.out (by rw [hg]; exact (zF_ (w := w) (g := g) (row := none) kp_) : w.heap.size ≤ gb342) : w0.heap.size ≤ gb342))
    replace HK := AM (kb_ w g hb)
    have NB0_342 := AM ((by rw [hg]; exact Nat.ne_of_lt (zk_.lt (show zk_ w0 _ g s0_0 s0_1 true from zV_)) : g ≠ gb342))
    have NB342_0 := AM ((by rw [hg]; exact Nat.ne_of_gt (zk_.lt (show zk_ w0 _ g s0_0 s0_1 true from zV_)) : gb342 ≠ g))
    replace HI0 := AM (zk_.below zV_ hb)
    clear hb hbox hg
    refine hK.out _ _ ⟨(zU_ HI0.out.1), (zT_ HI0.out.1), (zS_ HI0.out.1)⟩ (fun hHeld => ?_)
    clear hK K
    refine nm_ ?_
    refine on_ HT_ 8 (some 12) (bA 11 1023) (fun K hK => ?_)
    refine go1_ Try.func161 #[.string s0_0, .int .i64 s0_1] ?_
    with_reducible refine (zX_.calls k s0_0 s0_1 t339 t340 t341 _ A2.out).mono ?_
    rintro e w6 ⟨rfl, hb⟩
    refine ⟨_, rfl, ?_⟩
    replace BK342 := AM (zP_ (g := gb342) (o := .cells #[.string (⟨#[]⟩ : ByteArray), .int .i64 0, .int .i64 0] 202 (0, 0)) (bk_ BK342.out) hb)
    replace HK := AM (kb_ w g hb)
    replace HB := AM (zg_ (belg_ (zk_.ge HI0.out)) hb)
    replace HI0 := AM (zk_.below zV_ hb)
    (try clear hb)
    refine hK.out _ _ ⟨(zU_ HI0.out.1), (zT_ HI0.out.1), (zS_ HI0.out.1)⟩ (fun hHeld => ?_)
    clear hK K
    refine nm_ ?_
    exact nmE_ (hCont (gb342) _ ⟨hHeld, (bk_ BK342.out), GW342.out, GE342.out, NB0_342.out, NB342_0.out, zV_, kp_, (belg_ (zk_.ge HI0.out))⟩)
  rintro gb342 w7 ⟨hS_, h0_, h1_, h2_, h3_, h4_, h5_, h6_, h7_⟩
  have BK342 : zd_ (w7.heap[gb342]? = some (.cells #[.string (⟨#[]⟩ : ByteArray), .int .i64 0, .int .i64 0] 202 (0, 0))) := ⟨h0_⟩
  have GW342 : zd_ (w.heap.size ≤ gb342) := ⟨h1_⟩
  have GE342 : zd_ (w0.heap.size ≤ gb342) := ⟨h2_⟩
  have NB0_342 : zd_ (g ≠ gb342) := ⟨h3_⟩
  have NB342_0 : zd_ (gb342 ≠ g) := ⟨h4_⟩
  replace HI0 : zd_ (zk_ w0 w7 g s0_0 s0_1 true) := ⟨h5_⟩
  replace HK : zd_ (zs_ w w7 g none) := ⟨h6_⟩
  replace HB : zd_ (Below w0.heap.size w0 w7) := ⟨h7_⟩
  clear h0_ h1_ h2_ h3_ h4_ h5_ h6_ h7_
  have hHeld : w7.cell? ⟨g, 0, none⟩ = some (.string s0_0) ∧ w7.cell? ⟨g, 1, none⟩ = some (.int .i64 s0_1) ∧ w7.cell? ⟨g, 2, none⟩ = some (.bool true) := hS_
  refine nmA_ ?_
  refine on_ HT_ 10 none (bA 11 2047) (fun K hK => ?_)
  have hs8 : w7.cell? ⟨gb342, 0, none⟩ = some (.string (⟨#[]⟩ : ByteArray)) := (zb_ BK342.out 0).trans rfl
  have hfs8 := za_ BK342.out 0
  have hs9 : w7.cell? ⟨gb342, 1, none⟩ = some (.int .i64 0) := (zb_ BK342.out 1).trans rfl
  have hfs9 := za_ BK342.out 1
  have hs10 : w7.cell? ⟨gb342, 2, none⟩ = some (.int .i64 0) := (zb_ BK342.out 2).trans rfl
  have hfs10 := za_ BK342.out 2
  refine sk_ ?_
  refine hK.out _ _ ⟨(by (rw [cell_far, cell_far, cell_far]) <;> first | exact hHeld.1 | exact NB0_342.out), (by (rw [cell_far, cell_far, cell_far]) <;> first | exact hHeld.2.1 | exact NB0_342.out), (by (rw [cell_far, cell_far, cell_far]) <;> first | exact hHeld.2.2 | exact NB0_342.out)⟩ (fun hHeld => ?_)
  clear hK K
  refine dn_ HT_ ?_
  obtain ⟨HGz11, hgz11⟩ := HI0.out
  have hcz11_0 := zU_ HGz11
  have hcz11_1 := zT_ HGz11
  have hcz11_2 := zS_ HGz11
  have hfz11_0 := za_ HGz11 0
  have hfz11_1 := za_ HGz11 1
  have hfz11_2 := za_ HGz11 2
  clear HGz11 hgz11
  try go_wp2
  go_ret
  exact ⟨ri_, zV_, belg_ (zk_.ge HI0.out), kp_⟩
 ·
  replace c3 := Bool.eq_false_iff.mpr c3
  subst c3
  rw [if_neg (show ¬ (false = true) by decide)] at H
  by_cases c12 : t341 = 0
  ·
   rw [if_pos c12] at H
   have c12b0 : (t341 == 0) = true := beq_iff_eq.mpr c12
   have c12b1 : (t341 != 0) = false := bne_eq_false_iff_eq.mpr c12
   clear c12
   simp only [Option.some.injEq, Prod.mk.injEq] at H
   obtain ⟨rfl, rfl, rfl, rfl⟩ := H
   go_enter Try.func82, Try.ntmps82
   try go_wp2
   replace HI0 := AM (zk_.drew HI0.out)
   replace HK := AM (yZ_ HK.out)
   replace HB := AM (z1_ HB.out)
   refine xi_ (n := 11) (S := fun w' => w'.cell? ⟨g, 0, none⟩ = some (.string s0_0) ∧ w'.cell? ⟨g, 1, none⟩ = some (.int .i64 s0_1) ∧ w'.cell? ⟨g, 2, none⟩ = some (.bool false)) (ds := []) (Array.replicate 11 false) (by kernel_rfl) rfl rfl ⟨(zU_ HI0.out.1), (zT_ HI0.out.1), (zS_ HI0.out.1)⟩ (fun hHeld => ?_); refine yu_ zJ_.tab1 zJ_.bits1 (fun HT_ HW_ => ?_)
   generalize w.drew = w13 at HI0 HK HB hHeld ⊢
   refine pu_ HT_ 0 (some 4) (bA 11 1) ?_
   refine pu_ HT_ 1 (some 5) (bA 11 3) ?_
   refine pu_ HT_ 2 (some 6) (bA 11 7) ?_
   refine pu_ HT_ 4 (some 8) (bA 11 23) ?_
   refine pu_ HT_ 5 (some 9) (bA 11 55) ?_
   refine pu_ HT_ 6 (some 10) (bA 11 119) ?_
   refine ta_ HT_ HW_ 3 (some 7) (bA 11 127) hHeld ?_
   refine ta_ HT_ HW_ 7 (some 11) (bA 11 255) hHeld ?_
   refine join_ (σ := Nat) 1 #[true, true, true, true, true, true, true, true, true, true, false] (fun s_ => [(12, .agg #[.string t339, .int .i64 t340, .int .i64 t341]), (3, .pointer (some ⟨s_, 0, none⟩))]) (fun s_ w' => (w'.cell? ⟨g, 0, none⟩ = some (.string s0_0) ∧ w'.cell? ⟨g, 1, none⟩ = some (.int .i64 s0_1) ∧ w'.cell? ⟨g, 2, none⟩ = some (.bool false)) ∧ (w'.heap[s_]? = some (.cells #[.string (⟨#[]⟩ : ByteArray), .int .i64 0, .int .i64 0] 202 (0, 0))) ∧ (w.heap.size ≤ s_) ∧ (w0.heap.size ≤ s_) ∧ (g ≠ s_) ∧ (s_ ≠ g) ∧ (zk_ w0 w' g s0_0 s0_1 false) ∧ (zs_ w w' g none) ∧ (Below w0.heap.size w0 w')) ?_ ?_
   rotate_left
   ·
    intro hCont
    refine tw_ HT_ 8 9 (some 12) (some 3) (bA 11 511) (bA 11 767) (fun K hK => ?_) (fun K hK => ?_)
    ·
     skip
     refine go1_ Try.func161 #[.string s0_0, .int .i64 s0_1] ?_
     with_reducible refine (zX_.calls k s0_0 s0_1 t339 t340 t341 _ A2.out).mono ?_
     rintro e w14 ⟨rfl, hb⟩
     refine ⟨_, rfl, ?_⟩
     replace HK := AM (kb_ w g hb)
     replace HB := AM (zg_ (belg_ (zk_.ge HI0.out)) hb)
     replace HI0 := AM (zk_.below zV_ hb)
     (try clear hb)
     refine hK.out _ _ ⟨(zU_ HI0.out.1), (zT_ HI0.out.1), (zS_ HI0.out.1)⟩ (fun hHeld => ?_)
     clear hK K
     refine nm_ ?_
     refine on_ HT_ 9 (some 3) (bA 11 1023) (fun K hK => ?_)
     refine bs_ 3 #[.string (⟨#[]⟩ : ByteArray), .int .i64 0, .int .i64 0] 202 ?_
     intro gb342 hg w15 hbox hb
     replace HB := AM (zg_ (belg_ (zk_.ge HI0.out)) hb)
     have BK342 := AM hbox
     have GW342 := AM ((by rw [hg]; exact (zF_ (w := w) (g := g) (row := none) kp_) : w.heap.size ≤ gb342))
     have GE342 := AM ((Nat.le_trans HW0.out (by rw [hg]; exact (zF_ (w := w) (g := g) (row := none) kp_) : w.heap.size ≤ gb342) : w0.heap.size ≤ gb342))
     replace HK := AM (kb_ w g hb)
     have NB0_342 := AM ((by rw [hg]; exact Nat.ne_of_lt (zk_.lt (show zk_ w0 _ g s0_0 s0_1 false from zV_)) : g ≠ gb342))
     have NB342_0 := AM ((by rw [hg]; exact Nat.ne_of_gt (zk_.lt (show zk_ w0 _ g s0_0 s0_1 false from zV_)) : gb342 ≠ g))
     replace HI0 := AM (zk_.below zV_ hb)
     clear hb hbox hg
     refine hK.out _ _ ⟨(zU_ HI0.out.1), (zT_ HI0.out.1), (zS_ HI0.out.1)⟩ (fun hHeld => ?_)
     clear hK K
     refine nm_ ?_
     exact nmE_ (hCont (gb342) _ ⟨hHeld, (bk_ BK342.out), GW342.out, GE342.out, NB0_342.out, NB342_0.out, zV_, kp_, (belg_ (zk_.ge HI0.out))⟩)
    ·
     skip
     refine bs_ 3 #[.string (⟨#[]⟩ : ByteArray), .int .i64 0, .int .i64 0] 202 ?_
     intro gb342 hg w14 hbox hb
     replace HB := AM (zg_ (belg_ (zk_.ge HI0.out)) hb)
     have BK342 := AM hbox
     have GW342 := AM ((by rw [hg]; exact (zF_ (w := w) (g := g) (row := none) kp_) : w.heap.size ≤ gb342))
     have GE342 := AM ((Nat.le_trans HW0.out (by rw [hg]; exact (zF_ (w := w) (g := g) (row := none) kp_) : w.heap.size ≤ gb342) : w0.heap.size ≤ gb342))
     replace HK := AM (kb_ w g hb)
     have NB0_342 := AM ((by rw [hg]; exact Nat.ne_of_lt (zk_.lt (show zk_ w0 _ g s0_0 s0_1 false from zV_)) : g ≠ gb342))
     have NB342_0 := AM ((by rw [hg]; exact Nat.ne_of_gt (zk_.lt (show zk_ w0 _ g s0_0 s0_1 false from zV_)) : gb342 ≠ g))
     replace HI0 := AM (zk_.below zV_ hb)
     clear hb hbox hg
     refine hK.out _ _ ⟨(zU_ HI0.out.1), (zT_ HI0.out.1), (zS_ HI0.out.1)⟩ (fun hHeld => ?_)
     clear hK K
     refine nm_ ?_
     refine on_ HT_ 8 (some 12) (bA 11 1023) (fun K hK => ?_)
     refine go1_ Try.func161 #[.string s0_0, .int .i64 s0_1] ?_
     with_reducible refine (zX_.calls k s0_0 s0_1 t339 t340 t341 _ A2.out).mono ?_
     rintro e w15 ⟨rfl, hb⟩
     refine ⟨_, rfl, ?_⟩
     replace BK342 := AM (zP_ (g := gb342) (o := .cells #[.string (⟨#[]⟩ : ByteArray), .int .i64 0, .int .i64 0] 202 (0, 0)) (bk_ BK342.out) hb)
     replace HK := AM (kb_ w g hb)
     replace HB := AM (zg_ (belg_ (zk_.ge HI0.out)) hb)
     replace HI0 := AM (zk_.below zV_ hb)
     (try clear hb)
     refine hK.out _ _ ⟨(zU_ HI0.out.1), (zT_ HI0.out.1), (zS_ HI0.out.1)⟩ (fun hHeld => ?_)
     clear hK K
     refine nm_ ?_
     exact nmE_ (hCont (gb342) _ ⟨hHeld, (bk_ BK342.out), GW342.out, GE342.out, NB0_342.out, NB342_0.out, zV_, kp_, (belg_ (zk_.ge HI0.out))⟩)
   rintro gb342 w16 ⟨hS_, h0_, h1_, h2_, h3_, h4_, h5_, h6_, h7_⟩
   have BK342 : zd_ (w16.heap[gb342]? = some (.cells #[.string (⟨#[]⟩ : ByteArray), .int .i64 0, .int .i64 0] 202 (0, 0))) := ⟨h0_⟩
   have GW342 : zd_ (w.heap.size ≤ gb342) := ⟨h1_⟩
   have GE342 : zd_ (w0.heap.size ≤ gb342) := ⟨h2_⟩
   have NB0_342 : zd_ (g ≠ gb342) := ⟨h3_⟩
   have NB342_0 : zd_ (gb342 ≠ g) := ⟨h4_⟩
   replace HI0 : zd_ (zk_ w0 w16 g s0_0 s0_1 false) := ⟨h5_⟩
   replace HK : zd_ (zs_ w w16 g none) := ⟨h6_⟩
   replace HB : zd_ (Below w0.heap.size w0 w16) := ⟨h7_⟩
   clear h0_ h1_ h2_ h3_ h4_ h5_ h6_ h7_
   have hHeld : w16.cell? ⟨g, 0, none⟩ = some (.string s0_0) ∧ w16.cell? ⟨g, 1, none⟩ = some (.int .i64 s0_1) ∧ w16.cell? ⟨g, 2, none⟩ = some (.bool false) := hS_
   refine nmA_ ?_
   refine on_ HT_ 10 none (bA 11 2047) (fun K hK => ?_)
   have hs17 : w16.cell? ⟨gb342, 0, none⟩ = some (.string (⟨#[]⟩ : ByteArray)) := (zb_ BK342.out 0).trans rfl
   have hfs17 := za_ BK342.out 0
   have hs18 : w16.cell? ⟨gb342, 1, none⟩ = some (.int .i64 0) := (zb_ BK342.out 1).trans rfl
   have hfs18 := za_ BK342.out 1
   have hs19 : w16.cell? ⟨gb342, 2, none⟩ = some (.int .i64 0) := (zb_ BK342.out 2).trans rfl
   have hfs19 := za_ BK342.out 2
   refine sk_ ?_
   refine hK.out _ _ ⟨(by (rw [cell_far, cell_far, cell_far]) <;> first | exact hHeld.1 | exact NB0_342.out), (by (rw [cell_far, cell_far, cell_far]) <;> first | exact hHeld.2.1 | exact NB0_342.out), (by (rw [cell_far, cell_far, cell_far]) <;> first | exact hHeld.2.2 | exact NB0_342.out)⟩ (fun hHeld => ?_)
   clear hK K
   refine dn_ HT_ ?_
   obtain ⟨HGz20, hgz20⟩ := HI0.out
   have hcz20_0 := zU_ HGz20
   have hcz20_1 := zT_ HGz20
   have hcz20_2 := zS_ HGz20
   have hfz20_0 := za_ HGz20 0
   have hfz20_1 := za_ HGz20 1
   have hfz20_2 := za_ HGz20 2
   clear HGz20 hgz20
   have hnb21 := NB342_0.out
   have hnc21 := NB0_342.out
   have hcz22_0 : w16.cell? ⟨gb342, 0, none⟩ = some (.string (⟨#[]⟩ : ByteArray)) := (zb_ BK342.out 0).trans rfl
   have hcz22_1 : w16.cell? ⟨gb342, 1, none⟩ = some (.int .i64 0) := (zb_ BK342.out 1).trans rfl
   have hcz22_2 : w16.cell? ⟨gb342, 2, none⟩ = some (.int .i64 0) := (zb_ BK342.out 2).trans rfl
   have hfz22_0 := za_ BK342.out 0
   have hfz22_1 := za_ BK342.out 1
   have hfz22_2 := za_ BK342.out 2
   try go_wp2
   go_ret
   exact ⟨ri_, zV_, belg_ (zk_.ge HI0.out), kp_⟩
  ·
   rw [if_neg c12] at H
   have c12b0 : (t341 == 0) = false := beq_eq_false_iff_ne.mpr c12
   have c12b1 : (t341 != 0) = true := bne_iff_ne.mpr c12
   simp only [Option.some.injEq, Prod.mk.injEq] at H
   obtain ⟨rfl, rfl, rfl, rfl⟩ := H
   go_enter Try.func82, Try.ntmps82
   try go_wp2
   replace HI0 := AM (zk_.drew HI0.out)
   replace HK := AM (yZ_ HK.out)
   replace HB := AM (z1_ HB.out)
   refine xi_ (n := 11) (S := fun w' => w'.cell? ⟨g, 0, none⟩ = some (.string s0_0) ∧ w'.cell? ⟨g, 1, none⟩ = some (.int .i64 s0_1) ∧ w'.cell? ⟨g, 2, none⟩ = some (.bool false)) (ds := []) (Array.replicate 11 false) (by kernel_rfl) rfl rfl ⟨(zU_ HI0.out.1), (zT_ HI0.out.1), (zS_ HI0.out.1)⟩ (fun hHeld => ?_); refine yu_ zJ_.tab1 zJ_.bits1 (fun HT_ HW_ => ?_)
   generalize w.drew = w23 at HI0 HK HB hHeld ⊢
   refine pu_ HT_ 0 (some 4) (bA 11 1) ?_
   refine pu_ HT_ 1 (some 5) (bA 11 3) ?_
   refine pu_ HT_ 2 (some 6) (bA 11 7) ?_
   refine pu_ HT_ 4 (some 8) (bA 11 23) ?_
   refine pu_ HT_ 5 (some 9) (bA 11 55) ?_
   refine pu_ HT_ 6 (some 10) (bA 11 119) ?_
   refine ta_ HT_ HW_ 3 (some 7) (bA 11 127) hHeld ?_
   refine ta_ HT_ HW_ 7 (some 11) (bA 11 255) hHeld ?_
   refine join_ (σ := Nat) 1 #[true, true, true, true, true, true, true, true, true, true, false] (fun s_ => [(12, .agg #[.string t339, .int .i64 t340, .int .i64 t341]), (3, .pointer (some ⟨s_, 0, none⟩))]) (fun s_ w' => (w'.cell? ⟨g, 0, none⟩ = some (.string s0_0) ∧ w'.cell? ⟨g, 1, none⟩ = some (.int .i64 s0_1) ∧ w'.cell? ⟨g, 2, none⟩ = some (.bool false)) ∧ (w'.heap[s_]? = some (.cells #[.string (⟨#[]⟩ : ByteArray), .int .i64 0, .int .i64 0] 202 (0, 0))) ∧ (w.heap.size ≤ s_) ∧ (w0.heap.size ≤ s_) ∧ (g ≠ s_) ∧ (s_ ≠ g) ∧ (zk_ w0 w' g s0_0 s0_1 false) ∧ (zs_ w w' g none) ∧ (Below w0.heap.size w0 w')) ?_ ?_
   rotate_left
   ·
    intro hCont
    refine tw_ HT_ 8 9 (some 12) (some 3) (bA 11 511) (bA 11 767) (fun K hK => ?_) (fun K hK => ?_)
    ·
     skip
     refine go1_ Try.func161 #[.string s0_0, .int .i64 s0_1] ?_
     with_reducible refine (zX_.calls k s0_0 s0_1 t339 t340 t341 _ A2.out).mono ?_
     rintro e w24 ⟨rfl, hb⟩
     refine ⟨_, rfl, ?_⟩
     replace HK := AM (kb_ w g hb)
     replace HB := AM (zg_ (belg_ (zk_.ge HI0.out)) hb)
     replace HI0 := AM (zk_.below zV_ hb)
     (try clear hb)
     refine hK.out _ _ ⟨(zU_ HI0.out.1), (zT_ HI0.out.1), (zS_ HI0.out.1)⟩ (fun hHeld => ?_)
     clear hK K
     refine nm_ ?_
     refine on_ HT_ 9 (some 3) (bA 11 1023) (fun K hK => ?_)
     refine bs_ 3 #[.string (⟨#[]⟩ : ByteArray), .int .i64 0, .int .i64 0] 202 ?_
     intro gb342 hg w25 hbox hb
     replace HB := AM (zg_ (belg_ (zk_.ge HI0.out)) hb)
     have BK342 := AM hbox
     have GW342 := AM ((by rw [hg]; exact (zF_ (w := w) (g := g) (row := none) kp_) : w.heap.size ≤ gb342))
     have GE342 := AM ((Nat.le_trans HW0.out (by rw [hg]; exact (zF_ (w := w) (g := g) (row := none) kp_) : w.heap.size ≤ gb342) : w0.heap.size ≤ gb342))
     replace HK := AM (kb_ w g hb)
     have NB0_342 := AM ((by rw [hg]; exact Nat.ne_of_lt (zk_.lt (show zk_ w0 _ g s0_0 s0_1 false from zV_)) : g ≠ gb342))
     have NB342_0 := AM ((by rw [hg]; exact Nat.ne_of_gt (zk_.lt (show zk_ w0 _ g s0_0 s0_1 false from zV_)) : gb342 ≠ g))
     replace HI0 := AM (zk_.below zV_ hb)
     clear hb hbox hg
     refine hK.out _ _ ⟨(zU_ HI0.out.1), (zT_ HI0.out.1), (zS_ HI0.out.1)⟩ (fun hHeld => ?_)
     clear hK K
     refine nm_ ?_
     exact nmE_ (hCont (gb342) _ ⟨hHeld, (bk_ BK342.out), GW342.out, GE342.out, NB0_342.out, NB342_0.out, zV_, kp_, (belg_ (zk_.ge HI0.out))⟩)
    ·
     skip
     refine bs_ 3 #[.string (⟨#[]⟩ : ByteArray), .int .i64 0, .int .i64 0] 202 ?_
     intro gb342 hg w24 hbox hb
     replace HB := AM (zg_ (belg_ (zk_.ge HI0.out)) hb)
     have BK342 := AM hbox
     have GW342 := AM ((by rw [hg]; exact (zF_ (w := w) (g := g) (row := none) kp_) : w.heap.size ≤ gb342))
     have GE342 := AM ((Nat.le_trans HW0.out (by rw [hg]; exact (zF_ (w := w) (g := g) (row := none) kp_) : w.heap.size ≤ gb342) : w0.heap.size ≤ gb342))
     replace HK := AM (kb_ w g hb)
     have NB0_342 := AM ((by rw [hg]; exact Nat.ne_of_lt (zk_.lt (show zk_ w0 _ g s0_0 s0_1 false from zV_)) : g ≠ gb342))
     have NB342_0 := AM ((by rw [hg]; exact Nat.ne_of_gt (zk_.lt (show zk_ w0 _ g s0_0 s0_1 false from zV_)) : gb342 ≠ g))
     replace HI0 := AM (zk_.below zV_ hb)
     clear hb hbox hg
     refine hK.out _ _ ⟨(zU_ HI0.out.1), (zT_ HI0.out.1), (zS_ HI0.out.1)⟩ (fun hHeld => ?_)
     clear hK K
     refine nm_ ?_
     refine on_ HT_ 8 (some 12) (bA 11 1023) (fun K hK => ?_)
     refine go1_ Try.func161 #[.string s0_0, .int .i64 s0_1] ?_
     with_reducible refine (zX_.calls k s0_0 s0_1 t339 t340 t341 _ A2.out).mono ?_
     rintro e w25 ⟨rfl, hb⟩
     refine ⟨_, rfl, ?_⟩
     replace BK342 := AM (zP_ (g := gb342) (o := .cells #[.string (⟨#[]⟩ : ByteArray), .int .i64 0, .int .i64 0] 202 (0, 0)) (bk_ BK342.out) hb)
     replace HK := AM (kb_ w g hb)
     replace HB := AM (zg_ (belg_ (zk_.ge HI0.out)) hb)
     replace HI0 := AM (zk_.below zV_ hb)
     (try clear hb)
     refine hK.out _ _ ⟨(zU_ HI0.out.1), (zT_ HI0.out.1), (zS_ HI0.out.1)⟩ (fun hHeld => ?_)
     clear hK K
     refine nm_ ?_
     exact nmE_ (hCont (gb342) _ ⟨hHeld, (bk_ BK342.out), GW342.out, GE342.out, NB0_342.out, NB342_0.out, zV_, kp_, (belg_ (zk_.ge HI0.out))⟩)
   rintro gb342 w26 ⟨hS_, h0_, h1_, h2_, h3_, h4_, h5_, h6_, h7_⟩
   have BK342 : zd_ (w26.heap[gb342]? = some (.cells #[.string (⟨#[]⟩ : ByteArray), .int .i64 0, .int .i64 0] 202 (0, 0))) := ⟨h0_⟩
   have GW342 : zd_ (w.heap.size ≤ gb342) := ⟨h1_⟩
   have GE342 : zd_ (w0.heap.size ≤ gb342) := ⟨h2_⟩
   have NB0_342 : zd_ (g ≠ gb342) := ⟨h3_⟩
   have NB342_0 : zd_ (gb342 ≠ g) := ⟨h4_⟩
   replace HI0 : zd_ (zk_ w0 w26 g s0_0 s0_1 false) := ⟨h5_⟩
   replace HK : zd_ (zs_ w w26 g none) := ⟨h6_⟩
   replace HB : zd_ (Below w0.heap.size w0 w26) := ⟨h7_⟩
   clear h0_ h1_ h2_ h3_ h4_ h5_ h6_ h7_
   have hHeld : w26.cell? ⟨g, 0, none⟩ = some (.string s0_0) ∧ w26.cell? ⟨g, 1, none⟩ = some (.int .i64 s0_1) ∧ w26.cell? ⟨g, 2, none⟩ = some (.bool false) := hS_
   refine nmA_ ?_
   refine on_ HT_ 10 none (bA 11 2047) (fun K hK => ?_)
   have hs27 : w26.cell? ⟨gb342, 0, none⟩ = some (.string (⟨#[]⟩ : ByteArray)) := (zb_ BK342.out 0).trans rfl
   have hfs27 := za_ BK342.out 0
   have hs28 : w26.cell? ⟨gb342, 1, none⟩ = some (.int .i64 0) := (zb_ BK342.out 1).trans rfl
   have hfs28 := za_ BK342.out 1
   have hs29 : w26.cell? ⟨gb342, 2, none⟩ = some (.int .i64 0) := (zb_ BK342.out 2).trans rfl
   have hfs29 := za_ BK342.out 2
   refine sk_ ?_
   refine hK.out _ _ ⟨(by (rw [cell_far, cell_far, cell_far]) <;> first | exact hHeld.1 | exact NB0_342.out), (by (rw [cell_far, cell_far, cell_far]) <;> first | exact hHeld.2.1 | exact NB0_342.out), (by (rw [cell_far, cell_far, cell_far]) <;> first | exact hHeld.2.2 | exact NB0_342.out)⟩ (fun hHeld => ?_)
   clear hK K
   refine dn_ HT_ ?_
   obtain ⟨HGz30, hgz30⟩ := HI0.out
   have hcz30_0 := zU_ HGz30
   have hcz30_1 := zT_ HGz30
   have hcz30_2 := zS_ HGz30
   have hfz30_0 := za_ HGz30 0
   have hfz30_1 := za_ HGz30 1
   have hfz30_2 := za_ HGz30 2
   clear HGz30 hgz30
   have hnb31 := NB342_0.out
   have hnc31 := NB0_342.out
   have hcz32_0 : w26.cell? ⟨gb342, 0, none⟩ = some (.string (⟨#[]⟩ : ByteArray)) := (zb_ BK342.out 0).trans rfl
   have hcz32_1 : w26.cell? ⟨gb342, 1, none⟩ = some (.int .i64 0) := (zb_ BK342.out 1).trans rfl
   have hcz32_2 : w26.cell? ⟨gb342, 2, none⟩ = some (.int .i64 0) := (zb_ BK342.out 2).trans rfl
   have hfz32_0 := za_ BK342.out 0
   have hfz32_1 := za_ BK342.out 1
   have hfz32_2 := za_ BK342.out 2
   try go_wp2
   go_ret
   exact ⟨ri_, zV_, belg_ (zk_.ge HI0.out), kp_⟩
/-! ### yt_: function 84 -/
def yt_.f (s0_0 : ByteArray) (s0_1 : Int) (s0_2 : Bool) : Option (Bool × ByteArray × Int × Bool) := if s0_2 = true then (some (false, s0_0, s0_1, s0_2)) else ((yj_.f s0_0).bind fun t343 => (some ((s0_1 == t343), s0_0, s0_1, s0_2)))
theorem yt_.calls (g : Nat) (s0_0 : ByteArray) (s0_1 : Int) (s0_2 : Bool) (r1 : Bool) (r2 : ByteArray) (r3 : Int) (r4 : Bool) (w0 w : World) (hI : zk_ w0 w g s0_0 s0_1 s0_2) (hB : Below w0.heap.size w0 w) (h : yt_.f s0_0 s0_1 s0_2 = some (r1, r2, r3, r4)) :
 Calls Try.prog 84 #[.pointer (some ⟨g, 0, none⟩)] w fun e w' => e = .returned (.bool r1) ∧ zk_ w0 w' g r2 r3 r4 ∧ Below w0.heap.size w0 w' ∧ zs_ w w' g none := by
 have HI0 := AM hI
 have HK := AM (zs_.refl w g none)
 have HL := AM hB.size
 clear hI
 have HW0 := AM hB.size
 have HB := AM hB
 clear hB
 have H : (if s0_2 = true then (some (false, s0_0, s0_1, s0_2)) else ((yj_.f s0_0).bind fun t343 => (some ((s0_1 == t343), s0_0, s0_1, s0_2)))) = some (r1, r2, r3, r4) := h
 clear h
 by_cases c2 : s0_2 = true
 ·
  subst c2
  rw [if_pos rfl] at H
  simp only [Option.some.injEq, Prod.mk.injEq] at H
  obtain ⟨rfl, rfl, rfl, rfl⟩ := H
  obtain ⟨HGz3, hgz3⟩ := HI0.out
  have hcz3_0 := zU_ HGz3
  have hcz3_1 := zT_ HGz3
  have hcz3_2 := zS_ HGz3
  have hfz3_0 := za_ HGz3 0
  have hfz3_1 := za_ HGz3 1
  have hfz3_2 := za_ HGz3 2
  clear HGz3 hgz3
  go_enter Try.func84, Try.ntmps84
  go_wp2
  repeat (go_quiet (fail); try go_wp2)
  go_ret
  exact ⟨ri_, zV_, belg_ (zk_.ge HI0.out), kp_⟩
 ·
  replace c2 := Bool.eq_false_iff.mpr c2
  subst c2
  rw [if_neg (show ¬ (false = true) by decide)] at H
  obtain ⟨t343, A4, H⟩ := OB H
  try dsimp only at H
  replace A4 := AM A4
  simp only [Option.some.injEq, Prod.mk.injEq] at H
  obtain ⟨rfl, rfl, rfl, rfl⟩ := H
  obtain ⟨HGz5, hgz5⟩ := HI0.out
  have hcz5_0 := zU_ HGz5
  have hcz5_1 := zT_ HGz5
  have hcz5_2 := zS_ HGz5
  have hfz5_0 := za_ HGz5 0
  have hfz5_1 := za_ HGz5 1
  have hfz5_2 := za_ HGz5 2
  clear HGz5 hgz5
  go_enter Try.func84, Try.ntmps84
  go_wp2_with (first | (go_at_call 128; (with_reducible refine (yj_.calls s0_0 t343 _ A4.out).mono ?_); rintro e w' ⟨rfl, ⟨nd, rfl⟩⟩; (try first | exact ⟨rfl, _, World.drewN_drewN _ _ _⟩ | exact ⟨rfl, _, Eq.trans (World.drewN_drewN _ _ _) (congrArg (World.drewN _) (Nat.add_assoc _ _ _))⟩)))
  repeat (go_quiet (first | (go_at_call 128; (with_reducible refine (yj_.calls s0_0 t343 _ A4.out).mono ?_); rintro e w' ⟨rfl, ⟨nd, rfl⟩⟩; (try first | exact ⟨rfl, _, World.drewN_drewN _ _ _⟩ | exact ⟨rfl, _, Eq.trans (World.drewN_drewN _ _ _) (congrArg (World.drewN _) (Nat.add_assoc _ _ _))⟩))); try go_wp2_with (first | (go_at_call 128; (with_reducible refine (yj_.calls s0_0 t343 _ A4.out).mono ?_); rintro e w' ⟨rfl, ⟨nd, rfl⟩⟩; (try first | exact ⟨rfl, _, World.drewN_drewN _ _ _⟩ | exact ⟨rfl, _, Eq.trans (World.drewN_drewN _ _ _) (congrArg (World.drewN _) (Nat.add_assoc _ _ _))⟩))))
  go_ret
  exact ⟨ri_, zV_, belg_ (zk_.ge HI0.out), kp_⟩
end Go.Proofs.Ytfffdndeccipnaa.PFnNodes
