/- Functions of the law FnPack: the print's, with walks of this session's own. No statement is proved here. -/
import Derived.WalkLawsBesides
import Derived.Test.YtfffdndeccipnaaDoorPFnPackx3
namespace Go.Proofs.YtfffdndeccipnaaDoor.PFnPack
open Go.RowKit Go.Proofs.YtfffdndeccipnaaDoorW.PrintWords Go.Proofs.YtfffdndeccipnaaDoorW.PrintLast Go.Proofs.YtfffdndeccipnaaDoorW.PrintMore Go.Proofs.YtfffdndeccipnaaDoor.Reg Go.Proofs.YtfffdndeccipnaaDoor.Aut
attribute [local go_sem] max2_int min2_int max_two min_two y9_ y8_ max_four min_four
set_option linter.unusedVariables false
set_option linter.unusedSimpArgs false
set_option maxHeartbeats 8000000
set_option maxRecDepth 100000
/-! ### zq_: function 55 -/
mutual
def zq_.l0 : Nat → List Int → List Int → ByteArray → Int → Option (ByteArray)
 | 0, _, _, _, _ => none
 | k + 1, x3, x118000, x118001, x118002 => if (Int.tmod (wrap64 (x118002 + (x3.length : Int))) 64) = 56 then (zq_.l1 k x3 (IntKind.u64.wrap (wrap64 (8 * x118002))) 56 x118000 x118001 x118002) else (if x3.length < 140737488355328 then (zq_.l0 k (x3 ++ [0]) x118000 x118001 x118002) else (none))
def zq_.l1 : Nat → List Int → Int → Int → List Int → ByteArray → Int → Option (ByteArray)
 | 0, _, _, _, _, _, _ => none
 | k + 1, x3, x4, x5, x118000, x118001, x118002 => if x5 ≥ 0 then (if 0 ≤ (IntKind.u64.wrap (x5)) then (if x3.length < 140737488355328 then (zq_.l1 k (x3 ++ [(shr .u64 x4 (IntKind.u64.wrap (x5))) % 256]) x4 (wrap64 (x5 - 8)) x118000 x118001 x118002) else (none)) else (none)) else ((zr_.f k x118000 x118001 x118002 (strOfNums x3)).bind fun bt127 => (zq_.l2 k (([] : List Int)) 0 bt127.1 bt127.2.1 bt127.2.2))
def zq_.l2 : Nat → List Int → Int → List Int → ByteArray → Int → Option (ByteArray)
 | 0, _, _, _, _, _ => none
 | k + 1, x7, x8, x133000, x133001, x133002 => if x8 < 8 then (if 0 ≤ x8 then (if x8 < (x133000.length : Int) then ((some (([((rd x133000 x8) / 16777216) % 256, ((rd x133000 x8) / 65536) % 256, ((rd x133000 x8) / 256) % 256, (rd x133000 x8) % 256] : List Int) : List Int)).bind fun y137 => (if x7.length + y137.length < 140737488355328 then (zq_.l2 k (x7 ++ y137) (wrap64 (x8 + 1)) x133000 x133001 x133002) else (none))) else (none)) else (none)) else (some (strOfNums x7))
end
def zq_.f (k : Nat) (l0_0 : List Int) (a0_1 : ByteArray) (a0_2 : Int) : Option (ByteArray) := zq_.l0 k (([128] : List Int)) l0_0 a0_1 a0_2
theorem zq_.mono_l : ∀ k, (∀ y0 y1 y2 y3, LeO (zq_.l0 k y0 y1 y2 y3) (zq_.l0 (k + 1) y0 y1 y2 y3)) ∧ (∀ y0 y1 y2 y3 y4 y5, LeO (zq_.l1 k y0 y1 y2 y3 y4 y5) (zq_.l1 (k + 1) y0 y1 y2 y3 y4 y5)) ∧ (∀ y0 y1 y2 y3 y4, LeO (zq_.l2 k y0 y1 y2 y3 y4) (zq_.l2 (k + 1) y0 y1 y2 y3 y4))
 | 0 => ⟨fun _ _ _ _ r h => by simp [zq_.l0] at h, fun _ _ _ _ _ _ r h => by simp [zq_.l1] at h, fun _ _ _ _ _ r h => by simp [zq_.l2] at h⟩
 | k + 1 => by
  obtain ⟨ih0, ih1, ih2⟩ := zq_.mono_l k
  refine ⟨?_, ?_, ?_⟩
  ·
   intro y0 y1 y2 y3
   unfold zq_.l0
   repeat' with_reducible first | exact ih0 _ _ _ _ | exact ih1 _ _ _ _ _ _ | exact ih2 _ _ _ _ _ | exact zr_.mono _ _ _ _ _ | exact LeO.refl _ | exact LeO.none _ | refine LeO.ite ?_ ?_ | refine LeO.bind ?_ (fun _ => ?_)
  ·
   intro y0 y1 y2 y3 y4 y5
   unfold zq_.l1
   repeat' with_reducible first | exact ih0 _ _ _ _ | exact ih1 _ _ _ _ _ _ | exact ih2 _ _ _ _ _ | exact zr_.mono _ _ _ _ _ | exact LeO.refl _ | exact LeO.none _ | refine LeO.ite ?_ ?_ | refine LeO.bind ?_ (fun _ => ?_)
  ·
   intro y0 y1 y2 y3 y4
   unfold zq_.l2
   repeat' with_reducible first | exact ih0 _ _ _ _ | exact ih1 _ _ _ _ _ _ | exact ih2 _ _ _ _ _ | exact zr_.mono _ _ _ _ _ | exact LeO.refl _ | exact LeO.none _ | refine LeO.ite ?_ ?_ | refine LeO.bind ?_ (fun _ => ?_)
theorem zq_.mono : ∀ a0 a1 a2 k, LeO (zq_.f k a0 a1 a2) (zq_.f (k + 1) a0 a1 a2) := by
 intro a0 a1 a2 k
 obtain ⟨ih0, ih1, ih2⟩ := zq_.mono_l k
 unfold zq_.f
 repeat' with_reducible first | exact ih0 _ _ _ _ | exact ih1 _ _ _ _ _ _ | exact ih2 _ _ _ _ _ | exact zr_.mono _ _ _ _ _ | exact LeO.refl _ | exact LeO.none _ | refine LeO.ite ?_ ?_ | refine LeO.bind ?_ (fun _ => ?_)
theorem zq_.calls (k : Nat) (A0_0 : Option Addr) (c0_0 : Nat) (l0_0 : List Int) (a0_1 : ByteArray) (a0_2 : Int) (r : ByteArray) (w : World) (hr0_0 : Kd.C (Kd.int .i64) w A0_0 l0_0.length l0_0) (hc0_0 : l0_0.length ≤ c0_0) (h : zq_.f k l0_0 a0_1 a0_2 = some r) :
 Calls Tryd.prog 55 #[.agg #[.slice A0_0 l0_0.length c0_0, .string a0_1, .int .i64 a0_2]] w fun e w' => e = .returned (.string r) ∧ Below w.heap.size w w' := by
 have hu39 := Tryd.underlying39
 have HR0_0 := AM hr0_0
 have HC0_0 := AM hc0_0
 clear hr0_0 hc0_0
 have HB := AM (Below.refl w.heap.size w)
 have H : (zq_.l0 k (([128] : List Int)) l0_0 a0_1 a0_2) = some r := h
 clear h
 obtain ⟨y118, hy118⟩ : ∃ y_ : List Int, y_ = (([128] : List Int)) := ⟨_, rfl⟩
 replace H : (zq_.l0 k y118 l0_0 a0_1 a0_2) = some r := hy_ hy118 H
 have Ny118 := AM hy118
 clear hy118
 have H' := AM H
 clear H
 go_enter Tryd.func55, Tryd.ntmps55
 go_wp2_with (first | ((with_reducible refine zy_ (N := 1) rfl ?_); refine be_ 1 #[.slice A0_0 l0_0.length c0_0, .string a0_1, .int .i64 a0_2] 39 ?_; intro gb117 hg w2 hbox hb; have BK117 := AM hbox; have GW117 := AM ((by rw [hg]; exact (zf_ bel_) : w.heap.size ≤ gb117)); have GE117 := AM ((by rw [hg]; exact (zf_ bel_) : w.heap.size ≤ gb117)); replace HB := AM (zc_ bel_ hb); clear hb hbox hg) | ((with_reducible refine zy_ (N := 10) rfl ?_); refine Kd.R_lit (Kd.int .u8) _ 5 ?hgL1 (N := 10) ?hdL1 (xs := ([128] : List Int)) (inner := [.int .u8 128]) (ok := fun _ => True) (okp := fun _ => True) ?hrL1 ?hpL1 (fun _ hk => hk) trivial (Below.refl _ _) (Nat.le_refl _) (by simp) ?_; (case hdL1 => rfl); (case hgL1 => rfl); (case hrL1 => first | (go_simp; done) | (go_simp; rfl)); (case hpL1 => exact (Reps.one (show Kd.M (Kd.int .u8) _ _ _ 128 [.int .u8 128] from rfl) (Reps.none _ _))); intro v119 w3 ho4 hb hg_ hnew_; clear hg_ hnew_; (first | rw [← Ny118.out] at ho4 | (simp only [Int.reduceToNat] at ho4; rw [← Ny118.out] at ho4)); have HO120 := AM (Kd.ya_ ho4 (zf_ bel_)); replace BK117 := AM (zh_ (g := gb117) (o := .cells #[.slice A0_0 l0_0.length c0_0, .string a0_1, .int .i64 a0_2] 39 (0, 0)) (bk_ BK117.out) hb); replace HB := AM (zc_ bel_ hb); clear hb ho4))
 go_loopg [3] k (fun kq v3 w' => ∃ (x3_1 : List Int), zd_ (zq_.l0 kq x3_1 l0_0 a0_1 a0_2 = some r) ∧ zd_ (kq ≤ k) ∧ zd_ (Kd.R (Kd.int .u8) 5 w' w.heap.size (fun _ => True) v3 x3_1) ∧ zd_ (w'.heap[gb117]? = some (.cells #[(.slice A0_0 l0_0.length c0_0), .string a0_1, .int .i64 a0_2] 39 (0, 0))) ∧ zd_ (Below w.heap.size w w'))
 case atStart => exact ⟨(y118), H', ⟨Nat.le_refl _⟩, ⟨ro_ HO120.out⟩, ⟨bk_ BK117.out⟩, ⟨bel_⟩⟩
 case round =>
  clear H'
  obtain ⟨x3_1, HA, HK1, HO_3, BK117, HB⟩ := hrel
  cases gk with
  | zero => exact absurd HA.out (by simp [zq_.l0])
  | succ k1 =>
   have H := HA.out
   clear HA
   simp only [zq_.l0] at H
   by_cases c5 : (Int.tmod (wrap64 (a0_2 + (x3_1.length : Int))) 64) = 56
   ·
    rw [if_pos c5] at H
    have c5b0 : ((Int.tmod (wrap64 (a0_2 + (x3_1.length : Int))) 64) == 56) = true := beq_iff_eq.mpr c5
    try have c5b9 : (((Int.tmod ((a0_2 + (x3_1.length : Int))) 64) == 56)) = true := (by have hw0 : wrap64 (a0_2 + (x3_1.length : Int)) = a0_2 + (x3_1.length : Int) := (by unfold wrap64; omega); have z_ := c5b0; simp only [hw0] at z_; exact z_)
    have c5b1 : ((Int.tmod (wrap64 (a0_2 + (x3_1.length : Int))) 64) != 56) = false := bne_eq_false_iff_eq.mpr c5
    clear c5
    have H' := AM H
    clear H
    have hcz6_0 : wr.cell? ⟨gb117, 0, none⟩ = some (.slice A0_0 l0_0.length c0_0) := (zb_ BK117.out 0).trans rfl
    have hcz6_1 : wr.cell? ⟨gb117, 1, none⟩ = some (.string a0_1) := (zb_ BK117.out 1).trans rfl
    have hcz6_2 : wr.cell? ⟨gb117, 2, none⟩ = some (.int .i64 a0_2) := (zb_ BK117.out 2).trans rfl
    have hfz6_0 := za_ BK117.out 0
    have hfz6_1 := za_ BK117.out 1
    have hfz6_2 := za_ BK117.out 2
    obtain ⟨Ao7, co7, eo7⟩ := Kd.yg_ HO_3.out
    subst eo7
    go_wp2
    go_loopg [3, 5] k1 (fun kq v3 v5 w' => ∃ (x3_2 : List Int) (x5_2 : Int), v5 = .int .i64 x5_2 ∧ zd_ (zq_.l1 kq x3_2 (IntKind.u64.wrap (wrap64 (8 * a0_2))) x5_2 l0_0 a0_1 a0_2 = some r) ∧ zd_ (kq ≤ k1) ∧ zd_ (Kd.R (Kd.int .u8) 5 w' w.heap.size (fun _ => True) v3 x3_2) ∧ zd_ (w'.heap[gb117]? = some (.cells #[(.slice A0_0 l0_0.length c0_0), .string a0_1, .int .i64 a0_2] 39 (0, 0))) ∧ zd_ (Below w.heap.size w w'))
    case atStart => exact ⟨(x3_1), (56), re_, H', ⟨Nat.le_refl _⟩, ⟨ro_ HO_3.out⟩, ⟨bk_ BK117.out⟩, ⟨bel_⟩⟩
    case round =>
     clear H'
     (try clear c5b0); (try clear c5b1); (try clear hcz6_0); (try clear hcz6_1); (try clear hcz6_2); (try clear hfz6_0); (try clear hfz6_1); (try clear hfz6_2)
     obtain ⟨x3_2, x5_2, rfl, HA, HK2, HO_3, BK117, HB⟩ := hrel
     cases gk with
     | zero => exact absurd HA.out (by simp [zq_.l1])
     | succ k2 =>
      have H := HA.out
      clear HA
      simp only [zq_.l1] at H
      by_cases c8 : x5_2 ≥ 0
      ·
       rw [if_pos c8] at H
       have c8b0 : decide (0 ≤ x5_2) = true := decide_eq_true c8
       clear c8
       obtain ⟨ji9, hji9⟩ : ∃ j_ : Int, (IntKind.u64.wrap (x5_2)) = j_ := ⟨_, rfl⟩
       replace H : (if 0 ≤ (ji9) then (if x3_2.length < 140737488355328 then (zq_.l1 k2 (x3_2 ++ [(shr .u64 (IntKind.u64.wrap (wrap64 (8 * a0_2))) (ji9)) % 256]) (IntKind.u64.wrap (wrap64 (8 * a0_2))) (wrap64 (x5_2 - 8)) l0_0 a0_1 a0_2) else (none)) else (none)) = some r := by first | (rw [hji9] at H; exact H) | (simp only [hji9] at H ⊢; exact H)
       by_cases c10 : 0 ≤ (ji9)
       ·
        rw [if_pos c10] at H
        have c10b0 := eq_true c10
        have c10b1 : decide (0 ≤ (ji9)) = true := decide_eq_true c10
        clear c10
        obtain ⟨ji11, hji11⟩ : ∃ j_ : Int, (shr .u64 (IntKind.u64.wrap (wrap64 (8 * a0_2))) (ji9)) = j_ := ⟨_, rfl⟩
        replace H : (if x3_2.length < 140737488355328 then (zq_.l1 k2 (x3_2 ++ [(ji11) % 256]) (IntKind.u64.wrap (wrap64 (8 * a0_2))) (wrap64 (x5_2 - 8)) l0_0 a0_1 a0_2) else (none)) = some r := by first | (rw [hji11] at H; exact H) | (simp only [hji11] at H ⊢; exact H)
        have hji11_ : ((IntKind.u64.wrap (wrap64 (8 * a0_2))) / 2 ^ min (ji9).toNat 64) = ji11 := hji11
        have hji11z : (ji9) ≤ 64 → ((IntKind.u64.wrap (wrap64 (8 * a0_2))) / 2 ^ (ji9).toNat) = ji11 := shr_small hji11
        by_cases c12 : x3_2.length < 140737488355328
        ·
         rw [if_pos c12] at H
         have LMc12 := AM c12
         clear c12
         obtain ⟨y124, hy124⟩ : ∃ y_ : List Int, y_ = (x3_2 ++ [(ji11) % 256]) := ⟨_, rfl⟩
         replace H : (zq_.l1 k2 y124 (IntKind.u64.wrap (wrap64 (8 * a0_2))) (wrap64 (x5_2 - 8)) l0_0 a0_1 a0_2) = some r := hy_ hy124 H
         have Ny124 := AM hy124
         clear hy124
         have H' := AM H
         clear H
         go_wp2_with (first | ((with_reducible refine ye_ (b := .append) (xs := #[.tmp 29, .tmp 35]) rfl ?_); at_builtin; refine Kd.y7_ (Kd.int .u8) (w0 := w) w.heap.size rfl (.tmp 29) (.tmp 35) 29 5 (.int .u8 0) 1 rfl Tryd.underlying29 info5 rfl (by decide) (by omega) u3 x3_2 ((ji11) % 256) [.int .u8 ((ji11) % 256)] (fun _ => True) (fun _ => False) rfl rfl ?aP (fun _ hk => hk.elim) ?aF ?aO ?aB ?aS ?aL ?_; (case aP => exact rfl); (case aB => exact bel_); (case aF => exact (fun _ _ => trivial)); (case aO => exact (ro_ HO_3.out)); (case aS => exact (zf_ bel_)); (case aL => have := LMc12.out; omega); intro v125 w13 ho hb hg hat; rw [← Ny124.out] at ho; have n0_ := AM (yu_ (g := gb117) (o := .cells #[.slice A0_0 l0_0.length c0_0, .string a0_1, .int .i64 a0_2] 39 (0, 0)) (bk_ BK117.out) hg (Kd.R_ne HO_3.out BK117.out (by decide))); have n1_ := AM hb; have n2_ := AM ho; clear BK117; clear HB; clear HO_3; have BK117 := n0_; have HB := n1_; have HO126 := n2_; clear n0_ n1_ n2_; clear ho hb hg hat))
         go_roundg k2
         case measure => have := HK1.out; have := HK2.out; omega
         case rel => exact ⟨(y124), (wrap64 (x5_2 - 8)), re_, H', ⟨by have := HK1.out; have := HK2.out; omega⟩, ⟨ro_ HO126.out⟩, ⟨bk_ BK117.out⟩, ⟨bel_⟩⟩
        ·
         rw [if_neg c12] at H
         exact absurd H (by simp)
       ·
        rw [if_neg c10] at H
        exact absurd H (by simp)
      ·
       rw [if_neg c8] at H
       have c8b0 : decide (0 ≤ x5_2) = false := decide_eq_false c8
       clear c8
       obtain ⟨⟨t127, t130, t131⟩, A14, H⟩ := OB H
       try dsimp only at H
       replace A14 := AM A14
       obtain ⟨y133, hy133⟩ : ∃ y_ : List Int, y_ = (([] : List Int)) := ⟨_, rfl⟩
       replace H : (zq_.l2 k2 y133 0 t127 t130 t131) = some r := hy_ hy133 H
       have Ny133 := AM hy133
       clear hy133
       have H' := AM H
       clear H
       have hcz15_0 : wr.cell? ⟨gb117, 0, none⟩ = some (.slice A0_0 l0_0.length c0_0) := (zb_ BK117.out 0).trans rfl
       have hcz15_1 : wr.cell? ⟨gb117, 1, none⟩ = some (.string a0_1) := (zb_ BK117.out 1).trans rfl
       have hcz15_2 : wr.cell? ⟨gb117, 2, none⟩ = some (.int .i64 a0_2) := (zb_ BK117.out 2).trans rfl
       have hfz15_0 := za_ BK117.out 0
       have hfz15_1 := za_ BK117.out 1
       have hfz15_2 := za_ BK117.out 2
       have hcv16 := yF_ (P := Tryd.prog) Tryd.underlying29 Tryd.underlying5 Tryd.underlying9 (Kd.yL_ HO_3.out)
       go_wp2_with (first | ((with_reducible refine zg_ (f := 56) rfl ?_); refine gl_ (some 40) Tryd.func56 #[.agg #[.slice A0_0 l0_0.length c0_0, .string a0_1, .int .i64 a0_2], .string (strOfNums x3_2)] ?_; (with_reducible refine (zr_.calls k2 _ _ l0_0 a0_1 a0_2 (strOfNums x3_2) t127 t130 t131 _ ?side1 ?side2 A14.out).mono ?_); (case side1 => repeat (first | exact (Kd.C_below HR0_0.out HB.out) | (with_reducible refine Kd.yo_ ?_ _) | (with_reducible refine Kd.yn_ ?_ _) | (with_reducible refine Kd.yz_ ?_))); (case side2 => exact HC0_0.out); rintro e w17 ⟨v128, rfl, ho0, hb⟩; refine ⟨_, rfl, ?_⟩; replace HO_3 := AM (Kd.zX_ (ro_ HO_3.out) hb); have HO129 := AM (Kd.ya_ ho0 (zf_ bel_)); replace BK117 := AM (zh_ (g := gb117) (o := .cells #[.slice A0_0 l0_0.length c0_0, .string a0_1, .int .i64 a0_2] 39 (0, 0)) (bk_ BK117.out) hb); replace HB := AM (zc_ bel_ hb); (try clear hb); (try clear hk); (try clear ho0)) | ((with_reducible refine zy_ (N := 6) rfl ?_); refine be_ 6 #[.slice none 0 0, .string (⟨#[]⟩ : ByteArray), .int .i64 0] 39 ?_; intro gb132 hg w18 hbox hb; replace HO_3 := AM (Kd.zX_ (ro_ HO_3.out) hb); replace HO129 := AM (Kd.zX_ (ro_ HO129.out) hb); have BK132 := AM hbox; have GW132 := AM ((by rw [hg]; exact (zf_ bel_) : w.heap.size ≤ gb132)); have GE132 := AM ((by rw [hg]; exact (zf_ bel_) : w.heap.size ≤ gb132)); replace HB := AM (zc_ bel_ hb); have NB117_132 := AM ((by rw [hg]; exact Nat.ne_of_lt (zA_ (g := gb117) (o := .cells #[.slice A0_0 l0_0.length c0_0, .string a0_1, .int .i64 a0_2] 39 (0, 0)) (bk_ BK117.out)) : gb117 ≠ gb132)); have NB132_117 := AM ((by rw [hg]; exact Nat.ne_of_gt (zA_ (g := gb117) (o := .cells #[.slice A0_0 l0_0.length c0_0, .string a0_1, .int .i64 a0_2] 39 (0, 0)) (bk_ BK117.out)) : gb132 ≠ gb117)); replace BK117 := AM (zh_ (g := gb117) (o := .cells #[.slice A0_0 l0_0.length c0_0, .string a0_1, .int .i64 a0_2] 39 (0, 0)) (bk_ BK117.out) hb); clear hb hbox hg; obtain ⟨Ao19, co19, eo19⟩ := Kd.yg_ HO129.out; subst eo19; have hnb20 := NB132_117.out; have hnc20 := NB117_132.out; have hcz21_0 : w18.cell? ⟨gb132, 0, none⟩ = some (.slice none 0 0) := (zb_ BK132.out 0).trans rfl; have hcz21_1 : w18.cell? ⟨gb132, 1, none⟩ = some (.string (⟨#[]⟩ : ByteArray)) := (zb_ BK132.out 1).trans rfl; have hcz21_2 : w18.cell? ⟨gb132, 2, none⟩ = some (.int .i64 0) := (zb_ BK132.out 2).trans rfl; have hfz21_0 := za_ BK132.out 0; have hfz21_1 := za_ BK132.out 1; have hfz21_2 := za_ BK132.out 2) | ((with_reducible refine zy_ (N := 41) rfl ?_); refine Kd.R_lit (Kd.int .u8) _ 5 ?hgL2 (N := 41) ?hdL2 (xs := ([] : List Int)) (inner := []) (ok := fun _ => True) (okp := fun _ => True) ?hrL2 ?hpL2 (fun _ hk => hk) trivial (Below.refl _ _) (Nat.le_refl _) (by simp) ?_; (case hdL2 => rfl); (case hgL2 => rfl); (case hrL2 => first | (go_simp; done) | (go_simp; rfl)); (case hpL2 => exact (Reps.none _ _)); intro v134 w22 ho23 hb hg_ hnew_; clear hg_ hnew_; (first | rw [← Ny133.out] at ho23 | (simp only [Int.reduceToNat] at ho23; rw [← Ny133.out] at ho23)); have n0_ := AM (Kd.yJ_ (by (with_reducible repeat (first | apply Kd.yv_ | apply Kd.yt_ | apply Kd.yI_)); exact (Kd.z9_ (Kd.R_far (p := ⟨gb132, 2, none⟩) (Kd.R_far (p := ⟨gb132, 1, none⟩) (Kd.R_far (p := ⟨gb132, 0, none⟩) (Kd.yB_ HO_3.out BK132.out (by decide)) (fun _ hk => hk.2) (.slice Ao19 t127.length co19)) (fun _ hk => hk.2) (.string t130)) (fun _ hk => hk.2) (.int .i64 t131)) (fun _ h_ => h_.1))) (Kd.xh_ ho23) hb); have n1_ := AM (Kd.zX_ (by (with_reducible repeat (first | apply Kd.yv_ | apply Kd.yt_ | apply Kd.yI_)); exact (Kd.z9_ (Kd.R_far (p := ⟨gb132, 2, none⟩) (Kd.R_far (p := ⟨gb132, 1, none⟩) (Kd.R_far (p := ⟨gb132, 0, none⟩) (Kd.yB_ HO129.out BK132.out (by decide)) (fun _ hk => hk.2) (.slice Ao19 t127.length co19)) (fun _ hk => hk.2) (.string t130)) (fun _ hk => hk.2) (.int .i64 t131)) (fun _ h_ => h_.1))) hb); have n2_ := AM (Kd.ya_ (Kd.xf_ ho23 (Kd.R_lt (by (with_reducible repeat (first | apply Kd.yv_ | apply Kd.yt_ | apply Kd.yI_)); exact (Kd.z9_ (Kd.R_far (p := ⟨gb132, 2, none⟩) (Kd.R_far (p := ⟨gb132, 1, none⟩) (Kd.R_far (p := ⟨gb132, 0, none⟩) (Kd.yB_ HO_3.out BK132.out (by decide)) (fun _ hk => hk.2) (.slice Ao19 t127.length co19)) (fun _ hk => hk.2) (.string t130)) (fun _ hk => hk.2) (.int .i64 t131)) (fun _ h_ => h_.1))))) (zf_ bel_)); have n3_ := AM (zh_ (g := gb117) (o := .cells #[.slice A0_0 l0_0.length c0_0, .string a0_1, .int .i64 a0_2] 39 (0, 0)) bka_ hb); have n4_ := AM (zh_ (g := gb132) (o := .cells #[.slice Ao19 t127.length co19, .string t130, .int .i64 t131] 39 (0, 0)) bka_ hb); have n5_ := AM (zc_ bel_ hb); clear HO_3; clear HO129; clear BK117; clear BK132; clear HB; have HO_3 := n0_; have HO129 := n1_; have HO135 := n2_; have BK117 := n3_; have BK132 := n4_; have HB := n5_; clear n0_ n1_ n2_ n3_ n4_ n5_; clear hb ho23))
       go_loopg [7, 8] k2 (fun kq v7 v8 w' => ∃ (x7_3 : List Int) (x8_3 : Int), v8 = .int .i64 x8_3 ∧ zd_ (zq_.l2 kq x7_3 x8_3 t127 t130 t131 = some r) ∧ zd_ (kq ≤ k2) ∧ zd_ (Kd.R (Kd.int .u8) 5 w' w.heap.size (fun _ => True) v7 x7_3) ∧ zd_ (Kd.R (Kd.int .i64) 2 w' w.heap.size (fun _ => True) (.slice Ao19 t127.length co19) t127) ∧ zd_ (w'.heap[gb117]? = some (.cells #[(.slice A0_0 l0_0.length c0_0), .string a0_1, .int .i64 a0_2] 39 (0, 0))) ∧ zd_ (w'.heap[gb132]? = some (.cells #[(.slice Ao19 t127.length co19), .string t130, .int .i64 t131] 39 (0, 0))) ∧ zd_ (Below w.heap.size w w'))
       case atStart => exact ⟨(y133), (0), re_, H', ⟨Nat.le_refl _⟩, ⟨by (with_reducible repeat (first | apply Kd.yv_ | apply Kd.yt_ | apply Kd.yI_)); exact Kd.z9_ HO135.out (fun _ hk => trivial)⟩, ⟨ro_ HO129.out⟩, ⟨bk_ BK117.out⟩, ⟨bk_ BK132.out⟩, ⟨bel_⟩⟩
       case round =>
        clear H'
        (try clear c8b0); (try clear c10); (try clear c10b0); (try clear c10b1); (try clear c12); (try clear hcv16); (try clear hcz15_0); (try clear hcz15_1); (try clear hcz15_2); (try clear hcz21_0); (try clear hcz21_1); (try clear hcz21_2); (try clear hfz15_0); (try clear hfz15_1); (try clear hfz15_2); (try clear hfz21_0); (try clear hfz21_1); (try clear hfz21_2)
        obtain ⟨x7_3, x8_3, rfl, HA, HK3, HO_7, HO_133000, BK117, BK132, HB⟩ := hrel
        cases gk with
        | zero => exact absurd HA.out (by simp [zq_.l2])
        | succ k3 =>
         have H := HA.out
         clear HA
         simp only [zq_.l2] at H
         by_cases c24 : x8_3 < 8
         ·
          rw [if_pos c24] at H
          have c24b0 : decide (x8_3 < 8) = true := decide_eq_true c24
          clear c24
          by_cases c25 : 0 ≤ x8_3
          ·
           rw [if_pos c25] at H
           have c25b0 : decide (0 ≤ x8_3) = true := decide_eq_true c25
           clear c25
           by_cases c26 : x8_3 < (t127.length : Int)
           ·
            rw [if_pos c26] at H
            have c26b0 : decide (x8_3 < (t127.length : Int)) = true := decide_eq_true c26
            clear c26
            obtain ⟨y137, hy137⟩ : ∃ y_ : List Int, y_ = (([((rd t127 x8_3) / 16777216) % 256, ((rd t127 x8_3) / 65536) % 256, ((rd t127 x8_3) / 256) % 256, (rd t127 x8_3) % 256] : List Int)) := ⟨_, rfl⟩
            replace H : (if x7_3.length + y137.length < 140737488355328 then (zq_.l2 k3 (x7_3 ++ y137) (wrap64 (x8_3 + 1)) t127 t130 t131) else (none)) = some r := hy_ hy137 H
            have Ny137 := AM hy137
            clear hy137
            by_cases c27 : x7_3.length + y137.length < 140737488355328
            ·
             rw [if_pos c27] at H
             have LMc27 := AM c27
             clear c27
             obtain ⟨y140, hy140⟩ : ∃ y_ : List Int, y_ = (x7_3 ++ y137) := ⟨_, rfl⟩
             replace H : (zq_.l2 k3 y140 (wrap64 (x8_3 + 1)) t127 t130 t131) = some r := hy_ hy140 H
             have Ny140 := AM hy140
             clear hy140
             have H' := AM H
             clear H
             have hnb28 := NB132_117.out
             have hnc28 := NB117_132.out
             have hcz29_0 : wr.cell? ⟨gb132, 0, none⟩ = some (.slice Ao19 t127.length co19) := (zb_ BK132.out 0).trans rfl
             have hcz29_1 : wr.cell? ⟨gb132, 1, none⟩ = some (.string t130) := (zb_ BK132.out 1).trans rfl
             have hcz29_2 : wr.cell? ⟨gb132, 2, none⟩ = some (.int .i64 t131) := (zb_ BK132.out 2).trans rfl
             have hfz29_0 := za_ BK132.out 0
             have hfz29_1 := za_ BK132.out 1
             have hfz29_2 := za_ BK132.out 2
             have p136 : 0 ≤ (x8_3 : Int) := of_decide_eq_true asm_
             have q136 : x8_3 < (t127.length : Int) := of_decide_eq_true asm_
             obtain ⟨ad136, e136, hx136_0⟩ := Kd.at_int (Kd.zY_ HO_133000.out).2.2 x8_3 p136 q136
             cases e136
             replace p136 := eq_true p136
             replace q136 := eq_true q136
             go_wp2_with (first | ((with_reducible refine zy_ (N := 63) rfl ?_); refine Kd.R_lit (Kd.int .u8) _ 5 ?hgL3 (N := 63) ?hdL3 (xs := ([((rd t127 x8_3) / 16777216) % 256, ((rd t127 x8_3) / 65536) % 256, ((rd t127 x8_3) / 256) % 256, (rd t127 x8_3) % 256] : List Int)) (inner := [.int .u8 (((rd t127 x8_3) / 16777216) % 256), .int .u8 (((rd t127 x8_3) / 65536) % 256), .int .u8 (((rd t127 x8_3) / 256) % 256), .int .u8 ((rd t127 x8_3) % 256)]) (ok := fun _ => True) (okp := fun _ => True) ?hrL3 ?hpL3 (fun _ hk => hk) trivial (Below.refl _ _) (Nat.le_refl _) (by simp) ?_; (case hdL3 => rfl); (case hgL3 => rfl); (case hrL3 => first | (go_simp; done) | (go_simp; rfl)); (case hpL3 => exact (Reps.one (show Kd.M (Kd.int .u8) _ _ _ (((rd t127 x8_3) / 16777216) % 256) [.int .u8 (((rd t127 x8_3) / 16777216) % 256)] from rfl) (Reps.one (show Kd.M (Kd.int .u8) _ _ _ (((rd t127 x8_3) / 65536) % 256) [.int .u8 (((rd t127 x8_3) / 65536) % 256)] from rfl) (Reps.one (show Kd.M (Kd.int .u8) _ _ _ (((rd t127 x8_3) / 256) % 256) [.int .u8 (((rd t127 x8_3) / 256) % 256)] from rfl) (Reps.one (show Kd.M (Kd.int .u8) _ _ _ ((rd t127 x8_3) % 256) [.int .u8 ((rd t127 x8_3) % 256)] from rfl) (Reps.none _ _)))))); intro v138 w30 ho31 hb hg_ hnew_; clear hg_ hnew_; (first | rw [← Ny137.out] at ho31 | (simp only [Int.reduceToNat] at ho31; rw [← Ny137.out] at ho31)); replace HO_133000 := AM (Kd.zX_ (ro_ HO_133000.out) hb); have HO139 := AM (Kd.ya_ (Kd.xf_ ho31 (Kd.R_lt (ro_ HO_7.out))) (zf_ bel_)); replace HO_7 := AM (Kd.yJ_ (ro_ HO_7.out) (Kd.xh_ ho31) hb); replace BK117 := AM (zh_ (g := gb117) (o := .cells #[.slice A0_0 l0_0.length c0_0, .string a0_1, .int .i64 a0_2] 39 (0, 0)) (bk_ BK117.out) hb); replace BK132 := AM (zh_ (g := gb132) (o := .cells #[.slice (some ad136) t127.length co19, .string t130, .int .i64 t131] 39 (0, 0)) (bk_ BK132.out) hb); replace HB := AM (zc_ bel_ hb); clear hb ho31; obtain ⟨Ao33, co33, eo33⟩ := Kd.yg_ HO139.out; subst eo33) | ((with_reducible refine ye_ (b := .append) (xs := #[.tmp 51, .tmp 63]) rfl ?_); at_builtin; refine Kd.yK_ (Kd.int .u8) (w0 := w) w.heap.size rfl (.tmp 51) (.tmp 63) 29 5 (.int .u8 0) 1 rfl Tryd.underlying29 info5 rfl (by decide) (by omega) u7 x7_3 y137 _ _ _ (fun k_ => some k_ ≠ (.slice Ao33 y137.length co33 : Value).ownBlock) (fun _ => False) rfl rfl ?aO ?aR (fun _ _ h => h) (fun _ h => h.elim) ?aF ?aB ?aS ?aL ?_; (case aR => repeat (first | exact (Kd.zY_ HO139.out).2.2 | (with_reducible refine Kd.yo_ ?_ _) | (with_reducible refine Kd.yn_ ?_ _) | (with_reducible refine Kd.yz_ ?_))); (case aB => exact bel_); (case aF => exact (fun k_ hk => Kd.fresh' (Kd.R_lt (ro_ HO139.out)) k_ hk)); (case aO => exact (by (with_reducible repeat (first | apply Kd.yv_ | apply Kd.yt_ | apply Kd.yI_)); exact Kd.z9_ HO_7.out (fun _ hk => hk.2))); (case aS => exact (zf_ bel_)); (case aL => have := LMc27.out; omega); intro v141 w32 ho hb hg hat; rw [← Ny140.out] at ho; have n0_ := AM (Kd.R_over' (ro_ HO_133000.out) (Kd.R_typed (ro_ HO_7.out)) (by decide) hg); have n1_ := AM (yu_ (g := gb117) (o := .cells #[.slice A0_0 l0_0.length c0_0, .string a0_1, .int .i64 a0_2] 39 (0, 0)) (bk_ BK117.out) hg (Kd.R_ne HO_7.out BK117.out (by decide))); have n2_ := AM (yu_ (g := gb132) (o := .cells #[.slice (some ad136) t127.length co19, .string t130, .int .i64 t131] 39 (0, 0)) (bk_ BK132.out) hg (Kd.R_ne HO_7.out BK132.out (by decide))); have n3_ := AM (Kd.R_after (ok := (fun _ => True)) (ro_ HO139.out) hg hat); have n4_ := AM hb; have n5_ := AM ho; clear HO_133000; clear BK117; clear BK132; clear HO139; clear HB; clear HO_7; have HO_133000 := n0_; have BK117 := n1_; have BK132 := n2_; have HO139 := n3_; have HB := n4_; have HO142 := n5_; clear n0_ n1_ n2_ n3_ n4_ n5_; clear ho hb hg hat))
             go_roundg k3
             case measure => have := HK1.out; have := HK2.out; have := HK3.out; omega
             case rel => exact ⟨(y140), (wrap64 (x8_3 + 1)), re_, H', ⟨by have := HK1.out; have := HK2.out; have := HK3.out; omega⟩, ⟨by (with_reducible repeat (first | apply Kd.yv_ | apply Kd.yt_ | apply Kd.yI_)); exact Kd.z9_ HO142.out (fun _ hk => trivial)⟩, ⟨ro_ HO_133000.out⟩, ⟨bk_ BK117.out⟩, ⟨bk_ BK132.out⟩, ⟨bel_⟩⟩
            ·
             rw [if_neg c27] at H
             exact absurd H (by simp)
           ·
            rw [if_neg c26] at H
            exact absurd H (by simp)
          ·
           rw [if_neg c25] at H
           exact absurd H (by simp)
         ·
          rw [if_neg c24] at H
          have c24b0 : decide (x8_3 < 8) = false := decide_eq_false c24
          clear c24
          obtain rfl := Option.some.inj H
          have hcv34 := yF_ (P := Tryd.prog) Tryd.underlying29 Tryd.underlying5 Tryd.underlying9 (Kd.yL_ HO_7.out)
          go_wp2
          go_ret
          exact ⟨ri_, bel_⟩
   ·
    rw [if_neg c5] at H
    have c5b0 : ((Int.tmod (wrap64 (a0_2 + (x3_1.length : Int))) 64) == 56) = false := beq_eq_false_iff_ne.mpr c5
    try have c5b9 : (((Int.tmod ((a0_2 + (x3_1.length : Int))) 64) == 56)) = false := (by have hw0 : wrap64 (a0_2 + (x3_1.length : Int)) = a0_2 + (x3_1.length : Int) := (by unfold wrap64; omega); have z_ := c5b0; simp only [hw0] at z_; exact z_)
    have c5b1 : ((Int.tmod (wrap64 (a0_2 + (x3_1.length : Int))) 64) != 56) = true := bne_iff_ne.mpr c5
    by_cases c35 : x3_1.length < 140737488355328
    ·
     rw [if_pos c35] at H
     have LMc35 := AM c35
     clear c35
     obtain ⟨y121, hy121⟩ : ∃ y_ : List Int, y_ = (x3_1 ++ [0]) := ⟨_, rfl⟩
     replace H : (zq_.l0 k1 y121 l0_0 a0_1 a0_2) = some r := hy_ hy121 H
     have Ny121 := AM hy121
     clear hy121
     have H' := AM H
     clear H
     have hcz36_0 : wr.cell? ⟨gb117, 0, none⟩ = some (.slice A0_0 l0_0.length c0_0) := (zb_ BK117.out 0).trans rfl
     have hcz36_1 : wr.cell? ⟨gb117, 1, none⟩ = some (.string a0_1) := (zb_ BK117.out 1).trans rfl
     have hcz36_2 : wr.cell? ⟨gb117, 2, none⟩ = some (.int .i64 a0_2) := (zb_ BK117.out 2).trans rfl
     have hfz36_0 := za_ BK117.out 0
     have hfz36_1 := za_ BK117.out 1
     have hfz36_2 := za_ BK117.out 2
     obtain ⟨Ao37, co37, eo37⟩ := Kd.yg_ HO_3.out
     subst eo37
     go_wp2_with (first | ((with_reducible refine ye_ (b := .append) (xs := #[.tmp 18, .tmp 19]) rfl ?_); at_builtin; refine Kd.y7_ (Kd.int .u8) (w0 := w) w.heap.size rfl (.tmp 18) (.tmp 19) 29 5 (.int .u8 0) 1 rfl Tryd.underlying29 info5 rfl (by decide) (by omega) (.slice Ao37 x3_1.length co37) x3_1 0 [.int .u8 0] (fun _ => True) (fun _ => False) rfl rfl ?aP (fun _ hk => hk.elim) ?aF ?aO ?aB ?aS ?aL ?_; (case aP => exact rfl); (case aB => exact bel_); (case aF => exact (fun _ _ => trivial)); (case aO => exact (ro_ HO_3.out)); (case aS => exact (zf_ bel_)); (case aL => have := LMc35.out; omega); intro v122 w38 ho hb hg hat; rw [← Ny121.out] at ho; have n0_ := AM (yu_ (g := gb117) (o := .cells #[.slice A0_0 l0_0.length c0_0, .string a0_1, .int .i64 a0_2] 39 (0, 0)) (bk_ BK117.out) hg (Kd.R_ne HO_3.out BK117.out (by decide))); have n1_ := AM hb; have n2_ := AM ho; clear BK117; clear HB; clear HO_3; have BK117 := n0_; have HB := n1_; have HO123 := n2_; clear n0_ n1_ n2_; clear ho hb hg hat))
     go_roundg k1
     case measure => have := HK1.out; omega
     case rel => exact ⟨(y121), H', ⟨by have := HK1.out; omega⟩, ⟨ro_ HO123.out⟩, ⟨bk_ BK117.out⟩, ⟨bel_⟩⟩
    ·
     rw [if_neg c35] at H
     exact absurd H (by simp)
/-! ### y4_: function 100 -/
def y4_.f  : Option (List Int) := some (([1779033703, 3144134277, 1013904242, 2773480762, 1359893119, 2600822924, 528734635, 1541459225] : List Int))
theorem y4_.calls  (r : List Int) (w : World) (h : y4_.f  = some r) :
 Calls Tryd.prog 100 #[] w fun e w' => ∃ v0_ : Value, e = .returned (v0_) ∧ Kd.R (Kd.int .i64) 2 w' w.heap.size (fun _ => True) v0_ r ∧ Below w.heap.size w w' := by
 have HB := AM (Below.refl w.heap.size w)
 have H : (some (([1779033703, 3144134277, 1013904242, 2773480762, 1359893119, 2600822924, 528734635, 1541459225] : List Int))) = some r := h
 clear h
 obtain ⟨y143, hy143⟩ : ∃ y_ : List Int, y_ = (([1779033703, 3144134277, 1013904242, 2773480762, 1359893119, 2600822924, 528734635, 1541459225] : List Int)) := ⟨_, rfl⟩
 replace H : (some y143) = some r := hy_ hy143 H
 have Ny143 := AM hy143
 clear hy143
 obtain rfl := Option.some.inj H
 go_enter Tryd.func100, Tryd.ntmps100
 go_wp2_with (first | ((with_reducible refine zy_ (N := 1) rfl ?_); refine Kd.R_lit (Kd.int .i64) _ 2 ?hgL4 (N := 1) ?hdL4 (xs := ([1779033703, 3144134277, 1013904242, 2773480762, 1359893119, 2600822924, 528734635, 1541459225] : List Int)) (inner := [.int .i64 1779033703, .int .i64 3144134277, .int .i64 1013904242, .int .i64 2773480762, .int .i64 1359893119, .int .i64 2600822924, .int .i64 528734635, .int .i64 1541459225]) (ok := fun _ => True) (okp := fun _ => True) ?hrL4 ?hpL4 (fun _ hk => hk) trivial (Below.refl _ _) (Nat.le_refl _) (by simp) ?_; (case hdL4 => rfl); (case hgL4 => rfl); (case hrL4 => first | (go_simp; done) | (go_simp; rfl)); (case hpL4 => exact (Reps.one (show Kd.M (Kd.int .i64) _ _ _ 1779033703 [.int .i64 1779033703] from rfl) (Reps.one (show Kd.M (Kd.int .i64) _ _ _ 3144134277 [.int .i64 3144134277] from rfl) (Reps.one (show Kd.M (Kd.int .i64) _ _ _ 1013904242 [.int .i64 1013904242] from rfl) (Reps.one (show Kd.M (Kd.int .i64) _ _ _ 2773480762 [.int .i64 2773480762] from rfl) (Reps.one (show Kd.M (Kd.int .i64) _ _ _ 1359893119 [.int .i64 1359893119] from rfl) (Reps.one (show Kd.M (Kd.int .i64) _ _ _ 2600822924 [.int .i64 2600822924] from rfl) (Reps.one (show Kd.M (Kd.int .i64) _ _ _ 528734635 [.int .i64 528734635] from rfl) (Reps.one (show Kd.M (Kd.int .i64) _ _ _ 1541459225 [.int .i64 1541459225] from rfl) (Reps.none _ _)))))))))); intro v144 w1 ho2 hb hg_ hnew_; clear hg_ hnew_; (first | rw [← Ny143.out] at ho2 | (simp only [Int.reduceToNat] at ho2; rw [← Ny143.out] at ho2)); have HO145 := AM (Kd.ya_ ho2 (zf_ bel_)); replace HB := AM (zc_ bel_ hb); clear hb ho2))
 go_ret
 exact ⟨_, ri_, ro_ HO145.out, bel_⟩
/-! ### yX_: function 57 -/
def yX_.f  : Option (List Int × ByteArray × Int) := (y4_.f).bind fun t147 => (some (t147, (⟨#[]⟩ : ByteArray), 0))
theorem yX_.calls  (r1 : List Int) (r2 : ByteArray) (r3 : Int) (w : World) (h : yX_.f  = some (r1, r2, r3)) :
 Calls Tryd.prog 57 #[] w fun e w' => ∃ v0_ : Value, e = .returned (.agg #[v0_, .string r2, .int .i64 r3]) ∧ Kd.R (Kd.int .i64) 2 w' w.heap.size (fun _ => True) v0_ r1 ∧ Below w.heap.size w w' := by
 have hu39 := Tryd.underlying39
 have HB := AM (Below.refl w.heap.size w)
 have H : ((y4_.f).bind fun t147 => (some (t147, (⟨#[]⟩ : ByteArray), 0))) = some (r1, r2, r3) := h
 clear h
 obtain ⟨t147, A1, H⟩ := OB H
 try dsimp only at H
 replace A1 := AM A1
 simp only [Option.some.injEq, Prod.mk.injEq] at H
 obtain ⟨rfl, rfl, rfl⟩ := H
 go_enter Tryd.func57, Tryd.ntmps57
 go_wp2_with (first | ((with_reducible refine zy_ (N := 0) rfl ?_); refine be_ 0 #[.slice none 0 0, .string (⟨#[]⟩ : ByteArray), .int .i64 0] 39 ?_; intro gb146 hg w2 hbox hb; have BK146 := AM hbox; have GW146 := AM ((by rw [hg]; exact (zf_ bel_) : w.heap.size ≤ gb146)); have GE146 := AM ((by rw [hg]; exact (zf_ bel_) : w.heap.size ≤ gb146)); replace HB := AM (zc_ bel_ hb); clear hb hbox hg) | ((with_reducible refine zg_ (f := 100) rfl ?_); refine gl_ (some 1) Tryd.func100 #[] ?_; (with_reducible refine (y4_.calls  t147 _ A1.out).mono ?_); rintro e w3 ⟨v148, rfl, ho0, hb⟩; refine ⟨_, rfl, ?_⟩; have HO149 := AM (Kd.ya_ ho0 (zf_ bel_)); replace BK146 := AM (zh_ (g := gb146) (o := .cells #[.slice none 0 0, .string (⟨#[]⟩ : ByteArray), .int .i64 0] 39 (0, 0)) (bk_ BK146.out) hb); replace HB := AM (zc_ bel_ hb); (try clear hb); (try clear ho0); obtain ⟨Ao4, co4, eo4⟩ := Kd.yg_ HO149.out; subst eo4; have hcz5_0 : w3.cell? ⟨gb146, 0, none⟩ = some (.slice none 0 0) := (zb_ BK146.out 0).trans rfl; have hcz5_1 : w3.cell? ⟨gb146, 1, none⟩ = some (.string (⟨#[]⟩ : ByteArray)) := (zb_ BK146.out 1).trans rfl; have hcz5_2 : w3.cell? ⟨gb146, 2, none⟩ = some (.int .i64 0) := (zb_ BK146.out 2).trans rfl; have hfz5_0 := za_ BK146.out 0; have hfz5_1 := za_ BK146.out 1; have hfz5_2 := za_ BK146.out 2))
 refine bodyPost_ret (results_cell_row rfl _ _ gb146 39 #[.slice Ao4 t147.length co4, .string (⟨#[]⟩ : ByteArray), .int .i64 0] (0, 0) _ rfl bka_ Tryd.underlying39 rfl (by kernel_rfl)) rfl ?_
 exact ⟨_, ri_, by (with_reducible repeat (first | apply Kd.yv_ | apply Kd.yt_ | apply Kd.yI_)); exact Kd.z9_ (Kd.R_far (p := ⟨gb146, 2, none⟩) (Kd.R_far (p := ⟨gb146, 1, none⟩) (Kd.R_far (p := ⟨gb146, 0, none⟩) (Kd.yB_ HO149.out BK146.out (by decide)) (fun _ hk => hk.2) (.slice Ao4 t147.length co4)) (fun _ hk => hk.2) (.string (⟨#[]⟩ : ByteArray))) (fun _ hk => hk.2) (.int .i64 0)) (fun _ hk => trivial), bel_⟩
/-! ### yE_: function 21 -/
def yE_.f (k : Nat) (a0 : ByteArray) : Option (ByteArray) := if (a0.size : Int) > 20000 then (some (⟨#[]⟩ : ByteArray)) else ((yX_.f).bind fun bt150 => ((zr_.f k bt150.1 bt150.2.1 bt150.2.2 a0).bind fun bt155 => ((zq_.f k bt155.1 bt155.2.1 bt155.2.2).bind fun t160 => (some t160))))
theorem yE_.mono : ∀ a0 k, LeO (yE_.f k a0) (yE_.f (k + 1) a0) := by
 intro a0 k
 unfold yE_.f
 repeat' with_reducible first | exact zq_.mono _ _ _ _ | exact zr_.mono _ _ _ _ _ | exact LeO.refl _ | exact LeO.none _ | refine LeO.ite ?_ ?_ | refine LeO.bind ?_ (fun _ => ?_)
theorem yE_.calls (k : Nat) (a0 : ByteArray) (r : ByteArray) (w : World) (h : yE_.f k a0 = some r) :
 Calls Tryd.prog 21 #[.string a0] w fun e w' => e = .returned (.string r) ∧ Below w.heap.size w w' := by
 have HB := AM (Below.refl w.heap.size w)
 have H : (if (a0.size : Int) > 20000 then (some (⟨#[]⟩ : ByteArray)) else ((yX_.f).bind fun bt150 => ((zr_.f k bt150.1 bt150.2.1 bt150.2.2 a0).bind fun bt155 => ((zq_.f k bt155.1 bt155.2.1 bt155.2.2).bind fun t160 => (some t160))))) = some r := h
 clear h
 by_cases c2 : (a0.size : Int) > 20000
 ·
  rw [if_pos c2] at H
  have c2b0 : decide (20000 < (a0.size : Int)) = true := decide_eq_true c2
  have c2b1 : decide (20000 < a0.size) = true := decide_eq_true (by omega)
  clear c2
  obtain rfl := Option.some.inj H
  go_enter Tryd.func21, Tryd.ntmps21
  go_wp2
  go_ret
  exact ⟨ri_, bel_⟩
 ·
  rw [if_neg c2] at H
  have c2b0 : decide (20000 < (a0.size : Int)) = false := decide_eq_false c2
  have c2b1 : decide (20000 < a0.size) = false := decide_eq_false (by omega)
  clear c2
  obtain ⟨⟨t150, t153, t154⟩, A3, H⟩ := OB H
  try dsimp only at H
  replace A3 := AM A3
  obtain ⟨⟨t155, t158, t159⟩, A4, H⟩ := OB H
  try dsimp only at H
  replace A4 := AM A4
  obtain ⟨t160, A5, H⟩ := OB H
  try dsimp only at H
  replace A5 := AM A5
  obtain rfl := Option.some.inj H
  go_enter Tryd.func21, Tryd.ntmps21
  go_wp2_with (first | ((with_reducible refine zg_ (f := 57) rfl ?_); refine gl_ (some 6) Tryd.func57 #[] ?_; (with_reducible refine (yX_.calls  t150 t153 t154 _ A3.out).mono ?_); rintro e w6 ⟨v151, rfl, ho0, hb⟩; refine ⟨_, rfl, ?_⟩; have HO152 := AM (Kd.ya_ ho0 (zf_ bel_)); replace HB := AM (zc_ bel_ hb); (try clear hb); (try clear ho0); obtain ⟨Ao7, co7, eo7⟩ := Kd.yg_ HO152.out; subst eo7) | ((with_reducible refine zg_ (f := 56) rfl ?_); refine gl_ (some 8) Tryd.func56 #[.agg #[.slice Ao7 t150.length co7, .string t153, .int .i64 t154], .string a0] ?_; (with_reducible refine (zr_.calls k _ _ t150 t153 t154 a0 t155 t158 t159 _ ?side1 ?side2 A4.out).mono ?_); (case side1 => repeat (first | exact (Kd.zY_ HO152.out).2.2 | (with_reducible refine Kd.yo_ ?_ _) | (with_reducible refine Kd.yn_ ?_ _) | (with_reducible refine Kd.yz_ ?_))); (case side2 => exact (Kd.zY_ HO152.out).2.1); rintro e w8 ⟨v156, rfl, ho0, hb⟩; refine ⟨_, rfl, ?_⟩; have HO157 := AM (Kd.ya_ (Kd.xf_ ho0 (Kd.R_lt (ro_ HO152.out))) (zf_ bel_)); replace HO152 := AM (Kd.yJ_ (ro_ HO152.out) (Kd.xh_ ho0) hb); replace HB := AM (zc_ bel_ hb); (try clear hb); (try clear ho0); obtain ⟨Ao9, co9, eo9⟩ := Kd.yg_ HO157.out; subst eo9) | ((with_reducible refine zg_ (f := 55) rfl ?_); refine gl_ (some 9) Tryd.func55 #[.agg #[.slice Ao9 t155.length co9, .string t158, .int .i64 t159]] ?_; (with_reducible refine (zq_.calls k _ _ t155 t158 t159 t160 _ ?side1 ?side2 A5.out).mono ?_); (case side1 => repeat (first | exact (Kd.zY_ HO157.out).2.2 | (with_reducible refine Kd.yo_ ?_ _) | (with_reducible refine Kd.yn_ ?_ _) | (with_reducible refine Kd.yz_ ?_))); (case side2 => exact (Kd.zY_ HO157.out).2.1); rintro e w10 ⟨rfl, hb⟩; refine ⟨_, rfl, ?_⟩; replace HO152 := AM (Kd.zX_ (ro_ HO152.out) hb); replace HO157 := AM (Kd.zX_ (ro_ HO157.out) hb); replace HB := AM (zc_ bel_ hb); (try clear hb)))
  go_ret
  exact ⟨ri_, bel_⟩
/-! ### yp_: function 95 -/
def yp_.f (a0_0 : Int) (a0_1 : ByteArray) : Option (Bool) := if a0_0 = 1 then (some (decide ((a0_1.size : Int) ≤ 2000))) else (if a0_0 = 2 then (some (decide ((a0_1.size : Int) ≤ 2000))) else (some false))
theorem yp_.calls (a0_0 : Int) (a0_1 : ByteArray) (r : Bool) (w : World) (h : yp_.f a0_0 a0_1 = some r) :
 Calls Tryd.prog 95 #[.agg #[.int .i64 a0_0, .string a0_1]] w fun e w' => e = .returned (.bool r) ∧ Below w.heap.size w w' := by
 have hu60 := Tryd.underlying60
 have HB := AM (Below.refl w.heap.size w)
 have H : (if a0_0 = 1 then (some (decide ((a0_1.size : Int) ≤ 2000))) else (if a0_0 = 2 then (some (decide ((a0_1.size : Int) ≤ 2000))) else (some false))) = some r := h
 clear h
 by_cases c2 : a0_0 = 1
 ·
  rw [if_pos c2] at H
  have c2b0 : (a0_0 == 1) = true := beq_iff_eq.mpr c2
  have c2b1 : (a0_0 != 1) = false := bne_eq_false_iff_eq.mpr c2
  clear c2
  obtain rfl := Option.some.inj H
  go_enter Tryd.func95, Tryd.ntmps95
  go_wp2_with (first | ((with_reducible refine zy_ (N := 1) rfl ?_); (try (refine yh_ (by rfl) ?_; dsimp only)); refine be_ 1 #[.int .i64 a0_0, .string a0_1] 60 ?_; intro gb161 hg w3 hbox hb; have BK161 := AM hbox; have GW161 := AM ((by rw [hg]; exact (zf_ bel_) : w.heap.size ≤ gb161)); have GE161 := AM ((by rw [hg]; exact (zf_ bel_) : w.heap.size ≤ gb161)); replace HB := AM (zc_ bel_ hb); clear hb hbox hg; have hcz4_0 : w3.cell? ⟨gb161, 0, none⟩ = some (.int .i64 a0_0) := (zb_ BK161.out 0).trans rfl; have hcz4_1 : w3.cell? ⟨gb161, 1, none⟩ = some (.string a0_1) := (zb_ BK161.out 1).trans rfl; have hfz4_0 := za_ BK161.out 0; have hfz4_1 := za_ BK161.out 1))
  go_ret
  exact ⟨ri_, bel_⟩
 ·
  rw [if_neg c2] at H
  have c2b0 : (a0_0 == 1) = false := beq_eq_false_iff_ne.mpr c2
  have c2b1 : (a0_0 != 1) = true := bne_iff_ne.mpr c2
  by_cases c5 : a0_0 = 2
  ·
   rw [if_pos c5] at H
   have c5b0 : (a0_0 == 2) = true := beq_iff_eq.mpr c5
   have c5b1 : (a0_0 != 2) = false := bne_eq_false_iff_eq.mpr c5
   clear c5
   obtain rfl := Option.some.inj H
   go_enter Tryd.func95, Tryd.ntmps95
   go_wp2_with (first | ((with_reducible refine zy_ (N := 1) rfl ?_); (try (refine yh_ (by rfl) ?_; dsimp only)); refine be_ 1 #[.int .i64 a0_0, .string a0_1] 60 ?_; intro gb161 hg w6 hbox hb; have BK161 := AM hbox; have GW161 := AM ((by rw [hg]; exact (zf_ bel_) : w.heap.size ≤ gb161)); have GE161 := AM ((by rw [hg]; exact (zf_ bel_) : w.heap.size ≤ gb161)); replace HB := AM (zc_ bel_ hb); clear hb hbox hg; have hcz7_0 : w6.cell? ⟨gb161, 0, none⟩ = some (.int .i64 a0_0) := (zb_ BK161.out 0).trans rfl; have hcz7_1 : w6.cell? ⟨gb161, 1, none⟩ = some (.string a0_1) := (zb_ BK161.out 1).trans rfl; have hfz7_0 := za_ BK161.out 0; have hfz7_1 := za_ BK161.out 1))
   go_ret
   exact ⟨ri_, bel_⟩
  ·
   rw [if_neg c5] at H
   have c5b0 : (a0_0 == 2) = false := beq_eq_false_iff_ne.mpr c5
   have c5b1 : (a0_0 != 2) = true := bne_iff_ne.mpr c5
   obtain rfl := Option.some.inj H
   go_enter Tryd.func95, Tryd.ntmps95
   go_wp2_with (first | ((with_reducible refine zy_ (N := 1) rfl ?_); (try (refine yh_ (by rfl) ?_; dsimp only)); refine be_ 1 #[.int .i64 a0_0, .string a0_1] 60 ?_; intro gb161 hg w8 hbox hb; have BK161 := AM hbox; have GW161 := AM ((by rw [hg]; exact (zf_ bel_) : w.heap.size ≤ gb161)); have GE161 := AM ((by rw [hg]; exact (zf_ bel_) : w.heap.size ≤ gb161)); replace HB := AM (zc_ bel_ hb); clear hb hbox hg; have hcz9_0 : w8.cell? ⟨gb161, 0, none⟩ = some (.int .i64 a0_0) := (zb_ BK161.out 0).trans rfl; have hcz9_1 : w8.cell? ⟨gb161, 1, none⟩ = some (.string a0_1) := (zb_ BK161.out 1).trans rfl; have hfz9_0 := za_ BK161.out 0; have hfz9_1 := za_ BK161.out 1))
   go_ret
   exact ⟨ri_, bel_⟩
/-! ### yV_: function 141 -/
def yV_.f (a0 : Int) : Option (Int) := if a0 < 0 then (some (IntKind.u64.wrap ((IntKind.u64.wrap (2 * (IntKind.u64.wrap (wrap64 (-(wrap64 (a0 + 1))))))) + 1))) else (some (IntKind.u64.wrap (2 * (IntKind.u64.wrap (a0)))))
theorem yV_.calls (a0 : Int) (r : Int) (w : World) (h : yV_.f a0 = some r) :
 Calls Tryd.prog 141 #[.int .i64 a0] w fun e w' => e = .returned (.int .u64 r) ∧ yO_ w w' := by
 have H : (if a0 < 0 then (some (IntKind.u64.wrap ((IntKind.u64.wrap (2 * (IntKind.u64.wrap (wrap64 (-(wrap64 (a0 + 1))))))) + 1))) else (some (IntKind.u64.wrap (2 * (IntKind.u64.wrap (a0)))))) = some r := h
 clear h
 by_cases c2 : a0 < 0
 ·
  rw [if_pos c2] at H
  have c2b0 : decide (a0 < 0) = true := decide_eq_true c2
  clear c2
  obtain rfl := Option.some.inj H
  go_enter Tryd.func141, Tryd.ntmps141
  go_wp2
  go_ret
  exact ⟨re_, dr_⟩
 ·
  rw [if_neg c2] at H
  have c2b0 : decide (a0 < 0) = false := decide_eq_false c2
  clear c2
  obtain rfl := Option.some.inj H
  go_enter Tryd.func141, Tryd.ntmps141
  go_wp2
  go_ret
  exact ⟨re_, dr_⟩
/-! ### zL_: function 119 -/
def zL_.l0 : Nat → Int → List Int → Option (ByteArray)
 | 0, _, _ => none
 | k + 1, x3, x4 => if x3 ≥ 128 then (if x4.length < 140737488355328 then (zL_.l0 k (IntKind.u64.wrap (Int.tdiv x3 128)) (x4 ++ [(IntKind.u64.wrap ((Int.tmod x3 128) + 128)) % 256])) else (none)) else (if x4.length < 140737488355328 then (some (strOfNums (x4 ++ [(x3) % 256]))) else (none))
def zL_.f (k : Nat) (a0 : Int) : Option (ByteArray) := (yV_.f a0).bind fun t162 => (zL_.l0 k t162 (([] : List Int)))
theorem zL_.mono_l : ∀ k, (∀ y0 y1, LeO (zL_.l0 k y0 y1) (zL_.l0 (k + 1) y0 y1))
 | 0 => fun _ _ r h => by simp [zL_.l0] at h
 | k + 1 => by
  have ih0 := zL_.mono_l k
  ·
   intro y0 y1
   unfold zL_.l0
   repeat' with_reducible first | exact ih0 _ _ | exact LeO.refl _ | exact LeO.none _ | refine LeO.ite ?_ ?_ | refine LeO.bind ?_ (fun _ => ?_)
theorem zL_.mono : ∀ a0 k, LeO (zL_.f k a0) (zL_.f (k + 1) a0) := by
 intro a0 k
 have ih0 := zL_.mono_l k
 unfold zL_.f
 repeat' with_reducible first | exact ih0 _ _ | exact LeO.refl _ | exact LeO.none _ | refine LeO.ite ?_ ?_ | refine LeO.bind ?_ (fun _ => ?_)
theorem zL_.calls (k : Nat) (a0 : Int) (r : ByteArray) (w : World) (h : zL_.f k a0 = some r) :
 Calls Tryd.prog 119 #[.int .i64 a0] w fun e w' => e = .returned (.string r) ∧ Below w.heap.size w w' := by
 have HB := AM (Below.refl w.heap.size w)
 have H : ((yV_.f a0).bind fun t162 => (zL_.l0 k t162 (([] : List Int)))) = some r := h
 clear h
 obtain ⟨t162, A2, H⟩ := OB H
 try dsimp only at H
 replace A2 := AM A2
 obtain ⟨y163, hy163⟩ : ∃ y_ : List Int, y_ = (([] : List Int)) := ⟨_, rfl⟩
 replace H : (zL_.l0 k t162 y163) = some r := hy_ hy163 H
 have Ny163 := AM hy163
 clear hy163
 have H' := AM H
 clear H
 go_enter Tryd.func119, Tryd.ntmps119
 go_wp2_with (first | ((with_reducible refine zg_ (f := 141) rfl ?_); refine gl_ (some 6) Tryd.func141 #[.int .i64 a0] ?_; (with_reducible refine (yV_.calls a0 t162 _ A2.out).mono ?_); rintro e w' ⟨rfl, ⟨nd, rfl⟩⟩; refine ⟨_, rfl, ?_⟩) | ((with_reducible refine zy_ (N := 7) rfl ?_); refine Kd.R_lit (Kd.int .u8) _ 5 ?hgL5 (N := 7) ?hdL5 (xs := ([] : List Int)) (inner := []) (ok := fun _ => True) (okp := fun _ => True) ?hrL5 ?hpL5 (fun _ hk => hk) trivial (Below.refl _ _) (Nat.le_refl _) (by simp) ?_; (case hdL5 => rfl); (case hgL5 => rfl); (case hrL5 => first | (go_simp; done) | (go_simp; rfl)); (case hpL5 => exact (Reps.none _ _)); intro v164 w3 ho4 hb hg_ hnew_; clear hg_ hnew_; (first | rw [← Ny163.out] at ho4 | (simp only [Int.reduceToNat] at ho4; rw [← Ny163.out] at ho4)); have HO165 := AM (Kd.ya_ ho4 (zf_ bel_)); replace HB := AM (zc_ bel_ hb); clear hb ho4))
 go_loopg [3, 4] k (fun kq v3 v4 w' => ∃ (x3_1 : Int) (x4_1 : List Int), v3 = .int .u64 x3_1 ∧ zd_ (zL_.l0 kq x3_1 x4_1 = some r) ∧ zd_ (kq ≤ k) ∧ zd_ (Kd.R (Kd.int .u8) 5 w' w.heap.size (fun _ => True) v4 x4_1) ∧ zd_ (Below w.heap.size w w'))
 case atStart => exact ⟨(t162), (y163), re_, H', ⟨Nat.le_refl _⟩, ⟨ro_ HO165.out⟩, ⟨bel_⟩⟩
 case round =>
  clear H'
  obtain ⟨x3_1, x4_1, rfl, HA, HK1, HO_4, HB⟩ := hrel
  cases gk with
  | zero => exact absurd HA.out (by simp [zL_.l0])
  | succ k1 =>
   have H := HA.out
   clear HA
   simp only [zL_.l0] at H
   by_cases c5 : x3_1 ≥ 128
   ·
    rw [if_pos c5] at H
    have c5b0 : decide (128 ≤ x3_1) = true := decide_eq_true c5
    clear c5
    by_cases c6 : x4_1.length < 140737488355328
    ·
     rw [if_pos c6] at H
     have LMc6 := AM c6
     clear c6
     obtain ⟨y166, hy166⟩ : ∃ y_ : List Int, y_ = (x4_1 ++ [(IntKind.u64.wrap ((Int.tmod x3_1 128) + 128)) % 256]) := ⟨_, rfl⟩
     replace H : (zL_.l0 k1 (IntKind.u64.wrap (Int.tdiv x3_1 128)) y166) = some r := hy_ hy166 H
     have Ny166 := AM hy166
     clear hy166
     have H' := AM H
     clear H
     go_wp2_with (first | ((with_reducible refine ye_ (b := .append) (xs := #[.tmp 10, .tmp 15]) rfl ?_); at_builtin; refine Kd.y7_ (Kd.int .u8) (w0 := w) w.heap.size rfl (.tmp 10) (.tmp 15) 29 5 (.int .u8 0) 1 rfl Tryd.underlying29 info5 rfl (by decide) (by omega) u4 x4_1 ((IntKind.u64.wrap ((Int.tmod x3_1 128) + 128)) % 256) [.int .u8 ((IntKind.u64.wrap ((Int.tmod x3_1 128) + 128)) % 256)] (fun _ => True) (fun _ => False) rfl rfl ?aP (fun _ hk => hk.elim) ?aF ?aO ?aB ?aS ?aL ?_; (case aP => exact rfl); (case aB => exact bel_); (case aF => exact (fun _ _ => trivial)); (case aO => exact (ro_ HO_4.out)); (case aS => exact (zf_ bel_)); (case aL => have := LMc6.out; omega); intro v167 w7 ho hb hg hat; rw [← Ny166.out] at ho; have n0_ := AM hb; have n1_ := AM ho; clear HB; clear HO_4; have HB := n0_; have HO168 := n1_; clear n0_ n1_; clear ho hb hg hat))
     go_roundg k1
     case measure => have := HK1.out; omega
     case rel => exact ⟨(IntKind.u64.wrap (Int.tdiv x3_1 128)), (y166), re_, H', ⟨by have := HK1.out; omega⟩, ⟨ro_ HO168.out⟩, ⟨bel_⟩⟩
    ·
     rw [if_neg c6] at H
     exact absurd H (by simp)
   ·
    rw [if_neg c5] at H
    have c5b0 : decide (128 ≤ x3_1) = false := decide_eq_false c5
    clear c5
    by_cases c8 : x4_1.length < 140737488355328
    ·
     rw [if_pos c8] at H
     have LMc8 := AM c8
     clear c8
     obtain ⟨y169, hy169⟩ : ∃ y_ : List Int, y_ = (x4_1 ++ [(x3_1) % 256]) := ⟨_, rfl⟩
     replace H : (some (strOfNums y169)) = some r := hy_ hy169 H
     have Ny169 := AM hy169
     clear hy169
     obtain rfl := Option.some.inj H
     go_wp2_with (first | ((with_reducible refine ye_ (b := .append) (xs := #[.tmp 19, .tmp 22]) rfl ?_); at_builtin; refine Kd.y7_ (Kd.int .u8) (w0 := w) w.heap.size rfl (.tmp 19) (.tmp 22) 29 5 (.int .u8 0) 1 rfl Tryd.underlying29 info5 rfl (by decide) (by omega) u4 x4_1 ((x3_1) % 256) [.int .u8 ((x3_1) % 256)] (fun _ => True) (fun _ => False) rfl rfl ?aP (fun _ hk => hk.elim) ?aF ?aO ?aB ?aS ?aL ?_; (case aP => exact rfl); (case aB => exact bel_); (case aF => exact (fun _ _ => trivial)); (case aO => exact (ro_ HO_4.out)); (case aS => exact (zf_ bel_)); (case aL => have := LMc8.out; omega); intro v170 w9 ho hb hg hat; rw [← Ny169.out] at ho; have n0_ := AM hb; have n1_ := AM ho; clear HB; clear HO_4; have HB := n0_; have HO171 := n1_; clear n0_ n1_; clear ho hb hg hat; have hcv10 := yF_ (P := Tryd.prog) Tryd.underlying29 Tryd.underlying5 Tryd.underlying9 (Kd.yL_ HO171.out)))
     go_ret
     exact ⟨ri_, bel_⟩
    ·
     rw [if_neg c8] at H
     exact absurd H (by simp)
/-! ### zT_: function 83 -/
def zT_.f (k : Nat) (a0_0 : Int) (a0_1 : ByteArray) : Option (ByteArray) := (yp_.f a0_0 a0_1).bind fun t173 => (if t173 = true then ((zL_.f k a0_0).bind fun t174 => (if t174.size + a0_1.size ≤ 9223372036854775807 then ((yE_.f k (t174 ++ a0_1)).bind fun t175 => (some t175)) else (none))) else (some (⟨#[]⟩ : ByteArray)))
theorem zT_.mono : ∀ a0 a1 k, LeO (zT_.f k a0 a1) (zT_.f (k + 1) a0 a1) := by
 intro a0 a1 k
 unfold zT_.f
 repeat' with_reducible first | exact yE_.mono _ _ | exact zL_.mono _ _ | exact LeO.refl _ | exact LeO.none _ | refine LeO.ite ?_ ?_ | refine LeO.bind ?_ (fun _ => ?_)
def zT_.T3 : Bool × List (List Nat × List Nat) := (true, [([], []), ([0], [0]), ([1], [1]), ([], []), ([3], [3]), ([2, 4], [2, 4]), ([5, 2], [5]), ([6, 6, 0, 1, 2, 3, 4, 5, 6], [6])])
def zT_.B3 : List Nat := [0, 1, 3, 0, 8, 31, 63, 127]
theorem zT_.tab3 : rtab .any (opsOf Tryd.f83 3) = zT_.T3 := by kernel_rfl
theorem zT_.bits3 : yR_ zT_.T3.2 zT_.B3 = true := by kernel_rfl
theorem zT_.calls (k : Nat) (a0_0 : Int) (a0_1 : ByteArray) (r : ByteArray) (w : World) (h : zT_.f k a0_0 a0_1 = some r) :
 Calls Tryd.prog 83 #[.agg #[.int .i64 a0_0, .string a0_1]] w fun e w' => e = .returned (.string r) ∧ Below w.heap.size w w' := by
 have hu60 := Tryd.underlying60
 have HB := AM (Below.refl w.heap.size w)
 have H : ((yp_.f a0_0 a0_1).bind fun t173 => (if t173 = true then ((zL_.f k a0_0).bind fun t174 => (if t174.size + a0_1.size ≤ 9223372036854775807 then ((yE_.f k (t174 ++ a0_1)).bind fun t175 => (some t175)) else (none))) else (some (⟨#[]⟩ : ByteArray)))) = some r := h
 clear h
 obtain ⟨t173, A2, H⟩ := OB H
 try dsimp only at H
 replace A2 := AM A2
 by_cases c3 : t173 = true
 ·
  subst c3
  rw [if_pos rfl] at H
  obtain ⟨t174, A4, H⟩ := OB H
  try dsimp only at H
  replace A4 := AM A4
  by_cases c5 : t174.size + a0_1.size ≤ 9223372036854775807
  ·
   rw [if_pos c5] at H
   have c5b0 := eq_true c5
   have c5b1 : decide (t174.size + a0_1.size ≤ 9223372036854775807) = true := decide_eq_true c5
   try have c5b2 : (9223372036854775807 < t174.size + a0_1.size) = False := eq_false (Nat.not_lt.2 c5)
   obtain ⟨t175, A6, H⟩ := OB H
   try dsimp only at H
   replace A6 := AM A6
   obtain rfl := Option.some.inj H
   go_enter Tryd.func83, Tryd.ntmps83
   try go_wp2_with (first | ((with_reducible refine zy_ (N := 1) rfl ?_); refine be_ 1 #[.int .i64 a0_0, .string a0_1] 60 ?_; intro gb172 hg w7 hbox hb; have BK172 := AM hbox; have GW172 := AM ((by rw [hg]; exact (zf_ bel_) : w.heap.size ≤ gb172)); have GE172 := AM ((by rw [hg]; exact (zf_ bel_) : w.heap.size ≤ gb172)); replace HB := AM (zc_ bel_ hb); clear hb hbox hg; have hcz8_0 : w7.cell? ⟨gb172, 0, none⟩ = some (.int .i64 a0_0) := (zb_ BK172.out 0).trans rfl; have hcz8_1 : w7.cell? ⟨gb172, 1, none⟩ = some (.string a0_1) := (zb_ BK172.out 1).trans rfl; have hfz8_0 := za_ BK172.out 0; have hfz8_1 := za_ BK172.out 1) | ((with_reducible refine zg_ (f := 95) rfl ?_); refine gl_ (some 4) Tryd.func95 #[.agg #[.int .i64 a0_0, .string a0_1]] ?_; (with_reducible refine (yp_.calls a0_0 a0_1 true _ A2.out).mono ?_); rintro e w9 ⟨rfl, hb⟩; refine ⟨_, rfl, ?_⟩; replace BK172 := AM (zh_ (g := gb172) (o := .cells #[.int .i64 a0_0, .string a0_1] 60 (0, 0)) (bk_ BK172.out) hb); replace HB := AM (zc_ bel_ hb); (try clear hb)))
   replace BK172 := AM (zN_ BK172.out)
   replace HB := AM (zF_ HB.out)
   refine yU_ (n := 8) (S := fun w' => w'.cell? ⟨gb172, 0, none⟩ = some (.int .i64 a0_0) ∧ w'.cell? ⟨gb172, 1, none⟩ = some (.string a0_1)) (ds := []) #[false, false, false, false, false, false, false, false] (by kernel_rfl) rfl rfl ⟨(zb_ BK172.out 0).trans rfl, (zb_ BK172.out 1).trans rfl⟩ (fun hHeld => ?_); refine yx_ zT_.tab3 zT_.bits3 (fun HT_ HW_ => ?_)
   generalize w9.drew = w10 at BK172 HB hHeld ⊢
   refine pu_ HT_ 0 (some 6) (bA 8 1) ?_
   refine pu_ HT_ 3 (some 9) (bA 8 9) ?_
   refine ta_ HT_ HW_ 1 (some 7) (bA 8 11) hHeld ?_
   refine ta_ HT_ HW_ 4 (some 10) (bA 8 27) hHeld ?_
   refine on_ HT_ 2 (some 8) (bA 8 31) (fun K hK => ?_)
   refine go1_ Tryd.func119 #[.int .i64 a0_0] ?_
   with_reducible refine (zL_.calls k a0_0 t174 _ A4.out).mono ?_
   rintro e w11 ⟨rfl, hb⟩
   refine ⟨_, rfl, ?_⟩
   replace BK172 := AM (zh_ (g := gb172) (o := .cells #[.int .i64 a0_0, .string a0_1] 60 (0, 0)) (bk_ BK172.out) hb)
   replace HB := AM (zc_ bel_ hb)
   (try clear hb)
   refine hK.out _ _ ⟨(zb_ BK172.out 0).trans rfl, (zb_ BK172.out 1).trans rfl⟩ (fun hHeld => ?_)
   clear hK K
   refine nm_ ?_
   refine pu_ HT_ 5 (some 11) (bA 8 63) ?_
   refine on_ HT_ 6 (some 12) (bA 8 127) (fun K hK => ?_)
   refine go1_ Tryd.func21 #[.string (t174 ++ a0_1)] ?_
   with_reducible refine (yE_.calls k (t174 ++ a0_1) t175 _ A6.out).mono ?_
   rintro e w12 ⟨rfl, hb⟩
   refine ⟨_, rfl, ?_⟩
   replace BK172 := AM (zh_ (g := gb172) (o := .cells #[.int .i64 a0_0, .string a0_1] 60 (0, 0)) (bk_ BK172.out) hb)
   replace HB := AM (zc_ bel_ hb)
   (try clear hb)
   refine hK.out _ _ ⟨(zb_ BK172.out 0).trans rfl, (zb_ BK172.out 1).trans rfl⟩ (fun hHeld => ?_)
   clear hK K
   refine nm_ ?_
   refine pu_ HT_ 7 (some 2) (bA 8 255) ?_
   refine dn_ HT_ ?_
   try go_wp2
   go_ret
   exact ⟨ri_, bel_⟩
  ·
   rw [if_neg c5] at H
   exact absurd H (by simp)
 ·
  replace c3 := Bool.eq_false_iff.mpr c3
  subst c3
  rw [if_neg (show ¬ (false = true) by decide)] at H
  obtain rfl := Option.some.inj H
  go_enter Tryd.func83, Tryd.ntmps83
  go_wp2_with (first | ((with_reducible refine zy_ (N := 1) rfl ?_); refine be_ 1 #[.int .i64 a0_0, .string a0_1] 60 ?_; intro gb172 hg w13 hbox hb; have BK172 := AM hbox; have GW172 := AM ((by rw [hg]; exact (zf_ bel_) : w.heap.size ≤ gb172)); have GE172 := AM ((by rw [hg]; exact (zf_ bel_) : w.heap.size ≤ gb172)); replace HB := AM (zc_ bel_ hb); clear hb hbox hg; have hcz14_0 : w13.cell? ⟨gb172, 0, none⟩ = some (.int .i64 a0_0) := (zb_ BK172.out 0).trans rfl; have hcz14_1 : w13.cell? ⟨gb172, 1, none⟩ = some (.string a0_1) := (zb_ BK172.out 1).trans rfl; have hfz14_0 := za_ BK172.out 0; have hfz14_1 := za_ BK172.out 1) | ((with_reducible refine zg_ (f := 95) rfl ?_); refine gl_ (some 4) Tryd.func95 #[.agg #[.int .i64 a0_0, .string a0_1]] ?_; (with_reducible refine (yp_.calls a0_0 a0_1 false _ A2.out).mono ?_); rintro e w15 ⟨rfl, hb⟩; refine ⟨_, rfl, ?_⟩; replace BK172 := AM (zh_ (g := gb172) (o := .cells #[.int .i64 a0_0, .string a0_1] 60 (0, 0)) (bk_ BK172.out) hb); replace HB := AM (zc_ bel_ hb); (try clear hb)))
  go_ret
  exact ⟨ri_, bel_⟩
end Go.Proofs.YtfffdndeccipnaaDoor.PFnPack
