/- Functions of the law FnNodes: the print's, with walks of this session's own. No statement is proved here. -/
import Derived.WalkLawsBesides
import Derived.Test.YtfffdndeccipnaaPFnNodesx3
namespace Go.Proofs.Ytfffdndeccipnaa.PFnNodes
open Go.RowKit Go.Proofs.YtfffdndeccipnaaW.PrintWords Go.Proofs.YtfffdndeccipnaaW.PrintLast Go.Proofs.YtfffdndeccipnaaW.PrintMore Go.Proofs.Ytfffdndeccipnaa.Reg Go.Proofs.Ytfffdndeccipnaa.Aut
attribute [local go_sem] xE_ xC_ max_two min_two xn_ xm_ xD_ xB_
set_option linter.unusedVariables false
set_option linter.unusedSimpArgs false
set_option maxHeartbeats 8000000
set_option maxRecDepth 100000
/-! ### zy_: function 152 -/
mutual
def zy_.l0 : Nat → List Int → List Int → ByteArray → Int → Option (ByteArray)
 | 0, _, _, _, _ => none
 | k + 1, x3, x124000, x124001, x124002 => if (Int.tmod (wrap64 (x124002 + (x3.length : Int))) 64) = 56 then (zy_.l1 k x3 (IntKind.u64.wrap (wrap64 (8 * x124002))) 56 x124000 x124001 x124002) else (if x3.length < 140737488355328 then (zy_.l0 k (x3 ++ [0]) x124000 x124001 x124002) else (none))
def zy_.l1 : Nat → List Int → Int → Int → List Int → ByteArray → Int → Option (ByteArray)
 | 0, _, _, _, _, _, _ => none
 | k + 1, x3, x4, x5, x124000, x124001, x124002 => if x5 ≥ 0 then (if 0 ≤ (IntKind.u64.wrap (x5)) then (if x3.length < 140737488355328 then (zy_.l1 k (x3 ++ [(shr .u64 x4 (IntKind.u64.wrap (x5))) % 256]) x4 (wrap64 (x5 - 8)) x124000 x124001 x124002) else (none)) else (none)) else ((zz_.f k x124000 x124001 x124002 (strOfNums x3)).bind fun bt133 => (zy_.l2 k (([] : List Int)) 0 bt133.1 bt133.2.1 bt133.2.2))
def zy_.l2 : Nat → List Int → Int → List Int → ByteArray → Int → Option (ByteArray)
 | 0, _, _, _, _, _ => none
 | k + 1, x7, x8, x139000, x139001, x139002 => if x8 < 8 then (if 0 ≤ x8 then (if x8 < (x139000.length : Int) then ((some (([((rd x139000 x8) / 16777216) % 256, ((rd x139000 x8) / 65536) % 256, ((rd x139000 x8) / 256) % 256, (rd x139000 x8) % 256] : List Int) : List Int)).bind fun y143 => (if x7.length + y143.length < 140737488355328 then (zy_.l2 k (x7 ++ y143) (wrap64 (x8 + 1)) x139000 x139001 x139002) else (none))) else (none)) else (none)) else (some (strOfNums x7))
end
def zy_.f (k : Nat) (l0_0 : List Int) (a0_1 : ByteArray) (a0_2 : Int) : Option (ByteArray) := zy_.l0 k (([128] : List Int)) l0_0 a0_1 a0_2
theorem zy_.mono_l : ∀ k, (∀ y0 y1 y2 y3, LeO (zy_.l0 k y0 y1 y2 y3) (zy_.l0 (k + 1) y0 y1 y2 y3)) ∧ (∀ y0 y1 y2 y3 y4 y5, LeO (zy_.l1 k y0 y1 y2 y3 y4 y5) (zy_.l1 (k + 1) y0 y1 y2 y3 y4 y5)) ∧ (∀ y0 y1 y2 y3 y4, LeO (zy_.l2 k y0 y1 y2 y3 y4) (zy_.l2 (k + 1) y0 y1 y2 y3 y4))
 | 0 => ⟨fun _ _ _ _ r h => by simp [zy_.l0] at h, fun _ _ _ _ _ _ r h => by simp [zy_.l1] at h, fun _ _ _ _ _ r h => by simp [zy_.l2] at h⟩
 | k + 1 => by
  obtain ⟨ih0, ih1, ih2⟩ := zy_.mono_l k
  refine ⟨?_, ?_, ?_⟩
  ·
   intro y0 y1 y2 y3
   unfold zy_.l0
   repeat' with_reducible first | exact ih0 _ _ _ _ | exact ih1 _ _ _ _ _ _ | exact ih2 _ _ _ _ _ | exact zz_.mono _ _ _ _ _ | exact LeO.refl _ | exact LeO.none _ | refine LeO.ite ?_ ?_ | refine LeO.bind ?_ (fun _ => ?_)
  ·
   intro y0 y1 y2 y3 y4 y5
   unfold zy_.l1
   repeat' with_reducible first | exact ih0 _ _ _ _ | exact ih1 _ _ _ _ _ _ | exact ih2 _ _ _ _ _ | exact zz_.mono _ _ _ _ _ | exact LeO.refl _ | exact LeO.none _ | refine LeO.ite ?_ ?_ | refine LeO.bind ?_ (fun _ => ?_)
  ·
   intro y0 y1 y2 y3 y4
   unfold zy_.l2
   repeat' with_reducible first | exact ih0 _ _ _ _ | exact ih1 _ _ _ _ _ _ | exact ih2 _ _ _ _ _ | exact zz_.mono _ _ _ _ _ | exact LeO.refl _ | exact LeO.none _ | refine LeO.ite ?_ ?_ | refine LeO.bind ?_ (fun _ => ?_)
theorem zy_.mono : ∀ a0 a1 a2 k, LeO (zy_.f k a0 a1 a2) (zy_.f (k + 1) a0 a1 a2) := by
 intro a0 a1 a2 k
 obtain ⟨ih0, ih1, ih2⟩ := zy_.mono_l k
 unfold zy_.f
 repeat' with_reducible first | exact ih0 _ _ _ _ | exact ih1 _ _ _ _ _ _ | exact ih2 _ _ _ _ _ | exact zz_.mono _ _ _ _ _ | exact LeO.refl _ | exact LeO.none _ | refine LeO.ite ?_ ?_ | refine LeO.bind ?_ (fun _ => ?_)
theorem zy_.calls (k : Nat) (A0_0 : Option Addr) (c0_0 : Nat) (l0_0 : List Int) (a0_1 : ByteArray) (a0_2 : Int) (r : ByteArray) (w : World) (hr0_0 : Kd.C (Kd.int .i64) w A0_0 l0_0.length l0_0) (hc0_0 : l0_0.length ≤ c0_0) (h : zy_.f k l0_0 a0_1 a0_2 = some r) :
 Calls Try.prog 152 #[.agg #[.slice A0_0 l0_0.length c0_0, .string a0_1, .int .i64 a0_2]] w fun e w' => e = .returned (.string r) ∧ Below w.heap.size w w' := by
 have hu191 := Try.underlying191
 have HR0_0 := AM hr0_0
 have HC0_0 := AM hc0_0
 clear hr0_0 hc0_0
 have HB := AM (Below.refl w.heap.size w)
 have H : (zy_.l0 k (([128] : List Int)) l0_0 a0_1 a0_2) = some r := h
 clear h
 obtain ⟨y124, hy124⟩ : ∃ y_ : List Int, y_ = (([128] : List Int)) := ⟨_, rfl⟩
 replace H : (zy_.l0 k y124 l0_0 a0_1 a0_2) = some r := by first | (rw [hy124]; with_reducible exact H) | (have H2_ := (Option.bind_some _ _).symm.trans H; rw [hy124]; with_reducible exact H2_) | (have H2_ := (Option.bind_some _ _).symm.trans H; with_reducible exact H2_) | with_reducible exact H | (rw [hy124]; exact H) | exact H
 have Ny124 := AM hy124
 clear hy124
 have H' := AM H
 clear H
 go_enter Try.func152, Try.ntmps152
 go_wp2_with (first | ((with_reducible refine z6_ (N := 1) rfl ?_); refine be_ 1 #[.slice A0_0 l0_0.length c0_0, .string a0_1, .int .i64 a0_2] 191 ?_; intro gb123 hg w2 hbox hb; have BK123 := AM hbox; have GW123 := AM ((by rw [hg]; exact (zj_ bel_) : w.heap.size ≤ gb123)); have GE123 := AM ((by rw [hg]; exact (zj_ bel_) : w.heap.size ≤ gb123)); replace HB := AM (zg_ bel_ hb); clear hb hbox hg) | ((with_reducible refine z6_ (N := 10) rfl ?_); refine Kd.R_lit (Kd.int .u8) _ 5 ?hgL1 (N := 10) ?hdL1 (xs := ([128] : List Int)) (inner := [.int .u8 128]) (ok := fun _ => True) (okp := fun _ => True) ?hrL1 ?hpL1 (fun _ hk => hk) trivial (Below.refl _ _) (Nat.le_refl _) (by simp) ?_; (case hdL1 => rfl); (case hgL1 => rfl); (case hrL1 => first | (go_simp; done) | (go_simp; rfl)); (case hpL1 => exact (Reps.one (show Kd.M (Kd.int .u8) _ _ _ 128 [.int .u8 128] from rfl) (Reps.none _ _))); intro v125 w3 ho4 hb hg_ hnew_; clear hg_ hnew_; (first | rw [← Ny124.out] at ho4 | (simp only [Int.reduceToNat] at ho4; rw [← Ny124.out] at ho4)); have HO126 := AM (Kd.yE_ ho4 (zj_ bel_)); replace BK123 := AM (zP_ (g := gb123) (o := .cells #[.slice A0_0 l0_0.length c0_0, .string a0_1, .int .i64 a0_2] 191 (0, 0)) (bk_ BK123.out) hb); replace HB := AM (zg_ bel_ hb); clear hb ho4))
 go_loopg [3] k (fun kq v3 w' => ∃ (x3_1 : List Int), zd_ (zy_.l0 kq x3_1 l0_0 a0_1 a0_2 = some r) ∧ zd_ (kq ≤ k) ∧ zd_ (Kd.R (Kd.int .u8) 5 w' w.heap.size (fun _ => True) v3 x3_1) ∧ zd_ (w'.heap[gb123]? = some (.cells #[(.slice A0_0 l0_0.length c0_0), .string a0_1, .int .i64 a0_2] 191 (0, 0))) ∧ zd_ (Below w.heap.size w w'))
 case atStart => exact ⟨(y124), H', ⟨Nat.le_refl _⟩, ⟨ro_ HO126.out⟩, ⟨bk_ BK123.out⟩, ⟨bel_⟩⟩
 case round =>
  clear H'
  obtain ⟨x3_1, HA, HK1, HO_3, BK123, HB⟩ := hrel
  cases gk with
  | zero => exact absurd HA.out (by simp [zy_.l0])
  | succ k1 =>
   have H := HA.out
   clear HA
   simp only [zy_.l0] at H
   by_cases c5 : (Int.tmod (wrap64 (a0_2 + (x3_1.length : Int))) 64) = 56
   ·
    rw [if_pos c5] at H
    have c5b0 : ((Int.tmod (wrap64 (a0_2 + (x3_1.length : Int))) 64) == 56) = true := beq_iff_eq.mpr c5
    try have c5b9 : (((Int.tmod ((a0_2 + (x3_1.length : Int))) 64) == 56)) = true := (by have hw0 : wrap64 (a0_2 + (x3_1.length : Int)) = a0_2 + (x3_1.length : Int) := (by unfold wrap64; omega); have z_ := c5b0; simp only [hw0] at z_; exact z_)
    have c5b1 : ((Int.tmod (wrap64 (a0_2 + (x3_1.length : Int))) 64) != 56) = false := bne_eq_false_iff_eq.mpr c5
    clear c5
    have H' := AM H
    clear H
    have hcz6_0 : wr.cell? ⟨gb123, 0, none⟩ = some (.slice A0_0 l0_0.length c0_0) := (zb_ BK123.out 0).trans rfl
    have hcz6_1 : wr.cell? ⟨gb123, 1, none⟩ = some (.string a0_1) := (zb_ BK123.out 1).trans rfl
    have hcz6_2 : wr.cell? ⟨gb123, 2, none⟩ = some (.int .i64 a0_2) := (zb_ BK123.out 2).trans rfl
    have hfz6_0 := za_ BK123.out 0
    have hfz6_1 := za_ BK123.out 1
    have hfz6_2 := za_ BK123.out 2
    obtain ⟨Ao7, co7, eo7⟩ := Kd.yA_ HO_3.out
    subst eo7
    go_wp2
    go_loopg [3, 5] k1 (fun kq v3 v5 w' => ∃ (x3_2 : List Int) (x5_2 : Int), v5 = .int .i64 x5_2 ∧ zd_ (zy_.l1 kq x3_2 (IntKind.u64.wrap (wrap64 (8 * a0_2))) x5_2 l0_0 a0_1 a0_2 = some r) ∧ zd_ (kq ≤ k1) ∧ zd_ (Kd.R (Kd.int .u8) 5 w' w.heap.size (fun _ => True) v3 x3_2) ∧ zd_ (w'.heap[gb123]? = some (.cells #[(.slice A0_0 l0_0.length c0_0), .string a0_1, .int .i64 a0_2] 191 (0, 0))) ∧ zd_ (Below w.heap.size w w'))
    case atStart => exact ⟨(x3_1), (56), re_, H', ⟨Nat.le_refl _⟩, ⟨ro_ HO_3.out⟩, ⟨bk_ BK123.out⟩, ⟨bel_⟩⟩
    case round =>
     clear H'
     (try clear c5b0); (try clear c5b1); (try clear hcz6_0); (try clear hcz6_1); (try clear hcz6_2); (try clear hfz6_0); (try clear hfz6_1); (try clear hfz6_2)
     obtain ⟨x3_2, x5_2, rfl, HA, HK2, HO_3, BK123, HB⟩ := hrel
     cases gk with
     | zero => exact absurd HA.out (by simp [zy_.l1])
     | succ k2 =>
      have H := HA.out
      clear HA
      simp only [zy_.l1] at H
      by_cases c8 : x5_2 ≥ 0
      ·
       rw [if_pos c8] at H
       have c8b0 : decide (0 ≤ x5_2) = true := decide_eq_true c8
       clear c8
       obtain ⟨ji9, hji9⟩ : ∃ j_ : Int, (IntKind.u64.wrap (x5_2)) = j_ := ⟨_, rfl⟩
       replace H : (if 0 ≤ (ji9) then (if x3_2.length < 140737488355328 then (zy_.l1 k2 (x3_2 ++ [(shr .u64 (IntKind.u64.wrap (wrap64 (8 * a0_2))) (ji9)) % 256]) (IntKind.u64.wrap (wrap64 (8 * a0_2))) (wrap64 (x5_2 - 8)) l0_0 a0_1 a0_2) else (none)) else (none)) = some r := by first | (rw [hji9] at H; exact H) | (simp only [hji9] at H ⊢; exact H)
       by_cases c10 : 0 ≤ (ji9)
       ·
        rw [if_pos c10] at H
        have c10b0 := eq_true c10
        have c10b1 : decide (0 ≤ (ji9)) = true := decide_eq_true c10
        clear c10
        obtain ⟨ji11, hji11⟩ : ∃ j_ : Int, (shr .u64 (IntKind.u64.wrap (wrap64 (8 * a0_2))) (ji9)) = j_ := ⟨_, rfl⟩
        replace H : (if x3_2.length < 140737488355328 then (zy_.l1 k2 (x3_2 ++ [(ji11) % 256]) (IntKind.u64.wrap (wrap64 (8 * a0_2))) (wrap64 (x5_2 - 8)) l0_0 a0_1 a0_2) else (none)) = some r := by first | (rw [hji11] at H; exact H) | (simp only [hji11] at H ⊢; exact H)
        have hji11_ : ((IntKind.u64.wrap (wrap64 (8 * a0_2))) / 2 ^ min (ji9).toNat 64) = ji11 := hji11
        have hji11z : (ji9) ≤ 64 → ((IntKind.u64.wrap (wrap64 (8 * a0_2))) / 2 ^ (ji9).toNat) = ji11 := shr_small hji11
        by_cases c12 : x3_2.length < 140737488355328
        ·
         rw [if_pos c12] at H
         have LMc12 := AM c12
         clear c12
         obtain ⟨y130, hy130⟩ : ∃ y_ : List Int, y_ = (x3_2 ++ [(ji11) % 256]) := ⟨_, rfl⟩
         replace H : (zy_.l1 k2 y130 (IntKind.u64.wrap (wrap64 (8 * a0_2))) (wrap64 (x5_2 - 8)) l0_0 a0_1 a0_2) = some r := by first | (rw [hy130]; with_reducible exact H) | (have H2_ := (Option.bind_some _ _).symm.trans H; rw [hy130]; with_reducible exact H2_) | (have H2_ := (Option.bind_some _ _).symm.trans H; with_reducible exact H2_) | with_reducible exact H | (rw [hy130]; exact H) | exact H
         have Ny130 := AM hy130
         clear hy130
         have H' := AM H
         clear H
         go_wp2_with (first | ((with_reducible refine yr_ (b := .append) (xs := #[.tmp 29, .tmp 35]) rfl ?_); at_builtin; refine Kd.R_append (Kd.int .u8) (w0 := w) w.heap.size rfl (.tmp 29) (.tmp 35) 22 5 (.int .u8 0) 1 rfl Try.underlying22 info5 rfl (by decide) (by omega) u3 x3_2 ((ji11) % 256) [.int .u8 ((ji11) % 256)] (fun _ => True) (fun _ => False) rfl rfl ?aP (fun _ hk => hk.elim) ?aF ?aO ?aB ?aS ?aL ?_; (case aP => exact rfl); (case aB => exact bel_); (case aF => exact (fun _ _ => trivial)); (case aO => exact (ro_ HO_3.out)); (case aS => exact (zj_ bel_)); (case aL => have := LMc12.out; omega); intro v131 w13 ho hb hg hat; rw [← Ny130.out] at ho; have n0_ := AM (yp_ (g := gb123) (o := .cells #[.slice A0_0 l0_0.length c0_0, .string a0_1, .int .i64 a0_2] 191 (0, 0)) (bk_ BK123.out) hg (Kd.R_ne HO_3.out BK123.out (by decide))); have n1_ := AM hb; have n2_ := AM ho; clear BK123; clear HB; clear HO_3; have BK123 := n0_; have HB := n1_; have HO132 := n2_; clear n0_ n1_ n2_; clear ho hb hg hat))
         go_roundg k2
         case measure => have := HK1.out; have := HK2.out; omega
         case rel => exact ⟨(y130), (wrap64 (x5_2 - 8)), re_, H', ⟨by have := HK1.out; have := HK2.out; omega⟩, ⟨ro_ HO132.out⟩, ⟨bk_ BK123.out⟩, ⟨bel_⟩⟩
        ·
         rw [if_neg c12] at H
         exact absurd H (by simp)
       ·
        rw [if_neg c10] at H
        exact absurd H (by simp)
      ·
       rw [if_neg c8] at H
       have c8b0 : decide (0 ≤ x5_2) = false := decide_eq_false c8
       clear c8
       obtain ⟨⟨t133, t136, t137⟩, A14, H⟩ := OB H
       try dsimp only at H
       replace A14 := AM A14
       obtain ⟨y139, hy139⟩ : ∃ y_ : List Int, y_ = (([] : List Int)) := ⟨_, rfl⟩
       replace H : (zy_.l2 k2 y139 0 t133 t136 t137) = some r := by first | (rw [hy139]; with_reducible exact H) | (have H2_ := (Option.bind_some _ _).symm.trans H; rw [hy139]; with_reducible exact H2_) | (have H2_ := (Option.bind_some _ _).symm.trans H; with_reducible exact H2_) | with_reducible exact H | (rw [hy139]; exact H) | exact H
       have Ny139 := AM hy139
       clear hy139
       have H' := AM H
       clear H
       have hcz15_0 : wr.cell? ⟨gb123, 0, none⟩ = some (.slice A0_0 l0_0.length c0_0) := (zb_ BK123.out 0).trans rfl
       have hcz15_1 : wr.cell? ⟨gb123, 1, none⟩ = some (.string a0_1) := (zb_ BK123.out 1).trans rfl
       have hcz15_2 : wr.cell? ⟨gb123, 2, none⟩ = some (.int .i64 a0_2) := (zb_ BK123.out 2).trans rfl
       have hfz15_0 := za_ BK123.out 0
       have hfz15_1 := za_ BK123.out 1
       have hfz15_2 := za_ BK123.out 2
       have hcv16 := xf_ (P := Try.prog) Try.underlying22 Try.underlying5 Try.underlying9 (Kd.xK_ HO_3.out)
       go_wp2_with (first | ((with_reducible refine zl_ (f := 153) rfl ?_); refine gl_ (some 40) Try.func153 #[.agg #[.slice A0_0 l0_0.length c0_0, .string a0_1, .int .i64 a0_2], .string (strOfNums x3_2)] ?_; (with_reducible refine (zz_.calls k2 _ _ l0_0 a0_1 a0_2 (strOfNums x3_2) t133 t136 t137 _ ?side1 ?side2 A14.out).mono ?_); (case side1 => repeat (first | exact (Kd.xc_ HR0_0.out HB.out) | (with_reducible refine Kd.yx_ ?_ _) | (with_reducible refine Kd.yw_ ?_ _) | (with_reducible refine Kd.yQ_ ?_))); (case side2 => exact HC0_0.out); rintro e w17 ⟨v134, rfl, ho0, hb⟩; refine ⟨_, rfl, ?_⟩; replace HO_3 := AM (Kd.yO_ (ro_ HO_3.out) hb); have HO135 := AM (Kd.yE_ ho0 (zj_ bel_)); replace BK123 := AM (zP_ (g := gb123) (o := .cells #[.slice A0_0 l0_0.length c0_0, .string a0_1, .int .i64 a0_2] 191 (0, 0)) (bk_ BK123.out) hb); replace HB := AM (zg_ bel_ hb); (try clear hb); (try clear hk); (try clear ho0)) | ((with_reducible refine z6_ (N := 6) rfl ?_); refine be_ 6 #[.slice none 0 0, .string (⟨#[]⟩ : ByteArray), .int .i64 0] 191 ?_; intro gb138 hg w18 hbox hb; replace HO_3 := AM (Kd.yO_ (ro_ HO_3.out) hb); replace HO135 := AM (Kd.yO_ (ro_ HO135.out) hb); have BK138 := AM hbox; have GW138 := AM ((by rw [hg]; exact (zj_ bel_) : w.heap.size ≤ gb138)); have GE138 := AM ((by rw [hg]; exact (zj_ bel_) : w.heap.size ≤ gb138)); replace HB := AM (zg_ bel_ hb); have NB123_138 := AM ((by rw [hg]; exact Nat.ne_of_lt (yS_ (g := gb123) (o := .cells #[.slice A0_0 l0_0.length c0_0, .string a0_1, .int .i64 a0_2] 191 (0, 0)) (bk_ BK123.out)) : gb123 ≠ gb138)); have NB138_123 := AM ((by rw [hg]; exact Nat.ne_of_gt (yS_ (g := gb123) (o := .cells #[.slice A0_0 l0_0.length c0_0, .string a0_1, .int .i64 a0_2] 191 (0, 0)) (bk_ BK123.out)) : gb138 ≠ gb123)); replace BK123 := AM (zP_ (g := gb123) (o := .cells #[.slice A0_0 l0_0.length c0_0, .string a0_1, .int .i64 a0_2] 191 (0, 0)) (bk_ BK123.out) hb); clear hb hbox hg; obtain ⟨Ao19, co19, eo19⟩ := Kd.yA_ HO135.out; subst eo19; have hnb20 := NB138_123.out; have hnc20 := NB123_138.out; have hcz21_0 : w18.cell? ⟨gb138, 0, none⟩ = some (.slice none 0 0) := (zb_ BK138.out 0).trans rfl; have hcz21_1 : w18.cell? ⟨gb138, 1, none⟩ = some (.string (⟨#[]⟩ : ByteArray)) := (zb_ BK138.out 1).trans rfl; have hcz21_2 : w18.cell? ⟨gb138, 2, none⟩ = some (.int .i64 0) := (zb_ BK138.out 2).trans rfl; have hfz21_0 := za_ BK138.out 0; have hfz21_1 := za_ BK138.out 1; have hfz21_2 := za_ BK138.out 2) | ((with_reducible refine z6_ (N := 41) rfl ?_); refine Kd.R_lit (Kd.int .u8) _ 5 ?hgL2 (N := 41) ?hdL2 (xs := ([] : List Int)) (inner := []) (ok := fun _ => True) (okp := fun _ => True) ?hrL2 ?hpL2 (fun _ hk => hk) trivial (Below.refl _ _) (Nat.le_refl _) (by simp) ?_; (case hdL2 => rfl); (case hgL2 => rfl); (case hrL2 => first | (go_simp; done) | (go_simp; rfl)); (case hpL2 => exact (Reps.none _ _)); intro v140 w22 ho23 hb hg_ hnew_; clear hg_ hnew_; (first | rw [← Ny139.out] at ho23 | (simp only [Int.reduceToNat] at ho23; rw [← Ny139.out] at ho23)); have n0_ := AM (Kd.R_elder' (by (with_reducible repeat (first | apply Kd.yP_ | apply Kd.yL_ | apply Kd.yW_)); exact (Kd.z9_ (Kd.R_far (p := ⟨gb138, 2, none⟩) (Kd.R_far (p := ⟨gb138, 1, none⟩) (Kd.R_far (p := ⟨gb138, 0, none⟩) (Kd.yo_ HO_3.out BK138.out (by decide)) (fun _ hk => hk.2) (.slice Ao19 t133.length co19)) (fun _ hk => hk.2) (.string t136)) (fun _ hk => hk.2) (.int .i64 t137)) (fun _ h_ => h_.1))) (Kd.R_base ho23) hb); have n1_ := AM (Kd.yO_ (by (with_reducible repeat (first | apply Kd.yP_ | apply Kd.yL_ | apply Kd.yW_)); exact (Kd.z9_ (Kd.R_far (p := ⟨gb138, 2, none⟩) (Kd.R_far (p := ⟨gb138, 1, none⟩) (Kd.R_far (p := ⟨gb138, 0, none⟩) (Kd.yo_ HO135.out BK138.out (by decide)) (fun _ hk => hk.2) (.slice Ao19 t133.length co19)) (fun _ hk => hk.2) (.string t136)) (fun _ hk => hk.2) (.int .i64 t137)) (fun _ h_ => h_.1))) hb); have n2_ := AM (Kd.yE_ (Kd.R_new' ho23 (Kd.R_lt (by (with_reducible repeat (first | apply Kd.yP_ | apply Kd.yL_ | apply Kd.yW_)); exact (Kd.z9_ (Kd.R_far (p := ⟨gb138, 2, none⟩) (Kd.R_far (p := ⟨gb138, 1, none⟩) (Kd.R_far (p := ⟨gb138, 0, none⟩) (Kd.yo_ HO_3.out BK138.out (by decide)) (fun _ hk => hk.2) (.slice Ao19 t133.length co19)) (fun _ hk => hk.2) (.string t136)) (fun _ hk => hk.2) (.int .i64 t137)) (fun _ h_ => h_.1))))) (zj_ bel_)); have n3_ := AM (zP_ (g := gb123) (o := .cells #[.slice A0_0 l0_0.length c0_0, .string a0_1, .int .i64 a0_2] 191 (0, 0)) bka_ hb); have n4_ := AM (zP_ (g := gb138) (o := .cells #[.slice Ao19 t133.length co19, .string t136, .int .i64 t137] 191 (0, 0)) bka_ hb); have n5_ := AM (zg_ bel_ hb); clear HO_3; clear HO135; clear BK123; clear BK138; clear HB; have HO_3 := n0_; have HO135 := n1_; have HO141 := n2_; have BK123 := n3_; have BK138 := n4_; have HB := n5_; clear n0_ n1_ n2_ n3_ n4_ n5_; clear hb ho23))
       go_loopg [7, 8] k2 (fun kq v7 v8 w' => ∃ (x7_3 : List Int) (x8_3 : Int), v8 = .int .i64 x8_3 ∧ zd_ (zy_.l2 kq x7_3 x8_3 t133 t136 t137 = some r) ∧ zd_ (kq ≤ k2) ∧ zd_ (Kd.R (Kd.int .u8) 5 w' w.heap.size (fun _ => True) v7 x7_3) ∧ zd_ (Kd.R (Kd.int .i64) 2 w' w.heap.size (fun _ => True) (.slice Ao19 t133.length co19) t133) ∧ zd_ (w'.heap[gb123]? = some (.cells #[(.slice A0_0 l0_0.length c0_0), .string a0_1, .int .i64 a0_2] 191 (0, 0))) ∧ zd_ (w'.heap[gb138]? = some (.cells #[(.slice Ao19 t133.length co19), .string t136, .int .i64 t137] 191 (0, 0))) ∧ zd_ (Below w.heap.size w w'))
       case atStart => exact ⟨(y139), (0), re_, H', ⟨Nat.le_refl _⟩, ⟨by (with_reducible repeat (first | apply Kd.yP_ | apply Kd.yL_ | apply Kd.yW_)); exact Kd.z9_ HO141.out (fun _ hk => trivial)⟩, ⟨ro_ HO135.out⟩, ⟨bk_ BK123.out⟩, ⟨bk_ BK138.out⟩, ⟨bel_⟩⟩
       case round =>
        clear H'
        (try clear c8b0); (try clear c10); (try clear c10b0); (try clear c10b1); (try clear c12); (try clear hcv16); (try clear hcz15_0); (try clear hcz15_1); (try clear hcz15_2); (try clear hcz21_0); (try clear hcz21_1); (try clear hcz21_2); (try clear hfz15_0); (try clear hfz15_1); (try clear hfz15_2); (try clear hfz21_0); (try clear hfz21_1); (try clear hfz21_2)
        obtain ⟨x7_3, x8_3, rfl, HA, HK3, HO_7, HO_139000, BK123, BK138, HB⟩ := hrel
        cases gk with
        | zero => exact absurd HA.out (by simp [zy_.l2])
        | succ k3 =>
         have H := HA.out
         clear HA
         simp only [zy_.l2] at H
         by_cases c24 : x8_3 < 8
         ·
          rw [if_pos c24] at H
          have c24b0 : decide (x8_3 < 8) = true := decide_eq_true c24
          clear c24
          by_cases c25 : 0 ≤ x8_3
          ·
           rw [if_pos c25] at H
           have c25b0 : decide (0 ≤ x8_3) = true := decide_eq_true c25
           clear c25
           by_cases c26 : x8_3 < (t133.length : Int)
           ·
            rw [if_pos c26] at H
            have c26b0 : decide (x8_3 < (t133.length : Int)) = true := decide_eq_true c26
            clear c26
            obtain ⟨y143, hy143⟩ : ∃ y_ : List Int, y_ = (([((rd t133 x8_3) / 16777216) % 256, ((rd t133 x8_3) / 65536) % 256, ((rd t133 x8_3) / 256) % 256, (rd t133 x8_3) % 256] : List Int)) := ⟨_, rfl⟩
            replace H : (if x7_3.length + y143.length < 140737488355328 then (zy_.l2 k3 (x7_3 ++ y143) (wrap64 (x8_3 + 1)) t133 t136 t137) else (none)) = some r := by first | (rw [hy143]; with_reducible exact H) | (have H2_ := (Option.bind_some _ _).symm.trans H; rw [hy143]; with_reducible exact H2_) | (have H2_ := (Option.bind_some _ _).symm.trans H; with_reducible exact H2_) | with_reducible exact H | (rw [hy143]; exact H) | exact H
            have Ny143 := AM hy143
            clear hy143
            by_cases c27 : x7_3.length + y143.length < 140737488355328
            ·
             rw [if_pos c27] at H
             have LMc27 := AM c27
             clear c27
             obtain ⟨y146, hy146⟩ : ∃ y_ : List Int, y_ = (x7_3 ++ y143) := ⟨_, rfl⟩
             replace H : (zy_.l2 k3 y146 (wrap64 (x8_3 + 1)) t133 t136 t137) = some r := by first | (rw [hy146]; with_reducible exact H) | (have H2_ := (Option.bind_some _ _).symm.trans H; rw [hy146]; with_reducible exact H2_) | (have H2_ := (Option.bind_some _ _).symm.trans H; with_reducible exact H2_) | with_reducible exact H | (rw [hy146]; exact H) | exact H
             have Ny146 := AM hy146
             clear hy146
             have H' := AM H
             clear H
             have hnb28 := NB138_123.out
             have hnc28 := NB123_138.out
             have hcz29_0 : wr.cell? ⟨gb138, 0, none⟩ = some (.slice Ao19 t133.length co19) := (zb_ BK138.out 0).trans rfl
             have hcz29_1 : wr.cell? ⟨gb138, 1, none⟩ = some (.string t136) := (zb_ BK138.out 1).trans rfl
             have hcz29_2 : wr.cell? ⟨gb138, 2, none⟩ = some (.int .i64 t137) := (zb_ BK138.out 2).trans rfl
             have hfz29_0 := za_ BK138.out 0
             have hfz29_1 := za_ BK138.out 1
             have hfz29_2 := za_ BK138.out 2
             have p142 : 0 ≤ (x8_3 : Int) := of_decide_eq_true asm_
             have q142 : x8_3 < (t133.length : Int) := of_decide_eq_true asm_
             obtain ⟨ad142, e142, hx142_0⟩ := Kd.at_int (Kd.yI_ HO_139000.out).2.2 x8_3 p142 q142
             cases e142
             replace p142 := eq_true p142
             replace q142 := eq_true q142
             go_wp2_with (first | ((with_reducible refine z6_ (N := 63) rfl ?_); refine Kd.R_lit (Kd.int .u8) _ 5 ?hgL3 (N := 63) ?hdL3 (xs := ([((rd t133 x8_3) / 16777216) % 256, ((rd t133 x8_3) / 65536) % 256, ((rd t133 x8_3) / 256) % 256, (rd t133 x8_3) % 256] : List Int)) (inner := [.int .u8 (((rd t133 x8_3) / 16777216) % 256), .int .u8 (((rd t133 x8_3) / 65536) % 256), .int .u8 (((rd t133 x8_3) / 256) % 256), .int .u8 ((rd t133 x8_3) % 256)]) (ok := fun _ => True) (okp := fun _ => True) ?hrL3 ?hpL3 (fun _ hk => hk) trivial (Below.refl _ _) (Nat.le_refl _) (by simp) ?_; (case hdL3 => rfl); (case hgL3 => rfl); (case hrL3 => first | (go_simp; done) | (go_simp; rfl)); (case hpL3 => exact (Reps.one (show Kd.M (Kd.int .u8) _ _ _ (((rd t133 x8_3) / 16777216) % 256) [.int .u8 (((rd t133 x8_3) / 16777216) % 256)] from rfl) (Reps.one (show Kd.M (Kd.int .u8) _ _ _ (((rd t133 x8_3) / 65536) % 256) [.int .u8 (((rd t133 x8_3) / 65536) % 256)] from rfl) (Reps.one (show Kd.M (Kd.int .u8) _ _ _ (((rd t133 x8_3) / 256) % 256) [.int .u8 (((rd t133 x8_3) / 256) % 256)] from rfl) (Reps.one (show Kd.M (Kd.int .u8) _ _ _ ((rd t133 x8_3) % 256) [.int .u8 ((rd t133 x8_3) % 256)] from rfl) (Reps.none _ _)))))); intro v144 w30 ho31 hb hg_ hnew_; clear hg_ hnew_; (first | rw [← Ny143.out] at ho31 | (simp only [Int.reduceToNat] at ho31; rw [← Ny143.out] at ho31)); replace HO_139000 := AM (Kd.yO_ (ro_ HO_139000.out) hb); have HO145 := AM (Kd.yE_ (Kd.R_new' ho31 (Kd.R_lt (ro_ HO_7.out))) (zj_ bel_)); replace HO_7 := AM (Kd.R_elder' (ro_ HO_7.out) (Kd.R_base ho31) hb); replace BK123 := AM (zP_ (g := gb123) (o := .cells #[.slice A0_0 l0_0.length c0_0, .string a0_1, .int .i64 a0_2] 191 (0, 0)) (bk_ BK123.out) hb); replace BK138 := AM (zP_ (g := gb138) (o := .cells #[.slice (some ad142) t133.length co19, .string t136, .int .i64 t137] 191 (0, 0)) (bk_ BK138.out) hb); replace HB := AM (zg_ bel_ hb); clear hb ho31; obtain ⟨Ao33, co33, eo33⟩ := Kd.yA_ HO145.out; subst eo33) | ((with_reducible refine yr_ (b := .append) (xs := #[.tmp 51, .tmp 63]) rfl ?_); at_builtin; refine Kd.R_append_rows (Kd.int .u8) (w0 := w) w.heap.size rfl (.tmp 51) (.tmp 63) 22 5 (.int .u8 0) 1 rfl Try.underlying22 info5 rfl (by decide) (by omega) u7 x7_3 y143 _ _ _ (fun k_ => some k_ ≠ (.slice Ao33 y143.length co33 : Value).ownBlock) (fun _ => False) rfl rfl ?aO ?aR (fun _ _ h => h) (fun _ h => h.elim) ?aF ?aB ?aS ?aL ?_; (case aR => repeat (first | exact (Kd.yI_ HO145.out).2.2 | (with_reducible refine Kd.yx_ ?_ _) | (with_reducible refine Kd.yw_ ?_ _) | (with_reducible refine Kd.yQ_ ?_))); (case aB => exact bel_); (case aF => exact (fun k_ hk => Kd.fresh' (Kd.R_lt (ro_ HO145.out)) k_ hk)); (case aO => exact (by (with_reducible repeat (first | apply Kd.yP_ | apply Kd.yL_ | apply Kd.yW_)); exact Kd.z9_ HO_7.out (fun _ hk => hk.2))); (case aS => exact (zj_ bel_)); (case aL => have := LMc27.out; omega); intro v147 w32 ho hb hg hat; rw [← Ny146.out] at ho; have n0_ := AM (Kd.R_over' (ro_ HO_139000.out) (Kd.R_typed (ro_ HO_7.out)) (by decide) hg); have n1_ := AM (yp_ (g := gb123) (o := .cells #[.slice A0_0 l0_0.length c0_0, .string a0_1, .int .i64 a0_2] 191 (0, 0)) (bk_ BK123.out) hg (Kd.R_ne HO_7.out BK123.out (by decide))); have n2_ := AM (yp_ (g := gb138) (o := .cells #[.slice (some ad142) t133.length co19, .string t136, .int .i64 t137] 191 (0, 0)) (bk_ BK138.out) hg (Kd.R_ne HO_7.out BK138.out (by decide))); have n3_ := AM (Kd.R_after (ok := (fun _ => True)) (ro_ HO145.out) hg hat); have n4_ := AM hb; have n5_ := AM ho; clear HO_139000; clear BK123; clear BK138; clear HO145; clear HB; clear HO_7; have HO_139000 := n0_; have BK123 := n1_; have BK138 := n2_; have HO145 := n3_; have HB := n4_; have HO148 := n5_; clear n0_ n1_ n2_ n3_ n4_ n5_; clear ho hb hg hat))
             go_roundg k3
             case measure => have := HK1.out; have := HK2.out; have := HK3.out; omega
             case rel => exact ⟨(y146), (wrap64 (x8_3 + 1)), re_, H', ⟨by have := HK1.out; have := HK2.out; have := HK3.out; omega⟩, ⟨by (with_reducible repeat (first | apply Kd.yP_ | apply Kd.yL_ | apply Kd.yW_)); exact Kd.z9_ HO148.out (fun _ hk => trivial)⟩, ⟨ro_ HO_139000.out⟩, ⟨bk_ BK123.out⟩, ⟨bk_ BK138.out⟩, ⟨bel_⟩⟩
            ·
             rw [if_neg c27] at H
             exact absurd H (by simp)
           ·
            rw [if_neg c26] at H
            exact absurd H (by simp)
          ·
           rw [if_neg c25] at H
           exact absurd H (by simp)
         ·
          rw [if_neg c24] at H
          have c24b0 : decide (x8_3 < 8) = false := decide_eq_false c24
          clear c24
          obtain rfl := Option.some.inj H
          have hcv34 := xf_ (P := Try.prog) Try.underlying22 Try.underlying5 Try.underlying9 (Kd.xK_ HO_7.out)
          go_wp2
          go_ret
          exact ⟨ri_, bel_⟩
   ·
    rw [if_neg c5] at H
    have c5b0 : ((Int.tmod (wrap64 (a0_2 + (x3_1.length : Int))) 64) == 56) = false := beq_eq_false_iff_ne.mpr c5
    try have c5b9 : (((Int.tmod ((a0_2 + (x3_1.length : Int))) 64) == 56)) = false := (by have hw0 : wrap64 (a0_2 + (x3_1.length : Int)) = a0_2 + (x3_1.length : Int) := (by unfold wrap64; omega); have z_ := c5b0; simp only [hw0] at z_; exact z_)
    have c5b1 : ((Int.tmod (wrap64 (a0_2 + (x3_1.length : Int))) 64) != 56) = true := bne_iff_ne.mpr c5
    by_cases c35 : x3_1.length < 140737488355328
    ·
     rw [if_pos c35] at H
     have LMc35 := AM c35
     clear c35
     obtain ⟨y127, hy127⟩ : ∃ y_ : List Int, y_ = (x3_1 ++ [0]) := ⟨_, rfl⟩
     replace H : (zy_.l0 k1 y127 l0_0 a0_1 a0_2) = some r := by first | (rw [hy127]; with_reducible exact H) | (have H2_ := (Option.bind_some _ _).symm.trans H; rw [hy127]; with_reducible exact H2_) | (have H2_ := (Option.bind_some _ _).symm.trans H; with_reducible exact H2_) | with_reducible exact H | (rw [hy127]; exact H) | exact H
     have Ny127 := AM hy127
     clear hy127
     have H' := AM H
     clear H
     have hcz36_0 : wr.cell? ⟨gb123, 0, none⟩ = some (.slice A0_0 l0_0.length c0_0) := (zb_ BK123.out 0).trans rfl
     have hcz36_1 : wr.cell? ⟨gb123, 1, none⟩ = some (.string a0_1) := (zb_ BK123.out 1).trans rfl
     have hcz36_2 : wr.cell? ⟨gb123, 2, none⟩ = some (.int .i64 a0_2) := (zb_ BK123.out 2).trans rfl
     have hfz36_0 := za_ BK123.out 0
     have hfz36_1 := za_ BK123.out 1
     have hfz36_2 := za_ BK123.out 2
     obtain ⟨Ao37, co37, eo37⟩ := Kd.yA_ HO_3.out
     subst eo37
     go_wp2_with (first | ((with_reducible refine yr_ (b := .append) (xs := #[.tmp 18, .tmp 19]) rfl ?_); at_builtin; refine Kd.R_append (Kd.int .u8) (w0 := w) w.heap.size rfl (.tmp 18) (.tmp 19) 22 5 (.int .u8 0) 1 rfl Try.underlying22 info5 rfl (by decide) (by omega) (.slice Ao37 x3_1.length co37) x3_1 0 [.int .u8 0] (fun _ => True) (fun _ => False) rfl rfl ?aP (fun _ hk => hk.elim) ?aF ?aO ?aB ?aS ?aL ?_; (case aP => exact rfl); (case aB => exact bel_); (case aF => exact (fun _ _ => trivial)); (case aO => exact (ro_ HO_3.out)); (case aS => exact (zj_ bel_)); (case aL => have := LMc35.out; omega); intro v128 w38 ho hb hg hat; rw [← Ny127.out] at ho; have n0_ := AM (yp_ (g := gb123) (o := .cells #[.slice A0_0 l0_0.length c0_0, .string a0_1, .int .i64 a0_2] 191 (0, 0)) (bk_ BK123.out) hg (Kd.R_ne HO_3.out BK123.out (by decide))); have n1_ := AM hb; have n2_ := AM ho; clear BK123; clear HB; clear HO_3; have BK123 := n0_; have HB := n1_; have HO129 := n2_; clear n0_ n1_ n2_; clear ho hb hg hat))
     go_roundg k1
     case measure => have := HK1.out; omega
     case rel => exact ⟨(y127), H', ⟨by have := HK1.out; omega⟩, ⟨ro_ HO129.out⟩, ⟨bk_ BK123.out⟩, ⟨bel_⟩⟩
    ·
     rw [if_neg c35] at H
     exact absurd H (by simp)
/-! ### xx_: function 207 -/
def xx_.f  : Option (List Int) := some (([1779033703, 3144134277, 1013904242, 2773480762, 1359893119, 2600822924, 528734635, 1541459225] : List Int))
theorem xx_.calls  (r : List Int) (w : World) (h : xx_.f  = some r) :
 Calls Try.prog 207 #[] w fun e w' => ∃ v0_ : Value, e = .returned (v0_) ∧ Kd.R (Kd.int .i64) 2 w' w.heap.size (fun _ => True) v0_ r ∧ Below w.heap.size w w' := by
 have HB := AM (Below.refl w.heap.size w)
 have H : (some (([1779033703, 3144134277, 1013904242, 2773480762, 1359893119, 2600822924, 528734635, 1541459225] : List Int))) = some r := h
 clear h
 obtain ⟨y149, hy149⟩ : ∃ y_ : List Int, y_ = (([1779033703, 3144134277, 1013904242, 2773480762, 1359893119, 2600822924, 528734635, 1541459225] : List Int)) := ⟨_, rfl⟩
 replace H : (some y149) = some r := by first | (rw [hy149]; with_reducible exact H) | (have H2_ := (Option.bind_some _ _).symm.trans H; rw [hy149]; with_reducible exact H2_) | (have H2_ := (Option.bind_some _ _).symm.trans H; with_reducible exact H2_) | with_reducible exact H | (rw [hy149]; exact H) | exact H
 have Ny149 := AM hy149
 clear hy149
 obtain rfl := Option.some.inj H
 go_enter Try.func207, Try.ntmps207
 go_wp2_with (first | ((with_reducible refine z6_ (N := 1) rfl ?_); refine Kd.R_lit (Kd.int .i64) _ 2 ?hgL4 (N := 1) ?hdL4 (xs := ([1779033703, 3144134277, 1013904242, 2773480762, 1359893119, 2600822924, 528734635, 1541459225] : List Int)) (inner := [.int .i64 1779033703, .int .i64 3144134277, .int .i64 1013904242, .int .i64 2773480762, .int .i64 1359893119, .int .i64 2600822924, .int .i64 528734635, .int .i64 1541459225]) (ok := fun _ => True) (okp := fun _ => True) ?hrL4 ?hpL4 (fun _ hk => hk) trivial (Below.refl _ _) (Nat.le_refl _) (by simp) ?_; (case hdL4 => rfl); (case hgL4 => rfl); (case hrL4 => first | (go_simp; done) | (go_simp; rfl)); (case hpL4 => exact (Reps.one (show Kd.M (Kd.int .i64) _ _ _ 1779033703 [.int .i64 1779033703] from rfl) (Reps.one (show Kd.M (Kd.int .i64) _ _ _ 3144134277 [.int .i64 3144134277] from rfl) (Reps.one (show Kd.M (Kd.int .i64) _ _ _ 1013904242 [.int .i64 1013904242] from rfl) (Reps.one (show Kd.M (Kd.int .i64) _ _ _ 2773480762 [.int .i64 2773480762] from rfl) (Reps.one (show Kd.M (Kd.int .i64) _ _ _ 1359893119 [.int .i64 1359893119] from rfl) (Reps.one (show Kd.M (Kd.int .i64) _ _ _ 2600822924 [.int .i64 2600822924] from rfl) (Reps.one (show Kd.M (Kd.int .i64) _ _ _ 528734635 [.int .i64 528734635] from rfl) (Reps.one (show Kd.M (Kd.int .i64) _ _ _ 1541459225 [.int .i64 1541459225] from rfl) (Reps.none _ _)))))))))); intro v150 w1 ho2 hb hg_ hnew_; clear hg_ hnew_; (first | rw [← Ny149.out] at ho2 | (simp only [Int.reduceToNat] at ho2; rw [← Ny149.out] at ho2)); have HO151 := AM (Kd.yE_ ho2 (zj_ bel_)); replace HB := AM (zg_ bel_ hb); clear hb ho2))
 go_ret
 exact ⟨_, ri_, ro_ HO151.out, bel_⟩
/-! ### xq_: function 154 -/
def xq_.f  : Option (List Int × ByteArray × Int) := (xx_.f).bind fun t153 => (some (t153, (⟨#[]⟩ : ByteArray), 0))
theorem xq_.calls  (r1 : List Int) (r2 : ByteArray) (r3 : Int) (w : World) (h : xq_.f  = some (r1, r2, r3)) :
 Calls Try.prog 154 #[] w fun e w' => ∃ v0_ : Value, e = .returned (.agg #[v0_, .string r2, .int .i64 r3]) ∧ Kd.R (Kd.int .i64) 2 w' w.heap.size (fun _ => True) v0_ r1 ∧ Below w.heap.size w w' := by
 have hu191 := Try.underlying191
 have HB := AM (Below.refl w.heap.size w)
 have H : ((xx_.f).bind fun t153 => (some (t153, (⟨#[]⟩ : ByteArray), 0))) = some (r1, r2, r3) := h
 clear h
 obtain ⟨t153, A1, H⟩ := OB H
 try dsimp only at H
 replace A1 := AM A1
 simp only [Option.some.injEq, Prod.mk.injEq] at H
 obtain ⟨rfl, rfl, rfl⟩ := H
 go_enter Try.func154, Try.ntmps154
 go_wp2_with (first | ((with_reducible refine z6_ (N := 0) rfl ?_); refine be_ 0 #[.slice none 0 0, .string (⟨#[]⟩ : ByteArray), .int .i64 0] 191 ?_; intro gb152 hg w2 hbox hb; have BK152 := AM hbox; have GW152 := AM ((by rw [hg]; exact (zj_ bel_) : w.heap.size ≤ gb152)); have GE152 := AM ((by rw [hg]; exact (zj_ bel_) : w.heap.size ≤ gb152)); replace HB := AM (zg_ bel_ hb); clear hb hbox hg) | ((with_reducible refine zl_ (f := 207) rfl ?_); refine gl_ (some 1) Try.func207 #[] ?_; (with_reducible refine (xx_.calls  t153 _ A1.out).mono ?_); rintro e w3 ⟨v154, rfl, ho0, hb⟩; refine ⟨_, rfl, ?_⟩; have HO155 := AM (Kd.yE_ ho0 (zj_ bel_)); replace BK152 := AM (zP_ (g := gb152) (o := .cells #[.slice none 0 0, .string (⟨#[]⟩ : ByteArray), .int .i64 0] 191 (0, 0)) (bk_ BK152.out) hb); replace HB := AM (zg_ bel_ hb); (try clear hb); (try clear ho0); obtain ⟨Ao4, co4, eo4⟩ := Kd.yA_ HO155.out; subst eo4; have hcz5_0 : w3.cell? ⟨gb152, 0, none⟩ = some (.slice none 0 0) := (zb_ BK152.out 0).trans rfl; have hcz5_1 : w3.cell? ⟨gb152, 1, none⟩ = some (.string (⟨#[]⟩ : ByteArray)) := (zb_ BK152.out 1).trans rfl; have hcz5_2 : w3.cell? ⟨gb152, 2, none⟩ = some (.int .i64 0) := (zb_ BK152.out 2).trans rfl; have hfz5_0 := za_ BK152.out 0; have hfz5_1 := za_ BK152.out 1; have hfz5_2 := za_ BK152.out 2))
 refine bodyPost_ret (results_cell_row rfl _ _ gb152 191 #[.slice Ao4 t153.length co4, .string (⟨#[]⟩ : ByteArray), .int .i64 0] (0, 0) _ rfl bka_ Try.underlying191 rfl (by kernel_rfl)) rfl ?_
 exact ⟨_, ri_, by (with_reducible repeat (first | apply Kd.yP_ | apply Kd.yL_ | apply Kd.yW_)); exact Kd.z9_ (Kd.R_far (p := ⟨gb152, 2, none⟩) (Kd.R_far (p := ⟨gb152, 1, none⟩) (Kd.R_far (p := ⟨gb152, 0, none⟩) (Kd.yo_ HO155.out BK152.out (by decide)) (fun _ hk => hk.2) (.slice Ao4 t153.length co4)) (fun _ hk => hk.2) (.string (⟨#[]⟩ : ByteArray))) (fun _ hk => hk.2) (.int .i64 0)) (fun _ hk => trivial), bel_⟩
/-! ### yz_: function 69 -/
def yz_.f (k : Nat) (a0 : ByteArray) : Option (ByteArray) := if (a0.size : Int) > 20000 then (some (⟨#[]⟩ : ByteArray)) else ((xq_.f).bind fun bt156 => ((zz_.f k bt156.1 bt156.2.1 bt156.2.2 a0).bind fun bt161 => ((zy_.f k bt161.1 bt161.2.1 bt161.2.2).bind fun t166 => (some t166))))
theorem yz_.mono : ∀ a0 k, LeO (yz_.f k a0) (yz_.f (k + 1) a0) := by
 intro a0 k
 unfold yz_.f
 repeat' with_reducible first | exact zy_.mono _ _ _ _ | exact zz_.mono _ _ _ _ _ | exact LeO.refl _ | exact LeO.none _ | refine LeO.ite ?_ ?_ | refine LeO.bind ?_ (fun _ => ?_)
theorem yz_.calls (k : Nat) (a0 : ByteArray) (r : ByteArray) (w : World) (h : yz_.f k a0 = some r) :
 Calls Try.prog 69 #[.string a0] w fun e w' => e = .returned (.string r) ∧ Below w.heap.size w w' := by
 have HB := AM (Below.refl w.heap.size w)
 have H : (if (a0.size : Int) > 20000 then (some (⟨#[]⟩ : ByteArray)) else ((xq_.f).bind fun bt156 => ((zz_.f k bt156.1 bt156.2.1 bt156.2.2 a0).bind fun bt161 => ((zy_.f k bt161.1 bt161.2.1 bt161.2.2).bind fun t166 => (some t166))))) = some r := h
 clear h
 by_cases c2 : (a0.size : Int) > 20000
 ·
  rw [if_pos c2] at H
  have c2b0 : decide (20000 < (a0.size : Int)) = true := decide_eq_true c2
  have c2b1 : decide (20000 < a0.size) = true := decide_eq_true (by omega)
  clear c2
  obtain rfl := Option.some.inj H
  go_enter Try.func69, Try.ntmps69
  go_wp2
  go_ret
  exact ⟨ri_, bel_⟩
 ·
  rw [if_neg c2] at H
  have c2b0 : decide (20000 < (a0.size : Int)) = false := decide_eq_false c2
  have c2b1 : decide (20000 < a0.size) = false := decide_eq_false (by omega)
  clear c2
  obtain ⟨⟨t156, t159, t160⟩, A3, H⟩ := OB H
  try dsimp only at H
  replace A3 := AM A3
  obtain ⟨⟨t161, t164, t165⟩, A4, H⟩ := OB H
  try dsimp only at H
  replace A4 := AM A4
  obtain ⟨t166, A5, H⟩ := OB H
  try dsimp only at H
  replace A5 := AM A5
  obtain rfl := Option.some.inj H
  go_enter Try.func69, Try.ntmps69
  go_wp2_with (first | ((with_reducible refine zl_ (f := 154) rfl ?_); refine gl_ (some 6) Try.func154 #[] ?_; (with_reducible refine (xq_.calls  t156 t159 t160 _ A3.out).mono ?_); rintro e w6 ⟨v157, rfl, ho0, hb⟩; refine ⟨_, rfl, ?_⟩; have HO158 := AM (Kd.yE_ ho0 (zj_ bel_)); replace HB := AM (zg_ bel_ hb); (try clear hb); (try clear ho0); obtain ⟨Ao7, co7, eo7⟩ := Kd.yA_ HO158.out; subst eo7) | ((with_reducible refine zl_ (f := 153) rfl ?_); refine gl_ (some 8) Try.func153 #[.agg #[.slice Ao7 t156.length co7, .string t159, .int .i64 t160], .string a0] ?_; (with_reducible refine (zz_.calls k _ _ t156 t159 t160 a0 t161 t164 t165 _ ?side1 ?side2 A4.out).mono ?_); (case side1 => repeat (first | exact (Kd.yI_ HO158.out).2.2 | (with_reducible refine Kd.yx_ ?_ _) | (with_reducible refine Kd.yw_ ?_ _) | (with_reducible refine Kd.yQ_ ?_))); (case side2 => exact (Kd.yI_ HO158.out).2.1); rintro e w8 ⟨v162, rfl, ho0, hb⟩; refine ⟨_, rfl, ?_⟩; have HO163 := AM (Kd.yE_ (Kd.R_new' ho0 (Kd.R_lt (ro_ HO158.out))) (zj_ bel_)); replace HO158 := AM (Kd.R_elder' (ro_ HO158.out) (Kd.R_base ho0) hb); replace HB := AM (zg_ bel_ hb); (try clear hb); (try clear ho0); obtain ⟨Ao9, co9, eo9⟩ := Kd.yA_ HO163.out; subst eo9) | ((with_reducible refine zl_ (f := 152) rfl ?_); refine gl_ (some 9) Try.func152 #[.agg #[.slice Ao9 t161.length co9, .string t164, .int .i64 t165]] ?_; (with_reducible refine (zy_.calls k _ _ t161 t164 t165 t166 _ ?side1 ?side2 A5.out).mono ?_); (case side1 => repeat (first | exact (Kd.yI_ HO163.out).2.2 | (with_reducible refine Kd.yx_ ?_ _) | (with_reducible refine Kd.yw_ ?_ _) | (with_reducible refine Kd.yQ_ ?_))); (case side2 => exact (Kd.yI_ HO163.out).2.1); rintro e w10 ⟨rfl, hb⟩; refine ⟨_, rfl, ?_⟩; replace HO158 := AM (Kd.yO_ (ro_ HO158.out) hb); replace HO163 := AM (Kd.yO_ (ro_ HO163.out) hb); replace HB := AM (zg_ bel_ hb); (try clear hb)))
  go_ret
  exact ⟨ri_, bel_⟩
/-! ### z5_: function 88 -/
def z5_.l0 : Nat → Int → Bool → ByteArray → Option (ByteArray)
 | 0, _, _, _ => none
 | k + 1, x0, x3, x4 => if x0 = 0 then (if x3 = true then (if 1 + x4.size ≤ 9223372036854775807 then (some ((⟨#[45]⟩ : ByteArray) ++ x4)) else (none)) else (some x4)) else (if (Int.tmod x0 10) < 0 then ((some (([(wrap64 (48 + (wrap64 (-(Int.tmod x0 10))))) % 256] : List Int) : List Int)).bind fun y167 => (if (strOfNums y167).size + x4.size ≤ 9223372036854775807 then (z5_.l0 k (wrap64 (Int.tdiv x0 10)) x3 ((strOfNums y167) ++ x4)) else (none))) else ((some (([(wrap64 (48 + (Int.tmod x0 10))) % 256] : List Int) : List Int)).bind fun y170 => (if (strOfNums y170).size + x4.size ≤ 9223372036854775807 then (z5_.l0 k (wrap64 (Int.tdiv x0 10)) x3 ((strOfNums y170) ++ x4)) else (none))))
def z5_.f (k : Nat) (a0 : Int) : Option (ByteArray) := if a0 = 0 then (some (⟨#[48]⟩ : ByteArray)) else (z5_.l0 k a0 (decide (a0 < 0)) (⟨#[]⟩ : ByteArray))
theorem z5_.mono_l : ∀ k, (∀ y0 y1 y2, LeO (z5_.l0 k y0 y1 y2) (z5_.l0 (k + 1) y0 y1 y2))
 | 0 => fun _ _ _ r h => by simp [z5_.l0] at h
 | k + 1 => by
  have ih0 := z5_.mono_l k
  ·
   intro y0 y1 y2
   unfold z5_.l0
   repeat' with_reducible first | exact ih0 _ _ _ | exact LeO.refl _ | exact LeO.none _ | refine LeO.ite ?_ ?_ | refine LeO.bind ?_ (fun _ => ?_)
theorem z5_.mono : ∀ a0 k, LeO (z5_.f k a0) (z5_.f (k + 1) a0) := by
 intro a0 k
 have ih0 := z5_.mono_l k
 unfold z5_.f
 repeat' with_reducible first | exact ih0 _ _ _ | exact LeO.refl _ | exact LeO.none _ | refine LeO.ite ?_ ?_ | refine LeO.bind ?_ (fun _ => ?_)
theorem z5_.calls (k : Nat) (a0 : Int) (r : ByteArray) (w : World) (h : z5_.f k a0 = some r) :
 Calls Try.prog 88 #[.int .i64 a0] w fun e w' => e = .returned (.string r) ∧ Below w.heap.size w w' := by
 have HB := AM (Below.refl w.heap.size w)
 have H : (if a0 = 0 then (some (⟨#[48]⟩ : ByteArray)) else (z5_.l0 k a0 (decide (a0 < 0)) (⟨#[]⟩ : ByteArray))) = some r := h
 clear h
 by_cases c2 : a0 = 0
 ·
  rw [if_pos c2] at H
  have c2b0 : (a0 == 0) = true := beq_iff_eq.mpr c2
  have c2b1 : (a0 != 0) = false := bne_eq_false_iff_eq.mpr c2
  clear c2
  obtain rfl := Option.some.inj H
  go_enter Try.func88, Try.ntmps88
  go_wp2
  go_ret
  exact ⟨ri_, bel_⟩
 ·
  rw [if_neg c2] at H
  have c2b0 : (a0 == 0) = false := beq_eq_false_iff_ne.mpr c2
  have c2b1 : (a0 != 0) = true := bne_iff_ne.mpr c2
  have H' := AM H
  clear H
  go_enter Try.func88, Try.ntmps88
  go_wp2
  go_loopg [0, 4] k (fun kq v0 v4 w' => ∃ (x0_1 : Int) (x4_1 : ByteArray), v0 = .int .i64 x0_1 ∧ v4 = .string x4_1 ∧ zd_ (z5_.l0 kq x0_1 (decide (a0 < 0)) x4_1 = some r) ∧ zd_ (kq ≤ k) ∧ zd_ (Below w.heap.size w w'))
  case atStart => exact ⟨(a0), ((⟨#[]⟩ : ByteArray)), re_, re_, H', ⟨Nat.le_refl _⟩, ⟨bel_⟩⟩
  case round =>
   clear H'
   (try clear c2); (try clear c2b0); (try clear c2b1)
   obtain ⟨x0_1, x4_1, rfl, rfl, HA, HK1, HB⟩ := hrel
   cases gk with
   | zero => exact absurd HA.out (by simp [z5_.l0])
   | succ k1 =>
    have H := HA.out
    clear HA
    simp only [z5_.l0] at H
    by_cases c3 : x0_1 = 0
    ·
     rw [if_pos c3] at H
     have c3b0 : (x0_1 == 0) = true := beq_iff_eq.mpr c3
     have c3b1 : (x0_1 != 0) = false := bne_eq_false_iff_eq.mpr c3
     clear c3
     by_cases c4 : (decide (a0 < 0)) = true
     ·
      rw [if_pos c4] at H
      have c4b0 : (decide (a0 < 0)) = true := c4
      clear c4
      by_cases c5 : 1 + x4_1.size ≤ 9223372036854775807
      ·
       rw [if_pos c5] at H
       have c5b0 := eq_true c5
       have c5b1 : decide (1 + x4_1.size ≤ 9223372036854775807) = true := decide_eq_true c5
       try have c5b2 : (9223372036854775807 < 1 + x4_1.size) = False := eq_false (Nat.not_lt.2 c5)
       obtain rfl := Option.some.inj H
       go_wp2
       all_goals first | (exfalso; have z_ := of_decide_eq_true c4b0; omega) | (go_ret; exact ⟨ri_, bel_⟩)
      ·
       rw [if_neg c5] at H
       exact absurd H (by simp)
     ·
      rw [if_neg c4] at H
      have c4b0 : (decide (a0 < 0)) = false := by simpa using c4
      clear c4
      obtain rfl := Option.some.inj H
      go_wp2
      all_goals first | (exfalso; have z_ := of_decide_eq_false c4b0; omega) | (go_ret; exact ⟨ri_, bel_⟩)
    ·
     rw [if_neg c3] at H
     have c3b0 : (x0_1 == 0) = false := beq_eq_false_iff_ne.mpr c3
     have c3b1 : (x0_1 != 0) = true := bne_iff_ne.mpr c3
     by_cases c6 : (Int.tmod x0_1 10) < 0
     ·
      rw [if_pos c6] at H
      have c6b0 : decide ((Int.tmod x0_1 10) < 0) = true := decide_eq_true c6
      clear c6
      obtain ⟨y167, hy167⟩ : ∃ y_ : List Int, y_ = (([(wrap64 (48 + (wrap64 (-(Int.tmod x0_1 10))))) % 256] : List Int)) := ⟨_, rfl⟩
      replace H : (if (strOfNums y167).size + x4_1.size ≤ 9223372036854775807 then (z5_.l0 k1 (wrap64 (Int.tdiv x0_1 10)) (decide (a0 < 0)) ((strOfNums y167) ++ x4_1)) else (none)) = some r := by first | (rw [hy167]; with_reducible exact H) | (have H2_ := (Option.bind_some _ _).symm.trans H; rw [hy167]; with_reducible exact H2_) | (have H2_ := (Option.bind_some _ _).symm.trans H; with_reducible exact H2_) | with_reducible exact H | (rw [hy167]; exact H) | exact H
      have Ny167 := AM hy167
      clear hy167
      by_cases c7 : (strOfNums y167).size + x4_1.size ≤ 9223372036854775807
      ·
       rw [if_pos c7] at H
       have c7b0 := eq_true c7
       have c7b1 : decide ((strOfNums y167).size + x4_1.size ≤ 9223372036854775807) = true := decide_eq_true c7
       try have c7b2 : (9223372036854775807 < (strOfNums y167).size + x4_1.size) = False := eq_false (Nat.not_lt.2 c7)
       have H' := AM H
       clear H
       go_wp2_with (first | ((with_reducible refine z6_ (N := 21) rfl ?_); refine Kd.R_lit (Kd.int .u8) _ 5 ?hgL5 (N := 21) ?hdL5 (xs := ([(wrap64 (48 + (wrap64 (-(Int.tmod x0_1 10))))) % 256] : List Int)) (inner := [.int .u8 ((wrap64 (48 + (wrap64 (-(Int.tmod x0_1 10))))) % 256)]) (ok := fun _ => True) (okp := fun _ => True) ?hrL5 ?hpL5 (fun _ hk => hk) trivial (Below.refl _ _) (Nat.le_refl _) (by simp) ?_; (case hdL5 => rfl); (case hgL5 => rfl); (case hrL5 => first | (go_simp; done) | (go_simp; rfl)); (case hpL5 => exact (Reps.one (show Kd.M (Kd.int .u8) _ _ _ ((wrap64 (48 + (wrap64 (-(Int.tmod x0_1 10))))) % 256) [.int .u8 ((wrap64 (48 + (wrap64 (-(Int.tmod x0_1 10))))) % 256)] from rfl) (Reps.none _ _))); intro v168 w8 ho9 hb hg_ hnew_; clear hg_ hnew_; (first | rw [← Ny167.out] at ho9 | (simp only [Int.reduceToNat] at ho9; rw [← Ny167.out] at ho9)); have HO169 := AM (Kd.yE_ ho9 (zj_ bel_)); replace HB := AM (zg_ bel_ hb); clear hb ho9; have hcv10 := xf_ (P := Try.prog) Try.underlying22 Try.underlying5 Try.underlying9 (Kd.xK_ HO169.out)))
       go_roundg k1
       case measure => have := HK1.out; omega
       case rel => exact ⟨(wrap64 (Int.tdiv x0_1 10)), ((strOfNums y167) ++ x4_1), re_, re_, H', ⟨by have := HK1.out; omega⟩, ⟨bel_⟩⟩
      ·
       rw [if_neg c7] at H
       exact absurd H (by simp)
     ·
      rw [if_neg c6] at H
      have c6b0 : decide ((Int.tmod x0_1 10) < 0) = false := decide_eq_false c6
      clear c6
      obtain ⟨y170, hy170⟩ : ∃ y_ : List Int, y_ = (([(wrap64 (48 + (Int.tmod x0_1 10))) % 256] : List Int)) := ⟨_, rfl⟩
      replace H : (if (strOfNums y170).size + x4_1.size ≤ 9223372036854775807 then (z5_.l0 k1 (wrap64 (Int.tdiv x0_1 10)) (decide (a0 < 0)) ((strOfNums y170) ++ x4_1)) else (none)) = some r := by first | (rw [hy170]; with_reducible exact H) | (have H2_ := (Option.bind_some _ _).symm.trans H; rw [hy170]; with_reducible exact H2_) | (have H2_ := (Option.bind_some _ _).symm.trans H; with_reducible exact H2_) | with_reducible exact H | (rw [hy170]; exact H) | exact H
      have Ny170 := AM hy170
      clear hy170
      by_cases c11 : (strOfNums y170).size + x4_1.size ≤ 9223372036854775807
      ·
       rw [if_pos c11] at H
       have c11b0 := eq_true c11
       have c11b1 : decide ((strOfNums y170).size + x4_1.size ≤ 9223372036854775807) = true := decide_eq_true c11
       try have c11b2 : (9223372036854775807 < (strOfNums y170).size + x4_1.size) = False := eq_false (Nat.not_lt.2 c11)
       have H' := AM H
       clear H
       go_wp2_with (first | ((with_reducible refine z6_ (N := 21) rfl ?_); refine Kd.R_lit (Kd.int .u8) _ 5 ?hgL6 (N := 21) ?hdL6 (xs := ([(wrap64 (48 + (Int.tmod x0_1 10))) % 256] : List Int)) (inner := [.int .u8 ((wrap64 (48 + (Int.tmod x0_1 10))) % 256)]) (ok := fun _ => True) (okp := fun _ => True) ?hrL6 ?hpL6 (fun _ hk => hk) trivial (Below.refl _ _) (Nat.le_refl _) (by simp) ?_; (case hdL6 => rfl); (case hgL6 => rfl); (case hrL6 => first | (go_simp; done) | (go_simp; rfl)); (case hpL6 => exact (Reps.one (show Kd.M (Kd.int .u8) _ _ _ ((wrap64 (48 + (Int.tmod x0_1 10))) % 256) [.int .u8 ((wrap64 (48 + (Int.tmod x0_1 10))) % 256)] from rfl) (Reps.none _ _))); intro v171 w12 ho13 hb hg_ hnew_; clear hg_ hnew_; (first | rw [← Ny170.out] at ho13 | (simp only [Int.reduceToNat] at ho13; rw [← Ny170.out] at ho13)); have HO172 := AM (Kd.yE_ ho13 (zj_ bel_)); replace HB := AM (zg_ bel_ hb); clear hb ho13; have hcv14 := xf_ (P := Try.prog) Try.underlying22 Try.underlying5 Try.underlying9 (Kd.xK_ HO172.out)))
       go_roundg k1
       case measure => have := HK1.out; omega
       case rel => exact ⟨(wrap64 (Int.tdiv x0_1 10)), ((strOfNums y170) ++ x4_1), re_, re_, H', ⟨by have := HK1.out; omega⟩, ⟨bel_⟩⟩
      ·
       rw [if_neg c11] at H
       exact absurd H (by simp)
/-! ### yR_: function 135 -/
def yR_.f (s0_0 : List Int) (s0_1 : Int) (s0_2 : Int) (s0_3 : Int) (l1 : List ByteArray) : Option (ByteArray × Int × Int × Int) := (zI_.f s0_0 s0_1 s0_2 s0_3 (l1.length : Int)).bind fun bt173 => (if 0 ≤ bt173.1 then (if bt173.1 < (l1.length : Int) then (some (rdOf ByteArray.empty l1 bt173.1, bt173.2.1, bt173.2.2.1, bt173.2.2.2)) else (none)) else (none))
theorem yR_.calls (g : Nat) (s0_0 : List Int) (s0_1 : Int) (s0_2 : Int) (s0_3 : Int) (A1 : Option Addr) (c1 : Nat) (l1 : List ByteArray) (r1 : ByteArray) (r2 : Int) (r3 : Int) (r4 : Int) (w0 w : World) (hI : zh_ w0 w g s0_0 s0_1 s0_2 s0_3) (hB : Below w0.heap.size w0 w) (hr1 : Kd.C Kd.string w A1 l1.length l1) (hc1 : l1.length ≤ c1) (hf1 : ∀ ad, A1 = some ad → 0 < l1.length → ad.block ≠ g) (h : yR_.f s0_0 s0_1 s0_2 s0_3 l1 = some (r1, r2, r3, r4)) :
 Calls Try.prog 135 #[.pointer (some ⟨g, 0, none⟩), .slice A1 l1.length c1] w fun e w' => e = .returned (.string r1) ∧ zh_ w0 w' g s0_0 r2 r3 r4 ∧ Below w0.heap.size w0 w' ∧ zs_ w w' g none := by
 have HR1 := AM hr1
 have HC1 := AM hc1
 clear hr1 hc1
 have HI0 := AM hI
 have HK := AM (zs_.refl w g none)
 have HL := AM hB.size
 clear hI
 have HW0 := AM hB.size
 have HB := AM hB
 clear hB
 have H : ((zI_.f s0_0 s0_1 s0_2 s0_3 (l1.length : Int)).bind fun bt173 => (if 0 ≤ bt173.1 then (if bt173.1 < (l1.length : Int) then (some (rdOf ByteArray.empty l1 bt173.1, bt173.2.1, bt173.2.2.1, bt173.2.2.2)) else (none)) else (none))) = some (r1, r2, r3, r4) := h
 clear h
 obtain ⟨⟨t173, t174, t175, t176⟩, A3, H⟩ := OB H
 try dsimp only at H
 replace A3 := AM A3
 by_cases c4 : 0 ≤ t173
 ·
  rw [if_pos c4] at H
  have c4b0 : decide (0 ≤ t173) = true := decide_eq_true c4
  clear c4
  by_cases c5 : t173 < (l1.length : Int)
  ·
   rw [if_pos c5] at H
   have c5b0 : decide (t173 < (l1.length : Int)) = true := decide_eq_true c5
   clear c5
   simp only [Option.some.injEq, Prod.mk.injEq] at H
   obtain ⟨rfl, rfl, rfl, rfl⟩ := H
   go_enter Try.func135, Try.ntmps135
   go_wp2_with (first | ((with_reducible refine zl_ (f := 64) rfl ?_); refine gl_ (some 9) Try.func64 #[.pointer (some ⟨g, 0, none⟩), .int .i64 (l1.length : Int)] ?_; (with_reducible refine (zI_.calls g s0_0 s0_1 s0_2 s0_3 (l1.length : Int) t173 t174 t175 t176 w0 _ ?side1 ?side2 A3.out).mono ?_); (case side1 => exact zA_); (case side2 => exact belg_ (zh_.ge HI0.out)); rintro e w6 ⟨rfl, hi, hb, hk⟩; refine ⟨_, rfl, ?_⟩; replace HK := AM (kk_ w hk); replace HB := AM hb; replace HI0 := AM hi; (try clear hb); (try clear hk); (try clear hi); have p177 : 0 ≤ (t173 : Int) := of_decide_eq_true asm_; have q177 : t173 < (l1.length : Int) := of_decide_eq_true asm_; obtain ⟨ad177, e177, hx177_0⟩ := Kd.y4_ HR1.out t173 p177 q177; cases e177; replace hx177_0 := keep_cell HK.out hx177_0 (by first | (rw [add_block]; exact hf1 _ rfl (by omega)) | exact hf1 _ rfl (by omega) | exact hf1 ad177 rfl (by omega)); replace p177 := eq_true p177; replace q177 := eq_true q177))
   go_ret
   exact ⟨ri_, zA_, belg_ (zh_.ge HI0.out), kp_⟩
  ·
   rw [if_neg c5] at H
   exact absurd H (by simp)
 ·
  rw [if_neg c4] at H
  exact absurd H (by simp)
end Go.Proofs.Ytfffdndeccipnaa.PFnNodes
