/- Functions of the law FnPack: the print's, with walks of this session's own. No statement is proved here. -/
import Derived.WalkLawsBesides
import Derived.Test.YtfffdndeccipnaaDoorPFnPackx17
namespace Go.Proofs.YtfffdndeccipnaaDoor.PFnPack
open Go.RowKit Go.Proofs.YtfffdndeccipnaaDoorW.PrintWords Go.Proofs.YtfffdndeccipnaaDoorW.PrintLast Go.Proofs.YtfffdndeccipnaaDoorW.PrintMore Go.Proofs.YtfffdndeccipnaaDoor.Reg Go.Proofs.YtfffdndeccipnaaDoor.Aut
attribute [local go_sem] max2_int min2_int max_two min_two y9_ y8_ max_four min_four
set_option linter.unusedVariables false
set_option linter.unusedSimpArgs false
set_option maxHeartbeats 8000000
set_option maxRecDepth 100000
/-! ### zx_: function 98 -/
def zx_.j0 : Nat → ByteArray → Int → ByteArray → Bool → List Int → Int → Int → Int → Option (ByteArray × Int × Int × Int)
 | 0, _, _, _, _, _, _, _, _ => none
 | k + 1, x1, x5, x6, x24, x1000, x1001, x1002, x1003 => if x24 = true then (if 0 ≤ x5 then (if x5 ≤ (x1.size : Int) then (if (x1.extract 0 (x5 : Int).toNat).size + x6.size ≤ 9223372036854775807 then (if ((x1.extract 0 (x5 : Int).toNat) ++ x6).size + (x1.extract (x5 : Int).toNat x1.size).size ≤ 9223372036854775807 then (some (((x1.extract 0 (x5 : Int).toNat) ++ x6) ++ (x1.extract (x5 : Int).toNat x1.size), x1001, x1002, x1003)) else (none)) else (none)) else (none)) else (none)) else ((zG_.f x1000 x1001 x1002 x1003 2).bind fun bt443 => (if bt443.1 = true then (if 0 ≤ x5 then (if x5 ≤ (x1.size : Int) then (if 0 ≤ (wrap64 (x5 + 1)) then (if (wrap64 (x5 + 1)) ≤ (x1.size : Int) then (if (x1.extract 0 (x5 : Int).toNat).size + (x1.extract ((wrap64 (x5 + 1)) : Int).toNat x1.size).size ≤ 9223372036854775807 then (some ((x1.extract 0 (x5 : Int).toNat) ++ (x1.extract ((wrap64 (x5 + 1)) : Int).toNat x1.size), bt443.2.1, bt443.2.2.1, bt443.2.2.2)) else (none)) else (none)) else (none)) else (none)) else (none)) else (if 0 ≤ x5 then (if x5 ≤ (x1.size : Int) then (if (x1.extract 0 (x5 : Int).toNat).size + x6.size ≤ 9223372036854775807 then (if 0 ≤ (wrap64 (x5 + 1)) then (if (wrap64 (x5 + 1)) ≤ (x1.size : Int) then (if ((x1.extract 0 (x5 : Int).toNat) ++ x6).size + (x1.extract ((wrap64 (x5 + 1)) : Int).toNat x1.size).size ≤ 9223372036854775807 then (some (((x1.extract 0 (x5 : Int).toNat) ++ x6) ++ (x1.extract ((wrap64 (x5 + 1)) : Int).toNat x1.size), bt443.2.1, bt443.2.2.1, bt443.2.2.2)) else (none)) else (none)) else (none)) else (none)) else (none)) else (none))))
def zx_.f (k : Nat) (s0_0 : List Int) (s0_1 : Int) (s0_2 : Int) (s0_3 : Int) (a1 : ByteArray) : Option (ByteArray × Int × Int × Int) := (zs_.f s0_0 s0_1 s0_2 s0_3 (wrap64 ((a1.size : Int) + 1))).bind fun bt428 => ((zs_.f s0_0 bt428.2.1 bt428.2.2.1 bt428.2.2.2 17).bind fun bt432 => (if 0 ≤ bt432.1 then (if bt432.1 < 17 then ((some (([bt (⟨#[32, 10, 48, 97, 45, 110, 44, 58, 93, 255, 40, 120, 126, 49, 128, 225, 59]⟩ : ByteArray) bt432.1] : List Int) : List Int)).bind fun y436 => (if bt428.1 = (a1.size : Int) then (zx_.j0 k a1 bt428.1 (strOfNums y436) true s0_0 bt432.2.1 bt432.2.2.1 bt432.2.2.2) else ((zG_.f s0_0 bt432.2.1 bt432.2.2.1 bt432.2.2.2 3).bind fun bt439 => (zx_.j0 k a1 bt428.1 (strOfNums y436) bt439.1 s0_0 bt439.2.1 bt439.2.2.1 bt439.2.2.2)))) else (none)) else (none)))
theorem zx_.mono_l : ∀ k, (∀ y0 y1 y2 y3 y4 y5 y6 y7, LeO (zx_.j0 k y0 y1 y2 y3 y4 y5 y6 y7) (zx_.j0 (k + 1) y0 y1 y2 y3 y4 y5 y6 y7))
 | 0 => fun _ _ _ _ _ _ _ _ r h => by simp [zx_.j0] at h
 | k + 1 => by
  have ih0 := zx_.mono_l k
  ·
   intro y0 y1 y2 y3 y4 y5 y6 y7
   unfold zx_.j0
   repeat' with_reducible first | exact ih0 _ _ _ _ _ _ _ _ | exact LeO.refl _ | exact LeO.none _ | refine LeO.ite ?_ ?_ | refine LeO.bind ?_ (fun _ => ?_)
theorem zx_.mono : ∀ a0 a1 a2 a3 a4 k, LeO (zx_.f k a0 a1 a2 a3 a4) (zx_.f (k + 1) a0 a1 a2 a3 a4) := by
 intro a0 a1 a2 a3 a4 k
 have ih0 := zx_.mono_l k
 unfold zx_.f
 repeat' with_reducible first | exact ih0 _ _ _ _ _ _ _ _ | exact LeO.refl _ | exact LeO.none _ | refine LeO.ite ?_ ?_ | refine LeO.bind ?_ (fun _ => ?_)
theorem zx_.calls (k : Nat) (g : Nat) (s0_0 : List Int) (s0_1 : Int) (s0_2 : Int) (s0_3 : Int) (a1 : ByteArray) (r1 : ByteArray) (r2 : Int) (r3 : Int) (r4 : Int) (w0 w : World) (hI : zi_ w0 w g s0_0 s0_1 s0_2 s0_3) (hB : Below w0.heap.size w0 w) (h : zx_.f k s0_0 s0_1 s0_2 s0_3 a1 = some (r1, r2, r3, r4)) :
 Calls Tryd.prog 98 #[.pointer (some ⟨g, 0, none⟩), .string a1] w fun e w' => e = .returned (.string r1) ∧ zi_ w0 w' g s0_0 r2 r3 r4 ∧ Below w0.heap.size w0 w' ∧ zw_ w w' g none := by
 have HI0 := AM hI
 have HK := AM (zw_.refl w g none)
 have HL := AM hB.size
 clear hI
 have HW0 := AM hB.size
 have HB := AM hB
 clear hB
 have H : ((zs_.f s0_0 s0_1 s0_2 s0_3 (wrap64 ((a1.size : Int) + 1))).bind fun bt428 => ((zs_.f s0_0 bt428.2.1 bt428.2.2.1 bt428.2.2.2 17).bind fun bt432 => (if 0 ≤ bt432.1 then (if bt432.1 < 17 then ((some (([bt (⟨#[32, 10, 48, 97, 45, 110, 44, 58, 93, 255, 40, 120, 126, 49, 128, 225, 59]⟩ : ByteArray) bt432.1] : List Int) : List Int)).bind fun y436 => (if bt428.1 = (a1.size : Int) then (zx_.j0 k a1 bt428.1 (strOfNums y436) true s0_0 bt432.2.1 bt432.2.2.1 bt432.2.2.2) else ((zG_.f s0_0 bt432.2.1 bt432.2.2.1 bt432.2.2.2 3).bind fun bt439 => (zx_.j0 k a1 bt428.1 (strOfNums y436) bt439.1 s0_0 bt439.2.1 bt439.2.2.1 bt439.2.2.2)))) else (none)) else (none)))) = some (r1, r2, r3, r4) := h
 clear h
 obtain ⟨⟨t428, t429, t430, t431⟩, A3, H⟩ := OB H
 try dsimp only at H
 replace A3 := AM A3
 obtain ⟨⟨t432, t433, t434, t435⟩, A4, H⟩ := OB H
 try dsimp only at H
 replace A4 := AM A4
 by_cases c5 : 0 ≤ t432
 ·
  rw [if_pos c5] at H
  have c5b0 : decide (0 ≤ t432) = true := decide_eq_true c5
  clear c5
  by_cases c6 : t432 < 17
  ·
   rw [if_pos c6] at H
   have c6b0 : decide (t432 < 17) = true := decide_eq_true c6
   clear c6
   obtain ⟨y436, hy436⟩ : ∃ y_ : List Int, y_ = (([bt (⟨#[32, 10, 48, 97, 45, 110, 44, 58, 93, 255, 40, 120, 126, 49, 128, 225, 59]⟩ : ByteArray) t432] : List Int)) := ⟨_, rfl⟩
   replace H : (if t428 = (a1.size : Int) then (zx_.j0 k a1 t428 (strOfNums y436) true s0_0 t433 t434 t435) else ((zG_.f s0_0 t433 t434 t435 3).bind fun bt439 => (zx_.j0 k a1 t428 (strOfNums y436) bt439.1 s0_0 bt439.2.1 bt439.2.2.1 bt439.2.2.2))) = some (r1, r2, r3, r4) := hy_ hy436 H
   have Ny436 := AM hy436
   clear hy436
   have HC8 := AM H
   clear H
   go_enter Tryd.func98, Tryd.ntmps98
   go_upto_region 3 with (first | (go_at_call 53; (with_reducible refine (zs_.calls g s0_0 s0_1 s0_2 s0_3 (wrap64 ((a1.size : Int) + 1)) t428 t429 t430 t431 w0 _ ?side1 ?side2 A3.out).mono ?_); (case side1 => exact zJ_); (case side2 => exact belg_ (zi_.ge HI0.out)); rintro e w9 ⟨rfl, hi, hb, hk⟩; replace HK := AM (kk_ w hk); replace HB := AM hb; replace HI0 := AM hi; (try clear hb); (try clear hk); (try clear hi)) | (go_at_call 53; (with_reducible refine (zs_.calls g s0_0 t429 t430 t431 17 t432 t433 t434 t435 w0 _ ?side1 ?side2 A4.out).mono ?_); (case side1 => exact zJ_); (case side2 => exact belg_ (zi_.ge HI0.out)); rintro e w10 ⟨rfl, hi, hb, hk⟩; replace HK := AM (kk_ w hk); replace HB := AM hb; replace HI0 := AM hi; (try clear hb); (try clear hk); (try clear hi); have p7 : 0 ≤ (t432 : Int) := of_decide_eq_true asm_; have q7 : t432 < (17 : Int) := of_decide_eq_true asm_; have hx7 := bt_at (⟨#[32, 10, 48, 97, 45, 110, 44, 58, 93, 255, 40, 120, 126, 49, 128, 225, 59]⟩ : ByteArray) t432; replace p7 := eq_true p7; replace q7 := eq_true q7) | ((with_reducible refine zy_ (N := 15) rfl ?_); refine Kd.R_lit (Kd.int .u8) _ 5 ?hgL1 (N := 15) ?hdL1 (xs := ([bt (⟨#[32, 10, 48, 97, 45, 110, 44, 58, 93, 255, 40, 120, 126, 49, 128, 225, 59]⟩ : ByteArray) t432] : List Int)) (inner := [.int .u8 (bt (⟨#[32, 10, 48, 97, 45, 110, 44, 58, 93, 255, 40, 120, 126, 49, 128, 225, 59]⟩ : ByteArray) t432)]) (ok := fun _ => True) (okp := fun _ => True) ?hrL1 ?hpL1 (fun _ hk => hk) trivial (Below.refl _ _) (Nat.le_refl _) (by simp) ?_; (case hdL1 => rfl); (case hgL1 => rfl); (case hrL1 => first | (go_simp; done) | (go_simp; rfl)); (case hpL1 => exact (Reps.one (show Kd.M (Kd.int .u8) _ _ _ (bt (⟨#[32, 10, 48, 97, 45, 110, 44, 58, 93, 255, 40, 120, 126, 49, 128, 225, 59]⟩ : ByteArray) t432) [.int .u8 (bt (⟨#[32, 10, 48, 97, 45, 110, 44, 58, 93, 255, 40, 120, 126, 49, 128, 225, 59]⟩ : ByteArray) t432)] from rfl) (Reps.none _ _))); intro v437 w11 ho12 hb hg_ hnew_; clear hg_ hnew_; (first | rw [← Ny436.out] at ho12 | (simp only [Int.reduceToNat] at ho12; rw [← Ny436.out] at ho12)); have HO438 := AM (Kd.ya_ ho12 (z3_ (w := w) (g := g) (row := none) kp_)); replace HK := AM (kb_ w g hb); replace HB := AM (zc_ (belg_ (zi_.ge HI0.out)) hb); replace HI0 := AM (zi_.below zJ_ hb); clear hb ho12; have hcv13 := yF_ (P := Tryd.prog) Tryd.underlying29 Tryd.underlying5 Tryd.underlying9 (Kd.yL_ HO438.out)))
   repeat (go_quiet (first | (go_at_call 53; (with_reducible refine (zs_.calls g s0_0 s0_1 s0_2 s0_3 (wrap64 ((a1.size : Int) + 1)) t428 t429 t430 t431 w0 _ ?side1 ?side2 A3.out).mono ?_); (case side1 => exact zJ_); (case side2 => exact belg_ (zi_.ge HI0.out)); rintro e w9 ⟨rfl, hi, hb, hk⟩; replace HK := AM (kk_ w hk); replace HB := AM hb; replace HI0 := AM hi; (try clear hb); (try clear hk); (try clear hi)) | (go_at_call 53; (with_reducible refine (zs_.calls g s0_0 t429 t430 t431 17 t432 t433 t434 t435 w0 _ ?side1 ?side2 A4.out).mono ?_); (case side1 => exact zJ_); (case side2 => exact belg_ (zi_.ge HI0.out)); rintro e w10 ⟨rfl, hi, hb, hk⟩; replace HK := AM (kk_ w hk); replace HB := AM hb; replace HI0 := AM hi; (try clear hb); (try clear hk); (try clear hi)) | ((with_reducible refine zy_ (N := 15) rfl ?_); refine Kd.R_lit (Kd.int .u8) _ 5 ?hgL2 (N := 15) ?hdL2 (xs := ([bt (⟨#[32, 10, 48, 97, 45, 110, 44, 58, 93, 255, 40, 120, 126, 49, 128, 225, 59]⟩ : ByteArray) t432] : List Int)) (inner := [.int .u8 (bt (⟨#[32, 10, 48, 97, 45, 110, 44, 58, 93, 255, 40, 120, 126, 49, 128, 225, 59]⟩ : ByteArray) t432)]) (ok := fun _ => True) (okp := fun _ => True) ?hrL2 ?hpL2 (fun _ hk => hk) trivial (Below.refl _ _) (Nat.le_refl _) (by simp) ?_; (case hdL2 => rfl); (case hgL2 => rfl); (case hrL2 => first | (go_simp; done) | (go_simp; rfl)); (case hpL2 => exact (Reps.one (show Kd.M (Kd.int .u8) _ _ _ (bt (⟨#[32, 10, 48, 97, 45, 110, 44, 58, 93, 255, 40, 120, 126, 49, 128, 225, 59]⟩ : ByteArray) t432) [.int .u8 (bt (⟨#[32, 10, 48, 97, 45, 110, 44, 58, 93, 255, 40, 120, 126, 49, 128, 225, 59]⟩ : ByteArray) t432)] from rfl) (Reps.none _ _))); intro v437 w11 ho12 hb hg_ hnew_; clear hg_ hnew_; (first | rw [← Ny436.out] at ho12 | (simp only [Int.reduceToNat] at ho12; rw [← Ny436.out] at ho12)); have HO438 := AM (Kd.ya_ ho12 (z3_ (w := w) (g := g) (row := none) kp_)); replace HK := AM (kb_ w g hb); replace HB := AM (zc_ (belg_ (zi_.ge HI0.out)) hb); replace HI0 := AM (zi_.below zJ_ hb); clear hb ho12; have hcv13 := yF_ (P := Tryd.prog) Tryd.underlying29 Tryd.underlying5 Tryd.underlying9 (Kd.yL_ HO438.out))); go_upto_region 3 with (first | (go_at_call 53; (with_reducible refine (zs_.calls g s0_0 s0_1 s0_2 s0_3 (wrap64 ((a1.size : Int) + 1)) t428 t429 t430 t431 w0 _ ?side1 ?side2 A3.out).mono ?_); (case side1 => exact zJ_); (case side2 => exact belg_ (zi_.ge HI0.out)); rintro e w9 ⟨rfl, hi, hb, hk⟩; replace HK := AM (kk_ w hk); replace HB := AM hb; replace HI0 := AM hi; (try clear hb); (try clear hk); (try clear hi)) | (go_at_call 53; (with_reducible refine (zs_.calls g s0_0 t429 t430 t431 17 t432 t433 t434 t435 w0 _ ?side1 ?side2 A4.out).mono ?_); (case side1 => exact zJ_); (case side2 => exact belg_ (zi_.ge HI0.out)); rintro e w10 ⟨rfl, hi, hb, hk⟩; replace HK := AM (kk_ w hk); replace HB := AM hb; replace HI0 := AM hi; (try clear hb); (try clear hk); (try clear hi)) | ((with_reducible refine zy_ (N := 15) rfl ?_); refine Kd.R_lit (Kd.int .u8) _ 5 ?hgL3 (N := 15) ?hdL3 (xs := ([bt (⟨#[32, 10, 48, 97, 45, 110, 44, 58, 93, 255, 40, 120, 126, 49, 128, 225, 59]⟩ : ByteArray) t432] : List Int)) (inner := [.int .u8 (bt (⟨#[32, 10, 48, 97, 45, 110, 44, 58, 93, 255, 40, 120, 126, 49, 128, 225, 59]⟩ : ByteArray) t432)]) (ok := fun _ => True) (okp := fun _ => True) ?hrL3 ?hpL3 (fun _ hk => hk) trivial (Below.refl _ _) (Nat.le_refl _) (by simp) ?_; (case hdL3 => rfl); (case hgL3 => rfl); (case hrL3 => first | (go_simp; done) | (go_simp; rfl)); (case hpL3 => exact (Reps.one (show Kd.M (Kd.int .u8) _ _ _ (bt (⟨#[32, 10, 48, 97, 45, 110, 44, 58, 93, 255, 40, 120, 126, 49, 128, 225, 59]⟩ : ByteArray) t432) [.int .u8 (bt (⟨#[32, 10, 48, 97, 45, 110, 44, 58, 93, 255, 40, 120, 126, 49, 128, 225, 59]⟩ : ByteArray) t432)] from rfl) (Reps.none _ _))); intro v437 w11 ho12 hb hg_ hnew_; clear hg_ hnew_; (first | rw [← Ny436.out] at ho12 | (simp only [Int.reduceToNat] at ho12; rw [← Ny436.out] at ho12)); have HO438 := AM (Kd.ya_ ho12 (z3_ (w := w) (g := g) (row := none) kp_)); replace HK := AM (kb_ w g hb); replace HB := AM (zc_ (belg_ (zi_.ge HI0.out)) hb); replace HI0 := AM (zi_.below zJ_ hb); clear hb ho12; have hcv13 := yF_ (P := Tryd.prog) Tryd.underlying29 Tryd.underlying5 Tryd.underlying9 (Kd.yL_ HO438.out))))
   (try simp only [Act.put, List.setIfInBounds_toArray, List.set_cons_zero, List.set_cons_succ])
   go_cut [24] (fun v24 wc => ∃ (kq : Nat) (x24_7 : Bool) (x1001_7 : Int) (x1002_7 : Int) (x1003_7 : Int), v24 = .bool x24_7 ∧ zd_ (zx_.j0 kq a1 t428 (strOfNums y436) x24_7 s0_0 x1001_7 x1002_7 x1003_7 = some (r1, r2, r3, r4)) ∧ zd_ (kq ≤ k) ∧ zd_ (zi_ w0 wc g s0_0 x1001_7 x1002_7 x1003_7) ∧ zd_ (zw_ w wc g none) ∧ zd_ (Below w0.heap.size w0 wc))
   case first =>
    have H := HC8.out
    clear HC8
    by_cases c14 : t428 = (a1.size : Int)
    ·
     rw [if_pos c14] at H
     have c14b0 : (t428 == (a1.size : Int)) = true := beq_iff_eq.mpr c14
     have c14b1 : (t428 != (a1.size : Int)) = false := bne_eq_false_iff_eq.mpr c14
     clear c14
     (first | rw [c14b0] | (simp only [i64_w, i32_w]; rw [c14b0]) | skip)
     have H' := AM H
     clear H
     go_wp2
     repeat (go_quiet (fail); try go_wp2)
     go_meet
     case rel => exact ⟨_, (true), (t433), (t434), (t435), re_, H', ⟨by first | omega | exact Nat.le_refl _⟩, ⟨zJ_⟩, ⟨kp_⟩, ⟨belg_ (zi_.ge HI0.out)⟩⟩
    ·
     rw [if_neg c14] at H
     have c14b0 : (t428 == (a1.size : Int)) = false := beq_eq_false_iff_ne.mpr c14
     have c14b1 : (t428 != (a1.size : Int)) = true := bne_iff_ne.mpr c14
     (first | rw [c14b0] | (simp only [i64_w, i32_w]; rw [c14b0]) | skip)
     obtain ⟨⟨t439, t440, t441, t442⟩, A15, H⟩ := OB H
     try dsimp only at H
     replace A15 := AM A15
     have H' := AM H
     clear H
     go_wp2_with (first | (go_at_call 91; (with_reducible refine (zG_.calls g s0_0 t433 t434 t435 3 t439 t440 t441 t442 w0 _ ?side1 ?side2 A15.out).mono ?_); (case side1 => exact zJ_); (case side2 => exact belg_ (zi_.ge HI0.out)); rintro e w16 ⟨rfl, hi, hb, hk⟩; replace HO438 := AM (Kd.z9_ (Kd.xg_ (zi_.apart (show zi_ w0 _ g s0_0 t433 t434 t435 from zJ_) (ro_ HO438.out) (by decide)) hk (fun _ h => h.2)) (fun _ h => h.1)); replace HK := AM (kk_ w hk); replace HB := AM hb; replace HI0 := AM hi; (try clear hb); (try clear hk); (try clear hi)))
     repeat (go_quiet (first | (go_at_call 91; (with_reducible refine (zG_.calls g s0_0 t433 t434 t435 3 t439 t440 t441 t442 w0 _ ?side1 ?side2 A15.out).mono ?_); (case side1 => exact zJ_); (case side2 => exact belg_ (zi_.ge HI0.out)); rintro e w16 ⟨rfl, hi, hb, hk⟩; replace HO438 := AM (Kd.z9_ (Kd.xg_ (zi_.apart (show zi_ w0 _ g s0_0 t433 t434 t435 from zJ_) (ro_ HO438.out) (by decide)) hk (fun _ h => h.2)) (fun _ h => h.1)); replace HK := AM (kk_ w hk); replace HB := AM hb; replace HI0 := AM hi; (try clear hb); (try clear hk); (try clear hi))); try go_wp2_with (first | (go_at_call 91; (with_reducible refine (zG_.calls g s0_0 t433 t434 t435 3 t439 t440 t441 t442 w0 _ ?side1 ?side2 A15.out).mono ?_); (case side1 => exact zJ_); (case side2 => exact belg_ (zi_.ge HI0.out)); rintro e w16 ⟨rfl, hi, hb, hk⟩; replace HO438 := AM (Kd.z9_ (Kd.xg_ (zi_.apart (show zi_ w0 _ g s0_0 t433 t434 t435 from zJ_) (ro_ HO438.out) (by decide)) hk (fun _ h => h.2)) (fun _ h => h.1)); replace HK := AM (kk_ w hk); replace HB := AM hb; replace HI0 := AM hi; (try clear hb); (try clear hk); (try clear hi))))
     go_meet
     case rel => exact ⟨_, (t439), (t440), (t441), (t442), re_, H', ⟨by first | omega | exact Nat.le_refl _⟩, ⟨zJ_⟩, ⟨kp_⟩, ⟨belg_ (zi_.ge HI0.out)⟩⟩
   case rest =>
    clear HC8
    (try clear c5b0); (try clear c6b0); (try clear p7); (try clear q7); (try clear hx7); (try clear hcv13); (try clear c14); (try clear c14b0); (try clear c14b1)
    obtain ⟨kq, x24_7, x1001_7, x1002_7, x1003_7, rfl, HA, HJ7, HI0, HK, HB⟩ := hcut
    cases kq with
    | zero => exact absurd HA.out (by simp [zx_.j0])
    | succ kj7 =>
     have H := HA.out
     clear HA
     simp only [zx_.j0] at H
     by_cases c17 : x24_7 = true
     ·
      subst c17
      rw [if_pos rfl] at H
      by_cases c18 : 0 ≤ t428
      ·
       rw [if_pos c18] at H
       have c18b0 := eq_true c18
       have c18b1 : decide (0 ≤ t428) = true := decide_eq_true c18
       clear c18
       by_cases c19 : t428 ≤ (a1.size : Int)
       ·
        rw [if_pos c19] at H
        have c19b0 := eq_true c19
        have c19b1 : decide (t428 ≤ (a1.size : Int)) = true := decide_eq_true c19
        clear c19
        by_cases c20 : (a1.extract 0 (t428 : Int).toNat).size + (strOfNums y436).size ≤ 9223372036854775807
        ·
         rw [if_pos c20] at H
         have c20b0 := eq_true c20
         have c20b1 : decide ((a1.extract 0 (t428 : Int).toNat).size + (strOfNums y436).size ≤ 9223372036854775807) = true := decide_eq_true c20
         try have c20b2 : (9223372036854775807 < (a1.extract 0 (t428 : Int).toNat).size + (strOfNums y436).size) = False := eq_false (Nat.not_lt.2 c20)
         have c21b0 := eq_true (of_decide_eq_true asm_ : 0 ≤ t428)
         have c22b0 := eq_true (of_decide_eq_true asm_ : t428 ≤ (a1.size : Int))
         by_cases c23 : ((a1.extract 0 (t428 : Int).toNat) ++ (strOfNums y436)).size + (a1.extract (t428 : Int).toNat a1.size).size ≤ 9223372036854775807
         ·
          rw [if_pos c23] at H
          have c23b0 := eq_true c23
          have c23b1 : decide (((a1.extract 0 (t428 : Int).toNat) ++ (strOfNums y436)).size + (a1.extract (t428 : Int).toNat a1.size).size ≤ 9223372036854775807) = true := decide_eq_true c23
          try have c23b2 : (9223372036854775807 < ((a1.extract 0 (t428 : Int).toNat) ++ (strOfNums y436)).size + (a1.extract (t428 : Int).toNat a1.size).size) = False := eq_false (Nat.not_lt.2 c23)
          try have c23b3 : (9223372036854775807 < a1.extract 0 (t428 : Int).toNat.size + strOfNums y436.size + a1.extract (t428 : Int).toNat a1.size.size) = False := eq_false (Nat.not_lt.2 (by have z := c23; simp only [ByteArray.size_append] at z; exact z))
          simp only [Option.some.injEq, Prod.mk.injEq] at H
          obtain ⟨rfl, rfl, rfl, rfl⟩ := H
          go_wp2
          repeat (go_quiet (fail); try go_wp2)
          go_ret
          exact ⟨ri_, zJ_, belg_ (zi_.ge HI0.out), kp_⟩
         ·
          rw [if_neg c23] at H
          exact absurd H (by simp)
        ·
         rw [if_neg c20] at H
         exact absurd H (by simp)
       ·
        rw [if_neg c19] at H
        exact absurd H (by simp)
      ·
       rw [if_neg c18] at H
       exact absurd H (by simp)
     ·
      replace c17 := Bool.eq_false_iff.mpr c17
      subst c17
      rw [if_neg (show ¬ (false = true) by decide)] at H
      obtain ⟨⟨t443, t444, t445, t446⟩, A24, H⟩ := OB H
      try dsimp only at H
      replace A24 := AM A24
      by_cases c25 : t443 = true
      ·
       subst c25
       rw [if_pos rfl] at H
       by_cases c26 : 0 ≤ t428
       ·
        rw [if_pos c26] at H
        have c26b0 := eq_true c26
        have c26b1 : decide (0 ≤ t428) = true := decide_eq_true c26
        clear c26
        by_cases c27 : t428 ≤ (a1.size : Int)
        ·
         rw [if_pos c27] at H
         have c27b0 := eq_true c27
         have c27b1 : decide (t428 ≤ (a1.size : Int)) = true := decide_eq_true c27
         clear c27
         obtain ⟨ji28, hji28⟩ : ∃ j_ : Int, (wrap64 (t428 + 1)) = j_ := ⟨_, rfl⟩
         replace H : (if 0 ≤ (ji28) then (if (ji28) ≤ (a1.size : Int) then (if (a1.extract 0 (t428 : Int).toNat).size + (a1.extract ((ji28) : Int).toNat a1.size).size ≤ 9223372036854775807 then (some ((a1.extract 0 (t428 : Int).toNat) ++ (a1.extract ((ji28) : Int).toNat a1.size), t444, t445, t446)) else (none)) else (none)) else (none)) = some (r1, r2, r3, r4) := by first | (rw [hji28] at H; exact H) | (simp only [hji28] at H ⊢; exact H)
         (try rw [hji28] at A24)
         have hji28w : (IntKind.i64.wrap (t428 + 1)) = ji28 := (i64_w _).trans hji28
         by_cases c29 : 0 ≤ (ji28)
         ·
          rw [if_pos c29] at H
          have c29b0 := eq_true c29
          have c29b1 : decide (0 ≤ (ji28)) = true := decide_eq_true c29
          clear c29
          by_cases c30 : (ji28) ≤ (a1.size : Int)
          ·
           rw [if_pos c30] at H
           have c30b0 := eq_true c30
           have c30b1 : decide ((ji28) ≤ (a1.size : Int)) = true := decide_eq_true c30
           clear c30
           by_cases c31 : (a1.extract 0 (t428 : Int).toNat).size + (a1.extract ((ji28) : Int).toNat a1.size).size ≤ 9223372036854775807
           ·
            rw [if_pos c31] at H
            have c31b0 := eq_true c31
            have c31b1 : decide ((a1.extract 0 (t428 : Int).toNat).size + (a1.extract ((ji28) : Int).toNat a1.size).size ≤ 9223372036854775807) = true := decide_eq_true c31
            try have c31b2 : (9223372036854775807 < (a1.extract 0 (t428 : Int).toNat).size + (a1.extract ((ji28) : Int).toNat a1.size).size) = False := eq_false (Nat.not_lt.2 c31)
            simp only [Option.some.injEq, Prod.mk.injEq] at H
            obtain ⟨rfl, rfl, rfl, rfl⟩ := H
            go_wp2_with (first | (go_at_call 91; (with_reducible refine (zG_.calls g s0_0 x1001_7 x1002_7 x1003_7 2 true t444 t445 t446 w0 _ ?side1 ?side2 A24.out).mono ?_); (case side1 => exact zJ_); (case side2 => exact belg_ (zi_.ge HI0.out)); rintro e w32 ⟨rfl, hi, hb, hk⟩; replace HK := AM (kk_ w hk); replace HB := AM hb; replace HI0 := AM hi; (try clear hb); (try clear hk); (try clear hi)))
            repeat (go_quiet (first | (go_at_call 91; (with_reducible refine (zG_.calls g s0_0 x1001_7 x1002_7 x1003_7 2 true t444 t445 t446 w0 _ ?side1 ?side2 A24.out).mono ?_); (case side1 => exact zJ_); (case side2 => exact belg_ (zi_.ge HI0.out)); rintro e w32 ⟨rfl, hi, hb, hk⟩; replace HK := AM (kk_ w hk); replace HB := AM hb; replace HI0 := AM hi; (try clear hb); (try clear hk); (try clear hi))); try go_wp2_with (first | (go_at_call 91; (with_reducible refine (zG_.calls g s0_0 x1001_7 x1002_7 x1003_7 2 true t444 t445 t446 w0 _ ?side1 ?side2 A24.out).mono ?_); (case side1 => exact zJ_); (case side2 => exact belg_ (zi_.ge HI0.out)); rintro e w32 ⟨rfl, hi, hb, hk⟩; replace HK := AM (kk_ w hk); replace HB := AM hb; replace HI0 := AM hi; (try clear hb); (try clear hk); (try clear hi))))
            go_ret
            exact ⟨by first | rfl | (simp [yd_, yc_] <;> rfl) | (simp only [← hji28]; first | rfl | (simp [yd_, yc_] <;> rfl)) | (simp [*, yd_, yc_] <;> rfl), zJ_, belg_ (zi_.ge HI0.out), kp_⟩
           ·
            rw [if_neg c31] at H
            exact absurd H (by simp)
          ·
           rw [if_neg c30] at H
           exact absurd H (by simp)
         ·
          rw [if_neg c29] at H
          exact absurd H (by simp)
        ·
         rw [if_neg c27] at H
         exact absurd H (by simp)
       ·
        rw [if_neg c26] at H
        exact absurd H (by simp)
      ·
       replace c25 := Bool.eq_false_iff.mpr c25
       subst c25
       rw [if_neg (show ¬ (false = true) by decide)] at H
       by_cases c33 : 0 ≤ t428
       ·
        rw [if_pos c33] at H
        have c33b0 := eq_true c33
        have c33b1 : decide (0 ≤ t428) = true := decide_eq_true c33
        clear c33
        by_cases c34 : t428 ≤ (a1.size : Int)
        ·
         rw [if_pos c34] at H
         have c34b0 := eq_true c34
         have c34b1 : decide (t428 ≤ (a1.size : Int)) = true := decide_eq_true c34
         clear c34
         by_cases c35 : (a1.extract 0 (t428 : Int).toNat).size + (strOfNums y436).size ≤ 9223372036854775807
         ·
          rw [if_pos c35] at H
          have c35b0 := eq_true c35
          have c35b1 : decide ((a1.extract 0 (t428 : Int).toNat).size + (strOfNums y436).size ≤ 9223372036854775807) = true := decide_eq_true c35
          try have c35b2 : (9223372036854775807 < (a1.extract 0 (t428 : Int).toNat).size + (strOfNums y436).size) = False := eq_false (Nat.not_lt.2 c35)
          obtain ⟨ji36, hji36⟩ : ∃ j_ : Int, (wrap64 (t428 + 1)) = j_ := ⟨_, rfl⟩
          replace H : (if 0 ≤ (ji36) then (if (ji36) ≤ (a1.size : Int) then (if ((a1.extract 0 (t428 : Int).toNat) ++ (strOfNums y436)).size + (a1.extract ((ji36) : Int).toNat a1.size).size ≤ 9223372036854775807 then (some (((a1.extract 0 (t428 : Int).toNat) ++ (strOfNums y436)) ++ (a1.extract ((ji36) : Int).toNat a1.size), t444, t445, t446)) else (none)) else (none)) else (none)) = some (r1, r2, r3, r4) := by first | (rw [hji36] at H; exact H) | (simp only [hji36] at H ⊢; exact H)
          (try rw [hji36] at A24)
          have hji36w : (IntKind.i64.wrap (t428 + 1)) = ji36 := (i64_w _).trans hji36
          by_cases c37 : 0 ≤ (ji36)
          ·
           rw [if_pos c37] at H
           have c37b0 := eq_true c37
           have c37b1 : decide (0 ≤ (ji36)) = true := decide_eq_true c37
           clear c37
           by_cases c38 : (ji36) ≤ (a1.size : Int)
           ·
            rw [if_pos c38] at H
            have c38b0 := eq_true c38
            have c38b1 : decide ((ji36) ≤ (a1.size : Int)) = true := decide_eq_true c38
            clear c38
            by_cases c39 : ((a1.extract 0 (t428 : Int).toNat) ++ (strOfNums y436)).size + (a1.extract ((ji36) : Int).toNat a1.size).size ≤ 9223372036854775807
            ·
             rw [if_pos c39] at H
             have c39b0 := eq_true c39
             have c39b1 : decide (((a1.extract 0 (t428 : Int).toNat) ++ (strOfNums y436)).size + (a1.extract ((ji36) : Int).toNat a1.size).size ≤ 9223372036854775807) = true := decide_eq_true c39
             try have c39b2 : (9223372036854775807 < ((a1.extract 0 (t428 : Int).toNat) ++ (strOfNums y436)).size + (a1.extract ((ji36) : Int).toNat a1.size).size) = False := eq_false (Nat.not_lt.2 c39)
             try have c39b3 : (9223372036854775807 < a1.extract 0 (t428 : Int).toNat.size + strOfNums y436.size + a1.extract ((ji36) : Int).toNat a1.size.size) = False := eq_false (Nat.not_lt.2 (by have z := c39; simp only [ByteArray.size_append] at z; exact z))
             simp only [Option.some.injEq, Prod.mk.injEq] at H
             obtain ⟨rfl, rfl, rfl, rfl⟩ := H
             go_wp2_with (first | (go_at_call 91; (with_reducible refine (zG_.calls g s0_0 x1001_7 x1002_7 x1003_7 2 false t444 t445 t446 w0 _ ?side1 ?side2 A24.out).mono ?_); (case side1 => exact zJ_); (case side2 => exact belg_ (zi_.ge HI0.out)); rintro e w40 ⟨rfl, hi, hb, hk⟩; replace HK := AM (kk_ w hk); replace HB := AM hb; replace HI0 := AM hi; (try clear hb); (try clear hk); (try clear hi)))
             repeat (go_quiet (first | (go_at_call 91; (with_reducible refine (zG_.calls g s0_0 x1001_7 x1002_7 x1003_7 2 false t444 t445 t446 w0 _ ?side1 ?side2 A24.out).mono ?_); (case side1 => exact zJ_); (case side2 => exact belg_ (zi_.ge HI0.out)); rintro e w40 ⟨rfl, hi, hb, hk⟩; replace HK := AM (kk_ w hk); replace HB := AM hb; replace HI0 := AM hi; (try clear hb); (try clear hk); (try clear hi))); try go_wp2_with (first | (go_at_call 91; (with_reducible refine (zG_.calls g s0_0 x1001_7 x1002_7 x1003_7 2 false t444 t445 t446 w0 _ ?side1 ?side2 A24.out).mono ?_); (case side1 => exact zJ_); (case side2 => exact belg_ (zi_.ge HI0.out)); rintro e w40 ⟨rfl, hi, hb, hk⟩; replace HK := AM (kk_ w hk); replace HB := AM hb; replace HI0 := AM hi; (try clear hb); (try clear hk); (try clear hi))))
             go_ret
             exact ⟨by first | rfl | (simp [yd_, yc_] <;> rfl) | (simp only [← hji36]; first | rfl | (simp [yd_, yc_] <;> rfl)) | (simp [*, yd_, yc_] <;> rfl), zJ_, belg_ (zi_.ge HI0.out), kp_⟩
            ·
             rw [if_neg c39] at H
             exact absurd H (by simp)
           ·
            rw [if_neg c38] at H
            exact absurd H (by simp)
          ·
           rw [if_neg c37] at H
           exact absurd H (by simp)
         ·
          rw [if_neg c35] at H
          exact absurd H (by simp)
        ·
         rw [if_neg c34] at H
         exact absurd H (by simp)
       ·
        rw [if_neg c33] at H
        exact absurd H (by simp)
  ·
   rw [if_neg c6] at H
   exact absurd H (by simp)
 ·
  rw [if_neg c5] at H
  exact absurd H (by simp)
/-! ### yb_: function 51 -/
def yb_.f (k : Nat) (s0_0 : List Int) (s0_1 : Int) (s0_2 : Int) (s0_3 : Int) : Option (ByteArray × Int × Int × Int) := (ze_.f k s0_0 s0_1 s0_2 s0_3).bind fun bt447 => ((z2_.f k bt447.1).bind fun t453 => ((zs_.f s0_0 bt447.2.1 bt447.2.2.1 bt447.2.2.2 5).bind fun bt454 => (if bt454.1 = 0 then ((zx_.f k s0_0 bt454.2.1 bt454.2.2.1 bt454.2.2.2 t453).bind fun bt458 => (some (bt458.1, bt458.2.1, bt458.2.2.1, bt458.2.2.2))) else (if bt454.1 = 1 then ((zs_.f s0_0 bt454.2.1 bt454.2.2.1 bt454.2.2.2 9).bind fun bt462 => ((zt_.f k s0_0 bt462.2.1 bt462.2.2.1 bt462.2.2.2 bt462.1).bind fun bt466 => (if bt466.1.size + t453.size ≤ 9223372036854775807 then (some (bt466.1 ++ t453, bt466.2.1, bt466.2.2.1, bt466.2.2.2)) else (none)))) else (if bt454.1 = 2 then ((zs_.f s0_0 bt454.2.1 bt454.2.2.1 bt454.2.2.2 (wrap64 ((t453.size : Int) + 1))).bind fun bt470 => (if 0 ≤ bt470.1 then (if bt470.1 ≤ (t453.size : Int) then (some (t453.extract 0 (bt470.1 : Int).toNat, bt470.2.1, bt470.2.2.1, bt470.2.2.2)) else (none)) else (none))) else (some (t453, bt454.2.1, bt454.2.2.1, bt454.2.2.2)))))))
theorem yb_.mono : ∀ a0 a1 a2 a3 k, LeO (yb_.f k a0 a1 a2 a3) (yb_.f (k + 1) a0 a1 a2 a3) := by
 intro a0 a1 a2 a3 k
 unfold yb_.f
 repeat' with_reducible first | exact z2_.mono _ _ | exact zt_.mono _ _ _ _ _ _ | exact ze_.mono _ _ _ _ _ | exact zx_.mono _ _ _ _ _ _ | exact LeO.refl _ | exact LeO.none _ | refine LeO.ite ?_ ?_ | refine LeO.bind ?_ (fun _ => ?_)
theorem yb_.calls (k : Nat) (g : Nat) (s0_0 : List Int) (s0_1 : Int) (s0_2 : Int) (s0_3 : Int) (r1 : ByteArray) (r2 : Int) (r3 : Int) (r4 : Int) (w0 w : World) (hI : zi_ w0 w g s0_0 s0_1 s0_2 s0_3) (hB : Below w0.heap.size w0 w) (h : yb_.f k s0_0 s0_1 s0_2 s0_3 = some (r1, r2, r3, r4)) :
 Calls Tryd.prog 51 #[.pointer (some ⟨g, 0, none⟩)] w fun e w' => e = .returned (.string r1) ∧ zi_ w0 w' g s0_0 r2 r3 r4 ∧ Below w0.heap.size w0 w' ∧ zw_ w w' g none := by
 have HI0 := AM hI
 have HK := AM (zw_.refl w g none)
 have HL := AM hB.size
 clear hI
 have HW0 := AM hB.size
 have HB := AM hB
 clear hB
 have H : ((ze_.f k s0_0 s0_1 s0_2 s0_3).bind fun bt447 => ((z2_.f k bt447.1).bind fun t453 => ((zs_.f s0_0 bt447.2.1 bt447.2.2.1 bt447.2.2.2 5).bind fun bt454 => (if bt454.1 = 0 then ((zx_.f k s0_0 bt454.2.1 bt454.2.2.1 bt454.2.2.2 t453).bind fun bt458 => (some (bt458.1, bt458.2.1, bt458.2.2.1, bt458.2.2.2))) else (if bt454.1 = 1 then ((zs_.f s0_0 bt454.2.1 bt454.2.2.1 bt454.2.2.2 9).bind fun bt462 => ((zt_.f k s0_0 bt462.2.1 bt462.2.2.1 bt462.2.2.2 bt462.1).bind fun bt466 => (if bt466.1.size + t453.size ≤ 9223372036854775807 then (some (bt466.1 ++ t453, bt466.2.1, bt466.2.2.1, bt466.2.2.2)) else (none)))) else (if bt454.1 = 2 then ((zs_.f s0_0 bt454.2.1 bt454.2.2.1 bt454.2.2.2 (wrap64 ((t453.size : Int) + 1))).bind fun bt470 => (if 0 ≤ bt470.1 then (if bt470.1 ≤ (t453.size : Int) then (some (t453.extract 0 (bt470.1 : Int).toNat, bt470.2.1, bt470.2.2.1, bt470.2.2.2)) else (none)) else (none))) else (some (t453, bt454.2.1, bt454.2.2.1, bt454.2.2.2)))))))) = some (r1, r2, r3, r4) := h
 clear h
 obtain ⟨⟨t447, t450, t451, t452⟩, A2, H⟩ := OB H
 try dsimp only at H
 replace A2 := AM A2
 obtain ⟨t453, A3, H⟩ := OB H
 try dsimp only at H
 replace A3 := AM A3
 obtain ⟨⟨t454, t455, t456, t457⟩, A4, H⟩ := OB H
 try dsimp only at H
 replace A4 := AM A4
 by_cases c5 : t454 = 0
 ·
  rw [if_pos c5] at H
  have c5b0 : (t454 == 0) = true := beq_iff_eq.mpr c5
  have c5b1 : (t454 != 0) = false := bne_eq_false_iff_eq.mpr c5
  clear c5
  obtain ⟨⟨t458, t459, t460, t461⟩, A6, H⟩ := OB H
  try dsimp only at H
  replace A6 := AM A6
  simp only [Option.some.injEq, Prod.mk.injEq] at H
  obtain ⟨rfl, rfl, rfl, rfl⟩ := H
  go_enter Tryd.func51, Tryd.ntmps51
  go_wp2_with (first | ((with_reducible refine zg_ (f := 48) rfl ?_); refine gl_ (some 5) Tryd.func48 #[.pointer (some ⟨g, 0, none⟩)] ?_; (with_reducible refine (ze_.calls k g s0_0 s0_1 s0_2 s0_3 t447 t450 t451 t452 w0 _ ?side1 ?side2 A2.out).mono ?_); (case side1 => exact zJ_); (case side2 => exact belg_ (zi_.ge HI0.out)); rintro e w7 ⟨v448, rfl, ho0, hi, hb, hk⟩; refine ⟨_, rfl, ?_⟩; have HO449 := AM (Kd.ya_ ho0 (z3_ (w := w) (g := g) (row := none) kp_)); replace HK := AM (kk_ w hk); replace HB := AM hb; replace HI0 := AM hi; (try clear hb); (try clear hk); (try clear hi); (try clear ho0); obtain ⟨Ao8, co8, eo8⟩ := Kd.yg_ HO449.out; subst eo8) | ((with_reducible refine zg_ (f := 15) rfl ?_); refine gl_ (some 6) Tryd.func15 #[.slice Ao8 t447.length co8] ?_; (with_reducible refine (z2_.calls k _ _ t447 t453 _ ?side1 ?side2 A3.out).mono ?_); (case side1 => repeat (first | exact (Kd.zY_ HO449.out).2.2 | (with_reducible refine Kd.yo_ ?_ _) | (with_reducible refine Kd.yn_ ?_ _) | (with_reducible refine Kd.yz_ ?_))); (case side2 => exact (Kd.zY_ HO449.out).2.1); rintro e w9 ⟨rfl, hb⟩; refine ⟨_, rfl, ?_⟩; replace HO449 := AM (Kd.zX_ (ro_ HO449.out) hb); replace HK := AM (kb_ w g hb); replace HB := AM (zc_ (belg_ (zi_.ge HI0.out)) hb); replace HI0 := AM (zi_.below zJ_ hb); (try clear hb)) | ((with_reducible refine zg_ (f := 53) rfl ?_); refine gl_ (some 8) Tryd.func53 #[.pointer (some ⟨g, 0, none⟩), .int .i64 5] ?_; (with_reducible refine (zs_.calls g s0_0 t450 t451 t452 5 t454 t455 t456 t457 w0 _ ?side1 ?side2 A4.out).mono ?_); (case side1 => exact zJ_); (case side2 => exact belg_ (zi_.ge HI0.out)); rintro e w10 ⟨rfl, hi, hb, hk⟩; refine ⟨_, rfl, ?_⟩; replace HO449 := AM (Kd.z9_ (Kd.xg_ (zi_.apart (show zi_ w0 _ g s0_0 t450 t451 t452 from zJ_) (ro_ HO449.out) (by decide)) hk (fun _ h => h.2)) (fun _ h => h.1)); replace HK := AM (kk_ w hk); replace HB := AM hb; replace HI0 := AM hi; (try clear hb); (try clear hk); (try clear hi)) | ((with_reducible refine zg_ (f := 98) rfl ?_); refine gl_ (some 13) Tryd.func98 #[.pointer (some ⟨g, 0, none⟩), .string t453] ?_; (with_reducible refine (zx_.calls k g s0_0 t455 t456 t457 t453 t458 t459 t460 t461 w0 _ ?side1 ?side2 A6.out).mono ?_); (case side1 => exact zJ_); (case side2 => exact belg_ (zi_.ge HI0.out)); rintro e w11 ⟨rfl, hi, hb, hk⟩; refine ⟨_, rfl, ?_⟩; replace HO449 := AM (Kd.z9_ (Kd.xg_ (zi_.apart (show zi_ w0 _ g s0_0 t455 t456 t457 from zJ_) (ro_ HO449.out) (by decide)) hk (fun _ h => h.2)) (fun _ h => h.1)); replace HK := AM (kk_ w hk); replace HB := AM hb; replace HI0 := AM hi; (try clear hb); (try clear hk); (try clear hi)))
  go_ret
  exact ⟨ri_, zJ_, belg_ (zi_.ge HI0.out), kp_⟩
 ·
  rw [if_neg c5] at H
  have c5b0 : (t454 == 0) = false := beq_eq_false_iff_ne.mpr c5
  have c5b1 : (t454 != 0) = true := bne_iff_ne.mpr c5
  by_cases c12 : t454 = 1
  ·
   rw [if_pos c12] at H
   have c12b0 : (t454 == 1) = true := beq_iff_eq.mpr c12
   have c12b1 : (t454 != 1) = false := bne_eq_false_iff_eq.mpr c12
   clear c12
   obtain ⟨⟨t462, t463, t464, t465⟩, A13, H⟩ := OB H
   try dsimp only at H
   replace A13 := AM A13
   obtain ⟨⟨t466, t467, t468, t469⟩, A14, H⟩ := OB H
   try dsimp only at H
   replace A14 := AM A14
   by_cases c15 : t466.size + t453.size ≤ 9223372036854775807
   ·
    rw [if_pos c15] at H
    have c15b0 := eq_true c15
    have c15b1 : decide (t466.size + t453.size ≤ 9223372036854775807) = true := decide_eq_true c15
    try have c15b2 : (9223372036854775807 < t466.size + t453.size) = False := eq_false (Nat.not_lt.2 c15)
    simp only [Option.some.injEq, Prod.mk.injEq] at H
    obtain ⟨rfl, rfl, rfl, rfl⟩ := H
    go_enter Tryd.func51, Tryd.ntmps51
    go_wp2_with (first | ((with_reducible refine zg_ (f := 48) rfl ?_); refine gl_ (some 5) Tryd.func48 #[.pointer (some ⟨g, 0, none⟩)] ?_; (with_reducible refine (ze_.calls k g s0_0 s0_1 s0_2 s0_3 t447 t450 t451 t452 w0 _ ?side1 ?side2 A2.out).mono ?_); (case side1 => exact zJ_); (case side2 => exact belg_ (zi_.ge HI0.out)); rintro e w16 ⟨v448, rfl, ho0, hi, hb, hk⟩; refine ⟨_, rfl, ?_⟩; have HO449 := AM (Kd.ya_ ho0 (z3_ (w := w) (g := g) (row := none) kp_)); replace HK := AM (kk_ w hk); replace HB := AM hb; replace HI0 := AM hi; (try clear hb); (try clear hk); (try clear hi); (try clear ho0); obtain ⟨Ao17, co17, eo17⟩ := Kd.yg_ HO449.out; subst eo17) | ((with_reducible refine zg_ (f := 15) rfl ?_); refine gl_ (some 6) Tryd.func15 #[.slice Ao17 t447.length co17] ?_; (with_reducible refine (z2_.calls k _ _ t447 t453 _ ?side1 ?side2 A3.out).mono ?_); (case side1 => repeat (first | exact (Kd.zY_ HO449.out).2.2 | (with_reducible refine Kd.yo_ ?_ _) | (with_reducible refine Kd.yn_ ?_ _) | (with_reducible refine Kd.yz_ ?_))); (case side2 => exact (Kd.zY_ HO449.out).2.1); rintro e w18 ⟨rfl, hb⟩; refine ⟨_, rfl, ?_⟩; replace HO449 := AM (Kd.zX_ (ro_ HO449.out) hb); replace HK := AM (kb_ w g hb); replace HB := AM (zc_ (belg_ (zi_.ge HI0.out)) hb); replace HI0 := AM (zi_.below zJ_ hb); (try clear hb)) | ((with_reducible refine zg_ (f := 53) rfl ?_); refine gl_ (some 8) Tryd.func53 #[.pointer (some ⟨g, 0, none⟩), .int .i64 5] ?_; (with_reducible refine (zs_.calls g s0_0 t450 t451 t452 5 t454 t455 t456 t457 w0 _ ?side1 ?side2 A4.out).mono ?_); (case side1 => exact zJ_); (case side2 => exact belg_ (zi_.ge HI0.out)); rintro e w19 ⟨rfl, hi, hb, hk⟩; refine ⟨_, rfl, ?_⟩; replace HO449 := AM (Kd.z9_ (Kd.xg_ (zi_.apart (show zi_ w0 _ g s0_0 t450 t451 t452 from zJ_) (ro_ HO449.out) (by decide)) hk (fun _ h => h.2)) (fun _ h => h.1)); replace HK := AM (kk_ w hk); replace HB := AM hb; replace HI0 := AM hi; (try clear hb); (try clear hk); (try clear hi)) | ((with_reducible refine zg_ (f := 53) rfl ?_); refine gl_ (some 18) Tryd.func53 #[.pointer (some ⟨g, 0, none⟩), .int .i64 9] ?_; (with_reducible refine (zs_.calls g s0_0 t455 t456 t457 9 t462 t463 t464 t465 w0 _ ?side1 ?side2 A13.out).mono ?_); (case side1 => exact zJ_); (case side2 => exact belg_ (zi_.ge HI0.out)); rintro e w20 ⟨rfl, hi, hb, hk⟩; refine ⟨_, rfl, ?_⟩; replace HO449 := AM (Kd.z9_ (Kd.xg_ (zi_.apart (show zi_ w0 _ g s0_0 t455 t456 t457 from zJ_) (ro_ HO449.out) (by decide)) hk (fun _ h => h.2)) (fun _ h => h.1)); replace HK := AM (kk_ w hk); replace HB := AM hb; replace HI0 := AM hi; (try clear hb); (try clear hk); (try clear hi)) | ((with_reducible refine zg_ (f := 52) rfl ?_); refine gl_ (some 19) Tryd.func52 #[.pointer (some ⟨g, 0, none⟩), .int .i64 t462] ?_; (with_reducible refine (zt_.calls k g s0_0 t463 t464 t465 t462 t466 t467 t468 t469 w0 _ ?side1 ?side2 A14.out).mono ?_); (case side1 => exact zJ_); (case side2 => exact belg_ (zi_.ge HI0.out)); rintro e w21 ⟨rfl, hi, hb, hk⟩; refine ⟨_, rfl, ?_⟩; replace HO449 := AM (Kd.z9_ (Kd.xg_ (zi_.apart (show zi_ w0 _ g s0_0 t463 t464 t465 from zJ_) (ro_ HO449.out) (by decide)) hk (fun _ h => h.2)) (fun _ h => h.1)); replace HK := AM (kk_ w hk); replace HB := AM hb; replace HI0 := AM hi; (try clear hb); (try clear hk); (try clear hi)))
    go_ret
    exact ⟨ri_, zJ_, belg_ (zi_.ge HI0.out), kp_⟩
   ·
    rw [if_neg c15] at H
    exact absurd H (by simp)
  ·
   rw [if_neg c12] at H
   have c12b0 : (t454 == 1) = false := beq_eq_false_iff_ne.mpr c12
   have c12b1 : (t454 != 1) = true := bne_iff_ne.mpr c12
   by_cases c22 : t454 = 2
   ·
    rw [if_pos c22] at H
    have c22b0 : (t454 == 2) = true := beq_iff_eq.mpr c22
    have c22b1 : (t454 != 2) = false := bne_eq_false_iff_eq.mpr c22
    clear c22
    obtain ⟨⟨t470, t471, t472, t473⟩, A23, H⟩ := OB H
    try dsimp only at H
    replace A23 := AM A23
    by_cases c24 : 0 ≤ t470
    ·
     rw [if_pos c24] at H
     have c24b0 := eq_true c24
     have c24b1 : decide (0 ≤ t470) = true := decide_eq_true c24
     clear c24
     by_cases c25 : t470 ≤ (t453.size : Int)
     ·
      rw [if_pos c25] at H
      have c25b0 := eq_true c25
      have c25b1 : decide (t470 ≤ (t453.size : Int)) = true := decide_eq_true c25
      clear c25
      simp only [Option.some.injEq, Prod.mk.injEq] at H
      obtain ⟨rfl, rfl, rfl, rfl⟩ := H
      go_enter Tryd.func51, Tryd.ntmps51
      go_wp2_with (first | ((with_reducible refine zg_ (f := 48) rfl ?_); refine gl_ (some 5) Tryd.func48 #[.pointer (some ⟨g, 0, none⟩)] ?_; (with_reducible refine (ze_.calls k g s0_0 s0_1 s0_2 s0_3 t447 t450 t451 t452 w0 _ ?side1 ?side2 A2.out).mono ?_); (case side1 => exact zJ_); (case side2 => exact belg_ (zi_.ge HI0.out)); rintro e w26 ⟨v448, rfl, ho0, hi, hb, hk⟩; refine ⟨_, rfl, ?_⟩; have HO449 := AM (Kd.ya_ ho0 (z3_ (w := w) (g := g) (row := none) kp_)); replace HK := AM (kk_ w hk); replace HB := AM hb; replace HI0 := AM hi; (try clear hb); (try clear hk); (try clear hi); (try clear ho0); obtain ⟨Ao27, co27, eo27⟩ := Kd.yg_ HO449.out; subst eo27) | ((with_reducible refine zg_ (f := 15) rfl ?_); refine gl_ (some 6) Tryd.func15 #[.slice Ao27 t447.length co27] ?_; (with_reducible refine (z2_.calls k _ _ t447 t453 _ ?side1 ?side2 A3.out).mono ?_); (case side1 => repeat (first | exact (Kd.zY_ HO449.out).2.2 | (with_reducible refine Kd.yo_ ?_ _) | (with_reducible refine Kd.yn_ ?_ _) | (with_reducible refine Kd.yz_ ?_))); (case side2 => exact (Kd.zY_ HO449.out).2.1); rintro e w28 ⟨rfl, hb⟩; refine ⟨_, rfl, ?_⟩; replace HO449 := AM (Kd.zX_ (ro_ HO449.out) hb); replace HK := AM (kb_ w g hb); replace HB := AM (zc_ (belg_ (zi_.ge HI0.out)) hb); replace HI0 := AM (zi_.below zJ_ hb); (try clear hb)) | ((with_reducible refine zg_ (f := 53) rfl ?_); refine gl_ (some 8) Tryd.func53 #[.pointer (some ⟨g, 0, none⟩), .int .i64 5] ?_; (with_reducible refine (zs_.calls g s0_0 t450 t451 t452 5 t454 t455 t456 t457 w0 _ ?side1 ?side2 A4.out).mono ?_); (case side1 => exact zJ_); (case side2 => exact belg_ (zi_.ge HI0.out)); rintro e w29 ⟨rfl, hi, hb, hk⟩; refine ⟨_, rfl, ?_⟩; replace HO449 := AM (Kd.z9_ (Kd.xg_ (zi_.apart (show zi_ w0 _ g s0_0 t450 t451 t452 from zJ_) (ro_ HO449.out) (by decide)) hk (fun _ h => h.2)) (fun _ h => h.1)); replace HK := AM (kk_ w hk); replace HB := AM hb; replace HI0 := AM hi; (try clear hb); (try clear hk); (try clear hi)) | ((with_reducible refine zg_ (f := 53) rfl ?_); refine gl_ (some 29) Tryd.func53 #[.pointer (some ⟨g, 0, none⟩), .int .i64 (wrap64 ((t453.size : Int) + 1))] ?_; (with_reducible refine (zs_.calls g s0_0 t455 t456 t457 (wrap64 ((t453.size : Int) + 1)) t470 t471 t472 t473 w0 _ ?side1 ?side2 A23.out).mono ?_); (case side1 => exact zJ_); (case side2 => exact belg_ (zi_.ge HI0.out)); rintro e w30 ⟨rfl, hi, hb, hk⟩; refine ⟨_, rfl, ?_⟩; replace HO449 := AM (Kd.z9_ (Kd.xg_ (zi_.apart (show zi_ w0 _ g s0_0 t455 t456 t457 from zJ_) (ro_ HO449.out) (by decide)) hk (fun _ h => h.2)) (fun _ h => h.1)); replace HK := AM (kk_ w hk); replace HB := AM hb; replace HI0 := AM hi; (try clear hb); (try clear hk); (try clear hi)))
      go_ret
      exact ⟨ri_, zJ_, belg_ (zi_.ge HI0.out), kp_⟩
     ·
      rw [if_neg c25] at H
      exact absurd H (by simp)
    ·
     rw [if_neg c24] at H
     exact absurd H (by simp)
   ·
    rw [if_neg c22] at H
    have c22b0 : (t454 == 2) = false := beq_eq_false_iff_ne.mpr c22
    have c22b1 : (t454 != 2) = true := bne_iff_ne.mpr c22
    simp only [Option.some.injEq, Prod.mk.injEq] at H
    obtain ⟨rfl, rfl, rfl, rfl⟩ := H
    go_enter Tryd.func51, Tryd.ntmps51
    go_wp2_with (first | ((with_reducible refine zg_ (f := 48) rfl ?_); refine gl_ (some 5) Tryd.func48 #[.pointer (some ⟨g, 0, none⟩)] ?_; (with_reducible refine (ze_.calls k g s0_0 s0_1 s0_2 s0_3 t447 t450 t451 t452 w0 _ ?side1 ?side2 A2.out).mono ?_); (case side1 => exact zJ_); (case side2 => exact belg_ (zi_.ge HI0.out)); rintro e w31 ⟨v448, rfl, ho0, hi, hb, hk⟩; refine ⟨_, rfl, ?_⟩; have HO449 := AM (Kd.ya_ ho0 (z3_ (w := w) (g := g) (row := none) kp_)); replace HK := AM (kk_ w hk); replace HB := AM hb; replace HI0 := AM hi; (try clear hb); (try clear hk); (try clear hi); (try clear ho0); obtain ⟨Ao32, co32, eo32⟩ := Kd.yg_ HO449.out; subst eo32) | ((with_reducible refine zg_ (f := 15) rfl ?_); refine gl_ (some 6) Tryd.func15 #[.slice Ao32 t447.length co32] ?_; (with_reducible refine (z2_.calls k _ _ t447 t453 _ ?side1 ?side2 A3.out).mono ?_); (case side1 => repeat (first | exact (Kd.zY_ HO449.out).2.2 | (with_reducible refine Kd.yo_ ?_ _) | (with_reducible refine Kd.yn_ ?_ _) | (with_reducible refine Kd.yz_ ?_))); (case side2 => exact (Kd.zY_ HO449.out).2.1); rintro e w33 ⟨rfl, hb⟩; refine ⟨_, rfl, ?_⟩; replace HO449 := AM (Kd.zX_ (ro_ HO449.out) hb); replace HK := AM (kb_ w g hb); replace HB := AM (zc_ (belg_ (zi_.ge HI0.out)) hb); replace HI0 := AM (zi_.below zJ_ hb); (try clear hb)) | ((with_reducible refine zg_ (f := 53) rfl ?_); refine gl_ (some 8) Tryd.func53 #[.pointer (some ⟨g, 0, none⟩), .int .i64 5] ?_; (with_reducible refine (zs_.calls g s0_0 t450 t451 t452 5 t454 t455 t456 t457 w0 _ ?side1 ?side2 A4.out).mono ?_); (case side1 => exact zJ_); (case side2 => exact belg_ (zi_.ge HI0.out)); rintro e w34 ⟨rfl, hi, hb, hk⟩; refine ⟨_, rfl, ?_⟩; replace HO449 := AM (Kd.z9_ (Kd.xg_ (zi_.apart (show zi_ w0 _ g s0_0 t450 t451 t452 from zJ_) (ro_ HO449.out) (by decide)) hk (fun _ h => h.2)) (fun _ h => h.1)); replace HK := AM (kk_ w hk); replace HB := AM hb; replace HI0 := AM hi; (try clear hb); (try clear hk); (try clear hi)))
    go_ret
    exact ⟨ri_, zJ_, belg_ (zi_.ge HI0.out), kp_⟩
/-! ### z1_: function 18 -/
def z1_.f (k : Nat) (l0 : List Int) : Option (ByteArray) := (zD_.f k l0).bind fun bt474 => ((yb_.f k bt474.1 bt474.2.1 bt474.2.2.1 bt474.2.2.2).bind fun bt479 => (some bt479.1))
theorem z1_.mono : ∀ a0 k, LeO (z1_.f k a0) (z1_.f (k + 1) a0) := by
 intro a0 k
 unfold z1_.f
 repeat' with_reducible first | exact zD_.mono _ _ | exact yb_.mono _ _ _ _ _ | exact LeO.refl _ | exact LeO.none _ | refine LeO.ite ?_ ?_ | refine LeO.bind ?_ (fun _ => ?_)
theorem z1_.calls (k : Nat) (A0 : Option Addr) (c0 : Nat) (l0 : List Int) (r : ByteArray) (w : World) (hr0 : Kd.C (Kd.int .u8) w A0 l0.length l0) (hc0 : l0.length ≤ c0) (h : z1_.f k l0 = some r) :
 Calls Tryd.prog 18 #[.slice A0 l0.length c0] w fun e w' => e = .returned (.string r) ∧ Below w.heap.size w w' := by
 have HR0 := AM hr0
 have HC0 := AM hc0
 clear hr0 hc0
 have HB := AM (Below.refl w.heap.size w)
 have H : ((zD_.f k l0).bind fun bt474 => ((yb_.f k bt474.1 bt474.2.1 bt474.2.2.1 bt474.2.2.2).bind fun bt479 => (some bt479.1))) = some r := h
 clear h
 obtain ⟨⟨t474, t475, t476, t477⟩, A2, H⟩ := OB H
 try dsimp only at H
 replace A2 := AM A2
 obtain ⟨⟨t479, t480, t481, t482⟩, A3, H⟩ := OB H
 try dsimp only at H
 replace A3 := AM A3
 obtain rfl := Option.some.inj H
 go_enter Tryd.func18, Tryd.ntmps18
 go_wp2_with (first | ((with_reducible refine zg_ (f := 47) rfl ?_); refine gl_ (some 4) Tryd.func47 #[.slice A0 l0.length c0] ?_; (with_reducible refine (zD_.calls k _ _ l0 t474 t475 t476 t477 w _ ?side1 ?side2 ?side3 A2.out).mono ?_); (case side1 => exact bel_); (case side2 => exact HR0.out); (case side3 => exact HC0.out); rintro e w4 ⟨g478, rfl, hi, hb, hb2⟩; refine ⟨_, rfl, ?_⟩; replace HB := AM hb; have HI478 := AM hi; (try clear hb); (try clear hb2); (try clear hi)) | ((with_reducible refine zg_ (f := 51) rfl ?_); refine gl_ (some 5) Tryd.func51 #[.pointer (some ⟨g478, 0, none⟩)] ?_; (with_reducible refine (yb_.calls k g478 t474 t475 t476 t477 t479 t480 t481 t482 w _ ?side1 ?side2 A3.out).mono ?_); (case side1 => exact zJ_); (case side2 => exact belg_ (zi_.ge HI478.out)); rintro e w5 ⟨rfl, hi, hb, hk⟩; refine ⟨_, rfl, ?_⟩; replace HB := AM hb; replace HI478 := AM hi; (try clear hb); (try clear hk); (try clear hi)))
 go_ret
 exact ⟨ri_, belg_ (zi_.ge HI478.out)⟩
/-! ### zz_: function 4 -/
mutual
def zz_.j0 : Nat → List Int → List Int → Bool → Option (Bool)
 | 0, _, _, _ => none
 | k + 1, x0, x1, x18 => if x18 = true then (some true) else ((z8_.f k x0).bind fun t483 => ((yi_.f k t483).bind fun t486 => ((z2_.f k t483).bind fun t487 => (if t486.toList = t487.toList then ((z4_.f k t483).bind fun t488 => (zz_.j1 k x1 t483 t486 (t488 != (t486.toList != ([] : List UInt8))))) else (zz_.j1 k x1 t483 t486 true)))))
def zz_.j1 : Nat → List Int → List (S60) → ByteArray → Bool → Option (Bool)
 | 0, _, _, _, _ => none
 | k + 1, x1, x5, x6, x33 => if x33 = true then (some false) else (if x6.toList = ([] : List UInt8) then (zz_.j2 k x1) else ((zv_.f k x6).bind fun bt489 => (if bt489.2.2 = 0 then ((zV_.f k bt489.1 x5).bind fun t495 => (if t495 = true then (zz_.j2 k x1) else (some false))) else (some false))))
def zz_.j2 : Nat → List Int → Option (Bool)
 | 0, _ => none
 | k + 1, x1 => (z1_.f k x1).bind fun t496 => ((zC_.f k t496).bind fun bt497 => ((zv_.f k t496).bind fun bt503 => (if bt503.2.2 = bt497.2.2 then (if bt503.2.1 = bt497.2.1 then (if bt503.2.2 = 0 then ((yi_.f k bt503.1).bind fun t509 => (some (t509.toList == t496.toList))) else (some true)) else (some false)) else (some false))))
end
def zz_.f (k : Nat) (l0 : List Int) (l1 : List Int) : Option (Bool) := if (l0.length : Int) > 1048576 then (zz_.j0 k l0 l1 true) else (zz_.j0 k l0 l1 (decide ((l1.length : Int) > 1048576)))
theorem zz_.mono_l : ∀ k, (∀ y0 y1 y2, LeO (zz_.j0 k y0 y1 y2) (zz_.j0 (k + 1) y0 y1 y2)) ∧ (∀ y0 y1 y2 y3, LeO (zz_.j1 k y0 y1 y2 y3) (zz_.j1 (k + 1) y0 y1 y2 y3)) ∧ (∀ y0, LeO (zz_.j2 k y0) (zz_.j2 (k + 1) y0))
 | 0 => ⟨fun _ _ _ r h => by simp [zz_.j0] at h, fun _ _ _ _ r h => by simp [zz_.j1] at h, fun _ r h => by simp [zz_.j2] at h⟩
 | k + 1 => by
  obtain ⟨ih0, ih1, ih2⟩ := zz_.mono_l k
  refine ⟨?_, ?_, ?_⟩
  ·
   intro y0 y1 y2
   unfold zz_.j0
   repeat' with_reducible first | exact ih0 _ _ _ | exact ih1 _ _ _ _ | exact ih2 _ | exact yi_.mono _ _ | exact zv_.mono _ _ | exact z4_.mono _ _ | exact zV_.mono _ _ _ | exact z8_.mono _ _ | exact z1_.mono _ _ | exact z2_.mono _ _ | exact zC_.mono _ _ | exact LeO.refl _ | exact LeO.none _ | refine LeO.ite ?_ ?_ | refine LeO.bind ?_ (fun _ => ?_)
  ·
   intro y0 y1 y2 y3
   unfold zz_.j1
   repeat' with_reducible first | exact ih0 _ _ _ | exact ih1 _ _ _ _ | exact ih2 _ | exact yi_.mono _ _ | exact zv_.mono _ _ | exact z4_.mono _ _ | exact zV_.mono _ _ _ | exact z8_.mono _ _ | exact z1_.mono _ _ | exact z2_.mono _ _ | exact zC_.mono _ _ | exact LeO.refl _ | exact LeO.none _ | refine LeO.ite ?_ ?_ | refine LeO.bind ?_ (fun _ => ?_)
  ·
   intro y0
   unfold zz_.j2
   repeat' with_reducible first | exact ih0 _ _ _ | exact ih1 _ _ _ _ | exact ih2 _ | exact yi_.mono _ _ | exact zv_.mono _ _ | exact z4_.mono _ _ | exact zV_.mono _ _ _ | exact z8_.mono _ _ | exact z1_.mono _ _ | exact z2_.mono _ _ | exact zC_.mono _ _ | exact LeO.refl _ | exact LeO.none _ | refine LeO.ite ?_ ?_ | refine LeO.bind ?_ (fun _ => ?_)
theorem zz_.mono : ∀ a0 a1 k, LeO (zz_.f k a0 a1) (zz_.f (k + 1) a0 a1) := by
 intro a0 a1 k
 obtain ⟨ih0, ih1, ih2⟩ := zz_.mono_l k
 unfold zz_.f
 repeat' with_reducible first | exact ih0 _ _ _ | exact ih1 _ _ _ _ | exact ih2 _ | exact yi_.mono _ _ | exact zv_.mono _ _ | exact z4_.mono _ _ | exact zV_.mono _ _ _ | exact z8_.mono _ _ | exact z1_.mono _ _ | exact z2_.mono _ _ | exact zC_.mono _ _ | exact LeO.refl _ | exact LeO.none _ | refine LeO.ite ?_ ?_ | refine LeO.bind ?_ (fun _ => ?_)
theorem zz_.calls (k : Nat) (A0 : Option Addr) (c0 : Nat) (l0 : List Int) (A1 : Option Addr) (c1 : Nat) (l1 : List Int) (r : Bool) (w : World) (hr0 : Kd.C (Kd.int .u8) w A0 l0.length l0) (hc0 : l0.length ≤ c0) (hr1 : Kd.C (Kd.int .u8) w A1 l1.length l1) (hc1 : l1.length ≤ c1) (h : zz_.f k l0 l1 = some r) (hL : Hand.LaidG w := by first | exact hL | exact Hand.LaidG.below hL bel_) :
 Calls Tryd.prog 4 #[.slice A0 l0.length c0, .slice A1 l1.length c1] w fun e w' => e = .returned (.bool r) ∧ Below w.heap.size w w' := by
 have hu24 := Tryd.underlying24
 have HR0 := AM hr0
 have HC0 := AM hc0
 clear hr0 hc0
 have HR1 := AM hr1
 have HC1 := AM hc1
 clear hr1 hc1
 have HB := AM (Below.refl w.heap.size w)
 have H : (if (l0.length : Int) > 1048576 then (zz_.j0 k l0 l1 true) else (zz_.j0 k l0 l1 (decide ((l1.length : Int) > 1048576)))) = some r := h
 clear h
 have HC3 := AM H
 clear H
 go_enter Tryd.func4, Tryd.ntmps4
 go_upto_region 1 with (fail)
 go_cut [18] (fun v18 wc => ∃ (kq : Nat) (x18_2 : Bool), v18 = .bool x18_2 ∧ zd_ (zz_.j0 kq l0 l1 x18_2 = some r) ∧ zd_ (kq ≤ k) ∧ zd_ (Below w.heap.size w wc))
 case first =>
  have H := HC3.out
  clear HC3
  by_cases c4 : (l0.length : Int) > 1048576
  ·
   rw [if_pos c4] at H
   have c4b0 : decide (1048576 < (l0.length : Int)) = true := decide_eq_true c4
   have c4b1 : decide (1048576 < l0.length) = true := decide_eq_true (by omega)
   clear c4
   (first | rw [c4b0] | (simp only [i64_w, i32_w]; rw [c4b0]) | skip)
   have H' := AM H
   clear H
   go_wp2
   go_meet
   case rel => exact ⟨_, (true), re_, H', ⟨by first | omega | exact Nat.le_refl _⟩, ⟨bel_⟩⟩
  ·
   rw [if_neg c4] at H
   have c4b0 : decide (1048576 < (l0.length : Int)) = false := decide_eq_false c4
   have c4b1 : decide (1048576 < l0.length) = false := decide_eq_false (by omega)
   clear c4
   (first | rw [c4b0] | (simp only [i64_w, i32_w]; rw [c4b0]) | skip)
   have H' := AM H
   clear H
   go_wp2
   go_meet
   case rel => exact ⟨_, (decide ((l1.length : Int) > 1048576)), re_, H', ⟨by first | omega | exact Nat.le_refl _⟩, ⟨bel_⟩⟩
 case rest =>
  clear HC3
  (try clear c1); (try clear c4b0); (try clear c4b1)
  obtain ⟨kq, x18_2, rfl, HA, HJ2, HB⟩ := hcut
  cases kq with
  | zero => exact absurd HA.out (by simp [zz_.j0])
  | succ kj2 =>
   have H := HA.out
   clear HA
   simp only [zz_.j0] at H
   by_cases c5 : x18_2 = true
   ·
    subst c5
    rw [if_pos rfl] at H
    obtain rfl := Option.some.inj H
    go_wp2
    go_ret
    exact ⟨ri_, bel_⟩
   ·
    replace c5 := Bool.eq_false_iff.mpr c5
    subst c5
    rw [if_neg (show ¬ (false = true) by decide)] at H
    obtain ⟨t483, A6, H⟩ := OB H
    try dsimp only at H
    replace A6 := AM A6
    obtain ⟨t486, A7, H⟩ := OB H
    try dsimp only at H
    replace A7 := AM A7
    have HC8 := AM H
    clear H
    go_upto_region 5 with (first | ((with_reducible refine zg_ (f := 13) rfl ?_); refine gl_ (some 20) Tryd.func13 #[.slice A0 l0.length c0] ?_; (with_reducible refine (z8_.calls kj2 _ _ l0 t483 _ ?side1 ?side2 A6.out).mono ?_); (case side1 => repeat (first | exact (Kd.C_below HR0.out HB.out) | (with_reducible refine Kd.yo_ ?_ _) | (with_reducible refine Kd.yn_ ?_ _) | (with_reducible refine Kd.yz_ ?_))); (case side2 => exact HC0.out); rintro e w9 ⟨v484, rfl, ho0, hb⟩; refine ⟨_, rfl, ?_⟩; have HO485 := AM (Kd.ya_ ho0 (zf_ bel_)); replace HB := AM (zc_ bel_ hb); (try clear hb); (try clear ho0); obtain ⟨Ao10, co10, eo10⟩ := Kd.yg_ HO485.out; subst eo10) | ((with_reducible refine zg_ (f := 14) rfl ?_); refine gl_ (some 22) Tryd.func14 #[.slice Ao10 t483.length co10] ?_; (with_reducible refine (yi_.calls kj2 _ _ t483 t486 _ ?side1 ?side2 A7.out).mono ?_); (case side1 => repeat (first | exact (Kd.zY_ HO485.out).2.2 | (with_reducible refine Kd.yo_ ?_ _) | (with_reducible refine Kd.yn_ ?_ _) | (with_reducible refine Kd.yz_ ?_))); (case side2 => exact (Kd.zY_ HO485.out).2.1); rintro e w11 ⟨rfl, hb⟩; refine ⟨_, rfl, ?_⟩; replace HO485 := AM (Kd.zX_ (ro_ HO485.out) hb); replace HB := AM (zc_ bel_ hb); (try clear hb)))
    (try simp only [Act.put, List.setIfInBounds_toArray, List.set_cons_zero, List.set_cons_succ])
    go_cut [33] (fun v33 wc => ∃ (kq : Nat) (x33_7 : Bool), v33 = .bool x33_7 ∧ zd_ (zz_.j1 kq l1 t483 t486 x33_7 = some r) ∧ zd_ (kq ≤ kj2) ∧ zd_ (Kd.R k60 60 wc w.heap.size (fun _ => True) (.slice Ao10 t483.length co10) t483) ∧ zd_ (Below w.heap.size w wc))
    case first =>
     have H := HC8.out
     clear HC8
     obtain ⟨t487, A12, H⟩ := OB H
     try dsimp only at H
     replace A12 := AM A12
     by_cases c13 : t486.toList = t487.toList
     ·
      rw [if_pos c13] at H
      have c13b0 : (t486.toList == t487.toList) = true := beq_iff_eq.mpr c13
      have c13b1 : (t486.toList != t487.toList) = false := bne_eq_false_iff_eq.mpr c13
      clear c13
      (first | rw [c13b0] | (simp only [i64_w, i32_w]; rw [c13b0]) | skip)
      obtain ⟨t488, A14, H⟩ := OB H
      try dsimp only at H
      replace A14 := AM A14
      have H' := AM H
      clear H
      go_wp2_with (first | ((with_reducible refine zg_ (f := 15) rfl ?_); refine gl_ (some 25) Tryd.func15 #[.slice Ao10 t483.length co10] ?_; (with_reducible refine (z2_.calls kj2 _ _ t483 t487 _ ?side1 ?side2 A12.out).mono ?_); (case side1 => repeat (first | exact (Kd.zY_ HO485.out).2.2 | (with_reducible refine Kd.yo_ ?_ _) | (with_reducible refine Kd.yn_ ?_ _) | (with_reducible refine Kd.yz_ ?_))); (case side2 => exact (Kd.zY_ HO485.out).2.1); rintro e w15 ⟨rfl, hb⟩; refine ⟨_, rfl, ?_⟩; replace HO485 := AM (Kd.zX_ (ro_ HO485.out) hb); replace HB := AM (zc_ bel_ hb); (try clear hb)) | (go_at_call 16; (with_reducible refine (z4_.calls kj2 _ _ t483 t488 _ ?side1 ?side2 A14.out).mono ?_); (case side1 => repeat (first | exact (Kd.zY_ HO485.out).2.2 | (with_reducible refine Kd.yo_ ?_ _) | (with_reducible refine Kd.yn_ ?_ _) | (with_reducible refine Kd.yz_ ?_))); (case side2 => exact (Kd.zY_ HO485.out).2.1); rintro e w16 ⟨rfl, hb⟩; replace HO485 := AM (Kd.zX_ (ro_ HO485.out) hb); replace HB := AM (zc_ bel_ hb); (try clear hb)))
      go_meet
      case rel => exact ⟨_, ((t488 != (t486.toList != ([] : List UInt8)))), (by first | rfl | (clear H' HJ2; generalize t488 = a_; generalize t486.toList = b_; cases a_ <;> cases b_ <;> rfl) | (simp; done) | (simp [*]; done)), H', ⟨by have := HJ2.out; first | omega | exact Nat.le_refl _⟩, ⟨ro_ HO485.out⟩, ⟨bel_⟩⟩
     ·
      rw [if_neg c13] at H
      have c13b0 : (t486.toList == t487.toList) = false := beq_eq_false_iff_ne.mpr c13
      have c13b1 : (t486.toList != t487.toList) = true := bne_iff_ne.mpr c13
      (first | rw [c13b0] | (simp only [i64_w, i32_w]; rw [c13b0]) | skip)
      have H' := AM H
      clear H
      go_wp2_with (first | ((with_reducible refine zg_ (f := 15) rfl ?_); refine gl_ (some 25) Tryd.func15 #[.slice Ao10 t483.length co10] ?_; (with_reducible refine (z2_.calls kj2 _ _ t483 t487 _ ?side1 ?side2 A12.out).mono ?_); (case side1 => repeat (first | exact (Kd.zY_ HO485.out).2.2 | (with_reducible refine Kd.yo_ ?_ _) | (with_reducible refine Kd.yn_ ?_ _) | (with_reducible refine Kd.yz_ ?_))); (case side2 => exact (Kd.zY_ HO485.out).2.1); rintro e w17 ⟨rfl, hb⟩; refine ⟨_, rfl, ?_⟩; replace HO485 := AM (Kd.zX_ (ro_ HO485.out) hb); replace HB := AM (zc_ bel_ hb); (try clear hb)))
      go_meet
      case rel => exact ⟨_, (true), re_, H', ⟨by have := HJ2.out; first | omega | exact Nat.le_refl _⟩, ⟨ro_ HO485.out⟩, ⟨bel_⟩⟩
    case rest =>
     clear HC8
     (try clear c5); (try clear c13); (try clear c13b0); (try clear c13b1)
     obtain ⟨kq, x33_7, rfl, HA, HJ7, HO_5, HB⟩ := hcut
     cases kq with
     | zero => exact absurd HA.out (by simp [zz_.j1])
     | succ kj7 =>
      have H := HA.out
      clear HA
      simp only [zz_.j1] at H
      by_cases c18 : x33_7 = true
      ·
       subst c18
       rw [if_pos rfl] at H
       obtain rfl := Option.some.inj H
       go_wp2
       go_ret
       exact ⟨ri_, bel_⟩
      ·
       replace c18 := Bool.eq_false_iff.mpr c18
       subst c18
       rw [if_neg (show ¬ (false = true) by decide)] at H
       have HC19 := AM H
       clear H
       go_upto_if 35 with (fail)
       go_cut [] (fun wc => ∃ (kq : Nat), zd_ (zz_.j2 kq l1 = some r) ∧ zd_ (kq ≤ kj7) ∧ zd_ (Below w.heap.size w wc))
       case first =>
        have H := HC19.out
        clear HC19
        by_cases c20 : t486.toList = ([] : List UInt8)
        ·
         rw [if_pos c20] at H
         have c20b0 : (t486.toList == ([] : List UInt8)) = true := beq_iff_eq.mpr c20
         have c20b1 : (t486.toList != ([] : List UInt8)) = false := bne_eq_false_iff_eq.mpr c20
         clear c20
         (first | rw [c20b0] | (simp only [i64_w, i32_w]; rw [c20b0]) | skip)
         have c20b2 : t486.toList.isEmpty = true := by revert c20b0; cases t486.toList <;> simp
         (try rw [c20b2])
         have H' := AM H
         clear H
         go_wp2
         go_meet
         case rel => exact ⟨_, H', ⟨by have := HJ2.out; have := HJ7.out; first | omega | exact Nat.le_refl _⟩, ⟨bel_⟩⟩
        ·
         rw [if_neg c20] at H
         have c20b0 : (t486.toList == ([] : List UInt8)) = false := beq_eq_false_iff_ne.mpr c20
         have c20b1 : (t486.toList != ([] : List UInt8)) = true := bne_iff_ne.mpr c20
         (first | rw [c20b0] | (simp only [i64_w, i32_w]; rw [c20b0]) | skip)
         have c20b2 : t486.toList.isEmpty = false := by revert c20b0; cases t486.toList <;> simp
         (try rw [c20b2])
         obtain ⟨⟨t489, t492, t493⟩, A21, H⟩ := OB H
         try dsimp only at H
         replace A21 := AM A21
         by_cases c22 : t493 = 0
         ·
          rw [if_pos c22] at H
          have c22b0 : (t493 == 0) = true := beq_iff_eq.mpr c22
          have c22b1 : (t493 != 0) = false := bne_eq_false_iff_eq.mpr c22
          clear c22
          obtain ⟨t495, A23, H⟩ := OB H
          try dsimp only at H
          replace A23 := AM A23
          by_cases c24 : t495 = true
          ·
           subst c24
           rw [if_pos rfl] at H
           have H' := AM H
           clear H
           go_wp2_with (first | ((with_reducible refine zg_ (f := 9) rfl ?_); refine gl_ (some 37) Tryd.func9 #[.string t486] ?_; (with_reducible refine (zv_.calls kj7 t486 t489 t492 t493 _ A21.out).mono ?_); rintro e w25 ⟨v490, rfl, ho0, hb⟩; refine ⟨_, rfl, ?_⟩; have HO491 := AM (Kd.ya_ (Kd.xf_ ho0 (Kd.R_lt (ro_ HO_5.out))) (zf_ bel_)); replace HO_5 := AM (Kd.yJ_ (ro_ HO_5.out) (Kd.xh_ ho0) hb); replace HB := AM (zc_ bel_ hb); (try clear hb); (try clear ho0)) | ((with_reducible refine zy_ (N := 7) rfl ?_); (try (refine yh_ (by rfl) ?_; dsimp only)); refine be_ 7 #[.slice none 0 0, .int .i64 0, .int .i64 0] 24 ?_; intro gb494 hg w26 hbox hb; replace HO_5 := AM (Kd.zX_ (ro_ HO_5.out) hb); replace HO491 := AM (Kd.zX_ (ro_ HO491.out) hb); have BK494 := AM hbox; have GW494 := AM ((by rw [hg]; exact (zf_ bel_) : w.heap.size ≤ gb494)); have GE494 := AM ((by rw [hg]; exact (zf_ bel_) : w.heap.size ≤ gb494)); replace HB := AM (zc_ bel_ hb); clear hb hbox hg; obtain ⟨Ao27, co27, eo27⟩ := Kd.yg_ HO491.out; subst eo27; have hcz28_0 : w26.cell? ⟨gb494, 0, none⟩ = some (.slice none 0 0) := (zb_ BK494.out 0).trans rfl; have hcz28_1 : w26.cell? ⟨gb494, 1, none⟩ = some (.int .i64 0) := (zb_ BK494.out 1).trans rfl; have hcz28_2 : w26.cell? ⟨gb494, 2, none⟩ = some (.int .i64 0) := (zb_ BK494.out 2).trans rfl; have hfz28_0 := za_ BK494.out 0; have hfz28_1 := za_ BK494.out 1; have hfz28_2 := za_ BK494.out 2) | (go_at_call 17; (with_reducible refine (zV_.calls kj7 _ _ t489 _ _ t483 true _ ?side1 ?side2 ?side3 ?side4 A23.out).mono ?_); (case side1 => refine (Kd.zY_ (e := 60) (base := w.heap.size) (ok := fun k_ => (True ∧ some k_ ≠ (.slice Ao10 t483.length co10 : Value).ownBlock)) (n := t489.length) (c := co27) ?_).2.2; exact (by (with_reducible repeat (first | apply Kd.yv_ | apply Kd.yt_ | apply Kd.yI_)); exact (Kd.z9_ (Kd.R_far (p := ⟨gb494, 2, none⟩) (Kd.R_far (p := ⟨gb494, 1, none⟩) (Kd.R_far (p := ⟨gb494, 0, none⟩) (Kd.yB_ HO491.out BK494.out (by decide)) (fun _ hk => hk.2) (.slice Ao27 t489.length co27)) (fun _ hk => hk.2) (.int .i64 t492)) (fun _ hk => hk.2) (.int .i64 t493)) (fun _ h_ => h_.1)))); (case side2 => exact (Kd.zY_ HO491.out).2.1); (case side3 => refine (Kd.zY_ (e := 60) (base := w.heap.size) (ok := fun k_ => (True ∧ some k_ ≠ (.slice Ao27 t489.length co27 : Value).ownBlock)) (n := t483.length) (c := co10) ?_).2.2; exact (by (with_reducible repeat (first | apply Kd.yv_ | apply Kd.yt_ | apply Kd.yI_)); exact (Kd.z9_ (Kd.R_far (p := ⟨gb494, 2, none⟩) (Kd.R_far (p := ⟨gb494, 1, none⟩) (Kd.R_far (p := ⟨gb494, 0, none⟩) (Kd.yB_ HO_5.out BK494.out (by decide)) (fun _ hk => hk.2) (.slice Ao27 t489.length co27)) (fun _ hk => hk.2) (.int .i64 t492)) (fun _ hk => hk.2) (.int .i64 t493)) (fun _ h_ => h_.1)))); (case side4 => exact (Kd.zY_ HO_5.out).2.1); rintro e w' ⟨rfl, ⟨nd, rfl⟩⟩))
           go_meet
           case rel => exact ⟨_, H', ⟨by have := HJ2.out; have := HJ7.out; first | omega | exact Nat.le_refl _⟩, ⟨bel_⟩⟩
          ·
           replace c24 := Bool.eq_false_iff.mpr c24
           subst c24
           rw [if_neg (show ¬ (false = true) by decide)] at H
           obtain rfl := Option.some.inj H
           go_wp2_with (first | ((with_reducible refine zg_ (f := 9) rfl ?_); refine gl_ (some 37) Tryd.func9 #[.string t486] ?_; (with_reducible refine (zv_.calls kj7 t486 t489 t492 t493 _ A21.out).mono ?_); rintro e w29 ⟨v490, rfl, ho0, hb⟩; refine ⟨_, rfl, ?_⟩; have HO491 := AM (Kd.ya_ (Kd.xf_ ho0 (Kd.R_lt (ro_ HO_5.out))) (zf_ bel_)); replace HO_5 := AM (Kd.yJ_ (ro_ HO_5.out) (Kd.xh_ ho0) hb); replace HB := AM (zc_ bel_ hb); (try clear hb); (try clear hk); (try clear ho0)) | ((with_reducible refine zy_ (N := 7) rfl ?_); (try (refine yh_ (by rfl) ?_; dsimp only)); refine be_ 7 #[.slice none 0 0, .int .i64 0, .int .i64 0] 24 ?_; intro gb494 hg w30 hbox hb; replace HO_5 := AM (Kd.zX_ (ro_ HO_5.out) hb); replace HO491 := AM (Kd.zX_ (ro_ HO491.out) hb); have BK494 := AM hbox; have GW494 := AM ((by rw [hg]; exact (zf_ bel_) : w.heap.size ≤ gb494)); have GE494 := AM ((by rw [hg]; exact (zf_ bel_) : w.heap.size ≤ gb494)); replace HB := AM (zc_ bel_ hb); clear hb hbox hg; obtain ⟨Ao31, co31, eo31⟩ := Kd.yg_ HO491.out; subst eo31; have hcz32_0 : w30.cell? ⟨gb494, 0, none⟩ = some (.slice none 0 0) := (zb_ BK494.out 0).trans rfl; have hcz32_1 : w30.cell? ⟨gb494, 1, none⟩ = some (.int .i64 0) := (zb_ BK494.out 1).trans rfl; have hcz32_2 : w30.cell? ⟨gb494, 2, none⟩ = some (.int .i64 0) := (zb_ BK494.out 2).trans rfl; have hfz32_0 := za_ BK494.out 0; have hfz32_1 := za_ BK494.out 1; have hfz32_2 := za_ BK494.out 2) | (go_at_call 17; (with_reducible refine (zV_.calls kj7 _ _ t489 _ _ t483 false _ ?side1 ?side2 ?side3 ?side4 A23.out).mono ?_); (case side1 => refine (Kd.zY_ (e := 60) (base := w.heap.size) (ok := fun k_ => (True ∧ some k_ ≠ (.slice Ao10 t483.length co10 : Value).ownBlock)) (n := t489.length) (c := co31) ?_).2.2; exact (by (with_reducible repeat (first | apply Kd.yv_ | apply Kd.yt_ | apply Kd.yI_)); exact (Kd.z9_ (Kd.R_far (p := ⟨gb494, 2, none⟩) (Kd.R_far (p := ⟨gb494, 1, none⟩) (Kd.R_far (p := ⟨gb494, 0, none⟩) (Kd.yB_ HO491.out BK494.out (by decide)) (fun _ hk => hk.2) (.slice Ao31 t489.length co31)) (fun _ hk => hk.2) (.int .i64 t492)) (fun _ hk => hk.2) (.int .i64 t493)) (fun _ h_ => h_.1)))); (case side2 => exact (Kd.zY_ HO491.out).2.1); (case side3 => refine (Kd.zY_ (e := 60) (base := w.heap.size) (ok := fun k_ => (True ∧ some k_ ≠ (.slice Ao31 t489.length co31 : Value).ownBlock)) (n := t483.length) (c := co10) ?_).2.2; exact (by (with_reducible repeat (first | apply Kd.yv_ | apply Kd.yt_ | apply Kd.yI_)); exact (Kd.z9_ (Kd.R_far (p := ⟨gb494, 2, none⟩) (Kd.R_far (p := ⟨gb494, 1, none⟩) (Kd.R_far (p := ⟨gb494, 0, none⟩) (Kd.yB_ HO_5.out BK494.out (by decide)) (fun _ hk => hk.2) (.slice Ao31 t489.length co31)) (fun _ hk => hk.2) (.int .i64 t492)) (fun _ hk => hk.2) (.int .i64 t493)) (fun _ h_ => h_.1)))); (case side4 => exact (Kd.zY_ HO_5.out).2.1); rintro e w' ⟨rfl, ⟨nd, rfl⟩⟩))
           go_ret
           exact ⟨ri_, bel_⟩
         ·
          rw [if_neg c22] at H
          have c22b0 : (t493 == 0) = false := beq_eq_false_iff_ne.mpr c22
          have c22b1 : (t493 != 0) = true := bne_iff_ne.mpr c22
          obtain rfl := Option.some.inj H
          go_wp2_with (first | ((with_reducible refine zg_ (f := 9) rfl ?_); refine gl_ (some 37) Tryd.func9 #[.string t486] ?_; (with_reducible refine (zv_.calls kj7 t486 t489 t492 t493 _ A21.out).mono ?_); rintro e w33 ⟨v490, rfl, ho0, hb⟩; refine ⟨_, rfl, ?_⟩; have HO491 := AM (Kd.ya_ (Kd.xf_ ho0 (Kd.R_lt (ro_ HO_5.out))) (zf_ bel_)); replace HO_5 := AM (Kd.yJ_ (ro_ HO_5.out) (Kd.xh_ ho0) hb); replace HB := AM (zc_ bel_ hb); (try clear hb); (try clear hk); (try clear ho0)) | ((with_reducible refine zy_ (N := 7) rfl ?_); (try (refine yh_ (by rfl) ?_; dsimp only)); refine be_ 7 #[.slice none 0 0, .int .i64 0, .int .i64 0] 24 ?_; intro gb494 hg w34 hbox hb; replace HO_5 := AM (Kd.zX_ (ro_ HO_5.out) hb); replace HO491 := AM (Kd.zX_ (ro_ HO491.out) hb); have BK494 := AM hbox; have GW494 := AM ((by rw [hg]; exact (zf_ bel_) : w.heap.size ≤ gb494)); have GE494 := AM ((by rw [hg]; exact (zf_ bel_) : w.heap.size ≤ gb494)); replace HB := AM (zc_ bel_ hb); clear hb hbox hg; obtain ⟨Ao35, co35, eo35⟩ := Kd.yg_ HO491.out; subst eo35; have hcz36_0 : w34.cell? ⟨gb494, 0, none⟩ = some (.slice none 0 0) := (zb_ BK494.out 0).trans rfl; have hcz36_1 : w34.cell? ⟨gb494, 1, none⟩ = some (.int .i64 0) := (zb_ BK494.out 1).trans rfl; have hcz36_2 : w34.cell? ⟨gb494, 2, none⟩ = some (.int .i64 0) := (zb_ BK494.out 2).trans rfl; have hfz36_0 := za_ BK494.out 0; have hfz36_1 := za_ BK494.out 1; have hfz36_2 := za_ BK494.out 2))
          go_ret
          exact ⟨ri_, bel_⟩
       case rest =>
        clear HC19
        (try clear c18); (try clear c20); (try clear c20b0); (try clear c20b1); (try clear c22); (try clear c22b0); (try clear c22b1); (try clear c24); (try clear hcz28_0); (try clear hcz28_1); (try clear hcz28_2); (try clear hcz32_0); (try clear hcz32_1); (try clear hcz32_2); (try clear hcz36_0); (try clear hcz36_1); (try clear hcz36_2); (try clear hfz28_0); (try clear hfz28_1); (try clear hfz28_2); (try clear hfz32_0); (try clear hfz32_1); (try clear hfz32_2); (try clear hfz36_0); (try clear hfz36_1); (try clear hfz36_2)
        obtain ⟨kq, HA, HJ18, HB⟩ := hcut
        cases kq with
        | zero => exact absurd HA.out (by simp [zz_.j2])
        | succ kj18 =>
         have H := HA.out
         clear HA
         simp only [zz_.j2] at H
         obtain ⟨t496, A37, H⟩ := OB H
         try dsimp only at H
         replace A37 := AM A37
         obtain ⟨⟨t497, t500, t501⟩, A38, H⟩ := OB H
         try dsimp only at H
         replace A38 := AM A38
         obtain ⟨⟨t503, t506, t507⟩, A39, H⟩ := OB H
         try dsimp only at H
         replace A39 := AM A39
         by_cases c40 : t507 = t501
         ·
          rw [if_pos c40] at H
          have c40b0 : (t507 == t501) = true := beq_iff_eq.mpr c40
          have c40b1 : (t507 != t501) = false := bne_eq_false_iff_eq.mpr c40
          clear c40
          by_cases c41 : t506 = t500
          ·
           rw [if_pos c41] at H
           have c41b0 : (t506 == t500) = true := beq_iff_eq.mpr c41
           have c41b1 : (t506 != t500) = false := bne_eq_false_iff_eq.mpr c41
           clear c41
           by_cases c42 : t507 = 0
           ·
            rw [if_pos c42] at H
            have c42b0 : (t507 == 0) = true := beq_iff_eq.mpr c42
            have c42b1 : (t507 != 0) = false := bne_eq_false_iff_eq.mpr c42
            clear c42
            obtain ⟨t509, A43, H⟩ := OB H
            try dsimp only at H
            replace A43 := AM A43
            obtain rfl := Option.some.inj H
            go_wp2_with (first | ((with_reducible refine zg_ (f := 18) rfl ?_); refine gl_ (some 49) Tryd.func18 #[.slice A1 l1.length c1] ?_; (with_reducible refine (z1_.calls kj18 _ _ l1 t496 _ ?side1 ?side2 A37.out).mono ?_); (case side1 => repeat (first | exact (Kd.C_below HR1.out HB.out) | (with_reducible refine Kd.yo_ ?_ _) | (with_reducible refine Kd.yn_ ?_ _) | (with_reducible refine Kd.yz_ ?_))); (case side2 => exact HC1.out); rintro e w44 ⟨rfl, hb⟩; refine ⟨_, rfl, ?_⟩; replace HB := AM (zc_ bel_ hb); (try clear hb)) | ((with_reducible refine zg_ (f := 8) rfl ?_); refine gl_ (some 51) Tryd.func8 #[.string t496] ?_; (with_reducible refine (zC_.calls kj18 t496 t497 t500 t501 _ A38.out).mono ?_); rintro e w45 ⟨v498, rfl, ho0, hb⟩; refine ⟨_, rfl, ?_⟩; have HO499 := AM (Kd.ya_ ho0 (zf_ bel_)); replace HB := AM (zc_ bel_ hb); (try clear hb); (try clear ho0)) | ((with_reducible refine zy_ (N := 9) rfl ?_); (try (refine yh_ (by rfl) ?_; dsimp only)); refine be_ 9 #[.slice none 0 0, .int .i64 0, .int .i64 0] 24 ?_; intro gb502 hg w46 hbox hb; replace HO499 := AM (Kd.zX_ (ro_ HO499.out) hb); have BK502 := AM hbox; have GW502 := AM ((by rw [hg]; exact (zf_ bel_) : w.heap.size ≤ gb502)); have GE502 := AM ((by rw [hg]; exact (zf_ bel_) : w.heap.size ≤ gb502)); replace HB := AM (zc_ bel_ hb); clear hb hbox hg; obtain ⟨Ao47, co47, eo47⟩ := Kd.yg_ HO499.out; subst eo47; have hcz48_0 : w46.cell? ⟨gb502, 0, none⟩ = some (.slice none 0 0) := (zb_ BK502.out 0).trans rfl; have hcz48_1 : w46.cell? ⟨gb502, 1, none⟩ = some (.int .i64 0) := (zb_ BK502.out 1).trans rfl; have hcz48_2 : w46.cell? ⟨gb502, 2, none⟩ = some (.int .i64 0) := (zb_ BK502.out 2).trans rfl; have hfz48_0 := za_ BK502.out 0; have hfz48_1 := za_ BK502.out 1; have hfz48_2 := za_ BK502.out 2) | ((with_reducible refine zg_ (f := 9) rfl ?_); refine gl_ (some 53) Tryd.func9 #[.string t496] ?_; (with_reducible refine (zv_.calls kj18 t496 t503 t506 t507 _ A39.out).mono ?_); rintro e w49 ⟨v504, rfl, ho0, hb⟩; refine ⟨_, rfl, ?_⟩; have HO505 := AM (Kd.ya_ (Kd.xf_ ho0 (Kd.R_lt (by (with_reducible repeat (first | apply Kd.yv_ | apply Kd.yt_ | apply Kd.yI_)); exact (Kd.z9_ (Kd.R_far (p := ⟨gb502, 2, none⟩) (Kd.R_far (p := ⟨gb502, 1, none⟩) (Kd.R_far (p := ⟨gb502, 0, none⟩) (Kd.yB_ HO499.out BK502.out (by decide)) (fun _ hk => hk.2) (.slice Ao47 t497.length co47)) (fun _ hk => hk.2) (.int .i64 t500)) (fun _ hk => hk.2) (.int .i64 t501)) (fun _ h_ => h_.1))))) (zf_ bel_)); replace HO499 := AM (Kd.yJ_ (by (with_reducible repeat (first | apply Kd.yv_ | apply Kd.yt_ | apply Kd.yI_)); exact (Kd.z9_ (Kd.R_far (p := ⟨gb502, 2, none⟩) (Kd.R_far (p := ⟨gb502, 1, none⟩) (Kd.R_far (p := ⟨gb502, 0, none⟩) (Kd.yB_ HO499.out BK502.out (by decide)) (fun _ hk => hk.2) (.slice Ao47 t497.length co47)) (fun _ hk => hk.2) (.int .i64 t500)) (fun _ hk => hk.2) (.int .i64 t501)) (fun _ h_ => h_.1))) (Kd.xh_ ho0) hb); replace BK502 := AM (zh_ (g := gb502) (o := .cells #[.slice Ao47 t497.length co47, .int .i64 t500, .int .i64 t501] 24 (0, 0)) bka_ hb); replace HB := AM (zc_ bel_ hb); (try clear hb); (try clear hk); (try clear ho0)) | ((with_reducible refine zy_ (N := 10) rfl ?_); (try (refine yh_ (by rfl) ?_; dsimp only)); refine be_ 10 #[.slice none 0 0, .int .i64 0, .int .i64 0] 24 ?_; intro gb508 hg w50 hbox hb; replace HO499 := AM (Kd.zX_ (ro_ HO499.out) hb); replace HO505 := AM (Kd.zX_ (ro_ HO505.out) hb); have BK508 := AM hbox; have GW508 := AM ((by rw [hg]; exact (zf_ bel_) : w.heap.size ≤ gb508)); have GE508 := AM ((by rw [hg]; exact (zf_ bel_) : w.heap.size ≤ gb508)); replace HB := AM (zc_ bel_ hb); have NB502_508 := AM ((by rw [hg]; exact Nat.ne_of_lt (zA_ (g := gb502) (o := .cells #[.slice Ao47 t497.length co47, .int .i64 t500, .int .i64 t501] 24 (0, 0)) (bk_ BK502.out)) : gb502 ≠ gb508)); have NB508_502 := AM ((by rw [hg]; exact Nat.ne_of_gt (zA_ (g := gb502) (o := .cells #[.slice Ao47 t497.length co47, .int .i64 t500, .int .i64 t501] 24 (0, 0)) (bk_ BK502.out)) : gb508 ≠ gb502)); replace BK502 := AM (zh_ (g := gb502) (o := .cells #[.slice Ao47 t497.length co47, .int .i64 t500, .int .i64 t501] 24 (0, 0)) (bk_ BK502.out) hb); clear hb hbox hg; obtain ⟨Ao51, co51, eo51⟩ := Kd.yg_ HO505.out; subst eo51; have hnb52 := NB508_502.out; have hnc52 := NB502_508.out; have hcz53_0 : w50.cell? ⟨gb508, 0, none⟩ = some (.slice none 0 0) := (zb_ BK508.out 0).trans rfl; have hcz53_1 : w50.cell? ⟨gb508, 1, none⟩ = some (.int .i64 0) := (zb_ BK508.out 1).trans rfl; have hcz53_2 : w50.cell? ⟨gb508, 2, none⟩ = some (.int .i64 0) := (zb_ BK508.out 2).trans rfl; have hfz53_0 := za_ BK508.out 0; have hfz53_1 := za_ BK508.out 1; have hfz53_2 := za_ BK508.out 2; have hcz54_0 : w50.cell? ⟨gb502, 0, none⟩ = some (.slice Ao47 t497.length co47) := (zb_ BK502.out 0).trans rfl; have hcz54_1 : w50.cell? ⟨gb502, 1, none⟩ = some (.int .i64 t500) := (zb_ BK502.out 1).trans rfl; have hcz54_2 : w50.cell? ⟨gb502, 2, none⟩ = some (.int .i64 t501) := (zb_ BK502.out 2).trans rfl; have hfz54_0 := za_ BK502.out 0; have hfz54_1 := za_ BK502.out 1; have hfz54_2 := za_ BK502.out 2) | (go_at_call 14; (with_reducible refine (yi_.calls kj18 _ _ t503 t509 _ ?side1 ?side2 A43.out).mono ?_); (case side1 => refine (Kd.zY_ (e := 60) (base := w.heap.size) (ok := fun k_ => (True ∧ some k_ ≠ (.slice Ao47 t497.length co47 : Value).ownBlock)) (n := t503.length) (c := co51) ?_).2.2; exact (by (with_reducible repeat (first | apply Kd.yv_ | apply Kd.yt_ | apply Kd.yI_)); exact (Kd.z9_ (Kd.R_far (p := ⟨gb508, 2, none⟩) (Kd.R_far (p := ⟨gb508, 1, none⟩) (Kd.R_far (p := ⟨gb508, 0, none⟩) (Kd.yB_ HO505.out BK508.out (by decide)) (fun _ hk => hk.2) (.slice Ao51 t503.length co51)) (fun _ hk => hk.2) (.int .i64 t506)) (fun _ hk => hk.2) (.int .i64 t507)) (fun _ h_ => h_.1)))); (case side2 => exact (Kd.zY_ HO505.out).2.1); rintro e w55 ⟨rfl, hb⟩; have n0_ := AM (Kd.zX_ (by (with_reducible repeat (first | apply Kd.yv_ | apply Kd.yt_ | apply Kd.yI_)); exact (Kd.z9_ (Kd.R_far (p := ⟨gb508, 2, none⟩) (Kd.R_far (p := ⟨gb508, 1, none⟩) (Kd.R_far (p := ⟨gb508, 0, none⟩) (Kd.yB_ HO499.out BK508.out (by decide)) (fun _ hk => hk.2) (.slice Ao51 t503.length co51)) (fun _ hk => hk.2) (.int .i64 t506)) (fun _ hk => hk.2) (.int .i64 t507)) (fun _ h_ => h_.1))) hb); have n1_ := AM (Kd.zX_ (by (with_reducible repeat (first | apply Kd.yv_ | apply Kd.yt_ | apply Kd.yI_)); exact (Kd.z9_ (Kd.R_far (p := ⟨gb508, 2, none⟩) (Kd.R_far (p := ⟨gb508, 1, none⟩) (Kd.R_far (p := ⟨gb508, 0, none⟩) (Kd.yB_ HO505.out BK508.out (by decide)) (fun _ hk => hk.2) (.slice Ao51 t503.length co51)) (fun _ hk => hk.2) (.int .i64 t506)) (fun _ hk => hk.2) (.int .i64 t507)) (fun _ h_ => h_.1))) hb); have n2_ := AM (zh_ (g := gb502) (o := .cells #[.slice Ao47 t497.length co47, .int .i64 t500, .int .i64 t501] 24 (0, 0)) bka_ hb); have n3_ := AM (zh_ (g := gb508) (o := .cells #[.slice Ao51 t503.length co51, .int .i64 t506, .int .i64 t507] 24 (0, 0)) bka_ hb); have n4_ := AM (zc_ bel_ hb); clear HO499; clear HO505; clear BK502; clear BK508; clear HB; have HO499 := n0_; have HO505 := n1_; have BK502 := n2_; have BK508 := n3_; have HB := n4_; clear n0_ n1_ n2_ n3_ n4_; (try clear hb); (try clear hk)))
            go_ret
            exact ⟨ri_, bel_⟩
           ·
            rw [if_neg c42] at H
            have c42b0 : (t507 == 0) = false := beq_eq_false_iff_ne.mpr c42
            have c42b1 : (t507 != 0) = true := bne_iff_ne.mpr c42
            obtain rfl := Option.some.inj H
            go_wp2_with (first | ((with_reducible refine zg_ (f := 18) rfl ?_); refine gl_ (some 49) Tryd.func18 #[.slice A1 l1.length c1] ?_; (with_reducible refine (z1_.calls kj18 _ _ l1 t496 _ ?side1 ?side2 A37.out).mono ?_); (case side1 => repeat (first | exact (Kd.C_below HR1.out HB.out) | (with_reducible refine Kd.yo_ ?_ _) | (with_reducible refine Kd.yn_ ?_ _) | (with_reducible refine Kd.yz_ ?_))); (case side2 => exact HC1.out); rintro e w56 ⟨rfl, hb⟩; refine ⟨_, rfl, ?_⟩; replace HB := AM (zc_ bel_ hb); (try clear hb)) | ((with_reducible refine zg_ (f := 8) rfl ?_); refine gl_ (some 51) Tryd.func8 #[.string t496] ?_; (with_reducible refine (zC_.calls kj18 t496 t497 t500 t501 _ A38.out).mono ?_); rintro e w57 ⟨v498, rfl, ho0, hb⟩; refine ⟨_, rfl, ?_⟩; have HO499 := AM (Kd.ya_ ho0 (zf_ bel_)); replace HB := AM (zc_ bel_ hb); (try clear hb); (try clear ho0)) | ((with_reducible refine zy_ (N := 9) rfl ?_); (try (refine yh_ (by rfl) ?_; dsimp only)); refine be_ 9 #[.slice none 0 0, .int .i64 0, .int .i64 0] 24 ?_; intro gb502 hg w58 hbox hb; replace HO499 := AM (Kd.zX_ (ro_ HO499.out) hb); have BK502 := AM hbox; have GW502 := AM ((by rw [hg]; exact (zf_ bel_) : w.heap.size ≤ gb502)); have GE502 := AM ((by rw [hg]; exact (zf_ bel_) : w.heap.size ≤ gb502)); replace HB := AM (zc_ bel_ hb); clear hb hbox hg; obtain ⟨Ao59, co59, eo59⟩ := Kd.yg_ HO499.out; subst eo59; have hcz60_0 : w58.cell? ⟨gb502, 0, none⟩ = some (.slice none 0 0) := (zb_ BK502.out 0).trans rfl; have hcz60_1 : w58.cell? ⟨gb502, 1, none⟩ = some (.int .i64 0) := (zb_ BK502.out 1).trans rfl; have hcz60_2 : w58.cell? ⟨gb502, 2, none⟩ = some (.int .i64 0) := (zb_ BK502.out 2).trans rfl; have hfz60_0 := za_ BK502.out 0; have hfz60_1 := za_ BK502.out 1; have hfz60_2 := za_ BK502.out 2) | ((with_reducible refine zg_ (f := 9) rfl ?_); refine gl_ (some 53) Tryd.func9 #[.string t496] ?_; (with_reducible refine (zv_.calls kj18 t496 t503 t506 t507 _ A39.out).mono ?_); rintro e w61 ⟨v504, rfl, ho0, hb⟩; refine ⟨_, rfl, ?_⟩; have HO505 := AM (Kd.ya_ (Kd.xf_ ho0 (Kd.R_lt (by (with_reducible repeat (first | apply Kd.yv_ | apply Kd.yt_ | apply Kd.yI_)); exact (Kd.z9_ (Kd.R_far (p := ⟨gb502, 2, none⟩) (Kd.R_far (p := ⟨gb502, 1, none⟩) (Kd.R_far (p := ⟨gb502, 0, none⟩) (Kd.yB_ HO499.out BK502.out (by decide)) (fun _ hk => hk.2) (.slice Ao59 t497.length co59)) (fun _ hk => hk.2) (.int .i64 t500)) (fun _ hk => hk.2) (.int .i64 t501)) (fun _ h_ => h_.1))))) (zf_ bel_)); replace HO499 := AM (Kd.yJ_ (by (with_reducible repeat (first | apply Kd.yv_ | apply Kd.yt_ | apply Kd.yI_)); exact (Kd.z9_ (Kd.R_far (p := ⟨gb502, 2, none⟩) (Kd.R_far (p := ⟨gb502, 1, none⟩) (Kd.R_far (p := ⟨gb502, 0, none⟩) (Kd.yB_ HO499.out BK502.out (by decide)) (fun _ hk => hk.2) (.slice Ao59 t497.length co59)) (fun _ hk => hk.2) (.int .i64 t500)) (fun _ hk => hk.2) (.int .i64 t501)) (fun _ h_ => h_.1))) (Kd.xh_ ho0) hb); replace BK502 := AM (zh_ (g := gb502) (o := .cells #[.slice Ao59 t497.length co59, .int .i64 t500, .int .i64 t501] 24 (0, 0)) bka_ hb); replace HB := AM (zc_ bel_ hb); (try clear hb); (try clear hk); (try clear ho0)) | ((with_reducible refine zy_ (N := 10) rfl ?_); (try (refine yh_ (by rfl) ?_; dsimp only)); refine be_ 10 #[.slice none 0 0, .int .i64 0, .int .i64 0] 24 ?_; intro gb508 hg w62 hbox hb; replace HO499 := AM (Kd.zX_ (ro_ HO499.out) hb); replace HO505 := AM (Kd.zX_ (ro_ HO505.out) hb); have BK508 := AM hbox; have GW508 := AM ((by rw [hg]; exact (zf_ bel_) : w.heap.size ≤ gb508)); have GE508 := AM ((by rw [hg]; exact (zf_ bel_) : w.heap.size ≤ gb508)); replace HB := AM (zc_ bel_ hb); have NB502_508 := AM ((by rw [hg]; exact Nat.ne_of_lt (zA_ (g := gb502) (o := .cells #[.slice Ao59 t497.length co59, .int .i64 t500, .int .i64 t501] 24 (0, 0)) (bk_ BK502.out)) : gb502 ≠ gb508)); have NB508_502 := AM ((by rw [hg]; exact Nat.ne_of_gt (zA_ (g := gb502) (o := .cells #[.slice Ao59 t497.length co59, .int .i64 t500, .int .i64 t501] 24 (0, 0)) (bk_ BK502.out)) : gb508 ≠ gb502)); replace BK502 := AM (zh_ (g := gb502) (o := .cells #[.slice Ao59 t497.length co59, .int .i64 t500, .int .i64 t501] 24 (0, 0)) (bk_ BK502.out) hb); clear hb hbox hg; obtain ⟨Ao63, co63, eo63⟩ := Kd.yg_ HO505.out; subst eo63; have hnb64 := NB508_502.out; have hnc64 := NB502_508.out; have hcz65_0 : w62.cell? ⟨gb508, 0, none⟩ = some (.slice none 0 0) := (zb_ BK508.out 0).trans rfl; have hcz65_1 : w62.cell? ⟨gb508, 1, none⟩ = some (.int .i64 0) := (zb_ BK508.out 1).trans rfl; have hcz65_2 : w62.cell? ⟨gb508, 2, none⟩ = some (.int .i64 0) := (zb_ BK508.out 2).trans rfl; have hfz65_0 := za_ BK508.out 0; have hfz65_1 := za_ BK508.out 1; have hfz65_2 := za_ BK508.out 2; have hcz66_0 : w62.cell? ⟨gb502, 0, none⟩ = some (.slice Ao59 t497.length co59) := (zb_ BK502.out 0).trans rfl; have hcz66_1 : w62.cell? ⟨gb502, 1, none⟩ = some (.int .i64 t500) := (zb_ BK502.out 1).trans rfl; have hcz66_2 : w62.cell? ⟨gb502, 2, none⟩ = some (.int .i64 t501) := (zb_ BK502.out 2).trans rfl; have hfz66_0 := za_ BK502.out 0; have hfz66_1 := za_ BK502.out 1; have hfz66_2 := za_ BK502.out 2))
            go_ret
            exact ⟨ri_, bel_⟩
          ·
           rw [if_neg c41] at H
           have c41b0 : (t506 == t500) = false := beq_eq_false_iff_ne.mpr c41
           have c41b1 : (t506 != t500) = true := bne_iff_ne.mpr c41
           obtain rfl := Option.some.inj H
           go_wp2_with (first | ((with_reducible refine zg_ (f := 18) rfl ?_); refine gl_ (some 49) Tryd.func18 #[.slice A1 l1.length c1] ?_; (with_reducible refine (z1_.calls kj18 _ _ l1 t496 _ ?side1 ?side2 A37.out).mono ?_); (case side1 => repeat (first | exact (Kd.C_below HR1.out HB.out) | (with_reducible refine Kd.yo_ ?_ _) | (with_reducible refine Kd.yn_ ?_ _) | (with_reducible refine Kd.yz_ ?_))); (case side2 => exact HC1.out); rintro e w67 ⟨rfl, hb⟩; refine ⟨_, rfl, ?_⟩; replace HB := AM (zc_ bel_ hb); (try clear hb)) | ((with_reducible refine zg_ (f := 8) rfl ?_); refine gl_ (some 51) Tryd.func8 #[.string t496] ?_; (with_reducible refine (zC_.calls kj18 t496 t497 t500 t501 _ A38.out).mono ?_); rintro e w68 ⟨v498, rfl, ho0, hb⟩; refine ⟨_, rfl, ?_⟩; have HO499 := AM (Kd.ya_ ho0 (zf_ bel_)); replace HB := AM (zc_ bel_ hb); (try clear hb); (try clear ho0)) | ((with_reducible refine zy_ (N := 9) rfl ?_); (try (refine yh_ (by rfl) ?_; dsimp only)); refine be_ 9 #[.slice none 0 0, .int .i64 0, .int .i64 0] 24 ?_; intro gb502 hg w69 hbox hb; replace HO499 := AM (Kd.zX_ (ro_ HO499.out) hb); have BK502 := AM hbox; have GW502 := AM ((by rw [hg]; exact (zf_ bel_) : w.heap.size ≤ gb502)); have GE502 := AM ((by rw [hg]; exact (zf_ bel_) : w.heap.size ≤ gb502)); replace HB := AM (zc_ bel_ hb); clear hb hbox hg; obtain ⟨Ao70, co70, eo70⟩ := Kd.yg_ HO499.out; subst eo70; have hcz71_0 : w69.cell? ⟨gb502, 0, none⟩ = some (.slice none 0 0) := (zb_ BK502.out 0).trans rfl; have hcz71_1 : w69.cell? ⟨gb502, 1, none⟩ = some (.int .i64 0) := (zb_ BK502.out 1).trans rfl; have hcz71_2 : w69.cell? ⟨gb502, 2, none⟩ = some (.int .i64 0) := (zb_ BK502.out 2).trans rfl; have hfz71_0 := za_ BK502.out 0; have hfz71_1 := za_ BK502.out 1; have hfz71_2 := za_ BK502.out 2) | ((with_reducible refine zg_ (f := 9) rfl ?_); refine gl_ (some 53) Tryd.func9 #[.string t496] ?_; (with_reducible refine (zv_.calls kj18 t496 t503 t506 t507 _ A39.out).mono ?_); rintro e w72 ⟨v504, rfl, ho0, hb⟩; refine ⟨_, rfl, ?_⟩; have HO505 := AM (Kd.ya_ (Kd.xf_ ho0 (Kd.R_lt (by (with_reducible repeat (first | apply Kd.yv_ | apply Kd.yt_ | apply Kd.yI_)); exact (Kd.z9_ (Kd.R_far (p := ⟨gb502, 2, none⟩) (Kd.R_far (p := ⟨gb502, 1, none⟩) (Kd.R_far (p := ⟨gb502, 0, none⟩) (Kd.yB_ HO499.out BK502.out (by decide)) (fun _ hk => hk.2) (.slice Ao70 t497.length co70)) (fun _ hk => hk.2) (.int .i64 t500)) (fun _ hk => hk.2) (.int .i64 t501)) (fun _ h_ => h_.1))))) (zf_ bel_)); replace HO499 := AM (Kd.yJ_ (by (with_reducible repeat (first | apply Kd.yv_ | apply Kd.yt_ | apply Kd.yI_)); exact (Kd.z9_ (Kd.R_far (p := ⟨gb502, 2, none⟩) (Kd.R_far (p := ⟨gb502, 1, none⟩) (Kd.R_far (p := ⟨gb502, 0, none⟩) (Kd.yB_ HO499.out BK502.out (by decide)) (fun _ hk => hk.2) (.slice Ao70 t497.length co70)) (fun _ hk => hk.2) (.int .i64 t500)) (fun _ hk => hk.2) (.int .i64 t501)) (fun _ h_ => h_.1))) (Kd.xh_ ho0) hb); replace BK502 := AM (zh_ (g := gb502) (o := .cells #[.slice Ao70 t497.length co70, .int .i64 t500, .int .i64 t501] 24 (0, 0)) bka_ hb); replace HB := AM (zc_ bel_ hb); (try clear hb); (try clear hk); (try clear ho0)) | ((with_reducible refine zy_ (N := 10) rfl ?_); (try (refine yh_ (by rfl) ?_; dsimp only)); refine be_ 10 #[.slice none 0 0, .int .i64 0, .int .i64 0] 24 ?_; intro gb508 hg w73 hbox hb; replace HO499 := AM (Kd.zX_ (ro_ HO499.out) hb); replace HO505 := AM (Kd.zX_ (ro_ HO505.out) hb); have BK508 := AM hbox; have GW508 := AM ((by rw [hg]; exact (zf_ bel_) : w.heap.size ≤ gb508)); have GE508 := AM ((by rw [hg]; exact (zf_ bel_) : w.heap.size ≤ gb508)); replace HB := AM (zc_ bel_ hb); have NB502_508 := AM ((by rw [hg]; exact Nat.ne_of_lt (zA_ (g := gb502) (o := .cells #[.slice Ao70 t497.length co70, .int .i64 t500, .int .i64 t501] 24 (0, 0)) (bk_ BK502.out)) : gb502 ≠ gb508)); have NB508_502 := AM ((by rw [hg]; exact Nat.ne_of_gt (zA_ (g := gb502) (o := .cells #[.slice Ao70 t497.length co70, .int .i64 t500, .int .i64 t501] 24 (0, 0)) (bk_ BK502.out)) : gb508 ≠ gb502)); replace BK502 := AM (zh_ (g := gb502) (o := .cells #[.slice Ao70 t497.length co70, .int .i64 t500, .int .i64 t501] 24 (0, 0)) (bk_ BK502.out) hb); clear hb hbox hg; obtain ⟨Ao74, co74, eo74⟩ := Kd.yg_ HO505.out; subst eo74; have hnb75 := NB508_502.out; have hnc75 := NB502_508.out; have hcz76_0 : w73.cell? ⟨gb508, 0, none⟩ = some (.slice none 0 0) := (zb_ BK508.out 0).trans rfl; have hcz76_1 : w73.cell? ⟨gb508, 1, none⟩ = some (.int .i64 0) := (zb_ BK508.out 1).trans rfl; have hcz76_2 : w73.cell? ⟨gb508, 2, none⟩ = some (.int .i64 0) := (zb_ BK508.out 2).trans rfl; have hfz76_0 := za_ BK508.out 0; have hfz76_1 := za_ BK508.out 1; have hfz76_2 := za_ BK508.out 2; have hcz77_0 : w73.cell? ⟨gb502, 0, none⟩ = some (.slice Ao70 t497.length co70) := (zb_ BK502.out 0).trans rfl; have hcz77_1 : w73.cell? ⟨gb502, 1, none⟩ = some (.int .i64 t500) := (zb_ BK502.out 1).trans rfl; have hcz77_2 : w73.cell? ⟨gb502, 2, none⟩ = some (.int .i64 t501) := (zb_ BK502.out 2).trans rfl; have hfz77_0 := za_ BK502.out 0; have hfz77_1 := za_ BK502.out 1; have hfz77_2 := za_ BK502.out 2))
           go_ret
           exact ⟨ri_, bel_⟩
         ·
          rw [if_neg c40] at H
          have c40b0 : (t507 == t501) = false := beq_eq_false_iff_ne.mpr c40
          have c40b1 : (t507 != t501) = true := bne_iff_ne.mpr c40
          obtain rfl := Option.some.inj H
          go_wp2_with (first | ((with_reducible refine zg_ (f := 18) rfl ?_); refine gl_ (some 49) Tryd.func18 #[.slice A1 l1.length c1] ?_; (with_reducible refine (z1_.calls kj18 _ _ l1 t496 _ ?side1 ?side2 A37.out).mono ?_); (case side1 => repeat (first | exact (Kd.C_below HR1.out HB.out) | (with_reducible refine Kd.yo_ ?_ _) | (with_reducible refine Kd.yn_ ?_ _) | (with_reducible refine Kd.yz_ ?_))); (case side2 => exact HC1.out); rintro e w78 ⟨rfl, hb⟩; refine ⟨_, rfl, ?_⟩; replace HB := AM (zc_ bel_ hb); (try clear hb)) | ((with_reducible refine zg_ (f := 8) rfl ?_); refine gl_ (some 51) Tryd.func8 #[.string t496] ?_; (with_reducible refine (zC_.calls kj18 t496 t497 t500 t501 _ A38.out).mono ?_); rintro e w79 ⟨v498, rfl, ho0, hb⟩; refine ⟨_, rfl, ?_⟩; have HO499 := AM (Kd.ya_ ho0 (zf_ bel_)); replace HB := AM (zc_ bel_ hb); (try clear hb); (try clear ho0)) | ((with_reducible refine zy_ (N := 9) rfl ?_); (try (refine yh_ (by rfl) ?_; dsimp only)); refine be_ 9 #[.slice none 0 0, .int .i64 0, .int .i64 0] 24 ?_; intro gb502 hg w80 hbox hb; replace HO499 := AM (Kd.zX_ (ro_ HO499.out) hb); have BK502 := AM hbox; have GW502 := AM ((by rw [hg]; exact (zf_ bel_) : w.heap.size ≤ gb502)); have GE502 := AM ((by rw [hg]; exact (zf_ bel_) : w.heap.size ≤ gb502)); replace HB := AM (zc_ bel_ hb); clear hb hbox hg; obtain ⟨Ao81, co81, eo81⟩ := Kd.yg_ HO499.out; subst eo81; have hcz82_0 : w80.cell? ⟨gb502, 0, none⟩ = some (.slice none 0 0) := (zb_ BK502.out 0).trans rfl; have hcz82_1 : w80.cell? ⟨gb502, 1, none⟩ = some (.int .i64 0) := (zb_ BK502.out 1).trans rfl; have hcz82_2 : w80.cell? ⟨gb502, 2, none⟩ = some (.int .i64 0) := (zb_ BK502.out 2).trans rfl; have hfz82_0 := za_ BK502.out 0; have hfz82_1 := za_ BK502.out 1; have hfz82_2 := za_ BK502.out 2) | ((with_reducible refine zg_ (f := 9) rfl ?_); refine gl_ (some 53) Tryd.func9 #[.string t496] ?_; (with_reducible refine (zv_.calls kj18 t496 t503 t506 t507 _ A39.out).mono ?_); rintro e w83 ⟨v504, rfl, ho0, hb⟩; refine ⟨_, rfl, ?_⟩; have HO505 := AM (Kd.ya_ (Kd.xf_ ho0 (Kd.R_lt (by (with_reducible repeat (first | apply Kd.yv_ | apply Kd.yt_ | apply Kd.yI_)); exact (Kd.z9_ (Kd.R_far (p := ⟨gb502, 2, none⟩) (Kd.R_far (p := ⟨gb502, 1, none⟩) (Kd.R_far (p := ⟨gb502, 0, none⟩) (Kd.yB_ HO499.out BK502.out (by decide)) (fun _ hk => hk.2) (.slice Ao81 t497.length co81)) (fun _ hk => hk.2) (.int .i64 t500)) (fun _ hk => hk.2) (.int .i64 t501)) (fun _ h_ => h_.1))))) (zf_ bel_)); replace HO499 := AM (Kd.yJ_ (by (with_reducible repeat (first | apply Kd.yv_ | apply Kd.yt_ | apply Kd.yI_)); exact (Kd.z9_ (Kd.R_far (p := ⟨gb502, 2, none⟩) (Kd.R_far (p := ⟨gb502, 1, none⟩) (Kd.R_far (p := ⟨gb502, 0, none⟩) (Kd.yB_ HO499.out BK502.out (by decide)) (fun _ hk => hk.2) (.slice Ao81 t497.length co81)) (fun _ hk => hk.2) (.int .i64 t500)) (fun _ hk => hk.2) (.int .i64 t501)) (fun _ h_ => h_.1))) (Kd.xh_ ho0) hb); replace BK502 := AM (zh_ (g := gb502) (o := .cells #[.slice Ao81 t497.length co81, .int .i64 t500, .int .i64 t501] 24 (0, 0)) bka_ hb); replace HB := AM (zc_ bel_ hb); (try clear hb); (try clear hk); (try clear ho0)) | ((with_reducible refine zy_ (N := 10) rfl ?_); (try (refine yh_ (by rfl) ?_; dsimp only)); refine be_ 10 #[.slice none 0 0, .int .i64 0, .int .i64 0] 24 ?_; intro gb508 hg w84 hbox hb; replace HO499 := AM (Kd.zX_ (ro_ HO499.out) hb); replace HO505 := AM (Kd.zX_ (ro_ HO505.out) hb); have BK508 := AM hbox; have GW508 := AM ((by rw [hg]; exact (zf_ bel_) : w.heap.size ≤ gb508)); have GE508 := AM ((by rw [hg]; exact (zf_ bel_) : w.heap.size ≤ gb508)); replace HB := AM (zc_ bel_ hb); have NB502_508 := AM ((by rw [hg]; exact Nat.ne_of_lt (zA_ (g := gb502) (o := .cells #[.slice Ao81 t497.length co81, .int .i64 t500, .int .i64 t501] 24 (0, 0)) (bk_ BK502.out)) : gb502 ≠ gb508)); have NB508_502 := AM ((by rw [hg]; exact Nat.ne_of_gt (zA_ (g := gb502) (o := .cells #[.slice Ao81 t497.length co81, .int .i64 t500, .int .i64 t501] 24 (0, 0)) (bk_ BK502.out)) : gb508 ≠ gb502)); replace BK502 := AM (zh_ (g := gb502) (o := .cells #[.slice Ao81 t497.length co81, .int .i64 t500, .int .i64 t501] 24 (0, 0)) (bk_ BK502.out) hb); clear hb hbox hg; obtain ⟨Ao85, co85, eo85⟩ := Kd.yg_ HO505.out; subst eo85; have hnb86 := NB508_502.out; have hnc86 := NB502_508.out; have hcz87_0 : w84.cell? ⟨gb508, 0, none⟩ = some (.slice none 0 0) := (zb_ BK508.out 0).trans rfl; have hcz87_1 : w84.cell? ⟨gb508, 1, none⟩ = some (.int .i64 0) := (zb_ BK508.out 1).trans rfl; have hcz87_2 : w84.cell? ⟨gb508, 2, none⟩ = some (.int .i64 0) := (zb_ BK508.out 2).trans rfl; have hfz87_0 := za_ BK508.out 0; have hfz87_1 := za_ BK508.out 1; have hfz87_2 := za_ BK508.out 2; have hcz88_0 : w84.cell? ⟨gb502, 0, none⟩ = some (.slice Ao81 t497.length co81) := (zb_ BK502.out 0).trans rfl; have hcz88_1 : w84.cell? ⟨gb502, 1, none⟩ = some (.int .i64 t500) := (zb_ BK502.out 1).trans rfl; have hcz88_2 : w84.cell? ⟨gb502, 2, none⟩ = some (.int .i64 t501) := (zb_ BK502.out 2).trans rfl; have hfz88_0 := za_ BK502.out 0; have hfz88_1 := za_ BK502.out 1; have hfz88_2 := za_ BK502.out 2))
          go_ret
          exact ⟨ri_, bel_⟩
/-- THE ONE PURE STATEMENT of zz_: yours. -/
def zz_.Pure : Prop := ∀ (l0 : List Int) (l1 : List Int), l0.length ≤ maxLen → l0.length * 1 ≤ 140737488351232 → (∀ x ∈ l0, (Lit.int .u8 x).wf = true) → l1.length ≤ maxLen → l1.length * 1 ≤ 140737488351232 → (∀ x ∈ l1, (Lit.int .u8 x).wf = true) → ∃ k, zz_.f k l0 l1 = some true
theorem zz_.walk (P : zz_.Pure) (a0 : Option Addr) (len0 cap0 : Nat) (z0 : List Int) (a1 : Option Addr) (len1 cap1 : Nat) (z1 : List Int) (w : World) (w0 : (a0 = none ∧ len0 = 0 ∧ cap0 = 0 ∧ z0 = []) ∨ ∃ x, a0 = some x ∧ len0 ≤ cap0 ∧ cap0 ≤ maxLen ∧ z0.length = cap0 ∧ (∀ i, i < z0.length → w.cell? (x.add i) = some (.int .u8 (z0.getD i 0))) ∧ ∀ n ∈ z0, (Lit.int .u8 n).wf = true) (y0 : len0 * 1 ≤ 140737488351232) (w1 : (a1 = none ∧ len1 = 0 ∧ cap1 = 0 ∧ z1 = []) ∨ ∃ x, a1 = some x ∧ len1 ≤ cap1 ∧ cap1 ≤ maxLen ∧ z1.length = cap1 ∧ (∀ i, i < z1.length → w.cell? (x.add i) = some (.int .u8 (z1.getD i 0))) ∧ ∀ n ∈ z1, (Lit.int .u8 n).wf = true) (y1 : len1 * 1 ≤ 140737488351232) (hL : Hand.LaidG w := by first | exact hL | exact Hand.LaidG.below hL bel_) :
 Calls Tryd.prog 4 #[.slice a0 len0 cap0, .slice a1 len1 cap1] w fun e w' => e = .returned (.bool true) ∧ Below w.heap.size w w' := by
 obtain ⟨l0, rfl, hr0, hm0, hw0, hc0⟩ := yH_.ofRowC w0
 obtain ⟨l1, rfl, hr1, hm1, hw1, hc1⟩ := yH_.ofRowC w1
 obtain ⟨k, h⟩ := P l0 l1 hm0 y0 hw0 hm1 y1 hw1
 refine (zz_.calls k _ _ l0 _ _ l1 true w (Kd.C_of_reads (d := (0 : Int)) (h1 := fun _ => rfl) hr0) hc0 (Kd.C_of_reads (d := (0 : Int)) (h1 := fun _ => rfl) hr1) hc1 h).mono ?_
 rintro e w' ⟨rfl, hd⟩
 exact ⟨rfl, hd⟩
end Go.Proofs.YtfffdndeccipnaaDoor.PFnPack
