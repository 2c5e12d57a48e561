/- Functions of the law FnFrame: the print's, with walks of this session's own. No statement is proved here. -/
import Derived.WalkLawsBesides
import Derived.Test.YtddapeieolfolaaDoorVRegFnFrame
-- A program of this session wrote this text: a changed copy of the kit print, with given functions.
import Derived.Test.YtddapeieolfolaaDoorPFnFramex0
import Derived.Test.YtddapeieolfolaaDoorPFnFramex6
import Derived.Test.YtddapeieolfolaaDoorPFnFramex14
import Derived.Test.YtddapeieolfolaaDoorPFnFramex15
import Derived.Test.YtddapeieolfolaaDoorPFnFramex16
namespace Go.Proofs.YtddapeieolfolaaDoor.PFnFrame
open Go.RowKit Go.Proofs.YtddapeieolfolaaDoorW.PrintWords Go.Proofs.YtddapeieolfolaaDoorW.PrintLast Go.Proofs.YtddapeieolfolaaDoorW.PrintMore Go.Proofs.YtddapeieolfolaaDoor.Reg Go.Proofs.YtddapeieolfolaaDoor.Aut
attribute [local go_sem] max2_int min2_int max_two min_two max_three min_three max_four min_four   -- for this text's walks alone
set_option linter.unusedVariables false
set_option linter.unusedSimpArgs false

/-! ### spec_l01Src_spoil: function 95 -/
def spec_l01Src_spoil.j0 : Nat → ByteArray → Int → ByteArray → Bool → List Int → Int → Int → Int → Option (ByteArray × Int × Int × Int)
  | 0, _, _, _, _, _, _, _, _ => none
  | k + 1, x1, x5, x6, x24, x1000, x1001, x1002, x1003 => if x24 = true then (if 0 ≤ x5 then (if x5 ≤ (x1.size : Int) then (if (x1.extract 0 (x5 : Int).toNat).size + x6.size ≤ 9223372036854775807 then (if ((x1.extract 0 (x5 : Int).toNat) ++ x6).size + (x1.extract (x5 : Int).toNat x1.size).size ≤ 9223372036854775807 then (some (((x1.extract 0 (x5 : Int).toNat) ++ x6) ++ (x1.extract (x5 : Int).toNat x1.size), x1001, x1002, x1003)) else (none)) else (none)) else (none)) else (none)) else ((spec_l01Src_one.f x1000 x1001 x1002 x1003 2).bind fun bt432 => (if bt432.1 = true then (if 0 ≤ x5 then (if x5 ≤ (x1.size : Int) then (if 0 ≤ (wrap64 (x5 + 1)) then (if (wrap64 (x5 + 1)) ≤ (x1.size : Int) then (if (x1.extract 0 (x5 : Int).toNat).size + (x1.extract ((wrap64 (x5 + 1)) : Int).toNat x1.size).size ≤ 9223372036854775807 then (some ((x1.extract 0 (x5 : Int).toNat) ++ (x1.extract ((wrap64 (x5 + 1)) : Int).toNat x1.size), bt432.2.1, bt432.2.2.1, bt432.2.2.2)) else (none)) else (none)) else (none)) else (none)) else (none)) else (if 0 ≤ x5 then (if x5 ≤ (x1.size : Int) then (if (x1.extract 0 (x5 : Int).toNat).size + x6.size ≤ 9223372036854775807 then (if 0 ≤ (wrap64 (x5 + 1)) then (if (wrap64 (x5 + 1)) ≤ (x1.size : Int) then (if ((x1.extract 0 (x5 : Int).toNat) ++ x6).size + (x1.extract ((wrap64 (x5 + 1)) : Int).toNat x1.size).size ≤ 9223372036854775807 then (some (((x1.extract 0 (x5 : Int).toNat) ++ x6) ++ (x1.extract ((wrap64 (x5 + 1)) : Int).toNat x1.size), bt432.2.1, bt432.2.2.1, bt432.2.2.2)) else (none)) else (none)) else (none)) else (none)) else (none)) else (none))))
def spec_l01Src_spoil.f (k : Nat) (s0_0 : List Int) (s0_1 : Int) (s0_2 : Int) (s0_3 : Int) (a1 : ByteArray) : Option (ByteArray × Int × Int × Int) := (spec_l01Src_n.f s0_0 s0_1 s0_2 s0_3 (wrap64 ((a1.size : Int) + 1))).bind fun bt417 => ((spec_l01Src_n.f s0_0 bt417.2.1 bt417.2.2.1 bt417.2.2.2 17).bind fun bt421 => (if 0 ≤ bt421.1 then (if bt421.1 < 17 then ((some (([bt (⟨#[32, 10, 48, 97, 45, 110, 44, 58, 93, 255, 40, 120, 126, 49, 128, 225, 59]⟩ : ByteArray) bt421.1] : List Int) : List Int)).bind fun y425 => (if bt417.1 = (a1.size : Int) then (spec_l01Src_spoil.j0 k a1 bt417.1 (strOfNums y425) true s0_0 bt421.2.1 bt421.2.2.1 bt421.2.2.2) else ((spec_l01Src_one.f s0_0 bt421.2.1 bt421.2.2.1 bt421.2.2.2 3).bind fun bt428 => (spec_l01Src_spoil.j0 k a1 bt417.1 (strOfNums y425) bt428.1 s0_0 bt428.2.1 bt428.2.2.1 bt428.2.2.2)))) else (none)) else (none)))
theorem spec_l01Src_spoil.mono_l : ∀ k, (∀ y0 y1 y2 y3 y4 y5 y6 y7, LeO (spec_l01Src_spoil.j0 k y0 y1 y2 y3 y4 y5 y6 y7) (spec_l01Src_spoil.j0 (k + 1) y0 y1 y2 y3 y4 y5 y6 y7))
  | 0 => fun _ _ _ _ _ _ _ _ r h => by simp [spec_l01Src_spoil.j0] at h
  | k + 1 => by
    have ih0 := spec_l01Src_spoil.mono_l k
    · intro y0 y1 y2 y3 y4 y5 y6 y7
      unfold spec_l01Src_spoil.j0
      repeat' first
      | (with_reducible exact ih0 _ _ _ _ _ _ _ _)
      | (with_reducible exact LeO.refl _)
      | (with_reducible exact LeO.none _)
      | (with_reducible refine LeO.ite ?_ ?_)
      | (with_reducible refine LeO.bind ?_ (fun _ => ?_))
      | exact ih0 _ _ _ _ _ _ _ _
      | exact LeO.none _
      | refine LeO.ite ?_ ?_
      | refine LeO.bind ?_ (fun _ => ?_)
theorem spec_l01Src_spoil.mono : ∀ a0 a1 a2 a3 a4 k, LeO (spec_l01Src_spoil.f k a0 a1 a2 a3 a4) (spec_l01Src_spoil.f (k + 1) a0 a1 a2 a3 a4) := by
  intro a0 a1 a2 a3 a4 k
  have ih0 := spec_l01Src_spoil.mono_l k
  unfold spec_l01Src_spoil.f
  repeat' first
      | (with_reducible exact ih0 _ _ _ _ _ _ _ _)
      | (with_reducible exact LeO.refl _)
      | (with_reducible exact LeO.none _)
      | (with_reducible refine LeO.ite ?_ ?_)
      | (with_reducible refine LeO.bind ?_ (fun _ => ?_))
      | exact ih0 _ _ _ _ _ _ _ _
      | exact LeO.none _
      | refine LeO.ite ?_ ?_
      | refine LeO.bind ?_ (fun _ => ?_)
set_option maxHeartbeats 8000000 in
set_option maxRecDepth 100000 in
theorem spec_l01Src_spoil.calls (k : Nat) (g : Nat) (s0_0 : List Int) (s0_1 : Int) (s0_2 : Int) (s0_3 : Int) (a1 : ByteArray) (r1 : ByteArray) (r2 : Int) (r3 : Int) (r4 : Int) (w0 w : World) (hI : IsS120 w0 w g s0_0 s0_1 s0_2 s0_3) (hB : Below w0.heap.size w0 w) (h : spec_l01Src_spoil.f k s0_0 s0_1 s0_2 s0_3 a1 = some (r1, r2, r3, r4)) :
    Calls Tryd.prog 95 #[.pointer (some ⟨g, 0, none⟩), .string a1] w fun e w' => e = .returned (.string r1) ∧ IsS120 w0 w' g s0_0 r2 r3 r4 ∧ Below w0.heap.size w0 w' ∧ KeepBut w w' g none := by
  have HI0 := AM hI
  have HK := AM (KeepBut.refl w g none)
  have HL := AM hB.size
  clear hI
  have HW0 := AM hB.size
  have HB := AM hB
  clear hB
  have H : ((spec_l01Src_n.f s0_0 s0_1 s0_2 s0_3 (wrap64 ((a1.size : Int) + 1))).bind fun bt417 => ((spec_l01Src_n.f s0_0 bt417.2.1 bt417.2.2.1 bt417.2.2.2 17).bind fun bt421 => (if 0 ≤ bt421.1 then (if bt421.1 < 17 then ((some (([bt (⟨#[32, 10, 48, 97, 45, 110, 44, 58, 93, 255, 40, 120, 126, 49, 128, 225, 59]⟩ : ByteArray) bt421.1] : List Int) : List Int)).bind fun y425 => (if bt417.1 = (a1.size : Int) then (spec_l01Src_spoil.j0 k a1 bt417.1 (strOfNums y425) true s0_0 bt421.2.1 bt421.2.2.1 bt421.2.2.2) else ((spec_l01Src_one.f s0_0 bt421.2.1 bt421.2.2.1 bt421.2.2.2 3).bind fun bt428 => (spec_l01Src_spoil.j0 k a1 bt417.1 (strOfNums y425) bt428.1 s0_0 bt428.2.1 bt428.2.2.1 bt428.2.2.2)))) else (none)) else (none)))) = some (r1, r2, r3, r4) := h
  clear h
  obtain ⟨⟨t417, t418, t419, t420⟩, A3, H⟩ := OB H
  try dsimp only at H
  replace A3 := AM A3
  obtain ⟨⟨t421, t422, t423, t424⟩, A4, H⟩ := OB H
  try dsimp only at H
  replace A4 := AM A4
  by_cases c5 : 0 ≤ t421
  · rw [if_pos c5] at H
    have c5b0 : decide (0 ≤ t421) = true := decide_eq_true c5
    clear c5
    by_cases c6 : t421 < 17
    · rw [if_pos c6] at H
      have c6b0 : decide (t421 < 17) = true := decide_eq_true c6
      clear c6
      obtain ⟨y425, hy425⟩ : ∃ y_ : List Int, y_ = (([bt (⟨#[32, 10, 48, 97, 45, 110, 44, 58, 93, 255, 40, 120, 126, 49, 128, 225, 59]⟩ : ByteArray) t421] : List Int)) := ⟨_, rfl⟩
      replace H : (if t417 = (a1.size : Int) then (spec_l01Src_spoil.j0 k a1 t417 (strOfNums y425) true s0_0 t422 t423 t424) else ((spec_l01Src_one.f s0_0 t422 t423 t424 3).bind fun bt428 => (spec_l01Src_spoil.j0 k a1 t417 (strOfNums y425) bt428.1 s0_0 bt428.2.1 bt428.2.2.1 bt428.2.2.2))) = some (r1, r2, r3, r4) := by first | (rw [hy425]; with_reducible exact H) | (have H2_ := (Option.bind_some _ _).symm.trans H; rw [hy425]; with_reducible exact H2_) | (have H2_ := (Option.bind_some _ _).symm.trans H; with_reducible exact H2_) | with_reducible exact H | (rw [hy425]; exact H) | exact H
      have Ny425 := AM hy425
      clear hy425
      have HC8 := AM H
      clear H
      go_enter Tryd.func95, Tryd.ntmps95
      go_upto_region 3 with (first | (go_at_call 64; (with_reducible refine (spec_l01Src_n.calls g s0_0 s0_1 s0_2 s0_3 (wrap64 ((a1.size : Int) + 1)) t417 t418 t419 t420 w0 _ ?side1 ?side2 A3.out).mono ?_); (case side1 => exact is120_); (case side2 => exact belg_ (IsS120.ge HI0.out)); rintro e w9 ⟨rfl, hi, hb, hk⟩; replace HK := AM (KeepBut.trans (kp_ (w := w)) hk (.inl rfl)); replace HB := AM hb; replace HI0 := AM hi; (try clear hb); (try clear hb2); (try clear hk); (try clear hi)) | (go_at_call 64; (with_reducible refine (spec_l01Src_n.calls g s0_0 t418 t419 t420 17 t421 t422 t423 t424 w0 _ ?side1 ?side2 A4.out).mono ?_); (case side1 => exact is120_); (case side2 => exact belg_ (IsS120.ge HI0.out)); rintro e w10 ⟨rfl, hi, hb, hk⟩; replace HK := AM (KeepBut.trans (kp_ (w := w)) hk (.inl rfl)); replace HB := AM hb; replace HI0 := AM hi; (try clear hb); (try clear hb2); (try clear hk); (try clear hi); have p7 : 0 ≤ (t421 : Int) := of_decide_eq_true (by first | (with_reducible assumption) | assumption); have q7 : t421 < (17 : Int) := of_decide_eq_true (by first | (with_reducible assumption) | assumption); have hx7 := bt_at (⟨#[32, 10, 48, 97, 45, 110, 44, 58, 93, 255, 40, 120, 126, 49, 128, 225, 59]⟩ : ByteArray) t421; replace p7 := eq_true p7; replace q7 := eq_true q7) | ((with_reducible refine gate_dst (N := 15) rfl ?_); refine Kd.R_lit (Kd.int .u8) _ 5 ?hgL1 (N := 15) ?hdL1 (xs := ([bt (⟨#[32, 10, 48, 97, 45, 110, 44, 58, 93, 255, 40, 120, 126, 49, 128, 225, 59]⟩ : ByteArray) t421] : List Int)) (inner := [.int .u8 (bt (⟨#[32, 10, 48, 97, 45, 110, 44, 58, 93, 255, 40, 120, 126, 49, 128, 225, 59]⟩ : ByteArray) t421)]) (ok := fun _ => True) (okp := fun _ => True) ?hrL1 ?hpL1 (fun _ hk => hk) trivial (Below.refl _ _) (Nat.le_refl _) (by simp) ?_; (case hdL1 => rfl); (case hgL1 => rfl); (case hrL1 => first | (go_simp; done) | (go_simp; rfl)); (case hpL1 => exact (Reps.one (show Kd.M (Kd.int .u8) _ _ _ (bt (⟨#[32, 10, 48, 97, 45, 110, 44, 58, 93, 255, 40, 120, 126, 49, 128, 225, 59]⟩ : ByteArray) t421) [.int .u8 (bt (⟨#[32, 10, 48, 97, 45, 110, 44, 58, 93, 255, 40, 120, 126, 49, 128, 225, 59]⟩ : ByteArray) t421)] from rfl) (Reps.none _ _))); intro v426 w11 ho12 hb hg_ hnew_; clear hg_ hnew_; (first | rw [← Ny425.out] at ho12 | (simp only [Int.reduceToNat] at ho12; rw [← Ny425.out] at ho12)); have HO427 := AM (Kd.R_lower ho12 (keep_size (w := w) (g := g) (row := none) kp_)); replace HK := AM (KeepBut.trans (kp_ (w := w)) (KeepBut.of_below hb g none) (.inl rfl)); replace HB := AM (below_step (belg_ (IsS120.ge HI0.out)) hb); replace HI0 := AM (IsS120.below is120_ hb); clear hb ho12; have hcv13 := own_string (P := Tryd.prog) Tryd.underlying38 Tryd.underlying5 Tryd.underlying9 (Kd.own_of_R HO427.out)))
      repeat (go_quiet (first | (go_at_call 64; (with_reducible refine (spec_l01Src_n.calls g s0_0 s0_1 s0_2 s0_3 (wrap64 ((a1.size : Int) + 1)) t417 t418 t419 t420 w0 _ ?side1 ?side2 A3.out).mono ?_); (case side1 => exact is120_); (case side2 => exact belg_ (IsS120.ge HI0.out)); rintro e w9 ⟨rfl, hi, hb, hk⟩; replace HK := AM (KeepBut.trans (kp_ (w := w)) hk (.inl rfl)); replace HB := AM hb; replace HI0 := AM hi; (try clear hb); (try clear hb2); (try clear hk); (try clear hi)) | (go_at_call 64; (with_reducible refine (spec_l01Src_n.calls g s0_0 t418 t419 t420 17 t421 t422 t423 t424 w0 _ ?side1 ?side2 A4.out).mono ?_); (case side1 => exact is120_); (case side2 => exact belg_ (IsS120.ge HI0.out)); rintro e w10 ⟨rfl, hi, hb, hk⟩; replace HK := AM (KeepBut.trans (kp_ (w := w)) hk (.inl rfl)); replace HB := AM hb; replace HI0 := AM hi; (try clear hb); (try clear hb2); (try clear hk); (try clear hi)) | ((with_reducible refine gate_dst (N := 15) rfl ?_); refine Kd.R_lit (Kd.int .u8) _ 5 ?hgL2 (N := 15) ?hdL2 (xs := ([bt (⟨#[32, 10, 48, 97, 45, 110, 44, 58, 93, 255, 40, 120, 126, 49, 128, 225, 59]⟩ : ByteArray) t421] : List Int)) (inner := [.int .u8 (bt (⟨#[32, 10, 48, 97, 45, 110, 44, 58, 93, 255, 40, 120, 126, 49, 128, 225, 59]⟩ : ByteArray) t421)]) (ok := fun _ => True) (okp := fun _ => True) ?hrL2 ?hpL2 (fun _ hk => hk) trivial (Below.refl _ _) (Nat.le_refl _) (by simp) ?_; (case hdL2 => rfl); (case hgL2 => rfl); (case hrL2 => first | (go_simp; done) | (go_simp; rfl)); (case hpL2 => exact (Reps.one (show Kd.M (Kd.int .u8) _ _ _ (bt (⟨#[32, 10, 48, 97, 45, 110, 44, 58, 93, 255, 40, 120, 126, 49, 128, 225, 59]⟩ : ByteArray) t421) [.int .u8 (bt (⟨#[32, 10, 48, 97, 45, 110, 44, 58, 93, 255, 40, 120, 126, 49, 128, 225, 59]⟩ : ByteArray) t421)] from rfl) (Reps.none _ _))); intro v426 w11 ho12 hb hg_ hnew_; clear hg_ hnew_; (first | rw [← Ny425.out] at ho12 | (simp only [Int.reduceToNat] at ho12; rw [← Ny425.out] at ho12)); have HO427 := AM (Kd.R_lower ho12 (keep_size (w := w) (g := g) (row := none) kp_)); replace HK := AM (KeepBut.trans (kp_ (w := w)) (KeepBut.of_below hb g none) (.inl rfl)); replace HB := AM (below_step (belg_ (IsS120.ge HI0.out)) hb); replace HI0 := AM (IsS120.below is120_ hb); clear hb ho12; have hcv13 := own_string (P := Tryd.prog) Tryd.underlying38 Tryd.underlying5 Tryd.underlying9 (Kd.own_of_R HO427.out))); go_upto_region 3 with (first | (go_at_call 64; (with_reducible refine (spec_l01Src_n.calls g s0_0 s0_1 s0_2 s0_3 (wrap64 ((a1.size : Int) + 1)) t417 t418 t419 t420 w0 _ ?side1 ?side2 A3.out).mono ?_); (case side1 => exact is120_); (case side2 => exact belg_ (IsS120.ge HI0.out)); rintro e w9 ⟨rfl, hi, hb, hk⟩; replace HK := AM (KeepBut.trans (kp_ (w := w)) hk (.inl rfl)); replace HB := AM hb; replace HI0 := AM hi; (try clear hb); (try clear hb2); (try clear hk); (try clear hi)) | (go_at_call 64; (with_reducible refine (spec_l01Src_n.calls g s0_0 t418 t419 t420 17 t421 t422 t423 t424 w0 _ ?side1 ?side2 A4.out).mono ?_); (case side1 => exact is120_); (case side2 => exact belg_ (IsS120.ge HI0.out)); rintro e w10 ⟨rfl, hi, hb, hk⟩; replace HK := AM (KeepBut.trans (kp_ (w := w)) hk (.inl rfl)); replace HB := AM hb; replace HI0 := AM hi; (try clear hb); (try clear hb2); (try clear hk); (try clear hi)) | ((with_reducible refine gate_dst (N := 15) rfl ?_); refine Kd.R_lit (Kd.int .u8) _ 5 ?hgL3 (N := 15) ?hdL3 (xs := ([bt (⟨#[32, 10, 48, 97, 45, 110, 44, 58, 93, 255, 40, 120, 126, 49, 128, 225, 59]⟩ : ByteArray) t421] : List Int)) (inner := [.int .u8 (bt (⟨#[32, 10, 48, 97, 45, 110, 44, 58, 93, 255, 40, 120, 126, 49, 128, 225, 59]⟩ : ByteArray) t421)]) (ok := fun _ => True) (okp := fun _ => True) ?hrL3 ?hpL3 (fun _ hk => hk) trivial (Below.refl _ _) (Nat.le_refl _) (by simp) ?_; (case hdL3 => rfl); (case hgL3 => rfl); (case hrL3 => first | (go_simp; done) | (go_simp; rfl)); (case hpL3 => exact (Reps.one (show Kd.M (Kd.int .u8) _ _ _ (bt (⟨#[32, 10, 48, 97, 45, 110, 44, 58, 93, 255, 40, 120, 126, 49, 128, 225, 59]⟩ : ByteArray) t421) [.int .u8 (bt (⟨#[32, 10, 48, 97, 45, 110, 44, 58, 93, 255, 40, 120, 126, 49, 128, 225, 59]⟩ : ByteArray) t421)] from rfl) (Reps.none _ _))); intro v426 w11 ho12 hb hg_ hnew_; clear hg_ hnew_; (first | rw [← Ny425.out] at ho12 | (simp only [Int.reduceToNat] at ho12; rw [← Ny425.out] at ho12)); have HO427 := AM (Kd.R_lower ho12 (keep_size (w := w) (g := g) (row := none) kp_)); replace HK := AM (KeepBut.trans (kp_ (w := w)) (KeepBut.of_below hb g none) (.inl rfl)); replace HB := AM (below_step (belg_ (IsS120.ge HI0.out)) hb); replace HI0 := AM (IsS120.below is120_ hb); clear hb ho12; have hcv13 := own_string (P := Tryd.prog) Tryd.underlying38 Tryd.underlying5 Tryd.underlying9 (Kd.own_of_R HO427.out))))
      (try simp only [Act.put, List.setIfInBounds_toArray, List.set_cons_zero, List.set_cons_succ])
      go_cut [24] (fun v24 wc => ∃ (kq : Nat) (x24_7 : Bool) (x1001_7 : Int) (x1002_7 : Int) (x1003_7 : Int), v24 = .bool x24_7 ∧ Aside0 (spec_l01Src_spoil.j0 kq a1 t417 (strOfNums y425) x24_7 s0_0 x1001_7 x1002_7 x1003_7 = some (r1, r2, r3, r4)) ∧ Aside0 (kq ≤ k) ∧ Aside0 (IsS120 w0 wc g s0_0 x1001_7 x1002_7 x1003_7) ∧ Aside0 (KeepBut w wc g none) ∧ Aside0 (Below w0.heap.size w0 wc))
      case first =>
        have H := HC8.out
        clear HC8
        by_cases c14 : t417 = (a1.size : Int)
        · rw [if_pos c14] at H
          have c14b0 : (t417 == (a1.size : Int)) = true := beq_iff_eq.mpr c14
          have c14b1 : (t417 != (a1.size : Int)) = false := bne_eq_false_iff_eq.mpr c14
          clear c14
          (first | rw [c14b0] | (simp only [i64_w, i32_w]; rw [c14b0]) | skip)
          have H' := AM H
          clear H
          go_wp2
          repeat (go_quiet (fail); try go_wp2)
          go_meet
          case rel => exact ⟨_, (true), (t422), (t423), (t424), (by first | rfl | (simp; done) | (simp [*]; done)), H', ⟨by first | omega | exact Nat.le_refl _⟩, ⟨is120_⟩, ⟨kp_⟩, ⟨belg_ (IsS120.ge HI0.out)⟩⟩
        · rw [if_neg c14] at H
          have c14b0 : (t417 == (a1.size : Int)) = false := beq_eq_false_iff_ne.mpr c14
          have c14b1 : (t417 != (a1.size : Int)) = true := bne_iff_ne.mpr c14
          (first | rw [c14b0] | (simp only [i64_w, i32_w]; rw [c14b0]) | skip)
          obtain ⟨⟨t428, t429, t430, t431⟩, A15, H⟩ := OB H
          try dsimp only at H
          replace A15 := AM A15
          have H' := AM H
          clear H
          go_wp2_with (first | (go_at_call 120; (with_reducible refine (spec_l01Src_one.calls g s0_0 t422 t423 t424 3 t428 t429 t430 t431 w0 _ ?side1 ?side2 A15.out).mono ?_); (case side1 => exact is120_); (case side2 => exact belg_ (IsS120.ge HI0.out)); rintro e w16 ⟨rfl, hi, hb, hk⟩; replace HO427 := AM (Kd.R_mono (Kd.R_keep (IsS120.apart (show IsS120 w0 _ g s0_0 t422 t423 t424 from is120_) (ro_ HO427.out) (by decide)) hk (fun _ h => h.2)) (fun _ h => h.1)); replace HK := AM (KeepBut.trans (kp_ (w := w)) hk (.inl rfl)); replace HB := AM hb; replace HI0 := AM hi; (try clear hb); (try clear hb2); (try clear hk); (try clear hi)))
          repeat (go_quiet (first | (go_at_call 120; (with_reducible refine (spec_l01Src_one.calls g s0_0 t422 t423 t424 3 t428 t429 t430 t431 w0 _ ?side1 ?side2 A15.out).mono ?_); (case side1 => exact is120_); (case side2 => exact belg_ (IsS120.ge HI0.out)); rintro e w16 ⟨rfl, hi, hb, hk⟩; replace HO427 := AM (Kd.R_mono (Kd.R_keep (IsS120.apart (show IsS120 w0 _ g s0_0 t422 t423 t424 from is120_) (ro_ HO427.out) (by decide)) hk (fun _ h => h.2)) (fun _ h => h.1)); replace HK := AM (KeepBut.trans (kp_ (w := w)) hk (.inl rfl)); replace HB := AM hb; replace HI0 := AM hi; (try clear hb); (try clear hb2); (try clear hk); (try clear hi))); try go_wp2_with (first | (go_at_call 120; (with_reducible refine (spec_l01Src_one.calls g s0_0 t422 t423 t424 3 t428 t429 t430 t431 w0 _ ?side1 ?side2 A15.out).mono ?_); (case side1 => exact is120_); (case side2 => exact belg_ (IsS120.ge HI0.out)); rintro e w16 ⟨rfl, hi, hb, hk⟩; replace HO427 := AM (Kd.R_mono (Kd.R_keep (IsS120.apart (show IsS120 w0 _ g s0_0 t422 t423 t424 from is120_) (ro_ HO427.out) (by decide)) hk (fun _ h => h.2)) (fun _ h => h.1)); replace HK := AM (KeepBut.trans (kp_ (w := w)) hk (.inl rfl)); replace HB := AM hb; replace HI0 := AM hi; (try clear hb); (try clear hb2); (try clear hk); (try clear hi))))
          go_meet
          case rel => exact ⟨_, (t428), (t429), (t430), (t431), (by first | rfl | (simp; done) | (simp [*]; done)), H', ⟨by first | omega | exact Nat.le_refl _⟩, ⟨is120_⟩, ⟨kp_⟩, ⟨belg_ (IsS120.ge HI0.out)⟩⟩
      case rest =>
        clear HC8
        (try clear c1); (try clear hcv1); (try clear p2); (try clear c5); (try clear c5b0); (try clear c6); (try clear c6b0); (try clear p6); (try clear p7); (try clear q7); (try clear hx7); (try clear c9); (try clear hcv13); (try clear c14); (try clear c14b0); (try clear c14b1); (try clear p7); (try clear q7)
        obtain ⟨kq, x24_7, x1001_7, x1002_7, x1003_7, rfl, HA, HJ7, HI0, HK, HB⟩ := hcut
        cases kq with
        | zero => exact absurd HA.out (by simp [spec_l01Src_spoil.j0])
        | succ kj7 =>
          have H := HA.out
          clear HA
          simp only [spec_l01Src_spoil.j0] at H
          by_cases c17 : x24_7 = true
          · subst c17
            rw [if_pos rfl] at H
            by_cases c18 : 0 ≤ t417
            · rw [if_pos c18] at H
              have c18b0 := eq_true c18
              have c18b1 : decide (0 ≤ t417) = true := decide_eq_true c18
              clear c18
              by_cases c19 : t417 ≤ (a1.size : Int)
              · rw [if_pos c19] at H
                have c19b0 := eq_true c19
                have c19b1 : decide (t417 ≤ (a1.size : Int)) = true := decide_eq_true c19
                clear c19
                by_cases c20 : (a1.extract 0 (t417 : Int).toNat).size + (strOfNums y425).size ≤ 9223372036854775807
                · rw [if_pos c20] at H
                  have c20b0 := eq_true c20
                  have c20b1 : decide ((a1.extract 0 (t417 : Int).toNat).size + (strOfNums y425).size ≤ 9223372036854775807) = true := decide_eq_true c20
                  try have c20b2 : (9223372036854775807 < (a1.extract 0 (t417 : Int).toNat).size + (strOfNums y425).size) = False := eq_false (Nat.not_lt.2 c20)
                  have c21b0 := eq_true (of_decide_eq_true (by first | (with_reducible assumption) | assumption) : 0 ≤ t417)
                  have c22b0 := eq_true (of_decide_eq_true (by first | (with_reducible assumption) | assumption) : t417 ≤ (a1.size : Int))
                  by_cases c23 : ((a1.extract 0 (t417 : Int).toNat) ++ (strOfNums y425)).size + (a1.extract (t417 : Int).toNat a1.size).size ≤ 9223372036854775807
                  · rw [if_pos c23] at H
                    have c23b0 := eq_true c23
                    have c23b1 : decide (((a1.extract 0 (t417 : Int).toNat) ++ (strOfNums y425)).size + (a1.extract (t417 : Int).toNat a1.size).size ≤ 9223372036854775807) = true := decide_eq_true c23
                    try have c23b2 : (9223372036854775807 < ((a1.extract 0 (t417 : Int).toNat) ++ (strOfNums y425)).size + (a1.extract (t417 : Int).toNat a1.size).size) = False := eq_false (Nat.not_lt.2 c23)
                    try have c23b3 : (9223372036854775807 < a1.extract 0 (t417 : Int).toNat.size + strOfNums y425.size + a1.extract (t417 : Int).toNat a1.size.size) = False := eq_false (Nat.not_lt.2 (by have z := c23; simp only [ByteArray.size_append] at z; exact z))
                    simp only [Option.some.injEq, Prod.mk.injEq] at H
                    obtain ⟨rfl, rfl, rfl, rfl⟩ := H
                    go_wp2
                    repeat (go_quiet (fail); try go_wp2)
                    go_ret
                    exact ⟨ri_, is120_, belg_ (IsS120.ge HI0.out), kp_⟩
                  · rw [if_neg c23] at H
                    exact absurd H (by simp)
                · rw [if_neg c20] at H
                  exact absurd H (by simp)
              · rw [if_neg c19] at H
                exact absurd H (by simp)
            · rw [if_neg c18] at H
              exact absurd H (by simp)
          · replace c17 := Bool.eq_false_iff.mpr c17
            subst c17
            rw [if_neg (show ¬ (false = true) by decide)] at H
            obtain ⟨⟨t432, t433, t434, t435⟩, A24, H⟩ := OB H
            try dsimp only at H
            replace A24 := AM A24
            by_cases c25 : t432 = true
            · subst c25
              rw [if_pos rfl] at H
              by_cases c26 : 0 ≤ t417
              · rw [if_pos c26] at H
                have c26b0 := eq_true c26
                have c26b1 : decide (0 ≤ t417) = true := decide_eq_true c26
                clear c26
                by_cases c27 : t417 ≤ (a1.size : Int)
                · rw [if_pos c27] at H
                  have c27b0 := eq_true c27
                  have c27b1 : decide (t417 ≤ (a1.size : Int)) = true := decide_eq_true c27
                  clear c27
                  obtain ⟨ji28, hji28⟩ : ∃ j_ : Int, (wrap64 (t417 + 1)) = j_ := ⟨_, rfl⟩
                  replace H : (if 0 ≤ (ji28) then (if (ji28) ≤ (a1.size : Int) then (if (a1.extract 0 (t417 : Int).toNat).size + (a1.extract ((ji28) : Int).toNat a1.size).size ≤ 9223372036854775807 then (some ((a1.extract 0 (t417 : Int).toNat) ++ (a1.extract ((ji28) : Int).toNat a1.size), t433, t434, t435)) else (none)) else (none)) else (none)) = some (r1, r2, r3, r4) := by first | (rw [hji28] at H; exact H) | (simp only [hji28] at H ⊢; exact H)
                  (try rw [hji28] at A24)
                  have hji28w : (IntKind.i64.wrap (t417 + 1)) = ji28 := (i64_w _).trans hji28
                  by_cases c29 : 0 ≤ (ji28)
                  · rw [if_pos c29] at H
                    have c29b0 := eq_true c29
                    have c29b1 : decide (0 ≤ (ji28)) = true := decide_eq_true c29
                    clear c29
                    by_cases c30 : (ji28) ≤ (a1.size : Int)
                    · rw [if_pos c30] at H
                      have c30b0 := eq_true c30
                      have c30b1 : decide ((ji28) ≤ (a1.size : Int)) = true := decide_eq_true c30
                      clear c30
                      by_cases c31 : (a1.extract 0 (t417 : Int).toNat).size + (a1.extract ((ji28) : Int).toNat a1.size).size ≤ 9223372036854775807
                      · rw [if_pos c31] at H
                        have c31b0 := eq_true c31
                        have c31b1 : decide ((a1.extract 0 (t417 : Int).toNat).size + (a1.extract ((ji28) : Int).toNat a1.size).size ≤ 9223372036854775807) = true := decide_eq_true c31
                        try have c31b2 : (9223372036854775807 < (a1.extract 0 (t417 : Int).toNat).size + (a1.extract ((ji28) : Int).toNat a1.size).size) = False := eq_false (Nat.not_lt.2 c31)
                        simp only [Option.some.injEq, Prod.mk.injEq] at H
                        obtain ⟨rfl, rfl, rfl, rfl⟩ := H
                        go_wp2_with (first | (go_at_call 120; (with_reducible refine (spec_l01Src_one.calls g s0_0 x1001_7 x1002_7 x1003_7 2 true t433 t434 t435 w0 _ ?side1 ?side2 A24.out).mono ?_); (case side1 => exact is120_); (case side2 => exact belg_ (IsS120.ge HI0.out)); rintro e w32 ⟨rfl, hi, hb, hk⟩; replace HK := AM (KeepBut.trans (kp_ (w := w)) hk (.inl rfl)); replace HB := AM hb; replace HI0 := AM hi; (try clear hb); (try clear hb2); (try clear hk); (try clear hi)))
                        repeat (go_quiet (first | (go_at_call 120; (with_reducible refine (spec_l01Src_one.calls g s0_0 x1001_7 x1002_7 x1003_7 2 true t433 t434 t435 w0 _ ?side1 ?side2 A24.out).mono ?_); (case side1 => exact is120_); (case side2 => exact belg_ (IsS120.ge HI0.out)); rintro e w32 ⟨rfl, hi, hb, hk⟩; replace HK := AM (KeepBut.trans (kp_ (w := w)) hk (.inl rfl)); replace HB := AM hb; replace HI0 := AM hi; (try clear hb); (try clear hb2); (try clear hk); (try clear hi))); try go_wp2_with (first | (go_at_call 120; (with_reducible refine (spec_l01Src_one.calls g s0_0 x1001_7 x1002_7 x1003_7 2 true t433 t434 t435 w0 _ ?side1 ?side2 A24.out).mono ?_); (case side1 => exact is120_); (case side2 => exact belg_ (IsS120.ge HI0.out)); rintro e w32 ⟨rfl, hi, hb, hk⟩; replace HK := AM (KeepBut.trans (kp_ (w := w)) hk (.inl rfl)); replace HB := AM hb; replace HI0 := AM hi; (try clear hb); (try clear hb2); (try clear hk); (try clear hi))))
                        go_ret
                        exact ⟨by first | rfl | (simp [errW_none, errW_some] <;> rfl) | (simp only [← hji28]; first | rfl | (simp [errW_none, errW_some] <;> rfl)) | (simp [*, errW_none, errW_some] <;> rfl), is120_, belg_ (IsS120.ge HI0.out), kp_⟩
                      · rw [if_neg c31] at H
                        exact absurd H (by simp)
                    · rw [if_neg c30] at H
                      exact absurd H (by simp)
                  · rw [if_neg c29] at H
                    exact absurd H (by simp)
                · rw [if_neg c27] at H
                  exact absurd H (by simp)
              · rw [if_neg c26] at H
                exact absurd H (by simp)
            · replace c25 := Bool.eq_false_iff.mpr c25
              subst c25
              rw [if_neg (show ¬ (false = true) by decide)] at H
              by_cases c33 : 0 ≤ t417
              · rw [if_pos c33] at H
                have c33b0 := eq_true c33
                have c33b1 : decide (0 ≤ t417) = true := decide_eq_true c33
                clear c33
                by_cases c34 : t417 ≤ (a1.size : Int)
                · rw [if_pos c34] at H
                  have c34b0 := eq_true c34
                  have c34b1 : decide (t417 ≤ (a1.size : Int)) = true := decide_eq_true c34
                  clear c34
                  by_cases c35 : (a1.extract 0 (t417 : Int).toNat).size + (strOfNums y425).size ≤ 9223372036854775807
                  · rw [if_pos c35] at H
                    have c35b0 := eq_true c35
                    have c35b1 : decide ((a1.extract 0 (t417 : Int).toNat).size + (strOfNums y425).size ≤ 9223372036854775807) = true := decide_eq_true c35
                    try have c35b2 : (9223372036854775807 < (a1.extract 0 (t417 : Int).toNat).size + (strOfNums y425).size) = False := eq_false (Nat.not_lt.2 c35)
                    obtain ⟨ji36, hji36⟩ : ∃ j_ : Int, (wrap64 (t417 + 1)) = j_ := ⟨_, rfl⟩
                    replace H : (if 0 ≤ (ji36) then (if (ji36) ≤ (a1.size : Int) then (if ((a1.extract 0 (t417 : Int).toNat) ++ (strOfNums y425)).size + (a1.extract ((ji36) : Int).toNat a1.size).size ≤ 9223372036854775807 then (some (((a1.extract 0 (t417 : Int).toNat) ++ (strOfNums y425)) ++ (a1.extract ((ji36) : Int).toNat a1.size), t433, t434, t435)) else (none)) else (none)) else (none)) = some (r1, r2, r3, r4) := by first | (rw [hji36] at H; exact H) | (simp only [hji36] at H ⊢; exact H)
                    (try rw [hji36] at A24)
                    have hji36w : (IntKind.i64.wrap (t417 + 1)) = ji36 := (i64_w _).trans hji36
                    by_cases c37 : 0 ≤ (ji36)
                    · rw [if_pos c37] at H
                      have c37b0 := eq_true c37
                      have c37b1 : decide (0 ≤ (ji36)) = true := decide_eq_true c37
                      clear c37
                      by_cases c38 : (ji36) ≤ (a1.size : Int)
                      · rw [if_pos c38] at H
                        have c38b0 := eq_true c38
                        have c38b1 : decide ((ji36) ≤ (a1.size : Int)) = true := decide_eq_true c38
                        clear c38
                        by_cases c39 : ((a1.extract 0 (t417 : Int).toNat) ++ (strOfNums y425)).size + (a1.extract ((ji36) : Int).toNat a1.size).size ≤ 9223372036854775807
                        · rw [if_pos c39] at H
                          have c39b0 := eq_true c39
                          have c39b1 : decide (((a1.extract 0 (t417 : Int).toNat) ++ (strOfNums y425)).size + (a1.extract ((ji36) : Int).toNat a1.size).size ≤ 9223372036854775807) = true := decide_eq_true c39
                          try have c39b2 : (9223372036854775807 < ((a1.extract 0 (t417 : Int).toNat) ++ (strOfNums y425)).size + (a1.extract ((ji36) : Int).toNat a1.size).size) = False := eq_false (Nat.not_lt.2 c39)
                          try have c39b3 : (9223372036854775807 < a1.extract 0 (t417 : Int).toNat.size + strOfNums y425.size + a1.extract ((ji36) : Int).toNat a1.size.size) = False := eq_false (Nat.not_lt.2 (by have z := c39; simp only [ByteArray.size_append] at z; exact z))
                          simp only [Option.some.injEq, Prod.mk.injEq] at H
                          obtain ⟨rfl, rfl, rfl, rfl⟩ := H
                          go_wp2_with (first | (go_at_call 120; (with_reducible refine (spec_l01Src_one.calls g s0_0 x1001_7 x1002_7 x1003_7 2 false t433 t434 t435 w0 _ ?side1 ?side2 A24.out).mono ?_); (case side1 => exact is120_); (case side2 => exact belg_ (IsS120.ge HI0.out)); rintro e w40 ⟨rfl, hi, hb, hk⟩; replace HK := AM (KeepBut.trans (kp_ (w := w)) hk (.inl rfl)); replace HB := AM hb; replace HI0 := AM hi; (try clear hb); (try clear hb2); (try clear hk); (try clear hi)))
                          repeat (go_quiet (first | (go_at_call 120; (with_reducible refine (spec_l01Src_one.calls g s0_0 x1001_7 x1002_7 x1003_7 2 false t433 t434 t435 w0 _ ?side1 ?side2 A24.out).mono ?_); (case side1 => exact is120_); (case side2 => exact belg_ (IsS120.ge HI0.out)); rintro e w40 ⟨rfl, hi, hb, hk⟩; replace HK := AM (KeepBut.trans (kp_ (w := w)) hk (.inl rfl)); replace HB := AM hb; replace HI0 := AM hi; (try clear hb); (try clear hb2); (try clear hk); (try clear hi))); try go_wp2_with (first | (go_at_call 120; (with_reducible refine (spec_l01Src_one.calls g s0_0 x1001_7 x1002_7 x1003_7 2 false t433 t434 t435 w0 _ ?side1 ?side2 A24.out).mono ?_); (case side1 => exact is120_); (case side2 => exact belg_ (IsS120.ge HI0.out)); rintro e w40 ⟨rfl, hi, hb, hk⟩; replace HK := AM (KeepBut.trans (kp_ (w := w)) hk (.inl rfl)); replace HB := AM hb; replace HI0 := AM hi; (try clear hb); (try clear hb2); (try clear hk); (try clear hi))))
                          go_ret
                          exact ⟨by first | rfl | (simp [errW_none, errW_some] <;> rfl) | (simp only [← hji36]; first | rfl | (simp [errW_none, errW_some] <;> rfl)) | (simp [*, errW_none, errW_some] <;> rfl), is120_, belg_ (IsS120.ge HI0.out), kp_⟩
                        · rw [if_neg c39] at H
                          exact absurd H (by simp)
                      · rw [if_neg c38] at H
                        exact absurd H (by simp)
                    · rw [if_neg c37] at H
                      exact absurd H (by simp)
                  · rw [if_neg c35] at H
                    exact absurd H (by simp)
                · rw [if_neg c34] at H
                  exact absurd H (by simp)
              · rw [if_neg c33] at H
                exact absurd H (by simp)
    · rw [if_neg c6] at H
      exact absurd H (by simp)
  · rw [if_neg c5] at H
    exact absurd H (by simp)

/-! ### spec_DrawFrameRead: function 46 -/
def spec_DrawFrameRead.f (k : Nat) (l0 : List Int) : Option (ByteArray) := (spec_l01Source.f k l0).bind fun bt436 => ((spec_l01Src_l09Frame.f k bt436.1 bt436.2.1 bt436.2.2.1 bt436.2.2.2).bind fun bt441 => ((spec_FrameBytes.f k bt441.1 bt441.2.1 bt441.2.2.1 bt441.2.2.2.1 bt441.2.2.2.2.1 bt441.2.2.2.2.2.1).bind fun t450 => ((spec_l01Src_n.f bt436.1 bt441.2.2.2.2.2.2.1 bt441.2.2.2.2.2.2.2.1 bt441.2.2.2.2.2.2.2.2 5).bind fun bt451 => (if bt451.1 = 0 then ((spec_l01Src_spoil.f k bt436.1 bt451.2.1 bt451.2.2.1 bt451.2.2.2 t450).bind fun bt455 => (some bt455.1)) else (if bt451.1 = 1 then ((spec_l01Src_n.f bt436.1 bt451.2.1 bt451.2.2.1 bt451.2.2.2 (wrap64 ((t450.size : Int) + 1))).bind fun bt459 => (if 0 ≤ bt459.1 then (if bt459.1 ≤ (t450.size : Int) then (some (t450.extract 0 (bt459.1 : Int).toNat)) else (none)) else (none))) else (some t450))))))
theorem spec_DrawFrameRead.mono : ∀ a0 k, LeO (spec_DrawFrameRead.f k a0) (spec_DrawFrameRead.f (k + 1) a0) := by
  intro a0 k
  unfold spec_DrawFrameRead.f
  repeat' first
      | (with_reducible exact spec_FrameBytes.mono _ _ _ _ _ _ _)
      | (with_reducible exact spec_l01Source.mono _ _)
      | (with_reducible exact spec_l01Src_l09Frame.mono _ _ _ _ _)
      | (with_reducible exact spec_l01Src_spoil.mono _ _ _ _ _ _)
      | (with_reducible exact LeO.refl _)
      | (with_reducible exact LeO.none _)
      | (with_reducible refine LeO.ite ?_ ?_)
      | (with_reducible refine LeO.bind ?_ (fun _ => ?_))
      | exact spec_FrameBytes.mono _ _ _ _ _ _ _
      | exact spec_l01Source.mono _ _
      | exact spec_l01Src_l09Frame.mono _ _ _ _ _
      | exact spec_l01Src_spoil.mono _ _ _ _ _ _
      | exact LeO.none _
      | refine LeO.ite ?_ ?_
      | refine LeO.bind ?_ (fun _ => ?_)
set_option maxHeartbeats 8000000 in
set_option maxRecDepth 100000 in
theorem spec_DrawFrameRead.calls (k : Nat) (A0 : Option Addr) (c0 : Nat) (l0 : List Int) (r : ByteArray) (w : World) (hr0 : Kd.C (Kd.int .u8) w A0 l0.length l0) (hc0 : l0.length ≤ c0) (h : spec_DrawFrameRead.f k l0 = some r) :
    Calls Tryd.prog 46 #[.slice A0 l0.length c0] w fun e w' => e = .returned (.string r) ∧ Below w.heap.size w w' := by
  have HR0 := AM hr0
  have HC0 := AM hc0
  clear hr0 hc0
  have HB := AM (Below.refl w.heap.size w)
  have H : ((spec_l01Source.f k l0).bind fun bt436 => ((spec_l01Src_l09Frame.f k bt436.1 bt436.2.1 bt436.2.2.1 bt436.2.2.2).bind fun bt441 => ((spec_FrameBytes.f k bt441.1 bt441.2.1 bt441.2.2.1 bt441.2.2.2.1 bt441.2.2.2.2.1 bt441.2.2.2.2.2.1).bind fun t450 => ((spec_l01Src_n.f bt436.1 bt441.2.2.2.2.2.2.1 bt441.2.2.2.2.2.2.2.1 bt441.2.2.2.2.2.2.2.2 5).bind fun bt451 => (if bt451.1 = 0 then ((spec_l01Src_spoil.f k bt436.1 bt451.2.1 bt451.2.2.1 bt451.2.2.2 t450).bind fun bt455 => (some bt455.1)) else (if bt451.1 = 1 then ((spec_l01Src_n.f bt436.1 bt451.2.1 bt451.2.2.1 bt451.2.2.2 (wrap64 ((t450.size : Int) + 1))).bind fun bt459 => (if 0 ≤ bt459.1 then (if bt459.1 ≤ (t450.size : Int) then (some (t450.extract 0 (bt459.1 : Int).toNat)) else (none)) else (none))) else (some t450))))))) = some r := h
  clear h
  obtain ⟨⟨t436, t437, t438, t439⟩, A2, H⟩ := OB H
  try dsimp only at H
  replace A2 := AM A2
  obtain ⟨⟨t441, t442, t443, t444, t445, t446, t447, t448, t449⟩, A3, H⟩ := OB H
  try dsimp only at H
  replace A3 := AM A3
  obtain ⟨t450, A4, H⟩ := OB H
  try dsimp only at H
  replace A4 := AM A4
  obtain ⟨⟨t451, t452, t453, t454⟩, A5, H⟩ := OB H
  try dsimp only at H
  replace A5 := AM A5
  by_cases c6 : t451 = 0
  · rw [if_pos c6] at H
    have c6b0 : (t451 == 0) = true := beq_iff_eq.mpr c6
    have c6b1 : (t451 != 0) = false := bne_eq_false_iff_eq.mpr c6
    clear c6
    obtain ⟨⟨t455, t456, t457, t458⟩, A7, H⟩ := OB H
    try dsimp only at H
    replace A7 := AM A7
    obtain rfl := Option.some.inj H
    go_enter Tryd.func46, Tryd.ntmps46
    go_wp2_with (first | ((with_reducible refine gate_callee (f := 62) rfl ?_); refine gl_ (some 6) Tryd.func62 #[.slice A0 l0.length c0] ?_; (with_reducible refine (spec_l01Source.calls k _ _ l0 t436 t437 t438 t439 w _ ?side1 ?side2 ?side3 A2.out).mono ?_); (case side1 => exact bel_); (case side2 => exact HR0.out); (case side3 => exact HC0.out); rintro e w8 ⟨g440, rfl, hi, hb, hb2⟩; refine ⟨_, rfl, ?_⟩; replace HB := AM hb; have HI440 := AM hi; (try clear hb); (try clear hb2); (try clear hk); (try clear hi)) | ((with_reducible refine gate_callee (f := 92) rfl ?_); refine gl_ (some 8) Tryd.func92 #[.pointer (some ⟨g440, 0, none⟩)] ?_; (with_reducible refine (spec_l01Src_l09Frame.calls k g440 t436 t437 t438 t439 t441 t442 t443 t444 t445 t446 t447 t448 t449 w _ ?side1 ?side2 A3.out).mono ?_); (case side1 => exact is120_); (case side2 => exact belg_ (IsS120.ge HI440.out)); rintro e w9 ⟨rfl, hi, hb, hk⟩; refine ⟨_, rfl, ?_⟩; replace HB := AM hb; replace HI440 := AM hi; (try clear hb); (try clear hb2); (try clear hk); (try clear hi)) | ((with_reducible refine gate_callee (f := 14) rfl ?_); refine gl_ (some 9) Tryd.func14 #[.agg #[.int .i64 t441, .int .i64 t442, .int .i64 t443, .int .i64 t444, .string t445, .string t446]] ?_; (with_reducible refine (spec_FrameBytes.calls k t441 t442 t443 t444 t445 t446 t450 _ A4.out).mono ?_); rintro e w10 ⟨rfl, hb⟩; refine ⟨_, rfl, ?_⟩; replace HB := AM (below_step (belg_ (IsS120.ge HI440.out)) hb); replace HI440 := AM (IsS120.below is120_ hb); (try clear hb); (try clear hb2); (try clear hk); (try clear hi)) | ((with_reducible refine gate_callee (f := 64) rfl ?_); refine gl_ (some 11) Tryd.func64 #[.pointer (some ⟨g440, 0, none⟩), .int .i64 5] ?_; (with_reducible refine (spec_l01Src_n.calls g440 t436 t447 t448 t449 5 t451 t452 t453 t454 w _ ?side1 ?side2 A5.out).mono ?_); (case side1 => exact is120_); (case side2 => exact belg_ (IsS120.ge HI440.out)); rintro e w11 ⟨rfl, hi, hb, hk⟩; refine ⟨_, rfl, ?_⟩; replace HB := AM hb; replace HI440 := AM hi; (try clear hb); (try clear hb2); (try clear hk); (try clear hi)) | ((with_reducible refine gate_callee (f := 95) rfl ?_); refine gl_ (some 16) Tryd.func95 #[.pointer (some ⟨g440, 0, none⟩), .string t450] ?_; (with_reducible refine (spec_l01Src_spoil.calls k g440 t436 t452 t453 t454 t450 t455 t456 t457 t458 w _ ?side1 ?side2 A7.out).mono ?_); (case side1 => exact is120_); (case side2 => exact belg_ (IsS120.ge HI440.out)); rintro e w12 ⟨rfl, hi, hb, hk⟩; refine ⟨_, rfl, ?_⟩; replace HB := AM hb; replace HI440 := AM hi; (try clear hb); (try clear hb2); (try clear hk); (try clear hi)))
    go_ret
    exact ⟨ri_, belg_ (IsS120.ge HI440.out)⟩
  · rw [if_neg c6] at H
    have c6b0 : (t451 == 0) = false := beq_eq_false_iff_ne.mpr c6
    have c6b1 : (t451 != 0) = true := bne_iff_ne.mpr c6
    by_cases c13 : t451 = 1
    · rw [if_pos c13] at H
      have c13b0 : (t451 == 1) = true := beq_iff_eq.mpr c13
      have c13b1 : (t451 != 1) = false := bne_eq_false_iff_eq.mpr c13
      clear c13
      obtain ⟨⟨t459, t460, t461, t462⟩, A14, H⟩ := OB H
      try dsimp only at H
      replace A14 := AM A14
      by_cases c15 : 0 ≤ t459
      · rw [if_pos c15] at H
        have c15b0 := eq_true c15
        have c15b1 : decide (0 ≤ t459) = true := decide_eq_true c15
        clear c15
        by_cases c16 : t459 ≤ (t450.size : Int)
        · rw [if_pos c16] at H
          have c16b0 := eq_true c16
          have c16b1 : decide (t459 ≤ (t450.size : Int)) = true := decide_eq_true c16
          clear c16
          obtain rfl := Option.some.inj H
          go_enter Tryd.func46, Tryd.ntmps46
          go_wp2_with (first | ((with_reducible refine gate_callee (f := 62) rfl ?_); refine gl_ (some 6) Tryd.func62 #[.slice A0 l0.length c0] ?_; (with_reducible refine (spec_l01Source.calls k _ _ l0 t436 t437 t438 t439 w _ ?side1 ?side2 ?side3 A2.out).mono ?_); (case side1 => exact bel_); (case side2 => exact HR0.out); (case side3 => exact HC0.out); rintro e w17 ⟨g440, rfl, hi, hb, hb2⟩; refine ⟨_, rfl, ?_⟩; replace HB := AM hb; have HI440 := AM hi; (try clear hb); (try clear hb2); (try clear hk); (try clear hi)) | ((with_reducible refine gate_callee (f := 92) rfl ?_); refine gl_ (some 8) Tryd.func92 #[.pointer (some ⟨g440, 0, none⟩)] ?_; (with_reducible refine (spec_l01Src_l09Frame.calls k g440 t436 t437 t438 t439 t441 t442 t443 t444 t445 t446 t447 t448 t449 w _ ?side1 ?side2 A3.out).mono ?_); (case side1 => exact is120_); (case side2 => exact belg_ (IsS120.ge HI440.out)); rintro e w18 ⟨rfl, hi, hb, hk⟩; refine ⟨_, rfl, ?_⟩; replace HB := AM hb; replace HI440 := AM hi; (try clear hb); (try clear hb2); (try clear hk); (try clear hi)) | ((with_reducible refine gate_callee (f := 14) rfl ?_); refine gl_ (some 9) Tryd.func14 #[.agg #[.int .i64 t441, .int .i64 t442, .int .i64 t443, .int .i64 t444, .string t445, .string t446]] ?_; (with_reducible refine (spec_FrameBytes.calls k t441 t442 t443 t444 t445 t446 t450 _ A4.out).mono ?_); rintro e w19 ⟨rfl, hb⟩; refine ⟨_, rfl, ?_⟩; replace HB := AM (below_step (belg_ (IsS120.ge HI440.out)) hb); replace HI440 := AM (IsS120.below is120_ hb); (try clear hb); (try clear hb2); (try clear hk); (try clear hi)) | ((with_reducible refine gate_callee (f := 64) rfl ?_); refine gl_ (some 11) Tryd.func64 #[.pointer (some ⟨g440, 0, none⟩), .int .i64 5] ?_; (with_reducible refine (spec_l01Src_n.calls g440 t436 t447 t448 t449 5 t451 t452 t453 t454 w _ ?side1 ?side2 A5.out).mono ?_); (case side1 => exact is120_); (case side2 => exact belg_ (IsS120.ge HI440.out)); rintro e w20 ⟨rfl, hi, hb, hk⟩; refine ⟨_, rfl, ?_⟩; replace HB := AM hb; replace HI440 := AM hi; (try clear hb); (try clear hb2); (try clear hk); (try clear hi)) | ((with_reducible refine gate_callee (f := 64) rfl ?_); refine gl_ (some 24) Tryd.func64 #[.pointer (some ⟨g440, 0, none⟩), .int .i64 (wrap64 ((t450.size : Int) + 1))] ?_; (with_reducible refine (spec_l01Src_n.calls g440 t436 t452 t453 t454 (wrap64 ((t450.size : Int) + 1)) t459 t460 t461 t462 w _ ?side1 ?side2 A14.out).mono ?_); (case side1 => exact is120_); (case side2 => exact belg_ (IsS120.ge HI440.out)); rintro e w21 ⟨rfl, hi, hb, hk⟩; refine ⟨_, rfl, ?_⟩; replace HB := AM hb; replace HI440 := AM hi; (try clear hb); (try clear hb2); (try clear hk); (try clear hi)))
          go_ret
          exact ⟨ri_, belg_ (IsS120.ge HI440.out)⟩
        · rw [if_neg c16] at H
          exact absurd H (by simp)
      · rw [if_neg c15] at H
        exact absurd H (by simp)
    · rw [if_neg c13] at H
      have c13b0 : (t451 == 1) = false := beq_eq_false_iff_ne.mpr c13
      have c13b1 : (t451 != 1) = true := bne_iff_ne.mpr c13
      obtain rfl := Option.some.inj H
      go_enter Tryd.func46, Tryd.ntmps46
      go_wp2_with (first | ((with_reducible refine gate_callee (f := 62) rfl ?_); refine gl_ (some 6) Tryd.func62 #[.slice A0 l0.length c0] ?_; (with_reducible refine (spec_l01Source.calls k _ _ l0 t436 t437 t438 t439 w _ ?side1 ?side2 ?side3 A2.out).mono ?_); (case side1 => exact bel_); (case side2 => exact HR0.out); (case side3 => exact HC0.out); rintro e w22 ⟨g440, rfl, hi, hb, hb2⟩; refine ⟨_, rfl, ?_⟩; replace HB := AM hb; have HI440 := AM hi; (try clear hb); (try clear hb2); (try clear hk); (try clear hi)) | ((with_reducible refine gate_callee (f := 92) rfl ?_); refine gl_ (some 8) Tryd.func92 #[.pointer (some ⟨g440, 0, none⟩)] ?_; (with_reducible refine (spec_l01Src_l09Frame.calls k g440 t436 t437 t438 t439 t441 t442 t443 t444 t445 t446 t447 t448 t449 w _ ?side1 ?side2 A3.out).mono ?_); (case side1 => exact is120_); (case side2 => exact belg_ (IsS120.ge HI440.out)); rintro e w23 ⟨rfl, hi, hb, hk⟩; refine ⟨_, rfl, ?_⟩; replace HB := AM hb; replace HI440 := AM hi; (try clear hb); (try clear hb2); (try clear hk); (try clear hi)) | ((with_reducible refine gate_callee (f := 14) rfl ?_); refine gl_ (some 9) Tryd.func14 #[.agg #[.int .i64 t441, .int .i64 t442, .int .i64 t443, .int .i64 t444, .string t445, .string t446]] ?_; (with_reducible refine (spec_FrameBytes.calls k t441 t442 t443 t444 t445 t446 t450 _ A4.out).mono ?_); rintro e w24 ⟨rfl, hb⟩; refine ⟨_, rfl, ?_⟩; replace HB := AM (below_step (belg_ (IsS120.ge HI440.out)) hb); replace HI440 := AM (IsS120.below is120_ hb); (try clear hb); (try clear hb2); (try clear hk); (try clear hi)) | ((with_reducible refine gate_callee (f := 64) rfl ?_); refine gl_ (some 11) Tryd.func64 #[.pointer (some ⟨g440, 0, none⟩), .int .i64 5] ?_; (with_reducible refine (spec_l01Src_n.calls g440 t436 t447 t448 t449 5 t451 t452 t453 t454 w _ ?side1 ?side2 A5.out).mono ?_); (case side1 => exact is120_); (case side2 => exact belg_ (IsS120.ge HI440.out)); rintro e w25 ⟨rfl, hi, hb, hk⟩; refine ⟨_, rfl, ?_⟩; replace HB := AM hb; replace HI440 := AM hi; (try clear hb); (try clear hb2); (try clear hk); (try clear hi)))
      go_ret
      exact ⟨ri_, belg_ (IsS120.ge HI440.out)⟩

end Go.Proofs.YtddapeieolfolaaDoor.PFnFrame
