/- Functions of the law FnNodes: the print's, with walks of this session's own. No statement is proved here. -/
import Derived.WalkLawsBesides
import Derived.Test.YtfffdndeccipnaaPFnNodesx12
import Derived.Test.YtfffdndeccipnaaPFnNodesx18
namespace Go.Proofs.Ytfffdndeccipnaa.PFnNodes
open Go.RowKit Go.Proofs.YtfffdndeccipnaaW.PrintWords Go.Proofs.YtfffdndeccipnaaW.PrintLast Go.Proofs.YtfffdndeccipnaaW.PrintMore Go.Proofs.Ytfffdndeccipnaa.Reg Go.Proofs.Ytfffdndeccipnaa.Aut
attribute [local go_sem] xE_ xC_ max_two min_two xn_ xm_ xD_ xB_
set_option linter.unusedVariables false
set_option linter.unusedSimpArgs false
set_option maxHeartbeats 8000000
set_option maxRecDepth 100000
/-! ### yf_: function 12 -/
def yf_.f (k : Nat) (a0 : ByteArray) : Option ((List (S97)) × Int) := (xu_.f a0).bind fun t398 => (if t398 = true then (some (([] : List (S97)), 2)) else ((ze_.f k a0).bind fun bt399 => (if bt399.2 = true then (some (bt399.1, 0)) else (some (([] : List (S97)), 3)))))
theorem yf_.mono : ∀ a0 k, LeO (yf_.f k a0) (yf_.f (k + 1) a0) := by
 intro a0 k
 unfold yf_.f
 repeat' with_reducible first | exact ze_.mono _ _ | exact LeO.refl _ | exact LeO.none _ | refine LeO.ite ?_ ?_ | refine LeO.bind ?_ (fun _ => ?_)
theorem yf_.calls (k : Nat) (a0 : ByteArray) (r1 : List (S97)) (r2 : Int) (w : World) (h : yf_.f k a0 = some (r1, r2)) :
 Calls Try.prog 12 #[.string a0] w fun e w' => ∃ v0_ : Value, e = .returned (.agg #[v0_, .int .i64 r2]) ∧ Kd.S k97 97 w' w.heap.size (fun _ => True) v0_ r1 ∧ Below w.heap.size w w' := by
 have hu28 := Try.underlying28
 have HB := AM (Below.refl w.heap.size w)
 have H : ((xu_.f a0).bind fun t398 => (if t398 = true then (some (([] : List (S97)), 2)) else ((ze_.f k a0).bind fun bt399 => (if bt399.2 = true then (some (bt399.1, 0)) else (some (([] : List (S97)), 3)))))) = some (r1, r2) := h
 clear h
 obtain ⟨t398, A2, H⟩ := OB H
 try dsimp only at H
 replace A2 := AM A2
 by_cases c3 : t398 = true
 ·
  subst c3
  rw [if_pos rfl] at H
  simp only [Option.some.injEq, Prod.mk.injEq] at H
  obtain ⟨rfl, rfl⟩ := H
  go_enter Try.func12, Try.ntmps12
  go_wp2_with (first | ((with_reducible refine z6_ (N := 2) rfl ?_); refine be_ 2 #[.slice none 0 0, .int .i64 0] 28 ?_; intro gb397 hg w4 hbox hb; have BK397 := AM hbox; have GW397 := AM ((by rw [hg]; exact (zj_ bel_) : w.heap.size ≤ gb397)); have GE397 := AM ((by rw [hg]; exact (zj_ bel_) : w.heap.size ≤ gb397)); replace HB := AM (zg_ bel_ hb); clear hb hbox hg) | ((with_reducible refine zl_ (f := 62) rfl ?_); refine gl_ (some 6) Try.func62 #[.string a0] ?_; (with_reducible refine (xu_.calls a0 true _ A2.out).mono ?_); rintro e w' ⟨rfl, ⟨nd, rfl⟩⟩; refine ⟨_, rfl, ?_⟩; (try (rw [xy_ w4]; generalize hq_ : World.drewN w4 _ = w4; replace BK397 : zd_ (w4.heap[gb397]? = some (.cells #[.slice none 0 0, .int .i64 0] 28 (0, 0))) := ⟨by rw [← hq_]; exact (bk_ BK397.out)⟩; replace HB : zd_ (Below w.heap.size w w4) := ⟨by rw [← hq_]; exact bel_⟩; clear hq_)); have hcz5_0 : w4.cell? ⟨gb397, 0, none⟩ = some (.slice none 0 0) := (zb_ BK397.out 0).trans rfl; have hcz5_1 : w4.cell? ⟨gb397, 1, none⟩ = some (.int .i64 0) := (zb_ BK397.out 1).trans rfl; have hfz5_0 := za_ BK397.out 0; have hfz5_1 := za_ BK397.out 1))
  refine bodyPost_ret (results_cell_row rfl _ _ gb397 28 #[.slice none 0 0, .int .i64 2] (0, 0) _ rfl bka_ Try.underlying28 rfl (by kernel_rfl)) rfl ?_
  exact ⟨_, ri_, by first | exact Kd.S_nil _ _ _ _ _ | exact Kd.N_nil _ _ _ _ _ | exact Kd.V_nil _ _ _ _ _ | exact Kd.Q_nil _ _ _ _ _ | exact Kd.R_nil _ _ _ _ _, bel_⟩
 ·
  replace c3 := Bool.eq_false_iff.mpr c3
  subst c3
  rw [if_neg (show ¬ (false = true) by decide)] at H
  obtain ⟨⟨t399, t400⟩, A6, H⟩ := OB H
  try dsimp only at H
  replace A6 := AM A6
  by_cases c7 : t400 = true
  ·
   subst c7
   rw [if_pos rfl] at H
   simp only [Option.some.injEq, Prod.mk.injEq] at H
   obtain ⟨rfl, rfl⟩ := H
   go_enter Try.func12, Try.ntmps12
   go_wp2_with (first | ((with_reducible refine z6_ (N := 2) rfl ?_); refine be_ 2 #[.slice none 0 0, .int .i64 0] 28 ?_; intro gb397 hg w8 hbox hb; have BK397 := AM hbox; have GW397 := AM ((by rw [hg]; exact (zj_ bel_) : w.heap.size ≤ gb397)); have GE397 := AM ((by rw [hg]; exact (zj_ bel_) : w.heap.size ≤ gb397)); replace HB := AM (zg_ bel_ hb); clear hb hbox hg) | ((with_reducible refine zl_ (f := 62) rfl ?_); refine gl_ (some 6) Try.func62 #[.string a0] ?_; (with_reducible refine (xu_.calls a0 false _ A2.out).mono ?_); rintro e w' ⟨rfl, ⟨nd, rfl⟩⟩; refine ⟨_, rfl, ?_⟩; (try (rw [xy_ w8]; generalize hq_ : World.drewN w8 _ = w8; replace BK397 : zd_ (w8.heap[gb397]? = some (.cells #[.slice none 0 0, .int .i64 0] 28 (0, 0))) := ⟨by rw [← hq_]; exact (bk_ BK397.out)⟩; replace HB : zd_ (Below w.heap.size w w8) := ⟨by rw [← hq_]; exact bel_⟩; clear hq_))) | ((with_reducible refine zl_ (f := 63) rfl ?_); refine gl_ (some 10) Try.func63 #[.string a0] ?_; (with_reducible refine (ze_.calls k a0 t399 true _ A6.out).mono ?_); rintro e w9 ⟨v401, rfl, ho0, hb⟩; refine ⟨_, rfl, ?_⟩; have HO402 := AM (Kd.xh_ ho0 (zj_ bel_)); replace BK397 := AM (zP_ (g := gb397) (o := .cells #[.slice none 0 0, .int .i64 0] 28 (0, 0)) (bk_ BK397.out) hb); replace HB := AM (zg_ bel_ hb); (try clear hb); (try clear ho0); obtain ⟨Ao10, co10, eo10⟩ := Kd.xv_ HO402.out; subst eo10; have hcz11_0 : w9.cell? ⟨gb397, 0, none⟩ = some (.slice none 0 0) := (zb_ BK397.out 0).trans rfl; have hcz11_1 : w9.cell? ⟨gb397, 1, none⟩ = some (.int .i64 0) := (zb_ BK397.out 1).trans rfl; have hfz11_0 := za_ BK397.out 0; have hfz11_1 := za_ BK397.out 1))
   refine bodyPost_ret (results_cell_row rfl _ _ gb397 28 #[.slice Ao10 t399.length co10, .int .i64 0] (0, 0) _ rfl bka_ Try.underlying28 rfl (by kernel_rfl)) rfl ?_
   exact ⟨_, ri_, by (with_reducible repeat (first | apply Kd.ye_ | apply Kd.yd_ | apply Kd.yi_)); exact Kd.zR_ (Kd.S_far (p := ⟨gb397, 1, none⟩) (Kd.S_far (p := ⟨gb397, 0, none⟩) (Kd.S_types HO402.out BK397.out (by decide)) (fun _ hk => hk.2) (.slice Ao10 t399.length co10)) (fun _ hk => hk.2) (.int .i64 0)) (fun _ hk => trivial), bel_⟩
  ·
   replace c7 := Bool.eq_false_iff.mpr c7
   subst c7
   rw [if_neg (show ¬ (false = true) by decide)] at H
   simp only [Option.some.injEq, Prod.mk.injEq] at H
   obtain ⟨rfl, rfl⟩ := H
   go_enter Try.func12, Try.ntmps12
   go_wp2_with (first | ((with_reducible refine z6_ (N := 2) rfl ?_); refine be_ 2 #[.slice none 0 0, .int .i64 0] 28 ?_; intro gb397 hg w12 hbox hb; have BK397 := AM hbox; have GW397 := AM ((by rw [hg]; exact (zj_ bel_) : w.heap.size ≤ gb397)); have GE397 := AM ((by rw [hg]; exact (zj_ bel_) : w.heap.size ≤ gb397)); replace HB := AM (zg_ bel_ hb); clear hb hbox hg) | ((with_reducible refine zl_ (f := 62) rfl ?_); refine gl_ (some 6) Try.func62 #[.string a0] ?_; (with_reducible refine (xu_.calls a0 false _ A2.out).mono ?_); rintro e w' ⟨rfl, ⟨nd, rfl⟩⟩; refine ⟨_, rfl, ?_⟩; (try (rw [xy_ w12]; generalize hq_ : World.drewN w12 _ = w12; replace BK397 : zd_ (w12.heap[gb397]? = some (.cells #[.slice none 0 0, .int .i64 0] 28 (0, 0))) := ⟨by rw [← hq_]; exact (bk_ BK397.out)⟩; replace HB : zd_ (Below w.heap.size w w12) := ⟨by rw [← hq_]; exact bel_⟩; clear hq_))) | ((with_reducible refine zl_ (f := 63) rfl ?_); refine gl_ (some 10) Try.func63 #[.string a0] ?_; (with_reducible refine (ze_.calls k a0 t399 false _ A6.out).mono ?_); rintro e w13 ⟨v401, rfl, ho0, hb⟩; refine ⟨_, rfl, ?_⟩; have HO402 := AM (Kd.xh_ ho0 (zj_ bel_)); replace BK397 := AM (zP_ (g := gb397) (o := .cells #[.slice none 0 0, .int .i64 0] 28 (0, 0)) (bk_ BK397.out) hb); replace HB := AM (zg_ bel_ hb); (try clear hb); (try clear hk); (try clear ho0); have hcz14_0 : w13.cell? ⟨gb397, 0, none⟩ = some (.slice none 0 0) := (zb_ BK397.out 0).trans rfl; have hcz14_1 : w13.cell? ⟨gb397, 1, none⟩ = some (.int .i64 0) := (zb_ BK397.out 1).trans rfl; have hfz14_0 := za_ BK397.out 0; have hfz14_1 := za_ BK397.out 1))
   refine bodyPost_ret (results_cell_row rfl _ _ gb397 28 #[.slice none 0 0, .int .i64 3] (0, 0) _ rfl bka_ Try.underlying28 rfl (by kernel_rfl)) rfl ?_
   exact ⟨_, ri_, by first | exact Kd.S_nil _ _ _ _ _ | exact Kd.N_nil _ _ _ _ _ | exact Kd.V_nil _ _ _ _ _ | exact Kd.Q_nil _ _ _ _ _ | exact Kd.R_nil _ _ _ _ _, bel_⟩
/-! ### zC_: function 65 -/
def zC_.j0 : Nat → ByteArray → Int → ByteArray → Bool → List Int → Int → Int → Int → Option (ByteArray × Int × Int × Int)
 | 0, _, _, _, _, _, _, _, _ => none
 | k + 1, x1, x5, x6, x24, x1000, x1001, x1002, x1003 => if x24 = true then (if 0 ≤ x5 then (if x5 ≤ (x1.size : Int) then (if (x1.extract 0 (x5 : Int).toNat).size + x6.size ≤ 9223372036854775807 then (if ((x1.extract 0 (x5 : Int).toNat) ++ x6).size + (x1.extract (x5 : Int).toNat x1.size).size ≤ 9223372036854775807 then (some (((x1.extract 0 (x5 : Int).toNat) ++ x6) ++ (x1.extract (x5 : Int).toNat x1.size), x1001, x1002, x1003)) else (none)) else (none)) else (none)) else (none)) else ((zK_.f x1000 x1001 x1002 x1003 2).bind fun bt418 => (if bt418.1 = true then (if 0 ≤ x5 then (if x5 ≤ (x1.size : Int) then (if 0 ≤ (wrap64 (x5 + 1)) then (if (wrap64 (x5 + 1)) ≤ (x1.size : Int) then (if (x1.extract 0 (x5 : Int).toNat).size + (x1.extract ((wrap64 (x5 + 1)) : Int).toNat x1.size).size ≤ 9223372036854775807 then (some ((x1.extract 0 (x5 : Int).toNat) ++ (x1.extract ((wrap64 (x5 + 1)) : Int).toNat x1.size), bt418.2.1, bt418.2.2.1, bt418.2.2.2)) else (none)) else (none)) else (none)) else (none)) else (none)) else (if 0 ≤ x5 then (if x5 ≤ (x1.size : Int) then (if (x1.extract 0 (x5 : Int).toNat).size + x6.size ≤ 9223372036854775807 then (if 0 ≤ (wrap64 (x5 + 1)) then (if (wrap64 (x5 + 1)) ≤ (x1.size : Int) then (if ((x1.extract 0 (x5 : Int).toNat) ++ x6).size + (x1.extract ((wrap64 (x5 + 1)) : Int).toNat x1.size).size ≤ 9223372036854775807 then (some (((x1.extract 0 (x5 : Int).toNat) ++ x6) ++ (x1.extract ((wrap64 (x5 + 1)) : Int).toNat x1.size), bt418.2.1, bt418.2.2.1, bt418.2.2.2)) else (none)) else (none)) else (none)) else (none)) else (none)) else (none))))
def zC_.f (k : Nat) (s0_0 : List Int) (s0_1 : Int) (s0_2 : Int) (s0_3 : Int) (a1 : ByteArray) : Option (ByteArray × Int × Int × Int) := (zI_.f s0_0 s0_1 s0_2 s0_3 (wrap64 ((a1.size : Int) + 1))).bind fun bt403 => ((zI_.f s0_0 bt403.2.1 bt403.2.2.1 bt403.2.2.2 17).bind fun bt407 => (if 0 ≤ bt407.1 then (if bt407.1 < 17 then ((some (([bt (⟨#[32, 10, 48, 97, 45, 110, 44, 58, 93, 255, 40, 120, 126, 49, 128, 225, 59]⟩ : ByteArray) bt407.1] : List Int) : List Int)).bind fun y411 => (if bt403.1 = (a1.size : Int) then (zC_.j0 k a1 bt403.1 (strOfNums y411) true s0_0 bt407.2.1 bt407.2.2.1 bt407.2.2.2) else ((zK_.f s0_0 bt407.2.1 bt407.2.2.1 bt407.2.2.2 3).bind fun bt414 => (zC_.j0 k a1 bt403.1 (strOfNums y411) bt414.1 s0_0 bt414.2.1 bt414.2.2.1 bt414.2.2.2)))) else (none)) else (none)))
theorem zC_.mono_l : ∀ k, (∀ y0 y1 y2 y3 y4 y5 y6 y7, LeO (zC_.j0 k y0 y1 y2 y3 y4 y5 y6 y7) (zC_.j0 (k + 1) y0 y1 y2 y3 y4 y5 y6 y7))
 | 0 => fun _ _ _ _ _ _ _ _ r h => by simp [zC_.j0] at h
 | k + 1 => by
  have ih0 := zC_.mono_l k
  ·
   intro y0 y1 y2 y3 y4 y5 y6 y7
   unfold zC_.j0
   repeat' with_reducible first | exact ih0 _ _ _ _ _ _ _ _ | exact LeO.refl _ | exact LeO.none _ | refine LeO.ite ?_ ?_ | refine LeO.bind ?_ (fun _ => ?_)
theorem zC_.mono : ∀ a0 a1 a2 a3 a4 k, LeO (zC_.f k a0 a1 a2 a3 a4) (zC_.f (k + 1) a0 a1 a2 a3 a4) := by
 intro a0 a1 a2 a3 a4 k
 have ih0 := zC_.mono_l k
 unfold zC_.f
 repeat' with_reducible first | exact ih0 _ _ _ _ _ _ _ _ | exact LeO.refl _ | exact LeO.none _ | refine LeO.ite ?_ ?_ | refine LeO.bind ?_ (fun _ => ?_)
theorem zC_.calls (k : Nat) (g : Nat) (s0_0 : List Int) (s0_1 : Int) (s0_2 : Int) (s0_3 : Int) (a1 : ByteArray) (r1 : ByteArray) (r2 : Int) (r3 : Int) (r4 : Int) (w0 w : World) (hI : zh_ w0 w g s0_0 s0_1 s0_2 s0_3) (hB : Below w0.heap.size w0 w) (h : zC_.f k s0_0 s0_1 s0_2 s0_3 a1 = some (r1, r2, r3, r4)) :
 Calls Try.prog 65 #[.pointer (some ⟨g, 0, none⟩), .string a1] w fun e w' => e = .returned (.string r1) ∧ zh_ w0 w' g s0_0 r2 r3 r4 ∧ Below w0.heap.size w0 w' ∧ zs_ w w' g none := by
 have HI0 := AM hI
 have HK := AM (zs_.refl w g none)
 have HL := AM hB.size
 clear hI
 have HW0 := AM hB.size
 have HB := AM hB
 clear hB
 have H : ((zI_.f s0_0 s0_1 s0_2 s0_3 (wrap64 ((a1.size : Int) + 1))).bind fun bt403 => ((zI_.f s0_0 bt403.2.1 bt403.2.2.1 bt403.2.2.2 17).bind fun bt407 => (if 0 ≤ bt407.1 then (if bt407.1 < 17 then ((some (([bt (⟨#[32, 10, 48, 97, 45, 110, 44, 58, 93, 255, 40, 120, 126, 49, 128, 225, 59]⟩ : ByteArray) bt407.1] : List Int) : List Int)).bind fun y411 => (if bt403.1 = (a1.size : Int) then (zC_.j0 k a1 bt403.1 (strOfNums y411) true s0_0 bt407.2.1 bt407.2.2.1 bt407.2.2.2) else ((zK_.f s0_0 bt407.2.1 bt407.2.2.1 bt407.2.2.2 3).bind fun bt414 => (zC_.j0 k a1 bt403.1 (strOfNums y411) bt414.1 s0_0 bt414.2.1 bt414.2.2.1 bt414.2.2.2)))) else (none)) else (none)))) = some (r1, r2, r3, r4) := h
 clear h
 obtain ⟨⟨t403, t404, t405, t406⟩, A3, H⟩ := OB H
 try dsimp only at H
 replace A3 := AM A3
 obtain ⟨⟨t407, t408, t409, t410⟩, A4, H⟩ := OB H
 try dsimp only at H
 replace A4 := AM A4
 by_cases c5 : 0 ≤ t407
 ·
  rw [if_pos c5] at H
  have c5b0 : decide (0 ≤ t407) = true := decide_eq_true c5
  clear c5
  by_cases c6 : t407 < 17
  ·
   rw [if_pos c6] at H
   have c6b0 : decide (t407 < 17) = true := decide_eq_true c6
   clear c6
   obtain ⟨y411, hy411⟩ : ∃ y_ : List Int, y_ = (([bt (⟨#[32, 10, 48, 97, 45, 110, 44, 58, 93, 255, 40, 120, 126, 49, 128, 225, 59]⟩ : ByteArray) t407] : List Int)) := ⟨_, rfl⟩
   replace H : (if t403 = (a1.size : Int) then (zC_.j0 k a1 t403 (strOfNums y411) true s0_0 t408 t409 t410) else ((zK_.f s0_0 t408 t409 t410 3).bind fun bt414 => (zC_.j0 k a1 t403 (strOfNums y411) bt414.1 s0_0 bt414.2.1 bt414.2.2.1 bt414.2.2.2))) = some (r1, r2, r3, r4) := by first | (rw [hy411]; with_reducible exact H) | (have H2_ := (Option.bind_some _ _).symm.trans H; rw [hy411]; with_reducible exact H2_) | (have H2_ := (Option.bind_some _ _).symm.trans H; with_reducible exact H2_) | with_reducible exact H | (rw [hy411]; exact H) | exact H
   have Ny411 := AM hy411
   clear hy411
   have HC8 := AM H
   clear H
   go_enter Try.func65, Try.ntmps65
   go_upto_region 3 with (first | (go_at_call 64; (with_reducible refine (zI_.calls g s0_0 s0_1 s0_2 s0_3 (wrap64 ((a1.size : Int) + 1)) t403 t404 t405 t406 w0 _ ?side1 ?side2 A3.out).mono ?_); (case side1 => exact zA_); (case side2 => exact belg_ (zh_.ge HI0.out)); rintro e w9 ⟨rfl, hi, hb, hk⟩; replace HK := AM (kk_ w hk); replace HB := AM hb; replace HI0 := AM hi; (try clear hb); (try clear hk); (try clear hi)) | (go_at_call 64; (with_reducible refine (zI_.calls g s0_0 t404 t405 t406 17 t407 t408 t409 t410 w0 _ ?side1 ?side2 A4.out).mono ?_); (case side1 => exact zA_); (case side2 => exact belg_ (zh_.ge HI0.out)); rintro e w10 ⟨rfl, hi, hb, hk⟩; replace HK := AM (kk_ w hk); replace HB := AM hb; replace HI0 := AM hi; (try clear hb); (try clear hk); (try clear hi); have p7 : 0 ≤ (t407 : Int) := of_decide_eq_true asm_; have q7 : t407 < (17 : Int) := of_decide_eq_true asm_; have hx7 := bt_at (⟨#[32, 10, 48, 97, 45, 110, 44, 58, 93, 255, 40, 120, 126, 49, 128, 225, 59]⟩ : ByteArray) t407; replace p7 := eq_true p7; replace q7 := eq_true q7) | ((with_reducible refine z6_ (N := 15) rfl ?_); refine Kd.R_lit (Kd.int .u8) _ 5 ?hgL1 (N := 15) ?hdL1 (xs := ([bt (⟨#[32, 10, 48, 97, 45, 110, 44, 58, 93, 255, 40, 120, 126, 49, 128, 225, 59]⟩ : ByteArray) t407] : List Int)) (inner := [.int .u8 (bt (⟨#[32, 10, 48, 97, 45, 110, 44, 58, 93, 255, 40, 120, 126, 49, 128, 225, 59]⟩ : ByteArray) t407)]) (ok := fun _ => True) (okp := fun _ => True) ?hrL1 ?hpL1 (fun _ hk => hk) trivial (Below.refl _ _) (Nat.le_refl _) (by simp) ?_; (case hdL1 => rfl); (case hgL1 => rfl); (case hrL1 => first | (go_simp; done) | (go_simp; rfl)); (case hpL1 => exact (Reps.one (show Kd.M (Kd.int .u8) _ _ _ (bt (⟨#[32, 10, 48, 97, 45, 110, 44, 58, 93, 255, 40, 120, 126, 49, 128, 225, 59]⟩ : ByteArray) t407) [.int .u8 (bt (⟨#[32, 10, 48, 97, 45, 110, 44, 58, 93, 255, 40, 120, 126, 49, 128, 225, 59]⟩ : ByteArray) t407)] from rfl) (Reps.none _ _))); intro v412 w11 ho12 hb hg_ hnew_; clear hg_ hnew_; (first | rw [← Ny411.out] at ho12 | (simp only [Int.reduceToNat] at ho12; rw [← Ny411.out] at ho12)); have HO413 := AM (Kd.yE_ ho12 (zF_ (w := w) (g := g) (row := none) kp_)); replace HK := AM (kb_ w g hb); replace HB := AM (zg_ (belg_ (zh_.ge HI0.out)) hb); replace HI0 := AM (zh_.below zA_ hb); clear hb ho12; have hcv13 := xf_ (P := Try.prog) Try.underlying22 Try.underlying5 Try.underlying9 (Kd.xK_ HO413.out)))
   repeat (go_quiet (first | (go_at_call 64; (with_reducible refine (zI_.calls g s0_0 s0_1 s0_2 s0_3 (wrap64 ((a1.size : Int) + 1)) t403 t404 t405 t406 w0 _ ?side1 ?side2 A3.out).mono ?_); (case side1 => exact zA_); (case side2 => exact belg_ (zh_.ge HI0.out)); rintro e w9 ⟨rfl, hi, hb, hk⟩; replace HK := AM (kk_ w hk); replace HB := AM hb; replace HI0 := AM hi; (try clear hb); (try clear hk); (try clear hi)) | (go_at_call 64; (with_reducible refine (zI_.calls g s0_0 t404 t405 t406 17 t407 t408 t409 t410 w0 _ ?side1 ?side2 A4.out).mono ?_); (case side1 => exact zA_); (case side2 => exact belg_ (zh_.ge HI0.out)); rintro e w10 ⟨rfl, hi, hb, hk⟩; replace HK := AM (kk_ w hk); replace HB := AM hb; replace HI0 := AM hi; (try clear hb); (try clear hk); (try clear hi)) | ((with_reducible refine z6_ (N := 15) rfl ?_); refine Kd.R_lit (Kd.int .u8) _ 5 ?hgL2 (N := 15) ?hdL2 (xs := ([bt (⟨#[32, 10, 48, 97, 45, 110, 44, 58, 93, 255, 40, 120, 126, 49, 128, 225, 59]⟩ : ByteArray) t407] : List Int)) (inner := [.int .u8 (bt (⟨#[32, 10, 48, 97, 45, 110, 44, 58, 93, 255, 40, 120, 126, 49, 128, 225, 59]⟩ : ByteArray) t407)]) (ok := fun _ => True) (okp := fun _ => True) ?hrL2 ?hpL2 (fun _ hk => hk) trivial (Below.refl _ _) (Nat.le_refl _) (by simp) ?_; (case hdL2 => rfl); (case hgL2 => rfl); (case hrL2 => first | (go_simp; done) | (go_simp; rfl)); (case hpL2 => exact (Reps.one (show Kd.M (Kd.int .u8) _ _ _ (bt (⟨#[32, 10, 48, 97, 45, 110, 44, 58, 93, 255, 40, 120, 126, 49, 128, 225, 59]⟩ : ByteArray) t407) [.int .u8 (bt (⟨#[32, 10, 48, 97, 45, 110, 44, 58, 93, 255, 40, 120, 126, 49, 128, 225, 59]⟩ : ByteArray) t407)] from rfl) (Reps.none _ _))); intro v412 w11 ho12 hb hg_ hnew_; clear hg_ hnew_; (first | rw [← Ny411.out] at ho12 | (simp only [Int.reduceToNat] at ho12; rw [← Ny411.out] at ho12)); have HO413 := AM (Kd.yE_ ho12 (zF_ (w := w) (g := g) (row := none) kp_)); replace HK := AM (kb_ w g hb); replace HB := AM (zg_ (belg_ (zh_.ge HI0.out)) hb); replace HI0 := AM (zh_.below zA_ hb); clear hb ho12; have hcv13 := xf_ (P := Try.prog) Try.underlying22 Try.underlying5 Try.underlying9 (Kd.xK_ HO413.out))); go_upto_region 3 with (first | (go_at_call 64; (with_reducible refine (zI_.calls g s0_0 s0_1 s0_2 s0_3 (wrap64 ((a1.size : Int) + 1)) t403 t404 t405 t406 w0 _ ?side1 ?side2 A3.out).mono ?_); (case side1 => exact zA_); (case side2 => exact belg_ (zh_.ge HI0.out)); rintro e w9 ⟨rfl, hi, hb, hk⟩; replace HK := AM (kk_ w hk); replace HB := AM hb; replace HI0 := AM hi; (try clear hb); (try clear hk); (try clear hi)) | (go_at_call 64; (with_reducible refine (zI_.calls g s0_0 t404 t405 t406 17 t407 t408 t409 t410 w0 _ ?side1 ?side2 A4.out).mono ?_); (case side1 => exact zA_); (case side2 => exact belg_ (zh_.ge HI0.out)); rintro e w10 ⟨rfl, hi, hb, hk⟩; replace HK := AM (kk_ w hk); replace HB := AM hb; replace HI0 := AM hi; (try clear hb); (try clear hk); (try clear hi)) | ((with_reducible refine z6_ (N := 15) rfl ?_); refine Kd.R_lit (Kd.int .u8) _ 5 ?hgL3 (N := 15) ?hdL3 (xs := ([bt (⟨#[32, 10, 48, 97, 45, 110, 44, 58, 93, 255, 40, 120, 126, 49, 128, 225, 59]⟩ : ByteArray) t407] : List Int)) (inner := [.int .u8 (bt (⟨#[32, 10, 48, 97, 45, 110, 44, 58, 93, 255, 40, 120, 126, 49, 128, 225, 59]⟩ : ByteArray) t407)]) (ok := fun _ => True) (okp := fun _ => True) ?hrL3 ?hpL3 (fun _ hk => hk) trivial (Below.refl _ _) (Nat.le_refl _) (by simp) ?_; (case hdL3 => rfl); (case hgL3 => rfl); (case hrL3 => first | (go_simp; done) | (go_simp; rfl)); (case hpL3 => exact (Reps.one (show Kd.M (Kd.int .u8) _ _ _ (bt (⟨#[32, 10, 48, 97, 45, 110, 44, 58, 93, 255, 40, 120, 126, 49, 128, 225, 59]⟩ : ByteArray) t407) [.int .u8 (bt (⟨#[32, 10, 48, 97, 45, 110, 44, 58, 93, 255, 40, 120, 126, 49, 128, 225, 59]⟩ : ByteArray) t407)] from rfl) (Reps.none _ _))); intro v412 w11 ho12 hb hg_ hnew_; clear hg_ hnew_; (first | rw [← Ny411.out] at ho12 | (simp only [Int.reduceToNat] at ho12; rw [← Ny411.out] at ho12)); have HO413 := AM (Kd.yE_ ho12 (zF_ (w := w) (g := g) (row := none) kp_)); replace HK := AM (kb_ w g hb); replace HB := AM (zg_ (belg_ (zh_.ge HI0.out)) hb); replace HI0 := AM (zh_.below zA_ hb); clear hb ho12; have hcv13 := xf_ (P := Try.prog) Try.underlying22 Try.underlying5 Try.underlying9 (Kd.xK_ HO413.out))))
   (try simp only [Act.put, List.setIfInBounds_toArray, List.set_cons_zero, List.set_cons_succ])
   go_cut [24] (fun v24 wc => ∃ (kq : Nat) (x24_7 : Bool) (x1001_7 : Int) (x1002_7 : Int) (x1003_7 : Int), v24 = .bool x24_7 ∧ zd_ (zC_.j0 kq a1 t403 (strOfNums y411) x24_7 s0_0 x1001_7 x1002_7 x1003_7 = some (r1, r2, r3, r4)) ∧ zd_ (kq ≤ k) ∧ zd_ (zh_ w0 wc g s0_0 x1001_7 x1002_7 x1003_7) ∧ zd_ (zs_ w wc g none) ∧ zd_ (Below w0.heap.size w0 wc))
   case first =>
    have H := HC8.out
    clear HC8
    by_cases c14 : t403 = (a1.size : Int)
    ·
     rw [if_pos c14] at H
     have c14b0 : (t403 == (a1.size : Int)) = true := beq_iff_eq.mpr c14
     have c14b1 : (t403 != (a1.size : Int)) = false := bne_eq_false_iff_eq.mpr c14
     clear c14
     (first | rw [c14b0] | (simp only [i64_w, i32_w]; rw [c14b0]) | skip)
     have H' := AM H
     clear H
     go_wp2
     repeat (go_quiet (fail); try go_wp2)
     go_meet
     case rel => exact ⟨_, (true), (t408), (t409), (t410), re_, H', ⟨by first | omega | exact Nat.le_refl _⟩, ⟨zA_⟩, ⟨kp_⟩, ⟨belg_ (zh_.ge HI0.out)⟩⟩
    ·
     rw [if_neg c14] at H
     have c14b0 : (t403 == (a1.size : Int)) = false := beq_eq_false_iff_ne.mpr c14
     have c14b1 : (t403 != (a1.size : Int)) = true := bne_iff_ne.mpr c14
     (first | rw [c14b0] | (simp only [i64_w, i32_w]; rw [c14b0]) | skip)
     obtain ⟨⟨t414, t415, t416, t417⟩, A15, H⟩ := OB H
     try dsimp only at H
     replace A15 := AM A15
     have H' := AM H
     clear H
     go_wp2_with (first | (go_at_call 68; (with_reducible refine (zK_.calls g s0_0 t408 t409 t410 3 t414 t415 t416 t417 w0 _ ?side1 ?side2 A15.out).mono ?_); (case side1 => exact zA_); (case side2 => exact belg_ (zh_.ge HI0.out)); rintro e w16 ⟨rfl, hi, hb, hk⟩; replace HO413 := AM (Kd.z9_ (Kd.xA_ (zh_.apart (show zh_ w0 _ g s0_0 t408 t409 t410 from zA_) (ro_ HO413.out) (by decide)) hk (fun _ h => h.2)) (fun _ h => h.1)); replace HK := AM (kk_ w hk); replace HB := AM hb; replace HI0 := AM hi; (try clear hb); (try clear hk); (try clear hi)))
     repeat (go_quiet (first | (go_at_call 68; (with_reducible refine (zK_.calls g s0_0 t408 t409 t410 3 t414 t415 t416 t417 w0 _ ?side1 ?side2 A15.out).mono ?_); (case side1 => exact zA_); (case side2 => exact belg_ (zh_.ge HI0.out)); rintro e w16 ⟨rfl, hi, hb, hk⟩; replace HO413 := AM (Kd.z9_ (Kd.xA_ (zh_.apart (show zh_ w0 _ g s0_0 t408 t409 t410 from zA_) (ro_ HO413.out) (by decide)) hk (fun _ h => h.2)) (fun _ h => h.1)); replace HK := AM (kk_ w hk); replace HB := AM hb; replace HI0 := AM hi; (try clear hb); (try clear hk); (try clear hi))); try go_wp2_with (first | (go_at_call 68; (with_reducible refine (zK_.calls g s0_0 t408 t409 t410 3 t414 t415 t416 t417 w0 _ ?side1 ?side2 A15.out).mono ?_); (case side1 => exact zA_); (case side2 => exact belg_ (zh_.ge HI0.out)); rintro e w16 ⟨rfl, hi, hb, hk⟩; replace HO413 := AM (Kd.z9_ (Kd.xA_ (zh_.apart (show zh_ w0 _ g s0_0 t408 t409 t410 from zA_) (ro_ HO413.out) (by decide)) hk (fun _ h => h.2)) (fun _ h => h.1)); replace HK := AM (kk_ w hk); replace HB := AM hb; replace HI0 := AM hi; (try clear hb); (try clear hk); (try clear hi))))
     go_meet
     case rel => exact ⟨_, (t414), (t415), (t416), (t417), re_, H', ⟨by first | omega | exact Nat.le_refl _⟩, ⟨zA_⟩, ⟨kp_⟩, ⟨belg_ (zh_.ge HI0.out)⟩⟩
   case rest =>
    clear HC8
    (try clear c5b0); (try clear c6b0); (try clear p7); (try clear q7); (try clear hx7); (try clear hcv13); (try clear c14); (try clear c14b0); (try clear c14b1)
    obtain ⟨kq, x24_7, x1001_7, x1002_7, x1003_7, rfl, HA, HJ7, HI0, HK, HB⟩ := hcut
    cases kq with
    | zero => exact absurd HA.out (by simp [zC_.j0])
    | succ kj7 =>
     have H := HA.out
     clear HA
     simp only [zC_.j0] at H
     by_cases c17 : x24_7 = true
     ·
      subst c17
      rw [if_pos rfl] at H
      by_cases c18 : 0 ≤ t403
      ·
       rw [if_pos c18] at H
       have c18b0 := eq_true c18
       have c18b1 : decide (0 ≤ t403) = true := decide_eq_true c18
       clear c18
       by_cases c19 : t403 ≤ (a1.size : Int)
       ·
        rw [if_pos c19] at H
        have c19b0 := eq_true c19
        have c19b1 : decide (t403 ≤ (a1.size : Int)) = true := decide_eq_true c19
        clear c19
        by_cases c20 : (a1.extract 0 (t403 : Int).toNat).size + (strOfNums y411).size ≤ 9223372036854775807
        ·
         rw [if_pos c20] at H
         have c20b0 := eq_true c20
         have c20b1 : decide ((a1.extract 0 (t403 : Int).toNat).size + (strOfNums y411).size ≤ 9223372036854775807) = true := decide_eq_true c20
         try have c20b2 : (9223372036854775807 < (a1.extract 0 (t403 : Int).toNat).size + (strOfNums y411).size) = False := eq_false (Nat.not_lt.2 c20)
         have c21b0 := eq_true (of_decide_eq_true asm_ : 0 ≤ t403)
         have c22b0 := eq_true (of_decide_eq_true asm_ : t403 ≤ (a1.size : Int))
         by_cases c23 : ((a1.extract 0 (t403 : Int).toNat) ++ (strOfNums y411)).size + (a1.extract (t403 : Int).toNat a1.size).size ≤ 9223372036854775807
         ·
          rw [if_pos c23] at H
          have c23b0 := eq_true c23
          have c23b1 : decide (((a1.extract 0 (t403 : Int).toNat) ++ (strOfNums y411)).size + (a1.extract (t403 : Int).toNat a1.size).size ≤ 9223372036854775807) = true := decide_eq_true c23
          try have c23b2 : (9223372036854775807 < ((a1.extract 0 (t403 : Int).toNat) ++ (strOfNums y411)).size + (a1.extract (t403 : Int).toNat a1.size).size) = False := eq_false (Nat.not_lt.2 c23)
          try have c23b3 : (9223372036854775807 < a1.extract 0 (t403 : Int).toNat.size + strOfNums y411.size + a1.extract (t403 : Int).toNat a1.size.size) = False := eq_false (Nat.not_lt.2 (by have z := c23; simp only [ByteArray.size_append] at z; exact z))
          simp only [Option.some.injEq, Prod.mk.injEq] at H
          obtain ⟨rfl, rfl, rfl, rfl⟩ := H
          go_wp2
          repeat (go_quiet (fail); try go_wp2)
          go_ret
          exact ⟨ri_, zA_, belg_ (zh_.ge HI0.out), kp_⟩
         ·
          rw [if_neg c23] at H
          exact absurd H (by simp)
        ·
         rw [if_neg c20] at H
         exact absurd H (by simp)
       ·
        rw [if_neg c19] at H
        exact absurd H (by simp)
      ·
       rw [if_neg c18] at H
       exact absurd H (by simp)
     ·
      replace c17 := Bool.eq_false_iff.mpr c17
      subst c17
      rw [if_neg (show ¬ (false = true) by decide)] at H
      obtain ⟨⟨t418, t419, t420, t421⟩, A24, H⟩ := OB H
      try dsimp only at H
      replace A24 := AM A24
      by_cases c25 : t418 = true
      ·
       subst c25
       rw [if_pos rfl] at H
       by_cases c26 : 0 ≤ t403
       ·
        rw [if_pos c26] at H
        have c26b0 := eq_true c26
        have c26b1 : decide (0 ≤ t403) = true := decide_eq_true c26
        clear c26
        by_cases c27 : t403 ≤ (a1.size : Int)
        ·
         rw [if_pos c27] at H
         have c27b0 := eq_true c27
         have c27b1 : decide (t403 ≤ (a1.size : Int)) = true := decide_eq_true c27
         clear c27
         obtain ⟨ji28, hji28⟩ : ∃ j_ : Int, (wrap64 (t403 + 1)) = j_ := ⟨_, rfl⟩
         replace H : (if 0 ≤ (ji28) then (if (ji28) ≤ (a1.size : Int) then (if (a1.extract 0 (t403 : Int).toNat).size + (a1.extract ((ji28) : Int).toNat a1.size).size ≤ 9223372036854775807 then (some ((a1.extract 0 (t403 : Int).toNat) ++ (a1.extract ((ji28) : Int).toNat a1.size), t419, t420, t421)) else (none)) else (none)) else (none)) = some (r1, r2, r3, r4) := by first | (rw [hji28] at H; exact H) | (simp only [hji28] at H ⊢; exact H)
         (try rw [hji28] at A24)
         have hji28w : (IntKind.i64.wrap (t403 + 1)) = ji28 := (i64_w _).trans hji28
         by_cases c29 : 0 ≤ (ji28)
         ·
          rw [if_pos c29] at H
          have c29b0 := eq_true c29
          have c29b1 : decide (0 ≤ (ji28)) = true := decide_eq_true c29
          clear c29
          by_cases c30 : (ji28) ≤ (a1.size : Int)
          ·
           rw [if_pos c30] at H
           have c30b0 := eq_true c30
           have c30b1 : decide ((ji28) ≤ (a1.size : Int)) = true := decide_eq_true c30
           clear c30
           by_cases c31 : (a1.extract 0 (t403 : Int).toNat).size + (a1.extract ((ji28) : Int).toNat a1.size).size ≤ 9223372036854775807
           ·
            rw [if_pos c31] at H
            have c31b0 := eq_true c31
            have c31b1 : decide ((a1.extract 0 (t403 : Int).toNat).size + (a1.extract ((ji28) : Int).toNat a1.size).size ≤ 9223372036854775807) = true := decide_eq_true c31
            try have c31b2 : (9223372036854775807 < (a1.extract 0 (t403 : Int).toNat).size + (a1.extract ((ji28) : Int).toNat a1.size).size) = False := eq_false (Nat.not_lt.2 c31)
            simp only [Option.some.injEq, Prod.mk.injEq] at H
            obtain ⟨rfl, rfl, rfl, rfl⟩ := H
            go_wp2_with (first | (go_at_call 68; (with_reducible refine (zK_.calls g s0_0 x1001_7 x1002_7 x1003_7 2 true t419 t420 t421 w0 _ ?side1 ?side2 A24.out).mono ?_); (case side1 => exact zA_); (case side2 => exact belg_ (zh_.ge HI0.out)); rintro e w32 ⟨rfl, hi, hb, hk⟩; replace HK := AM (kk_ w hk); replace HB := AM hb; replace HI0 := AM hi; (try clear hb); (try clear hk); (try clear hi)))
            repeat (go_quiet (first | (go_at_call 68; (with_reducible refine (zK_.calls g s0_0 x1001_7 x1002_7 x1003_7 2 true t419 t420 t421 w0 _ ?side1 ?side2 A24.out).mono ?_); (case side1 => exact zA_); (case side2 => exact belg_ (zh_.ge HI0.out)); rintro e w32 ⟨rfl, hi, hb, hk⟩; replace HK := AM (kk_ w hk); replace HB := AM hb; replace HI0 := AM hi; (try clear hb); (try clear hk); (try clear hi))); try go_wp2_with (first | (go_at_call 68; (with_reducible refine (zK_.calls g s0_0 x1001_7 x1002_7 x1003_7 2 true t419 t420 t421 w0 _ ?side1 ?side2 A24.out).mono ?_); (case side1 => exact zA_); (case side2 => exact belg_ (zh_.ge HI0.out)); rintro e w32 ⟨rfl, hi, hb, hk⟩; replace HK := AM (kk_ w hk); replace HB := AM hb; replace HI0 := AM hi; (try clear hb); (try clear hk); (try clear hi))))
            go_ret
            exact ⟨by first | rfl | (simp [ym_, yl_] <;> rfl) | (simp only [← hji28]; first | rfl | (simp [ym_, yl_] <;> rfl)) | (simp [*, ym_, yl_] <;> rfl), zA_, belg_ (zh_.ge HI0.out), kp_⟩
           ·
            rw [if_neg c31] at H
            exact absurd H (by simp)
          ·
           rw [if_neg c30] at H
           exact absurd H (by simp)
         ·
          rw [if_neg c29] at H
          exact absurd H (by simp)
        ·
         rw [if_neg c27] at H
         exact absurd H (by simp)
       ·
        rw [if_neg c26] at H
        exact absurd H (by simp)
      ·
       replace c25 := Bool.eq_false_iff.mpr c25
       subst c25
       rw [if_neg (show ¬ (false = true) by decide)] at H
       by_cases c33 : 0 ≤ t403
       ·
        rw [if_pos c33] at H
        have c33b0 := eq_true c33
        have c33b1 : decide (0 ≤ t403) = true := decide_eq_true c33
        clear c33
        by_cases c34 : t403 ≤ (a1.size : Int)
        ·
         rw [if_pos c34] at H
         have c34b0 := eq_true c34
         have c34b1 : decide (t403 ≤ (a1.size : Int)) = true := decide_eq_true c34
         clear c34
         by_cases c35 : (a1.extract 0 (t403 : Int).toNat).size + (strOfNums y411).size ≤ 9223372036854775807
         ·
          rw [if_pos c35] at H
          have c35b0 := eq_true c35
          have c35b1 : decide ((a1.extract 0 (t403 : Int).toNat).size + (strOfNums y411).size ≤ 9223372036854775807) = true := decide_eq_true c35
          try have c35b2 : (9223372036854775807 < (a1.extract 0 (t403 : Int).toNat).size + (strOfNums y411).size) = False := eq_false (Nat.not_lt.2 c35)
          obtain ⟨ji36, hji36⟩ : ∃ j_ : Int, (wrap64 (t403 + 1)) = j_ := ⟨_, rfl⟩
          replace H : (if 0 ≤ (ji36) then (if (ji36) ≤ (a1.size : Int) then (if ((a1.extract 0 (t403 : Int).toNat) ++ (strOfNums y411)).size + (a1.extract ((ji36) : Int).toNat a1.size).size ≤ 9223372036854775807 then (some (((a1.extract 0 (t403 : Int).toNat) ++ (strOfNums y411)) ++ (a1.extract ((ji36) : Int).toNat a1.size), t419, t420, t421)) else (none)) else (none)) else (none)) = some (r1, r2, r3, r4) := by first | (rw [hji36] at H; exact H) | (simp only [hji36] at H ⊢; exact H)
          (try rw [hji36] at A24)
          have hji36w : (IntKind.i64.wrap (t403 + 1)) = ji36 := (i64_w _).trans hji36
          by_cases c37 : 0 ≤ (ji36)
          ·
           rw [if_pos c37] at H
           have c37b0 := eq_true c37
           have c37b1 : decide (0 ≤ (ji36)) = true := decide_eq_true c37
           clear c37
           by_cases c38 : (ji36) ≤ (a1.size : Int)
           ·
            rw [if_pos c38] at H
            have c38b0 := eq_true c38
            have c38b1 : decide ((ji36) ≤ (a1.size : Int)) = true := decide_eq_true c38
            clear c38
            by_cases c39 : ((a1.extract 0 (t403 : Int).toNat) ++ (strOfNums y411)).size + (a1.extract ((ji36) : Int).toNat a1.size).size ≤ 9223372036854775807
            ·
             rw [if_pos c39] at H
             have c39b0 := eq_true c39
             have c39b1 : decide (((a1.extract 0 (t403 : Int).toNat) ++ (strOfNums y411)).size + (a1.extract ((ji36) : Int).toNat a1.size).size ≤ 9223372036854775807) = true := decide_eq_true c39
             try have c39b2 : (9223372036854775807 < ((a1.extract 0 (t403 : Int).toNat) ++ (strOfNums y411)).size + (a1.extract ((ji36) : Int).toNat a1.size).size) = False := eq_false (Nat.not_lt.2 c39)
             try have c39b3 : (9223372036854775807 < a1.extract 0 (t403 : Int).toNat.size + strOfNums y411.size + a1.extract ((ji36) : Int).toNat a1.size.size) = False := eq_false (Nat.not_lt.2 (by have z := c39; simp only [ByteArray.size_append] at z; exact z))
             simp only [Option.some.injEq, Prod.mk.injEq] at H
             obtain ⟨rfl, rfl, rfl, rfl⟩ := H
             go_wp2_with (first | (go_at_call 68; (with_reducible refine (zK_.calls g s0_0 x1001_7 x1002_7 x1003_7 2 false t419 t420 t421 w0 _ ?side1 ?side2 A24.out).mono ?_); (case side1 => exact zA_); (case side2 => exact belg_ (zh_.ge HI0.out)); rintro e w40 ⟨rfl, hi, hb, hk⟩; replace HK := AM (kk_ w hk); replace HB := AM hb; replace HI0 := AM hi; (try clear hb); (try clear hk); (try clear hi)))
             repeat (go_quiet (first | (go_at_call 68; (with_reducible refine (zK_.calls g s0_0 x1001_7 x1002_7 x1003_7 2 false t419 t420 t421 w0 _ ?side1 ?side2 A24.out).mono ?_); (case side1 => exact zA_); (case side2 => exact belg_ (zh_.ge HI0.out)); rintro e w40 ⟨rfl, hi, hb, hk⟩; replace HK := AM (kk_ w hk); replace HB := AM hb; replace HI0 := AM hi; (try clear hb); (try clear hk); (try clear hi))); try go_wp2_with (first | (go_at_call 68; (with_reducible refine (zK_.calls g s0_0 x1001_7 x1002_7 x1003_7 2 false t419 t420 t421 w0 _ ?side1 ?side2 A24.out).mono ?_); (case side1 => exact zA_); (case side2 => exact belg_ (zh_.ge HI0.out)); rintro e w40 ⟨rfl, hi, hb, hk⟩; replace HK := AM (kk_ w hk); replace HB := AM hb; replace HI0 := AM hi; (try clear hb); (try clear hk); (try clear hi))))
             go_ret
             exact ⟨by first | rfl | (simp [ym_, yl_] <;> rfl) | (simp only [← hji36]; first | rfl | (simp [ym_, yl_] <;> rfl)) | (simp [*, ym_, yl_] <;> rfl), zA_, belg_ (zh_.ge HI0.out), kp_⟩
            ·
             rw [if_neg c39] at H
             exact absurd H (by simp)
           ·
            rw [if_neg c38] at H
            exact absurd H (by simp)
          ·
           rw [if_neg c37] at H
           exact absurd H (by simp)
         ·
          rw [if_neg c35] at H
          exact absurd H (by simp)
        ·
         rw [if_neg c34] at H
         exact absurd H (by simp)
       ·
        rw [if_neg c33] at H
        exact absurd H (by simp)
  ·
   rw [if_neg c6] at H
   exact absurd H (by simp)
 ·
  rw [if_neg c5] at H
  exact absurd H (by simp)
/-! ### z8_: function 13 -/
def z8_.f (k : Nat) (l0 : List Int) : Option (ByteArray) := (zL_.f k l0).bind fun bt422 => ((zc_.f k bt422.1 bt422.2.1 bt422.2.2.1 bt422.2.2.2).bind fun bt427 => ((z4_.f k bt427.1).bind fun t433 => ((zI_.f bt422.1 bt427.2.1 bt427.2.2.1 bt427.2.2.2 5).bind fun bt434 => (if bt434.1 = 0 then ((zC_.f k bt422.1 bt434.2.1 bt434.2.2.1 bt434.2.2.2 t433).bind fun bt438 => (some bt438.1)) else (if bt434.1 = 1 then ((zI_.f bt422.1 bt434.2.1 bt434.2.2.1 bt434.2.2.2 (wrap64 ((t433.size : Int) + 1))).bind fun bt442 => (if 0 ≤ bt442.1 then (if bt442.1 ≤ (t433.size : Int) then (some (t433.extract 0 (bt442.1 : Int).toNat)) else (none)) else (none))) else (some t433))))))
theorem z8_.mono : ∀ a0 k, LeO (z8_.f k a0) (z8_.f (k + 1) a0) := by
 intro a0 k
 unfold z8_.f
 repeat' with_reducible first | exact z4_.mono _ _ | exact zL_.mono _ _ | exact zc_.mono _ _ _ _ _ | exact zC_.mono _ _ _ _ _ _ | exact LeO.refl _ | exact LeO.none _ | refine LeO.ite ?_ ?_ | refine LeO.bind ?_ (fun _ => ?_)
theorem z8_.calls (k : Nat) (A0 : Option Addr) (c0 : Nat) (l0 : List Int) (r : ByteArray) (w : World) (hr0 : Kd.C (Kd.int .u8) w A0 l0.length l0) (hc0 : l0.length ≤ c0) (h : z8_.f k l0 = some r) :
 Calls Try.prog 13 #[.slice A0 l0.length c0] w fun e w' => e = .returned (.string r) ∧ Below w.heap.size w w' := by
 have HR0 := AM hr0
 have HC0 := AM hc0
 clear hr0 hc0
 have HB := AM (Below.refl w.heap.size w)
 have H : ((zL_.f k l0).bind fun bt422 => ((zc_.f k bt422.1 bt422.2.1 bt422.2.2.1 bt422.2.2.2).bind fun bt427 => ((z4_.f k bt427.1).bind fun t433 => ((zI_.f bt422.1 bt427.2.1 bt427.2.2.1 bt427.2.2.2 5).bind fun bt434 => (if bt434.1 = 0 then ((zC_.f k bt422.1 bt434.2.1 bt434.2.2.1 bt434.2.2.2 t433).bind fun bt438 => (some bt438.1)) else (if bt434.1 = 1 then ((zI_.f bt422.1 bt434.2.1 bt434.2.2.1 bt434.2.2.2 (wrap64 ((t433.size : Int) + 1))).bind fun bt442 => (if 0 ≤ bt442.1 then (if bt442.1 ≤ (t433.size : Int) then (some (t433.extract 0 (bt442.1 : Int).toNat)) else (none)) else (none))) else (some t433))))))) = some r := h
 clear h
 obtain ⟨⟨t422, t423, t424, t425⟩, A2, H⟩ := OB H
 try dsimp only at H
 replace A2 := AM A2
 obtain ⟨⟨t427, t430, t431, t432⟩, A3, H⟩ := OB H
 try dsimp only at H
 replace A3 := AM A3
 obtain ⟨t433, A4, H⟩ := OB H
 try dsimp only at H
 replace A4 := AM A4
 obtain ⟨⟨t434, t435, t436, t437⟩, A5, H⟩ := OB H
 try dsimp only at H
 replace A5 := AM A5
 by_cases c6 : t434 = 0
 ·
  rw [if_pos c6] at H
  have c6b0 : (t434 == 0) = true := beq_iff_eq.mpr c6
  have c6b1 : (t434 != 0) = false := bne_eq_false_iff_eq.mpr c6
  clear c6
  obtain ⟨⟨t438, t439, t440, t441⟩, A7, H⟩ := OB H
  try dsimp only at H
  replace A7 := AM A7
  obtain rfl := Option.some.inj H
  go_enter Try.func13, Try.ntmps13
  go_wp2_with (first | ((with_reducible refine zl_ (f := 52) rfl ?_); refine gl_ (some 6) Try.func52 #[.slice A0 l0.length c0] ?_; (with_reducible refine (zL_.calls k _ _ l0 t422 t423 t424 t425 w _ ?side1 ?side2 ?side3 A2.out).mono ?_); (case side1 => exact bel_); (case side2 => exact HR0.out); (case side3 => exact HC0.out); rintro e w8 ⟨g426, rfl, hi, hb, hb2⟩; refine ⟨_, rfl, ?_⟩; replace HB := AM hb; have HI426 := AM hi; (try clear hb); (try clear hb2); (try clear hi)) | ((with_reducible refine zl_ (f := 53) rfl ?_); refine gl_ (some 8) Try.func53 #[.pointer (some ⟨g426, 0, none⟩)] ?_; (with_reducible refine (zc_.calls k g426 t422 t423 t424 t425 t427 t430 t431 t432 w _ ?side1 ?side2 A3.out).mono ?_); (case side1 => exact zA_); (case side2 => exact belg_ (zh_.ge HI426.out)); rintro e w9 ⟨v428, rfl, ho0, hi, hb, hk⟩; refine ⟨_, rfl, ?_⟩; have HO429 := AM (Kd.xh_ ho0 (zj_ (belg_ (zh_.ge HI426.out)))); replace HB := AM hb; replace HI426 := AM hi; (try clear hb); (try clear hk); (try clear hi); (try clear ho0); obtain ⟨Ao10, co10, eo10⟩ := Kd.xv_ HO429.out; subst eo10) | ((with_reducible refine zl_ (f := 10) rfl ?_); refine gl_ (some 9) Try.func10 #[.slice Ao10 t427.length co10] ?_; (with_reducible refine (z4_.calls k _ _ t427 t433 _ ?side1 ?side2 A4.out).mono ?_); (case side1 => repeat (first | exact (Kd.ys_ HO429.out).2.2 | (with_reducible refine Kd.yx_ ?_ _) | (with_reducible refine Kd.yw_ ?_ _) | (with_reducible refine Kd.yQ_ ?_))); (case side2 => exact (Kd.ys_ HO429.out).2.1); rintro e w11 ⟨rfl, hb⟩; refine ⟨_, rfl, ?_⟩; replace HO429 := AM (Kd.yB_ (ks_ HO429.out) hb); replace HB := AM (zg_ (belg_ (zh_.ge HI426.out)) hb); replace HI426 := AM (zh_.below zA_ hb); (try clear hb)) | ((with_reducible refine zl_ (f := 64) rfl ?_); refine gl_ (some 11) Try.func64 #[.pointer (some ⟨g426, 0, none⟩), .int .i64 5] ?_; (with_reducible refine (zI_.calls g426 t422 t430 t431 t432 5 t434 t435 t436 t437 w _ ?side1 ?side2 A5.out).mono ?_); (case side1 => exact zA_); (case side2 => exact belg_ (zh_.ge HI426.out)); rintro e w12 ⟨rfl, hi, hb, hk⟩; refine ⟨_, rfl, ?_⟩; replace HO429 := AM (Kd.zR_ (Kd.yT_ (zh_.apartS (show zh_ w _ g426 t422 t430 t431 t432 from zA_) (ks_ HO429.out) (by decide)) hk (fun _ h => h.2)) (fun _ h => h.1)); replace HB := AM hb; replace HI426 := AM hi; (try clear hb); (try clear hk); (try clear hi)) | ((with_reducible refine zl_ (f := 65) rfl ?_); refine gl_ (some 16) Try.func65 #[.pointer (some ⟨g426, 0, none⟩), .string t433] ?_; (with_reducible refine (zC_.calls k g426 t422 t435 t436 t437 t433 t438 t439 t440 t441 w _ ?side1 ?side2 A7.out).mono ?_); (case side1 => exact zA_); (case side2 => exact belg_ (zh_.ge HI426.out)); rintro e w13 ⟨rfl, hi, hb, hk⟩; refine ⟨_, rfl, ?_⟩; replace HO429 := AM (Kd.zR_ (Kd.yT_ (zh_.apartS (show zh_ w _ g426 t422 t435 t436 t437 from zA_) (ks_ HO429.out) (by decide)) hk (fun _ h => h.2)) (fun _ h => h.1)); replace HB := AM hb; replace HI426 := AM hi; (try clear hb); (try clear hk); (try clear hi)))
  go_ret
  exact ⟨ri_, belg_ (zh_.ge HI426.out)⟩
 ·
  rw [if_neg c6] at H
  have c6b0 : (t434 == 0) = false := beq_eq_false_iff_ne.mpr c6
  have c6b1 : (t434 != 0) = true := bne_iff_ne.mpr c6
  by_cases c14 : t434 = 1
  ·
   rw [if_pos c14] at H
   have c14b0 : (t434 == 1) = true := beq_iff_eq.mpr c14
   have c14b1 : (t434 != 1) = false := bne_eq_false_iff_eq.mpr c14
   clear c14
   obtain ⟨⟨t442, t443, t444, t445⟩, A15, H⟩ := OB H
   try dsimp only at H
   replace A15 := AM A15
   by_cases c16 : 0 ≤ t442
   ·
    rw [if_pos c16] at H
    have c16b0 := eq_true c16
    have c16b1 : decide (0 ≤ t442) = true := decide_eq_true c16
    clear c16
    by_cases c17 : t442 ≤ (t433.size : Int)
    ·
     rw [if_pos c17] at H
     have c17b0 := eq_true c17
     have c17b1 : decide (t442 ≤ (t433.size : Int)) = true := decide_eq_true c17
     clear c17
     obtain rfl := Option.some.inj H
     go_enter Try.func13, Try.ntmps13
     go_wp2_with (first | ((with_reducible refine zl_ (f := 52) rfl ?_); refine gl_ (some 6) Try.func52 #[.slice A0 l0.length c0] ?_; (with_reducible refine (zL_.calls k _ _ l0 t422 t423 t424 t425 w _ ?side1 ?side2 ?side3 A2.out).mono ?_); (case side1 => exact bel_); (case side2 => exact HR0.out); (case side3 => exact HC0.out); rintro e w18 ⟨g426, rfl, hi, hb, hb2⟩; refine ⟨_, rfl, ?_⟩; replace HB := AM hb; have HI426 := AM hi; (try clear hb); (try clear hb2); (try clear hi)) | ((with_reducible refine zl_ (f := 53) rfl ?_); refine gl_ (some 8) Try.func53 #[.pointer (some ⟨g426, 0, none⟩)] ?_; (with_reducible refine (zc_.calls k g426 t422 t423 t424 t425 t427 t430 t431 t432 w _ ?side1 ?side2 A3.out).mono ?_); (case side1 => exact zA_); (case side2 => exact belg_ (zh_.ge HI426.out)); rintro e w19 ⟨v428, rfl, ho0, hi, hb, hk⟩; refine ⟨_, rfl, ?_⟩; have HO429 := AM (Kd.xh_ ho0 (zj_ (belg_ (zh_.ge HI426.out)))); replace HB := AM hb; replace HI426 := AM hi; (try clear hb); (try clear hk); (try clear hi); (try clear ho0); obtain ⟨Ao20, co20, eo20⟩ := Kd.xv_ HO429.out; subst eo20) | ((with_reducible refine zl_ (f := 10) rfl ?_); refine gl_ (some 9) Try.func10 #[.slice Ao20 t427.length co20] ?_; (with_reducible refine (z4_.calls k _ _ t427 t433 _ ?side1 ?side2 A4.out).mono ?_); (case side1 => repeat (first | exact (Kd.ys_ HO429.out).2.2 | (with_reducible refine Kd.yx_ ?_ _) | (with_reducible refine Kd.yw_ ?_ _) | (with_reducible refine Kd.yQ_ ?_))); (case side2 => exact (Kd.ys_ HO429.out).2.1); rintro e w21 ⟨rfl, hb⟩; refine ⟨_, rfl, ?_⟩; replace HO429 := AM (Kd.yB_ (ks_ HO429.out) hb); replace HB := AM (zg_ (belg_ (zh_.ge HI426.out)) hb); replace HI426 := AM (zh_.below zA_ hb); (try clear hb)) | ((with_reducible refine zl_ (f := 64) rfl ?_); refine gl_ (some 11) Try.func64 #[.pointer (some ⟨g426, 0, none⟩), .int .i64 5] ?_; (with_reducible refine (zI_.calls g426 t422 t430 t431 t432 5 t434 t435 t436 t437 w _ ?side1 ?side2 A5.out).mono ?_); (case side1 => exact zA_); (case side2 => exact belg_ (zh_.ge HI426.out)); rintro e w22 ⟨rfl, hi, hb, hk⟩; refine ⟨_, rfl, ?_⟩; replace HO429 := AM (Kd.zR_ (Kd.yT_ (zh_.apartS (show zh_ w _ g426 t422 t430 t431 t432 from zA_) (ks_ HO429.out) (by decide)) hk (fun _ h => h.2)) (fun _ h => h.1)); replace HB := AM hb; replace HI426 := AM hi; (try clear hb); (try clear hk); (try clear hi)) | ((with_reducible refine zl_ (f := 64) rfl ?_); refine gl_ (some 24) Try.func64 #[.pointer (some ⟨g426, 0, none⟩), .int .i64 (wrap64 ((t433.size : Int) + 1))] ?_; (with_reducible refine (zI_.calls g426 t422 t435 t436 t437 (wrap64 ((t433.size : Int) + 1)) t442 t443 t444 t445 w _ ?side1 ?side2 A15.out).mono ?_); (case side1 => exact zA_); (case side2 => exact belg_ (zh_.ge HI426.out)); rintro e w23 ⟨rfl, hi, hb, hk⟩; refine ⟨_, rfl, ?_⟩; replace HO429 := AM (Kd.zR_ (Kd.yT_ (zh_.apartS (show zh_ w _ g426 t422 t435 t436 t437 from zA_) (ks_ HO429.out) (by decide)) hk (fun _ h => h.2)) (fun _ h => h.1)); replace HB := AM hb; replace HI426 := AM hi; (try clear hb); (try clear hk); (try clear hi)))
     go_ret
     exact ⟨ri_, belg_ (zh_.ge HI426.out)⟩
    ·
     rw [if_neg c17] at H
     exact absurd H (by simp)
   ·
    rw [if_neg c16] at H
    exact absurd H (by simp)
  ·
   rw [if_neg c14] at H
   have c14b0 : (t434 == 1) = false := beq_eq_false_iff_ne.mpr c14
   have c14b1 : (t434 != 1) = true := bne_iff_ne.mpr c14
   obtain rfl := Option.some.inj H
   go_enter Try.func13, Try.ntmps13
   go_wp2_with (first | ((with_reducible refine zl_ (f := 52) rfl ?_); refine gl_ (some 6) Try.func52 #[.slice A0 l0.length c0] ?_; (with_reducible refine (zL_.calls k _ _ l0 t422 t423 t424 t425 w _ ?side1 ?side2 ?side3 A2.out).mono ?_); (case side1 => exact bel_); (case side2 => exact HR0.out); (case side3 => exact HC0.out); rintro e w24 ⟨g426, rfl, hi, hb, hb2⟩; refine ⟨_, rfl, ?_⟩; replace HB := AM hb; have HI426 := AM hi; (try clear hb); (try clear hb2); (try clear hi)) | ((with_reducible refine zl_ (f := 53) rfl ?_); refine gl_ (some 8) Try.func53 #[.pointer (some ⟨g426, 0, none⟩)] ?_; (with_reducible refine (zc_.calls k g426 t422 t423 t424 t425 t427 t430 t431 t432 w _ ?side1 ?side2 A3.out).mono ?_); (case side1 => exact zA_); (case side2 => exact belg_ (zh_.ge HI426.out)); rintro e w25 ⟨v428, rfl, ho0, hi, hb, hk⟩; refine ⟨_, rfl, ?_⟩; have HO429 := AM (Kd.xh_ ho0 (zj_ (belg_ (zh_.ge HI426.out)))); replace HB := AM hb; replace HI426 := AM hi; (try clear hb); (try clear hk); (try clear hi); (try clear ho0); obtain ⟨Ao26, co26, eo26⟩ := Kd.xv_ HO429.out; subst eo26) | ((with_reducible refine zl_ (f := 10) rfl ?_); refine gl_ (some 9) Try.func10 #[.slice Ao26 t427.length co26] ?_; (with_reducible refine (z4_.calls k _ _ t427 t433 _ ?side1 ?side2 A4.out).mono ?_); (case side1 => repeat (first | exact (Kd.ys_ HO429.out).2.2 | (with_reducible refine Kd.yx_ ?_ _) | (with_reducible refine Kd.yw_ ?_ _) | (with_reducible refine Kd.yQ_ ?_))); (case side2 => exact (Kd.ys_ HO429.out).2.1); rintro e w27 ⟨rfl, hb⟩; refine ⟨_, rfl, ?_⟩; replace HO429 := AM (Kd.yB_ (ks_ HO429.out) hb); replace HB := AM (zg_ (belg_ (zh_.ge HI426.out)) hb); replace HI426 := AM (zh_.below zA_ hb); (try clear hb)) | ((with_reducible refine zl_ (f := 64) rfl ?_); refine gl_ (some 11) Try.func64 #[.pointer (some ⟨g426, 0, none⟩), .int .i64 5] ?_; (with_reducible refine (zI_.calls g426 t422 t430 t431 t432 5 t434 t435 t436 t437 w _ ?side1 ?side2 A5.out).mono ?_); (case side1 => exact zA_); (case side2 => exact belg_ (zh_.ge HI426.out)); rintro e w28 ⟨rfl, hi, hb, hk⟩; refine ⟨_, rfl, ?_⟩; replace HO429 := AM (Kd.zR_ (Kd.yT_ (zh_.apartS (show zh_ w _ g426 t422 t430 t431 t432 from zA_) (ks_ HO429.out) (by decide)) hk (fun _ h => h.2)) (fun _ h => h.1)); replace HB := AM hb; replace HI426 := AM hi; (try clear hb); (try clear hk); (try clear hi)))
   go_ret
   exact ⟨ri_, belg_ (zh_.ge HI426.out)⟩
/-! ### zq_: function 201 -/
mutual
def zq_.l0 : Nat → ByteArray → Int → Int → Int → Option (Int × Int × Int)
 | 0, _, _, _, _ => none
 | k + 1, x0, x1, x5, x6 => if x6 < 10 then (if x1 ≥ (wrap64 ((x0.size : Int) - x6)) then (some (0, 0, 4)) else (if 0 ≤ (wrap64 (x1 + x6)) then (if (wrap64 (x1 + x6)) < (x0.size : Int) then (if x6 = 9 then (zq_.j1 k x0 x1 x5 x6 (IntKind.u64.wrap (bt x0 (wrap64 (x1 + x6)))) (decide ((IntKind.u64.wrap (bt x0 (wrap64 (x1 + x6)))) > 1))) else (zq_.j1 k x0 x1 x5 x6 (IntKind.u64.wrap (bt x0 (wrap64 (x1 + x6)))) false)) else (none)) else (none))) else (some (0, 0, 3))
def zq_.j1 : Nat → ByteArray → Int → Int → Int → Int → Bool → Option (Int × Int × Int)
 | 0, _, _, _, _, _, _ => none
 | k + 1, x0, x1, x5, x6, x7, x38 => if x38 = true then (some (0, 0, 3)) else (if 0 ≤ (IntKind.u64.wrap (wrap64 (7 * x6))) then (if x7 < 128 then (if x7 = 0 then (zq_.j2 k x1 (IntKind.u64.wrap (x5 + (shl .u64 (Int.tmod x7 128) (IntKind.u64.wrap (wrap64 (7 * x6)))))) x6 (decide (x6 > 0))) else (zq_.j2 k x1 (IntKind.u64.wrap (x5 + (shl .u64 (Int.tmod x7 128) (IntKind.u64.wrap (wrap64 (7 * x6)))))) x6 false)) else (zq_.l0 k x0 x1 (IntKind.u64.wrap (x5 + (shl .u64 (Int.tmod x7 128) (IntKind.u64.wrap (wrap64 (7 * x6)))))) (wrap64 (x6 + 1)))) else (none))
def zq_.j2 : Nat → Int → Int → Int → Bool → Option (Int × Int × Int)
 | 0, _, _, _, _ => none
 | k + 1, x1, x5, x6, x55 => if x55 = true then (some (0, 0, 3)) else (if (Int.tmod x5 2) = 1 then (some (wrap64 ((wrap64 (-(wrap64 (IntKind.u64.wrap (Int.tdiv x5 2))))) - 1), wrap64 ((wrap64 (x1 + x6)) + 1), 0)) else (some (wrap64 (IntKind.u64.wrap (Int.tdiv x5 2)), wrap64 ((wrap64 (x1 + x6)) + 1), 0)))
end
def zq_.f (k : Nat) (a0 : ByteArray) (a1 : Int) : Option (Int × Int × Int) := if (a0.size : Int) > 20000 then (some (0, 0, 2)) else (if a1 < 0 then (some (0, 0, 1)) else (zq_.l0 k a0 a1 0 0))
theorem zq_.mono_l : ∀ k, (∀ y0 y1 y2 y3, LeO (zq_.l0 k y0 y1 y2 y3) (zq_.l0 (k + 1) y0 y1 y2 y3)) ∧ (∀ y0 y1 y2 y3 y4 y5, LeO (zq_.j1 k y0 y1 y2 y3 y4 y5) (zq_.j1 (k + 1) y0 y1 y2 y3 y4 y5)) ∧ (∀ y0 y1 y2 y3, LeO (zq_.j2 k y0 y1 y2 y3) (zq_.j2 (k + 1) y0 y1 y2 y3))
 | 0 => ⟨fun _ _ _ _ r h => by simp [zq_.l0] at h, fun _ _ _ _ _ _ r h => by simp [zq_.j1] at h, fun _ _ _ _ r h => by simp [zq_.j2] at h⟩
 | k + 1 => by
  obtain ⟨ih0, ih1, ih2⟩ := zq_.mono_l k
  refine ⟨?_, ?_, ?_⟩
  ·
   intro y0 y1 y2 y3
   unfold zq_.l0
   repeat' with_reducible first | exact ih0 _ _ _ _ | exact ih1 _ _ _ _ _ _ | exact ih2 _ _ _ _ | exact LeO.refl _ | exact LeO.none _ | refine LeO.ite ?_ ?_ | refine LeO.bind ?_ (fun _ => ?_)
  ·
   intro y0 y1 y2 y3 y4 y5
   unfold zq_.j1
   repeat' with_reducible first | exact ih0 _ _ _ _ | exact ih1 _ _ _ _ _ _ | exact ih2 _ _ _ _ | exact LeO.refl _ | exact LeO.none _ | refine LeO.ite ?_ ?_ | refine LeO.bind ?_ (fun _ => ?_)
  ·
   intro y0 y1 y2 y3
   unfold zq_.j2
   repeat' with_reducible first | exact ih0 _ _ _ _ | exact ih1 _ _ _ _ _ _ | exact ih2 _ _ _ _ | exact LeO.refl _ | exact LeO.none _ | refine LeO.ite ?_ ?_ | refine LeO.bind ?_ (fun _ => ?_)
theorem zq_.mono : ∀ a0 a1 k, LeO (zq_.f k a0 a1) (zq_.f (k + 1) a0 a1) := by
 intro a0 a1 k
 obtain ⟨ih0, ih1, ih2⟩ := zq_.mono_l k
 unfold zq_.f
 repeat' with_reducible first | exact ih0 _ _ _ _ | exact ih1 _ _ _ _ _ _ | exact ih2 _ _ _ _ | exact LeO.refl _ | exact LeO.none _ | refine LeO.ite ?_ ?_ | refine LeO.bind ?_ (fun _ => ?_)
theorem zq_.calls (k : Nat) (a0 : ByteArray) (a1 : Int) (r1 : Int) (r2 : Int) (r3 : Int) (w : World) (h : zq_.f k a0 a1 = some (r1, r2, r3)) :
 Calls Try.prog 201 #[.string a0, .int .i64 a1] w fun e w' => e = .returned (.agg #[.int .i64 r1, .int .i64 r2, .int .i64 r3]) ∧ Below w.heap.size w w' := by
 have hu199 := Try.underlying199
 have HB := AM (Below.refl w.heap.size w)
 have H : (if (a0.size : Int) > 20000 then (some (0, 0, 2)) else (if a1 < 0 then (some (0, 0, 1)) else (zq_.l0 k a0 a1 0 0))) = some (r1, r2, r3) := h
 clear h
 by_cases c3 : (a0.size : Int) > 20000
 ·
  rw [if_pos c3] at H
  have c3b0 : decide (20000 < (a0.size : Int)) = true := decide_eq_true c3
  have c3b1 : decide (20000 < a0.size) = true := decide_eq_true (by omega)
  clear c3
  simp only [Option.some.injEq, Prod.mk.injEq] at H
  obtain ⟨rfl, rfl, rfl⟩ := H
  go_enter Try.func201, Try.ntmps201
  go_wp2_with (first | ((with_reducible refine z6_ (N := 4) rfl ?_); refine be_ 4 #[.int .i64 0, .int .i64 0, .int .i64 0] 199 ?_; intro gb446 hg w4 hbox hb; have BK446 := AM hbox; have GW446 := AM ((by rw [hg]; exact (zj_ bel_) : w.heap.size ≤ gb446)); have GE446 := AM ((by rw [hg]; exact (zj_ bel_) : w.heap.size ≤ gb446)); replace HB := AM (zg_ bel_ hb); clear hb hbox hg; have hcz5_0 : w4.cell? ⟨gb446, 0, none⟩ = some (.int .i64 0) := (zb_ BK446.out 0).trans rfl; have hcz5_1 : w4.cell? ⟨gb446, 1, none⟩ = some (.int .i64 0) := (zb_ BK446.out 1).trans rfl; have hcz5_2 : w4.cell? ⟨gb446, 2, none⟩ = some (.int .i64 0) := (zb_ BK446.out 2).trans rfl; have hfz5_0 := za_ BK446.out 0; have hfz5_1 := za_ BK446.out 1; have hfz5_2 := za_ BK446.out 2))
  refine bodyPost_ret (results_cell_row rfl _ _ gb446 199 #[.int .i64 0, .int .i64 0, .int .i64 2] (0, 0) _ rfl bka_ Try.underlying199 rfl (by kernel_rfl)) rfl ?_
  exact ⟨ri_, bel_⟩
 ·
  rw [if_neg c3] at H
  have c3b0 : decide (20000 < (a0.size : Int)) = false := decide_eq_false c3
  have c3b1 : decide (20000 < a0.size) = false := decide_eq_false (by omega)
  clear c3
  by_cases c6 : a1 < 0
  ·
   rw [if_pos c6] at H
   have c6b0 : decide (a1 < 0) = true := decide_eq_true c6
   clear c6
   simp only [Option.some.injEq, Prod.mk.injEq] at H
   obtain ⟨rfl, rfl, rfl⟩ := H
   go_enter Try.func201, Try.ntmps201
   go_wp2_with (first | ((with_reducible refine z6_ (N := 4) rfl ?_); refine be_ 4 #[.int .i64 0, .int .i64 0, .int .i64 0] 199 ?_; intro gb446 hg w7 hbox hb; have BK446 := AM hbox; have GW446 := AM ((by rw [hg]; exact (zj_ bel_) : w.heap.size ≤ gb446)); have GE446 := AM ((by rw [hg]; exact (zj_ bel_) : w.heap.size ≤ gb446)); replace HB := AM (zg_ bel_ hb); clear hb hbox hg; have hcz8_0 : w7.cell? ⟨gb446, 0, none⟩ = some (.int .i64 0) := (zb_ BK446.out 0).trans rfl; have hcz8_1 : w7.cell? ⟨gb446, 1, none⟩ = some (.int .i64 0) := (zb_ BK446.out 1).trans rfl; have hcz8_2 : w7.cell? ⟨gb446, 2, none⟩ = some (.int .i64 0) := (zb_ BK446.out 2).trans rfl; have hfz8_0 := za_ BK446.out 0; have hfz8_1 := za_ BK446.out 1; have hfz8_2 := za_ BK446.out 2))
   refine bodyPost_ret (results_cell_row rfl _ _ gb446 199 #[.int .i64 0, .int .i64 0, .int .i64 1] (0, 0) _ rfl bka_ Try.underlying199 rfl (by kernel_rfl)) rfl ?_
   exact ⟨ri_, bel_⟩
  ·
   rw [if_neg c6] at H
   have c6b0 : decide (a1 < 0) = false := decide_eq_false c6
   clear c6
   have H' := AM H
   clear H
   go_enter Try.func201, Try.ntmps201
   go_wp2_with (first | ((with_reducible refine z6_ (N := 4) rfl ?_); refine be_ 4 #[.int .i64 0, .int .i64 0, .int .i64 0] 199 ?_; intro gb446 hg w9 hbox hb; have BK446 := AM hbox; have GW446 := AM ((by rw [hg]; exact (zj_ bel_) : w.heap.size ≤ gb446)); have GE446 := AM ((by rw [hg]; exact (zj_ bel_) : w.heap.size ≤ gb446)); replace HB := AM (zg_ bel_ hb); clear hb hbox hg))
   go_loopg [5, 6] k (fun kq v5 v6 w' => ∃ (x5_1 : Int) (x6_1 : Int) (x447000_1 : Int) (x447001_1 : Int) (x447002_1 : Int), v5 = .int .u64 x5_1 ∧ v6 = .int .i64 x6_1 ∧ zd_ (zq_.l0 kq a0 a1 x5_1 x6_1 = some (r1, r2, r3)) ∧ zd_ (kq ≤ k) ∧ zd_ (w'.heap[gb446]? = some (.cells #[.int .i64 x447000_1, .int .i64 x447001_1, .int .i64 x447002_1] 199 (0, 0))) ∧ zd_ (Below w.heap.size w w'))
   case atStart => exact ⟨(0), (0), (0), (0), (0), re_, re_, H', ⟨Nat.le_refl _⟩, ⟨bk_ BK446.out⟩, ⟨bel_⟩⟩
   case round =>
    clear H'
    (try clear c3b0); (try clear c3b1); (try clear c6b0); (try clear hcz5_0); (try clear hcz5_1); (try clear hcz5_2); (try clear hcz8_0); (try clear hcz8_1); (try clear hcz8_2); (try clear hfz5_0); (try clear hfz5_1); (try clear hfz5_2); (try clear hfz8_0); (try clear hfz8_1); (try clear hfz8_2)
    obtain ⟨x5_1, x6_1, x447000_1, x447001_1, x447002_1, rfl, rfl, HA, HK1, BK446, HB⟩ := hrel
    cases gk with
    | zero => exact absurd HA.out (by simp [zq_.l0])
    | succ k1 =>
     have H := HA.out
     clear HA
     simp only [zq_.l0] at H
     by_cases c10 : x6_1 < 10
     ·
      rw [if_pos c10] at H
      have c10b0 : decide (x6_1 < 10) = true := decide_eq_true c10
      clear c10
      by_cases c11 : a1 ≥ (wrap64 ((a0.size : Int) - x6_1))
      ·
       rw [if_pos c11] at H
       have c11b0 : decide ((wrap64 ((a0.size : Int) - x6_1)) ≤ a1) = true := decide_eq_true c11
       try have c11b9 : (decide ((((a0.size : Int) - x6_1)) ≤ a1)) = true := (by have hw0 : wrap64 ((a0.size : Int) - x6_1) = (a0.size : Int) - x6_1 := (by unfold wrap64; omega); have z_ := c11b0; simp only [hw0] at z_; exact z_)
       clear c11
       simp only [Option.some.injEq, Prod.mk.injEq] at H
       obtain ⟨rfl, rfl, rfl⟩ := H
       have hcz12_0 : wr.cell? ⟨gb446, 0, none⟩ = some (.int .i64 x447000_1) := (zb_ BK446.out 0).trans rfl
       have hcz12_1 : wr.cell? ⟨gb446, 1, none⟩ = some (.int .i64 x447001_1) := (zb_ BK446.out 1).trans rfl
       have hcz12_2 : wr.cell? ⟨gb446, 2, none⟩ = some (.int .i64 x447002_1) := (zb_ BK446.out 2).trans rfl
       have hfz12_0 := za_ BK446.out 0
       have hfz12_1 := za_ BK446.out 1
       have hfz12_2 := za_ BK446.out 2
       go_wp2
       refine bodyPost_ret (results_cell_row rfl _ _ gb446 199 #[.int .i64 0, .int .i64 0, .int .i64 4] (0, 0) _ rfl bka_ Try.underlying199 rfl (by kernel_rfl)) rfl ?_
       exact ⟨ri_, bel_⟩
      ·
       rw [if_neg c11] at H
       have c11b0 : decide ((wrap64 ((a0.size : Int) - x6_1)) ≤ a1) = false := decide_eq_false c11
       try have c11b9 : (decide ((((a0.size : Int) - x6_1)) ≤ a1)) = false := (by have hw0 : wrap64 ((a0.size : Int) - x6_1) = (a0.size : Int) - x6_1 := (by unfold wrap64; omega); have z_ := c11b0; simp only [hw0] at z_; exact z_)
       clear c11
       obtain ⟨ji13, hji13⟩ : ∃ j_ : Int, (wrap64 (a1 + x6_1)) = j_ := ⟨_, rfl⟩
       replace H : (if 0 ≤ (ji13) then (if (ji13) < (a0.size : Int) then (if x6_1 = 9 then (zq_.j1 k1 a0 a1 x5_1 x6_1 (IntKind.u64.wrap (bt a0 (ji13))) (decide ((IntKind.u64.wrap (bt a0 (ji13))) > 1))) else (zq_.j1 k1 a0 a1 x5_1 x6_1 (IntKind.u64.wrap (bt a0 (ji13))) false)) else (none)) else (none)) = some (r1, r2, r3) := by first | (rw [hji13] at H; exact H) | (simp only [hji13] at H ⊢; exact H)
       have hji13w : (IntKind.i64.wrap (a1 + x6_1)) = ji13 := (i64_w _).trans hji13
       by_cases c14 : 0 ≤ (ji13)
       ·
        rw [if_pos c14] at H
        have c14b0 : decide (0 ≤ (ji13)) = true := decide_eq_true c14
        clear c14
        by_cases c15 : (ji13) < (a0.size : Int)
        ·
         rw [if_pos c15] at H
         have c15b0 : decide ((ji13) < (a0.size : Int)) = true := decide_eq_true c15
         clear c15
         have HC17 := AM H
         clear H
         have p16 : 0 ≤ ((ji13) : Int) := of_decide_eq_true asm_
         have q16 : (ji13) < (a0.size : Int) := of_decide_eq_true asm_
         have hx16 := bt_at a0 (ji13)
         replace p16 := eq_true p16
         replace q16 := eq_true q16
         go_upto_region 12 with (fail)
         go_cut [38] (fun v38 wc => ∃ (kq : Nat) (x38_16 : Bool), v38 = .bool x38_16 ∧ zd_ (zq_.j1 kq a0 a1 x5_1 x6_1 (IntKind.u64.wrap (bt a0 (ji13))) x38_16 = some (r1, r2, r3)) ∧ zd_ (kq ≤ k1) ∧ zd_ (wc.heap[gb446]? = some (.cells #[.int .i64 x447000_1, .int .i64 x447001_1, .int .i64 x447002_1] 199 (0, 0))) ∧ zd_ (Below w.heap.size w wc))
         case first =>
          have H := HC17.out
          clear HC17
          by_cases c18 : x6_1 = 9
          ·
           rw [if_pos c18] at H
           have c18b0 : (x6_1 == 9) = true := beq_iff_eq.mpr c18
           have c18b1 : (x6_1 != 9) = false := bne_eq_false_iff_eq.mpr c18
           clear c18
           (first | rw [c18b0] | (simp only [i64_w, i32_w]; rw [c18b0]) | skip)
           have H' := AM H
           clear H
           go_wp2
           go_meet
           case rel => exact ⟨_, (decide ((IntKind.u64.wrap (bt a0 (ji13))) > 1)), (by first | rfl | (simp; done) | (simp only [← hji13] <;> (first | rfl | simp)) | (simp [*]; done)), H', ⟨by have := HK1.out; first | omega | exact Nat.le_refl _⟩, ⟨bk_ BK446.out⟩, ⟨bel_⟩⟩
          ·
           rw [if_neg c18] at H
           have c18b0 : (x6_1 == 9) = false := beq_eq_false_iff_ne.mpr c18
           have c18b1 : (x6_1 != 9) = true := bne_iff_ne.mpr c18
           (first | rw [c18b0] | (simp only [i64_w, i32_w]; rw [c18b0]) | skip)
           have H' := AM H
           clear H
           go_wp2
           go_meet
           case rel => exact ⟨_, (false), re_, H', ⟨by have := HK1.out; first | omega | exact Nat.le_refl _⟩, ⟨bk_ BK446.out⟩, ⟨bel_⟩⟩
         case rest =>
          clear HC17
          (try clear c10b0); (try clear c11b0); (try clear c14b0); (try clear c15b0); (try clear p16); (try clear q16); (try clear hx16); (try clear c18); (try clear c18b0); (try clear c18b1); (try clear hcz12_0); (try clear hcz12_1); (try clear hcz12_2); (try clear hfz12_0); (try clear hfz12_1); (try clear hfz12_2)
          obtain ⟨kq, x38_16, rfl, HA, HJ16, BK446, HB⟩ := hcut
          cases kq with
          | zero => exact absurd HA.out (by simp [zq_.j1])
          | succ kj16 =>
           have H := HA.out
           clear HA
           simp only [zq_.j1] at H
           by_cases c19 : x38_16 = true
           ·
            subst c19
            rw [if_pos rfl] at H
            simp only [Option.some.injEq, Prod.mk.injEq] at H
            obtain ⟨rfl, rfl, rfl⟩ := H
            have hcz20_0 : wc.cell? ⟨gb446, 0, none⟩ = some (.int .i64 x447000_1) := (zb_ BK446.out 0).trans rfl
            have hcz20_1 : wc.cell? ⟨gb446, 1, none⟩ = some (.int .i64 x447001_1) := (zb_ BK446.out 1).trans rfl
            have hcz20_2 : wc.cell? ⟨gb446, 2, none⟩ = some (.int .i64 x447002_1) := (zb_ BK446.out 2).trans rfl
            have hfz20_0 := za_ BK446.out 0
            have hfz20_1 := za_ BK446.out 1
            have hfz20_2 := za_ BK446.out 2
            go_wp2
            refine bodyPost_ret (results_cell_row rfl _ _ gb446 199 #[.int .i64 0, .int .i64 0, .int .i64 3] (0, 0) _ rfl bka_ Try.underlying199 rfl (by kernel_rfl)) rfl ?_
            exact ⟨by first | rfl | (simp [ym_, yl_] <;> rfl) | (simp only [← hji13]; first | rfl | (simp [ym_, yl_] <;> rfl)) | (simp [*, ym_, yl_] <;> rfl), bel_⟩
           ·
            replace c19 := Bool.eq_false_iff.mpr c19
            subst c19
            rw [if_neg (show ¬ (false = true) by decide)] at H
            obtain ⟨ji21, hji21⟩ : ∃ j_ : Int, (IntKind.u64.wrap (wrap64 (7 * x6_1))) = j_ := ⟨_, rfl⟩
            replace H : (if 0 ≤ (ji21) then (if (IntKind.u64.wrap (bt a0 (ji13))) < 128 then (if (IntKind.u64.wrap (bt a0 (ji13))) = 0 then (zq_.j2 kj16 a1 (IntKind.u64.wrap (x5_1 + (shl .u64 (Int.tmod (IntKind.u64.wrap (bt a0 (ji13))) 128) (ji21)))) x6_1 (decide (x6_1 > 0))) else (zq_.j2 kj16 a1 (IntKind.u64.wrap (x5_1 + (shl .u64 (Int.tmod (IntKind.u64.wrap (bt a0 (ji13))) 128) (ji21)))) x6_1 false)) else (zq_.l0 kj16 a0 a1 (IntKind.u64.wrap (x5_1 + (shl .u64 (Int.tmod (IntKind.u64.wrap (bt a0 (ji13))) 128) (ji21)))) (wrap64 (x6_1 + 1)))) else (none)) = some (r1, r2, r3) := by first | (rw [hji21] at H; exact H) | (simp only [hji21] at H ⊢; exact H)
            by_cases c22 : 0 ≤ (ji21)
            ·
             rw [if_pos c22] at H
             have c22b0 := eq_true c22
             have c22b1 : decide (0 ≤ (ji21)) = true := decide_eq_true c22
             clear c22
             obtain ⟨ji23, hji23⟩ : ∃ j_ : Int, (shl .u64 (Int.tmod (IntKind.u64.wrap (bt a0 (ji13))) 128) (ji21)) = j_ := ⟨_, rfl⟩
             replace H : (if (IntKind.u64.wrap (bt a0 (ji13))) < 128 then (if (IntKind.u64.wrap (bt a0 (ji13))) = 0 then (zq_.j2 kj16 a1 (IntKind.u64.wrap (x5_1 + (ji23))) x6_1 (decide (x6_1 > 0))) else (zq_.j2 kj16 a1 (IntKind.u64.wrap (x5_1 + (ji23))) x6_1 false)) else (zq_.l0 kj16 a0 a1 (IntKind.u64.wrap (x5_1 + (ji23))) (wrap64 (x6_1 + 1)))) = some (r1, r2, r3) := by first | (rw [hji23] at H; exact H) | (simp only [hji23] at H ⊢; exact H)
             have hji23_ : (IntKind.u64.wrap ((Int.tmod (IntKind.u64.wrap (bt a0 (ji13))) 128) * 2 ^ min (ji21).toNat 64)) = ji23 := hji23
             have hji23z : (ji21) ≤ 64 → (IntKind.u64.wrap ((Int.tmod (IntKind.u64.wrap (bt a0 (ji13))) 128) * 2 ^ (ji21).toNat)) = ji23 := shl_small hji23
             by_cases c24 : (IntKind.u64.wrap (bt a0 (ji13))) < 128
             ·
              rw [if_pos c24] at H
              have c24b0 : decide ((IntKind.u64.wrap (bt a0 (ji13))) < 128) = true := decide_eq_true c24
              clear c24
              have HC25 := AM H
              clear H
              go_upto_region 16 with (fail)
              go_cut [55] (fun v55 wc => ∃ (kq : Nat) (x55_24 : Bool), v55 = .bool x55_24 ∧ zd_ (zq_.j2 kq a1 (IntKind.u64.wrap (x5_1 + (ji23))) x6_1 x55_24 = some (r1, r2, r3)) ∧ zd_ (kq ≤ kj16) ∧ zd_ (wc.heap[gb446]? = some (.cells #[.int .i64 x447000_1, .int .i64 x447001_1, .int .i64 x447002_1] 199 (0, 0))) ∧ zd_ (Below w.heap.size w wc))
              case first =>
               have H := HC25.out
               clear HC25
               by_cases c26 : (IntKind.u64.wrap (bt a0 (ji13))) = 0
               ·
                rw [if_pos c26] at H
                have c26b0 : ((IntKind.u64.wrap (bt a0 (ji13))) == 0) = true := beq_iff_eq.mpr c26
                have c26b1 : ((IntKind.u64.wrap (bt a0 (ji13))) != 0) = false := bne_eq_false_iff_eq.mpr c26
                clear c26
                (first | rw [c26b0] | (simp only [i64_w, i32_w]; rw [c26b0]) | skip)
                have H' := AM H
                clear H
                go_wp2
                go_meet
                case rel => exact ⟨_, (decide (x6_1 > 0)), re_, H', ⟨by have := HK1.out; have := HJ16.out; first | omega | exact Nat.le_refl _⟩, ⟨bk_ BK446.out⟩, ⟨bel_⟩⟩
               ·
                rw [if_neg c26] at H
                have c26b0 : ((IntKind.u64.wrap (bt a0 (ji13))) == 0) = false := beq_eq_false_iff_ne.mpr c26
                have c26b1 : ((IntKind.u64.wrap (bt a0 (ji13))) != 0) = true := bne_iff_ne.mpr c26
                (first | rw [c26b0] | (simp only [i64_w, i32_w]; rw [c26b0]) | skip)
                have H' := AM H
                clear H
                go_wp2
                go_meet
                case rel => exact ⟨_, (false), re_, H', ⟨by have := HK1.out; have := HJ16.out; first | omega | exact Nat.le_refl _⟩, ⟨bk_ BK446.out⟩, ⟨bel_⟩⟩
              case rest =>
               clear HC25
               (try clear c19); (try clear c22b0); (try clear c22b1); (try clear c24b0); (try clear c26); (try clear c26b0); (try clear c26b1); (try clear hcz20_0); (try clear hcz20_1); (try clear hcz20_2); (try clear hfz20_0); (try clear hfz20_1); (try clear hfz20_2)
               obtain ⟨kq, x55_24, rfl, HA, HJ24, BK446, HB⟩ := hcut
               cases kq with
               | zero => exact absurd HA.out (by simp [zq_.j2])
               | succ kj24 =>
                have H := HA.out
                clear HA
                simp only [zq_.j2] at H
                by_cases c27 : x55_24 = true
                ·
                 subst c27
                 rw [if_pos rfl] at H
                 simp only [Option.some.injEq, Prod.mk.injEq] at H
                 obtain ⟨rfl, rfl, rfl⟩ := H
                 have hcz28_0 : wc.cell? ⟨gb446, 0, none⟩ = some (.int .i64 x447000_1) := (zb_ BK446.out 0).trans rfl
                 have hcz28_1 : wc.cell? ⟨gb446, 1, none⟩ = some (.int .i64 x447001_1) := (zb_ BK446.out 1).trans rfl
                 have hcz28_2 : wc.cell? ⟨gb446, 2, none⟩ = some (.int .i64 x447002_1) := (zb_ BK446.out 2).trans rfl
                 have hfz28_0 := za_ BK446.out 0
                 have hfz28_1 := za_ BK446.out 1
                 have hfz28_2 := za_ BK446.out 2
                 go_wp2
                 refine bodyPost_ret (results_cell_row rfl _ _ gb446 199 #[.int .i64 0, .int .i64 0, .int .i64 3] (0, 0) _ rfl bka_ Try.underlying199 rfl (by kernel_rfl)) rfl ?_
                 exact ⟨by first | rfl | (simp [ym_, yl_] <;> rfl) | (simp only [← hji13, ← hji21, ← hji23]; first | rfl | (simp [ym_, yl_] <;> rfl)) | (simp [*, ym_, yl_] <;> rfl), bel_⟩
                ·
                 replace c27 := Bool.eq_false_iff.mpr c27
                 subst c27
                 rw [if_neg (show ¬ (false = true) by decide)] at H
                 by_cases c29 : (Int.tmod (IntKind.u64.wrap (x5_1 + (ji23))) 2) = 1
                 ·
                  rw [if_pos c29] at H
                  have c29b0 : ((Int.tmod (IntKind.u64.wrap (x5_1 + (ji23))) 2) == 1) = true := beq_iff_eq.mpr c29
                  have c29b1 : ((Int.tmod (IntKind.u64.wrap (x5_1 + (ji23))) 2) != 1) = false := bne_eq_false_iff_eq.mpr c29
                  clear c29
                  simp only [Option.some.injEq, Prod.mk.injEq] at H
                  obtain ⟨rfl, rfl, rfl⟩ := H
                  have hcz30_0 : wc.cell? ⟨gb446, 0, none⟩ = some (.int .i64 x447000_1) := (zb_ BK446.out 0).trans rfl
                  have hcz30_1 : wc.cell? ⟨gb446, 1, none⟩ = some (.int .i64 x447001_1) := (zb_ BK446.out 1).trans rfl
                  have hcz30_2 : wc.cell? ⟨gb446, 2, none⟩ = some (.int .i64 x447002_1) := (zb_ BK446.out 2).trans rfl
                  have hfz30_0 := za_ BK446.out 0
                  have hfz30_1 := za_ BK446.out 1
                  have hfz30_2 := za_ BK446.out 2
                  go_wp2
                  (try rw [← hji13])
                  refine bodyPost_ret (results_cell_row rfl _ _ gb446 199 #[.int .i64 (wrap64 ((wrap64 (-(wrap64 (IntKind.u64.wrap (Int.tdiv (IntKind.u64.wrap (x5_1 + (ji23))) 2))))) - 1)), .int .i64 (wrap64 ((wrap64 (a1 + x6_1)) + 1)), .int .i64 0] (0, 0) _ rfl bka_ Try.underlying199 rfl (by kernel_rfl)) rfl ?_
                  exact ⟨by first | rfl | (simp [ym_, yl_] <;> rfl) | (simp only [← hji13, ← hji21, ← hji23]; first | rfl | (simp [ym_, yl_] <;> rfl)) | (simp [*, ym_, yl_] <;> rfl), bel_⟩
                 ·
                  rw [if_neg c29] at H
                  have c29b0 : ((Int.tmod (IntKind.u64.wrap (x5_1 + (ji23))) 2) == 1) = false := beq_eq_false_iff_ne.mpr c29
                  have c29b1 : ((Int.tmod (IntKind.u64.wrap (x5_1 + (ji23))) 2) != 1) = true := bne_iff_ne.mpr c29
                  simp only [Option.some.injEq, Prod.mk.injEq] at H
                  obtain ⟨rfl, rfl, rfl⟩ := H
                  have hcz31_0 : wc.cell? ⟨gb446, 0, none⟩ = some (.int .i64 x447000_1) := (zb_ BK446.out 0).trans rfl
                  have hcz31_1 : wc.cell? ⟨gb446, 1, none⟩ = some (.int .i64 x447001_1) := (zb_ BK446.out 1).trans rfl
                  have hcz31_2 : wc.cell? ⟨gb446, 2, none⟩ = some (.int .i64 x447002_1) := (zb_ BK446.out 2).trans rfl
                  have hfz31_0 := za_ BK446.out 0
                  have hfz31_1 := za_ BK446.out 1
                  have hfz31_2 := za_ BK446.out 2
                  go_wp2
                  (try rw [← hji13])
                  refine bodyPost_ret (results_cell_row rfl _ _ gb446 199 #[.int .i64 (wrap64 (IntKind.u64.wrap (Int.tdiv (IntKind.u64.wrap (x5_1 + (ji23))) 2))), .int .i64 (wrap64 ((wrap64 (a1 + x6_1)) + 1)), .int .i64 0] (0, 0) _ rfl bka_ Try.underlying199 rfl (by kernel_rfl)) rfl ?_
                  exact ⟨by first | rfl | (simp [ym_, yl_] <;> rfl) | (simp only [← hji13, ← hji21, ← hji23]; first | rfl | (simp [ym_, yl_] <;> rfl)) | (simp [*, ym_, yl_] <;> rfl), bel_⟩
             ·
              rw [if_neg c24] at H
              have c24b0 : decide ((IntKind.u64.wrap (bt a0 (ji13))) < 128) = false := decide_eq_false c24
              clear c24
              have H' := AM H
              clear H
              go_wp2
              go_roundg kj16
              case measure => have := HK1.out; have := HJ16.out; omega
              case rel => exact ⟨(IntKind.u64.wrap (x5_1 + (ji23))), (wrap64 (x6_1 + 1)), (x447000_1), (x447001_1), (x447002_1), (by first | rfl | (simp; done) | (simp only [← hji23] <;> (first | rfl | simp)) | (simp [*]; done)), re_, H', ⟨by have := HK1.out; have := HJ16.out; omega⟩, ⟨bk_ BK446.out⟩, ⟨bel_⟩⟩
            ·
             rw [if_neg c22] at H
             exact absurd H (by simp)
        ·
         rw [if_neg c15] at H
         exact absurd H (by simp)
       ·
        rw [if_neg c14] at H
        exact absurd H (by simp)
     ·
      rw [if_neg c10] at H
      have c10b0 : decide (x6_1 < 10) = false := decide_eq_false c10
      clear c10
      simp only [Option.some.injEq, Prod.mk.injEq] at H
      obtain ⟨rfl, rfl, rfl⟩ := H
      have hcz32_0 : wr.cell? ⟨gb446, 0, none⟩ = some (.int .i64 x447000_1) := (zb_ BK446.out 0).trans rfl
      have hcz32_1 : wr.cell? ⟨gb446, 1, none⟩ = some (.int .i64 x447001_1) := (zb_ BK446.out 1).trans rfl
      have hcz32_2 : wr.cell? ⟨gb446, 2, none⟩ = some (.int .i64 x447002_1) := (zb_ BK446.out 2).trans rfl
      have hfz32_0 := za_ BK446.out 0
      have hfz32_1 := za_ BK446.out 1
      have hfz32_2 := za_ BK446.out 2
      go_wp2
      refine bodyPost_ret (results_cell_row rfl _ _ gb446 199 #[.int .i64 0, .int .i64 0, .int .i64 3] (0, 0) _ rfl bka_ Try.underlying199 rfl (by kernel_rfl)) rfl ?_
      exact ⟨ri_, bel_⟩
/-- A state of type 184 at block g of W; what its slices lead to came in by w0. -/
def zn_ (w0 W : World) (g : Nat) (f0 : ByteArray) (f1 : Int) (f2 : Bool) : Prop := W.heap[g]? = some (.cells #[.string f0, .int .i64 f1, .bool f2] 184 (0, 0)) ∧ w0.heap.size ≤ g
theorem zn_.grown {w0 W : World} {g : Nat} {f0 : ByteArray} {f1 : Int} {f2 : Bool} {W1 : World} {row : Option Nat} (h : zn_ w0 W g f0 f1 f2) (hw : W.grownBy W1 row) (hne : some g ≠ row) : zn_ w0 W1 g f0 f1 f2 := by
 obtain ⟨hb, hg⟩ := h
 exact ⟨yp_ hb hw hne, hg⟩
theorem zn_.own_neN {w0 W : World} {g : Nat} {f0 : ByteArray} {f1 : Int} {f2 : Bool} {α : Type} {d : Kd α} {e : Nat} {base : Nat} {ok : Nat → Prop} {v : Value} {xs : List α} (h : zn_ w0 W g f0 f1 f2) (ho : Kd.N d e W base ok v xs) (ht : e ≠ 184) : some g ≠ v.ownBlock := by
 obtain ⟨hb, hg⟩ := h
 exact Kd.N_ne ho hb ht
theorem zn_.fresh {w0 W : World} {g : Nat} {f0 : ByteArray} {f1 : Int} {f2 : Bool} (h : zn_ w0 W g f0 f1 f2) : ∀ k, W.heap.size ≤ k → k ≠ g := by
 obtain ⟨hb, hg⟩ := h
 exact Kd.freshB hb
theorem zn_.kept {w0 W : World} {g : Nat} {f0 : ByteArray} {f1 : Int} {f2 : Bool} {W1 : World} {S : Nat → Prop} (h : zn_ w0 W g f0 f1 f2) (hk : Kept W W1 S) (hne : ¬ S g) : zn_ w0 W1 g f0 f1 f2 := by
 obtain ⟨hb, hg⟩ := h
 exact ⟨blk_kept hb hk hne, hg⟩
theorem zn_.below {w0 W : World} {g : Nat} {f0 : ByteArray} {f1 : Int} {f2 : Bool} {W1 : World} (h : zn_ w0 W g f0 f1 f2) (hw : Below W.heap.size W W1) : zn_ w0 W1 g f0 f1 f2 := h.grown (grown_of_below hw none) (by simp)
theorem zn_.alloc {w0 W : World} {g : Nat} {f0 : ByteArray} {f1 : Int} {f2 : Bool} (h : zn_ w0 W g f0 f1 f2) (o : Obj) : zn_ w0 (W.alloc o) g f0 f1 f2 := h.below (yD_ (Below.refl _ _) o)
theorem zn_.drewN {w0 W : World} {g : Nat} {f0 : ByteArray} {f1 : Int} {f2 : Bool} (h : zn_ w0 W g f0 f1 f2) (m : Nat) : zn_ w0 (W.drewN m) g f0 f1 f2 := h
theorem zn_.drew {w0 W : World} {g : Nat} {f0 : ByteArray} {f1 : Int} {f2 : Bool} (h : zn_ w0 W g f0 f1 f2) : zn_ w0 W.drew g f0 f1 f2 := h
theorem zn_.at_ {w0 W : World} {g : Nat} {f0 : ByteArray} {f1 : Int} {f2 : Bool} {w' : World} {m : Nat} (hq : W.drewN m = w') (h : zn_ w0 W g f0 f1 f2) : zn_ w0 w' g f0 f1 f2 := by subst hq; exact zn_.drewN h m
theorem zn_.apart {w0 W : World} {g : Nat} {f0 : ByteArray} {f1 : Int} {f2 : Bool} {α : Type} {d : Kd α} {e : Nat} {base : Nat} {ok : Nat → Prop} {v : Value} {xs : List α} (h : zn_ w0 W g f0 f1 f2) (ho : d.R e W base ok v xs) (ht : ∀ q, q ∈ e :: d.E → q ≠ 184) : d.R e W base (fun k => ok k ∧ k ≠ g) v xs := by
 obtain ⟨hb, hg⟩ := h
 exact Kd.yo_ ho hb ht
theorem zn_.own_ne {w0 W : World} {g : Nat} {f0 : ByteArray} {f1 : Int} {f2 : Bool} {α : Type} {d : Kd α} {e : Nat} {base : Nat} {ok : Nat → Prop} {v : Value} {xs : List α} (h : zn_ w0 W g f0 f1 f2) (ho : d.R e W base ok v xs) (ht : e ≠ 184) : some g ≠ v.ownBlock := by
 obtain ⟨hb, hg⟩ := h
 exact Kd.R_ne ho hb ht
theorem zn_.apartQ {w0 W : World} {g : Nat} {f0 : ByteArray} {f1 : Int} {f2 : Bool} {α : Type} {d : Kd α} {e : Nat} {base : Nat} {ok : Nat → Prop} {v : Value} {xs : List α} (h : zn_ w0 W g f0 f1 f2) (ho : d.Q e W base ok v xs) (ht : ∀ q, q ∈ e :: d.E → q ≠ 184) : d.Q e W base (fun k => ok k ∧ k ≠ g) v xs := by
 obtain ⟨hb, hg⟩ := h
 exact Kd.Q_types ho hb ht
theorem zn_.own_neQ {w0 W : World} {g : Nat} {f0 : ByteArray} {f1 : Int} {f2 : Bool} {α : Type} {d : Kd α} {e : Nat} {base : Nat} {ok : Nat → Prop} {v : Value} {xs : List α} (h : zn_ w0 W g f0 f1 f2) (ho : d.Q e W base ok v xs) (ht : e ≠ 184) : some g ≠ v.ownBlock := by
 obtain ⟨hb, hg⟩ := h
 exact Kd.Q_ne ho hb ht
theorem zn_.apartS {w0 W : World} {g : Nat} {f0 : ByteArray} {f1 : Int} {f2 : Bool} {α : Type} {d : Kd α} {e : Nat} {base : Nat} {ok : Nat → Prop} {v : Value} {xs : List α} (h : zn_ w0 W g f0 f1 f2) (ho : d.S e W base ok v xs) (ht : ∀ q, q ∈ e :: d.E → q ≠ 184) : d.S e W base (fun k => ok k ∧ k ≠ g) v xs := by
 obtain ⟨hb, hg⟩ := h
 exact Kd.S_types ho hb ht
theorem zn_.own_neS {w0 W : World} {g : Nat} {f0 : ByteArray} {f1 : Int} {f2 : Bool} {α : Type} {d : Kd α} {e : Nat} {base : Nat} {ok : Nat → Prop} {v : Value} {xs : List α} (h : zn_ w0 W g f0 f1 f2) (ho : d.S e W base ok v xs) (ht : e ≠ 184) : some g ≠ v.ownBlock := by
 obtain ⟨hb, hg⟩ := h
 exact Kd.S_ne ho hb ht
theorem zn_.lt {w0 W : World} {g : Nat} {f0 : ByteArray} {f1 : Int} {f2 : Bool} (h : zn_ w0 W g f0 f1 f2) : g < W.heap.size := by
 obtain ⟨hb, hg⟩ := h
 exact yS_ hb
theorem zn_.ge {w0 W : World} {g : Nat} {f0 : ByteArray} {f1 : Int} {f2 : Bool} (h : zn_ w0 W g f0 f1 f2) : w0.heap.size ≤ g := by
 obtain ⟨hb, hg⟩ := h
 exact hg
theorem zn_.ne_blk {w0 W : World} {g : Nat} {f0 : ByteArray} {f1 : Int} {f2 : Bool} {a : Nat} {cs : Array Value} {t : TypeId} {fr : Nat × Nat} (h : zn_ w0 W g f0 f1 f2) (hb2 : W.heap[a]? = some (.cells cs t fr)) (ht : t ≠ 184) : g ≠ a := by
 obtain ⟨hb, hg⟩ := h
 rintro rfl
 rw [hb] at hb2
 injection hb2 with hb2
 injection hb2 with _ ht2
 exact ht ht2.symm
theorem zn_.far {w0 W : World} {g : Nat} {f0 : ByteArray} {f1 : Int} {f2 : Bool} {p : Addr} (h : zn_ w0 W g f0 f1 f2) (hne : g ≠ p.block) (u : Value) : zn_ w0 (W.setCell p u) g f0 f1 f2 := by
 obtain ⟨hb, hg⟩ := h
 exact ⟨blk_far hb hne u, hg⟩
theorem z0_ {W : World} {g : Nat} {f0 : ByteArray} {f1 : Int} {f2 : Bool} (h : W.heap[g]? = some (.cells #[.string f0, .int .i64 f1, .bool f2] 184 (0, 0))) : W.cell? ⟨g, 0, none⟩ = some (.string f0) := (zb_ h 0).trans rfl
theorem zn_.set_0 {w0 W : World} {g : Nat} {f0 : ByteArray} {f1 : Int} {f2 : Bool} (h : zn_ w0 W g f0 f1 f2) (x : ByteArray) : zn_ w0 (W.setCell ⟨g, 0, none⟩ (.string x)) g x f1 f2 := by
 obtain ⟨hb, hg⟩ := h
 exact ⟨by simpa using blk_set hb 0 (.string x), hg⟩
theorem zZ_ {W : World} {g : Nat} {f0 : ByteArray} {f1 : Int} {f2 : Bool} (h : W.heap[g]? = some (.cells #[.string f0, .int .i64 f1, .bool f2] 184 (0, 0))) : W.cell? ⟨g, 1, none⟩ = some (.int .i64 f1) := (zb_ h 1).trans rfl
theorem zn_.set_1 {w0 W : World} {g : Nat} {f0 : ByteArray} {f1 : Int} {f2 : Bool} (h : zn_ w0 W g f0 f1 f2) (x : Int) : zn_ w0 (W.setCell ⟨g, 1, none⟩ (.int .i64 x)) g f0 x f2 := by
 obtain ⟨hb, hg⟩ := h
 exact ⟨by simpa using blk_set hb 1 (.int .i64 x), hg⟩
theorem zY_ {W : World} {g : Nat} {f0 : ByteArray} {f1 : Int} {f2 : Bool} (h : W.heap[g]? = some (.cells #[.string f0, .int .i64 f1, .bool f2] 184 (0, 0))) : W.cell? ⟨g, 2, none⟩ = some (.bool f2) := (zb_ h 2).trans rfl
theorem zn_.set_2 {w0 W : World} {g : Nat} {f0 : ByteArray} {f1 : Int} {f2 : Bool} (h : zn_ w0 W g f0 f1 f2) (x : Bool) : zn_ w0 (W.setCell ⟨g, 2, none⟩ (.bool x)) g f0 f1 x := by
 obtain ⟨hb, hg⟩ := h
 exact ⟨by simpa using blk_set hb 2 (.bool x), hg⟩
theorem zn_.new (w0 W : World) (f0 : ByteArray) (f1 : Int) (f2 : Bool) (hB : Below w0.heap.size w0 W) : zn_ w0 (W.alloc (.cells #[.string f0, .int .i64 f1, .bool f2] 184)) W.heap.size f0 f1 f2 := ⟨by simpa using heap_alloc_new W _, hB.size⟩
/-! ### zv_: function 144 -/
theorem zn_.farA {w0 W : World} {g : Nat} {f0 : ByteArray} {f1 : Int} {f2 : Bool} {p : Addr} {u : Value} (hne : zd_ (g ≠ p.block)) (h : zn_ w0 W g f0 f1 f2) : zn_ w0 (W.setCell p u) g f0 f1 f2 := zn_.far h hne.out u
theorem z3_ {w0 W : World} {g : Nat} {f0 : ByteArray} {f1 : Int} {f2 : Bool} (h : zn_ w0 W g f0 f1 f2 := by repeat (first | (with_reducible first | (refine zd_.out ?_; assumption) | apply zn_.alloc | apply zn_.drewN | apply zn_.drew | (apply zn_.farA; assumption) | apply zn_.set_0 | apply zn_.set_1 | apply zn_.set_2) | (refine zd_.out ?_; assumption))) : zn_ w0 W g f0 f1 f2 := h
def zv_.f (k : Nat) (s0_0 : ByteArray) (s0_1 : Int) (s0_2 : Bool) : Option (Int × ByteArray × Int × Bool) := (zq_.f k s0_0 s0_1).bind fun bt447 => (if s0_2 = true then (some (0, s0_0, s0_1, true)) else (if bt447.2.2 = 0 then (some (bt447.1, s0_0, bt447.2.1, s0_2)) else (some (0, s0_0, s0_1, true))))
theorem zv_.mono : ∀ a0 a1 a2 k, LeO (zv_.f k a0 a1 a2) (zv_.f (k + 1) a0 a1 a2) := by
 intro a0 a1 a2 k
 unfold zv_.f
 repeat' with_reducible first | exact zq_.mono _ _ _ | exact LeO.refl _ | exact LeO.none _ | refine LeO.ite ?_ ?_ | refine LeO.bind ?_ (fun _ => ?_)
def zv_.T1 : Bool × List (List Nat × List Nat) := (true, [([], []), ([0], [0]), ([1], [1]), ([2], [2]), ([], []), ([4], [4]), ([5], [5]), ([6], [6]), ([3, 7], [3, 7]), ([], []), ([9, 8, 8, 0, 1, 2, 3, 4, 5, 6, 7, 8, 9], [8, 9])])
def zv_.B1 : List Nat := [0, 1, 3, 7, 0, 16, 48, 112, 255, 0, 1023]
theorem zv_.tab1 : rtab .any (opsOf Try.f144 1) = zv_.T1 := by kernel_rfl
theorem zv_.bits1 : xe_ zv_.T1.2 zv_.B1 = true := by kernel_rfl
theorem zv_.calls (k : Nat) (g : Nat) (s0_0 : ByteArray) (s0_1 : Int) (s0_2 : Bool) (r1 : Int) (r2 : ByteArray) (r3 : Int) (r4 : Bool) (w0 w : World) (hI : zn_ w0 w g s0_0 s0_1 s0_2) (hB : Below w0.heap.size w0 w) (h : zv_.f k s0_0 s0_1 s0_2 = some (r1, r2, r3, r4)) :
 Calls Try.prog 144 #[.pointer (some ⟨g, 0, none⟩)] w fun e w' => e = .returned (.int .i64 r1) ∧ zn_ w0 w' g r2 r3 r4 ∧ Below w0.heap.size w0 w' ∧ zs_ w w' g none := by
 have hu199 := Try.underlying199
 have HI0 := AM hI
 have HK := AM (zs_.refl w g none)
 have HL := AM hB.size
 clear hI
 have HW0 := AM hB.size
 have HB := AM hB
 clear hB
 have H : ((zq_.f k s0_0 s0_1).bind fun bt447 => (if s0_2 = true then (some (0, s0_0, s0_1, true)) else (if bt447.2.2 = 0 then (some (bt447.1, s0_0, bt447.2.1, s0_2)) else (some (0, s0_0, s0_1, true))))) = some (r1, r2, r3, r4) := h
 clear h
 obtain ⟨⟨t447, t448, t449⟩, A2, H⟩ := OB H
 try dsimp only at H
 replace A2 := AM A2
 by_cases c3 : s0_2 = true
 ·
  subst c3
  rw [if_pos rfl] at H
  simp only [Option.some.injEq, Prod.mk.injEq] at H
  obtain ⟨rfl, rfl, rfl, rfl⟩ := H
  go_enter Try.func144, Try.ntmps144
  try go_wp2
  replace HI0 := AM (zn_.drew HI0.out)
  replace HK := AM (yZ_ HK.out)
  replace HB := AM (z1_ HB.out)
  refine xi_ (n := 11) (S := fun w' => w'.cell? ⟨g, 0, none⟩ = some (.string s0_0) ∧ w'.cell? ⟨g, 1, none⟩ = some (.int .i64 s0_1) ∧ w'.cell? ⟨g, 2, none⟩ = some (.bool true)) (ds := []) (Array.replicate 11 false) (by kernel_rfl) rfl rfl ⟨(z0_ HI0.out.1), (zZ_ HI0.out.1), (zY_ HI0.out.1)⟩ (fun hHeld => ?_); refine yu_ zv_.tab1 zv_.bits1 (fun HT_ HW_ => ?_)
  generalize w.drew = w4 at HI0 HK HB hHeld ⊢
  refine pu_ HT_ 0 (some 4) (bA 11 1) ?_
  refine pu_ HT_ 1 (some 5) (bA 11 3) ?_
  refine pu_ HT_ 2 (some 6) (bA 11 7) ?_
  refine pu_ HT_ 4 (some 8) (bA 11 23) ?_
  refine pu_ HT_ 5 (some 9) (bA 11 55) ?_
  refine pu_ HT_ 6 (some 10) (bA 11 119) ?_
  refine ta_ HT_ HW_ 3 (some 7) (bA 11 127) hHeld ?_
  refine ta_ HT_ HW_ 7 (some 11) (bA 11 255) hHeld ?_
  refine join_ (σ := Nat) 1 #[true, true, true, true, true, true, true, true, true, true, false] (fun s_ => [(12, .agg #[.int .i64 t447, .int .i64 t448, .int .i64 t449]), (3, .pointer (some ⟨s_, 0, none⟩))]) (fun s_ w' => (w'.cell? ⟨g, 0, none⟩ = some (.string s0_0) ∧ w'.cell? ⟨g, 1, none⟩ = some (.int .i64 s0_1) ∧ w'.cell? ⟨g, 2, none⟩ = some (.bool true)) ∧ (w'.heap[s_]? = some (.cells #[.int .i64 0, .int .i64 0, .int .i64 0] 199 (0, 0))) ∧ (w.heap.size ≤ s_) ∧ (w0.heap.size ≤ s_) ∧ (g ≠ s_) ∧ (s_ ≠ g) ∧ (zn_ w0 w' g s0_0 s0_1 true) ∧ (zs_ w w' g none) ∧ (Below w0.heap.size w0 w')) ?_ ?_
  rotate_left
  ·
   intro hCont
   refine tw_ HT_ 8 9 (some 12) (some 3) (bA 11 511) (bA 11 767) (fun K hK => ?_) (fun K hK => ?_)
   ·
    skip
    refine go1_ Try.func201 #[.string s0_0, .int .i64 s0_1] ?_
    with_reducible refine (zq_.calls k s0_0 s0_1 t447 t448 t449 _ A2.out).mono ?_
    rintro e w5 ⟨rfl, hb⟩
    refine ⟨_, rfl, ?_⟩
    replace HK := AM (kb_ w g hb)
    replace HB := AM (zg_ (belg_ (zn_.ge HI0.out)) hb)
    replace HI0 := AM (zn_.below z3_ hb)
    (try clear hb)
    refine hK.out _ _ ⟨(z0_ HI0.out.1), (zZ_ HI0.out.1), (zY_ HI0.out.1)⟩ (fun hHeld => ?_)
    clear hK K
    refine nm_ ?_
    refine on_ HT_ 9 (some 3) (bA 11 1023) (fun K hK => ?_)
    refine bs_ 3 #[.int .i64 0, .int .i64 0, .int .i64 0] 199 ?_
    intro gb450 hg w6 hbox hb
    replace HB := AM (zg_ (belg_ (zn_.ge HI0.out)) hb)
    have BK450 := AM hbox
    have GW450 := AM ((by rw [hg]; exact (zF_ (w := w) (g := g) (row := none) kp_) : w.heap.size ≤ gb450))
    have GE450 := AM ((Nat.le_trans HW0.out (by rw [hg]; exact (zF_ (w := w) (g := g) (row := none) kp_) : w.heap.size ≤ gb450) : w0.heap.size ≤ gb450))
    replace HK := AM (kb_ w g hb)
    have NB0_450 := AM ((by rw [hg]; exact Nat.ne_of_lt (zn_.lt (show zn_ w0 _ g s0_0 s0_1 true from z3_)) : g ≠ gb450))
    have NB450_0 := AM ((by rw [hg]; exact Nat.ne_of_gt (zn_.lt (show zn_ w0 _ g s0_0 s0_1 true from z3_)) : gb450 ≠ g))
    replace HI0 := AM (zn_.below z3_ hb)
    clear hb hbox hg
    refine hK.out _ _ ⟨(z0_ HI0.out.1), (zZ_ HI0.out.1), (zY_ HI0.out.1)⟩ (fun hHeld => ?_)
    clear hK K
    refine nm_ ?_
    exact nmE_ (hCont (gb450) _ ⟨hHeld, (bk_ BK450.out), GW450.out, GE450.out, NB0_450.out, NB450_0.out, z3_, kp_, (belg_ (zn_.ge HI0.out))⟩)
   ·
    skip
    refine bs_ 3 #[.int .i64 0, .int .i64 0, .int .i64 0] 199 ?_
    intro gb450 hg w5 hbox hb
    replace HB := AM (zg_ (belg_ (zn_.ge HI0.out)) hb)
    have BK450 := AM hbox
    have GW450 := AM ((by rw [hg]; exact (zF_ (w := w) (g := g) (row := none) kp_) : w.heap.size ≤ gb450))
    have GE450 := AM ((Nat.le_trans HW0.out (by rw [hg]; exact (zF_ (w := w) (g := g) (row := none) kp_) : w.heap.size ≤ gb450) : w0.heap.size ≤ gb450))
    replace HK := AM (kb_ w g hb)
    have NB0_450 := AM ((by rw [hg]; exact Nat.ne_of_lt (zn_.lt (show zn_ w0 _ g s0_0 s0_1 true from z3_)) : g ≠ gb450))
    have NB450_0 := AM ((by rw [hg]; exact Nat.ne_of_gt (zn_.lt (show zn_ w0 _ g s0_0 s0_1 true from z3_)) : gb450 ≠ g))
    replace HI0 := AM (zn_.below z3_ hb)
    clear hb hbox hg
    refine hK.out _ _ ⟨(z0_ HI0.out.1), (zZ_ HI0.out.1), (zY_ HI0.out.1)⟩ (fun hHeld => ?_)
    clear hK K
    refine nm_ ?_
    refine on_ HT_ 8 (some 12) (bA 11 1023) (fun K hK => ?_)
    refine go1_ Try.func201 #[.string s0_0, .int .i64 s0_1] ?_
    with_reducible refine (zq_.calls k s0_0 s0_1 t447 t448 t449 _ A2.out).mono ?_
    rintro e w6 ⟨rfl, hb⟩
    refine ⟨_, rfl, ?_⟩
    replace BK450 := AM (zP_ (g := gb450) (o := .cells #[.int .i64 0, .int .i64 0, .int .i64 0] 199 (0, 0)) (bk_ BK450.out) hb)
    replace HK := AM (kb_ w g hb)
    replace HB := AM (zg_ (belg_ (zn_.ge HI0.out)) hb)
    replace HI0 := AM (zn_.below z3_ hb)
    (try clear hb)
    refine hK.out _ _ ⟨(z0_ HI0.out.1), (zZ_ HI0.out.1), (zY_ HI0.out.1)⟩ (fun hHeld => ?_)
    clear hK K
    refine nm_ ?_
    exact nmE_ (hCont (gb450) _ ⟨hHeld, (bk_ BK450.out), GW450.out, GE450.out, NB0_450.out, NB450_0.out, z3_, kp_, (belg_ (zn_.ge HI0.out))⟩)
  rintro gb450 w7 ⟨hS_, h0_, h1_, h2_, h3_, h4_, h5_, h6_, h7_⟩
  have BK450 : zd_ (w7.heap[gb450]? = some (.cells #[.int .i64 0, .int .i64 0, .int .i64 0] 199 (0, 0))) := ⟨h0_⟩
  have GW450 : zd_ (w.heap.size ≤ gb450) := ⟨h1_⟩
  have GE450 : zd_ (w0.heap.size ≤ gb450) := ⟨h2_⟩
  have NB0_450 : zd_ (g ≠ gb450) := ⟨h3_⟩
  have NB450_0 : zd_ (gb450 ≠ g) := ⟨h4_⟩
  replace HI0 : zd_ (zn_ w0 w7 g s0_0 s0_1 true) := ⟨h5_⟩
  replace HK : zd_ (zs_ w w7 g none) := ⟨h6_⟩
  replace HB : zd_ (Below w0.heap.size w0 w7) := ⟨h7_⟩
  clear h0_ h1_ h2_ h3_ h4_ h5_ h6_ h7_
  have hHeld : w7.cell? ⟨g, 0, none⟩ = some (.string s0_0) ∧ w7.cell? ⟨g, 1, none⟩ = some (.int .i64 s0_1) ∧ w7.cell? ⟨g, 2, none⟩ = some (.bool true) := hS_
  refine nmA_ ?_
  refine on_ HT_ 10 none (bA 11 2047) (fun K hK => ?_)
  have hs8 : w7.cell? ⟨gb450, 0, none⟩ = some (.int .i64 0) := (zb_ BK450.out 0).trans rfl
  have hfs8 := za_ BK450.out 0
  have hs9 : w7.cell? ⟨gb450, 1, none⟩ = some (.int .i64 0) := (zb_ BK450.out 1).trans rfl
  have hfs9 := za_ BK450.out 1
  have hs10 : w7.cell? ⟨gb450, 2, none⟩ = some (.int .i64 0) := (zb_ BK450.out 2).trans rfl
  have hfs10 := za_ BK450.out 2
  refine sk_ ?_
  refine hK.out _ _ ⟨(by (rw [cell_far, cell_far, cell_far]) <;> first | exact hHeld.1 | exact NB0_450.out), (by (rw [cell_far, cell_far, cell_far]) <;> first | exact hHeld.2.1 | exact NB0_450.out), (by (rw [cell_far, cell_far, cell_far]) <;> first | exact hHeld.2.2 | exact NB0_450.out)⟩ (fun hHeld => ?_)
  clear hK K
  refine dn_ HT_ ?_
  obtain ⟨HGz11, hgz11⟩ := HI0.out
  have hcz11_0 := z0_ HGz11
  have hcz11_1 := zZ_ HGz11
  have hcz11_2 := zY_ HGz11
  have hfz11_0 := za_ HGz11 0
  have hfz11_1 := za_ HGz11 1
  have hfz11_2 := za_ HGz11 2
  clear HGz11 hgz11
  try go_wp2
  go_ret
  exact ⟨ri_, z3_, belg_ (zn_.ge HI0.out), kp_⟩
 ·
  replace c3 := Bool.eq_false_iff.mpr c3
  subst c3
  rw [if_neg (show ¬ (false = true) by decide)] at H
  by_cases c12 : t449 = 0
  ·
   rw [if_pos c12] at H
   have c12b0 : (t449 == 0) = true := beq_iff_eq.mpr c12
   have c12b1 : (t449 != 0) = false := bne_eq_false_iff_eq.mpr c12
   clear c12
   simp only [Option.some.injEq, Prod.mk.injEq] at H
   obtain ⟨rfl, rfl, rfl, rfl⟩ := H
   go_enter Try.func144, Try.ntmps144
   try go_wp2
   replace HI0 := AM (zn_.drew HI0.out)
   replace HK := AM (yZ_ HK.out)
   replace HB := AM (z1_ HB.out)
   refine xi_ (n := 11) (S := fun w' => w'.cell? ⟨g, 0, none⟩ = some (.string s0_0) ∧ w'.cell? ⟨g, 1, none⟩ = some (.int .i64 s0_1) ∧ w'.cell? ⟨g, 2, none⟩ = some (.bool false)) (ds := []) (Array.replicate 11 false) (by kernel_rfl) rfl rfl ⟨(z0_ HI0.out.1), (zZ_ HI0.out.1), (zY_ HI0.out.1)⟩ (fun hHeld => ?_); refine yu_ zv_.tab1 zv_.bits1 (fun HT_ HW_ => ?_)
   generalize w.drew = w13 at HI0 HK HB hHeld ⊢
   refine pu_ HT_ 0 (some 4) (bA 11 1) ?_
   refine pu_ HT_ 1 (some 5) (bA 11 3) ?_
   refine pu_ HT_ 2 (some 6) (bA 11 7) ?_
   refine pu_ HT_ 4 (some 8) (bA 11 23) ?_
   refine pu_ HT_ 5 (some 9) (bA 11 55) ?_
   refine pu_ HT_ 6 (some 10) (bA 11 119) ?_
   refine ta_ HT_ HW_ 3 (some 7) (bA 11 127) hHeld ?_
   refine ta_ HT_ HW_ 7 (some 11) (bA 11 255) hHeld ?_
   refine join_ (σ := Nat) 1 #[true, true, true, true, true, true, true, true, true, true, false] (fun s_ => [(12, .agg #[.int .i64 t447, .int .i64 t448, .int .i64 t449]), (3, .pointer (some ⟨s_, 0, none⟩))]) (fun s_ w' => (w'.cell? ⟨g, 0, none⟩ = some (.string s0_0) ∧ w'.cell? ⟨g, 1, none⟩ = some (.int .i64 s0_1) ∧ w'.cell? ⟨g, 2, none⟩ = some (.bool false)) ∧ (w'.heap[s_]? = some (.cells #[.int .i64 0, .int .i64 0, .int .i64 0] 199 (0, 0))) ∧ (w.heap.size ≤ s_) ∧ (w0.heap.size ≤ s_) ∧ (g ≠ s_) ∧ (s_ ≠ g) ∧ (zn_ w0 w' g s0_0 s0_1 false) ∧ (zs_ w w' g none) ∧ (Below w0.heap.size w0 w')) ?_ ?_
   rotate_left
   ·
    intro hCont
    refine tw_ HT_ 8 9 (some 12) (some 3) (bA 11 511) (bA 11 767) (fun K hK => ?_) (fun K hK => ?_)
    ·
     skip
     refine go1_ Try.func201 #[.string s0_0, .int .i64 s0_1] ?_
     with_reducible refine (zq_.calls k s0_0 s0_1 t447 t448 t449 _ A2.out).mono ?_
     rintro e w14 ⟨rfl, hb⟩
     refine ⟨_, rfl, ?_⟩
     replace HK := AM (kb_ w g hb)
     replace HB := AM (zg_ (belg_ (zn_.ge HI0.out)) hb)
     replace HI0 := AM (zn_.below z3_ hb)
     (try clear hb)
     refine hK.out _ _ ⟨(z0_ HI0.out.1), (zZ_ HI0.out.1), (zY_ HI0.out.1)⟩ (fun hHeld => ?_)
     clear hK K
     refine nm_ ?_
     refine on_ HT_ 9 (some 3) (bA 11 1023) (fun K hK => ?_)
     refine bs_ 3 #[.int .i64 0, .int .i64 0, .int .i64 0] 199 ?_
     intro gb450 hg w15 hbox hb
     replace HB := AM (zg_ (belg_ (zn_.ge HI0.out)) hb)
     have BK450 := AM hbox
     have GW450 := AM ((by rw [hg]; exact (zF_ (w := w) (g := g) (row := none) kp_) : w.heap.size ≤ gb450))
     have GE450 := AM ((Nat.le_trans HW0.out (by rw [hg]; exact (zF_ (w := w) (g := g) (row := none) kp_) : w.heap.size ≤ gb450) : w0.heap.size ≤ gb450))
     replace HK := AM (kb_ w g hb)
     have NB0_450 := AM ((by rw [hg]; exact Nat.ne_of_lt (zn_.lt (show zn_ w0 _ g s0_0 s0_1 false from z3_)) : g ≠ gb450))
     have NB450_0 := AM ((by rw [hg]; exact Nat.ne_of_gt (zn_.lt (show zn_ w0 _ g s0_0 s0_1 false from z3_)) : gb450 ≠ g))
     replace HI0 := AM (zn_.below z3_ hb)
     clear hb hbox hg
     refine hK.out _ _ ⟨(z0_ HI0.out.1), (zZ_ HI0.out.1), (zY_ HI0.out.1)⟩ (fun hHeld => ?_)
     clear hK K
     refine nm_ ?_
     exact nmE_ (hCont (gb450) _ ⟨hHeld, (bk_ BK450.out), GW450.out, GE450.out, NB0_450.out, NB450_0.out, z3_, kp_, (belg_ (zn_.ge HI0.out))⟩)
    ·
     skip
     refine bs_ 3 #[.int .i64 0, .int .i64 0, .int .i64 0] 199 ?_
     intro gb450 hg w14 hbox hb
     replace HB := AM (zg_ (belg_ (zn_.ge HI0.out)) hb)
     have BK450 := AM hbox
     have GW450 := AM ((by rw [hg]; exact (zF_ (w := w) (g := g) (row := none) kp_) : w.heap.size ≤ gb450))
     have GE450 := AM ((Nat.le_trans HW0.out (by rw [hg]; exact (zF_ (w := w) (g := g) (row := none) kp_) : w.heap.size ≤ gb450) : w0.heap.size ≤ gb450))
     replace HK := AM (kb_ w g hb)
     have NB0_450 := AM ((by rw [hg]; exact Nat.ne_of_lt (zn_.lt (show zn_ w0 _ g s0_0 s0_1 false from z3_)) : g ≠ gb450))
     have NB450_0 := AM ((by rw [hg]; exact Nat.ne_of_gt (zn_.lt (show zn_ w0 _ g s0_0 s0_1 false from z3_)) : gb450 ≠ g))
     replace HI0 := AM (zn_.below z3_ hb)
     clear hb hbox hg
     refine hK.out _ _ ⟨(z0_ HI0.out.1), (zZ_ HI0.out.1), (zY_ HI0.out.1)⟩ (fun hHeld => ?_)
     clear hK K
     refine nm_ ?_
     refine on_ HT_ 8 (some 12) (bA 11 1023) (fun K hK => ?_)
     refine go1_ Try.func201 #[.string s0_0, .int .i64 s0_1] ?_
     with_reducible refine (zq_.calls k s0_0 s0_1 t447 t448 t449 _ A2.out).mono ?_
     rintro e w15 ⟨rfl, hb⟩
     refine ⟨_, rfl, ?_⟩
     replace BK450 := AM (zP_ (g := gb450) (o := .cells #[.int .i64 0, .int .i64 0, .int .i64 0] 199 (0, 0)) (bk_ BK450.out) hb)
     replace HK := AM (kb_ w g hb)
     replace HB := AM (zg_ (belg_ (zn_.ge HI0.out)) hb)
     replace HI0 := AM (zn_.below z3_ hb)
     (try clear hb)
     refine hK.out _ _ ⟨(z0_ HI0.out.1), (zZ_ HI0.out.1), (zY_ HI0.out.1)⟩ (fun hHeld => ?_)
     clear hK K
     refine nm_ ?_
     exact nmE_ (hCont (gb450) _ ⟨hHeld, (bk_ BK450.out), GW450.out, GE450.out, NB0_450.out, NB450_0.out, z3_, kp_, (belg_ (zn_.ge HI0.out))⟩)
   rintro gb450 w16 ⟨hS_, h0_, h1_, h2_, h3_, h4_, h5_, h6_, h7_⟩
   have BK450 : zd_ (w16.heap[gb450]? = some (.cells #[.int .i64 0, .int .i64 0, .int .i64 0] 199 (0, 0))) := ⟨h0_⟩
   have GW450 : zd_ (w.heap.size ≤ gb450) := ⟨h1_⟩
   have GE450 : zd_ (w0.heap.size ≤ gb450) := ⟨h2_⟩
   have NB0_450 : zd_ (g ≠ gb450) := ⟨h3_⟩
   have NB450_0 : zd_ (gb450 ≠ g) := ⟨h4_⟩
   replace HI0 : zd_ (zn_ w0 w16 g s0_0 s0_1 false) := ⟨h5_⟩
   replace HK : zd_ (zs_ w w16 g none) := ⟨h6_⟩
   replace HB : zd_ (Below w0.heap.size w0 w16) := ⟨h7_⟩
   clear h0_ h1_ h2_ h3_ h4_ h5_ h6_ h7_
   have hHeld : w16.cell? ⟨g, 0, none⟩ = some (.string s0_0) ∧ w16.cell? ⟨g, 1, none⟩ = some (.int .i64 s0_1) ∧ w16.cell? ⟨g, 2, none⟩ = some (.bool false) := hS_
   refine nmA_ ?_
   refine on_ HT_ 10 none (bA 11 2047) (fun K hK => ?_)
   have hs17 : w16.cell? ⟨gb450, 0, none⟩ = some (.int .i64 0) := (zb_ BK450.out 0).trans rfl
   have hfs17 := za_ BK450.out 0
   have hs18 : w16.cell? ⟨gb450, 1, none⟩ = some (.int .i64 0) := (zb_ BK450.out 1).trans rfl
   have hfs18 := za_ BK450.out 1
   have hs19 : w16.cell? ⟨gb450, 2, none⟩ = some (.int .i64 0) := (zb_ BK450.out 2).trans rfl
   have hfs19 := za_ BK450.out 2
   refine sk_ ?_
   refine hK.out _ _ ⟨(by (rw [cell_far, cell_far, cell_far]) <;> first | exact hHeld.1 | exact NB0_450.out), (by (rw [cell_far, cell_far, cell_far]) <;> first | exact hHeld.2.1 | exact NB0_450.out), (by (rw [cell_far, cell_far, cell_far]) <;> first | exact hHeld.2.2 | exact NB0_450.out)⟩ (fun hHeld => ?_)
   clear hK K
   refine dn_ HT_ ?_
   obtain ⟨HGz20, hgz20⟩ := HI0.out
   have hcz20_0 := z0_ HGz20
   have hcz20_1 := zZ_ HGz20
   have hcz20_2 := zY_ HGz20
   have hfz20_0 := za_ HGz20 0
   have hfz20_1 := za_ HGz20 1
   have hfz20_2 := za_ HGz20 2
   clear HGz20 hgz20
   have hnb21 := NB450_0.out
   have hnc21 := NB0_450.out
   have hcz22_0 : w16.cell? ⟨gb450, 0, none⟩ = some (.int .i64 0) := (zb_ BK450.out 0).trans rfl
   have hcz22_1 : w16.cell? ⟨gb450, 1, none⟩ = some (.int .i64 0) := (zb_ BK450.out 1).trans rfl
   have hcz22_2 : w16.cell? ⟨gb450, 2, none⟩ = some (.int .i64 0) := (zb_ BK450.out 2).trans rfl
   have hfz22_0 := za_ BK450.out 0
   have hfz22_1 := za_ BK450.out 1
   have hfz22_2 := za_ BK450.out 2
   try go_wp2
   go_ret
   exact ⟨ri_, z3_, belg_ (zn_.ge HI0.out), kp_⟩
  ·
   rw [if_neg c12] at H
   have c12b0 : (t449 == 0) = false := beq_eq_false_iff_ne.mpr c12
   have c12b1 : (t449 != 0) = true := bne_iff_ne.mpr c12
   simp only [Option.some.injEq, Prod.mk.injEq] at H
   obtain ⟨rfl, rfl, rfl, rfl⟩ := H
   go_enter Try.func144, Try.ntmps144
   try go_wp2
   replace HI0 := AM (zn_.drew HI0.out)
   replace HK := AM (yZ_ HK.out)
   replace HB := AM (z1_ HB.out)
   refine xi_ (n := 11) (S := fun w' => w'.cell? ⟨g, 0, none⟩ = some (.string s0_0) ∧ w'.cell? ⟨g, 1, none⟩ = some (.int .i64 s0_1) ∧ w'.cell? ⟨g, 2, none⟩ = some (.bool false)) (ds := []) (Array.replicate 11 false) (by kernel_rfl) rfl rfl ⟨(z0_ HI0.out.1), (zZ_ HI0.out.1), (zY_ HI0.out.1)⟩ (fun hHeld => ?_); refine yu_ zv_.tab1 zv_.bits1 (fun HT_ HW_ => ?_)
   generalize w.drew = w23 at HI0 HK HB hHeld ⊢
   refine pu_ HT_ 0 (some 4) (bA 11 1) ?_
   refine pu_ HT_ 1 (some 5) (bA 11 3) ?_
   refine pu_ HT_ 2 (some 6) (bA 11 7) ?_
   refine pu_ HT_ 4 (some 8) (bA 11 23) ?_
   refine pu_ HT_ 5 (some 9) (bA 11 55) ?_
   refine pu_ HT_ 6 (some 10) (bA 11 119) ?_
   refine ta_ HT_ HW_ 3 (some 7) (bA 11 127) hHeld ?_
   refine ta_ HT_ HW_ 7 (some 11) (bA 11 255) hHeld ?_
   refine join_ (σ := Nat) 1 #[true, true, true, true, true, true, true, true, true, true, false] (fun s_ => [(12, .agg #[.int .i64 t447, .int .i64 t448, .int .i64 t449]), (3, .pointer (some ⟨s_, 0, none⟩))]) (fun s_ w' => (w'.cell? ⟨g, 0, none⟩ = some (.string s0_0) ∧ w'.cell? ⟨g, 1, none⟩ = some (.int .i64 s0_1) ∧ w'.cell? ⟨g, 2, none⟩ = some (.bool false)) ∧ (w'.heap[s_]? = some (.cells #[.int .i64 0, .int .i64 0, .int .i64 0] 199 (0, 0))) ∧ (w.heap.size ≤ s_) ∧ (w0.heap.size ≤ s_) ∧ (g ≠ s_) ∧ (s_ ≠ g) ∧ (zn_ w0 w' g s0_0 s0_1 false) ∧ (zs_ w w' g none) ∧ (Below w0.heap.size w0 w')) ?_ ?_
   rotate_left
   ·
    intro hCont
    refine tw_ HT_ 8 9 (some 12) (some 3) (bA 11 511) (bA 11 767) (fun K hK => ?_) (fun K hK => ?_)
    ·
     skip
     refine go1_ Try.func201 #[.string s0_0, .int .i64 s0_1] ?_
     with_reducible refine (zq_.calls k s0_0 s0_1 t447 t448 t449 _ A2.out).mono ?_
     rintro e w24 ⟨rfl, hb⟩
     refine ⟨_, rfl, ?_⟩
     replace HK := AM (kb_ w g hb)
     replace HB := AM (zg_ (belg_ (zn_.ge HI0.out)) hb)
     replace HI0 := AM (zn_.below z3_ hb)
     (try clear hb)
     refine hK.out _ _ ⟨(z0_ HI0.out.1), (zZ_ HI0.out.1), (zY_ HI0.out.1)⟩ (fun hHeld => ?_)
     clear hK K
     refine nm_ ?_
     refine on_ HT_ 9 (some 3) (bA 11 1023) (fun K hK => ?_)
     refine bs_ 3 #[.int .i64 0, .int .i64 0, .int .i64 0] 199 ?_
     intro gb450 hg w25 hbox hb
     replace HB := AM (zg_ (belg_ (zn_.ge HI0.out)) hb)
     have BK450 := AM hbox
     have GW450 := AM ((by rw [hg]; exact (zF_ (w := w) (g := g) (row := none) kp_) : w.heap.size ≤ gb450))
     have GE450 := AM ((Nat.le_trans HW0.out (by rw [hg]; exact (zF_ (w := w) (g := g) (row := none) kp_) : w.heap.size ≤ gb450) : w0.heap.size ≤ gb450))
     replace HK := AM (kb_ w g hb)
     have NB0_450 := AM ((by rw [hg]; exact Nat.ne_of_lt (zn_.lt (show zn_ w0 _ g s0_0 s0_1 false from z3_)) : g ≠ gb450))
     have NB450_0 := AM ((by rw [hg]; exact Nat.ne_of_gt (zn_.lt (show zn_ w0 _ g s0_0 s0_1 false from z3_)) : gb450 ≠ g))
     replace HI0 := AM (zn_.below z3_ hb)
     clear hb hbox hg
     refine hK.out _ _ ⟨(z0_ HI0.out.1), (zZ_ HI0.out.1), (zY_ HI0.out.1)⟩ (fun hHeld => ?_)
     clear hK K
     refine nm_ ?_
     exact nmE_ (hCont (gb450) _ ⟨hHeld, (bk_ BK450.out), GW450.out, GE450.out, NB0_450.out, NB450_0.out, z3_, kp_, (belg_ (zn_.ge HI0.out))⟩)
    ·
     skip
     refine bs_ 3 #[.int .i64 0, .int .i64 0, .int .i64 0] 199 ?_
     intro gb450 hg w24 hbox hb
     replace HB := AM (zg_ (belg_ (zn_.ge HI0.out)) hb)
     have BK450 := AM hbox
     have GW450 := AM ((by rw [hg]; exact (zF_ (w := w) (g := g) (row := none) kp_) : w.heap.size ≤ gb450))
     have GE450 := AM ((Nat.le_trans HW0.out (by rw [hg]; exact (zF_ (w := w) (g := g) (row := none) kp_) : w.heap.size ≤ gb450) : w0.heap.size ≤ gb450))
     replace HK := AM (kb_ w g hb)
     have NB0_450 := AM ((by rw [hg]; exact Nat.ne_of_lt (zn_.lt (show zn_ w0 _ g s0_0 s0_1 false from z3_)) : g ≠ gb450))
     have NB450_0 := AM ((by rw [hg]; exact Nat.ne_of_gt (zn_.lt (show zn_ w0 _ g s0_0 s0_1 false from z3_)) : gb450 ≠ g))
     replace HI0 := AM (zn_.below z3_ hb)
     clear hb hbox hg
     refine hK.out _ _ ⟨(z0_ HI0.out.1), (zZ_ HI0.out.1), (zY_ HI0.out.1)⟩ (fun hHeld => ?_)
     clear hK K
     refine nm_ ?_
     refine on_ HT_ 8 (some 12) (bA 11 1023) (fun K hK => ?_)
     refine go1_ Try.func201 #[.string s0_0, .int .i64 s0_1] ?_
     with_reducible refine (zq_.calls k s0_0 s0_1 t447 t448 t449 _ A2.out).mono ?_
     rintro e w25 ⟨rfl, hb⟩
     refine ⟨_, rfl, ?_⟩
     replace BK450 := AM (zP_ (g := gb450) (o := .cells #[.int .i64 0, .int .i64 0, .int .i64 0] 199 (0, 0)) (bk_ BK450.out) hb)
     replace HK := AM (kb_ w g hb)
     replace HB := AM (zg_ (belg_ (zn_.ge HI0.out)) hb)
     replace HI0 := AM (zn_.below z3_ hb)
     (try clear hb)
     refine hK.out _ _ ⟨(z0_ HI0.out.1), (zZ_ HI0.out.1), (zY_ HI0.out.1)⟩ (fun hHeld => ?_)
     clear hK K
     refine nm_ ?_
     exact nmE_ (hCont (gb450) _ ⟨hHeld, (bk_ BK450.out), GW450.out, GE450.out, NB0_450.out, NB450_0.out, z3_, kp_, (belg_ (zn_.ge HI0.out))⟩)
   rintro gb450 w26 ⟨hS_, h0_, h1_, h2_, h3_, h4_, h5_, h6_, h7_⟩
   have BK450 : zd_ (w26.heap[gb450]? = some (.cells #[.int .i64 0, .int .i64 0, .int .i64 0] 199 (0, 0))) := ⟨h0_⟩
   have GW450 : zd_ (w.heap.size ≤ gb450) := ⟨h1_⟩
   have GE450 : zd_ (w0.heap.size ≤ gb450) := ⟨h2_⟩
   have NB0_450 : zd_ (g ≠ gb450) := ⟨h3_⟩
   have NB450_0 : zd_ (gb450 ≠ g) := ⟨h4_⟩
   replace HI0 : zd_ (zn_ w0 w26 g s0_0 s0_1 false) := ⟨h5_⟩
   replace HK : zd_ (zs_ w w26 g none) := ⟨h6_⟩
   replace HB : zd_ (Below w0.heap.size w0 w26) := ⟨h7_⟩
   clear h0_ h1_ h2_ h3_ h4_ h5_ h6_ h7_
   have hHeld : w26.cell? ⟨g, 0, none⟩ = some (.string s0_0) ∧ w26.cell? ⟨g, 1, none⟩ = some (.int .i64 s0_1) ∧ w26.cell? ⟨g, 2, none⟩ = some (.bool false) := hS_
   refine nmA_ ?_
   refine on_ HT_ 10 none (bA 11 2047) (fun K hK => ?_)
   have hs27 : w26.cell? ⟨gb450, 0, none⟩ = some (.int .i64 0) := (zb_ BK450.out 0).trans rfl
   have hfs27 := za_ BK450.out 0
   have hs28 : w26.cell? ⟨gb450, 1, none⟩ = some (.int .i64 0) := (zb_ BK450.out 1).trans rfl
   have hfs28 := za_ BK450.out 1
   have hs29 : w26.cell? ⟨gb450, 2, none⟩ = some (.int .i64 0) := (zb_ BK450.out 2).trans rfl
   have hfs29 := za_ BK450.out 2
   refine sk_ ?_
   refine hK.out _ _ ⟨(by (rw [cell_far, cell_far, cell_far]) <;> first | exact hHeld.1 | exact NB0_450.out), (by (rw [cell_far, cell_far, cell_far]) <;> first | exact hHeld.2.1 | exact NB0_450.out), (by (rw [cell_far, cell_far, cell_far]) <;> first | exact hHeld.2.2 | exact NB0_450.out)⟩ (fun hHeld => ?_)
   clear hK K
   refine dn_ HT_ ?_
   obtain ⟨HGz30, hgz30⟩ := HI0.out
   have hcz30_0 := z0_ HGz30
   have hcz30_1 := zZ_ HGz30
   have hcz30_2 := zY_ HGz30
   have hfz30_0 := za_ HGz30 0
   have hfz30_1 := za_ HGz30 1
   have hfz30_2 := za_ HGz30 2
   clear HGz30 hgz30
   have hnb31 := NB450_0.out
   have hnc31 := NB0_450.out
   have hcz32_0 : w26.cell? ⟨gb450, 0, none⟩ = some (.int .i64 0) := (zb_ BK450.out 0).trans rfl
   have hcz32_1 : w26.cell? ⟨gb450, 1, none⟩ = some (.int .i64 0) := (zb_ BK450.out 1).trans rfl
   have hcz32_2 : w26.cell? ⟨gb450, 2, none⟩ = some (.int .i64 0) := (zb_ BK450.out 2).trans rfl
   have hfz32_0 := za_ BK450.out 0
   have hfz32_1 := za_ BK450.out 1
   have hfz32_2 := za_ BK450.out 2
   try go_wp2
   go_ret
   exact ⟨ri_, z3_, belg_ (zn_.ge HI0.out), kp_⟩
end Go.Proofs.Ytfffdndeccipnaa.PFnNodes
