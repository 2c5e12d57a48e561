/- Functions of the law FnNodes: the print's, with walks of this session's own. No statement is proved here. -/
import Derived.WalkLawsBesides
import Derived.Test.YtfffdndeccipnaaPFnNodesx21
namespace Go.Proofs.Ytfffdndeccipnaa.PFnNodes
open Go.RowKit Go.Proofs.YtfffdndeccipnaaW.PrintWords Go.Proofs.YtfffdndeccipnaaW.PrintLast Go.Proofs.YtfffdndeccipnaaW.PrintMore Go.Proofs.Ytfffdndeccipnaa.Reg Go.Proofs.Ytfffdndeccipnaa.Aut
attribute [local go_sem] xE_ xC_ max_two min_two xn_ xm_ xD_ xB_
set_option linter.unusedVariables false
set_option linter.unusedSimpArgs false
set_option maxHeartbeats 8000000
set_option maxRecDepth 100000
/-! ### zM_: function 202 -/
def zM_.j0 : Nat → ByteArray → Bool → Int → Int → Int → Option (ByteArray × Int × Int)
 | 0, _, _, _, _, _ => none
 | k + 1, x0, x22, x456000, x456001, x456002 => if x22 = true then (some ((⟨#[]⟩ : ByteArray), 0, 3)) else (if x456001 > (wrap64 ((x0.size : Int) - x456000)) then (some ((⟨#[]⟩ : ByteArray), 0, 4)) else (if 0 ≤ x456001 then (if x456001 ≤ (wrap64 (x456001 + x456000)) then (if (wrap64 (x456001 + x456000)) ≤ (x0.size : Int) then (some (x0.extract (x456001 : Int).toNat ((wrap64 (x456001 + x456000)) : Int).toNat, wrap64 (x456001 + x456000), 0)) else (none)) else (none)) else (none)))
def zM_.f (k : Nat) (a0 : ByteArray) (a1 : Int) : Option (ByteArray × Int × Int) := (zq_.f k a0 a1).bind fun bt452 => (if bt452.2.2 = 0 then (if bt452.1 < 0 then (zM_.j0 k a0 true bt452.1 bt452.2.1 bt452.2.2) else (zM_.j0 k a0 (decide (bt452.1 > 20000)) bt452.1 bt452.2.1 bt452.2.2)) else (some ((⟨#[]⟩ : ByteArray), 0, bt452.2.2)))
theorem zM_.mono_l : ∀ k, (∀ y0 y1 y2 y3 y4, LeO (zM_.j0 k y0 y1 y2 y3 y4) (zM_.j0 (k + 1) y0 y1 y2 y3 y4))
 | 0 => fun _ _ _ _ _ r h => by simp [zM_.j0] at h
 | k + 1 => by
  have ih0 := zM_.mono_l k
  ·
   intro y0 y1 y2 y3 y4
   unfold zM_.j0
   repeat' with_reducible first | exact ih0 _ _ _ _ _ | exact zq_.mono _ _ _ | exact LeO.refl _ | exact LeO.none _ | refine LeO.ite ?_ ?_ | refine LeO.bind ?_ (fun _ => ?_)
theorem zM_.mono : ∀ a0 a1 k, LeO (zM_.f k a0 a1) (zM_.f (k + 1) a0 a1) := by
 intro a0 a1 k
 have ih0 := zM_.mono_l k
 unfold zM_.f
 repeat' with_reducible first | exact ih0 _ _ _ _ _ | exact zq_.mono _ _ _ | exact LeO.refl _ | exact LeO.none _ | refine LeO.ite ?_ ?_ | refine LeO.bind ?_ (fun _ => ?_)
def zM_.T8 : Bool × List (List Nat × List Nat) := (true, [([], []), ([], []), ([1], [1]), ([], []), ([3], [3]), ([], []), ([5], [5]), ([4, 6], [4, 6]), ([0, 2, 7], [0, 2, 7]), ([], []), ([9], [9]), ([], []), ([11], [11]), ([10, 12], [10, 12]), ([8, 13], [8, 13]), ([14, 0, 1, 2, 3, 4, 5, 6, 7, 8, 9, 10, 11, 12, 13, 14], [14])])
def zM_.B8 : List Nat := [0, 0, 2, 0, 8, 0, 32, 120, 255, 0, 512, 0, 2048, 7680, 16383, 32767]
theorem zM_.tab8 : rtab .any (opsOf Try.f202 8) = zM_.T8 := by kernel_rfl
theorem zM_.bits8 : xe_ zM_.T8.2 zM_.B8 = true := by kernel_rfl
theorem zM_.calls (k : Nat) (a0 : ByteArray) (a1 : Int) (r1 : ByteArray) (r2 : Int) (r3 : Int) (w : World) (h : zM_.f k a0 a1 = some (r1, r2, r3)) :
 Calls Try.prog 202 #[.string a0, .int .i64 a1] w fun e w' => e = .returned (.agg #[.string r1, .int .i64 r2, .int .i64 r3]) ∧ Below w.heap.size w w' := by
 have hu202 := Try.underlying202
 have hu199 := Try.underlying199
 have HB := AM (Below.refl w.heap.size w)
 have H : ((zq_.f k a0 a1).bind fun bt452 => (if bt452.2.2 = 0 then (if bt452.1 < 0 then (zM_.j0 k a0 true bt452.1 bt452.2.1 bt452.2.2) else (zM_.j0 k a0 (decide (bt452.1 > 20000)) bt452.1 bt452.2.1 bt452.2.2)) else (some ((⟨#[]⟩ : ByteArray), 0, bt452.2.2)))) = some (r1, r2, r3) := h
 clear h
 obtain ⟨⟨t452, t453, t454⟩, A3, H⟩ := OB H
 try dsimp only at H
 replace A3 := AM A3
 by_cases c4 : t454 = 0
 ·
  rw [if_pos c4] at H
  have c4b0 : (t454 == 0) = true := beq_iff_eq.mpr c4
  have c4b1 : (t454 != 0) = false := bne_eq_false_iff_eq.mpr c4
  clear c4
  have HC5 := AM H
  clear H
  go_enter Try.func202, Try.ntmps202
  go_upto_region 4 with (first | ((with_reducible refine z6_ (N := 4) rfl ?_); refine be_ 4 #[.string (⟨#[]⟩ : ByteArray), .int .i64 0, .int .i64 0] 202 ?_; intro gb451 hg w6 hbox hb; have BK451 := AM hbox; have GW451 := AM ((by rw [hg]; exact (zj_ bel_) : w.heap.size ≤ gb451)); have GE451 := AM ((by rw [hg]; exact (zj_ bel_) : w.heap.size ≤ gb451)); replace HB := AM (zg_ bel_ hb); clear hb hbox hg) | ((with_reducible refine zl_ (f := 201) rfl ?_); refine gl_ (some 8) Try.func201 #[.string a0, .int .i64 a1] ?_; (with_reducible refine (zq_.calls k a0 a1 t452 t453 t454 _ A3.out).mono ?_); rintro e w7 ⟨rfl, hb⟩; refine ⟨_, rfl, ?_⟩; replace BK451 := AM (zP_ (g := gb451) (o := .cells #[.string (⟨#[]⟩ : ByteArray), .int .i64 0, .int .i64 0] 202 (0, 0)) (bk_ BK451.out) hb); replace HB := AM (zg_ bel_ hb); (try clear hb)) | ((with_reducible refine z6_ (N := 5) rfl ?_); refine be_ 5 #[.int .i64 0, .int .i64 0, .int .i64 0] 199 ?_; intro gb455 hg w8 hbox hb; have BK455 := AM hbox; have GW455 := AM ((by rw [hg]; exact (zj_ bel_) : w.heap.size ≤ gb455)); have GE455 := AM ((by rw [hg]; exact (zj_ bel_) : w.heap.size ≤ gb455)); replace HB := AM (zg_ bel_ hb); have NB451_455 := AM ((by rw [hg]; exact Nat.ne_of_lt (yS_ (g := gb451) (o := .cells #[.string (⟨#[]⟩ : ByteArray), .int .i64 0, .int .i64 0] 202 (0, 0)) (bk_ BK451.out)) : gb451 ≠ gb455)); have NB455_451 := AM ((by rw [hg]; exact Nat.ne_of_gt (yS_ (g := gb451) (o := .cells #[.string (⟨#[]⟩ : ByteArray), .int .i64 0, .int .i64 0] 202 (0, 0)) (bk_ BK451.out)) : gb455 ≠ gb451)); replace BK451 := AM (zP_ (g := gb451) (o := .cells #[.string (⟨#[]⟩ : ByteArray), .int .i64 0, .int .i64 0] 202 (0, 0)) (bk_ BK451.out) hb); clear hb hbox hg; have hnb9 := NB455_451.out; have hnc9 := NB451_455.out; have hcz10_0 : w8.cell? ⟨gb455, 0, none⟩ = some (.int .i64 0) := (zb_ BK455.out 0).trans rfl; have hcz10_1 : w8.cell? ⟨gb455, 1, none⟩ = some (.int .i64 0) := (zb_ BK455.out 1).trans rfl; have hcz10_2 : w8.cell? ⟨gb455, 2, none⟩ = some (.int .i64 0) := (zb_ BK455.out 2).trans rfl; have hfz10_0 := za_ BK455.out 0; have hfz10_1 := za_ BK455.out 1; have hfz10_2 := za_ BK455.out 2))
  (try simp only [Act.put, List.setIfInBounds_toArray, List.set_cons_zero, List.set_cons_succ])
  go_cut [22] (fun v22 wc => ∃ (kq : Nat) (x22_4 : Bool), v22 = .bool x22_4 ∧ zd_ (zM_.j0 kq a0 x22_4 t452 t453 t454 = some (r1, r2, r3)) ∧ zd_ (kq ≤ k) ∧ zd_ (wc.heap[gb451]? = some (.cells #[.string (⟨#[]⟩ : ByteArray), .int .i64 0, .int .i64 0] 202 (0, 0))) ∧ zd_ (wc.heap[gb455]? = some (.cells #[.int .i64 t452, .int .i64 t453, .int .i64 t454] 199 (0, 0))) ∧ zd_ (Below w.heap.size w wc))
  case first =>
   have H := HC5.out
   clear HC5
   by_cases c11 : t452 < 0
   ·
    rw [if_pos c11] at H
    have c11b0 : decide (t452 < 0) = true := decide_eq_true c11
    clear c11
    (first | rw [c11b0] | (simp only [i64_w, i32_w]; rw [c11b0]) | skip)
    have H' := AM H
    clear H
    have hnb12 := NB455_451.out
    have hnc12 := NB451_455.out
    have hcz13_0 : w8.cell? ⟨gb455, 0, none⟩ = some (.int .i64 0) := (zb_ BK455.out 0).trans rfl
    have hcz13_1 : w8.cell? ⟨gb455, 1, none⟩ = some (.int .i64 0) := (zb_ BK455.out 1).trans rfl
    have hcz13_2 : w8.cell? ⟨gb455, 2, none⟩ = some (.int .i64 0) := (zb_ BK455.out 2).trans rfl
    have hfz13_0 := za_ BK455.out 0
    have hfz13_1 := za_ BK455.out 1
    have hfz13_2 := za_ BK455.out 2
    go_wp2
    go_meet
    case rel => exact ⟨_, (true), re_, H', ⟨by first | omega | exact Nat.le_refl _⟩, ⟨bka_⟩, ⟨bka_⟩, ⟨bel_⟩⟩
   ·
    rw [if_neg c11] at H
    have c11b0 : decide (t452 < 0) = false := decide_eq_false c11
    clear c11
    (first | rw [c11b0] | (simp only [i64_w, i32_w]; rw [c11b0]) | skip)
    have H' := AM H
    clear H
    have hnb14 := NB455_451.out
    have hnc14 := NB451_455.out
    have hcz15_0 : w8.cell? ⟨gb455, 0, none⟩ = some (.int .i64 0) := (zb_ BK455.out 0).trans rfl
    have hcz15_1 : w8.cell? ⟨gb455, 1, none⟩ = some (.int .i64 0) := (zb_ BK455.out 1).trans rfl
    have hcz15_2 : w8.cell? ⟨gb455, 2, none⟩ = some (.int .i64 0) := (zb_ BK455.out 2).trans rfl
    have hfz15_0 := za_ BK455.out 0
    have hfz15_1 := za_ BK455.out 1
    have hfz15_2 := za_ BK455.out 2
    go_wp2
    go_meet
    case rel => exact ⟨_, (decide (t452 > 20000)), re_, H', ⟨by first | omega | exact Nat.le_refl _⟩, ⟨bka_⟩, ⟨bka_⟩, ⟨bel_⟩⟩
  case rest =>
   clear HC5
   (try clear c4b0); (try clear c4b1); (try clear c11b0); (try clear hcz10_0); (try clear hcz10_1); (try clear hcz10_2); (try clear hcz13_0); (try clear hcz13_1); (try clear hcz13_2); (try clear hcz15_0); (try clear hcz15_1); (try clear hcz15_2); (try clear hfz10_0); (try clear hfz10_1); (try clear hfz10_2); (try clear hfz13_0); (try clear hfz13_1); (try clear hfz13_2); (try clear hfz15_0); (try clear hfz15_1); (try clear hfz15_2)
   obtain ⟨kq, x22_4, rfl, HA, HJ4, BK451, BK455, HB⟩ := hcut
   cases kq with
   | zero => exact absurd HA.out (by simp [zM_.j0])
   | succ kj4 =>
    have H := HA.out
    clear HA
    simp only [zM_.j0] at H
    by_cases c16 : x22_4 = true
    ·
     subst c16
     rw [if_pos rfl] at H
     simp only [Option.some.injEq, Prod.mk.injEq] at H
     obtain ⟨rfl, rfl, rfl⟩ := H
     have hnb17 := NB451_455.out
     have hnc17 := NB455_451.out
     have hcz18_0 : wc.cell? ⟨gb451, 0, none⟩ = some (.string (⟨#[]⟩ : ByteArray)) := (zb_ BK451.out 0).trans rfl
     have hcz18_1 : wc.cell? ⟨gb451, 1, none⟩ = some (.int .i64 0) := (zb_ BK451.out 1).trans rfl
     have hcz18_2 : wc.cell? ⟨gb451, 2, none⟩ = some (.int .i64 0) := (zb_ BK451.out 2).trans rfl
     have hfz18_0 := za_ BK451.out 0
     have hfz18_1 := za_ BK451.out 1
     have hfz18_2 := za_ BK451.out 2
     go_wp2
     refine bodyPost_ret (results_cell_row rfl _ _ gb451 202 #[.string (⟨#[]⟩ : ByteArray), .int .i64 0, .int .i64 3] (0, 0) _ rfl bka_ Try.underlying202 rfl (by kernel_rfl)) rfl ?_
     exact ⟨ri_, bel_⟩
    ·
     replace c16 := Bool.eq_false_iff.mpr c16
     subst c16
     rw [if_neg (show ¬ (false = true) by decide)] at H
     by_cases c19 : t453 > (wrap64 ((a0.size : Int) - t452))
     ·
      rw [if_pos c19] at H
      have c19b0 : decide ((wrap64 ((a0.size : Int) - t452)) < t453) = true := decide_eq_true c19
      try have c19b9 : (decide ((((a0.size : Int) - t452)) < t453)) = true := (by have hw0 : wrap64 ((a0.size : Int) - t452) = (a0.size : Int) - t452 := (by unfold wrap64; omega); have z_ := c19b0; simp only [hw0] at z_; exact z_)
      clear c19
      simp only [Option.some.injEq, Prod.mk.injEq] at H
      obtain ⟨rfl, rfl, rfl⟩ := H
      have hnb20 := NB455_451.out
      have hnc20 := NB451_455.out
      have hcz21_0 : wc.cell? ⟨gb455, 0, none⟩ = some (.int .i64 t452) := (zb_ BK455.out 0).trans rfl
      have hcz21_1 : wc.cell? ⟨gb455, 1, none⟩ = some (.int .i64 t453) := (zb_ BK455.out 1).trans rfl
      have hcz21_2 : wc.cell? ⟨gb455, 2, none⟩ = some (.int .i64 t454) := (zb_ BK455.out 2).trans rfl
      have hfz21_0 := za_ BK455.out 0
      have hfz21_1 := za_ BK455.out 1
      have hfz21_2 := za_ BK455.out 2
      have hcz22_0 : wc.cell? ⟨gb451, 0, none⟩ = some (.string (⟨#[]⟩ : ByteArray)) := (zb_ BK451.out 0).trans rfl
      have hcz22_1 : wc.cell? ⟨gb451, 1, none⟩ = some (.int .i64 0) := (zb_ BK451.out 1).trans rfl
      have hcz22_2 : wc.cell? ⟨gb451, 2, none⟩ = some (.int .i64 0) := (zb_ BK451.out 2).trans rfl
      have hfz22_0 := za_ BK451.out 0
      have hfz22_1 := za_ BK451.out 1
      have hfz22_2 := za_ BK451.out 2
      go_wp2
      refine bodyPost_ret (results_cell_row rfl _ _ gb451 202 #[.string (⟨#[]⟩ : ByteArray), .int .i64 0, .int .i64 4] (0, 0) _ rfl bka_ Try.underlying202 rfl (by kernel_rfl)) rfl ?_
      exact ⟨ri_, bel_⟩
     ·
      rw [if_neg c19] at H
      have c19b0 : decide ((wrap64 ((a0.size : Int) - t452)) < t453) = false := decide_eq_false c19
      try have c19b9 : (decide ((((a0.size : Int) - t452)) < t453)) = false := (by have hw0 : wrap64 ((a0.size : Int) - t452) = (a0.size : Int) - t452 := (by unfold wrap64; omega); have z_ := c19b0; simp only [hw0] at z_; exact z_)
      clear c19
      by_cases c23 : 0 ≤ t453
      ·
       rw [if_pos c23] at H
       have c23b0 := eq_true c23
       have c23b1 : decide (0 ≤ t453) = true := decide_eq_true c23
       clear c23
       by_cases c24 : t453 ≤ (wrap64 (t453 + t452))
       ·
        rw [if_pos c24] at H
        have c24b0 := eq_true c24
        have c24b1 : decide (t453 ≤ (wrap64 (t453 + t452))) = true := decide_eq_true c24
        by_cases c25 : (wrap64 (t453 + t452)) ≤ (a0.size : Int)
        ·
         rw [if_pos c25] at H
         have c25b0 := eq_true c25
         have c25b1 : decide ((wrap64 (t453 + t452)) ≤ (a0.size : Int)) = true := decide_eq_true c25
         simp only [Option.some.injEq, Prod.mk.injEq] at H
         obtain ⟨rfl, rfl, rfl⟩ := H
         have hnb26 := NB455_451.out
         have hnc26 := NB451_455.out
         have hcz27_0 : wc.cell? ⟨gb455, 0, none⟩ = some (.int .i64 t452) := (zb_ BK455.out 0).trans rfl
         have hcz27_1 : wc.cell? ⟨gb455, 1, none⟩ = some (.int .i64 t453) := (zb_ BK455.out 1).trans rfl
         have hcz27_2 : wc.cell? ⟨gb455, 2, none⟩ = some (.int .i64 t454) := (zb_ BK455.out 2).trans rfl
         have hfz27_0 := za_ BK455.out 0
         have hfz27_1 := za_ BK455.out 1
         have hfz27_2 := za_ BK455.out 2
         try go_wp2
         replace BK451 := AM (yU_ BK451.out)
         replace BK455 := AM (yU_ BK455.out)
         replace HB := AM (z1_ HB.out)
         refine xi_ (n := 16) (S := fun w' => w'.cell? ⟨gb455, 0, none⟩ = some (.int .i64 t452) ∧ w'.cell? ⟨gb455, 1, none⟩ = some (.int .i64 t453) ∧ w'.cell? ⟨gb455, 2, none⟩ = some (.int .i64 t454)) (ds := []) (Array.replicate 16 false) (by kernel_rfl) rfl rfl ⟨(zb_ BK455.out 0).trans rfl, (zb_ BK455.out 1).trans rfl, (zb_ BK455.out 2).trans rfl⟩ (fun hHeld => ?_); refine yu_ zM_.tab8 zM_.bits8 (fun HT_ HW_ => ?_)
         generalize wc.drew = w28 at BK451 BK455 HB hHeld ⊢
         refine pu_ HT_ 0 (some 33) (bA 16 1) ?_
         refine pu_ HT_ 1 (some 34) (bA 16 3) ?_
         refine pu_ HT_ 3 (some 36) (bA 16 11) ?_
         refine pu_ HT_ 5 (some 38) (bA 16 43) ?_
         refine pu_ HT_ 9 (some 42) (bA 16 555) ?_
         refine pu_ HT_ 11 (some 44) (bA 16 2603) ?_
         refine ta_ HT_ HW_ 2 (some 35) (bA 16 2607) hHeld ?_
         refine ta_ HT_ HW_ 4 (some 37) (bA 16 2623) hHeld ?_
         refine ta_ HT_ HW_ 6 (some 39) (bA 16 2687) hHeld ?_
         refine pu_ HT_ 7 (some 40) (bA 16 2815) ?_
         refine pu_ HT_ 8 (some 41) (bA 16 3071) ?_
         refine ta_ HT_ HW_ 10 (some 43) (bA 16 4095) hHeld ?_
         refine ta_ HT_ HW_ 12 (some 45) (bA 16 8191) hHeld ?_
         refine pu_ HT_ 13 (some 46) (bA 16 16383) ?_
         refine pu_ HT_ 14 (some 47) (bA 16 32767) ?_
         refine on_ HT_ 15 none (bA 16 65535) (fun K hK => ?_)
         have hs29 : w28.cell? ⟨gb451, 0, none⟩ = some (.string (⟨#[]⟩ : ByteArray)) := (zb_ BK451.out 0).trans rfl
         have hfs29 := za_ BK451.out 0
         have hns29_1 := NB455_451.out
         have hms29_1 := NB451_455.out
         have hs30 : w28.cell? ⟨gb451, 1, none⟩ = some (.int .i64 0) := (zb_ BK451.out 1).trans rfl
         have hfs30 := za_ BK451.out 1
         have hns30_1 := NB455_451.out
         have hms30_1 := NB451_455.out
         have hs31 : w28.cell? ⟨gb451, 2, none⟩ = some (.int .i64 0) := (zb_ BK451.out 2).trans rfl
         have hfs31 := za_ BK451.out 2
         have hns31_1 := NB455_451.out
         have hms31_1 := NB451_455.out
         refine sk_ ?_
         refine hK.out _ _ ⟨(by (rw [cell_far, cell_far, cell_far]) <;> first | exact hHeld.1 | exact NB455_451.out), (by (rw [cell_far, cell_far, cell_far]) <;> first | exact hHeld.2.1 | exact NB455_451.out), (by (rw [cell_far, cell_far, cell_far]) <;> first | exact hHeld.2.2 | exact NB455_451.out)⟩ (fun hHeld => ?_)
         clear hK K
         refine dn_ HT_ ?_
         try go_wp2
         refine bodyPost_ret (results_cell_row rfl _ _ gb451 202 #[.string (a0.extract (t453 : Int).toNat ((wrap64 (t453 + t452)) : Int).toNat), .int .i64 (wrap64 (t453 + t452)), .int .i64 0] (0, 0) _ rfl bka_ Try.underlying202 rfl (by kernel_rfl)) rfl ?_
         exact ⟨ri_, bel_⟩
        ·
         rw [if_neg c25] at H
         exact absurd H (by simp)
       ·
        rw [if_neg c24] at H
        exact absurd H (by simp)
      ·
       rw [if_neg c23] at H
       exact absurd H (by simp)
 ·
  rw [if_neg c4] at H
  have c4b0 : (t454 == 0) = false := beq_eq_false_iff_ne.mpr c4
  have c4b1 : (t454 != 0) = true := bne_iff_ne.mpr c4
  simp only [Option.some.injEq, Prod.mk.injEq] at H
  obtain ⟨rfl, rfl, rfl⟩ := H
  go_enter Try.func202, Try.ntmps202
  go_wp2_with (first | ((with_reducible refine z6_ (N := 4) rfl ?_); refine be_ 4 #[.string (⟨#[]⟩ : ByteArray), .int .i64 0, .int .i64 0] 202 ?_; intro gb451 hg w32 hbox hb; have BK451 := AM hbox; have GW451 := AM ((by rw [hg]; exact (zj_ bel_) : w.heap.size ≤ gb451)); have GE451 := AM ((by rw [hg]; exact (zj_ bel_) : w.heap.size ≤ gb451)); replace HB := AM (zg_ bel_ hb); clear hb hbox hg) | ((with_reducible refine zl_ (f := 201) rfl ?_); refine gl_ (some 8) Try.func201 #[.string a0, .int .i64 a1] ?_; (with_reducible refine (zq_.calls k a0 a1 t452 t453 t454 _ A3.out).mono ?_); rintro e w33 ⟨rfl, hb⟩; refine ⟨_, rfl, ?_⟩; replace BK451 := AM (zP_ (g := gb451) (o := .cells #[.string (⟨#[]⟩ : ByteArray), .int .i64 0, .int .i64 0] 202 (0, 0)) (bk_ BK451.out) hb); replace HB := AM (zg_ bel_ hb); (try clear hb)) | ((with_reducible refine z6_ (N := 5) rfl ?_); refine be_ 5 #[.int .i64 0, .int .i64 0, .int .i64 0] 199 ?_; intro gb455 hg w34 hbox hb; have BK455 := AM hbox; have GW455 := AM ((by rw [hg]; exact (zj_ bel_) : w.heap.size ≤ gb455)); have GE455 := AM ((by rw [hg]; exact (zj_ bel_) : w.heap.size ≤ gb455)); replace HB := AM (zg_ bel_ hb); have NB451_455 := AM ((by rw [hg]; exact Nat.ne_of_lt (yS_ (g := gb451) (o := .cells #[.string (⟨#[]⟩ : ByteArray), .int .i64 0, .int .i64 0] 202 (0, 0)) (bk_ BK451.out)) : gb451 ≠ gb455)); have NB455_451 := AM ((by rw [hg]; exact Nat.ne_of_gt (yS_ (g := gb451) (o := .cells #[.string (⟨#[]⟩ : ByteArray), .int .i64 0, .int .i64 0] 202 (0, 0)) (bk_ BK451.out)) : gb455 ≠ gb451)); replace BK451 := AM (zP_ (g := gb451) (o := .cells #[.string (⟨#[]⟩ : ByteArray), .int .i64 0, .int .i64 0] 202 (0, 0)) (bk_ BK451.out) hb); clear hb hbox hg; have hnb35 := NB455_451.out; have hnc35 := NB451_455.out; have hcz36_0 : w34.cell? ⟨gb455, 0, none⟩ = some (.int .i64 0) := (zb_ BK455.out 0).trans rfl; have hcz36_1 : w34.cell? ⟨gb455, 1, none⟩ = some (.int .i64 0) := (zb_ BK455.out 1).trans rfl; have hcz36_2 : w34.cell? ⟨gb455, 2, none⟩ = some (.int .i64 0) := (zb_ BK455.out 2).trans rfl; have hfz36_0 := za_ BK455.out 0; have hfz36_1 := za_ BK455.out 1; have hfz36_2 := za_ BK455.out 2; have hcz37_0 : w34.cell? ⟨gb451, 0, none⟩ = some (.string (⟨#[]⟩ : ByteArray)) := (zb_ BK451.out 0).trans rfl; have hcz37_1 : w34.cell? ⟨gb451, 1, none⟩ = some (.int .i64 0) := (zb_ BK451.out 1).trans rfl; have hcz37_2 : w34.cell? ⟨gb451, 2, none⟩ = some (.int .i64 0) := (zb_ BK451.out 2).trans rfl; have hfz37_0 := za_ BK451.out 0; have hfz37_1 := za_ BK451.out 1; have hfz37_2 := za_ BK451.out 2))
  refine bodyPost_ret (results_cell_row rfl _ _ gb451 202 #[.string (⟨#[]⟩ : ByteArray), .int .i64 0, .int .i64 t454] (0, 0) _ rfl bka_ Try.underlying202 rfl (by kernel_rfl)) rfl ?_
  exact ⟨ri_, bel_⟩
/-! ### zB_: function 145 -/
def zB_.f (k : Nat) (s0_0 : ByteArray) (s0_1 : Int) (s0_2 : Bool) : Option (ByteArray × ByteArray × Int × Bool) := (zM_.f k s0_0 s0_1).bind fun bt456 => (if s0_2 = true then (some ((⟨#[]⟩ : ByteArray), s0_0, s0_1, true)) else (if bt456.2.2 = 0 then (some (bt456.1, s0_0, bt456.2.1, s0_2)) else (some ((⟨#[]⟩ : ByteArray), s0_0, s0_1, true))))
theorem zB_.mono : ∀ a0 a1 a2 k, LeO (zB_.f k a0 a1 a2) (zB_.f (k + 1) a0 a1 a2) := by
 intro a0 a1 a2 k
 unfold zB_.f
 repeat' with_reducible first | exact zM_.mono _ _ _ | exact LeO.refl _ | exact LeO.none _ | refine LeO.ite ?_ ?_ | refine LeO.bind ?_ (fun _ => ?_)
def zB_.T1 : Bool × List (List Nat × List Nat) := (true, [([], []), ([0], [0]), ([1], [1]), ([2], [2]), ([], []), ([4], [4]), ([5], [5]), ([6], [6]), ([3, 7], [3, 7]), ([], []), ([9, 8, 8, 0, 1, 2, 3, 4, 5, 6, 7, 8, 9], [8, 9])])
def zB_.B1 : List Nat := [0, 1, 3, 7, 0, 16, 48, 112, 255, 0, 1023]
theorem zB_.tab1 : rtab .any (opsOf Try.f145 1) = zB_.T1 := by kernel_rfl
theorem zB_.bits1 : xe_ zB_.T1.2 zB_.B1 = true := by kernel_rfl
theorem zB_.calls (k : Nat) (g : Nat) (s0_0 : ByteArray) (s0_1 : Int) (s0_2 : Bool) (r1 : ByteArray) (r2 : ByteArray) (r3 : Int) (r4 : Bool) (w0 w : World) (hI : zn_ w0 w g s0_0 s0_1 s0_2) (hB : Below w0.heap.size w0 w) (h : zB_.f k s0_0 s0_1 s0_2 = some (r1, r2, r3, r4)) :
 Calls Try.prog 145 #[.pointer (some ⟨g, 0, none⟩)] w fun e w' => e = .returned (.string r1) ∧ zn_ w0 w' g r2 r3 r4 ∧ Below w0.heap.size w0 w' ∧ zs_ w w' g none := by
 have hu202 := Try.underlying202
 have HI0 := AM hI
 have HK := AM (zs_.refl w g none)
 have HL := AM hB.size
 clear hI
 have HW0 := AM hB.size
 have HB := AM hB
 clear hB
 have H : ((zM_.f k s0_0 s0_1).bind fun bt456 => (if s0_2 = true then (some ((⟨#[]⟩ : ByteArray), s0_0, s0_1, true)) else (if bt456.2.2 = 0 then (some (bt456.1, s0_0, bt456.2.1, s0_2)) else (some ((⟨#[]⟩ : ByteArray), s0_0, s0_1, true))))) = some (r1, r2, r3, r4) := h
 clear h
 obtain ⟨⟨t456, t457, t458⟩, A2, H⟩ := OB H
 try dsimp only at H
 replace A2 := AM A2
 by_cases c3 : s0_2 = true
 ·
  subst c3
  rw [if_pos rfl] at H
  simp only [Option.some.injEq, Prod.mk.injEq] at H
  obtain ⟨rfl, rfl, rfl, rfl⟩ := H
  go_enter Try.func145, Try.ntmps145
  try go_wp2
  replace HI0 := AM (zn_.drew HI0.out)
  replace HK := AM (yZ_ HK.out)
  replace HB := AM (z1_ HB.out)
  refine xi_ (n := 11) (S := fun w' => w'.cell? ⟨g, 0, none⟩ = some (.string s0_0) ∧ w'.cell? ⟨g, 1, none⟩ = some (.int .i64 s0_1) ∧ w'.cell? ⟨g, 2, none⟩ = some (.bool true)) (ds := []) (Array.replicate 11 false) (by kernel_rfl) rfl rfl ⟨(z0_ HI0.out.1), (zZ_ HI0.out.1), (zY_ HI0.out.1)⟩ (fun hHeld => ?_); refine yu_ zB_.tab1 zB_.bits1 (fun HT_ HW_ => ?_)
  generalize w.drew = w4 at HI0 HK HB hHeld ⊢
  refine pu_ HT_ 0 (some 4) (bA 11 1) ?_
  refine pu_ HT_ 1 (some 5) (bA 11 3) ?_
  refine pu_ HT_ 2 (some 6) (bA 11 7) ?_
  refine pu_ HT_ 4 (some 8) (bA 11 23) ?_
  refine pu_ HT_ 5 (some 9) (bA 11 55) ?_
  refine pu_ HT_ 6 (some 10) (bA 11 119) ?_
  refine ta_ HT_ HW_ 3 (some 7) (bA 11 127) hHeld ?_
  refine ta_ HT_ HW_ 7 (some 11) (bA 11 255) hHeld ?_
  refine join_ (σ := Nat) 1 #[true, true, true, true, true, true, true, true, true, true, false] (fun s_ => [(12, .agg #[.string t456, .int .i64 t457, .int .i64 t458]), (3, .pointer (some ⟨s_, 0, none⟩))]) (fun s_ w' => (w'.cell? ⟨g, 0, none⟩ = some (.string s0_0) ∧ w'.cell? ⟨g, 1, none⟩ = some (.int .i64 s0_1) ∧ w'.cell? ⟨g, 2, none⟩ = some (.bool true)) ∧ (w'.heap[s_]? = some (.cells #[.string (⟨#[]⟩ : ByteArray), .int .i64 0, .int .i64 0] 202 (0, 0))) ∧ (w.heap.size ≤ s_) ∧ (w0.heap.size ≤ s_) ∧ (g ≠ s_) ∧ (s_ ≠ g) ∧ (zn_ w0 w' g s0_0 s0_1 true) ∧ (zs_ w w' g none) ∧ (Below w0.heap.size w0 w')) ?_ ?_
  rotate_left
  ·
   intro hCont
   refine tw_ HT_ 8 9 (some 12) (some 3) (bA 11 511) (bA 11 767) (fun K hK => ?_) (fun K hK => ?_)
   ·
    skip
    refine go1_ Try.func202 #[.string s0_0, .int .i64 s0_1] ?_
    with_reducible refine (zM_.calls k s0_0 s0_1 t456 t457 t458 _ A2.out).mono ?_
    rintro e w5 ⟨rfl, hb⟩
    refine ⟨_, rfl, ?_⟩
    replace HK := AM (kb_ w g hb)
    replace HB := AM (zg_ (belg_ (zn_.ge HI0.out)) hb)
    replace HI0 := AM (zn_.below z3_ hb)
    (try clear hb)
    refine hK.out _ _ ⟨(z0_ HI0.out.1), (zZ_ HI0.out.1), (zY_ HI0.out.1)⟩ (fun hHeld => ?_)
    clear hK K
    refine nm_ ?_
    refine on_ HT_ 9 (some 3) (bA 11 1023) (fun K hK => ?_)
    refine bs_ 3 #[.string (⟨#[]⟩ : ByteArray), .int .i64 0, .int .i64 0] 202 ?_
    intro gb459 hg w6 hbox hb
    replace HB := AM (zg_ (belg_ (zn_.ge HI0.out)) hb)
    have BK459 := AM hbox
    have GW459 := AM ((by rw [hg]; exact (zF_ (w := w) (g := g) (row := none) kp_) : w.heap.size ≤ gb459))
    have GE459 := AM ((Nat.le_trans HW0.out (by rw [hg]; exact (zF_ (w := w) (g := g) (row := none) kp_) : w.heap.size ≤ gb459) : w0.heap.size ≤ gb459))
    replace HK := AM (kb_ w g hb)
    have NB0_459 := AM ((by rw [hg]; exact Nat.ne_of_lt (zn_.lt (show zn_ w0 _ g s0_0 s0_1 true from z3_)) : g ≠ gb459))
    have NB459_0 := AM ((by rw [hg]; exact Nat.ne_of_gt (zn_.lt (show zn_ w0 _ g s0_0 s0_1 true from z3_)) : gb459 ≠ g))
    replace HI0 := AM (zn_.below z3_ hb)
    clear hb hbox hg
    refine hK.out _ _ ⟨(z0_ HI0.out.1), (zZ_ HI0.out.1), (zY_ HI0.out.1)⟩ (fun hHeld => ?_)
    clear hK K
    refine nm_ ?_
    exact nmE_ (hCont (gb459) _ ⟨hHeld, (bk_ BK459.out), GW459.out, GE459.out, NB0_459.out, NB459_0.out, z3_, kp_, (belg_ (zn_.ge HI0.out))⟩)
   ·
    skip
    refine bs_ 3 #[.string (⟨#[]⟩ : ByteArray), .int .i64 0, .int .i64 0] 202 ?_
    intro gb459 hg w5 hbox hb
    replace HB := AM (zg_ (belg_ (zn_.ge HI0.out)) hb)
    have BK459 := AM hbox
    have GW459 := AM ((by rw [hg]; exact (zF_ (w := w) (g := g) (row := none) kp_) : w.heap.size ≤ gb459))
    have GE459 := AM ((Nat.le_trans HW0.out (by rw [hg]; exact (zF_ (w := w) (g := g) (row := none) kp_) : w.heap.size ≤ gb459) : w0.heap.size ≤ gb459))
    replace HK := AM (kb_ w g hb)
    have NB0_459 := AM ((by rw [hg]; exact Nat.ne_of_lt (zn_.lt (show zn_ w0 _ g s0_0 s0_1 true from z3_)) : g ≠ gb459))
    have NB459_0 := AM ((by rw [hg]; exact Nat.ne_of_gt (zn_.lt (show zn_ w0 _ g s0_0 s0_1 true from z3_)) : gb459 ≠ g))
    replace HI0 := AM (zn_.below z3_ hb)
    clear hb hbox hg
    refine hK.out _ _ ⟨(z0_ HI0.out.1), (zZ_ HI0.out.1), (zY_ HI0.out.1)⟩ (fun hHeld => ?_)
    clear hK K
    refine nm_ ?_
    refine on_ HT_ 8 (some 12) (bA 11 1023) (fun K hK => ?_)
    refine go1_ Try.func202 #[.string s0_0, .int .i64 s0_1] ?_
    with_reducible refine (zM_.calls k s0_0 s0_1 t456 t457 t458 _ A2.out).mono ?_
    rintro e w6 ⟨rfl, hb⟩
    refine ⟨_, rfl, ?_⟩
    replace BK459 := AM (zP_ (g := gb459) (o := .cells #[.string (⟨#[]⟩ : ByteArray), .int .i64 0, .int .i64 0] 202 (0, 0)) (bk_ BK459.out) hb)
    replace HK := AM (kb_ w g hb)
    replace HB := AM (zg_ (belg_ (zn_.ge HI0.out)) hb)
    replace HI0 := AM (zn_.below z3_ hb)
    (try clear hb)
    refine hK.out _ _ ⟨(z0_ HI0.out.1), (zZ_ HI0.out.1), (zY_ HI0.out.1)⟩ (fun hHeld => ?_)
    clear hK K
    refine nm_ ?_
    exact nmE_ (hCont (gb459) _ ⟨hHeld, (bk_ BK459.out), GW459.out, GE459.out, NB0_459.out, NB459_0.out, z3_, kp_, (belg_ (zn_.ge HI0.out))⟩)
  rintro gb459 w7 ⟨hS_, h0_, h1_, h2_, h3_, h4_, h5_, h6_, h7_⟩
  have BK459 : zd_ (w7.heap[gb459]? = some (.cells #[.string (⟨#[]⟩ : ByteArray), .int .i64 0, .int .i64 0] 202 (0, 0))) := ⟨h0_⟩
  have GW459 : zd_ (w.heap.size ≤ gb459) := ⟨h1_⟩
  have GE459 : zd_ (w0.heap.size ≤ gb459) := ⟨h2_⟩
  have NB0_459 : zd_ (g ≠ gb459) := ⟨h3_⟩
  have NB459_0 : zd_ (gb459 ≠ g) := ⟨h4_⟩
  replace HI0 : zd_ (zn_ w0 w7 g s0_0 s0_1 true) := ⟨h5_⟩
  replace HK : zd_ (zs_ w w7 g none) := ⟨h6_⟩
  replace HB : zd_ (Below w0.heap.size w0 w7) := ⟨h7_⟩
  clear h0_ h1_ h2_ h3_ h4_ h5_ h6_ h7_
  have hHeld : w7.cell? ⟨g, 0, none⟩ = some (.string s0_0) ∧ w7.cell? ⟨g, 1, none⟩ = some (.int .i64 s0_1) ∧ w7.cell? ⟨g, 2, none⟩ = some (.bool true) := hS_
  refine nmA_ ?_
  refine on_ HT_ 10 none (bA 11 2047) (fun K hK => ?_)
  have hs8 : w7.cell? ⟨gb459, 0, none⟩ = some (.string (⟨#[]⟩ : ByteArray)) := (zb_ BK459.out 0).trans rfl
  have hfs8 := za_ BK459.out 0
  have hs9 : w7.cell? ⟨gb459, 1, none⟩ = some (.int .i64 0) := (zb_ BK459.out 1).trans rfl
  have hfs9 := za_ BK459.out 1
  have hs10 : w7.cell? ⟨gb459, 2, none⟩ = some (.int .i64 0) := (zb_ BK459.out 2).trans rfl
  have hfs10 := za_ BK459.out 2
  refine sk_ ?_
  refine hK.out _ _ ⟨(by (rw [cell_far, cell_far, cell_far]) <;> first | exact hHeld.1 | exact NB0_459.out), (by (rw [cell_far, cell_far, cell_far]) <;> first | exact hHeld.2.1 | exact NB0_459.out), (by (rw [cell_far, cell_far, cell_far]) <;> first | exact hHeld.2.2 | exact NB0_459.out)⟩ (fun hHeld => ?_)
  clear hK K
  refine dn_ HT_ ?_
  obtain ⟨HGz11, hgz11⟩ := HI0.out
  have hcz11_0 := z0_ HGz11
  have hcz11_1 := zZ_ HGz11
  have hcz11_2 := zY_ HGz11
  have hfz11_0 := za_ HGz11 0
  have hfz11_1 := za_ HGz11 1
  have hfz11_2 := za_ HGz11 2
  clear HGz11 hgz11
  try go_wp2
  go_ret
  exact ⟨ri_, z3_, belg_ (zn_.ge HI0.out), kp_⟩
 ·
  replace c3 := Bool.eq_false_iff.mpr c3
  subst c3
  rw [if_neg (show ¬ (false = true) by decide)] at H
  by_cases c12 : t458 = 0
  ·
   rw [if_pos c12] at H
   have c12b0 : (t458 == 0) = true := beq_iff_eq.mpr c12
   have c12b1 : (t458 != 0) = false := bne_eq_false_iff_eq.mpr c12
   clear c12
   simp only [Option.some.injEq, Prod.mk.injEq] at H
   obtain ⟨rfl, rfl, rfl, rfl⟩ := H
   go_enter Try.func145, Try.ntmps145
   try go_wp2
   replace HI0 := AM (zn_.drew HI0.out)
   replace HK := AM (yZ_ HK.out)
   replace HB := AM (z1_ HB.out)
   refine xi_ (n := 11) (S := fun w' => w'.cell? ⟨g, 0, none⟩ = some (.string s0_0) ∧ w'.cell? ⟨g, 1, none⟩ = some (.int .i64 s0_1) ∧ w'.cell? ⟨g, 2, none⟩ = some (.bool false)) (ds := []) (Array.replicate 11 false) (by kernel_rfl) rfl rfl ⟨(z0_ HI0.out.1), (zZ_ HI0.out.1), (zY_ HI0.out.1)⟩ (fun hHeld => ?_); refine yu_ zB_.tab1 zB_.bits1 (fun HT_ HW_ => ?_)
   generalize w.drew = w13 at HI0 HK HB hHeld ⊢
   refine pu_ HT_ 0 (some 4) (bA 11 1) ?_
   refine pu_ HT_ 1 (some 5) (bA 11 3) ?_
   refine pu_ HT_ 2 (some 6) (bA 11 7) ?_
   refine pu_ HT_ 4 (some 8) (bA 11 23) ?_
   refine pu_ HT_ 5 (some 9) (bA 11 55) ?_
   refine pu_ HT_ 6 (some 10) (bA 11 119) ?_
   refine ta_ HT_ HW_ 3 (some 7) (bA 11 127) hHeld ?_
   refine ta_ HT_ HW_ 7 (some 11) (bA 11 255) hHeld ?_
   refine join_ (σ := Nat) 1 #[true, true, true, true, true, true, true, true, true, true, false] (fun s_ => [(12, .agg #[.string t456, .int .i64 t457, .int .i64 t458]), (3, .pointer (some ⟨s_, 0, none⟩))]) (fun s_ w' => (w'.cell? ⟨g, 0, none⟩ = some (.string s0_0) ∧ w'.cell? ⟨g, 1, none⟩ = some (.int .i64 s0_1) ∧ w'.cell? ⟨g, 2, none⟩ = some (.bool false)) ∧ (w'.heap[s_]? = some (.cells #[.string (⟨#[]⟩ : ByteArray), .int .i64 0, .int .i64 0] 202 (0, 0))) ∧ (w.heap.size ≤ s_) ∧ (w0.heap.size ≤ s_) ∧ (g ≠ s_) ∧ (s_ ≠ g) ∧ (zn_ w0 w' g s0_0 s0_1 false) ∧ (zs_ w w' g none) ∧ (Below w0.heap.size w0 w')) ?_ ?_
   rotate_left
   ·
    intro hCont
    refine tw_ HT_ 8 9 (some 12) (some 3) (bA 11 511) (bA 11 767) (fun K hK => ?_) (fun K hK => ?_)
    ·
     skip
     refine go1_ Try.func202 #[.string s0_0, .int .i64 s0_1] ?_
     with_reducible refine (zM_.calls k s0_0 s0_1 t456 t457 t458 _ A2.out).mono ?_
     rintro e w14 ⟨rfl, hb⟩
     refine ⟨_, rfl, ?_⟩
     replace HK := AM (kb_ w g hb)
     replace HB := AM (zg_ (belg_ (zn_.ge HI0.out)) hb)
     replace HI0 := AM (zn_.below z3_ hb)
     (try clear hb)
     refine hK.out _ _ ⟨(z0_ HI0.out.1), (zZ_ HI0.out.1), (zY_ HI0.out.1)⟩ (fun hHeld => ?_)
     clear hK K
     refine nm_ ?_
     refine on_ HT_ 9 (some 3) (bA 11 1023) (fun K hK => ?_)
     refine bs_ 3 #[.string (⟨#[]⟩ : ByteArray), .int .i64 0, .int .i64 0] 202 ?_
     intro gb459 hg w15 hbox hb
     replace HB := AM (zg_ (belg_ (zn_.ge HI0.out)) hb)
     have BK459 := AM hbox
     have GW459 := AM ((by rw [hg]; exact (zF_ (w := w) (g := g) (row := none) kp_) : w.heap.size ≤ gb459))
     have GE459 := AM ((Nat.le_trans HW0.out (by rw [hg]; exact (zF_ (w := w) (g := g) (row := none) kp_) : w.heap.size ≤ gb459) : w0.heap.size ≤ gb459))
     replace HK := AM (kb_ w g hb)
     have NB0_459 := AM ((by rw [hg]; exact Nat.ne_of_lt (zn_.lt (show zn_ w0 _ g s0_0 s0_1 false from z3_)) : g ≠ gb459))
     have NB459_0 := AM ((by rw [hg]; exact Nat.ne_of_gt (zn_.lt (show zn_ w0 _ g s0_0 s0_1 false from z3_)) : gb459 ≠ g))
     replace HI0 := AM (zn_.below z3_ hb)
     clear hb hbox hg
     refine hK.out _ _ ⟨(z0_ HI0.out.1), (zZ_ HI0.out.1), (zY_ HI0.out.1)⟩ (fun hHeld => ?_)
     clear hK K
     refine nm_ ?_
     exact nmE_ (hCont (gb459) _ ⟨hHeld, (bk_ BK459.out), GW459.out, GE459.out, NB0_459.out, NB459_0.out, z3_, kp_, (belg_ (zn_.ge HI0.out))⟩)
    ·
     skip
     refine bs_ 3 #[.string (⟨#[]⟩ : ByteArray), .int .i64 0, .int .i64 0] 202 ?_
     intro gb459 hg w14 hbox hb
     replace HB := AM (zg_ (belg_ (zn_.ge HI0.out)) hb)
     have BK459 := AM hbox
     have GW459 := AM ((by rw [hg]; exact (zF_ (w := w) (g := g) (row := none) kp_) : w.heap.size ≤ gb459))
     have GE459 := AM ((Nat.le_trans HW0.out (by rw [hg]; exact (zF_ (w := w) (g := g) (row := none) kp_) : w.heap.size ≤ gb459) : w0.heap.size ≤ gb459))
     replace HK := AM (kb_ w g hb)
     have NB0_459 := AM ((by rw [hg]; exact Nat.ne_of_lt (zn_.lt (show zn_ w0 _ g s0_0 s0_1 false from z3_)) : g ≠ gb459))
     have NB459_0 := AM ((by rw [hg]; exact Nat.ne_of_gt (zn_.lt (show zn_ w0 _ g s0_0 s0_1 false from z3_)) : gb459 ≠ g))
     replace HI0 := AM (zn_.below z3_ hb)
     clear hb hbox hg
     refine hK.out _ _ ⟨(z0_ HI0.out.1), (zZ_ HI0.out.1), (zY_ HI0.out.1)⟩ (fun hHeld => ?_)
     clear hK K
     refine nm_ ?_
     refine on_ HT_ 8 (some 12) (bA 11 1023) (fun K hK => ?_)
     refine go1_ Try.func202 #[.string s0_0, .int .i64 s0_1] ?_
     with_reducible refine (zM_.calls k s0_0 s0_1 t456 t457 t458 _ A2.out).mono ?_
     rintro e w15 ⟨rfl, hb⟩
     refine ⟨_, rfl, ?_⟩
     replace BK459 := AM (zP_ (g := gb459) (o := .cells #[.string (⟨#[]⟩ : ByteArray), .int .i64 0, .int .i64 0] 202 (0, 0)) (bk_ BK459.out) hb)
     replace HK := AM (kb_ w g hb)
     replace HB := AM (zg_ (belg_ (zn_.ge HI0.out)) hb)
     replace HI0 := AM (zn_.below z3_ hb)
     (try clear hb)
     refine hK.out _ _ ⟨(z0_ HI0.out.1), (zZ_ HI0.out.1), (zY_ HI0.out.1)⟩ (fun hHeld => ?_)
     clear hK K
     refine nm_ ?_
     exact nmE_ (hCont (gb459) _ ⟨hHeld, (bk_ BK459.out), GW459.out, GE459.out, NB0_459.out, NB459_0.out, z3_, kp_, (belg_ (zn_.ge HI0.out))⟩)
   rintro gb459 w16 ⟨hS_, h0_, h1_, h2_, h3_, h4_, h5_, h6_, h7_⟩
   have BK459 : zd_ (w16.heap[gb459]? = some (.cells #[.string (⟨#[]⟩ : ByteArray), .int .i64 0, .int .i64 0] 202 (0, 0))) := ⟨h0_⟩
   have GW459 : zd_ (w.heap.size ≤ gb459) := ⟨h1_⟩
   have GE459 : zd_ (w0.heap.size ≤ gb459) := ⟨h2_⟩
   have NB0_459 : zd_ (g ≠ gb459) := ⟨h3_⟩
   have NB459_0 : zd_ (gb459 ≠ g) := ⟨h4_⟩
   replace HI0 : zd_ (zn_ w0 w16 g s0_0 s0_1 false) := ⟨h5_⟩
   replace HK : zd_ (zs_ w w16 g none) := ⟨h6_⟩
   replace HB : zd_ (Below w0.heap.size w0 w16) := ⟨h7_⟩
   clear h0_ h1_ h2_ h3_ h4_ h5_ h6_ h7_
   have hHeld : w16.cell? ⟨g, 0, none⟩ = some (.string s0_0) ∧ w16.cell? ⟨g, 1, none⟩ = some (.int .i64 s0_1) ∧ w16.cell? ⟨g, 2, none⟩ = some (.bool false) := hS_
   refine nmA_ ?_
   refine on_ HT_ 10 none (bA 11 2047) (fun K hK => ?_)
   have hs17 : w16.cell? ⟨gb459, 0, none⟩ = some (.string (⟨#[]⟩ : ByteArray)) := (zb_ BK459.out 0).trans rfl
   have hfs17 := za_ BK459.out 0
   have hs18 : w16.cell? ⟨gb459, 1, none⟩ = some (.int .i64 0) := (zb_ BK459.out 1).trans rfl
   have hfs18 := za_ BK459.out 1
   have hs19 : w16.cell? ⟨gb459, 2, none⟩ = some (.int .i64 0) := (zb_ BK459.out 2).trans rfl
   have hfs19 := za_ BK459.out 2
   refine sk_ ?_
   refine hK.out _ _ ⟨(by (rw [cell_far, cell_far, cell_far]) <;> first | exact hHeld.1 | exact NB0_459.out), (by (rw [cell_far, cell_far, cell_far]) <;> first | exact hHeld.2.1 | exact NB0_459.out), (by (rw [cell_far, cell_far, cell_far]) <;> first | exact hHeld.2.2 | exact NB0_459.out)⟩ (fun hHeld => ?_)
   clear hK K
   refine dn_ HT_ ?_
   obtain ⟨HGz20, hgz20⟩ := HI0.out
   have hcz20_0 := z0_ HGz20
   have hcz20_1 := zZ_ HGz20
   have hcz20_2 := zY_ HGz20
   have hfz20_0 := za_ HGz20 0
   have hfz20_1 := za_ HGz20 1
   have hfz20_2 := za_ HGz20 2
   clear HGz20 hgz20
   have hnb21 := NB459_0.out
   have hnc21 := NB0_459.out
   have hcz22_0 : w16.cell? ⟨gb459, 0, none⟩ = some (.string (⟨#[]⟩ : ByteArray)) := (zb_ BK459.out 0).trans rfl
   have hcz22_1 : w16.cell? ⟨gb459, 1, none⟩ = some (.int .i64 0) := (zb_ BK459.out 1).trans rfl
   have hcz22_2 : w16.cell? ⟨gb459, 2, none⟩ = some (.int .i64 0) := (zb_ BK459.out 2).trans rfl
   have hfz22_0 := za_ BK459.out 0
   have hfz22_1 := za_ BK459.out 1
   have hfz22_2 := za_ BK459.out 2
   try go_wp2
   go_ret
   exact ⟨ri_, z3_, belg_ (zn_.ge HI0.out), kp_⟩
  ·
   rw [if_neg c12] at H
   have c12b0 : (t458 == 0) = false := beq_eq_false_iff_ne.mpr c12
   have c12b1 : (t458 != 0) = true := bne_iff_ne.mpr c12
   simp only [Option.some.injEq, Prod.mk.injEq] at H
   obtain ⟨rfl, rfl, rfl, rfl⟩ := H
   go_enter Try.func145, Try.ntmps145
   try go_wp2
   replace HI0 := AM (zn_.drew HI0.out)
   replace HK := AM (yZ_ HK.out)
   replace HB := AM (z1_ HB.out)
   refine xi_ (n := 11) (S := fun w' => w'.cell? ⟨g, 0, none⟩ = some (.string s0_0) ∧ w'.cell? ⟨g, 1, none⟩ = some (.int .i64 s0_1) ∧ w'.cell? ⟨g, 2, none⟩ = some (.bool false)) (ds := []) (Array.replicate 11 false) (by kernel_rfl) rfl rfl ⟨(z0_ HI0.out.1), (zZ_ HI0.out.1), (zY_ HI0.out.1)⟩ (fun hHeld => ?_); refine yu_ zB_.tab1 zB_.bits1 (fun HT_ HW_ => ?_)
   generalize w.drew = w23 at HI0 HK HB hHeld ⊢
   refine pu_ HT_ 0 (some 4) (bA 11 1) ?_
   refine pu_ HT_ 1 (some 5) (bA 11 3) ?_
   refine pu_ HT_ 2 (some 6) (bA 11 7) ?_
   refine pu_ HT_ 4 (some 8) (bA 11 23) ?_
   refine pu_ HT_ 5 (some 9) (bA 11 55) ?_
   refine pu_ HT_ 6 (some 10) (bA 11 119) ?_
   refine ta_ HT_ HW_ 3 (some 7) (bA 11 127) hHeld ?_
   refine ta_ HT_ HW_ 7 (some 11) (bA 11 255) hHeld ?_
   refine join_ (σ := Nat) 1 #[true, true, true, true, true, true, true, true, true, true, false] (fun s_ => [(12, .agg #[.string t456, .int .i64 t457, .int .i64 t458]), (3, .pointer (some ⟨s_, 0, none⟩))]) (fun s_ w' => (w'.cell? ⟨g, 0, none⟩ = some (.string s0_0) ∧ w'.cell? ⟨g, 1, none⟩ = some (.int .i64 s0_1) ∧ w'.cell? ⟨g, 2, none⟩ = some (.bool false)) ∧ (w'.heap[s_]? = some (.cells #[.string (⟨#[]⟩ : ByteArray), .int .i64 0, .int .i64 0] 202 (0, 0))) ∧ (w.heap.size ≤ s_) ∧ (w0.heap.size ≤ s_) ∧ (g ≠ s_) ∧ (s_ ≠ g) ∧ (zn_ w0 w' g s0_0 s0_1 false) ∧ (zs_ w w' g none) ∧ (Below w0.heap.size w0 w')) ?_ ?_
   rotate_left
   ·
    intro hCont
    refine tw_ HT_ 8 9 (some 12) (some 3) (bA 11 511) (bA 11 767) (fun K hK => ?_) (fun K hK => ?_)
    ·
     skip
     refine go1_ Try.func202 #[.string s0_0, .int .i64 s0_1] ?_
     with_reducible refine (zM_.calls k s0_0 s0_1 t456 t457 t458 _ A2.out).mono ?_
     rintro e w24 ⟨rfl, hb⟩
     refine ⟨_, rfl, ?_⟩
     replace HK := AM (kb_ w g hb)
     replace HB := AM (zg_ (belg_ (zn_.ge HI0.out)) hb)
     replace HI0 := AM (zn_.below z3_ hb)
     (try clear hb)
     refine hK.out _ _ ⟨(z0_ HI0.out.1), (zZ_ HI0.out.1), (zY_ HI0.out.1)⟩ (fun hHeld => ?_)
     clear hK K
     refine nm_ ?_
     refine on_ HT_ 9 (some 3) (bA 11 1023) (fun K hK => ?_)
     refine bs_ 3 #[.string (⟨#[]⟩ : ByteArray), .int .i64 0, .int .i64 0] 202 ?_
     intro gb459 hg w25 hbox hb
     replace HB := AM (zg_ (belg_ (zn_.ge HI0.out)) hb)
     have BK459 := AM hbox
     have GW459 := AM ((by rw [hg]; exact (zF_ (w := w) (g := g) (row := none) kp_) : w.heap.size ≤ gb459))
     have GE459 := AM ((Nat.le_trans HW0.out (by rw [hg]; exact (zF_ (w := w) (g := g) (row := none) kp_) : w.heap.size ≤ gb459) : w0.heap.size ≤ gb459))
     replace HK := AM (kb_ w g hb)
     have NB0_459 := AM ((by rw [hg]; exact Nat.ne_of_lt (zn_.lt (show zn_ w0 _ g s0_0 s0_1 false from z3_)) : g ≠ gb459))
     have NB459_0 := AM ((by rw [hg]; exact Nat.ne_of_gt (zn_.lt (show zn_ w0 _ g s0_0 s0_1 false from z3_)) : gb459 ≠ g))
     replace HI0 := AM (zn_.below z3_ hb)
     clear hb hbox hg
     refine hK.out _ _ ⟨(z0_ HI0.out.1), (zZ_ HI0.out.1), (zY_ HI0.out.1)⟩ (fun hHeld => ?_)
     clear hK K
     refine nm_ ?_
     exact nmE_ (hCont (gb459) _ ⟨hHeld, (bk_ BK459.out), GW459.out, GE459.out, NB0_459.out, NB459_0.out, z3_, kp_, (belg_ (zn_.ge HI0.out))⟩)
    ·
     skip
     refine bs_ 3 #[.string (⟨#[]⟩ : ByteArray), .int .i64 0, .int .i64 0] 202 ?_
     intro gb459 hg w24 hbox hb
     replace HB := AM (zg_ (belg_ (zn_.ge HI0.out)) hb)
     have BK459 := AM hbox
     have GW459 := AM ((by rw [hg]; exact (zF_ (w := w) (g := g) (row := none) kp_) : w.heap.size ≤ gb459))
     have GE459 := AM ((Nat.le_trans HW0.out (by rw [hg]; exact (zF_ (w := w) (g := g) (row := none) kp_) : w.heap.size ≤ gb459) : w0.heap.size ≤ gb459))
     replace HK := AM (kb_ w g hb)
     have NB0_459 := AM ((by rw [hg]; exact Nat.ne_of_lt (zn_.lt (show zn_ w0 _ g s0_0 s0_1 false from z3_)) : g ≠ gb459))
     have NB459_0 := AM ((by rw [hg]; exact Nat.ne_of_gt (zn_.lt (show zn_ w0 _ g s0_0 s0_1 false from z3_)) : gb459 ≠ g))
     replace HI0 := AM (zn_.below z3_ hb)
     clear hb hbox hg
     refine hK.out _ _ ⟨(z0_ HI0.out.1), (zZ_ HI0.out.1), (zY_ HI0.out.1)⟩ (fun hHeld => ?_)
     clear hK K
     refine nm_ ?_
     refine on_ HT_ 8 (some 12) (bA 11 1023) (fun K hK => ?_)
     refine go1_ Try.func202 #[.string s0_0, .int .i64 s0_1] ?_
     with_reducible refine (zM_.calls k s0_0 s0_1 t456 t457 t458 _ A2.out).mono ?_
     rintro e w25 ⟨rfl, hb⟩
     refine ⟨_, rfl, ?_⟩
     replace BK459 := AM (zP_ (g := gb459) (o := .cells #[.string (⟨#[]⟩ : ByteArray), .int .i64 0, .int .i64 0] 202 (0, 0)) (bk_ BK459.out) hb)
     replace HK := AM (kb_ w g hb)
     replace HB := AM (zg_ (belg_ (zn_.ge HI0.out)) hb)
     replace HI0 := AM (zn_.below z3_ hb)
     (try clear hb)
     refine hK.out _ _ ⟨(z0_ HI0.out.1), (zZ_ HI0.out.1), (zY_ HI0.out.1)⟩ (fun hHeld => ?_)
     clear hK K
     refine nm_ ?_
     exact nmE_ (hCont (gb459) _ ⟨hHeld, (bk_ BK459.out), GW459.out, GE459.out, NB0_459.out, NB459_0.out, z3_, kp_, (belg_ (zn_.ge HI0.out))⟩)
   rintro gb459 w26 ⟨hS_, h0_, h1_, h2_, h3_, h4_, h5_, h6_, h7_⟩
   have BK459 : zd_ (w26.heap[gb459]? = some (.cells #[.string (⟨#[]⟩ : ByteArray), .int .i64 0, .int .i64 0] 202 (0, 0))) := ⟨h0_⟩
   have GW459 : zd_ (w.heap.size ≤ gb459) := ⟨h1_⟩
   have GE459 : zd_ (w0.heap.size ≤ gb459) := ⟨h2_⟩
   have NB0_459 : zd_ (g ≠ gb459) := ⟨h3_⟩
   have NB459_0 : zd_ (gb459 ≠ g) := ⟨h4_⟩
   replace HI0 : zd_ (zn_ w0 w26 g s0_0 s0_1 false) := ⟨h5_⟩
   replace HK : zd_ (zs_ w w26 g none) := ⟨h6_⟩
   replace HB : zd_ (Below w0.heap.size w0 w26) := ⟨h7_⟩
   clear h0_ h1_ h2_ h3_ h4_ h5_ h6_ h7_
   have hHeld : w26.cell? ⟨g, 0, none⟩ = some (.string s0_0) ∧ w26.cell? ⟨g, 1, none⟩ = some (.int .i64 s0_1) ∧ w26.cell? ⟨g, 2, none⟩ = some (.bool false) := hS_
   refine nmA_ ?_
   refine on_ HT_ 10 none (bA 11 2047) (fun K hK => ?_)
   have hs27 : w26.cell? ⟨gb459, 0, none⟩ = some (.string (⟨#[]⟩ : ByteArray)) := (zb_ BK459.out 0).trans rfl
   have hfs27 := za_ BK459.out 0
   have hs28 : w26.cell? ⟨gb459, 1, none⟩ = some (.int .i64 0) := (zb_ BK459.out 1).trans rfl
   have hfs28 := za_ BK459.out 1
   have hs29 : w26.cell? ⟨gb459, 2, none⟩ = some (.int .i64 0) := (zb_ BK459.out 2).trans rfl
   have hfs29 := za_ BK459.out 2
   refine sk_ ?_
   refine hK.out _ _ ⟨(by (rw [cell_far, cell_far, cell_far]) <;> first | exact hHeld.1 | exact NB0_459.out), (by (rw [cell_far, cell_far, cell_far]) <;> first | exact hHeld.2.1 | exact NB0_459.out), (by (rw [cell_far, cell_far, cell_far]) <;> first | exact hHeld.2.2 | exact NB0_459.out)⟩ (fun hHeld => ?_)
   clear hK K
   refine dn_ HT_ ?_
   obtain ⟨HGz30, hgz30⟩ := HI0.out
   have hcz30_0 := z0_ HGz30
   have hcz30_1 := zZ_ HGz30
   have hcz30_2 := zY_ HGz30
   have hfz30_0 := za_ HGz30 0
   have hfz30_1 := za_ HGz30 1
   have hfz30_2 := za_ HGz30 2
   clear HGz30 hgz30
   have hnb31 := NB459_0.out
   have hnc31 := NB0_459.out
   have hcz32_0 : w26.cell? ⟨gb459, 0, none⟩ = some (.string (⟨#[]⟩ : ByteArray)) := (zb_ BK459.out 0).trans rfl
   have hcz32_1 : w26.cell? ⟨gb459, 1, none⟩ = some (.int .i64 0) := (zb_ BK459.out 1).trans rfl
   have hcz32_2 : w26.cell? ⟨gb459, 2, none⟩ = some (.int .i64 0) := (zb_ BK459.out 2).trans rfl
   have hfz32_0 := za_ BK459.out 0
   have hfz32_1 := za_ BK459.out 1
   have hfz32_2 := za_ BK459.out 2
   try go_wp2
   go_ret
   exact ⟨ri_, z3_, belg_ (zn_.ge HI0.out), kp_⟩
/-! ### yy_: function 146 -/
def yy_.f (s0_0 : ByteArray) (s0_1 : Int) (s0_2 : Bool) (a1 : Int) : Option (ByteArray × ByteArray × Int × Bool) := if s0_2 = true then (some ((⟨#[]⟩ : ByteArray), s0_0, s0_1, true)) else (if s0_1 > (wrap64 ((s0_0.size : Int) - a1)) then (some ((⟨#[]⟩ : ByteArray), s0_0, s0_1, true)) else (if 0 ≤ (wrap64 ((wrap64 (s0_1 + a1)) - a1)) then (if (wrap64 ((wrap64 (s0_1 + a1)) - a1)) ≤ (wrap64 (s0_1 + a1)) then (if (wrap64 (s0_1 + a1)) ≤ (s0_0.size : Int) then (some (s0_0.extract ((wrap64 ((wrap64 (s0_1 + a1)) - a1)) : Int).toNat ((wrap64 (s0_1 + a1)) : Int).toNat, s0_0, wrap64 (s0_1 + a1), s0_2)) else (none)) else (none)) else (none)))
theorem yy_.calls (g : Nat) (s0_0 : ByteArray) (s0_1 : Int) (s0_2 : Bool) (a1 : Int) (r1 : ByteArray) (r2 : ByteArray) (r3 : Int) (r4 : Bool) (w0 w : World) (hI : zn_ w0 w g s0_0 s0_1 s0_2) (hB : Below w0.heap.size w0 w) (h : yy_.f s0_0 s0_1 s0_2 a1 = some (r1, r2, r3, r4)) :
 Calls Try.prog 146 #[.pointer (some ⟨g, 0, none⟩), .int .i64 a1] w fun e w' => e = .returned (.string r1) ∧ zn_ w0 w' g r2 r3 r4 ∧ Below w0.heap.size w0 w' ∧ zs_ w w' g none := by
 have HI0 := AM hI
 have HK := AM (zs_.refl w g none)
 have HL := AM hB.size
 clear hI
 have HW0 := AM hB.size
 have HB := AM hB
 clear hB
 have H : (if s0_2 = true then (some ((⟨#[]⟩ : ByteArray), s0_0, s0_1, true)) else (if s0_1 > (wrap64 ((s0_0.size : Int) - a1)) then (some ((⟨#[]⟩ : ByteArray), s0_0, s0_1, true)) else (if 0 ≤ (wrap64 ((wrap64 (s0_1 + a1)) - a1)) then (if (wrap64 ((wrap64 (s0_1 + a1)) - a1)) ≤ (wrap64 (s0_1 + a1)) then (if (wrap64 (s0_1 + a1)) ≤ (s0_0.size : Int) then (some (s0_0.extract ((wrap64 ((wrap64 (s0_1 + a1)) - a1)) : Int).toNat ((wrap64 (s0_1 + a1)) : Int).toNat, s0_0, wrap64 (s0_1 + a1), s0_2)) else (none)) else (none)) else (none)))) = some (r1, r2, r3, r4) := h
 clear h
 by_cases c3 : s0_2 = true
 ·
  subst c3
  rw [if_pos rfl] at H
  simp only [Option.some.injEq, Prod.mk.injEq] at H
  obtain ⟨rfl, rfl, rfl, rfl⟩ := H
  obtain ⟨HGz4, hgz4⟩ := HI0.out
  have hcz4_0 := z0_ HGz4
  have hcz4_1 := zZ_ HGz4
  have hcz4_2 := zY_ HGz4
  have hfz4_0 := za_ HGz4 0
  have hfz4_1 := za_ HGz4 1
  have hfz4_2 := za_ HGz4 2
  clear HGz4 hgz4
  go_enter Try.func146, Try.ntmps146
  go_wp2
  repeat (go_quiet (fail); try go_wp2)
  go_ret
  exact ⟨ri_, z3_, belg_ (zn_.ge HI0.out), kp_⟩
 ·
  replace c3 := Bool.eq_false_iff.mpr c3
  subst c3
  rw [if_neg (show ¬ (false = true) by decide)] at H
  by_cases c5 : s0_1 > (wrap64 ((s0_0.size : Int) - a1))
  ·
   rw [if_pos c5] at H
   have c5b0 : decide ((wrap64 ((s0_0.size : Int) - a1)) < s0_1) = true := decide_eq_true c5
   try have c5b9 : (decide ((((s0_0.size : Int) - a1)) < s0_1)) = true := (by have hw0 : wrap64 ((s0_0.size : Int) - a1) = (s0_0.size : Int) - a1 := (by unfold wrap64; omega); have z_ := c5b0; simp only [hw0] at z_; exact z_)
   clear c5
   simp only [Option.some.injEq, Prod.mk.injEq] at H
   obtain ⟨rfl, rfl, rfl, rfl⟩ := H
   obtain ⟨HGz6, hgz6⟩ := HI0.out
   have hcz6_0 := z0_ HGz6
   have hcz6_1 := zZ_ HGz6
   have hcz6_2 := zY_ HGz6
   have hfz6_0 := za_ HGz6 0
   have hfz6_1 := za_ HGz6 1
   have hfz6_2 := za_ HGz6 2
   clear HGz6 hgz6
   go_enter Try.func146, Try.ntmps146
   go_wp2
   repeat (go_quiet (fail); try go_wp2)
   go_ret
   exact ⟨ri_, z3_, belg_ (zn_.ge HI0.out), kp_⟩
  ·
   rw [if_neg c5] at H
   have c5b0 : decide ((wrap64 ((s0_0.size : Int) - a1)) < s0_1) = false := decide_eq_false c5
   try have c5b9 : (decide ((((s0_0.size : Int) - a1)) < s0_1)) = false := (by have hw0 : wrap64 ((s0_0.size : Int) - a1) = (s0_0.size : Int) - a1 := (by unfold wrap64; omega); have z_ := c5b0; simp only [hw0] at z_; exact z_)
   clear c5
   obtain ⟨ji7, hji7⟩ : ∃ j_ : Int, (wrap64 ((wrap64 (s0_1 + a1)) - a1)) = j_ := ⟨_, rfl⟩
   replace H : (if 0 ≤ (ji7) then (if (ji7) ≤ (wrap64 (s0_1 + a1)) then (if (wrap64 (s0_1 + a1)) ≤ (s0_0.size : Int) then (some (s0_0.extract ((ji7) : Int).toNat ((wrap64 (s0_1 + a1)) : Int).toNat, s0_0, wrap64 (s0_1 + a1), false)) else (none)) else (none)) else (none)) = some (r1, r2, r3, r4) := by first | (rw [hji7] at H; exact H) | (simp only [hji7] at H ⊢; exact H)
   have hji7w : (IntKind.i64.wrap ((wrap64 (s0_1 + a1)) - a1)) = ji7 := (i64_w _).trans hji7
   by_cases c8 : 0 ≤ (ji7)
   ·
    rw [if_pos c8] at H
    have c8b0 := eq_true c8
    have c8b1 : decide (0 ≤ (ji7)) = true := decide_eq_true c8
    clear c8
    by_cases c9 : (ji7) ≤ (wrap64 (s0_1 + a1))
    ·
     rw [if_pos c9] at H
     have c9b0 := eq_true c9
     have c9b1 : decide ((ji7) ≤ (wrap64 (s0_1 + a1))) = true := decide_eq_true c9
     by_cases c10 : (wrap64 (s0_1 + a1)) ≤ (s0_0.size : Int)
     ·
      rw [if_pos c10] at H
      have c10b0 := eq_true c10
      have c10b1 : decide ((wrap64 (s0_1 + a1)) ≤ (s0_0.size : Int)) = true := decide_eq_true c10
      simp only [Option.some.injEq, Prod.mk.injEq] at H
      obtain ⟨rfl, rfl, rfl, rfl⟩ := H
      obtain ⟨HGz11, hgz11⟩ := HI0.out
      have hcz11_0 := z0_ HGz11
      have hcz11_1 := zZ_ HGz11
      have hcz11_2 := zY_ HGz11
      have hfz11_0 := za_ HGz11 0
      have hfz11_1 := za_ HGz11 1
      have hfz11_2 := za_ HGz11 2
      clear HGz11 hgz11
      go_enter Try.func146, Try.ntmps146
      go_wp2
      repeat (go_quiet (fail); try go_wp2)
      go_ret
      exact ⟨by first | rfl | (simp [ym_, yl_] <;> rfl) | (simp only [← hji7]; first | rfl | (simp [ym_, yl_] <;> rfl)) | (simp [*, ym_, yl_] <;> rfl), z3_, belg_ (zn_.ge HI0.out), kp_⟩
     ·
      rw [if_neg c10] at H
      exact absurd H (by simp)
    ·
     rw [if_neg c9] at H
     exact absurd H (by simp)
   ·
    rw [if_neg c8] at H
    exact absurd H (by simp)
/-! ### zf_: function 66 -/
mutual
def zf_.j0 : Nat → ByteArray → List (S97) → Int → Bool → ByteArray → Int → Bool → Option ((List (S97)) × Bool)
 | 0, _, _, _, _, _, _, _ => none
 | k + 1, x0, x5, x6, x21, x461000, x461001, x461002 => if x21 = true then (zf_.j1 k x0 x5 x6 x461000 x461001 true) else (zf_.j1 k x0 x5 x6 x461000 x461001 x461002)
def zf_.j1 : Nat → ByteArray → List (S97) → Int → ByteArray → Int → Bool → Option ((List (S97)) × Bool)
 | 0, _, _, _, _, _, _ => none
 | k + 1, x0, x5, x6, x461000, x461001, x461002 => zf_.l0 k x0 x5 x6 x461000 x461001 x461002
def zf_.l0 : Nat → ByteArray → List (S97) → Int → ByteArray → Int → Bool → Option ((List (S97)) × Bool)
 | 0, _, _, _, _, _, _ => none
 | k + 1, x0, x5, x6, x461000, x461001, x461002 => if x6 > 0 then (zf_.j3 k x0 x5 x6 (!x461002) x461000 x461001 x461002) else (zf_.j3 k x0 x5 x6 false x461000 x461001 x461002)
def zf_.j3 : Nat → ByteArray → List (S97) → Int → Bool → ByteArray → Int → Bool → Option ((List (S97)) × Bool)
 | 0, _, _, _, _, _, _, _ => none
 | k + 1, x0, x5, x6, x33, x461000, x461001, x461002 => if x33 = true then ((zB_.f k x461000 x461001 x461002).bind fun bt470 => ((zv_.f k bt470.2.1 bt470.2.2.1 bt470.2.2.2).bind fun bt474 => ((zv_.f k bt474.2.1 bt474.2.2.1 bt474.2.2.2).bind fun bt478 => ((zv_.f k bt478.2.1 bt478.2.2.1 bt478.2.2.2).bind fun bt482 => (if bt474.1 < 0 then (zf_.j4 k x0 x5 x6 bt482.1 true bt482.2.1 bt482.2.2.1 bt482.2.2.2 bt470.1 (bt474.1 == 1) bt478.1) else (if bt474.1 > 1 then (zf_.j4 k x0 x5 x6 bt482.1 true bt482.2.1 bt482.2.2.1 bt482.2.2.2 bt470.1 (bt474.1 == 1) bt478.1) else (if bt482.1 < 0 then (zf_.j4 k x0 x5 x6 bt482.1 true bt482.2.1 bt482.2.2.1 bt482.2.2.2 bt470.1 (bt474.1 == 1) bt478.1) else (zf_.j4 k x0 x5 x6 bt482.1 (decide (bt482.1 > 100)) bt482.2.1 bt482.2.2.1 bt482.2.2.2 bt470.1 (bt474.1 == 1) bt478.1)))))))) else (if x461002 = true then (some (x5, false)) else (if x461001 = (x0.size : Int) then ((zw_.f k x5).bind fun t468 => (some (x5, t468))) else (some (x5, false))))
def zf_.j4 : Nat → ByteArray → List (S97) → Int → Int → Bool → ByteArray → Int → Bool → ByteArray → Bool → Int → Option ((List (S97)) × Bool)
 | 0, _, _, _, _, _, _, _, _, _, _, _ => none
 | k + 1, x0, x5, x6, x9, x63, x461000, x461001, x461002, x470000, x470001, x470002 => if x63 = true then (zf_.j5 k x0 x5 x6 x9 x461000 x461001 true x470000 x470001 x470002) else (zf_.j5 k x0 x5 x6 x9 x461000 x461001 x461002 x470000 x470001 x470002)
def zf_.j5 : Nat → ByteArray → List (S97) → Int → Int → ByteArray → Int → Bool → ByteArray → Bool → Int → Option ((List (S97)) × Bool)
 | 0, _, _, _, _, _, _, _, _, _, _ => none
 | k + 1, x0, x5, x6, x9, x461000, x461001, x461002, x470000, x470001, x470002 => zf_.l1 k x0 x5 x6 x9 x461000 x461001 x461002 x470000 x470001 x470002 ([] : List ByteArray)
def zf_.l1 : Nat → ByteArray → List (S97) → Int → Int → ByteArray → Int → Bool → ByteArray → Bool → Int → List ByteArray → Option ((List (S97)) × Bool)
 | 0, _, _, _, _, _, _, _, _, _, _, _ => none
 | k + 1, x0, x5, x6, x9, x461000, x461001, x461002, x470000, x470001, x470002, x470003 => if x9 > 0 then (if x461002 = true then (if x5.length < 2513169434916 then (zf_.l0 k x0 (x5 ++ [(⟨x470000, x470001, x470002, x470003⟩ : S97)]) (wrap64 (x6 - 1)) x461000 x461001 x461002) else (none)) else ((yy_.f x461000 x461001 x461002 32).bind fun bt489 => (if x470003.length < 8796093022208 then (zf_.l1 k x0 x5 x6 (wrap64 (x9 - 1)) bt489.2.1 bt489.2.2.1 bt489.2.2.2 x470000 x470001 x470002 (x470003 ++ [bt489.1])) else (none)))) else (if x5.length < 2513169434916 then (zf_.l0 k x0 (x5 ++ [(⟨x470000, x470001, x470002, x470003⟩ : S97)]) (wrap64 (x6 - 1)) x461000 x461001 x461002) else (none))
end
def zf_.f (k : Nat) (a0 : ByteArray) : Option ((List (S97)) × Bool) := (some (([] : List (S97)) : List (S97))).bind fun y461 => ((zv_.f k a0 0 false).bind fun bt464 => (if bt464.1 < 0 then (zf_.j0 k a0 y461 bt464.1 true bt464.2.1 bt464.2.2.1 bt464.2.2.2) else (zf_.j0 k a0 y461 bt464.1 (decide (bt464.1 > 20)) bt464.2.1 bt464.2.2.1 bt464.2.2.2)))
theorem zf_.mono_l : ∀ k, (∀ y0 y1 y2 y3 y4 y5 y6, LeO (zf_.j0 k y0 y1 y2 y3 y4 y5 y6) (zf_.j0 (k + 1) y0 y1 y2 y3 y4 y5 y6)) ∧ (∀ y0 y1 y2 y3 y4 y5, LeO (zf_.j1 k y0 y1 y2 y3 y4 y5) (zf_.j1 (k + 1) y0 y1 y2 y3 y4 y5)) ∧ (∀ y0 y1 y2 y3 y4 y5, LeO (zf_.l0 k y0 y1 y2 y3 y4 y5) (zf_.l0 (k + 1) y0 y1 y2 y3 y4 y5)) ∧ (∀ y0 y1 y2 y3 y4 y5 y6, LeO (zf_.j3 k y0 y1 y2 y3 y4 y5 y6) (zf_.j3 (k + 1) y0 y1 y2 y3 y4 y5 y6)) ∧ (∀ y0 y1 y2 y3 y4 y5 y6 y7 y8 y9 y10, LeO (zf_.j4 k y0 y1 y2 y3 y4 y5 y6 y7 y8 y9 y10) (zf_.j4 (k + 1) y0 y1 y2 y3 y4 y5 y6 y7 y8 y9 y10)) ∧ (∀ y0 y1 y2 y3 y4 y5 y6 y7 y8 y9, LeO (zf_.j5 k y0 y1 y2 y3 y4 y5 y6 y7 y8 y9) (zf_.j5 (k + 1) y0 y1 y2 y3 y4 y5 y6 y7 y8 y9)) ∧ (∀ y0 y1 y2 y3 y4 y5 y6 y7 y8 y9 y10, LeO (zf_.l1 k y0 y1 y2 y3 y4 y5 y6 y7 y8 y9 y10) (zf_.l1 (k + 1) y0 y1 y2 y3 y4 y5 y6 y7 y8 y9 y10))
 | 0 => ⟨fun _ _ _ _ _ _ _ r h => by simp [zf_.j0] at h, fun _ _ _ _ _ _ r h => by simp [zf_.j1] at h, fun _ _ _ _ _ _ r h => by simp [zf_.l0] at h, fun _ _ _ _ _ _ _ r h => by simp [zf_.j3] at h, fun _ _ _ _ _ _ _ _ _ _ _ r h => by simp [zf_.j4] at h, fun _ _ _ _ _ _ _ _ _ _ r h => by simp [zf_.j5] at h, fun _ _ _ _ _ _ _ _ _ _ _ r h => by simp [zf_.l1] at h⟩
 | k + 1 => by
  obtain ⟨ih0, ih1, ih2, ih3, ih4, ih5, ih6⟩ := zf_.mono_l k
  refine ⟨?_, ?_, ?_, ?_, ?_, ?_, ?_⟩
  ·
   intro y0 y1 y2 y3 y4 y5 y6
   unfold zf_.j0
   repeat' with_reducible first | exact ih0 _ _ _ _ _ _ _ | exact ih1 _ _ _ _ _ _ | exact ih2 _ _ _ _ _ _ | exact ih3 _ _ _ _ _ _ _ | exact ih4 _ _ _ _ _ _ _ _ _ _ _ | exact ih5 _ _ _ _ _ _ _ _ _ _ | exact ih6 _ _ _ _ _ _ _ _ _ _ _ | exact zw_.mono _ _ | exact zv_.mono _ _ _ _ | exact zB_.mono _ _ _ _ | exact LeO.refl _ | exact LeO.none _ | refine LeO.ite ?_ ?_ | refine LeO.bind ?_ (fun _ => ?_)
  ·
   intro y0 y1 y2 y3 y4 y5
   unfold zf_.j1
   repeat' with_reducible first | exact ih0 _ _ _ _ _ _ _ | exact ih1 _ _ _ _ _ _ | exact ih2 _ _ _ _ _ _ | exact ih3 _ _ _ _ _ _ _ | exact ih4 _ _ _ _ _ _ _ _ _ _ _ | exact ih5 _ _ _ _ _ _ _ _ _ _ | exact ih6 _ _ _ _ _ _ _ _ _ _ _ | exact zw_.mono _ _ | exact zv_.mono _ _ _ _ | exact zB_.mono _ _ _ _ | exact LeO.refl _ | exact LeO.none _ | refine LeO.ite ?_ ?_ | refine LeO.bind ?_ (fun _ => ?_)
  ·
   intro y0 y1 y2 y3 y4 y5
   unfold zf_.l0
   repeat' with_reducible first | exact ih0 _ _ _ _ _ _ _ | exact ih1 _ _ _ _ _ _ | exact ih2 _ _ _ _ _ _ | exact ih3 _ _ _ _ _ _ _ | exact ih4 _ _ _ _ _ _ _ _ _ _ _ | exact ih5 _ _ _ _ _ _ _ _ _ _ | exact ih6 _ _ _ _ _ _ _ _ _ _ _ | exact zw_.mono _ _ | exact zv_.mono _ _ _ _ | exact zB_.mono _ _ _ _ | exact LeO.refl _ | exact LeO.none _ | refine LeO.ite ?_ ?_ | refine LeO.bind ?_ (fun _ => ?_)
  ·
   intro y0 y1 y2 y3 y4 y5 y6
   unfold zf_.j3
   repeat' with_reducible first | exact ih0 _ _ _ _ _ _ _ | exact ih1 _ _ _ _ _ _ | exact ih2 _ _ _ _ _ _ | exact ih3 _ _ _ _ _ _ _ | exact ih4 _ _ _ _ _ _ _ _ _ _ _ | exact ih5 _ _ _ _ _ _ _ _ _ _ | exact ih6 _ _ _ _ _ _ _ _ _ _ _ | exact zw_.mono _ _ | exact zv_.mono _ _ _ _ | exact zB_.mono _ _ _ _ | exact LeO.refl _ | exact LeO.none _ | refine LeO.ite ?_ ?_ | refine LeO.bind ?_ (fun _ => ?_)
  ·
   intro y0 y1 y2 y3 y4 y5 y6 y7 y8 y9 y10
   unfold zf_.j4
   repeat' with_reducible first | exact ih0 _ _ _ _ _ _ _ | exact ih1 _ _ _ _ _ _ | exact ih2 _ _ _ _ _ _ | exact ih3 _ _ _ _ _ _ _ | exact ih4 _ _ _ _ _ _ _ _ _ _ _ | exact ih5 _ _ _ _ _ _ _ _ _ _ | exact ih6 _ _ _ _ _ _ _ _ _ _ _ | exact zw_.mono _ _ | exact zv_.mono _ _ _ _ | exact zB_.mono _ _ _ _ | exact LeO.refl _ | exact LeO.none _ | refine LeO.ite ?_ ?_ | refine LeO.bind ?_ (fun _ => ?_)
  ·
   intro y0 y1 y2 y3 y4 y5 y6 y7 y8 y9
   unfold zf_.j5
   repeat' with_reducible first | exact ih0 _ _ _ _ _ _ _ | exact ih1 _ _ _ _ _ _ | exact ih2 _ _ _ _ _ _ | exact ih3 _ _ _ _ _ _ _ | exact ih4 _ _ _ _ _ _ _ _ _ _ _ | exact ih5 _ _ _ _ _ _ _ _ _ _ | exact ih6 _ _ _ _ _ _ _ _ _ _ _ | exact zw_.mono _ _ | exact zv_.mono _ _ _ _ | exact zB_.mono _ _ _ _ | exact LeO.refl _ | exact LeO.none _ | refine LeO.ite ?_ ?_ | refine LeO.bind ?_ (fun _ => ?_)
  ·
   intro y0 y1 y2 y3 y4 y5 y6 y7 y8 y9 y10
   unfold zf_.l1
   repeat' with_reducible first | exact ih0 _ _ _ _ _ _ _ | exact ih1 _ _ _ _ _ _ | exact ih2 _ _ _ _ _ _ | exact ih3 _ _ _ _ _ _ _ | exact ih4 _ _ _ _ _ _ _ _ _ _ _ | exact ih5 _ _ _ _ _ _ _ _ _ _ | exact ih6 _ _ _ _ _ _ _ _ _ _ _ | exact zw_.mono _ _ | exact zv_.mono _ _ _ _ | exact zB_.mono _ _ _ _ | exact LeO.refl _ | exact LeO.none _ | refine LeO.ite ?_ ?_ | refine LeO.bind ?_ (fun _ => ?_)
theorem zf_.mono : ∀ a0 k, LeO (zf_.f k a0) (zf_.f (k + 1) a0) := by
 intro a0 k
 obtain ⟨ih0, ih1, ih2, ih3, ih4, ih5, ih6⟩ := zf_.mono_l k
 unfold zf_.f
 repeat' with_reducible first | exact ih0 _ _ _ _ _ _ _ | exact ih1 _ _ _ _ _ _ | exact ih2 _ _ _ _ _ _ | exact ih3 _ _ _ _ _ _ _ | exact ih4 _ _ _ _ _ _ _ _ _ _ _ | exact ih5 _ _ _ _ _ _ _ _ _ _ | exact ih6 _ _ _ _ _ _ _ _ _ _ _ | exact zw_.mono _ _ | exact zv_.mono _ _ _ _ | exact zB_.mono _ _ _ _ | exact LeO.refl _ | exact LeO.none _ | refine LeO.ite ?_ ?_ | refine LeO.bind ?_ (fun _ => ?_)
def zf_.T18 : Bool × List (List Nat × List Nat) := (true, [([], []), ([0], [0]), ([], []), ([2], [2]), ([3], [3]), ([1, 4, 3], [1, 4]), ([0, 1, 2, 3, 4, 5], []), ([6, 5, 5, 0, 1, 2, 3, 4, 5], [5, 6])])
def zf_.B18 : List Nat := [0, 1, 0, 4, 12, 31, 63, 127]
theorem zf_.tab18 : rtab .any (opsOf Try.f66 18) = zf_.T18 := by kernel_rfl
theorem zf_.bits18 : xe_ zf_.T18.2 zf_.B18 = true := by kernel_rfl
theorem zf_.calls (k : Nat) (a0 : ByteArray) (r1 : List (S97)) (r2 : Bool) (w : World) (h : zf_.f k a0 = some (r1, r2)) :
 Calls Try.prog 66 #[.string a0] w fun e w' => ∃ v0_ : Value, e = .returned (.tuple #[v0_, .bool r2]) ∧ Kd.S k97 97 w' w.heap.size (fun _ => True) v0_ r1 ∧ Below w.heap.size w w' := by
 have hu184 := Try.underlying184
 have hu97 := Try.underlying97
 have HB := AM (Below.refl w.heap.size w)
 have H : ((some (([] : List (S97)) : List (S97))).bind fun y461 => ((zv_.f k a0 0 false).bind fun bt464 => (if bt464.1 < 0 then (zf_.j0 k a0 y461 bt464.1 true bt464.2.1 bt464.2.2.1 bt464.2.2.2) else (zf_.j0 k a0 y461 bt464.1 (decide (bt464.1 > 20)) bt464.2.1 bt464.2.2.1 bt464.2.2.2)))) = some (r1, r2) := h
 clear h
 obtain ⟨y461, hy461⟩ : ∃ y_ : List (S97), y_ = (([] : List (S97))) := ⟨_, rfl⟩
 replace H : ((zv_.f k a0 0 false).bind fun bt464 => (if bt464.1 < 0 then (zf_.j0 k a0 y461 bt464.1 true bt464.2.1 bt464.2.2.1 bt464.2.2.2) else (zf_.j0 k a0 y461 bt464.1 (decide (bt464.1 > 20)) bt464.2.1 bt464.2.2.1 bt464.2.2.2))) = some (r1, r2) := by first | (rw [hy461]; with_reducible exact H) | (have H2_ := (Option.bind_some _ _).symm.trans H; rw [hy461]; with_reducible exact H2_) | (have H2_ := (Option.bind_some _ _).symm.trans H; with_reducible exact H2_) | with_reducible exact H | (rw [hy461]; exact H) | exact H
 have Ny461 := AM hy461
 clear hy461
 obtain ⟨⟨t464, t465, t466, t467⟩, A2, H⟩ := OB H
 try dsimp only at H
 replace A2 := AM A2
 have HC3 := AM H
 clear H
 go_enter Try.func66, Try.ntmps66
 go_upto_region 4 with (first | ((with_reducible refine z6_ (N := 12) rfl ?_); (try (refine y6_ (by rfl) ?_; dsimp only)); refine be_ 12 #[.string a0, .int .i64 0, .bool false] 184 ?_; intro gb460 hg w4 hbox hb; have HI460 := AM ((⟨hbox, (by rw [hg]; exact (zj_ bel_) : w.heap.size ≤ gb460)⟩ : zn_ w w4 gb460 a0 0 false)); replace HB := AM (zg_ bel_ hb); clear hb hbox hg) | ((with_reducible refine z6_ (N := 13) rfl ?_); (try (refine y6_ (by rfl) ?_; dsimp only)); refine Kd.S_lit k97 _ 97 ?hg (N := 13) ?hd (xs := ([] : List (S97))) (inner := []) (ok := fun _ => True) (okp := fun _ => True) ?hr ?hp (fun _ hk => hk) trivial (Below.refl _ _) (Nat.le_refl _) (by simp) ?_; (case hd => rfl); (case hg => rfl); (case hr => first | (go_simp; done) | (go_simp; rfl)); (case hp => exact (Reps.none _ _)); intro v462 w5 ho6 hb hg_ hnew_; clear hg_ hnew_; (first | rw [← Ny461.out] at ho6 | (simp only [Int.reduceToNat] at ho6; rw [← Ny461.out] at ho6)); have HO463 := AM (Kd.xh_ ho6 (zj_ (belg_ (zn_.ge HI460.out)))); replace HB := AM (zg_ (belg_ (zn_.ge HI460.out)) hb); replace HI460 := AM (zn_.below z3_ hb); clear hb ho6) | ((with_reducible refine zl_ (f := 144) rfl ?_); refine gl_ (some 15) Try.func144 #[.pointer (some ⟨gb460, 0, none⟩)] ?_; (with_reducible refine (zv_.calls k gb460 a0 0 false t464 t465 t466 t467 w _ ?side1 ?side2 A2.out).mono ?_); (case side1 => exact z3_); (case side2 => exact belg_ (zn_.ge HI460.out)); rintro e w7 ⟨rfl, hi, hb, hk⟩; refine ⟨_, rfl, ?_⟩; replace HO463 := AM (Kd.zR_ (Kd.yT_ (zn_.apartS (show zn_ w _ gb460 a0 0 false from z3_) (ks_ HO463.out) (by decide)) hk (fun _ h => h.2)) (fun _ h => h.1)); replace HB := AM hb; replace HI460 := AM hi; (try clear hb); (try clear hk); (try clear hi)))
 (try simp only [Act.put, List.setIfInBounds_toArray, List.set_cons_zero, List.set_cons_succ])
 go_cut [21] (fun v21 wc => ∃ (kq : Nat) (x21_2 : Bool), v21 = .bool x21_2 ∧ zd_ (zf_.j0 kq a0 y461 t464 x21_2 t465 t466 t467 = some (r1, r2)) ∧ zd_ (kq ≤ k) ∧ zd_ (Kd.S k97 97 wc w.heap.size (fun _ => True) v462 y461) ∧ zd_ (zn_ w wc gb460 t465 t466 t467) ∧ zd_ (Below w.heap.size w wc))
 case first =>
  have H := HC3.out
  clear HC3
  by_cases c8 : t464 < 0
  ·
   rw [if_pos c8] at H
   have c8b0 : decide (t464 < 0) = true := decide_eq_true c8
   clear c8
   (first | rw [c8b0] | (simp only [i64_w, i32_w]; rw [c8b0]) | skip)
   have H' := AM H
   clear H
   go_wp2
   go_meet
   case rel => exact ⟨_, (true), re_, H', ⟨by first | omega | exact Nat.le_refl _⟩, ⟨ks_ HO463.out⟩, ⟨z3_⟩, ⟨belg_ (zn_.ge HI460.out)⟩⟩
  ·
   rw [if_neg c8] at H
   have c8b0 : decide (t464 < 0) = false := decide_eq_false c8
   clear c8
   (first | rw [c8b0] | (simp only [i64_w, i32_w]; rw [c8b0]) | skip)
   have H' := AM H
   clear H
   go_wp2
   go_meet
   case rel => exact ⟨_, (decide (t464 > 20)), re_, H', ⟨by first | omega | exact Nat.le_refl _⟩, ⟨ks_ HO463.out⟩, ⟨z3_⟩, ⟨belg_ (zn_.ge HI460.out)⟩⟩
 case rest =>
  clear HC3
  (try clear c8b0)
  obtain ⟨kq, x21_2, rfl, HA, HJ2, HO_5, HI460, HB⟩ := hcut
  cases kq with
  | zero => exact absurd HA.out (by simp [zf_.j0])
  | succ kj2 =>
   have H := HA.out
   clear HA
   simp only [zf_.j0] at H
   have HC9 := AM H
   clear H
   go_upto_if 21 with (fail)
   go_cut [] (fun wc => ∃ (kq : Nat) (x461002_8 : Bool), zd_ (zf_.j1 kq a0 y461 t464 t465 t466 x461002_8 = some (r1, r2)) ∧ zd_ (kq ≤ kj2) ∧ zd_ (Kd.S k97 97 wc w.heap.size (fun _ => True) v462 y461) ∧ zd_ (zn_ w wc gb460 t465 t466 x461002_8) ∧ zd_ (Below w.heap.size w wc))
   case first =>
    have H := HC9.out
    clear HC9
    by_cases c10 : x21_2 = true
    ·
     subst c10
     rw [if_pos rfl] at H
     have H' := AM H
     clear H
     obtain ⟨HGz11, hgz11⟩ := HI460.out
     have hcz11_0 := z0_ HGz11
     have hcz11_1 := zZ_ HGz11
     have hcz11_2 := zY_ HGz11
     have hfz11_0 := za_ HGz11 0
     have hfz11_1 := za_ HGz11 1
     have hfz11_2 := za_ HGz11 2
     clear HGz11 hgz11
     go_wp2
     go_meet
     case rel => exact ⟨_, (true), H', ⟨by have := HJ2.out; first | omega | exact Nat.le_refl _⟩, ⟨by (with_reducible repeat (first | apply Kd.ye_ | apply Kd.yd_ | apply Kd.yi_)); exact Kd.zR_ (Kd.S_far (p := ⟨gb460, 2, none⟩) (zn_.apartS HI460.out HO_5.out (by decide)) (fun _ hk => hk.2) (.bool true)) (fun _ hk => trivial)⟩, ⟨z3_⟩, ⟨belg_ (zn_.ge HI460.out)⟩⟩
    ·
     replace c10 := Bool.eq_false_iff.mpr c10
     subst c10
     rw [if_neg (show ¬ (false = true) by decide)] at H
     have H' := AM H
     clear H
     go_wp2
     go_meet
     case rel => exact ⟨_, (t467), H', ⟨by have := HJ2.out; first | omega | exact Nat.le_refl _⟩, ⟨ks_ HO_5.out⟩, ⟨z3_⟩, ⟨belg_ (zn_.ge HI460.out)⟩⟩
   case rest =>
    clear HC9
    (try clear c10); (try clear hcz11_0); (try clear hcz11_1); (try clear hcz11_2); (try clear hfz11_0); (try clear hfz11_1); (try clear hfz11_2)
    obtain ⟨kq, x461002_8, HA, HJ8, HO_5, HI460, HB⟩ := hcut
    cases kq with
    | zero => exact absurd HA.out (by simp [zf_.j1])
    | succ kj8 =>
     have H := HA.out
     clear HA
     simp only [zf_.j1] at H
     have H' := AM H
     clear H
     go_wp2
     go_loopg [5, 6] kj8 (fun kq v5 v6 w' => ∃ (x5_3 : List (S97)) (x6_3 : Int) (x461000_3 : ByteArray) (x461001_3 : Int) (x461002_3 : Bool), v6 = .int .i64 x6_3 ∧ zd_ (zf_.l0 kq a0 x5_3 x6_3 x461000_3 x461001_3 x461002_3 = some (r1, r2)) ∧ zd_ (kq ≤ kj8) ∧ zd_ (Kd.S k97 97 w' w.heap.size (fun _ => True) v5 x5_3) ∧ zd_ (zn_ w w' gb460 x461000_3 x461001_3 x461002_3) ∧ zd_ (Below w.heap.size w w'))
     case atStart => exact ⟨(y461), (t464), (t465), (t466), (x461002_8), re_, H', ⟨Nat.le_refl _⟩, ⟨ks_ HO_5.out⟩, ⟨z3_⟩, ⟨belg_ (zn_.ge HI460.out)⟩⟩
     case round =>
      clear H'
      obtain ⟨x5_3, x6_3, x461000_3, x461001_3, x461002_3, rfl, HA, HK3, HO_5, HI460, HB⟩ := hrel
      cases gk with
      | zero => exact absurd HA.out (by simp [zf_.l0])
      | succ k3 =>
       have H := HA.out
       clear HA
       simp only [zf_.l0] at H
       have HC12 := AM H
       clear H
       go_upto_region 6 with (fail)
       go_cut [33] (fun v33 wc => ∃ (kq : Nat) (x33_11 : Bool), v33 = .bool x33_11 ∧ zd_ (zf_.j3 kq a0 x5_3 x6_3 x33_11 x461000_3 x461001_3 x461002_3 = some (r1, r2)) ∧ zd_ (kq ≤ k3) ∧ zd_ (Kd.S k97 97 wc w.heap.size (fun _ => True) u5 x5_3) ∧ zd_ (zn_ w wc gb460 x461000_3 x461001_3 x461002_3) ∧ zd_ (Below w.heap.size w wc))
       case first =>
        have H := HC12.out
        clear HC12
        by_cases c13 : x6_3 > 0
        ·
         rw [if_pos c13] at H
         have c13b0 : decide (0 < x6_3) = true := decide_eq_true c13
         clear c13
         (first | rw [c13b0] | (simp only [i64_w, i32_w]; rw [c13b0]) | skip)
         have H' := AM H
         clear H
         obtain ⟨HGz14, hgz14⟩ := HI460.out
         have hcz14_0 := z0_ HGz14
         have hcz14_1 := zZ_ HGz14
         have hcz14_2 := zY_ HGz14
         have hfz14_0 := za_ HGz14 0
         have hfz14_1 := za_ HGz14 1
         have hfz14_2 := za_ HGz14 2
         clear HGz14 hgz14
         go_wp2
         go_meet
         case rel => exact ⟨_, (!x461002_3), re_, H', ⟨by have := HJ2.out; have := HJ8.out; have := HK3.out; first | omega | exact Nat.le_refl _⟩, ⟨ks_ HO_5.out⟩, ⟨z3_⟩, ⟨belg_ (zn_.ge HI460.out)⟩⟩
        ·
         rw [if_neg c13] at H
         have c13b0 : decide (0 < x6_3) = false := decide_eq_false c13
         clear c13
         (first | rw [c13b0] | (simp only [i64_w, i32_w]; rw [c13b0]) | skip)
         have H' := AM H
         clear H
         go_wp2
         go_meet
         case rel => exact ⟨_, (false), re_, H', ⟨by have := HJ2.out; have := HJ8.out; have := HK3.out; first | omega | exact Nat.le_refl _⟩, ⟨ks_ HO_5.out⟩, ⟨z3_⟩, ⟨belg_ (zn_.ge HI460.out)⟩⟩
       case rest =>
        clear HC12
        (try clear c13b0); (try clear hcz14_0); (try clear hcz14_1); (try clear hcz14_2); (try clear hfz14_0); (try clear hfz14_1); (try clear hfz14_2)
        obtain ⟨kq, x33_11, rfl, HA, HJ11, HO_5, HI460, HB⟩ := hcut
        cases kq with
        | zero => exact absurd HA.out (by simp [zf_.j3])
        | succ kj11 =>
         have H := HA.out
         clear HA
         simp only [zf_.j3] at H
         by_cases c15 : x33_11 = true
         ·
          subst c15
          rw [if_pos rfl] at H
          obtain ⟨⟨t470, t471, t472, t473⟩, A16, H⟩ := OB H
          try dsimp only at H
          replace A16 := AM A16
          obtain ⟨⟨t474, t475, t476, t477⟩, A17, H⟩ := OB H
          try dsimp only at H
          replace A17 := AM A17
          obtain ⟨⟨t478, t479, t480, t481⟩, A18, H⟩ := OB H
          try dsimp only at H
          replace A18 := AM A18
          obtain ⟨⟨t482, t483, t484, t485⟩, A19, H⟩ := OB H
          try dsimp only at H
          replace A19 := AM A19
          have HC20 := AM H
          clear H
          go_upto_region 14 with (first | ((with_reducible refine z6_ (N := 7) rfl ?_); (try (refine y6_ (by rfl) ?_; dsimp only)); refine be_ 7 #[.string (⟨#[]⟩ : ByteArray), .bool false, .int .i64 0, .slice none 0 0] 97 ?_; intro gb469 hg w21 hbox hb; replace HO_5 := AM (Kd.yB_ (Kd.S_elderB (ks_ HO_5.out) gb469 (Nat.le_of_eq hg.symm)) hb); have BK469 := AM hbox; have GW469 := AM ((by rw [hg]; exact (zj_ (belg_ (zn_.ge HI460.out))) : w.heap.size ≤ gb469)); have GE469 := AM ((by rw [hg]; exact (zj_ (belg_ (zn_.ge HI460.out))) : w.heap.size ≤ gb469)); replace HB := AM (zg_ (belg_ (zn_.ge HI460.out)) hb); have NB460_469 := AM ((by rw [hg]; exact Nat.ne_of_lt (zn_.lt (show zn_ w _ gb460 x461000_3 x461001_3 x461002_3 from z3_)) : gb460 ≠ gb469)); have NB469_460 := AM ((by rw [hg]; exact Nat.ne_of_gt (zn_.lt (show zn_ w _ gb460 x461000_3 x461001_3 x461002_3 from z3_)) : gb469 ≠ gb460)); replace HI460 := AM (zn_.below z3_ hb); clear hb hbox hg; have hnb22 := NB469_460.out; have hnc22 := NB460_469.out; have hcz23_0 : w21.cell? ⟨gb469, 0, none⟩ = some (.string (⟨#[]⟩ : ByteArray)) := (zb_ BK469.out 0).trans rfl; have hcz23_1 : w21.cell? ⟨gb469, 1, none⟩ = some (.bool false) := (zb_ BK469.out 1).trans rfl; have hcz23_2 : w21.cell? ⟨gb469, 2, none⟩ = some (.int .i64 0) := (zb_ BK469.out 2).trans rfl; have hcz23_3 : w21.cell? ⟨gb469, 3, none⟩ = some (.slice none 0 0) := (zb_ BK469.out 3).trans rfl; have hfz23_0 := za_ BK469.out 0; have hfz23_1 := za_ BK469.out 1; have hfz23_2 := za_ BK469.out 2; have hfz23_3 := za_ BK469.out 3) | ((with_reducible refine zl_ (f := 145) rfl ?_); refine gl_ (some 38) Try.func145 #[.pointer (some ⟨gb460, 0, none⟩)] ?_; (with_reducible refine (zB_.calls kj11 gb460 x461000_3 x461001_3 x461002_3 t470 t471 t472 t473 w _ ?side1 ?side2 A16.out).mono ?_); (case side1 => exact z3_); (case side2 => exact belg_ (zn_.ge HI460.out)); rintro e w24 ⟨rfl, hi, hb, hk⟩; refine ⟨_, rfl, ?_⟩; replace HO_5 := AM (Kd.zR_ (Kd.yT_ (zn_.apartS (show zn_ w _ gb460 x461000_3 x461001_3 x461002_3 from z3_) (ks_ (Kd.zR_ (Kd.S_far (p := ⟨gb469, 3, none⟩) (Kd.S_far (p := ⟨gb469, 2, none⟩) (Kd.S_far (p := ⟨gb469, 1, none⟩) (Kd.S_far (p := ⟨gb469, 0, none⟩) (Kd.zR_ HO_5.out (fun k_ hk => (⟨hk, hk.2⟩ : _ ∧ k_ ≠ gb469))) (fun _ hk => hk.2) (.string (⟨#[]⟩ : ByteArray))) (fun _ hk => hk.2) (.bool false)) (fun _ hk => hk.2) (.int .i64 0)) (fun _ hk => hk.2) (.slice none 0 0)) (fun _ h_ => h_.1))) (by decide)) hk (fun _ h => h.2)) (fun _ h => h.1)); replace BK469 := AM (zs_.blk hk (g' := gb469) (o := .cells #[.string (⟨#[]⟩ : ByteArray), .bool false, .int .i64 0, .slice none 0 0] 97 (0, 0)) bka_ NB469_460.out (by simp)); replace HB := AM hb; replace HI460 := AM hi; (try clear hb); (try clear hk); (try clear hi); have hcz25_0 : w24.cell? ⟨gb469, 0, none⟩ = some (.string (⟨#[]⟩ : ByteArray)) := (zb_ BK469.out 0).trans rfl; have hcz25_1 : w24.cell? ⟨gb469, 1, none⟩ = some (.bool false) := (zb_ BK469.out 1).trans rfl; have hcz25_2 : w24.cell? ⟨gb469, 2, none⟩ = some (.int .i64 0) := (zb_ BK469.out 2).trans rfl; have hcz25_3 : w24.cell? ⟨gb469, 3, none⟩ = some (.slice none 0 0) := (zb_ BK469.out 3).trans rfl; have hfz25_0 := za_ BK469.out 0; have hfz25_1 := za_ BK469.out 1; have hfz25_2 := za_ BK469.out 2; have hfz25_3 := za_ BK469.out 3) | ((with_reducible refine zl_ (f := 144) rfl ?_); refine gl_ (some 41) Try.func144 #[.pointer (some ⟨gb460, 0, none⟩)] ?_; (with_reducible refine (zv_.calls kj11 gb460 t471 t472 t473 t474 t475 t476 t477 w _ ?side1 ?side2 A17.out).mono ?_); (case side1 => exact z3_); (case side2 => exact belg_ (zn_.ge HI460.out)); rintro e w26 ⟨rfl, hi, hb, hk⟩; refine ⟨_, rfl, ?_⟩; replace HO_5 := AM (Kd.zR_ (Kd.yT_ (zn_.apartS (show zn_ w _ gb460 t471 t472 t473 from z3_) (ks_ (Kd.zR_ (Kd.S_far (p := ⟨gb469, 0, none⟩) (Kd.zR_ HO_5.out (fun k_ hk => (⟨hk, hk.2⟩ : _ ∧ k_ ≠ gb469))) (fun _ hk => hk.2) (.string t470)) (fun _ h_ => h_.1))) (by decide)) hk (fun _ h => h.2)) (fun _ h => h.1)); replace BK469 := AM (zs_.blk hk (g' := gb469) (o := .cells #[.string t470, .bool false, .int .i64 0, .slice none 0 0] 97 (0, 0)) bka_ NB469_460.out (by simp)); replace HB := AM hb; replace HI460 := AM hi; (try clear hb); (try clear hk); (try clear hi); have hcz27_0 : w26.cell? ⟨gb469, 0, none⟩ = some (.string t470) := (zb_ BK469.out 0).trans rfl; have hcz27_1 : w26.cell? ⟨gb469, 1, none⟩ = some (.bool false) := (zb_ BK469.out 1).trans rfl; have hcz27_2 : w26.cell? ⟨gb469, 2, none⟩ = some (.int .i64 0) := (zb_ BK469.out 2).trans rfl; have hcz27_3 : w26.cell? ⟨gb469, 3, none⟩ = some (.slice none 0 0) := (zb_ BK469.out 3).trans rfl; have hfz27_0 := za_ BK469.out 0; have hfz27_1 := za_ BK469.out 1; have hfz27_2 := za_ BK469.out 2; have hfz27_3 := za_ BK469.out 3) | ((with_reducible refine zl_ (f := 144) rfl ?_); refine gl_ (some 46) Try.func144 #[.pointer (some ⟨gb460, 0, none⟩)] ?_; (with_reducible refine (zv_.calls kj11 gb460 t475 t476 t477 t478 t479 t480 t481 w _ ?side1 ?side2 A18.out).mono ?_); (case side1 => exact z3_); (case side2 => exact belg_ (zn_.ge HI460.out)); rintro e w28 ⟨rfl, hi, hb, hk⟩; refine ⟨_, rfl, ?_⟩; replace HO_5 := AM (Kd.zR_ (Kd.yT_ (zn_.apartS (show zn_ w _ gb460 t475 t476 t477 from z3_) (ks_ (Kd.zR_ (Kd.S_far (p := ⟨gb469, 1, none⟩) (Kd.zR_ HO_5.out (fun k_ hk => (⟨hk, hk.2⟩ : _ ∧ k_ ≠ gb469))) (fun _ hk => hk.2) (.bool (t474 == 1))) (fun _ h_ => h_.1))) (by decide)) hk (fun _ h => h.2)) (fun _ h => h.1)); replace BK469 := AM (zs_.blk hk (g' := gb469) (o := .cells #[.string t470, .bool (t474 == 1), .int .i64 0, .slice none 0 0] 97 (0, 0)) bka_ NB469_460.out (by simp)); replace HB := AM hb; replace HI460 := AM hi; (try clear hb); (try clear hk); (try clear hi); have hcz29_0 : w28.cell? ⟨gb469, 0, none⟩ = some (.string t470) := (zb_ BK469.out 0).trans rfl; have hcz29_1 : w28.cell? ⟨gb469, 1, none⟩ = some (.bool (t474 == 1)) := (zb_ BK469.out 1).trans rfl; have hcz29_2 : w28.cell? ⟨gb469, 2, none⟩ = some (.int .i64 0) := (zb_ BK469.out 2).trans rfl; have hcz29_3 : w28.cell? ⟨gb469, 3, none⟩ = some (.slice none 0 0) := (zb_ BK469.out 3).trans rfl; have hfz29_0 := za_ BK469.out 0; have hfz29_1 := za_ BK469.out 1; have hfz29_2 := za_ BK469.out 2; have hfz29_3 := za_ BK469.out 3) | ((with_reducible refine zl_ (f := 144) rfl ?_); refine gl_ (some 49) Try.func144 #[.pointer (some ⟨gb460, 0, none⟩)] ?_; (with_reducible refine (zv_.calls kj11 gb460 t479 t480 t481 t482 t483 t484 t485 w _ ?side1 ?side2 A19.out).mono ?_); (case side1 => exact z3_); (case side2 => exact belg_ (zn_.ge HI460.out)); rintro e w30 ⟨rfl, hi, hb, hk⟩; refine ⟨_, rfl, ?_⟩; replace HO_5 := AM (Kd.zR_ (Kd.yT_ (zn_.apartS (show zn_ w _ gb460 t479 t480 t481 from z3_) (ks_ (Kd.zR_ (Kd.S_far (p := ⟨gb469, 2, none⟩) (Kd.zR_ HO_5.out (fun k_ hk => (⟨hk, hk.2⟩ : _ ∧ k_ ≠ gb469))) (fun _ hk => hk.2) (.int .i64 t478)) (fun _ h_ => h_.1))) (by decide)) hk (fun _ h => h.2)) (fun _ h => h.1)); replace BK469 := AM (zs_.blk hk (g' := gb469) (o := .cells #[.string t470, .bool (t474 == 1), .int .i64 t478, .slice none 0 0] 97 (0, 0)) bka_ NB469_460.out (by simp)); replace HB := AM hb; replace HI460 := AM hi; (try clear hb); (try clear hk); (try clear hi)))
          (try simp only [Act.put, List.setIfInBounds_toArray, List.set_cons_zero, List.set_cons_succ])
          go_cut [63] (fun v63 wc => ∃ (kq : Nat) (x63_19 : Bool), v63 = .bool x63_19 ∧ zd_ (zf_.j4 kq a0 x5_3 x6_3 t482 x63_19 t483 t484 t485 t470 (t474 == 1) t478 = some (r1, r2)) ∧ zd_ (kq ≤ kj11) ∧ zd_ (Kd.S k97 97 wc w.heap.size (fun k_ => k_ ≠ gb469) u5 x5_3) ∧ zd_ (wc.heap[gb469]? = some (.cells #[.string t470, .bool (t474 == 1), .int .i64 t478, (.slice none 0 0)] 97 (0, 0))) ∧ zd_ (zn_ w wc gb460 t483 t484 t485) ∧ zd_ (Below w.heap.size w wc))
          case first =>
           have H := HC20.out
           clear HC20
           by_cases c31 : t474 < 0
           ·
            rw [if_pos c31] at H
            have c31b0 : decide (t474 < 0) = true := decide_eq_true c31
            clear c31
            (first | rw [c31b0] | (simp only [i64_w, i32_w]; rw [c31b0]) | skip)
            have H' := AM H
            clear H
            go_wp2
            go_meet
            case rel => exact ⟨_, (true), re_, H', ⟨by have := HJ2.out; have := HJ8.out; have := HK3.out; have := HJ11.out; first | omega | exact Nat.le_refl _⟩, ⟨by (with_reducible repeat (first | apply Kd.ye_ | apply Kd.yd_ | apply Kd.yi_)); exact Kd.zR_ HO_5.out (fun _ hk => hk.2)⟩, ⟨bk_ BK469.out⟩, ⟨z3_⟩, ⟨belg_ (zn_.ge HI460.out)⟩⟩
           ·
            rw [if_neg c31] at H
            have c31b0 : decide (t474 < 0) = false := decide_eq_false c31
            clear c31
            (first | rw [c31b0] | (simp only [i64_w, i32_w]; rw [c31b0]) | skip)
            by_cases c32 : t474 > 1
            ·
             rw [if_pos c32] at H
             have c32b0 : decide (1 < t474) = true := decide_eq_true c32
             clear c32
             have H' := AM H
             clear H
             go_wp2
             go_meet
             case rel => exact ⟨_, (true), re_, H', ⟨by have := HJ2.out; have := HJ8.out; have := HK3.out; have := HJ11.out; first | omega | exact Nat.le_refl _⟩, ⟨by (with_reducible repeat (first | apply Kd.ye_ | apply Kd.yd_ | apply Kd.yi_)); exact Kd.zR_ HO_5.out (fun _ hk => hk.2)⟩, ⟨bk_ BK469.out⟩, ⟨z3_⟩, ⟨belg_ (zn_.ge HI460.out)⟩⟩
            ·
             rw [if_neg c32] at H
             have c32b0 : decide (1 < t474) = false := decide_eq_false c32
             clear c32
             by_cases c33 : t482 < 0
             ·
              rw [if_pos c33] at H
              have c33b0 : decide (t482 < 0) = true := decide_eq_true c33
              clear c33
              have H' := AM H
              clear H
              go_wp2
              go_meet
              case rel => exact ⟨_, (true), re_, H', ⟨by have := HJ2.out; have := HJ8.out; have := HK3.out; have := HJ11.out; first | omega | exact Nat.le_refl _⟩, ⟨by (with_reducible repeat (first | apply Kd.ye_ | apply Kd.yd_ | apply Kd.yi_)); exact Kd.zR_ HO_5.out (fun _ hk => hk.2)⟩, ⟨bk_ BK469.out⟩, ⟨z3_⟩, ⟨belg_ (zn_.ge HI460.out)⟩⟩
             ·
              rw [if_neg c33] at H
              have c33b0 : decide (t482 < 0) = false := decide_eq_false c33
              clear c33
              have H' := AM H
              clear H
              go_wp2
              go_meet
              case rel => exact ⟨_, (decide (t482 > 100)), re_, H', ⟨by have := HJ2.out; have := HJ8.out; have := HK3.out; have := HJ11.out; first | omega | exact Nat.le_refl _⟩, ⟨by (with_reducible repeat (first | apply Kd.ye_ | apply Kd.yd_ | apply Kd.yi_)); exact Kd.zR_ HO_5.out (fun _ hk => hk.2)⟩, ⟨bk_ BK469.out⟩, ⟨z3_⟩, ⟨belg_ (zn_.ge HI460.out)⟩⟩
          case rest =>
           clear HC20
           (try clear c15); (try clear c31b0); (try clear c32b0); (try clear c33b0); (try clear hcz23_0); (try clear hcz23_1); (try clear hcz23_2); (try clear hcz23_3); (try clear hcz25_0); (try clear hcz25_1); (try clear hcz25_2); (try clear hcz25_3); (try clear hcz27_0); (try clear hcz27_1); (try clear hcz27_2); (try clear hcz27_3); (try clear hcz29_0); (try clear hcz29_1); (try clear hcz29_2); (try clear hcz29_3); (try clear hfz23_0); (try clear hfz23_1); (try clear hfz23_2); (try clear hfz23_3); (try clear hfz25_0); (try clear hfz25_1); (try clear hfz25_2); (try clear hfz25_3); (try clear hfz27_0); (try clear hfz27_1); (try clear hfz27_2); (try clear hfz27_3); (try clear hfz29_0); (try clear hfz29_1); (try clear hfz29_2); (try clear hfz29_3)
           obtain ⟨kq, x63_19, rfl, HA, HJ19, HO_5, BK469, HI460, HB⟩ := hcut
           cases kq with
           | zero => exact absurd HA.out (by simp [zf_.j4])
           | succ kj19 =>
            have H := HA.out
            clear HA
            simp only [zf_.j4] at H
            have HC34 := AM H
            clear H
            go_upto_if 63 with (fail)
            go_cut [] (fun wc => ∃ (kq : Nat) (x461002_33 : Bool), zd_ (zf_.j5 kq a0 x5_3 x6_3 t482 t483 t484 x461002_33 t470 (t474 == 1) t478 = some (r1, r2)) ∧ zd_ (kq ≤ kj19) ∧ zd_ (Kd.S k97 97 wc w.heap.size (fun k_ => k_ ≠ gb469) u5 x5_3) ∧ zd_ (wc.heap[gb469]? = some (.cells #[.string t470, .bool (t474 == 1), .int .i64 t478, (.slice none 0 0)] 97 (0, 0))) ∧ zd_ (zn_ w wc gb460 t483 t484 x461002_33) ∧ zd_ (Below w.heap.size w wc))
            case first =>
             have H := HC34.out
             clear HC34
             by_cases c35 : x63_19 = true
             ·
              subst c35
              rw [if_pos rfl] at H
              have H' := AM H
              clear H
              obtain ⟨HGz36, hgz36⟩ := HI460.out
              have hcz36_0 := z0_ HGz36
              have hcz36_1 := zZ_ HGz36
              have hcz36_2 := zY_ HGz36
              have hfz36_0 := za_ HGz36 0
              have hfz36_1 := za_ HGz36 1
              have hfz36_2 := za_ HGz36 2
              clear HGz36 hgz36
              go_wp2
              go_meet
              case rel => exact ⟨_, (true), H', ⟨by have := HJ2.out; have := HJ8.out; have := HK3.out; have := HJ11.out; have := HJ19.out; first | omega | exact Nat.le_refl _⟩, ⟨by (with_reducible repeat (first | apply Kd.ye_ | apply Kd.yd_ | apply Kd.yi_)); exact Kd.zR_ (Kd.S_far (p := ⟨gb460, 2, none⟩) (zn_.apartS HI460.out HO_5.out (by decide)) (fun _ hk => hk.2) (.bool true)) (fun _ hk => hk.1)⟩, ⟨bka_⟩, ⟨z3_⟩, ⟨belg_ (zn_.ge HI460.out)⟩⟩
             ·
              replace c35 := Bool.eq_false_iff.mpr c35
              subst c35
              rw [if_neg (show ¬ (false = true) by decide)] at H
              have H' := AM H
              clear H
              go_wp2
              go_meet
              case rel => exact ⟨_, (t485), H', ⟨by have := HJ2.out; have := HJ8.out; have := HK3.out; have := HJ11.out; have := HJ19.out; first | omega | exact Nat.le_refl _⟩, ⟨ks_ HO_5.out⟩, ⟨bk_ BK469.out⟩, ⟨z3_⟩, ⟨belg_ (zn_.ge HI460.out)⟩⟩
            case rest =>
             clear HC34
             (try clear c35); (try clear hcz36_0); (try clear hcz36_1); (try clear hcz36_2); (try clear hfz36_0); (try clear hfz36_1); (try clear hfz36_2)
             obtain ⟨kq, x461002_33, HA, HJ33, HO_5, BK469, HI460, HB⟩ := hcut
             cases kq with
             | zero => exact absurd HA.out (by simp [zf_.j5])
             | succ kj33 =>
              have H := HA.out
              clear HA
              simp only [zf_.j5] at H
              have H' := AM H
              clear H
              go_wp2
              go_loopg [9] kj33 (fun kq v9 w' => ∃ (x9_7 : Int) (x461000_7 : ByteArray) (x461001_7 : Int) (x461002_7 : Bool) (x470003_7 : List ByteArray) (u470003 : Value), v9 = .int .i64 x9_7 ∧ zd_ (zf_.l1 kq a0 x5_3 x6_3 x9_7 x461000_7 x461001_7 x461002_7 t470 (t474 == 1) t478 x470003_7 = some (r1, r2)) ∧ zd_ (kq ≤ kj33) ∧ zd_ (Kd.S k97 97 w' w.heap.size (fun k_ => some k_ ≠ (u470003 : Value).ownBlock ∧ k_ ≠ gb469) u5 x5_3) ∧ zd_ (Kd.R Kd.string 9 w' w.heap.size (fun _ => True) u470003 x470003_7) ∧ zd_ (w'.heap[gb469]? = some (.cells #[.string t470, .bool (t474 == 1), .int .i64 t478, u470003] 97 (0, 0))) ∧ zd_ (zn_ w w' gb460 x461000_7 x461001_7 x461002_7) ∧ zd_ (Below w.heap.size w w'))
              case atStart => exact ⟨(t482), (t483), (t484), (x461002_33), (([] : List ByteArray)), (.slice none 0 0), re_, H', ⟨Nat.le_refl _⟩, ⟨by (with_reducible repeat (first | apply Kd.ye_ | apply Kd.yd_ | apply Kd.yi_)); exact Kd.zR_ HO_5.out (fun _ hk => ⟨(by simp [Value.ownBlock]), hk⟩)⟩, ⟨by first | exact Kd.R_nil _ _ _ _ _ | exact Kd.N_nil _ _ _ _ _ | exact Kd.V_nil _ _ _ _ _ | exact Kd.Q_nil _ _ _ _ _ | exact Kd.S_nil _ _ _ _ _⟩, ⟨bk_ BK469.out⟩, ⟨z3_⟩, ⟨belg_ (zn_.ge HI460.out)⟩⟩
              case round =>
               clear H'
               obtain ⟨x9_7, x461000_7, x461001_7, x461002_7, x470003_7, u470003, rfl, HA, HK7, HO_5, HO_470003, BK469, HI460, HB⟩ := hrel
               cases gk with
               | zero => exact absurd HA.out (by simp [zf_.l1])
               | succ k7 =>
                have H := HA.out
                clear HA
                simp only [zf_.l1] at H
                by_cases c37 : x9_7 > 0
                ·
                 rw [if_pos c37] at H
                 have c37b0 : decide (0 < x9_7) = true := decide_eq_true c37
                 clear c37
                 by_cases c38 : x461002_7 = true
                 ·
                  subst c38
                  rw [if_pos rfl] at H
                  by_cases c39 : x5_3.length < 2513169434916
                  ·
                   rw [if_pos c39] at H
                   have LMc39 := AM c39
                   clear c39
                   obtain ⟨y486, hy486⟩ : ∃ y_ : List (S97), y_ = (x5_3 ++ [(⟨t470, (t474 == 1), t478, x470003_7⟩ : S97)]) := ⟨_, rfl⟩
                   replace H : (zf_.l0 k7 a0 y486 (wrap64 (x6_3 - 1)) x461000_7 x461001_7 true) = some (r1, r2) := by first | (rw [hy486]; with_reducible exact H) | (have H2_ := (Option.bind_some _ _).symm.trans H; rw [hy486]; with_reducible exact H2_) | (have H2_ := (Option.bind_some _ _).symm.trans H; with_reducible exact H2_) | with_reducible exact H | (rw [hy486]; exact H) | exact H
                   have Ny486 := AM hy486
                   clear hy486
                   have H' := AM H
                   clear H
                   obtain ⟨HGz40, hgz40⟩ := HI460.out
                   have hcz40_0 := z0_ HGz40
                   have hcz40_1 := zZ_ HGz40
                   have hcz40_2 := zY_ HGz40
                   have hfz40_0 := za_ HGz40 0
                   have hfz40_1 := za_ HGz40 1
                   have hfz40_2 := za_ HGz40 2
                   clear HGz40 hgz40
                   have hnb41 := NB469_460.out
                   have hnc41 := NB460_469.out
                   have hcz42_0 : wr.cell? ⟨gb469, 0, none⟩ = some (.string t470) := (zb_ BK469.out 0).trans rfl
                   have hcz42_1 : wr.cell? ⟨gb469, 1, none⟩ = some (.bool (t474 == 1)) := (zb_ BK469.out 1).trans rfl
                   have hcz42_2 : wr.cell? ⟨gb469, 2, none⟩ = some (.int .i64 t478) := (zb_ BK469.out 2).trans rfl
                   have hcz42_3 : wr.cell? ⟨gb469, 3, none⟩ = some (u470003) := (zb_ BK469.out 3).trans rfl
                   have hfz42_0 := za_ BK469.out 0
                   have hfz42_1 := za_ BK469.out 1
                   have hfz42_2 := za_ BK469.out 2
                   have hfz42_3 := za_ BK469.out 3
                   obtain ⟨Ao44, co44, eo44⟩ := Kd.yA_ HO_470003.out
                   subst eo44
                   go_wp2_with (first | ((with_reducible refine yr_ (b := .append) (xs := #[.tmp 85, .tmp 87]) rfl ?_); (try (refine y6_ (by rfl) ?_; dsimp only)); at_builtin; refine Kd.xM_ k97 (w0 := w) w.heap.size rfl (.tmp 85) (.tmp 87) 23 97 (.agg #[(.string ⟨#[]⟩), (.bool false), (.int .i64 0), (.slice none 0 0)]) 56 rfl Try.underlying23 info97 rfl (by decide) (by omega) u5 x5_3 (⟨t470, (t474 == 1), t478, x470003_7⟩ : S97) [.string t470, .bool (t474 == 1), .int .i64 t478, .slice Ao44 x470003_7.length co44] (fun k_ => k_ ≠ gb469) (fun k_ => some k_ = (.slice Ao44 x470003_7.length co44 : Value).ownBlock) rfl rfl ?aP (fun k_ hk_ => ((Kd.z9_ (ok' := fun k_ => ((fun k_ => k_ ≠ gb469)) k_ ∧ some k_ ≠ (u5 : Value).ownBlock) (Kd.yo_ (Kd.yV_ (HO_470003.out) (Kd.y3_ HO_5.out) (by decide)) BK469.out (by decide)) (fun k_ hk => ⟨hk.2, hk.1.2⟩))).1 k_ hk_.symm) ?aF ?aO ?aB ?aS ?aL ?_; (case aP => exact k97_mkM _ _ _ (⟨t470, (t474 == 1), t478, x470003_7⟩ : S97) (Kd.z9_ (Kd.R_tight rfl (Kd.z9_ (ok' := fun k_ => ((fun k_ => k_ ≠ gb469)) k_ ∧ some k_ ≠ (u5 : Value).ownBlock) (Kd.yo_ (Kd.yV_ (HO_470003.out) (Kd.y3_ HO_5.out) (by decide)) BK469.out (by decide)) (fun k_ hk => ⟨hk.2, hk.1.2⟩))) (fun _ h_ => h_))); (case aB => exact (belg_ (zn_.ge HI460.out))); (case aF => exact (fun k_ hk => Kd.freshB (g := gb469) (o := .cells #[.string t470, .bool (t474 == 1), .int .i64 t478, .slice Ao44 x470003_7.length co44] 97 (0, 0)) (bk_ BK469.out) k_ hk)); (case aO => exact (by (with_reducible repeat (first | apply Kd.ye_ | apply Kd.yd_ | apply Kd.yi_)); exact Kd.zR_ HO_5.out (fun k_ hk => ⟨hk.2, fun e_ => hk.1 e_⟩))); (case aS => exact (zj_ (belg_ (zn_.ge HI460.out)))); (case aL => have := LMc39.out; omega); intro v487 w43 ho hb hg hat; rw [← Ny486.out] at ho; have n0_ := AM (yp_ (g := gb469) (o := .cells #[.string t470, .bool (t474 == 1), .int .i64 t478, .slice Ao44 x470003_7.length co44] 97 (0, 0)) (bk_ BK469.out) hg (Kd.S_away HO_5.out (fun _ hk => hk.2))); have n1_ := AM (zn_.grown z3_ hg (zn_.own_neS HI460.out HO_5.out (by decide))); have n2_ := AM hb; have n3_ := AM ho; clear BK469; clear HI460; clear HB; clear HO_5; clear HO_470003; have BK469 := n0_; have HI460 := n1_; have HB := n2_; have HO488 := n3_; clear n0_ n1_ n2_ n3_; clear ho hb hg hat))
                   go_roundg k7
                   case measure => have := HJ2.out; have := HJ8.out; have := HK3.out; have := HJ11.out; have := HJ19.out; have := HJ33.out; have := HK7.out; omega
                   case rel => exact ⟨(y486), (wrap64 (x6_3 - 1)), (x461000_7), (x461001_7), (true), re_, H', ⟨by have := HJ2.out; have := HJ8.out; have := HK3.out; have := HJ11.out; have := HJ19.out; have := HJ33.out; have := HK7.out; omega⟩, ⟨by (with_reducible repeat (first | apply Kd.ye_ | apply Kd.yd_ | apply Kd.yi_)); exact Kd.zR_ HO488.out (fun _ hk => trivial)⟩, ⟨z3_⟩, ⟨belg_ (zn_.ge HI460.out)⟩⟩
                  ·
                   rw [if_neg c39] at H
                   exact absurd H (by simp)
                 ·
                  replace c38 := Bool.eq_false_iff.mpr c38
                  subst c38
                  rw [if_neg (show ¬ (false = true) by decide)] at H
                  obtain ⟨⟨t489, t490, t491, t492⟩, A45, H⟩ := OB H
                  try dsimp only at H
                  replace A45 := AM A45
                  by_cases c46 : x470003_7.length < 8796093022208
                  ·
                   rw [if_pos c46] at H
                   have LMc46 := AM c46
                   clear c46
                   obtain ⟨y493, hy493⟩ : ∃ y_ : List ByteArray, y_ = (x470003_7 ++ [t489]) := ⟨_, rfl⟩
                   replace H : (zf_.l1 k7 a0 x5_3 x6_3 (wrap64 (x9_7 - 1)) t490 t491 t492 t470 (t474 == 1) t478 y493) = some (r1, r2) := by first | (rw [hy493]; with_reducible exact H) | (have H2_ := (Option.bind_some _ _).symm.trans H; rw [hy493]; with_reducible exact H2_) | (have H2_ := (Option.bind_some _ _).symm.trans H; with_reducible exact H2_) | with_reducible exact H | (rw [hy493]; exact H) | exact H
                   have Ny493 := AM hy493
                   clear hy493
                   have H' := AM H
                   clear H
                   obtain ⟨HGz47, hgz47⟩ := HI460.out
                   have hcz47_0 := z0_ HGz47
                   have hcz47_1 := zZ_ HGz47
                   have hcz47_2 := zY_ HGz47
                   have hfz47_0 := za_ HGz47 0
                   have hfz47_1 := za_ HGz47 1
                   have hfz47_2 := za_ HGz47 2
                   clear HGz47 hgz47
                   try go_wp2
                   replace HO_5 := AM (Kd.yi_ HO_5.out)
                   replace HO_470003 := AM (Kd.yW_ HO_470003.out)
                   replace BK469 := AM (yU_ BK469.out)
                   replace HI460 := AM (zn_.drew HI460.out)
                   replace HB := AM (z1_ HB.out)
                   refine xi_ (n := 8) (S := fun w' => w'.cell? ⟨gb469, 0, none⟩ = some (.string t470) ∧ w'.cell? ⟨gb469, 1, none⟩ = some (.bool (t474 == 1)) ∧ w'.cell? ⟨gb469, 2, none⟩ = some (.int .i64 t478) ∧ w'.cell? ⟨gb469, 3, none⟩ = some (u470003)) (ds := [7]) #[false, false, false, false, false, false, false, false] (by kernel_rfl) rfl rfl ⟨(zb_ BK469.out 0).trans rfl, (zb_ BK469.out 1).trans rfl, (zb_ BK469.out 2).trans rfl, (zb_ BK469.out 3).trans rfl⟩ (fun hHeld => ?_); refine yu_ zf_.tab18 zf_.bits18 (fun HT_ HW_ => ?_)
                   generalize wr.drew = w48 at HO_5 HO_470003 BK469 HI460 HB hHeld ⊢
                   refine pu_ HT_ 0 (some 78) (bA 8 1) ?_
                   refine pu_ HT_ 2 (some 80) (bA 8 5) ?_
                   refine ta_ HT_ HW_ 1 (some 79) (bA 8 7) hHeld ?_
                   refine on_ HT_ 3 (some 81) (bA 8 15) (fun K hK => ?_)
                   refine go1_ Try.func146 #[.pointer (some ⟨gb460, 0, none⟩), .int .i64 32] ?_
                   with_reducible refine (yy_.calls gb460 x461000_7 x461001_7 false 32 t489 t490 t491 t492 w _ ?side1 ?side2 A45.out).mono ?_
                   (case side1 => exact z3_)
                   (case side2 => exact belg_ (zn_.ge HI460.out))
                   rintro e w49 ⟨rfl, hi, hb, hk⟩
                   refine ⟨_, rfl, ?_⟩
                   replace HO_5 := AM (Kd.zR_ (Kd.yT_ (zn_.apartS (show zn_ w _ gb460 x461000_7 x461001_7 false from z3_) (ks_ HO_5.out) (by decide)) hk (fun _ h => h.2)) (fun _ h => h.1))
                   replace HO_470003 := AM (Kd.z9_ (Kd.xA_ (zn_.apart (show zn_ w _ gb460 x461000_7 x461001_7 false from z3_) (ro_ HO_470003.out) (by decide)) hk (fun _ h => h.2)) (fun _ h => h.1))
                   replace BK469 := AM (zs_.blk hk (g' := gb469) (o := .cells #[.string t470, .bool (t474 == 1), .int .i64 t478, u470003] 97 (0, 0)) (bk_ BK469.out) NB469_460.out (by simp))
                   replace HB := AM hb
                   replace HI460 := AM hi
                   (try clear hb); (try clear hk); (try clear hi)
                   refine hK.out _ _ ⟨(zb_ BK469.out 0).trans rfl, (zb_ BK469.out 1).trans rfl, (zb_ BK469.out 2).trans rfl, (zb_ BK469.out 3).trans rfl⟩ (fun hHeld => ?_)
                   clear hK K
                   refine nm_ ?_
                   refine on_ HT_ 4 (some 82) (bA 8 31) (fun K hK => ?_)
                   refine value_ (w1 := ?_) (v := ?_) (by rfl) rfl ?_ ?_
                   rotate_left 2
                   ·
                    go_simp
                    constructor
                    · rfl
                    · rfl
                   refine hK.out _ _ ⟨(zb_ (y9_ BK469.out _) 0).trans rfl, (zb_ (y9_ BK469.out _) 1).trans rfl, (zb_ (y9_ BK469.out _) 2).trans rfl, (zb_ (y9_ BK469.out _) 3).trans rfl⟩ (fun hHeld => ?_)
                   clear hK K
                   refine nm_ ?_
                   refine on_ HT_ 5 (some 83) (bA 8 63) (fun K hK => ?_)
                   refine Kd.R_append_step Kd.string (w0 := w) w.heap.size (by rfl) (.tmp 79) (.tmp 82) 54 9 (.string ⟨#[]⟩) 16 rfl Try.underlying54 info9 rfl (by decide) (by omega) u470003 x470003_7 t489 [.string t489] (fun _ => True) (fun _ => False) rfl rfl ?aP (fun _ hk => hk.elim) ?aF ?aO ?aB ?aS ?aL ?_
                   (case aP => exact rfl)
                   (case aB => exact (belg_ (zn_.ge HI460.out)))
                   (case aF => exact (fun _ _ => trivial))
                   (case aO => exact (ro_ HO_470003.out))
                   (case aS => exact (zj_ (belg_ (zn_.ge HI460.out))))
                   (case aL => have := LMc46.out; omega)
                   intro v494 w50 ho hb hg hat
                   rw [← Ny493.out] at ho
                   have n0_ := AM (Kd.S_after (ok := (fun k_ => k_ ≠ gb469)) (by (with_reducible repeat (first | apply Kd.ye_ | apply Kd.yd_ | apply Kd.yi_)); exact Kd.zR_ HO_5.out (fun _ hk => ⟨hk.2, hk.1⟩)) hg hat)
                   have n1_ := AM (yp_ (g := gb469) (o := .cells #[.string t470, .bool (t474 == 1), .int .i64 t478, u470003] 97 (0, 0)) (bk_ BK469.out) hg (Kd.R_ne HO_470003.out BK469.out (by decide)))
                   have n2_ := AM (zn_.grown z3_ hg (zn_.own_ne HI460.out HO_470003.out (by decide)))
                   have n3_ := AM hb
                   have n4_ := AM ho
                   clear HO_5
                   clear BK469
                   clear HI460
                   clear HB
                   clear HO_470003
                   have HO_5 := n0_
                   have BK469 := n1_
                   have HI460 := n2_
                   have HB := n3_
                   have HO495 := n4_
                   clear n0_ n1_ n2_ n3_ n4_
                   clear ho hb hg hat
                   obtain ⟨Ao51, co51, eo51⟩ := Kd.yA_ HO495.out
                   (first | subst eo51 | (injection eo51 with f1_ f2_ f3_; have f4_ := f1_.symm; have f5_ := f3_.symm; clear f1_ f2_ f3_; subst f4_; subst f5_))
                   refine hK.out _ _ ⟨(zb_ BK469.out 0).trans rfl, (zb_ BK469.out 1).trans rfl, (zb_ BK469.out 2).trans rfl, (zb_ BK469.out 3).trans rfl⟩ (fun hHeld => ?_)
                   clear hK K
                   refine nm_ ?_
                   refine pu_ HT_ 6 (some 84) (bA 8 127) ?_
                   refine last_ (i := 7) (N := none) (bA 8 255) rfl rfl (one_of HT_.out (by kernel_rfl)) (by decide) (fun K hK => ?_)
                   have hs52 : w50.cell? ⟨gb469, 3, none⟩ = some (u470003) := (zb_ BK469.out 3).trans rfl
                   have hfs52 := za_ BK469.out 3
                   refine sk_ ?_
                   refine hK.out _ _ ?_
                   clear hK K
                   refine dn_ HT_ ?_
                   try go_wp2
                   go_roundg k7
                   case measure => have := HJ2.out; have := HJ8.out; have := HK3.out; have := HJ11.out; have := HJ19.out; have := HJ33.out; have := HK7.out; omega
                   case rel => exact ⟨(wrap64 (x9_7 - 1)), (t490), (t491), (t492), (y493), (.slice Ao51 y493.length co51), re_, H', ⟨by have := HJ2.out; have := HJ8.out; have := HK3.out; have := HJ11.out; have := HJ19.out; have := HJ33.out; have := HK7.out; omega⟩, ⟨by (with_reducible repeat (first | apply Kd.ye_ | apply Kd.yd_ | apply Kd.yi_)); exact Kd.zR_ (Kd.S_far (p := ⟨gb469, 3, none⟩) (Kd.zR_ HO_5.out (fun k_ hk => (⟨hk, hk.1⟩ : _ ∧ k_ ≠ gb469))) (fun _ hk => hk.2) (.slice Ao51 y493.length co51)) (fun _ hk => ⟨hk.1.2, hk.1.1⟩)⟩, ⟨by (with_reducible repeat (first | apply Kd.yP_ | apply Kd.yL_ | apply Kd.yW_)); exact Kd.z9_ (Kd.R_far (p := ⟨gb469, 3, none⟩) (Kd.yo_ HO495.out BK469.out (by decide)) (fun _ hk => hk.2) (.slice Ao51 y493.length co51)) (fun _ hk => trivial)⟩, ⟨bka_⟩, ⟨z3_⟩, ⟨belg_ (zn_.ge HI460.out)⟩⟩
                  ·
                   rw [if_neg c46] at H
                   exact absurd H (by simp)
                ·
                 rw [if_neg c37] at H
                 have c37b0 : decide (0 < x9_7) = false := decide_eq_false c37
                 clear c37
                 by_cases c53 : x5_3.length < 2513169434916
                 ·
                  rw [if_pos c53] at H
                  have LMc53 := AM c53
                  clear c53
                  obtain ⟨y496, hy496⟩ : ∃ y_ : List (S97), y_ = (x5_3 ++ [(⟨t470, (t474 == 1), t478, x470003_7⟩ : S97)]) := ⟨_, rfl⟩
                  replace H : (zf_.l0 k7 a0 y496 (wrap64 (x6_3 - 1)) x461000_7 x461001_7 x461002_7) = some (r1, r2) := by first | (rw [hy496]; with_reducible exact H) | (have H2_ := (Option.bind_some _ _).symm.trans H; rw [hy496]; with_reducible exact H2_) | (have H2_ := (Option.bind_some _ _).symm.trans H; with_reducible exact H2_) | with_reducible exact H | (rw [hy496]; exact H) | exact H
                  have Ny496 := AM hy496
                  clear hy496
                  have H' := AM H
                  clear H
                  have hnb54 := NB469_460.out
                  have hnc54 := NB460_469.out
                  have hcz55_0 : wr.cell? ⟨gb469, 0, none⟩ = some (.string t470) := (zb_ BK469.out 0).trans rfl
                  have hcz55_1 : wr.cell? ⟨gb469, 1, none⟩ = some (.bool (t474 == 1)) := (zb_ BK469.out 1).trans rfl
                  have hcz55_2 : wr.cell? ⟨gb469, 2, none⟩ = some (.int .i64 t478) := (zb_ BK469.out 2).trans rfl
                  have hcz55_3 : wr.cell? ⟨gb469, 3, none⟩ = some (u470003) := (zb_ BK469.out 3).trans rfl
                  have hfz55_0 := za_ BK469.out 0
                  have hfz55_1 := za_ BK469.out 1
                  have hfz55_2 := za_ BK469.out 2
                  have hfz55_3 := za_ BK469.out 3
                  obtain ⟨Ao57, co57, eo57⟩ := Kd.yA_ HO_470003.out
                  subst eo57
                  go_wp2_with (first | ((with_reducible refine yr_ (b := .append) (xs := #[.tmp 85, .tmp 87]) rfl ?_); (try (refine y6_ (by rfl) ?_; dsimp only)); at_builtin; refine Kd.xM_ k97 (w0 := w) w.heap.size rfl (.tmp 85) (.tmp 87) 23 97 (.agg #[(.string ⟨#[]⟩), (.bool false), (.int .i64 0), (.slice none 0 0)]) 56 rfl Try.underlying23 info97 rfl (by decide) (by omega) u5 x5_3 (⟨t470, (t474 == 1), t478, x470003_7⟩ : S97) [.string t470, .bool (t474 == 1), .int .i64 t478, .slice Ao57 x470003_7.length co57] (fun k_ => k_ ≠ gb469) (fun k_ => some k_ = (.slice Ao57 x470003_7.length co57 : Value).ownBlock) rfl rfl ?aP (fun k_ hk_ => ((Kd.z9_ (ok' := fun k_ => ((fun k_ => k_ ≠ gb469)) k_ ∧ some k_ ≠ (u5 : Value).ownBlock) (Kd.yo_ (Kd.yV_ (HO_470003.out) (Kd.y3_ HO_5.out) (by decide)) BK469.out (by decide)) (fun k_ hk => ⟨hk.2, hk.1.2⟩))).1 k_ hk_.symm) ?aF ?aO ?aB ?aS ?aL ?_; (case aP => exact k97_mkM _ _ _ (⟨t470, (t474 == 1), t478, x470003_7⟩ : S97) (Kd.z9_ (Kd.R_tight rfl (Kd.z9_ (ok' := fun k_ => ((fun k_ => k_ ≠ gb469)) k_ ∧ some k_ ≠ (u5 : Value).ownBlock) (Kd.yo_ (Kd.yV_ (HO_470003.out) (Kd.y3_ HO_5.out) (by decide)) BK469.out (by decide)) (fun k_ hk => ⟨hk.2, hk.1.2⟩))) (fun _ h_ => h_))); (case aB => exact (belg_ (zn_.ge HI460.out))); (case aF => exact (fun k_ hk => Kd.freshB (g := gb469) (o := .cells #[.string t470, .bool (t474 == 1), .int .i64 t478, .slice Ao57 x470003_7.length co57] 97 (0, 0)) (bk_ BK469.out) k_ hk)); (case aO => exact (by (with_reducible repeat (first | apply Kd.ye_ | apply Kd.yd_ | apply Kd.yi_)); exact Kd.zR_ HO_5.out (fun k_ hk => ⟨hk.2, fun e_ => hk.1 e_⟩))); (case aS => exact (zj_ (belg_ (zn_.ge HI460.out)))); (case aL => have := LMc53.out; omega); intro v497 w56 ho hb hg hat; rw [← Ny496.out] at ho; have n0_ := AM (yp_ (g := gb469) (o := .cells #[.string t470, .bool (t474 == 1), .int .i64 t478, .slice Ao57 x470003_7.length co57] 97 (0, 0)) (bk_ BK469.out) hg (Kd.S_away HO_5.out (fun _ hk => hk.2))); have n1_ := AM (zn_.grown z3_ hg (zn_.own_neS HI460.out HO_5.out (by decide))); have n2_ := AM hb; have n3_ := AM ho; clear BK469; clear HI460; clear HB; clear HO_5; clear HO_470003; have BK469 := n0_; have HI460 := n1_; have HB := n2_; have HO498 := n3_; clear n0_ n1_ n2_ n3_; clear ho hb hg hat))
                  go_roundg k7
                  case measure => have := HJ2.out; have := HJ8.out; have := HK3.out; have := HJ11.out; have := HJ19.out; have := HJ33.out; have := HK7.out; omega
                  case rel => exact ⟨(y496), (wrap64 (x6_3 - 1)), (x461000_7), (x461001_7), (x461002_7), re_, H', ⟨by have := HJ2.out; have := HJ8.out; have := HK3.out; have := HJ11.out; have := HJ19.out; have := HJ33.out; have := HK7.out; omega⟩, ⟨by (with_reducible repeat (first | apply Kd.ye_ | apply Kd.yd_ | apply Kd.yi_)); exact Kd.zR_ HO498.out (fun _ hk => trivial)⟩, ⟨z3_⟩, ⟨belg_ (zn_.ge HI460.out)⟩⟩
                 ·
                  rw [if_neg c53] at H
                  exact absurd H (by simp)
         ·
          replace c15 := Bool.eq_false_iff.mpr c15
          subst c15
          rw [if_neg (show ¬ (false = true) by decide)] at H
          by_cases c58 : x461002_3 = true
          ·
           subst c58
           rw [if_pos rfl] at H
           simp only [Option.some.injEq, Prod.mk.injEq] at H
           obtain ⟨rfl, rfl⟩ := H
           obtain ⟨HGz59, hgz59⟩ := HI460.out
           have hcz59_0 := z0_ HGz59
           have hcz59_1 := zZ_ HGz59
           have hcz59_2 := zY_ HGz59
           have hfz59_0 := za_ HGz59 0
           have hfz59_1 := za_ HGz59 1
           have hfz59_2 := za_ HGz59 2
           clear HGz59 hgz59
           go_wp2
           go_ret2
           exact ⟨_, ri_, by (with_reducible repeat (first | apply Kd.ye_ | apply Kd.yd_ | apply Kd.yi_)); exact HO_5.out, belg_ (zn_.ge HI460.out)⟩
          ·
           replace c58 := Bool.eq_false_iff.mpr c58
           subst c58
           rw [if_neg (show ¬ (false = true) by decide)] at H
           by_cases c60 : x461001_3 = (a0.size : Int)
           ·
            rw [if_pos c60] at H
            have c60b0 : (x461001_3 == (a0.size : Int)) = true := beq_iff_eq.mpr c60
            have c60b1 : (x461001_3 != (a0.size : Int)) = false := bne_eq_false_iff_eq.mpr c60
            clear c60
            obtain ⟨t468, A61, H⟩ := OB H
            try dsimp only at H
            replace A61 := AM A61
            simp only [Option.some.injEq, Prod.mk.injEq] at H
            obtain ⟨rfl, rfl⟩ := H
            obtain ⟨HGz62, hgz62⟩ := HI460.out
            have hcz62_0 := z0_ HGz62
            have hcz62_1 := zZ_ HGz62
            have hcz62_2 := zY_ HGz62
            have hfz62_0 := za_ HGz62 0
            have hfz62_1 := za_ HGz62 1
            have hfz62_2 := za_ HGz62 2
            clear HGz62 hgz62
            obtain ⟨Ao63, co63, eo63⟩ := Kd.xv_ HO_5.out
            subst eo63
            go_wp2_with (first | (go_at_call 56; (with_reducible refine (zw_.calls kj11 _ _ x5_3 t468 _ ?side1 ?side2 A61.out).mono ?_); (case side1 => repeat (first | exact (Kd.ys_ HO_5.out).2.2 | (with_reducible refine Kd.yx_ ?_ _) | (with_reducible refine Kd.yw_ ?_ _) | (with_reducible refine Kd.yQ_ ?_))); (case side2 => exact (Kd.ys_ HO_5.out).2.1); rintro e w64 ⟨rfl, hb⟩; replace HO_5 := AM (Kd.yB_ (ks_ HO_5.out) hb); replace HB := AM (zg_ (belg_ (zn_.ge HI460.out)) hb); replace HI460 := AM (zn_.below z3_ hb); (try clear hb); (try clear hk)))
            go_ret2
            exact ⟨_, ri_, by (with_reducible repeat (first | apply Kd.ye_ | apply Kd.yd_ | apply Kd.yi_)); exact HO_5.out, belg_ (zn_.ge HI460.out)⟩
           ·
            rw [if_neg c60] at H
            have c60b0 : (x461001_3 == (a0.size : Int)) = false := beq_eq_false_iff_ne.mpr c60
            have c60b1 : (x461001_3 != (a0.size : Int)) = true := bne_iff_ne.mpr c60
            simp only [Option.some.injEq, Prod.mk.injEq] at H
            obtain ⟨rfl, rfl⟩ := H
            obtain ⟨HGz65, hgz65⟩ := HI460.out
            have hcz65_0 := z0_ HGz65
            have hcz65_1 := zZ_ HGz65
            have hcz65_2 := zY_ HGz65
            have hfz65_0 := za_ HGz65 0
            have hfz65_1 := za_ HGz65 1
            have hfz65_2 := za_ HGz65 2
            clear HGz65 hgz65
            go_wp2
            go_ret2
            exact ⟨_, ri_, by (with_reducible repeat (first | apply Kd.ye_ | apply Kd.yd_ | apply Kd.yi_)); exact HO_5.out, belg_ (zn_.ge HI460.out)⟩
/-! ### yk_: function 14 -/
def yk_.f (k : Nat) (a0 : ByteArray) : Option ((List (S97)) × Int) := if (a0.size : Int) > 20000 then (some (([] : List (S97)), 2)) else ((zf_.f k a0).bind fun bt500 => (if bt500.2 = true then (some (bt500.1, 0)) else (some (([] : List (S97)), 3))))
theorem yk_.mono : ∀ a0 k, LeO (yk_.f k a0) (yk_.f (k + 1) a0) := by
 intro a0 k
 unfold yk_.f
 repeat' with_reducible first | exact zf_.mono _ _ | exact LeO.refl _ | exact LeO.none _ | refine LeO.ite ?_ ?_ | refine LeO.bind ?_ (fun _ => ?_)
theorem yk_.calls (k : Nat) (a0 : ByteArray) (r1 : List (S97)) (r2 : Int) (w : World) (h : yk_.f k a0 = some (r1, r2)) :
 Calls Try.prog 14 #[.string a0] w fun e w' => ∃ v0_ : Value, e = .returned (.agg #[v0_, .int .i64 r2]) ∧ Kd.S k97 97 w' w.heap.size (fun _ => True) v0_ r1 ∧ Below w.heap.size w w' := by
 have hu28 := Try.underlying28
 have HB := AM (Below.refl w.heap.size w)
 have H : (if (a0.size : Int) > 20000 then (some (([] : List (S97)), 2)) else ((zf_.f k a0).bind fun bt500 => (if bt500.2 = true then (some (bt500.1, 0)) else (some (([] : List (S97)), 3))))) = some (r1, r2) := h
 clear h
 by_cases c2 : (a0.size : Int) > 20000
 ·
  rw [if_pos c2] at H
  have c2b0 : decide (20000 < (a0.size : Int)) = true := decide_eq_true c2
  have c2b1 : decide (20000 < a0.size) = true := decide_eq_true (by omega)
  clear c2
  simp only [Option.some.injEq, Prod.mk.injEq] at H
  obtain ⟨rfl, rfl⟩ := H
  go_enter Try.func14, Try.ntmps14
  go_wp2_with (first | ((with_reducible refine z6_ (N := 2) rfl ?_); refine be_ 2 #[.slice none 0 0, .int .i64 0] 28 ?_; intro gb499 hg w3 hbox hb; have BK499 := AM hbox; have GW499 := AM ((by rw [hg]; exact (zj_ bel_) : w.heap.size ≤ gb499)); have GE499 := AM ((by rw [hg]; exact (zj_ bel_) : w.heap.size ≤ gb499)); replace HB := AM (zg_ bel_ hb); clear hb hbox hg; have hcz4_0 : w3.cell? ⟨gb499, 0, none⟩ = some (.slice none 0 0) := (zb_ BK499.out 0).trans rfl; have hcz4_1 : w3.cell? ⟨gb499, 1, none⟩ = some (.int .i64 0) := (zb_ BK499.out 1).trans rfl; have hfz4_0 := za_ BK499.out 0; have hfz4_1 := za_ BK499.out 1))
  refine bodyPost_ret (results_cell_row rfl _ _ gb499 28 #[.slice none 0 0, .int .i64 2] (0, 0) _ rfl bka_ Try.underlying28 rfl (by kernel_rfl)) rfl ?_
  exact ⟨_, ri_, by first | exact Kd.S_nil _ _ _ _ _ | exact Kd.N_nil _ _ _ _ _ | exact Kd.V_nil _ _ _ _ _ | exact Kd.Q_nil _ _ _ _ _ | exact Kd.R_nil _ _ _ _ _, bel_⟩
 ·
  rw [if_neg c2] at H
  have c2b0 : decide (20000 < (a0.size : Int)) = false := decide_eq_false c2
  have c2b1 : decide (20000 < a0.size) = false := decide_eq_false (by omega)
  clear c2
  obtain ⟨⟨t500, t501⟩, A5, H⟩ := OB H
  try dsimp only at H
  replace A5 := AM A5
  by_cases c6 : t501 = true
  ·
   subst c6
   rw [if_pos rfl] at H
   simp only [Option.some.injEq, Prod.mk.injEq] at H
   obtain ⟨rfl, rfl⟩ := H
   go_enter Try.func14, Try.ntmps14
   go_wp2_with (first | ((with_reducible refine z6_ (N := 2) rfl ?_); refine be_ 2 #[.slice none 0 0, .int .i64 0] 28 ?_; intro gb499 hg w7 hbox hb; have BK499 := AM hbox; have GW499 := AM ((by rw [hg]; exact (zj_ bel_) : w.heap.size ≤ gb499)); have GE499 := AM ((by rw [hg]; exact (zj_ bel_) : w.heap.size ≤ gb499)); replace HB := AM (zg_ bel_ hb); clear hb hbox hg) | ((with_reducible refine zl_ (f := 66) rfl ?_); refine gl_ (some 11) Try.func66 #[.string a0] ?_; (with_reducible refine (zf_.calls k a0 t500 true _ A5.out).mono ?_); rintro e w8 ⟨v502, rfl, ho0, hb⟩; refine ⟨_, rfl, ?_⟩; have HO503 := AM (Kd.xh_ ho0 (zj_ bel_)); replace BK499 := AM (zP_ (g := gb499) (o := .cells #[.slice none 0 0, .int .i64 0] 28 (0, 0)) (bk_ BK499.out) hb); replace HB := AM (zg_ bel_ hb); (try clear hb); (try clear ho0); obtain ⟨Ao9, co9, eo9⟩ := Kd.xv_ HO503.out; subst eo9; have hcz10_0 : w8.cell? ⟨gb499, 0, none⟩ = some (.slice none 0 0) := (zb_ BK499.out 0).trans rfl; have hcz10_1 : w8.cell? ⟨gb499, 1, none⟩ = some (.int .i64 0) := (zb_ BK499.out 1).trans rfl; have hfz10_0 := za_ BK499.out 0; have hfz10_1 := za_ BK499.out 1))
   refine bodyPost_ret (results_cell_row rfl _ _ gb499 28 #[.slice Ao9 t500.length co9, .int .i64 0] (0, 0) _ rfl bka_ Try.underlying28 rfl (by kernel_rfl)) rfl ?_
   exact ⟨_, ri_, by (with_reducible repeat (first | apply Kd.ye_ | apply Kd.yd_ | apply Kd.yi_)); exact Kd.zR_ (Kd.S_far (p := ⟨gb499, 1, none⟩) (Kd.S_far (p := ⟨gb499, 0, none⟩) (Kd.S_types HO503.out BK499.out (by decide)) (fun _ hk => hk.2) (.slice Ao9 t500.length co9)) (fun _ hk => hk.2) (.int .i64 0)) (fun _ hk => trivial), bel_⟩
  ·
   replace c6 := Bool.eq_false_iff.mpr c6
   subst c6
   rw [if_neg (show ¬ (false = true) by decide)] at H
   simp only [Option.some.injEq, Prod.mk.injEq] at H
   obtain ⟨rfl, rfl⟩ := H
   go_enter Try.func14, Try.ntmps14
   go_wp2_with (first | ((with_reducible refine z6_ (N := 2) rfl ?_); refine be_ 2 #[.slice none 0 0, .int .i64 0] 28 ?_; intro gb499 hg w11 hbox hb; have BK499 := AM hbox; have GW499 := AM ((by rw [hg]; exact (zj_ bel_) : w.heap.size ≤ gb499)); have GE499 := AM ((by rw [hg]; exact (zj_ bel_) : w.heap.size ≤ gb499)); replace HB := AM (zg_ bel_ hb); clear hb hbox hg) | ((with_reducible refine zl_ (f := 66) rfl ?_); refine gl_ (some 11) Try.func66 #[.string a0] ?_; (with_reducible refine (zf_.calls k a0 t500 false _ A5.out).mono ?_); rintro e w12 ⟨v502, rfl, ho0, hb⟩; refine ⟨_, rfl, ?_⟩; have HO503 := AM (Kd.xh_ ho0 (zj_ bel_)); replace BK499 := AM (zP_ (g := gb499) (o := .cells #[.slice none 0 0, .int .i64 0] 28 (0, 0)) (bk_ BK499.out) hb); replace HB := AM (zg_ bel_ hb); (try clear hb); (try clear hk); (try clear ho0); have hcz13_0 : w12.cell? ⟨gb499, 0, none⟩ = some (.slice none 0 0) := (zb_ BK499.out 0).trans rfl; have hcz13_1 : w12.cell? ⟨gb499, 1, none⟩ = some (.int .i64 0) := (zb_ BK499.out 1).trans rfl; have hfz13_0 := za_ BK499.out 0; have hfz13_1 := za_ BK499.out 1))
   refine bodyPost_ret (results_cell_row rfl _ _ gb499 28 #[.slice none 0 0, .int .i64 3] (0, 0) _ rfl bka_ Try.underlying28 rfl (by kernel_rfl)) rfl ?_
   exact ⟨_, ri_, by first | exact Kd.S_nil _ _ _ _ _ | exact Kd.N_nil _ _ _ _ _ | exact Kd.V_nil _ _ _ _ _ | exact Kd.Q_nil _ _ _ _ _ | exact Kd.R_nil _ _ _ _ _, bel_⟩
end Go.Proofs.Ytfffdndeccipnaa.PFnNodes
