/- Functions of the law FnNodes: the print's, with walks of this session's own. No statement is proved here. -/
import Derived.WalkLawsBesides
import Derived.Test.YtfffdndeccipnaaPFnNodesx26
namespace Go.Proofs.Ytfffdndeccipnaa.PFnNodes
open Go.RowKit Go.Proofs.YtfffdndeccipnaaW.PrintWords Go.Proofs.YtfffdndeccipnaaW.PrintLast Go.Proofs.YtfffdndeccipnaaW.PrintMore Go.Proofs.Ytfffdndeccipnaa.Reg Go.Proofs.Ytfffdndeccipnaa.Aut
attribute [local go_sem] xE_ xC_ max_two min_two xn_ xm_ xD_ xB_
set_option linter.unusedVariables false
set_option linter.unusedSimpArgs false
set_option maxHeartbeats 8000000
set_option maxRecDepth 100000
/-! ### zo_: function 3 -/
mutual
def zo_.j0 : Nat → List Int → List Int → Bool → Option (Bool)
 | 0, _, _, _ => none
 | k + 1, x0, x1, x17 => if x17 = true then (some true) else ((yc_.f k x0).bind fun t504 => ((yh_.f k t504).bind fun t507 => ((z4_.f k t504).bind fun t508 => (if t507.toList = t508.toList then ((zi_.f k t504).bind fun t509 => (zo_.j1 k x1 t507 (t509 != (t507.toList != ([] : List UInt8))))) else (zo_.j1 k x1 t507 true)))))
def zo_.j1 : Nat → List Int → ByteArray → Bool → Option (Bool)
 | 0, _, _, _ => none
 | k + 1, x1, x6, x32 => if x32 = true then (some false) else (if x6.toList = ([] : List UInt8) then (zo_.j2 k x1 x6 false) else (zo_.j2 k x1 x6 (decide ((x6.size : Int) ≤ 20000))))
def zo_.j2 : Nat → List Int → ByteArray → Bool → Option (Bool)
 | 0, _, _, _ => none
 | k + 1, x1, x6, x39 => if x39 = true then ((yf_.f k x6).bind fun bt510 => (if bt510.2 = 0 then ((yh_.f k bt510.1).bind fun t515 => (if t515.toList = x6.toList then (zo_.j3 k x1) else (some false))) else (some false))) else (zo_.j3 k x1)
def zo_.j3 : Nat → List Int → Option (Bool)
 | 0, _ => none
 | k + 1, x1 => (z8_.f k x1).bind fun t516 => ((yf_.f k t516).bind fun bt517 => ((yk_.f k t516).bind fun bt522 => (if bt517.2 = bt522.2 then (if bt517.2 = 0 then ((z4_.f k bt517.1).bind fun t526 => (some (t526.toList == t516.toList))) else (some true)) else (some false))))
end
def zo_.f (k : Nat) (l0 : List Int) (l1 : List Int) : Option (Bool) := if (l0.length : Int) > 1048576 then (zo_.j0 k l0 l1 true) else (zo_.j0 k l0 l1 (decide ((l1.length : Int) > 1048576)))
theorem zo_.mono_l : ∀ k, (∀ y0 y1 y2, LeO (zo_.j0 k y0 y1 y2) (zo_.j0 (k + 1) y0 y1 y2)) ∧ (∀ y0 y1 y2, LeO (zo_.j1 k y0 y1 y2) (zo_.j1 (k + 1) y0 y1 y2)) ∧ (∀ y0 y1 y2, LeO (zo_.j2 k y0 y1 y2) (zo_.j2 (k + 1) y0 y1 y2)) ∧ (∀ y0, LeO (zo_.j3 k y0) (zo_.j3 (k + 1) y0))
 | 0 => ⟨fun _ _ _ r h => by simp [zo_.j0] at h, fun _ _ _ r h => by simp [zo_.j1] at h, fun _ _ _ r h => by simp [zo_.j2] at h, fun _ r h => by simp [zo_.j3] at h⟩
 | k + 1 => by
  obtain ⟨ih0, ih1, ih2, ih3⟩ := zo_.mono_l k
  refine ⟨?_, ?_, ?_, ?_⟩
  ·
   intro y0 y1 y2
   unfold zo_.j0
   repeat' with_reducible first | exact ih0 _ _ _ | exact ih1 _ _ _ | exact ih2 _ _ _ | exact ih3 _ | exact yh_.mono _ _ | exact yf_.mono _ _ | exact zi_.mono _ _ | exact yc_.mono _ _ | exact z8_.mono _ _ | exact z4_.mono _ _ | exact yk_.mono _ _ | exact LeO.refl _ | exact LeO.none _ | refine LeO.ite ?_ ?_ | refine LeO.bind ?_ (fun _ => ?_)
  ·
   intro y0 y1 y2
   unfold zo_.j1
   repeat' with_reducible first | exact ih0 _ _ _ | exact ih1 _ _ _ | exact ih2 _ _ _ | exact ih3 _ | exact yh_.mono _ _ | exact yf_.mono _ _ | exact zi_.mono _ _ | exact yc_.mono _ _ | exact z8_.mono _ _ | exact z4_.mono _ _ | exact yk_.mono _ _ | exact LeO.refl _ | exact LeO.none _ | refine LeO.ite ?_ ?_ | refine LeO.bind ?_ (fun _ => ?_)
  ·
   intro y0 y1 y2
   unfold zo_.j2
   repeat' with_reducible first | exact ih0 _ _ _ | exact ih1 _ _ _ | exact ih2 _ _ _ | exact ih3 _ | exact yh_.mono _ _ | exact yf_.mono _ _ | exact zi_.mono _ _ | exact yc_.mono _ _ | exact z8_.mono _ _ | exact z4_.mono _ _ | exact yk_.mono _ _ | exact LeO.refl _ | exact LeO.none _ | refine LeO.ite ?_ ?_ | refine LeO.bind ?_ (fun _ => ?_)
  ·
   intro y0
   unfold zo_.j3
   repeat' with_reducible first | exact ih0 _ _ _ | exact ih1 _ _ _ | exact ih2 _ _ _ | exact ih3 _ | exact yh_.mono _ _ | exact yf_.mono _ _ | exact zi_.mono _ _ | exact yc_.mono _ _ | exact z8_.mono _ _ | exact z4_.mono _ _ | exact yk_.mono _ _ | exact LeO.refl _ | exact LeO.none _ | refine LeO.ite ?_ ?_ | refine LeO.bind ?_ (fun _ => ?_)
theorem zo_.mono : ∀ a0 a1 k, LeO (zo_.f k a0 a1) (zo_.f (k + 1) a0 a1) := by
 intro a0 a1 k
 obtain ⟨ih0, ih1, ih2, ih3⟩ := zo_.mono_l k
 unfold zo_.f
 repeat' with_reducible first | exact ih0 _ _ _ | exact ih1 _ _ _ | exact ih2 _ _ _ | exact ih3 _ | exact yh_.mono _ _ | exact yf_.mono _ _ | exact zi_.mono _ _ | exact yc_.mono _ _ | exact z8_.mono _ _ | exact z4_.mono _ _ | exact yk_.mono _ _ | exact LeO.refl _ | exact LeO.none _ | refine LeO.ite ?_ ?_ | refine LeO.bind ?_ (fun _ => ?_)
def zo_.T13 : Bool × List (List Nat × List Nat) := (true, [([], []), ([0], [0]), ([], []), ([2], [2]), ([3], [3]), ([1, 4], [1, 4]), ([5, 3], [5]), ([6], [6]), ([7, 6], [6, 7]), ([8, 6], [6, 8]), ([9, 6, 6], [6, 9]), ([10], [10]), ([11, 10], [10, 11]), ([12, 10, 10], [10, 12]), ([10], [10]), ([13, 14, 10], [10, 13, 14]), ([10, 15, 6], [6, 10, 15]), ([6, 16], [6, 16]), ([17, 13, 0, 1, 2, 3, 4, 5, 6, 7, 8, 9, 10, 11, 12, 13, 14, 15, 16, 17], [17])])
def zo_.B13 : List Nat := [0, 1, 0, 4, 12, 31, 63, 127, 255, 511, 1023, 2047, 4095, 8191, 2047, 32767, 65535, 131071, 262143]
theorem zo_.tab13 : rtab .any (opsOf Try.f3 13) = zo_.T13 := by kernel_rfl
theorem zo_.bits13 : xe_ zo_.T13.2 zo_.B13 = true := by kernel_rfl
theorem zo_.calls (k : Nat) (A0 : Option Addr) (c0 : Nat) (l0 : List Int) (A1 : Option Addr) (c1 : Nat) (l1 : List Int) (r : Bool) (w : World) (hr0 : Kd.C (Kd.int .u8) w A0 l0.length l0) (hc0 : l0.length ≤ c0) (hr1 : Kd.C (Kd.int .u8) w A1 l1.length l1) (hc1 : l1.length ≤ c1) (h : zo_.f k l0 l1 = some r) :
 Calls Try.prog 3 #[.slice A0 l0.length c0, .slice A1 l1.length c1] w fun e w' => e = .returned (.bool r) ∧ Below w.heap.size w w' := by
 have hu28 := Try.underlying28
 have hfl28_1 : ∀ (x0 x1 : Value) (w : World), Sem.run Try.prog (Instr.field 28 (.agg #[x0, x1]) 1) w = .ok x1 w := by intro x0 x1 w; unfold Instr.field; go_simp; rfl
 have HR0 := AM hr0
 have HC0 := AM hc0
 clear hr0 hc0
 have HR1 := AM hr1
 have HC1 := AM hc1
 clear hr1 hc1
 have HB := AM (Below.refl w.heap.size w)
 have H : (if (l0.length : Int) > 1048576 then (zo_.j0 k l0 l1 true) else (zo_.j0 k l0 l1 (decide ((l1.length : Int) > 1048576)))) = some r := h
 clear h
 have HC3 := AM H
 clear H
 go_enter Try.func3, Try.ntmps3
 go_upto_region 1 with (fail)
 go_cut [17] (fun v17 wc => ∃ (kq : Nat) (x17_2 : Bool), v17 = .bool x17_2 ∧ zd_ (zo_.j0 kq l0 l1 x17_2 = some r) ∧ zd_ (kq ≤ k) ∧ zd_ (Below w.heap.size w wc))
 case first =>
  have H := HC3.out
  clear HC3
  by_cases c4 : (l0.length : Int) > 1048576
  ·
   rw [if_pos c4] at H
   have c4b0 : decide (1048576 < (l0.length : Int)) = true := decide_eq_true c4
   have c4b1 : decide (1048576 < l0.length) = true := decide_eq_true (by omega)
   clear c4
   (first | rw [c4b0] | (simp only [i64_w, i32_w]; rw [c4b0]) | skip)
   have H' := AM H
   clear H
   go_wp2
   go_meet
   case rel => exact ⟨_, (true), re_, H', ⟨by first | omega | exact Nat.le_refl _⟩, ⟨bel_⟩⟩
  ·
   rw [if_neg c4] at H
   have c4b0 : decide (1048576 < (l0.length : Int)) = false := decide_eq_false c4
   have c4b1 : decide (1048576 < l0.length) = false := decide_eq_false (by omega)
   clear c4
   (first | rw [c4b0] | (simp only [i64_w, i32_w]; rw [c4b0]) | skip)
   have H' := AM H
   clear H
   go_wp2
   go_meet
   case rel => exact ⟨_, (decide ((l1.length : Int) > 1048576)), re_, H', ⟨by first | omega | exact Nat.le_refl _⟩, ⟨bel_⟩⟩
 case rest =>
  clear HC3
  (try clear c1); (try clear c4b0); (try clear c4b1)
  obtain ⟨kq, x17_2, rfl, HA, HJ2, HB⟩ := hcut
  cases kq with
  | zero => exact absurd HA.out (by simp [zo_.j0])
  | succ kj2 =>
   have H := HA.out
   clear HA
   simp only [zo_.j0] at H
   by_cases c5 : x17_2 = true
   ·
    subst c5
    rw [if_pos rfl] at H
    obtain rfl := Option.some.inj H
    go_wp2
    go_ret
    exact ⟨ri_, bel_⟩
   ·
    replace c5 := Bool.eq_false_iff.mpr c5
    subst c5
    rw [if_neg (show ¬ (false = true) by decide)] at H
    obtain ⟨t504, A6, H⟩ := OB H
    try dsimp only at H
    replace A6 := AM A6
    obtain ⟨t507, A7, H⟩ := OB H
    try dsimp only at H
    replace A7 := AM A7
    have HC8 := AM H
    clear H
    go_upto_region 5 with (first | ((with_reducible refine zl_ (f := 8) rfl ?_); refine gl_ (some 19) Try.func8 #[.slice A0 l0.length c0] ?_; (with_reducible refine (yc_.calls kj2 _ _ l0 t504 _ ?side1 ?side2 A6.out).mono ?_); (case side1 => repeat (first | exact (Kd.xc_ HR0.out HB.out) | (with_reducible refine Kd.yx_ ?_ _) | (with_reducible refine Kd.yw_ ?_ _) | (with_reducible refine Kd.yQ_ ?_))); (case side2 => exact HC0.out); rintro e w9 ⟨v505, rfl, ho0, hb⟩; refine ⟨_, rfl, ?_⟩; have HO506 := AM (Kd.xh_ ho0 (zj_ bel_)); replace HB := AM (zg_ bel_ hb); (try clear hb); (try clear ho0); obtain ⟨Ao10, co10, eo10⟩ := Kd.xv_ HO506.out; subst eo10) | ((with_reducible refine zl_ (f := 9) rfl ?_); refine gl_ (some 21) Try.func9 #[.slice Ao10 t504.length co10] ?_; (with_reducible refine (yh_.calls kj2 _ _ t504 t507 _ ?side1 ?side2 A7.out).mono ?_); (case side1 => repeat (first | exact (Kd.ys_ HO506.out).2.2 | (with_reducible refine Kd.yx_ ?_ _) | (with_reducible refine Kd.yw_ ?_ _) | (with_reducible refine Kd.yQ_ ?_))); (case side2 => exact (Kd.ys_ HO506.out).2.1); rintro e w11 ⟨rfl, hb⟩; refine ⟨_, rfl, ?_⟩; replace HO506 := AM (Kd.yB_ (ks_ HO506.out) hb); replace HB := AM (zg_ bel_ hb); (try clear hb)))
    (try simp only [Act.put, List.setIfInBounds_toArray, List.set_cons_zero, List.set_cons_succ])
    go_cut [32] (fun v32 wc => ∃ (kq : Nat) (x32_7 : Bool), v32 = .bool x32_7 ∧ zd_ (zo_.j1 kq l1 t507 x32_7 = some r) ∧ zd_ (kq ≤ kj2) ∧ zd_ (Below w.heap.size w wc))
    case first =>
     have H := HC8.out
     clear HC8
     obtain ⟨t508, A12, H⟩ := OB H
     try dsimp only at H
     replace A12 := AM A12
     by_cases c13 : t507.toList = t508.toList
     ·
      rw [if_pos c13] at H
      have c13b0 : (t507.toList == t508.toList) = true := beq_iff_eq.mpr c13
      have c13b1 : (t507.toList != t508.toList) = false := bne_eq_false_iff_eq.mpr c13
      clear c13
      (first | rw [c13b0] | (simp only [i64_w, i32_w]; rw [c13b0]) | skip)
      obtain ⟨t509, A14, H⟩ := OB H
      try dsimp only at H
      replace A14 := AM A14
      have H' := AM H
      clear H
      go_wp2_with (first | ((with_reducible refine zl_ (f := 10) rfl ?_); refine gl_ (some 24) Try.func10 #[.slice Ao10 t504.length co10] ?_; (with_reducible refine (z4_.calls kj2 _ _ t504 t508 _ ?side1 ?side2 A12.out).mono ?_); (case side1 => repeat (first | exact (Kd.ys_ HO506.out).2.2 | (with_reducible refine Kd.yx_ ?_ _) | (with_reducible refine Kd.yw_ ?_ _) | (with_reducible refine Kd.yQ_ ?_))); (case side2 => exact (Kd.ys_ HO506.out).2.1); rintro e w15 ⟨rfl, hb⟩; refine ⟨_, rfl, ?_⟩; replace HO506 := AM (Kd.yB_ (ks_ HO506.out) hb); replace HB := AM (zg_ bel_ hb); (try clear hb)) | (go_at_call 11; (with_reducible refine (zi_.calls kj2 _ _ t504 t509 _ ?side1 ?side2 A14.out).mono ?_); (case side1 => repeat (first | exact (Kd.ys_ HO506.out).2.2 | (with_reducible refine Kd.yx_ ?_ _) | (with_reducible refine Kd.yw_ ?_ _) | (with_reducible refine Kd.yQ_ ?_))); (case side2 => exact (Kd.ys_ HO506.out).2.1); rintro e w16 ⟨rfl, hb⟩; replace HO506 := AM (Kd.yB_ (ks_ HO506.out) hb); replace HB := AM (zg_ bel_ hb); (try clear hb)))
      go_meet
      case rel => exact ⟨_, ((t509 != (t507.toList != ([] : List UInt8)))), (by first | rfl | (clear H' HJ2; generalize t509 = a_; generalize t507.toList = b_; cases a_ <;> cases b_ <;> rfl) | (simp; done) | (simp [*]; done)), H', ⟨by have := HJ2.out; first | omega | exact Nat.le_refl _⟩, ⟨bel_⟩⟩
     ·
      rw [if_neg c13] at H
      have c13b0 : (t507.toList == t508.toList) = false := beq_eq_false_iff_ne.mpr c13
      have c13b1 : (t507.toList != t508.toList) = true := bne_iff_ne.mpr c13
      (first | rw [c13b0] | (simp only [i64_w, i32_w]; rw [c13b0]) | skip)
      have H' := AM H
      clear H
      go_wp2_with (first | ((with_reducible refine zl_ (f := 10) rfl ?_); refine gl_ (some 24) Try.func10 #[.slice Ao10 t504.length co10] ?_; (with_reducible refine (z4_.calls kj2 _ _ t504 t508 _ ?side1 ?side2 A12.out).mono ?_); (case side1 => repeat (first | exact (Kd.ys_ HO506.out).2.2 | (with_reducible refine Kd.yx_ ?_ _) | (with_reducible refine Kd.yw_ ?_ _) | (with_reducible refine Kd.yQ_ ?_))); (case side2 => exact (Kd.ys_ HO506.out).2.1); rintro e w17 ⟨rfl, hb⟩; refine ⟨_, rfl, ?_⟩; replace HO506 := AM (Kd.yB_ (ks_ HO506.out) hb); replace HB := AM (zg_ bel_ hb); (try clear hb)))
      go_meet
      case rel => exact ⟨_, (true), re_, H', ⟨by have := HJ2.out; first | omega | exact Nat.le_refl _⟩, ⟨bel_⟩⟩
    case rest =>
     clear HC8
     (try clear c5); (try clear c13); (try clear c13b0); (try clear c13b1)
     obtain ⟨kq, x32_7, rfl, HA, HJ7, HB⟩ := hcut
     cases kq with
     | zero => exact absurd HA.out (by simp [zo_.j1])
     | succ kj7 =>
      have H := HA.out
      clear HA
      simp only [zo_.j1] at H
      by_cases c18 : x32_7 = true
      ·
       subst c18
       rw [if_pos rfl] at H
       obtain rfl := Option.some.inj H
       go_wp2
       go_ret
       exact ⟨ri_, bel_⟩
      ·
       replace c18 := Bool.eq_false_iff.mpr c18
       subst c18
       rw [if_neg (show ¬ (false = true) by decide)] at H
       have HC19 := AM H
       clear H
       go_upto_region 7 with (fail)
       go_cut [39] (fun v39 wc => ∃ (kq : Nat) (x39_18 : Bool), v39 = .bool x39_18 ∧ zd_ (zo_.j2 kq l1 t507 x39_18 = some r) ∧ zd_ (kq ≤ kj7) ∧ zd_ (Below w.heap.size w wc))
       case first =>
        have H := HC19.out
        clear HC19
        by_cases c20 : t507.toList = ([] : List UInt8)
        ·
         rw [if_pos c20] at H
         have c20b0 : (t507.toList == ([] : List UInt8)) = true := beq_iff_eq.mpr c20
         have c20b1 : (t507.toList != ([] : List UInt8)) = false := bne_eq_false_iff_eq.mpr c20
         clear c20
         (first | rw [c20b0] | (simp only [i64_w, i32_w]; rw [c20b0]) | skip)
         have H' := AM H
         clear H
         go_wp2
         go_meet
         case rel => exact ⟨_, (false), re_, H', ⟨by have := HJ2.out; have := HJ7.out; first | omega | exact Nat.le_refl _⟩, ⟨bel_⟩⟩
        ·
         rw [if_neg c20] at H
         have c20b0 : (t507.toList == ([] : List UInt8)) = false := beq_eq_false_iff_ne.mpr c20
         have c20b1 : (t507.toList != ([] : List UInt8)) = true := bne_iff_ne.mpr c20
         (first | rw [c20b0] | (simp only [i64_w, i32_w]; rw [c20b0]) | skip)
         have H' := AM H
         clear H
         go_wp2
         go_meet
         case rel => exact ⟨_, (decide ((t507.size : Int) ≤ 20000)), re_, H', ⟨by have := HJ2.out; have := HJ7.out; first | omega | exact Nat.le_refl _⟩, ⟨bel_⟩⟩
       case rest =>
        clear HC19
        (try clear c18); (try clear c20); (try clear c20b0); (try clear c20b1)
        obtain ⟨kq, x39_18, rfl, HA, HJ18, HB⟩ := hcut
        cases kq with
        | zero => exact absurd HA.out (by simp [zo_.j2])
        | succ kj18 =>
         have H := HA.out
         clear HA
         simp only [zo_.j2] at H
         have HC21 := AM H
         clear H
         go_upto_if 39 with (fail)
         go_cut [] (fun wc => ∃ (kq : Nat), zd_ (zo_.j3 kq l1 = some r) ∧ zd_ (kq ≤ kj18) ∧ zd_ (Below w.heap.size w wc))
         case first =>
          have H := HC21.out
          clear HC21
          by_cases c22 : x39_18 = true
          ·
           subst c22
           rw [if_pos rfl] at H
           obtain ⟨⟨t510, t513⟩, A23, H⟩ := OB H
           try dsimp only at H
           replace A23 := AM A23
           by_cases c24 : t513 = 0
           ·
            rw [if_pos c24] at H
            have c24b0 : (t513 == 0) = true := beq_iff_eq.mpr c24
            have c24b1 : (t513 != 0) = false := bne_eq_false_iff_eq.mpr c24
            clear c24
            (first | rw [c24b0] | (simp only [i64_w, i32_w]; rw [c24b0]) | skip)
            obtain ⟨t515, A25, H⟩ := OB H
            try dsimp only at H
            replace A25 := AM A25
            by_cases c26 : t515.toList = t507.toList
            ·
             rw [if_pos c26] at H
             have c26b0 : (t515.toList == t507.toList) = true := beq_iff_eq.mpr c26
             have c26b1 : (t515.toList != t507.toList) = false := bne_eq_false_iff_eq.mpr c26
             clear c26
             have H' := AM H
             clear H
             go_wp2_with (first | ((with_reducible refine zl_ (f := 12) rfl ?_); refine gl_ (some 41) Try.func12 #[.string t507] ?_; (with_reducible refine (yf_.calls kj18 t507 t510 t513 _ A23.out).mono ?_); rintro e w27 ⟨v511, rfl, ho0, hb⟩; refine ⟨_, rfl, ?_⟩; have HO512 := AM (Kd.xh_ ho0 (zj_ bel_)); replace HB := AM (zg_ bel_ hb); (try clear hb); (try clear ho0)) | ((with_reducible refine z6_ (N := 7) rfl ?_); (try (refine y6_ (by rfl) ?_; dsimp only)); refine be_ 7 #[.slice none 0 0, .int .i64 0] 28 ?_; intro gb514 hg w28 hbox hb; replace HO512 := AM (Kd.yB_ (ks_ HO512.out) hb); have BK514 := AM hbox; have GW514 := AM ((by rw [hg]; exact (zj_ bel_) : w.heap.size ≤ gb514)); have GE514 := AM ((by rw [hg]; exact (zj_ bel_) : w.heap.size ≤ gb514)); replace HB := AM (zg_ bel_ hb); clear hb hbox hg; obtain ⟨Ao29, co29, eo29⟩ := Kd.xv_ HO512.out; subst eo29; have hcz30_0 : w28.cell? ⟨gb514, 0, none⟩ = some (.slice none 0 0) := (zb_ BK514.out 0).trans rfl; have hcz30_1 : w28.cell? ⟨gb514, 1, none⟩ = some (.int .i64 0) := (zb_ BK514.out 1).trans rfl; have hfz30_0 := za_ BK514.out 0; have hfz30_1 := za_ BK514.out 1) | (go_at_call 9; (with_reducible refine (yh_.calls kj18 _ _ t510 t515 _ ?side1 ?side2 A25.out).mono ?_); (case side1 => refine (Kd.ys_ (e := 97) (base := w.heap.size) (ok := fun k_ => True) (n := t510.length) (c := co29) ?_).2.2; exact (ks_ (Kd.zR_ (Kd.S_far (p := ⟨gb514, 1, none⟩) (Kd.S_far (p := ⟨gb514, 0, none⟩) (Kd.S_types HO512.out BK514.out (by decide)) (fun _ hk => hk.2) (.slice Ao29 t510.length co29)) (fun _ hk => hk.2) (.int .i64 t513)) (fun _ h_ => h_.1)))); (case side2 => exact (Kd.ys_ HO512.out).2.1); rintro e w31 ⟨rfl, hb⟩; replace HO512 := AM (Kd.yB_ (ks_ (Kd.zR_ (Kd.S_far (p := ⟨gb514, 1, none⟩) (Kd.S_far (p := ⟨gb514, 0, none⟩) (Kd.S_types HO512.out BK514.out (by decide)) (fun _ hk => hk.2) (.slice Ao29 t510.length co29)) (fun _ hk => hk.2) (.int .i64 t513)) (fun _ h_ => h_.1))) hb); replace BK514 := AM (zP_ (g := gb514) (o := .cells #[.slice Ao29 t510.length co29, .int .i64 t513] 28 (0, 0)) bka_ hb); replace HB := AM (zg_ bel_ hb); (try clear hb); (try clear hk)))
             go_meet
             case rel => exact ⟨_, H', ⟨by have := HJ2.out; have := HJ7.out; have := HJ18.out; first | omega | exact Nat.le_refl _⟩, ⟨bel_⟩⟩
            ·
             rw [if_neg c26] at H
             have c26b0 : (t515.toList == t507.toList) = false := beq_eq_false_iff_ne.mpr c26
             have c26b1 : (t515.toList != t507.toList) = true := bne_iff_ne.mpr c26
             obtain rfl := Option.some.inj H
             go_wp2_with (first | ((with_reducible refine zl_ (f := 12) rfl ?_); refine gl_ (some 41) Try.func12 #[.string t507] ?_; (with_reducible refine (yf_.calls kj18 t507 t510 t513 _ A23.out).mono ?_); rintro e w32 ⟨v511, rfl, ho0, hb⟩; refine ⟨_, rfl, ?_⟩; have HO512 := AM (Kd.xh_ ho0 (zj_ bel_)); replace HB := AM (zg_ bel_ hb); (try clear hb); (try clear ho0)) | ((with_reducible refine z6_ (N := 7) rfl ?_); (try (refine y6_ (by rfl) ?_; dsimp only)); refine be_ 7 #[.slice none 0 0, .int .i64 0] 28 ?_; intro gb514 hg w33 hbox hb; replace HO512 := AM (Kd.yB_ (ks_ HO512.out) hb); have BK514 := AM hbox; have GW514 := AM ((by rw [hg]; exact (zj_ bel_) : w.heap.size ≤ gb514)); have GE514 := AM ((by rw [hg]; exact (zj_ bel_) : w.heap.size ≤ gb514)); replace HB := AM (zg_ bel_ hb); clear hb hbox hg; obtain ⟨Ao34, co34, eo34⟩ := Kd.xv_ HO512.out; subst eo34; have hcz35_0 : w33.cell? ⟨gb514, 0, none⟩ = some (.slice none 0 0) := (zb_ BK514.out 0).trans rfl; have hcz35_1 : w33.cell? ⟨gb514, 1, none⟩ = some (.int .i64 0) := (zb_ BK514.out 1).trans rfl; have hfz35_0 := za_ BK514.out 0; have hfz35_1 := za_ BK514.out 1) | (go_at_call 9; (with_reducible refine (yh_.calls kj18 _ _ t510 t515 _ ?side1 ?side2 A25.out).mono ?_); (case side1 => refine (Kd.ys_ (e := 97) (base := w.heap.size) (ok := fun k_ => True) (n := t510.length) (c := co34) ?_).2.2; exact (ks_ (Kd.zR_ (Kd.S_far (p := ⟨gb514, 1, none⟩) (Kd.S_far (p := ⟨gb514, 0, none⟩) (Kd.S_types HO512.out BK514.out (by decide)) (fun _ hk => hk.2) (.slice Ao34 t510.length co34)) (fun _ hk => hk.2) (.int .i64 t513)) (fun _ h_ => h_.1)))); (case side2 => exact (Kd.ys_ HO512.out).2.1); rintro e w36 ⟨rfl, hb⟩; replace HO512 := AM (Kd.yB_ (ks_ (Kd.zR_ (Kd.S_far (p := ⟨gb514, 1, none⟩) (Kd.S_far (p := ⟨gb514, 0, none⟩) (Kd.S_types HO512.out BK514.out (by decide)) (fun _ hk => hk.2) (.slice Ao34 t510.length co34)) (fun _ hk => hk.2) (.int .i64 t513)) (fun _ h_ => h_.1))) hb); replace BK514 := AM (zP_ (g := gb514) (o := .cells #[.slice Ao34 t510.length co34, .int .i64 t513] 28 (0, 0)) bka_ hb); replace HB := AM (zg_ bel_ hb); (try clear hb); (try clear hk)))
             go_ret
             exact ⟨ri_, bel_⟩
           ·
            rw [if_neg c24] at H
            have c24b0 : (t513 == 0) = false := beq_eq_false_iff_ne.mpr c24
            have c24b1 : (t513 != 0) = true := bne_iff_ne.mpr c24
            (first | rw [c24b0] | (simp only [i64_w, i32_w]; rw [c24b0]) | skip)
            obtain rfl := Option.some.inj H
            go_wp2_with (first | ((with_reducible refine zl_ (f := 12) rfl ?_); refine gl_ (some 41) Try.func12 #[.string t507] ?_; (with_reducible refine (yf_.calls kj18 t507 t510 t513 _ A23.out).mono ?_); rintro e w37 ⟨v511, rfl, ho0, hb⟩; refine ⟨_, rfl, ?_⟩; have HO512 := AM (Kd.xh_ ho0 (zj_ bel_)); replace HB := AM (zg_ bel_ hb); (try clear hb); (try clear ho0)) | ((with_reducible refine z6_ (N := 7) rfl ?_); (try (refine y6_ (by rfl) ?_; dsimp only)); refine be_ 7 #[.slice none 0 0, .int .i64 0] 28 ?_; intro gb514 hg w38 hbox hb; replace HO512 := AM (Kd.yB_ (ks_ HO512.out) hb); have BK514 := AM hbox; have GW514 := AM ((by rw [hg]; exact (zj_ bel_) : w.heap.size ≤ gb514)); have GE514 := AM ((by rw [hg]; exact (zj_ bel_) : w.heap.size ≤ gb514)); replace HB := AM (zg_ bel_ hb); clear hb hbox hg; obtain ⟨Ao39, co39, eo39⟩ := Kd.xv_ HO512.out; subst eo39; have hcz40_0 : w38.cell? ⟨gb514, 0, none⟩ = some (.slice none 0 0) := (zb_ BK514.out 0).trans rfl; have hcz40_1 : w38.cell? ⟨gb514, 1, none⟩ = some (.int .i64 0) := (zb_ BK514.out 1).trans rfl; have hfz40_0 := za_ BK514.out 0; have hfz40_1 := za_ BK514.out 1))
            go_ret
            exact ⟨ri_, bel_⟩
          ·
           replace c22 := Bool.eq_false_iff.mpr c22
           subst c22
           rw [if_neg (show ¬ (false = true) by decide)] at H
           have H' := AM H
           clear H
           go_wp2
           go_meet
           case rel => exact ⟨_, H', ⟨by have := HJ2.out; have := HJ7.out; have := HJ18.out; first | omega | exact Nat.le_refl _⟩, ⟨bel_⟩⟩
         case rest =>
          clear HC21
          (try clear c22); (try clear c24); (try clear c24b0); (try clear c24b1); (try clear c26); (try clear c26b0); (try clear c26b1); (try clear hcz30_0); (try clear hcz30_1); (try clear hcz35_0); (try clear hcz35_1); (try clear hcz40_0); (try clear hcz40_1); (try clear hfz30_0); (try clear hfz30_1); (try clear hfz35_0); (try clear hfz35_1); (try clear hfz40_0); (try clear hfz40_1)
          obtain ⟨kq, HA, HJ20, HB⟩ := hcut
          cases kq with
          | zero => exact absurd HA.out (by simp [zo_.j3])
          | succ kj20 =>
           have H := HA.out
           clear HA
           simp only [zo_.j3] at H
           obtain ⟨t516, A41, H⟩ := OB H
           try dsimp only at H
           replace A41 := AM A41
           obtain ⟨⟨t517, t520⟩, A42, H⟩ := OB H
           try dsimp only at H
           replace A42 := AM A42
           obtain ⟨⟨t522, t525⟩, A43, H⟩ := OB H
           try dsimp only at H
           replace A43 := AM A43
           by_cases c44 : t520 = t525
           ·
            rw [if_pos c44] at H
            have c44b0 : (t520 == t525) = true := beq_iff_eq.mpr c44
            have c44b1 : (t520 != t525) = false := bne_eq_false_iff_eq.mpr c44
            clear c44
            by_cases c45 : t520 = 0
            ·
             rw [if_pos c45] at H
             have c45b0 : (t520 == 0) = true := beq_iff_eq.mpr c45
             have c45b1 : (t520 != 0) = false := bne_eq_false_iff_eq.mpr c45
             clear c45
             obtain ⟨t526, A46, H⟩ := OB H
             try dsimp only at H
             replace A46 := AM A46
             obtain rfl := Option.some.inj H
             try go_wp2_with (first | ((with_reducible refine zl_ (f := 13) rfl ?_); refine gl_ (some 53) Try.func13 #[.slice A1 l1.length c1] ?_; (with_reducible refine (z8_.calls kj20 _ _ l1 t516 _ ?side1 ?side2 A41.out).mono ?_); (case side1 => repeat (first | exact (Kd.xc_ HR1.out HB.out) | (with_reducible refine Kd.yx_ ?_ _) | (with_reducible refine Kd.yw_ ?_ _) | (with_reducible refine Kd.yQ_ ?_))); (case side2 => exact HC1.out); rintro e w47 ⟨rfl, hb⟩; refine ⟨_, rfl, ?_⟩; replace HB := AM (zg_ bel_ hb); (try clear hb)) | ((with_reducible refine zl_ (f := 12) rfl ?_); refine gl_ (some 55) Try.func12 #[.string t516] ?_; (with_reducible refine (yf_.calls kj20 t516 t517 t520 _ A42.out).mono ?_); rintro e w48 ⟨v518, rfl, ho0, hb⟩; refine ⟨_, rfl, ?_⟩; have HO519 := AM (Kd.xh_ ho0 (zj_ bel_)); replace HB := AM (zg_ bel_ hb); (try clear hb); (try clear ho0)) | ((with_reducible refine z6_ (N := 9) rfl ?_); (try (refine y6_ (by rfl) ?_; dsimp only)); refine be_ 9 #[.slice none 0 0, .int .i64 0] 28 ?_; intro gb521 hg w49 hbox hb; replace HO519 := AM (Kd.yB_ (ks_ HO519.out) hb); have BK521 := AM hbox; have GW521 := AM ((by rw [hg]; exact (zj_ bel_) : w.heap.size ≤ gb521)); have GE521 := AM ((by rw [hg]; exact (zj_ bel_) : w.heap.size ≤ gb521)); replace HB := AM (zg_ bel_ hb); clear hb hbox hg; obtain ⟨Ao50, co50, eo50⟩ := Kd.xv_ HO519.out; subst eo50; have hcz51_0 : w49.cell? ⟨gb521, 0, none⟩ = some (.slice none 0 0) := (zb_ BK521.out 0).trans rfl; have hcz51_1 : w49.cell? ⟨gb521, 1, none⟩ = some (.int .i64 0) := (zb_ BK521.out 1).trans rfl; have hfz51_0 := za_ BK521.out 0; have hfz51_1 := za_ BK521.out 1))
             have n0_ : zd_ (Kd.S k97 97 ((w49.setCell ⟨gb521, 0, none⟩ (.slice Ao50 t517.length co50)).setCell ⟨gb521, 1, none⟩ (.int .i64 t520)) w.heap.size (fun _ => True) (.slice Ao50 t517.length co50) t517) := ⟨by (with_reducible repeat (first | apply Kd.ye_ | apply Kd.yd_ | apply Kd.yi_)); exact Kd.zR_ (Kd.S_far (p := ⟨gb521, 1, none⟩) (Kd.S_far (p := ⟨gb521, 0, none⟩) (Kd.S_types HO519.out BK521.out (by decide)) (fun _ hk => hk.2) (.slice Ao50 t517.length co50)) (fun _ hk => hk.2) (.int .i64 t520)) (fun _ hk => trivial)⟩
             have n1_ : zd_ (((w49.setCell ⟨gb521, 0, none⟩ (.slice Ao50 t517.length co50)).setCell ⟨gb521, 1, none⟩ (.int .i64 t520)).heap[gb521]? = some (.cells #[.slice Ao50 t517.length co50, .int .i64 t520] 28 (0, 0))) := ⟨bka_⟩
             have n2_ : zd_ (Below w.heap.size w ((w49.setCell ⟨gb521, 0, none⟩ (.slice Ao50 t517.length co50)).setCell ⟨gb521, 1, none⟩ (.int .i64 t520))) := ⟨bel_⟩
             (try clear HO519); (try clear BK521); (try clear HB)
             generalize ((w49.setCell ⟨gb521, 0, none⟩ (.slice Ao50 t517.length co50)).setCell ⟨gb521, 1, none⟩ (.int .i64 t520)) = w52 at n0_ n1_ n2_ ⊢
             have HO519 := n0_
             have BK521 := n1_
             have HB := n2_
             clear n0_ n1_ n2_
             replace HO519 := AM (Kd.yi_ HO519.out)
             replace BK521 := AM (yU_ BK521.out)
             replace HB := AM (z1_ HB.out)
             refine xi_ (n := 19) (S := fun w' => w'.cell? ⟨gb521, 0, none⟩ = some (.slice Ao50 t517.length co50) ∧ w'.cell? ⟨gb521, 1, none⟩ = some (.int .i64 t520)) (ds := []) (Array.replicate 19 false) (by kernel_rfl) rfl rfl ⟨(zb_ BK521.out 0).trans rfl, (zb_ BK521.out 1).trans rfl⟩ (fun hHeld => ?_); refine yu_ zo_.tab13 zo_.bits13 (fun HT_ HW_ => ?_)
             generalize w52.drew = w53 at HO519 BK521 HB hHeld ⊢
             refine pu_ HT_ 0 (some 56) (bA 19 1) ?_
             refine pu_ HT_ 2 (some 58) (bA 19 5) ?_
             refine ta_ HT_ HW_ 1 (some 57) (bA 19 7) hHeld ?_
             refine on_ HT_ 3 (some 59) (bA 19 15) (fun K hK => ?_)
             refine go1_ Try.func14 #[.string t516] ?_
             with_reducible refine (yk_.calls kj20 t516 t522 t525 _ A43.out).mono ?_
             rintro e w54 ⟨v523, rfl, ho0, hb⟩
             refine ⟨_, rfl, ?_⟩
             have HO524 := AM (Kd.xh_ (Kd.S_new' ho0 (Kd.S_lt (ks_ HO519.out))) (zj_ bel_))
             replace HO519 := AM (Kd.S_elder' (ks_ HO519.out) (Kd.S_base ho0) hb)
             replace BK521 := AM (zP_ (g := gb521) (o := .cells #[.slice Ao50 t517.length co50, .int .i64 t520] 28 (0, 0)) (bk_ BK521.out) hb)
             replace HB := AM (zg_ bel_ hb)
             (try clear hb); (try clear hk); (try clear ho0)
             refine hK.out _ _ ⟨(zb_ BK521.out 0).trans rfl, (zb_ BK521.out 1).trans rfl⟩ (fun hHeld => ?_)
             clear hK K
             refine nm_ ?_
             refine pu_ HT_ 4 (some 60) (bA 19 31) ?_
             refine pu_ HT_ 5 (some 61) (bA 19 63) ?_
             refine pu_ HT_ 6 (some 62) (bA 19 127) ?_
             refine pu_ HT_ 7 (some 63) (bA 19 255) ?_
             refine ta_ HT_ HW_ 8 (some 64) (bA 19 511) hHeld ?_
             refine pu_ HT_ 9 (some 65) (bA 19 1023) ?_
             refine pu_ HT_ 10 (some 66) (bA 19 2047) ?_
             refine pu_ HT_ 11 (some 67) (bA 19 4095) ?_
             refine pu_ HT_ 14 (some 70) (bA 19 20479) ?_
             refine ta_ HT_ HW_ 12 (some 68) (bA 19 24575) hHeld ?_
             refine on_ HT_ 13 (some 69) (bA 19 32767) (fun K hK => ?_)
             refine go1_ Try.func10 #[.slice Ao50 t517.length co50] ?_
             with_reducible refine (z4_.calls kj20 _ _ t517 t526 _ ?side1 ?side2 A46.out).mono ?_
             (case side1 => repeat (first | exact (Kd.ys_ HO519.out).2.2 | (with_reducible refine Kd.yx_ ?_ _) | (with_reducible refine Kd.yw_ ?_ _) | (with_reducible refine Kd.yQ_ ?_)))
             (case side2 => exact (Kd.ys_ HO519.out).2.1)
             rintro e w55 ⟨rfl, hb⟩
             refine ⟨_, rfl, ?_⟩
             replace HO519 := AM (Kd.yB_ (ks_ HO519.out) hb)
             replace HO524 := AM (Kd.yB_ (ks_ HO524.out) hb)
             replace BK521 := AM (zP_ (g := gb521) (o := .cells #[.slice Ao50 t517.length co50, .int .i64 t520] 28 (0, 0)) (bk_ BK521.out) hb)
             replace HB := AM (zg_ bel_ hb)
             (try clear hb)
             refine hK.out _ _ ⟨(zb_ BK521.out 0).trans rfl, (zb_ BK521.out 1).trans rfl⟩ (fun hHeld => ?_)
             clear hK K
             refine nm_ ?_
             refine pu_ HT_ 15 (some 71) (bA 19 65535) ?_
             refine pu_ HT_ 16 (some 72) (bA 19 131071) ?_
             refine pu_ HT_ 17 (some 73) (bA 19 262143) ?_
             refine pu_ HT_ 18 (some 4) (bA 19 524287) ?_
             refine dn_ HT_ ?_
             try go_wp2
             go_ret
             exact ⟨ri_, bel_⟩
            ·
             rw [if_neg c45] at H
             have c45b0 : (t520 == 0) = false := beq_eq_false_iff_ne.mpr c45
             have c45b1 : (t520 != 0) = true := bne_iff_ne.mpr c45
             obtain rfl := Option.some.inj H
             try go_wp2_with (first | ((with_reducible refine zl_ (f := 13) rfl ?_); refine gl_ (some 53) Try.func13 #[.slice A1 l1.length c1] ?_; (with_reducible refine (z8_.calls kj20 _ _ l1 t516 _ ?side1 ?side2 A41.out).mono ?_); (case side1 => repeat (first | exact (Kd.xc_ HR1.out HB.out) | (with_reducible refine Kd.yx_ ?_ _) | (with_reducible refine Kd.yw_ ?_ _) | (with_reducible refine Kd.yQ_ ?_))); (case side2 => exact HC1.out); rintro e w56 ⟨rfl, hb⟩; refine ⟨_, rfl, ?_⟩; replace HB := AM (zg_ bel_ hb); (try clear hb)) | ((with_reducible refine zl_ (f := 12) rfl ?_); refine gl_ (some 55) Try.func12 #[.string t516] ?_; (with_reducible refine (yf_.calls kj20 t516 t517 t520 _ A42.out).mono ?_); rintro e w57 ⟨v518, rfl, ho0, hb⟩; refine ⟨_, rfl, ?_⟩; have HO519 := AM (Kd.xh_ ho0 (zj_ bel_)); replace HB := AM (zg_ bel_ hb); (try clear hb); (try clear ho0)) | ((with_reducible refine z6_ (N := 9) rfl ?_); (try (refine y6_ (by rfl) ?_; dsimp only)); refine be_ 9 #[.slice none 0 0, .int .i64 0] 28 ?_; intro gb521 hg w58 hbox hb; replace HO519 := AM (Kd.yB_ (ks_ HO519.out) hb); have BK521 := AM hbox; have GW521 := AM ((by rw [hg]; exact (zj_ bel_) : w.heap.size ≤ gb521)); have GE521 := AM ((by rw [hg]; exact (zj_ bel_) : w.heap.size ≤ gb521)); replace HB := AM (zg_ bel_ hb); clear hb hbox hg; obtain ⟨Ao59, co59, eo59⟩ := Kd.xv_ HO519.out; subst eo59; have hcz60_0 : w58.cell? ⟨gb521, 0, none⟩ = some (.slice none 0 0) := (zb_ BK521.out 0).trans rfl; have hcz60_1 : w58.cell? ⟨gb521, 1, none⟩ = some (.int .i64 0) := (zb_ BK521.out 1).trans rfl; have hfz60_0 := za_ BK521.out 0; have hfz60_1 := za_ BK521.out 1))
             have n0_ : zd_ (Kd.S k97 97 ((w58.setCell ⟨gb521, 0, none⟩ (.slice Ao59 t517.length co59)).setCell ⟨gb521, 1, none⟩ (.int .i64 t520)) w.heap.size (fun _ => True) (.slice Ao59 t517.length co59) t517) := ⟨by (with_reducible repeat (first | apply Kd.ye_ | apply Kd.yd_ | apply Kd.yi_)); exact Kd.zR_ (Kd.S_far (p := ⟨gb521, 1, none⟩) (Kd.S_far (p := ⟨gb521, 0, none⟩) (Kd.S_types HO519.out BK521.out (by decide)) (fun _ hk => hk.2) (.slice Ao59 t517.length co59)) (fun _ hk => hk.2) (.int .i64 t520)) (fun _ hk => trivial)⟩
             have n1_ : zd_ (((w58.setCell ⟨gb521, 0, none⟩ (.slice Ao59 t517.length co59)).setCell ⟨gb521, 1, none⟩ (.int .i64 t520)).heap[gb521]? = some (.cells #[.slice Ao59 t517.length co59, .int .i64 t520] 28 (0, 0))) := ⟨bka_⟩
             have n2_ : zd_ (Below w.heap.size w ((w58.setCell ⟨gb521, 0, none⟩ (.slice Ao59 t517.length co59)).setCell ⟨gb521, 1, none⟩ (.int .i64 t520))) := ⟨bel_⟩
             (try clear HO519); (try clear BK521); (try clear HB)
             generalize ((w58.setCell ⟨gb521, 0, none⟩ (.slice Ao59 t517.length co59)).setCell ⟨gb521, 1, none⟩ (.int .i64 t520)) = w61 at n0_ n1_ n2_ ⊢
             have HO519 := n0_
             have BK521 := n1_
             have HB := n2_
             clear n0_ n1_ n2_
             replace HO519 := AM (Kd.yi_ HO519.out)
             replace BK521 := AM (yU_ BK521.out)
             replace HB := AM (z1_ HB.out)
             refine xi_ (n := 19) (S := fun w' => w'.cell? ⟨gb521, 0, none⟩ = some (.slice Ao59 t517.length co59) ∧ w'.cell? ⟨gb521, 1, none⟩ = some (.int .i64 t520)) (ds := []) (Array.replicate 19 false) (by kernel_rfl) rfl rfl ⟨(zb_ BK521.out 0).trans rfl, (zb_ BK521.out 1).trans rfl⟩ (fun hHeld => ?_); refine yu_ zo_.tab13 zo_.bits13 (fun HT_ HW_ => ?_)
             generalize w61.drew = w62 at HO519 BK521 HB hHeld ⊢
             refine pu_ HT_ 0 (some 56) (bA 19 1) ?_
             refine pu_ HT_ 2 (some 58) (bA 19 5) ?_
             refine ta_ HT_ HW_ 1 (some 57) (bA 19 7) hHeld ?_
             refine on_ HT_ 3 (some 59) (bA 19 15) (fun K hK => ?_)
             refine go1_ Try.func14 #[.string t516] ?_
             with_reducible refine (yk_.calls kj20 t516 t522 t525 _ A43.out).mono ?_
             rintro e w63 ⟨v523, rfl, ho0, hb⟩
             refine ⟨_, rfl, ?_⟩
             have HO524 := AM (Kd.xh_ (Kd.S_new' ho0 (Kd.S_lt (ks_ HO519.out))) (zj_ bel_))
             replace HO519 := AM (Kd.S_elder' (ks_ HO519.out) (Kd.S_base ho0) hb)
             replace BK521 := AM (zP_ (g := gb521) (o := .cells #[.slice Ao59 t517.length co59, .int .i64 t520] 28 (0, 0)) (bk_ BK521.out) hb)
             replace HB := AM (zg_ bel_ hb)
             (try clear hb); (try clear hk); (try clear ho0)
             refine hK.out _ _ ⟨(zb_ BK521.out 0).trans rfl, (zb_ BK521.out 1).trans rfl⟩ (fun hHeld => ?_)
             clear hK K
             refine nm_ ?_
             refine pu_ HT_ 4 (some 60) (bA 19 31) ?_
             refine pu_ HT_ 5 (some 61) (bA 19 63) ?_
             refine pu_ HT_ 6 (some 62) (bA 19 127) ?_
             refine pu_ HT_ 7 (some 63) (bA 19 255) ?_
             refine ta_ HT_ HW_ 8 (some 64) (bA 19 511) hHeld ?_
             refine pu_ HT_ 9 (some 65) (bA 19 1023) ?_
             refine pu_ HT_ 10 (some 66) (bA 19 2047) ?_
             refine pu_ HT_ 11 (some 67) (bA 19 4095) ?_
             refine pu_ HT_ 12 (some 68) (bA 19 8191) ?_
             refine pu_ HT_ 13 (some 69) (bA 19 16383) ?_
             refine pu_ HT_ 14 (some 70) (bA 19 32767) ?_
             refine pu_ HT_ 15 (some 71) (bA 19 65535) ?_
             refine pu_ HT_ 16 (some 72) (bA 19 131071) ?_
             refine pu_ HT_ 17 (some 73) (bA 19 262143) ?_
             refine pu_ HT_ 18 (some 4) (bA 19 524287) ?_
             refine dn_ HT_ ?_
             try go_wp2
             go_ret
             exact ⟨ri_, bel_⟩
           ·
            rw [if_neg c44] at H
            have c44b0 : (t520 == t525) = false := beq_eq_false_iff_ne.mpr c44
            have c44b1 : (t520 != t525) = true := bne_iff_ne.mpr c44
            obtain rfl := Option.some.inj H
            try go_wp2_with (first | ((with_reducible refine zl_ (f := 13) rfl ?_); refine gl_ (some 53) Try.func13 #[.slice A1 l1.length c1] ?_; (with_reducible refine (z8_.calls kj20 _ _ l1 t516 _ ?side1 ?side2 A41.out).mono ?_); (case side1 => repeat (first | exact (Kd.xc_ HR1.out HB.out) | (with_reducible refine Kd.yx_ ?_ _) | (with_reducible refine Kd.yw_ ?_ _) | (with_reducible refine Kd.yQ_ ?_))); (case side2 => exact HC1.out); rintro e w64 ⟨rfl, hb⟩; refine ⟨_, rfl, ?_⟩; replace HB := AM (zg_ bel_ hb); (try clear hb)) | ((with_reducible refine zl_ (f := 12) rfl ?_); refine gl_ (some 55) Try.func12 #[.string t516] ?_; (with_reducible refine (yf_.calls kj20 t516 t517 t520 _ A42.out).mono ?_); rintro e w65 ⟨v518, rfl, ho0, hb⟩; refine ⟨_, rfl, ?_⟩; have HO519 := AM (Kd.xh_ ho0 (zj_ bel_)); replace HB := AM (zg_ bel_ hb); (try clear hb); (try clear ho0)) | ((with_reducible refine z6_ (N := 9) rfl ?_); (try (refine y6_ (by rfl) ?_; dsimp only)); refine be_ 9 #[.slice none 0 0, .int .i64 0] 28 ?_; intro gb521 hg w66 hbox hb; replace HO519 := AM (Kd.yB_ (ks_ HO519.out) hb); have BK521 := AM hbox; have GW521 := AM ((by rw [hg]; exact (zj_ bel_) : w.heap.size ≤ gb521)); have GE521 := AM ((by rw [hg]; exact (zj_ bel_) : w.heap.size ≤ gb521)); replace HB := AM (zg_ bel_ hb); clear hb hbox hg; obtain ⟨Ao67, co67, eo67⟩ := Kd.xv_ HO519.out; subst eo67; have hcz68_0 : w66.cell? ⟨gb521, 0, none⟩ = some (.slice none 0 0) := (zb_ BK521.out 0).trans rfl; have hcz68_1 : w66.cell? ⟨gb521, 1, none⟩ = some (.int .i64 0) := (zb_ BK521.out 1).trans rfl; have hfz68_0 := za_ BK521.out 0; have hfz68_1 := za_ BK521.out 1))
            have n0_ : zd_ (Kd.S k97 97 ((w66.setCell ⟨gb521, 0, none⟩ (.slice Ao67 t517.length co67)).setCell ⟨gb521, 1, none⟩ (.int .i64 t520)) w.heap.size (fun _ => True) (.slice Ao67 t517.length co67) t517) := ⟨by (with_reducible repeat (first | apply Kd.ye_ | apply Kd.yd_ | apply Kd.yi_)); exact Kd.zR_ (Kd.S_far (p := ⟨gb521, 1, none⟩) (Kd.S_far (p := ⟨gb521, 0, none⟩) (Kd.S_types HO519.out BK521.out (by decide)) (fun _ hk => hk.2) (.slice Ao67 t517.length co67)) (fun _ hk => hk.2) (.int .i64 t520)) (fun _ hk => trivial)⟩
            have n1_ : zd_ (((w66.setCell ⟨gb521, 0, none⟩ (.slice Ao67 t517.length co67)).setCell ⟨gb521, 1, none⟩ (.int .i64 t520)).heap[gb521]? = some (.cells #[.slice Ao67 t517.length co67, .int .i64 t520] 28 (0, 0))) := ⟨bka_⟩
            have n2_ : zd_ (Below w.heap.size w ((w66.setCell ⟨gb521, 0, none⟩ (.slice Ao67 t517.length co67)).setCell ⟨gb521, 1, none⟩ (.int .i64 t520))) := ⟨bel_⟩
            (try clear HO519); (try clear BK521); (try clear HB)
            generalize ((w66.setCell ⟨gb521, 0, none⟩ (.slice Ao67 t517.length co67)).setCell ⟨gb521, 1, none⟩ (.int .i64 t520)) = w69 at n0_ n1_ n2_ ⊢
            have HO519 := n0_
            have BK521 := n1_
            have HB := n2_
            clear n0_ n1_ n2_
            replace HO519 := AM (Kd.yi_ HO519.out)
            replace BK521 := AM (yU_ BK521.out)
            replace HB := AM (z1_ HB.out)
            refine xi_ (n := 19) (S := fun w' => w'.cell? ⟨gb521, 0, none⟩ = some (.slice Ao67 t517.length co67) ∧ w'.cell? ⟨gb521, 1, none⟩ = some (.int .i64 t520)) (ds := []) (Array.replicate 19 false) (by kernel_rfl) rfl rfl ⟨(zb_ BK521.out 0).trans rfl, (zb_ BK521.out 1).trans rfl⟩ (fun hHeld => ?_); refine yu_ zo_.tab13 zo_.bits13 (fun HT_ HW_ => ?_)
            generalize w69.drew = w70 at HO519 BK521 HB hHeld ⊢
            refine pu_ HT_ 0 (some 56) (bA 19 1) ?_
            refine pu_ HT_ 2 (some 58) (bA 19 5) ?_
            refine ta_ HT_ HW_ 1 (some 57) (bA 19 7) hHeld ?_
            refine on_ HT_ 3 (some 59) (bA 19 15) (fun K hK => ?_)
            refine go1_ Try.func14 #[.string t516] ?_
            with_reducible refine (yk_.calls kj20 t516 t522 t525 _ A43.out).mono ?_
            rintro e w71 ⟨v523, rfl, ho0, hb⟩
            refine ⟨_, rfl, ?_⟩
            have HO524 := AM (Kd.xh_ (Kd.S_new' ho0 (Kd.S_lt (ks_ HO519.out))) (zj_ bel_))
            replace HO519 := AM (Kd.S_elder' (ks_ HO519.out) (Kd.S_base ho0) hb)
            replace BK521 := AM (zP_ (g := gb521) (o := .cells #[.slice Ao67 t517.length co67, .int .i64 t520] 28 (0, 0)) (bk_ BK521.out) hb)
            replace HB := AM (zg_ bel_ hb)
            (try clear hb); (try clear hk); (try clear ho0)
            refine hK.out _ _ ⟨(zb_ BK521.out 0).trans rfl, (zb_ BK521.out 1).trans rfl⟩ (fun hHeld => ?_)
            clear hK K
            refine nm_ ?_
            refine pu_ HT_ 4 (some 60) (bA 19 31) ?_
            refine pu_ HT_ 5 (some 61) (bA 19 63) ?_
            refine pu_ HT_ 6 (some 62) (bA 19 127) ?_
            refine pu_ HT_ 7 (some 63) (bA 19 255) ?_
            refine pu_ HT_ 8 (some 64) (bA 19 511) ?_
            refine pu_ HT_ 9 (some 65) (bA 19 1023) ?_
            refine pu_ HT_ 10 (some 66) (bA 19 2047) ?_
            refine pu_ HT_ 11 (some 67) (bA 19 4095) ?_
            refine pu_ HT_ 12 (some 68) (bA 19 8191) ?_
            refine pu_ HT_ 13 (some 69) (bA 19 16383) ?_
            refine pu_ HT_ 14 (some 70) (bA 19 32767) ?_
            refine pu_ HT_ 15 (some 71) (bA 19 65535) ?_
            refine pu_ HT_ 16 (some 72) (bA 19 131071) ?_
            refine pu_ HT_ 17 (some 73) (bA 19 262143) ?_
            refine pu_ HT_ 18 (some 4) (bA 19 524287) ?_
            refine dn_ HT_ ?_
            try go_wp2
            go_ret
            exact ⟨ri_, bel_⟩
/-- THE ONE PURE STATEMENT of zo_: yours. -/
def zo_.Pure : Prop := ∀ (l0 : List Int) (l1 : List Int), l0.length ≤ maxLen → l0.length * 1 ≤ 140737488351232 → (∀ x ∈ l0, (Lit.int .u8 x).wf = true) → l1.length ≤ maxLen → l1.length * 1 ≤ 140737488351232 → (∀ x ∈ l1, (Lit.int .u8 x).wf = true) → ∃ k, zo_.f k l0 l1 = some true
theorem zo_.walk (P : zo_.Pure) (a0 : Option Addr) (len0 cap0 : Nat) (z0 : List Int) (a1 : Option Addr) (len1 cap1 : Nat) (z1 : List Int) (w : World) (w0 : (a0 = none ∧ len0 = 0 ∧ cap0 = 0 ∧ z0 = []) ∨ ∃ x, a0 = some x ∧ len0 ≤ cap0 ∧ cap0 ≤ maxLen ∧ z0.length = cap0 ∧ (∀ i, i < z0.length → w.cell? (x.add i) = some (.int .u8 (z0.getD i 0))) ∧ ∀ n ∈ z0, (Lit.int .u8 n).wf = true) (y0 : len0 * 1 ≤ 140737488351232) (w1 : (a1 = none ∧ len1 = 0 ∧ cap1 = 0 ∧ z1 = []) ∨ ∃ x, a1 = some x ∧ len1 ≤ cap1 ∧ cap1 ≤ maxLen ∧ z1.length = cap1 ∧ (∀ i, i < z1.length → w.cell? (x.add i) = some (.int .u8 (z1.getD i 0))) ∧ ∀ n ∈ z1, (Lit.int .u8 n).wf = true) (y1 : len1 * 1 ≤ 140737488351232) :
 Calls Try.prog 3 #[.slice a0 len0 cap0, .slice a1 len1 cap1] w fun e w' => e = .returned (.bool true) ∧ Below w.heap.size w w' := by
 obtain ⟨l0, rfl, hr0, hm0, hw0, hc0⟩ := yY_.ofRowC w0
 obtain ⟨l1, rfl, hr1, hm1, hw1, hc1⟩ := yY_.ofRowC w1
 obtain ⟨k, h⟩ := P l0 l1 hm0 y0 hw0 hm1 y1 hw1
 refine (zo_.calls k _ _ l0 _ _ l1 true w (Kd.C_of_reads (d := (0 : Int)) (h1 := fun _ => rfl) hr0) hc0 (Kd.C_of_reads (d := (0 : Int)) (h1 := fun _ => rfl) hr1) hc1 h).mono ?_
 rintro e w' ⟨rfl, hd⟩
 exact ⟨rfl, hd⟩
end Go.Proofs.Ytfffdndeccipnaa.PFnNodes
