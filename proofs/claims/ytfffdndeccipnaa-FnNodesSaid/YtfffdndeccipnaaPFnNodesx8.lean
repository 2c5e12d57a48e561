import Derived.Test.YtfffdndeccipnaaPFnNodesx0
import Derived.Test.YtfffdndeccipnaaPFnNodesx5
import Derived.WalkLawsBesides
import Derived.Shelf.Strings.OnBuilder
import Derived.Shelf.Strings.Builder2
import Derived.Shelf.Strings.Builder1
namespace Go.Proofs.Ytfffdndeccipnaa.PFnNodes
open Go.RowKit Go.Proofs.YtfffdndeccipnaaW.PrintWords Go.Proofs.YtfffdndeccipnaaW.PrintLast Go.Proofs.YtfffdndeccipnaaW.PrintMore Go.Proofs.Ytfffdndeccipnaa.Aut Go.Proofs.Ytfffdndeccipnaa.Reg
attribute [local go_sem] xE_ xC_ max_two min_two xn_ xm_ xD_ xB_
set_option linter.unusedVariables false
set_option linter.unusedSimpArgs false
set_option maxHeartbeats 8000000
set_option maxRecDepth 100000
/-! ### yc_: function 8 -/
def yc_.f (k : Nat) (l0 : List Int) : Option ((List (S97))) := (zL_.f k l0).bind fun bt249 => ((zc_.f k bt249.1 bt249.2.1 bt249.2.2.1 bt249.2.2.2).bind fun bt254 => (some bt254.1))
theorem yc_.mono : ∀ a0 k, LeO (yc_.f k a0) (yc_.f (k + 1) a0) := by
 intro a0 k
 unfold yc_.f
 repeat' with_reducible first | exact zL_.mono _ _ | exact zc_.mono _ _ _ _ _ | exact LeO.refl _ | exact LeO.none _ | refine LeO.ite ?_ ?_ | refine LeO.bind ?_ (fun _ => ?_)
theorem yc_.calls (k : Nat) (A0 : Option Addr) (c0 : Nat) (l0 : List Int) (r : List (S97)) (w : World) (hr0 : Kd.C (Kd.int .u8) w A0 l0.length l0) (hc0 : l0.length ≤ c0) (h : yc_.f k l0 = some r) :
 Calls Try.prog 8 #[.slice A0 l0.length c0] w fun e w' => ∃ v0_ : Value, e = .returned (v0_) ∧ Kd.S k97 97 w' w.heap.size (fun _ => True) v0_ r ∧ Below w.heap.size w w' := by
 have HR0 := AM hr0
 have HC0 := AM hc0
 clear hr0 hc0
 have HB := AM (Below.refl w.heap.size w)
 have H : ((zL_.f k l0).bind fun bt249 => ((zc_.f k bt249.1 bt249.2.1 bt249.2.2.1 bt249.2.2.2).bind fun bt254 => (some bt254.1))) = some r := h
 clear h
 obtain ⟨⟨t249, t250, t251, t252⟩, A2, H⟩ := OB H
 try dsimp only at H
 replace A2 := AM A2
 obtain ⟨⟨t254, t257, t258, t259⟩, A3, H⟩ := OB H
 try dsimp only at H
 replace A3 := AM A3
 obtain rfl := Option.some.inj H
 go_enter Try.func8, Try.ntmps8
 go_wp2_with (first | ((with_reducible refine zl_ (f := 52) rfl ?_); refine gl_ (some 4) Try.func52 #[.slice A0 l0.length c0] ?_; (with_reducible refine (zL_.calls k _ _ l0 t249 t250 t251 t252 w _ ?side1 ?side2 ?side3 A2.out).mono ?_); (case side1 => exact bel_); (case side2 => exact HR0.out); (case side3 => exact HC0.out); rintro e w4 ⟨g253, rfl, hi, hb, hb2⟩; refine ⟨_, rfl, ?_⟩; replace HB := AM hb; have HI253 := AM hi; (try clear hb); (try clear hb2); (try clear hi)) | ((with_reducible refine zl_ (f := 53) rfl ?_); refine gl_ (some 5) Try.func53 #[.pointer (some ⟨g253, 0, none⟩)] ?_; (with_reducible refine (zc_.calls k g253 t249 t250 t251 t252 t254 t257 t258 t259 w _ ?side1 ?side2 A3.out).mono ?_); (case side1 => exact zA_); (case side2 => exact belg_ (zh_.ge HI253.out)); rintro e w5 ⟨v255, rfl, ho0, hi, hb, hk⟩; refine ⟨_, rfl, ?_⟩; have HO256 := AM (Kd.xh_ ho0 (zj_ (belg_ (zh_.ge HI253.out)))); replace HB := AM hb; replace HI253 := AM hi; (try clear hb); (try clear hk); (try clear hi); (try clear ho0)))
 go_ret
 exact ⟨_, ri_, by (with_reducible repeat (first | apply Kd.ye_ | apply Kd.yd_ | apply Kd.yi_)); exact HO256.out, belg_ (zh_.ge HI253.out)⟩
/-! ### yg_: function 61 -/
def yg_.f (a0 : Int) (a1 : Int) (a2 : Int) : Option (Bool) := if a0 ≥ a1 then (some (decide (a0 ≤ a2))) else (some false)
theorem yg_.calls (a0 : Int) (a1 : Int) (a2 : Int) (r : Bool) (w : World) (h : yg_.f a0 a1 a2 = some r) :
 Calls Try.prog 61 #[.int .i64 a0, .int .i64 a1, .int .i64 a2] w fun e w' => e = .returned (.bool r) ∧ xp_ w w' := by
 have H : (if a0 ≥ a1 then (some (decide (a0 ≤ a2))) else (some false)) = some r := h
 clear h
 by_cases c4 : a0 ≥ a1
 ·
  rw [if_pos c4] at H
  have c4b0 : decide (a1 ≤ a0) = true := decide_eq_true c4
  clear c4
  obtain rfl := Option.some.inj H
  go_enter Try.func61, Try.ntmps61
  go_wp2
  go_ret
  exact ⟨re_, dr_⟩
 ·
  rw [if_neg c4] at H
  have c4b0 : decide (a1 ≤ a0) = false := decide_eq_false c4
  clear c4
  obtain rfl := Option.some.inj H
  go_enter Try.func61, Try.ntmps61
  go_wp2
  go_ret
  exact ⟨re_, dr_⟩
/-! ### yj_: function 128 -/
def yj_.f (a0 : ByteArray) : Option (Int) := some (a0.size : Int)
theorem yj_.calls (a0 : ByteArray) (r : Int) (w : World) (h : yj_.f a0 = some r) :
 Calls Try.prog 128 #[.string a0] w fun e w' => e = .returned (.int .i64 r) ∧ xp_ w w' := by
 have H : (some (a0.size : Int)) = some r := h
 clear h
 obtain rfl := Option.some.inj H
 go_enter Try.func128, Try.ntmps128
 go_wp2
 go_ret
 exact ⟨re_, dr_⟩
/-! ### z7_: function 142 -/
def z7_.l0 : Nat → ByteArray → Int → Int → Int → Option (Bool)
 | 0, _, _, _, _ => none
 | k + 1, x0, x1, x8, x9 => if x9 < x8 then (if 0 ≤ x9 then (if x9 < (x0.size : Int) then (if (bt x0 x9) ≥ 97 then (if ((bt x0 x9) ≤ 122) then (z7_.l0 k x0 x1 x8 (wrap64 (x9 + 1))) else (if x9 = 0 then (some false) else (if (bt x0 x9) ≥ 48 then (if ((bt x0 x9) ≤ 57) then (z7_.l0 k x0 x1 x8 (wrap64 (x9 + 1))) else (if (bt x0 x9) = 45 then (z7_.l0 k x0 x1 x8 (wrap64 (x9 + 1))) else (some false))) else (if (bt x0 x9) = 45 then (z7_.l0 k x0 x1 x8 (wrap64 (x9 + 1))) else (some false))))) else (if x9 = 0 then (some false) else (if (bt x0 x9) ≥ 48 then (if ((bt x0 x9) ≤ 57) then (z7_.l0 k x0 x1 x8 (wrap64 (x9 + 1))) else (if (bt x0 x9) = 45 then (z7_.l0 k x0 x1 x8 (wrap64 (x9 + 1))) else (some false))) else (if (bt x0 x9) = 45 then (z7_.l0 k x0 x1 x8 (wrap64 (x9 + 1))) else (some false))))) else (none)) else (none)) else ((yj_.f x0).bind fun t260 => ((yg_.f t260 1 x1).bind fun t261 => (some t261)))
def z7_.f (k : Nat) (a0 : ByteArray) (a1 : Int) : Option (Bool) := z7_.l0 k a0 a1 (a0.size : Int) 0
theorem z7_.mono_l : ∀ k, (∀ y0 y1 y2 y3, LeO (z7_.l0 k y0 y1 y2 y3) (z7_.l0 (k + 1) y0 y1 y2 y3))
 | 0 => fun _ _ _ _ r h => by simp [z7_.l0] at h
 | k + 1 => by
  have ih0 := z7_.mono_l k
  ·
   intro y0 y1 y2 y3
   unfold z7_.l0
   repeat' with_reducible first | exact ih0 _ _ _ _ | exact LeO.refl _ | exact LeO.none _ | refine LeO.ite ?_ ?_ | refine LeO.bind ?_ (fun _ => ?_)
theorem z7_.mono : ∀ a0 a1 k, LeO (z7_.f k a0 a1) (z7_.f (k + 1) a0 a1) := by
 intro a0 a1 k
 have ih0 := z7_.mono_l k
 unfold z7_.f
 repeat' with_reducible first | exact ih0 _ _ _ _ | exact LeO.refl _ | exact LeO.none _ | refine LeO.ite ?_ ?_ | refine LeO.bind ?_ (fun _ => ?_)
theorem z7_.calls (k : Nat) (a0 : ByteArray) (a1 : Int) (r : Bool) (w : World) (h : z7_.f k a0 a1 = some r) :
 Calls Try.prog 142 #[.string a0, .int .i64 a1] w fun e w' => e = .returned (.bool r) ∧ xp_ w w' := by
 have H : (z7_.l0 k a0 a1 (a0.size : Int) 0) = some r := h
 clear h
 have H' := AM H
 clear H
 go_enter Try.func142, Try.ntmps142
 go_wp2
 go_loopg [9] k (fun kq v9 w' => ∃ (x9_1 : Int), v9 = .int .i64 x9_1 ∧ zd_ (z7_.l0 kq a0 a1 (a0.size : Int) x9_1 = some r) ∧ zd_ (kq ≤ k) ∧ xp_ w w')
 case atStart => exact ⟨(0), re_, H', ⟨Nat.le_refl _⟩, dr_⟩
 case round =>
  clear H'
  obtain ⟨x9_1, rfl, HA, HK1, ⟨m1, rfl⟩⟩ := hrel
  cases gk with
  | zero => exact absurd HA.out (by simp [z7_.l0])
  | succ k1 =>
   have H := HA.out
   clear HA
   simp only [z7_.l0] at H
   by_cases c3 : x9_1 < (a0.size : Int)
   ·
    rw [if_pos c3] at H
    have c3b0 : decide (x9_1 < (a0.size : Int)) = true := decide_eq_true c3
    clear c3
    by_cases c4 : 0 ≤ x9_1
    ·
     rw [if_pos c4] at H
     have c4b0 : decide (0 ≤ x9_1) = true := decide_eq_true c4
     clear c4
     by_cases c5 : x9_1 < (a0.size : Int)
     ·
      rw [if_pos c5] at H
      have c5b0 : decide (x9_1 < (a0.size : Int)) = true := decide_eq_true c5
      clear c5
      by_cases c7 : (bt a0 x9_1) ≥ 97
      ·
       rw [if_pos c7] at H
       have c7b0 : decide (97 ≤ (bt a0 x9_1)) = true := decide_eq_true c7
       clear c7
       by_cases c8 : ((bt a0 x9_1) ≤ 122)
       ·
        rw [if_pos c8] at H
        have c8b0 : decide ((bt a0 x9_1) ≤ 122) = true := decide_eq_true c8
        clear c8
        have H' := AM H
        clear H
        have p6 : 0 ≤ (x9_1 : Int) := of_decide_eq_true asm_
        have q6 : x9_1 < (a0.size : Int) := of_decide_eq_true asm_
        have hx6 := bt_at a0 x9_1
        replace p6 := eq_true p6
        replace q6 := eq_true q6
        go_wp2
        go_roundg k1
        case measure => have := HK1.out; omega
        case rel => exact ⟨(wrap64 (x9_1 + 1)), re_, H', ⟨by have := HK1.out; omega⟩, dr_⟩
       ·
        rw [if_neg c8] at H
        have c8b0 : decide ((bt a0 x9_1) ≤ 122) = false := decide_eq_false c8
        clear c8
        by_cases c9 : x9_1 = 0
        ·
         rw [if_pos c9] at H
         have c9b0 : (x9_1 == 0) = true := beq_iff_eq.mpr c9
         have c9b1 : (x9_1 != 0) = false := bne_eq_false_iff_eq.mpr c9
         clear c9
         obtain rfl := Option.some.inj H
         have p6 : 0 ≤ (x9_1 : Int) := of_decide_eq_true asm_
         have q6 : x9_1 < (a0.size : Int) := of_decide_eq_true asm_
         have hx6 := bt_at a0 x9_1
         replace p6 := eq_true p6
         replace q6 := eq_true q6
         go_wp2
         go_ret
         exact ⟨re_, dr_⟩
        ·
         rw [if_neg c9] at H
         have c9b0 : (x9_1 == 0) = false := beq_eq_false_iff_ne.mpr c9
         have c9b1 : (x9_1 != 0) = true := bne_iff_ne.mpr c9
         by_cases c10 : (bt a0 x9_1) ≥ 48
         ·
          rw [if_pos c10] at H
          have c10b0 : decide (48 ≤ (bt a0 x9_1)) = true := decide_eq_true c10
          clear c10
          by_cases c11 : ((bt a0 x9_1) ≤ 57)
          ·
           rw [if_pos c11] at H
           have c11b0 : decide ((bt a0 x9_1) ≤ 57) = true := decide_eq_true c11
           clear c11
           have H' := AM H
           clear H
           have p6 : 0 ≤ (x9_1 : Int) := of_decide_eq_true asm_
           have q6 : x9_1 < (a0.size : Int) := of_decide_eq_true asm_
           have hx6 := bt_at a0 x9_1
           replace p6 := eq_true p6
           replace q6 := eq_true q6
           go_wp2
           go_roundg k1
           case measure => have := HK1.out; omega
           case rel => exact ⟨(wrap64 (x9_1 + 1)), re_, H', ⟨by have := HK1.out; omega⟩, dr_⟩
          ·
           rw [if_neg c11] at H
           have c11b0 : decide ((bt a0 x9_1) ≤ 57) = false := decide_eq_false c11
           clear c11
           by_cases c12 : (bt a0 x9_1) = 45
           ·
            rw [if_pos c12] at H
            have c12b0 : ((bt a0 x9_1) == 45) = true := beq_iff_eq.mpr c12
            have c12b1 : ((bt a0 x9_1) != 45) = false := bne_eq_false_iff_eq.mpr c12
            clear c12
            have H' := AM H
            clear H
            have p6 : 0 ≤ (x9_1 : Int) := of_decide_eq_true asm_
            have q6 : x9_1 < (a0.size : Int) := of_decide_eq_true asm_
            have hx6 := bt_at a0 x9_1
            replace p6 := eq_true p6
            replace q6 := eq_true q6
            go_wp2
            go_roundg k1
            case measure => have := HK1.out; omega
            case rel => exact ⟨(wrap64 (x9_1 + 1)), re_, H', ⟨by have := HK1.out; omega⟩, dr_⟩
           ·
            rw [if_neg c12] at H
            have c12b0 : ((bt a0 x9_1) == 45) = false := beq_eq_false_iff_ne.mpr c12
            have c12b1 : ((bt a0 x9_1) != 45) = true := bne_iff_ne.mpr c12
            obtain rfl := Option.some.inj H
            have p6 : 0 ≤ (x9_1 : Int) := of_decide_eq_true asm_
            have q6 : x9_1 < (a0.size : Int) := of_decide_eq_true asm_
            have hx6 := bt_at a0 x9_1
            replace p6 := eq_true p6
            replace q6 := eq_true q6
            go_wp2
            go_ret
            exact ⟨re_, dr_⟩
         ·
          rw [if_neg c10] at H
          have c10b0 : decide (48 ≤ (bt a0 x9_1)) = false := decide_eq_false c10
          clear c10
          by_cases c13 : (bt a0 x9_1) = 45
          ·
           rw [if_pos c13] at H
           have c13b0 : ((bt a0 x9_1) == 45) = true := beq_iff_eq.mpr c13
           have c13b1 : ((bt a0 x9_1) != 45) = false := bne_eq_false_iff_eq.mpr c13
           clear c13
           have H' := AM H
           clear H
           have p6 : 0 ≤ (x9_1 : Int) := of_decide_eq_true asm_
           have q6 : x9_1 < (a0.size : Int) := of_decide_eq_true asm_
           have hx6 := bt_at a0 x9_1
           replace p6 := eq_true p6
           replace q6 := eq_true q6
           go_wp2
           go_roundg k1
           case measure => have := HK1.out; omega
           case rel => exact ⟨(wrap64 (x9_1 + 1)), re_, H', ⟨by have := HK1.out; omega⟩, dr_⟩
          ·
           rw [if_neg c13] at H
           have c13b0 : ((bt a0 x9_1) == 45) = false := beq_eq_false_iff_ne.mpr c13
           have c13b1 : ((bt a0 x9_1) != 45) = true := bne_iff_ne.mpr c13
           obtain rfl := Option.some.inj H
           have p6 : 0 ≤ (x9_1 : Int) := of_decide_eq_true asm_
           have q6 : x9_1 < (a0.size : Int) := of_decide_eq_true asm_
           have hx6 := bt_at a0 x9_1
           replace p6 := eq_true p6
           replace q6 := eq_true q6
           go_wp2
           go_ret
           exact ⟨re_, dr_⟩
      ·
       rw [if_neg c7] at H
       have c7b0 : decide (97 ≤ (bt a0 x9_1)) = false := decide_eq_false c7
       clear c7
       by_cases c14 : x9_1 = 0
       ·
        rw [if_pos c14] at H
        have c14b0 : (x9_1 == 0) = true := beq_iff_eq.mpr c14
        have c14b1 : (x9_1 != 0) = false := bne_eq_false_iff_eq.mpr c14
        clear c14
        obtain rfl := Option.some.inj H
        have p6 : 0 ≤ (x9_1 : Int) := of_decide_eq_true asm_
        have q6 : x9_1 < (a0.size : Int) := of_decide_eq_true asm_
        have hx6 := bt_at a0 x9_1
        replace p6 := eq_true p6
        replace q6 := eq_true q6
        go_wp2
        go_ret
        exact ⟨re_, dr_⟩
       ·
        rw [if_neg c14] at H
        have c14b0 : (x9_1 == 0) = false := beq_eq_false_iff_ne.mpr c14
        have c14b1 : (x9_1 != 0) = true := bne_iff_ne.mpr c14
        by_cases c15 : (bt a0 x9_1) ≥ 48
        ·
         rw [if_pos c15] at H
         have c15b0 : decide (48 ≤ (bt a0 x9_1)) = true := decide_eq_true c15
         clear c15
         by_cases c16 : ((bt a0 x9_1) ≤ 57)
         ·
          rw [if_pos c16] at H
          have c16b0 : decide ((bt a0 x9_1) ≤ 57) = true := decide_eq_true c16
          clear c16
          have H' := AM H
          clear H
          have p6 : 0 ≤ (x9_1 : Int) := of_decide_eq_true asm_
          have q6 : x9_1 < (a0.size : Int) := of_decide_eq_true asm_
          have hx6 := bt_at a0 x9_1
          replace p6 := eq_true p6
          replace q6 := eq_true q6
          go_wp2
          go_roundg k1
          case measure => have := HK1.out; omega
          case rel => exact ⟨(wrap64 (x9_1 + 1)), re_, H', ⟨by have := HK1.out; omega⟩, dr_⟩
         ·
          rw [if_neg c16] at H
          have c16b0 : decide ((bt a0 x9_1) ≤ 57) = false := decide_eq_false c16
          clear c16
          by_cases c17 : (bt a0 x9_1) = 45
          ·
           rw [if_pos c17] at H
           have c17b0 : ((bt a0 x9_1) == 45) = true := beq_iff_eq.mpr c17
           have c17b1 : ((bt a0 x9_1) != 45) = false := bne_eq_false_iff_eq.mpr c17
           clear c17
           have H' := AM H
           clear H
           have p6 : 0 ≤ (x9_1 : Int) := of_decide_eq_true asm_
           have q6 : x9_1 < (a0.size : Int) := of_decide_eq_true asm_
           have hx6 := bt_at a0 x9_1
           replace p6 := eq_true p6
           replace q6 := eq_true q6
           go_wp2
           go_roundg k1
           case measure => have := HK1.out; omega
           case rel => exact ⟨(wrap64 (x9_1 + 1)), re_, H', ⟨by have := HK1.out; omega⟩, dr_⟩
          ·
           rw [if_neg c17] at H
           have c17b0 : ((bt a0 x9_1) == 45) = false := beq_eq_false_iff_ne.mpr c17
           have c17b1 : ((bt a0 x9_1) != 45) = true := bne_iff_ne.mpr c17
           obtain rfl := Option.some.inj H
           have p6 : 0 ≤ (x9_1 : Int) := of_decide_eq_true asm_
           have q6 : x9_1 < (a0.size : Int) := of_decide_eq_true asm_
           have hx6 := bt_at a0 x9_1
           replace p6 := eq_true p6
           replace q6 := eq_true q6
           go_wp2
           go_ret
           exact ⟨re_, dr_⟩
        ·
         rw [if_neg c15] at H
         have c15b0 : decide (48 ≤ (bt a0 x9_1)) = false := decide_eq_false c15
         clear c15
         by_cases c18 : (bt a0 x9_1) = 45
         ·
          rw [if_pos c18] at H
          have c18b0 : ((bt a0 x9_1) == 45) = true := beq_iff_eq.mpr c18
          have c18b1 : ((bt a0 x9_1) != 45) = false := bne_eq_false_iff_eq.mpr c18
          clear c18
          have H' := AM H
          clear H
          have p6 : 0 ≤ (x9_1 : Int) := of_decide_eq_true asm_
          have q6 : x9_1 < (a0.size : Int) := of_decide_eq_true asm_
          have hx6 := bt_at a0 x9_1
          replace p6 := eq_true p6
          replace q6 := eq_true q6
          go_wp2
          go_roundg k1
          case measure => have := HK1.out; omega
          case rel => exact ⟨(wrap64 (x9_1 + 1)), re_, H', ⟨by have := HK1.out; omega⟩, dr_⟩
         ·
          rw [if_neg c18] at H
          have c18b0 : ((bt a0 x9_1) == 45) = false := beq_eq_false_iff_ne.mpr c18
          have c18b1 : ((bt a0 x9_1) != 45) = true := bne_iff_ne.mpr c18
          obtain rfl := Option.some.inj H
          have p6 : 0 ≤ (x9_1 : Int) := of_decide_eq_true asm_
          have q6 : x9_1 < (a0.size : Int) := of_decide_eq_true asm_
          have hx6 := bt_at a0 x9_1
          replace p6 := eq_true p6
          replace q6 := eq_true q6
          go_wp2
          go_ret
          exact ⟨re_, dr_⟩
     ·
      rw [if_neg c5] at H
      exact absurd H (by simp)
    ·
     rw [if_neg c4] at H
     exact absurd H (by simp)
   ·
    rw [if_neg c3] at H
    have c3b0 : decide (x9_1 < (a0.size : Int)) = false := decide_eq_false c3
    clear c3
    obtain ⟨t260, A19, H⟩ := OB H
    try dsimp only at H
    replace A19 := AM A19
    obtain ⟨t261, A20, H⟩ := OB H
    try dsimp only at H
    replace A20 := AM A20
    obtain rfl := Option.some.inj H
    go_wp2_with (first | ((with_reducible refine zl_ (f := 128) rfl ?_); refine gl_ (some 41) Try.func128 #[.string a0] ?_; (with_reducible refine (yj_.calls a0 t260 _ A19.out).mono ?_); rintro e w' ⟨rfl, ⟨nd, rfl⟩⟩; refine ⟨_, rfl, ?_⟩) | ((with_reducible refine zl_ (f := 61) rfl ?_); refine gl_ (some 43) Try.func61 #[.int .i64 t260, .int .i64 1, .int .i64 a1] ?_; (with_reducible refine (yg_.calls t260 1 a1 t261 _ A20.out).mono ?_); rintro e w' ⟨rfl, ⟨nd, rfl⟩⟩; refine ⟨_, rfl, ?_⟩))
    go_ret
    exact ⟨re_, dr_⟩
/-! ### yC_: function 58 -/
def yC_.f (k : Nat) (a0 : ByteArray) : Option (Bool) := (z7_.f k a0 80).bind fun t262 => (some t262)
theorem yC_.mono : ∀ a0 k, LeO (yC_.f k a0) (yC_.f (k + 1) a0) := by
 intro a0 k
 unfold yC_.f
 repeat' with_reducible first | exact z7_.mono _ _ _ | exact LeO.refl _ | exact LeO.none _ | refine LeO.ite ?_ ?_ | refine LeO.bind ?_ (fun _ => ?_)
theorem yC_.calls (k : Nat) (a0 : ByteArray) (r : Bool) (w : World) (h : yC_.f k a0 = some r) :
 Calls Try.prog 58 #[.string a0] w fun e w' => e = .returned (.bool r) ∧ xp_ w w' := by
 have H : ((z7_.f k a0 80).bind fun t262 => (some t262)) = some r := h
 clear h
 obtain ⟨t262, A2, H⟩ := OB H
 try dsimp only at H
 replace A2 := AM A2
 obtain rfl := Option.some.inj H
 go_enter Try.func58, Try.ntmps58
 go_wp2_with (first | ((with_reducible refine zl_ (f := 142) rfl ?_); refine gl_ (some 4) Try.func142 #[.string a0, .int .i64 80] ?_; (with_reducible refine (z7_.calls k a0 80 t262 _ A2.out).mono ?_); rintro e w' ⟨rfl, ⟨nd, rfl⟩⟩; refine ⟨_, rfl, ?_⟩))
 go_ret
 exact ⟨re_, dr_⟩
-- NOT PRINTED: function 143 (slices_IndexFunc_string_string)
-- NOT PRINTED: function 59 (slices_ContainsFunc_string_string)
/-! ### zi_: function 11 -/
def zi_.k0 : Nat → List ByteArray → Int → Option (Int)
 | 0, _, _ => none
 | k + 1, l, x => if x < (l.length : Int) then (if 0 ≤ x then (if ((rdOf ByteArray.empty l x).size : Int) = 32 then (zi_.k0 k l (wrap64 (x + 1))) else (some x)) else (none)) else (some (-1))
def zi_.keys (k : Nat) (l : List ByteArray) : Option (Bool) := (zi_.k0 k l 0).bind fun i => some (decide (0 ≤ i))
def zi_.rest (x : S97) : Bool := !((x.f1 && (!decide (x.f2 = 0) || !decide ((x.f3.length : Int) = 1))) || !(decide (0 ≤ x.f2) && decide (x.f2 ≤ 1500)) || decide (100 < (x.f3.length : Int)))
def zi_.l0 : Nat → List (S97) → Int → Option (Bool)
 | 0, _, _ => none
 | k + 1, l, x => if x < (l.length : Int) then (if 0 ≤ x then ((yC_.f k (zH_ l x).f0).bind fun b => ((zi_.keys k (zH_ l x).f3).bind fun c => (if (b && ((!decide (0 < x) || Op.bytesLess (zH_ l (wrap64 (x - 1))).f0.toList (zH_ l x).f0.toList) && (!c && zi_.rest (zH_ l x)))) = true then (zi_.l0 k l (wrap64 (x + 1))) else (some false)))) else (none)) else (some true)
def zi_.f (k : Nat) (l0 : List (S97)) : Option (Bool) := if (l0.length : Int) > 20 then (some false) else (zi_.l0 k l0 0)
theorem zi_.mono_k : ∀ k, (∀ y0 y1, LeO (zi_.k0 k y0 y1) (zi_.k0 (k + 1) y0 y1))
 | 0 => fun _ _ r h => by simp [zi_.k0] at h
 | k + 1 => by
  have ih0 := zi_.mono_k k
  ·
   intro y0 y1
   unfold zi_.k0
   repeat' with_reducible first | exact ih0 _ _ | exact LeO.refl _ | refine LeO.ite ?_ ?_
theorem zi_.mono_l : ∀ k, (∀ y0 y1, LeO (zi_.l0 k y0 y1) (zi_.l0 (k + 1) y0 y1))
 | 0 => fun _ _ r h => by simp [zi_.l0] at h
 | k + 1 => by
  have ih0 := zi_.mono_l k
  ·
   intro y0 y1
   unfold zi_.l0 zi_.keys
   repeat' with_reducible first | exact ih0 _ _ | exact zi_.mono_k _ _ _ | exact yC_.mono _ _ | exact LeO.refl _ | refine LeO.ite ?_ ?_ | refine LeO.bind ?_ (fun _ => ?_)
theorem zi_.mono : ∀ a0 k, LeO (zi_.f k a0) (zi_.f (k + 1) a0) := by
 intro a0 k
 unfold zi_.f
 exact LeO.ite (LeO.refl _) (zi_.mono_l k _ _)
set_option maxHeartbeats 4000000 in
theorem zi_.pred (s : ByteArray) (v : Bool) (hv : ((s.size : Int) = 32) = (v = false)) (w : World) :
 Calls Try.prog 60 #[.string s] w fun e w' => e = .returned (.bool v) ∧ w' = w := by
 have hv1 : ((s.size : Int) == 32) = !v := by rw [Bool.eq_iff_iff]; simp only [beq_iff_eq, hv]; cases v <;> simp
 have hv2 : ((s.size : Int) != 32) = v := by simp only [bne, hv1, Bool.not_not]
 have hv3 : (s.size == 32) = !v := by rw [← hv1, Bool.eq_iff_iff]; simp only [beq_iff_eq]; omega
 have hv4 : (s.size != 32) = v := by simp only [bne, hv3, Bool.not_not]
 clear hv
 go_enter Try.func60, Try.ntmps60
 go_wp2
 go_ret
 exact ⟨rfl, rfl⟩
set_option maxHeartbeats 4000000 in
theorem zi_.idx (k : Nat) (A0 : Option Addr) (c0 : Nat) (l0 : List ByteArray) (r : Int) (w : World) (hr0 : Kd.C Kd.string w A0 l0.length l0) (hc0 : l0.length ≤ c0) (h : zi_.k0 k l0 0 = some r) :
 Calls Try.prog 143 #[.slice A0 l0.length c0, .func (.func 60) #[] #[]] w fun e w' => e = .returned (.int .i64 r) ∧ Below w.heap.size w w' := by
 have HR0 := AM hr0
 have HC0 := AM hc0
 clear hr0 hc0
 have HB := AM (Below.refl w.heap.size w)
 have H' := AM h
 clear h
 go_enter Try.func143, Try.ntmps143
 go_wp2
 go_loopg [8] k (fun kq v8 w' => ∃ (x : Int), v8 = .int .i64 x ∧ zd_ (zi_.k0 kq l0 x = some r) ∧ zd_ (kq ≤ k) ∧ zd_ (Below w.heap.size w w'))
 case atStart => exact ⟨0, rfl, H', ⟨Nat.le_refl _⟩, HB⟩
 case round =>
  clear H'
  obtain ⟨x, rfl, HA, HK1, HB⟩ := hrel
  cases gk with
  | zero => exact absurd HA.out (by simp [zi_.k0])
  | succ k1 =>
   have H := HA.out
   clear HA
   simp only [zi_.k0] at H
   by_cases c3 : x < (l0.length : Int)
   ·
    rw [if_pos c3] at H
    by_cases c4 : 0 ≤ x
    ·
     rw [if_pos c4] at H
     have H' := AM H
     clear H
     obtain ⟨ad, rfl, hx0⟩ := Kd.y4_ HR0.out x c4 c3
     replace hx0 := Reg.cellG HB.out (Reg.zp_ _) hx0
     have c3b0 : decide (x < (l0.length : Int)) = true := decide_eq_true c3
     have c3b1 := eq_true c3
     have c4b0 := eq_true c4
     clear c3 c4
     by_cases c5 : ((rdOf ByteArray.empty l0 x).size : Int) = 32
     ·
      have H := H'.out
      rw [if_pos c5] at H
      have C5 := AM (show (((rdOf ByteArray.empty l0 x).size : Int) = 32) = (false = false) by simp [c5])
      have H1 := AM H
      clear H H' c5
      go_wp2_with (go_at_call 60; refine (zi_.pred _ _ C5.out _).mono ?_; rintro e w2 ⟨rfl, rfl⟩)
      go_roundg k1
      case measure => have := HK1.out; omega
      case rel => exact ⟨(wrap64 (x + 1)), re_, H1, ⟨by have := HK1.out; omega⟩, HB⟩
     ·
      have H := H'.out
      rw [if_neg c5] at H
      obtain rfl := Option.some.inj H
      have C5 := AM (show (((rdOf ByteArray.empty l0 x).size : Int) = 32) = (true = false) by simp [c5])
      clear H H' c5
      go_wp2_with (go_at_call 60; refine (zi_.pred _ _ C5.out _).mono ?_; rintro e w2 ⟨rfl, rfl⟩)
      go_ret
      exact ⟨rfl, HB.out⟩
    ·
     rw [if_neg c4] at H
     exact absurd H (by simp)
   ·
    rw [if_neg c3] at H
    have c3b0 : decide (x < (l0.length : Int)) = false := decide_eq_false c3
    clear c3
    obtain rfl := Option.some.inj H
    go_wp2
    go_ret
    exact ⟨rfl, HB.out⟩
set_option maxHeartbeats 4000000 in
theorem zi_.has (k : Nat) (A0 : Option Addr) (c0 : Nat) (l0 : List ByteArray) (r : Bool) (w : World) (hr0 : Kd.C Kd.string w A0 l0.length l0) (hc0 : l0.length ≤ c0) (h : zi_.keys k l0 = some r) :
 Calls Try.prog 59 #[.slice A0 l0.length c0, .func (.func 60) #[] #[]] w fun e w' => e = .returned (.bool r) ∧ Below w.heap.size w w' := by
 obtain ⟨i, hi, h⟩ := Option.bind_eq_some_iff.mp h
 obtain rfl := Option.some.inj h
 have HI := AM hi
 have HR := AM hr0
 have HC := AM hc0
 clear h hi hr0 hc0
 go_enter Try.func59, Try.ntmps59
 go_wp2_with (go_at_call 143; refine (zi_.idx k A0 c0 l0 i _ HR.out HC.out HI.out).mono ?_; rintro e w2 ⟨rfl, hb⟩; have HB := AM hb; clear hb)
 go_ret
 exact ⟨rfl, HB.out⟩
theorem zi_.bools1 : ∀ b e21 e31 c R : Bool, ((!b || (e21 && !e31)) || c) = true → (b && ((!e21 || e31) && (!c && R))) = false := by decide
theorem zi_.bools2 : ∀ b e21 e31 c R : Bool, ((!b || (e21 && !e31)) || c) = false → (b && ((!e21 || e31) && (!c && R))) = R := by decide
theorem zi_.step (k : Nat) (l : List (S97)) (x : Int) (r : Bool) (h : zi_.l0 (k + 1) l x = some r) (c3 : x < (l.length : Int)) (c4 : 0 ≤ x) :
 ∃ b c, yC_.f k (zH_ l x).f0 = some b ∧ zi_.keys k (zH_ l x).f3 = some c ∧
  (((b && ((!decide (0 < x) || Op.bytesLess (zH_ l (wrap64 (x - 1))).f0.toList (zH_ l x).f0.toList) && (!c && zi_.rest (zH_ l x)))) = true ∧ zi_.l0 k l (wrap64 (x + 1)) = some r) ∨ ((b && ((!decide (0 < x) || Op.bytesLess (zH_ l (wrap64 (x - 1))).f0.toList (zH_ l x).f0.toList) && (!c && zi_.rest (zH_ l x)))) = false ∧ r = false)) := by
 simp only [zi_.l0] at h
 rw [if_pos c3, if_pos c4] at h
 obtain ⟨b, hb, h⟩ := Option.bind_eq_some_iff.mp h
 obtain ⟨c, hc, h⟩ := Option.bind_eq_some_iff.mp h
 refine ⟨b, c, hb, hc, ?_⟩
 split at h
 ·
  rename_i q
  exact .inl ⟨q, h⟩
 ·
  rename_i q
  rw [Bool.not_eq_true] at q
  exact .inr ⟨q, (Option.some.inj h).symm⟩
set_option maxHeartbeats 4000000 in
theorem zi_.calls (k : Nat) (A0 : Option Addr) (c0 : Nat) (l0 : List (S97)) (r : Bool) (w : World) (hr0 : Kd.C k97 w A0 l0.length l0) (hc0 : l0.length ≤ c0) (h : zi_.f k l0 = some r) :
 Calls Try.prog 11 #[.slice A0 l0.length c0] w fun e w' => e = .returned (.bool r) ∧ Below w.heap.size w w' := by
 have hu := Try.underlying97
 have HR0 := AM hr0
 have HC0 := AM hc0
 clear hr0 hc0
 have HB := AM (Below.refl w.heap.size w)
 have H : (if (l0.length : Int) > 20 then (some false) else (zi_.l0 k l0 0)) = some r := h
 clear h
 by_cases c2 : (l0.length : Int) > 20
 ·
  rw [if_pos c2] at H
  have c2b0 : decide (20 < (l0.length : Int)) = true := decide_eq_true c2
  have c2b1 : decide (20 < l0.length) = true := decide_eq_true (by omega)
  clear c2
  obtain rfl := Option.some.inj H
  go_enter Try.func11, Try.ntmps11
  go_wp2
  go_ret
  exact ⟨rfl, HB.out⟩
 ·
  rw [if_neg c2] at H
  have c2b0 : decide (20 < (l0.length : Int)) = false := decide_eq_false c2
  have c2b1 : decide (20 < l0.length) = false := decide_eq_false (by omega)
  have HL := AM c2
  clear c2
  have H' := AM H
  clear H
  go_enter Try.func11, Try.ntmps11
  go_wp2
  go_loopg [10] k (fun kq v10 w' => ∃ (x : Int), v10 = .int .i64 x ∧ zd_ (zi_.l0 kq l0 x = some r) ∧ zd_ (kq ≤ k) ∧ zd_ (Below w.heap.size w w'))
  case atStart => exact ⟨(0), rfl, H', ⟨Nat.le_refl _⟩, HB⟩
  case round =>
   clear H' c2b0 c2b1
   obtain ⟨x, rfl, HA, HK1, HB⟩ := hrel
   cases gk with
   | zero => exact absurd HA.out (by simp [zi_.l0])
   | succ k1 =>
    by_cases c3 : x < (l0.length : Int)
    ·
     by_cases c4 : 0 ≤ x
     ·
      obtain ⟨b, c, hb, hc, hfin⟩ := zi_.step k1 l0 x r HA.out c3 c4
      obtain ⟨y, hy⟩ : ∃ y, wrap64 (x - 1) = y := ⟨_, rfl⟩
      obtain ⟨ad, A3, c33, rfl, hx0, hx1, hx2, hx3, hl3, hk3⟩ := at_T97 HR0.out x c4 c3
      have hyw : IntKind.i64.wrap (x - 1) = y := (i64_w _).trans hy
      obtain ⟨e21, he21⟩ : ∃ e_ : Bool, (0 < x) = (e_ = true) := ⟨decide (0 < x), by simp⟩
      have HYy : e21 = true → (0 ≤ y) = True ∧ (y < (l0.length : Int)) = True ∧ w.cell? (ad.add (y.toNat * 4)) = some (.string (zH_ l0 y).f0) := by
       intro q2
       have hx : 0 < x := by rw [he21]; exact q2
       have h20 := HL.out
       have hye : y = x - 1 := by rw [← hy]; unfold wrap64; omega
       obtain ⟨ad', _, _, e, h1, _⟩ := at_T97 HR0.out y (by omega) (by omega)
       cases e
       exact ⟨eq_true (by omega), eq_true (by omega), h1⟩
      rw [hy] at hfin
      have HY := AM HYy
      have Hb := AM hb
      have Hc := AM hc
      have HL3 := AM hl3
      have HK3 := AM hk3
      have c3b0 : decide (x < (l0.length : Int)) = true := decide_eq_true c3
      have c4b0 := eq_true c4
      have c3b1 := eq_true c3
      obtain ⟨d, hd1⟩ : ∃ d, (zH_ l0 x).f1 = d := ⟨_, rfl⟩
      obtain ⟨nk, hnk⟩ : ∃ nk, (zH_ l0 x).f3.length = nk := ⟨_, rfl⟩
      obtain ⟨wa, hwa⟩ : ∃ wa, yg_.f (zH_ l0 x).f2 0 1500 = some wa := by unfold yg_.f; split <;> exact ⟨_, rfl⟩
      have hwad : wa = (decide (0 ≤ (zH_ l0 x).f2) && decide ((zH_ l0 x).f2 ≤ 1500)) := by
       unfold yg_.f at hwa
       by_cases q : (zH_ l0 x).f2 ≥ 0
       ·
        rw [if_pos q] at hwa
        rw [← Option.some.inj hwa, decide_eq_true (show 0 ≤ (zH_ l0 x).f2 from q), Bool.true_and]
       ·
        rw [if_neg q] at hwa
        rw [← Option.some.inj hwa, decide_eq_false (show ¬ 0 ≤ (zH_ l0 x).f2 from q), Bool.false_and]
      unfold zi_.rest at hfin
      rw [← hwad] at hfin
      rw [hd1] at hx1 hfin
      rw [hnk] at hx3 hl3 hk3 hfin
      rw [hnk] at HL3 HK3
      have Hfin := AM hfin
      have Hwa := AM hwa
      have HNK := AM hnk
      clear HA hy hb hc hfin HYy c3 c4 hl3 hk3 hd1 hnk hwa hwad
      have HE21 := AM he21
      clear he21
      replace hx0 := cellG HB.out (zp_ _) hx0
      replace hx1 := cellG HB.out (zp_ _) hx1
      replace hx2 := cellG HB.out (zp_ _) hx2
      replace hx3 := cellG HB.out (zp_ _) hx3
      go_wp2
      have he21 := HE21.out
      have hs0 : (wr.alloc (Obj.cells #[.string (zH_ l0 x).f0, .bool d, .int .i64 (zH_ l0 x).f2, .slice A3 nk c33] 97)).cell? ⟨wr.heap.size, 0, none⟩ = some (.string (zH_ l0 x).f0) := by simp
      have hs1 : (wr.alloc (Obj.cells #[.string (zH_ l0 x).f0, .bool d, .int .i64 (zH_ l0 x).f2, .slice A3 nk c33] 97)).cell? ⟨wr.heap.size, 1, none⟩ = some (.bool d) := by simp
      have hs2 : (wr.alloc (Obj.cells #[.string (zH_ l0 x).f0, .bool d, .int .i64 (zH_ l0 x).f2, .slice A3 nk c33] 97)).cell? ⟨wr.heap.size, 2, none⟩ = some (.int .i64 (zH_ l0 x).f2) := by simp
      have hs3 : (wr.alloc (Obj.cells #[.string (zH_ l0 x).f0, .bool d, .int .i64 (zH_ l0 x).f2, .slice A3 nk c33] 97)).cell? ⟨wr.heap.size, 3, none⟩ = some (.slice A3 nk c33) := by simp
      replace HB := AM (HB.out.alloc HB.out.size (Obj.cells #[.string (zH_ l0 x).f0, .bool d, .int .i64 (zH_ l0 x).f2, .slice A3 nk c33] 97))
      clear hx0 hx1 hx2 hx3
      generalize wr.alloc _ = w2 at HB hs0 hs1 hs2 hs3 ⊢
      generalize wr.heap.size = g at hs0 hs1 hs2 hs3 ⊢
      obtain ⟨e31, he31⟩ : ∃ e_ : Bool, Op.bytesLess ((zH_ l0 y).f0).toList ((zH_ l0 x).f0).toList = e_ := ⟨_, rfl⟩
      refine wp_reg1 [[], [0], [1], [2], [3], [4], [4, 5], [4, 6], [7], [7], [7, 9], [7, 8, 10], [7, 11], [7, 12], [7], [7, 14], [7, 13, 15], [4, 7, 16], [4, 17], [18], [19], [19, 20], [19, 21], [19, 22]]
       (isVal [.pointer (some ⟨g, 0, none⟩),
        .string ((zH_ l0 x).f0),
        .bool b,
        .bool (!b),
        .bool (!b),
        if b then .int .i64 x else undef,
        if b then .bool e21 else undef,
        if b then .bool e21 else undef,
        if b && e21 then .slice (some ad) l0.length c0 else undef,
        if b && e21 then .int .i64 x else undef,
        if b && e21 then .int .i64 y else undef,
        if b && e21 then .pointer (some (ad.add (y.toNat * 4))) else undef,
        if b && e21 then .pointer (some (ad.add (y.toNat * 4))) else undef,
        if b && e21 then .string ((zH_ l0 y).f0) else undef,
        if b && e21 then .pointer (some ⟨g, 0, none⟩) else undef,
        if b && e21 then .string ((zH_ l0 x).f0) else undef,
        if b && e21 then .bool (!e31) else undef,
        if b then .bool (e21 && !e31) else undef,
        .bool (!b || (e21 && !e31)),
        .bool (!b || (e21 && !e31)),
        if !(!b || (e21 && !e31)) then .pointer (some ⟨g, 3, none⟩) else undef,
        if !(!b || (e21 && !e31)) then .slice A3 nk c33 else undef,
        if !(!b || (e21 && !e31)) then .bool c else undef,
        .bool ((!b || (e21 && !e31)) || c)]) ?B6 ?d6 (by kernel_rfl) (by kernel_rfl) (by kernel_rfl) (by kernel_rfl) (fun us => ?hA6) (isVal_grow _) ?hS6 ?hE6
      case hA6 =>
       simp only [yG_, Act.put, List.setIfInBounds_toArray, List.set_cons_zero, List.set_cons_succ, Nat.reduceAdd, Nat.zero_add]
       rfl
      case hS6 =>
       refine ⟨?_, ?_, ?_, ?_, ?_, ?_, ?_, ?_, ?_, ?_, ?_, ?_, ?_, ?_, ?_, ?_, ?_, ?_, ?_, ?_, ?_, ?_, ?_, ?_, trivial⟩
       all_goals (intro us w' hg hd K hK; simp only [AllR, isVal, List.getD_cons_zero, List.getD_cons_succ] at hd; clear HR0 HC0 Hfin HE21 HK1 Hwa HL)
       all_goals (have g1_ := True.intro; have g2_ := True.intro; have g3_ := True.intro; try (obtain ⟨g1_, hd⟩ := hd); try (obtain ⟨g2_, hd⟩ := hd); try (obtain ⟨g3_, hd⟩ := hd))
       all_goals (replace hs0 := cellG (zp_ _) hg hs0; replace hs1 := cellG (zp_ _) hg hs1; replace hs2 := cellG (zp_ _) hg hs2; replace hs3 := cellG (zp_ _) hg hs3)
       ·
        all_goals (repeat' (first
         | (refine ya_ hK ?_ ?_ (zp_ _) rfl
            · first | rfl | (simp [zx_, asB, undef, g1_, g2_, g3_]; done)
            ·
             skip
             (try (obtain ⟨y1, y2, y3⟩ := HY.out rfl; replace y3 := cellG HB.out hg y3))
             go_simp
             done)
         | cases b | cases e21 | cases c | cases e31))
       ·
        all_goals (repeat' (first
         | (refine ya_ hK ?_ ?_ (zp_ _) rfl
            · first | rfl | (simp [zx_, asB, undef, g1_, g2_, g3_]; done)
            ·
             skip
             (try (obtain ⟨y1, y2, y3⟩ := HY.out rfl; replace y3 := cellG HB.out hg y3))
             go_simp
             done)
         | cases b | cases e21 | cases c | cases e31))
       ·
        all_goals (repeat' (first
         | (refine xk_ hK ?_ rfl Try.func58 (by kernel_rfl) rfl #[.string (zH_ l0 x).f0] ?_ ((yC_.calls k1 _ _ _ Hb.out).mono ?_)
            · first | rfl | (simp [zx_, asB, undef, g1_, g2_, g3_]; done)
            · simp [Act.eval, g1_, g2_, g3_]
            ·
             rintro e_ w'' ⟨rfl, hb_⟩
             exact ⟨_, rfl, (by first | exact hb_ | exact hb_.below), rfl⟩)
         | cases b | cases e21 | cases c | cases e31))
       ·
        all_goals (repeat' (first
         | (refine ya_ hK ?_ ?_ (zp_ _) rfl
            · first | rfl | (simp [zx_, asB, undef, g1_, g2_, g3_]; done)
            ·
             skip
             (try (obtain ⟨y1, y2, y3⟩ := HY.out rfl; replace y3 := cellG HB.out hg y3))
             go_simp
             done)
         | cases b | cases e21 | cases c | cases e31))
       ·
        all_goals (repeat' (first
         | (refine ya_ hK ?_ ?_ (zp_ _) rfl
            · first | rfl | (simp [zx_, asB, undef, g1_, g2_, g3_]; done)
            ·
             skip
             (try (obtain ⟨y1, y2, y3⟩ := HY.out rfl; replace y3 := cellG HB.out hg y3))
             go_simp
             done)
         | cases b | cases e21 | cases c | cases e31))
       ·
        rcases Bool.eq_false_or_eq_true (b : Bool) with hG_ | hG_
        rotate_left
        · exact z2_ hK (by rw [(xJ_ rfl g1_).trans (show _ = (b : Bool) by first | rfl | (simp; done)), hG_]; decide) (by show undef = ite _ _ _; rw [hG_]; rfl)
        all_goals (cases b <;> first | (exfalso; simp at hG_; done) | skip)
        all_goals (repeat' (first
         | (refine z2_ hK ?_ rfl; (simp [zx_, asB, undef, g1_, g2_, g3_]; done))
         | (refine ya_ hK ?_ ?_ (zp_ _) rfl
            · first | rfl | (simp [zx_, asB, undef, g1_, g2_, g3_]; done)
            ·
             skip
             (try (obtain ⟨y1, y2, y3⟩ := HY.out rfl; replace y3 := cellG HB.out hg y3))
             go_simp
             done)
         | cases e21 | cases c | cases e31))
       ·
        rcases Bool.eq_false_or_eq_true (b : Bool) with hG_ | hG_
        rotate_left
        · exact z2_ hK (by rw [(xJ_ rfl g1_).trans (show _ = (b : Bool) by first | rfl | (simp; done)), hG_]; decide) (by show undef = ite _ _ _; rw [hG_]; rfl)
        all_goals (cases b <;> first | (exfalso; simp at hG_; done) | skip)
        all_goals (repeat' (first
         | (refine z2_ hK ?_ rfl; (simp [zx_, asB, undef, g1_, g2_, g3_]; done))
         | (refine ya_ hK ?_ ?_ (zp_ _) rfl
            · first | rfl | (simp [zx_, asB, undef, g1_, g2_, g3_]; done)
            ·
             skip
             (try (obtain ⟨y1, y2, y3⟩ := HY.out rfl; replace y3 := cellG HB.out hg y3))
             go_simp
             done)
         | cases e21 | cases c | cases e31))
       ·
        rcases Bool.eq_false_or_eq_true (b : Bool) with hG_ | hG_
        rotate_left
        · exact z2_ hK (by rw [(xJ_ rfl g1_).trans (show _ = (b : Bool) by first | rfl | (simp; done)), hG_]; decide) (by show undef = ite _ _ _; rw [hG_]; rfl)
        all_goals (cases b <;> first | (exfalso; simp at hG_; done) | skip)
        all_goals (repeat' (first
         | (refine z2_ hK ?_ rfl; (simp [zx_, asB, undef, g1_, g2_, g3_]; done))
         | (refine ya_ hK ?_ ?_ (zp_ _) rfl
            · first | rfl | (simp [zx_, asB, undef, g1_, g2_, g3_]; done)
            ·
             skip
             (try (obtain ⟨y1, y2, y3⟩ := HY.out rfl; replace y3 := cellG HB.out hg y3))
             go_simp
             done)
         | cases e21 | cases c | cases e31))
       ·
        rcases Bool.eq_false_or_eq_true ((b && e21) : Bool) with hG_ | hG_
        rotate_left
        · exact z2_ hK (by rw [(yJ_ rfl g1_).trans (show _ = ((b && e21) : Bool) by first | rfl | (simp; done)), hG_]; decide) (by show undef = ite _ _ _; rw [hG_]; rfl)
        all_goals (cases b <;> first | (exfalso; simp at hG_; done) | skip)
        all_goals (cases e21 <;> first | (exfalso; simp at hG_; done) | skip)
        all_goals (repeat' (first
         | (refine z2_ hK ?_ rfl; (simp [zx_, asB, undef, g1_, g2_, g3_]; done))
         | (refine ya_ hK ?_ ?_ (zp_ _) rfl
            · first | rfl | (simp [zx_, asB, undef, g1_, g2_, g3_]; done)
            ·
             skip
             (try (obtain ⟨y1, y2, y3⟩ := HY.out rfl; replace y3 := cellG HB.out hg y3))
             go_simp
             done)
         | cases c | cases e31))
       ·
        rcases Bool.eq_false_or_eq_true ((b && e21) : Bool) with hG_ | hG_
        rotate_left
        · exact z2_ hK (by rw [(yJ_ rfl g1_).trans (show _ = ((b && e21) : Bool) by first | rfl | (simp; done)), hG_]; decide) (by show undef = ite _ _ _; rw [hG_]; rfl)
        all_goals (cases b <;> first | (exfalso; simp at hG_; done) | skip)
        all_goals (cases e21 <;> first | (exfalso; simp at hG_; done) | skip)
        all_goals (repeat' (first
         | (refine z2_ hK ?_ rfl; (simp [zx_, asB, undef, g1_, g2_, g3_]; done))
         | (refine ya_ hK ?_ ?_ (zp_ _) rfl
            · first | rfl | (simp [zx_, asB, undef, g1_, g2_, g3_]; done)
            ·
             skip
             (try (obtain ⟨y1, y2, y3⟩ := HY.out rfl; replace y3 := cellG HB.out hg y3))
             go_simp
             done)
         | cases c | cases e31))
       ·
        rcases Bool.eq_false_or_eq_true ((b && e21) : Bool) with hG_ | hG_
        rotate_left
        · exact z2_ hK (by rw [(yJ_ rfl g1_).trans (show _ = ((b && e21) : Bool) by first | rfl | (simp; done)), hG_]; decide) (by show undef = ite _ _ _; rw [hG_]; rfl)
        all_goals (cases b <;> first | (exfalso; simp at hG_; done) | skip)
        all_goals (cases e21 <;> first | (exfalso; simp at hG_; done) | skip)
        all_goals (repeat' (first
         | (refine z2_ hK ?_ rfl; (simp [zx_, asB, undef, g1_, g2_, g3_]; done))
         | (refine ya_ hK ?_ ?_ (zp_ _) rfl
            · first | rfl | (simp [zx_, asB, undef, g1_, g2_, g3_]; done)
            ·
             skip
             (try (obtain ⟨y1, y2, y3⟩ := HY.out rfl; replace y3 := cellG HB.out hg y3))
             go_simp
             done)
         | cases c | cases e31))
       ·
        rcases Bool.eq_false_or_eq_true ((b && e21) : Bool) with hG_ | hG_
        rotate_left
        · exact z2_ hK (by rw [(yJ_ rfl g1_).trans (show _ = ((b && e21) : Bool) by first | rfl | (simp; done)), hG_]; decide) (by show undef = ite _ _ _; rw [hG_]; rfl)
        all_goals (cases b <;> first | (exfalso; simp at hG_; done) | skip)
        all_goals (cases e21 <;> first | (exfalso; simp at hG_; done) | skip)
        all_goals (repeat' (first
         | (refine z2_ hK ?_ rfl; (simp [zx_, asB, undef, g1_, g2_, g3_]; done))
         | (refine ya_ hK ?_ ?_ (zp_ _) rfl
            · first | rfl | (simp [zx_, asB, undef, g1_, g2_, g3_]; done)
            ·
             skip
             (try (obtain ⟨y1, y2, y3⟩ := HY.out rfl; replace y3 := cellG HB.out hg y3))
             go_simp
             done)
         | cases c | cases e31))
       ·
        rcases Bool.eq_false_or_eq_true ((b && e21) : Bool) with hG_ | hG_
        rotate_left
        · exact z2_ hK (by rw [(yJ_ rfl g1_).trans (show _ = ((b && e21) : Bool) by first | rfl | (simp; done)), hG_]; decide) (by show undef = ite _ _ _; rw [hG_]; rfl)
        all_goals (cases b <;> first | (exfalso; simp at hG_; done) | skip)
        all_goals (cases e21 <;> first | (exfalso; simp at hG_; done) | skip)
        all_goals (repeat' (first
         | (refine z2_ hK ?_ rfl; (simp [zx_, asB, undef, g1_, g2_, g3_]; done))
         | (refine ya_ hK ?_ ?_ (zp_ _) rfl
            · first | rfl | (simp [zx_, asB, undef, g1_, g2_, g3_]; done)
            ·
             skip
             (try (obtain ⟨y1, y2, y3⟩ := HY.out rfl; replace y3 := cellG HB.out hg y3))
             go_simp
             done)
         | cases c | cases e31))
       ·
        rcases Bool.eq_false_or_eq_true ((b && e21) : Bool) with hG_ | hG_
        rotate_left
        · exact z2_ hK (by rw [(yJ_ rfl g1_).trans (show _ = ((b && e21) : Bool) by first | rfl | (simp; done)), hG_]; decide) (by show undef = ite _ _ _; rw [hG_]; rfl)
        all_goals (cases b <;> first | (exfalso; simp at hG_; done) | skip)
        all_goals (cases e21 <;> first | (exfalso; simp at hG_; done) | skip)
        all_goals (repeat' (first
         | (refine z2_ hK ?_ rfl; (simp [zx_, asB, undef, g1_, g2_, g3_]; done))
         | (refine ya_ hK ?_ ?_ (zp_ _) rfl
            · first | rfl | (simp [zx_, asB, undef, g1_, g2_, g3_]; done)
            ·
             skip
             (try (obtain ⟨y1, y2, y3⟩ := HY.out rfl; replace y3 := cellG HB.out hg y3))
             go_simp
             done)
         | cases c | cases e31))
       ·
        rcases Bool.eq_false_or_eq_true ((b && e21) : Bool) with hG_ | hG_
        rotate_left
        · exact z2_ hK (by rw [(yJ_ rfl g1_).trans (show _ = ((b && e21) : Bool) by first | rfl | (simp; done)), hG_]; decide) (by show undef = ite _ _ _; rw [hG_]; rfl)
        all_goals (cases b <;> first | (exfalso; simp at hG_; done) | skip)
        all_goals (cases e21 <;> first | (exfalso; simp at hG_; done) | skip)
        all_goals (repeat' (first
         | (refine z2_ hK ?_ rfl; (simp [zx_, asB, undef, g1_, g2_, g3_]; done))
         | (refine ya_ hK ?_ ?_ (zp_ _) rfl
            · first | rfl | (simp [zx_, asB, undef, g1_, g2_, g3_]; done)
            ·
             skip
             (try (obtain ⟨y1, y2, y3⟩ := HY.out rfl; replace y3 := cellG HB.out hg y3))
             go_simp
             done)
         | cases c | cases e31))
       ·
        rcases Bool.eq_false_or_eq_true ((b && e21) : Bool) with hG_ | hG_
        rotate_left
        · exact z2_ hK (by rw [(yJ_ rfl g1_).trans (show _ = ((b && e21) : Bool) by first | rfl | (simp; done)), hG_]; decide) (by show undef = ite _ _ _; rw [hG_]; rfl)
        all_goals (cases b <;> first | (exfalso; simp at hG_; done) | skip)
        all_goals (cases e21 <;> first | (exfalso; simp at hG_; done) | skip)
        all_goals (repeat' (first
         | (refine z2_ hK ?_ rfl; (simp [zx_, asB, undef, g1_, g2_, g3_]; done))
         | (refine ya_ hK ?_ ?_ (zp_ _) rfl
            · first | rfl | (simp [zx_, asB, undef, g1_, g2_, g3_]; done)
            ·
             skip
             (try (obtain ⟨y1, y2, y3⟩ := HY.out rfl; replace y3 := cellG HB.out hg y3))
             go_simp
             done)
         | cases c | cases e31))
       ·
        rcases Bool.eq_false_or_eq_true ((b && e21) : Bool) with hG_ | hG_
        rotate_left
        · exact z2_ hK (by rw [(yJ_ rfl g1_).trans (show _ = ((b && e21) : Bool) by first | rfl | (simp; done)), hG_]; decide) (by show undef = ite _ _ _; rw [hG_]; rfl)
        all_goals (cases b <;> first | (exfalso; simp at hG_; done) | skip)
        all_goals (cases e21 <;> first | (exfalso; simp at hG_; done) | skip)
        all_goals (repeat' (first
         | (refine z2_ hK ?_ rfl; (simp [zx_, asB, undef, g1_, g2_, g3_]; done))
         | (refine ya_ hK ?_ ?_ (zp_ _) rfl
            · first | rfl | (simp [zx_, asB, undef, g1_, g2_, g3_]; done)
            ·
             skip
             (try (obtain ⟨y1, y2, y3⟩ := HY.out rfl; replace y3 := cellG HB.out hg y3))
             go_simp
             done)
         | cases c | cases e31))
       ·
        rcases Bool.eq_false_or_eq_true (b : Bool) with hG_ | hG_
        rotate_left
        · exact z2_ hK (by rw [(xJ_ rfl g1_).trans (show _ = (b : Bool) by first | rfl | (simp; done)), hG_]; decide) (by show undef = ite _ _ _; rw [hG_]; rfl)
        all_goals (cases b <;> first | (exfalso; simp at hG_; done) | skip)
        all_goals (repeat' (first
         | (refine z2_ hK ?_ rfl; (simp [zx_, asB, undef, g1_, g2_, g3_]; done))
         | (refine ya_ hK ?_ ?_ (zp_ _) rfl
            · first | rfl | (simp [zx_, asB, undef, g1_, g2_, g3_]; done)
            ·
             skip
             (try (obtain ⟨y1, y2, y3⟩ := HY.out rfl; replace y3 := cellG HB.out hg y3))
             go_simp
             done)
         | cases e21 | cases c | cases e31))
       ·
        refine reg_pick hK rfl rfl g1_ (or_val ?_ g2_)
        first | rfl | (simp; done)
       ·
        all_goals (repeat' (first
         | (refine ya_ hK ?_ ?_ (zp_ _) rfl
            · first | rfl | (simp [zx_, asB, undef, g1_, g2_, g3_]; done)
            ·
             skip
             (try (obtain ⟨y1, y2, y3⟩ := HY.out rfl; replace y3 := cellG HB.out hg y3))
             go_simp
             done)
         | cases b | cases e21 | cases c | cases e31))
       ·
        rcases Bool.eq_false_or_eq_true (!(!b || (e21 && !e31)) : Bool) with hG_ | hG_
        rotate_left
        · exact z2_ hK (by rw [(xJ_ rfl g1_).trans (show _ = (!(!b || (e21 && !e31)) : Bool) by first | rfl | (simp; done)), hG_]; decide) (by show undef = ite _ _ _; rw [hG_]; rfl)
        all_goals (cases b <;> first | (exfalso; simp at hG_; done) | skip)
        all_goals (cases e21 <;> first | (exfalso; simp at hG_; done) | skip)
        all_goals (cases e31 <;> first | (exfalso; simp at hG_; done) | skip)
        all_goals (repeat' (first
         | (refine z2_ hK ?_ rfl; (simp [zx_, asB, undef, g1_, g2_, g3_]; done))
         | (refine ya_ hK ?_ ?_ (zp_ _) rfl
            · first | rfl | (simp [zx_, asB, undef, g1_, g2_, g3_]; done)
            ·
             skip
             (try (obtain ⟨y1, y2, y3⟩ := HY.out rfl; replace y3 := cellG HB.out hg y3))
             go_simp
             done)
         | cases c))
       ·
        rcases Bool.eq_false_or_eq_true (!(!b || (e21 && !e31)) : Bool) with hG_ | hG_
        rotate_left
        · exact z2_ hK (by rw [(xJ_ rfl g1_).trans (show _ = (!(!b || (e21 && !e31)) : Bool) by first | rfl | (simp; done)), hG_]; decide) (by show undef = ite _ _ _; rw [hG_]; rfl)
        all_goals (cases b <;> first | (exfalso; simp at hG_; done) | skip)
        all_goals (cases e21 <;> first | (exfalso; simp at hG_; done) | skip)
        all_goals (cases e31 <;> first | (exfalso; simp at hG_; done) | skip)
        all_goals (repeat' (first
         | (refine z2_ hK ?_ rfl; (simp [zx_, asB, undef, g1_, g2_, g3_]; done))
         | (refine ya_ hK ?_ ?_ (zp_ _) rfl
            · first | rfl | (simp [zx_, asB, undef, g1_, g2_, g3_]; done)
            ·
             skip
             (try (obtain ⟨y1, y2, y3⟩ := HY.out rfl; replace y3 := cellG HB.out hg y3))
             go_simp
             done)
         | cases c))
       ·
        rcases Bool.eq_false_or_eq_true (!(!b || (e21 && !e31)) : Bool) with hG_ | hG_
        rotate_left
        · exact z2_ hK (by rw [(xJ_ rfl g1_).trans (show _ = (!(!b || (e21 && !e31)) : Bool) by first | rfl | (simp; done)), hG_]; decide) (by show undef = ite _ _ _; rw [hG_]; rfl)
        all_goals (cases b <;> first | (exfalso; simp at hG_; done) | skip)
        all_goals (cases e21 <;> first | (exfalso; simp at hG_; done) | skip)
        all_goals (cases e31 <;> first | (exfalso; simp at hG_; done) | skip)
        all_goals (repeat' (first
         | (refine z2_ hK ?_ rfl; (simp [zx_, asB, undef, g1_, g2_, g3_]; done))
         | (refine xk_ hK ?_ rfl Try.func59 (by kernel_rfl) rfl #[.slice A3 nk c33, .func (.func 60) #[] #[]] ?_ (((HNK.out ▸ zi_.has k1 A3 c33 (zH_ l0 x).f3 c _ (by rw [HNK.out]; exact Kd.xc_ HK3.out (below_grow HB.out hg)) (by rw [HNK.out]; exact HL3.out) Hc.out : Calls Try.prog 59 #[.slice A3 nk c33, .func (.func 60) #[] #[]] _ _)).mono ?_)
            · first | rfl | (simp [zx_, asB, undef, g1_, g2_, g3_]; done)
            · simp [Act.eval, g1_, g2_, g3_]
            ·
             rintro e_ w'' ⟨rfl, hb_⟩
             exact ⟨_, rfl, (by first | exact hb_ | exact hb_.below), rfl⟩)
         | cases c))
       ·
        refine reg_pick hK rfl rfl g1_ (or_val ?_ g2_)
        first | rfl | (simp; done)
      case hE6 =>
       intro us w' hg hd
       have hZ : us 23 = .bool ((!b || (e21 && !e31)) || c) := allR_get hd (by kernel_rfl)
       clear hd
       replace HB := AM (below_grow HB.out hg)
       replace hs0 := cellG (zp_ _) hg hs0
       replace hs1 := cellG (zp_ _) hg hs1
       replace hs2 := cellG (zp_ _) hg hs2
       replace hs3 := cellG (zp_ _) hg hs3
       clear hyw hg
       have H := Hfin.out
       rw [he31] at H
       rw [show decide (0 < x) = e21 by rw [Bool.eq_iff_iff, ← he21]; simp] at H
       by_cases hq : ((!b || (e21 && !e31)) || c) = true
       ·
        have hr : r = false := by
         rw [zi_.bools1 _ _ _ _ _ hq] at H
         rcases H with ⟨h, _⟩ | ⟨_, h⟩
         · cases h
         · exact h
        subst hr
        rw [hq] at hZ
        rw [hZ]
        clear hZ he21 he31 H hs0 hs1 hs2 hs3
        go_wp2
        go_ret
        exact ⟨rfl, HB.out⟩
       ·
        rw [Bool.not_eq_true] at hq
        rw [hq] at hZ
        rw [hZ]
        obtain ⟨e44, he44⟩ : ∃ e_ : Bool, decide ((zH_ l0 x).f2 = 0) = e_ := ⟨_, rfl⟩
        obtain ⟨e49, he49⟩ : ∃ e_ : Bool, decide ((nk : Int) = 1) = e_ := ⟨_, rfl⟩
        obtain ⟨e62, he62⟩ : ∃ e_ : Bool, decide (100 < (nk : Int)) = e_ := ⟨_, rfl⟩
        rw [he44, he49, he62] at H
        have HH : (((d && (!e44 || !e49)) || !wa || e62) = true ∧ r = false) ∨ (((d && (!e44 || !e49)) || !wa || e62) = false ∧ zi_.l0 k1 l0 (wrap64 (x + 1)) = some r) := by
         rw [zi_.bools2 _ _ _ _ _ hq] at H
         rcases H with ⟨h, h2⟩ | ⟨h, h2⟩
         ·
          rw [Bool.not_eq_true'] at h
          exact .inr ⟨h, h2⟩
         ·
          rw [Bool.not_eq_false'] at h
          exact .inl ⟨h, h2⟩
        have f1 : ((zH_ l0 x).f2 == 0) = e44 := by rw [← he44]; rfl
        have f2 : ((zH_ l0 x).f2 != 0) = !e44 := by rw [bne, f1]
        have f3 : ((nk : Int) == 1) = e49 := by rw [← he49]; rfl
        have f4 : ((nk : Int) != 1) = !e49 := by rw [bne, f3]
        have f5 : (nk == 1) = e49 := by rw [← f3, Bool.eq_iff_iff]; simp only [beq_iff_eq]; omega
        have f6 : (nk != 1) = !e49 := by rw [bne, f5]
        have f7 : decide (100 < nk) = e62 := by rw [← he62]; exact decide_eq_decide.2 (by omega)
        clear hZ he21 he31 H Hfin hq he44 he49 HR0 HL3 HK3 HY Hb Hc
        have HHA := AM HH
        clear HH
        cases d
        case false =>
         cases wa
         case false =>
          obtain ⟨_, rfl⟩ : _ ∧ r = false := HHA.out.resolve_right (fun q => by simp at q)
          go_wp2_with (go_at_call 61; refine (yg_.calls _ _ _ _ _ Hwa.out).mono ?_; rintro e w3 ⟨rfl, hd⟩; replace HB := AM (below_grow HB.out hd.below); replace hs0 := cellG (zp_ _) hd.below hs0; replace hs1 := cellG (zp_ _) hd.below hs1; replace hs2 := cellG (zp_ _) hd.below hs2; replace hs3 := cellG (zp_ _) hd.below hs3; clear hd)
          go_ret
          exact ⟨rfl, HB.out⟩
         case true =>
          cases e62
          case true =>
           obtain ⟨_, rfl⟩ : _ ∧ r = false := HHA.out.resolve_right (fun q => by simp at q)
           go_wp2_with (go_at_call 61; refine (yg_.calls _ _ _ _ _ Hwa.out).mono ?_; rintro e w3 ⟨rfl, hd⟩; replace HB := AM (below_grow HB.out hd.below); replace hs0 := cellG (zp_ _) hd.below hs0; replace hs1 := cellG (zp_ _) hd.below hs1; replace hs2 := cellG (zp_ _) hd.below hs2; replace hs3 := cellG (zp_ _) hd.below hs3; clear hd)
           go_ret
           exact ⟨rfl, HB.out⟩
          case false =>
           have H1 := AM (HHA.out.resolve_left (fun q => by simp at q)).2
           go_wp2_with (go_at_call 61; refine (yg_.calls _ _ _ _ _ Hwa.out).mono ?_; rintro e w3 ⟨rfl, hd⟩; replace HB := AM (below_grow HB.out hd.below); replace hs0 := cellG (zp_ _) hd.below hs0; replace hs1 := cellG (zp_ _) hd.below hs1; replace hs2 := cellG (zp_ _) hd.below hs2; replace hs3 := cellG (zp_ _) hd.below hs3; clear hd)
           go_roundg k1
           case measure => have := HK1.out; omega
           case rel => exact ⟨(wrap64 (x + 1)), re_, H1, ⟨by have := HK1.out; omega⟩, HB⟩
        case true =>
         cases e44
         case false =>
          obtain ⟨_, rfl⟩ : _ ∧ r = false := HHA.out.resolve_right (fun q => by simp at q)
          go_wp2
          go_ret
          exact ⟨rfl, HB.out⟩
         case true =>
          cases e49
          case false =>
           obtain ⟨_, rfl⟩ : _ ∧ r = false := HHA.out.resolve_right (fun q => by simp at q)
           go_wp2
           go_ret
           exact ⟨rfl, HB.out⟩
          case true =>
           cases wa
           case false =>
            obtain ⟨_, rfl⟩ : _ ∧ r = false := HHA.out.resolve_right (fun q => by simp at q)
            go_wp2_with (go_at_call 61; refine (yg_.calls _ _ _ _ _ Hwa.out).mono ?_; rintro e w3 ⟨rfl, hd⟩; replace HB := AM (below_grow HB.out hd.below); replace hs0 := cellG (zp_ _) hd.below hs0; replace hs1 := cellG (zp_ _) hd.below hs1; replace hs2 := cellG (zp_ _) hd.below hs2; replace hs3 := cellG (zp_ _) hd.below hs3; clear hd)
            go_ret
            exact ⟨rfl, HB.out⟩
           case true =>
            cases e62
            case true =>
             obtain ⟨_, rfl⟩ : _ ∧ r = false := HHA.out.resolve_right (fun q => by simp at q)
             go_wp2_with (go_at_call 61; refine (yg_.calls _ _ _ _ _ Hwa.out).mono ?_; rintro e w3 ⟨rfl, hd⟩; replace HB := AM (below_grow HB.out hd.below); replace hs0 := cellG (zp_ _) hd.below hs0; replace hs1 := cellG (zp_ _) hd.below hs1; replace hs2 := cellG (zp_ _) hd.below hs2; replace hs3 := cellG (zp_ _) hd.below hs3; clear hd)
             go_ret
             exact ⟨rfl, HB.out⟩
            case false =>
             have H1 := AM (HHA.out.resolve_left (fun q => by simp at q)).2
             go_wp2_with (go_at_call 61; refine (yg_.calls _ _ _ _ _ Hwa.out).mono ?_; rintro e w3 ⟨rfl, hd⟩; replace HB := AM (below_grow HB.out hd.below); replace hs0 := cellG (zp_ _) hd.below hs0; replace hs1 := cellG (zp_ _) hd.below hs1; replace hs2 := cellG (zp_ _) hd.below hs2; replace hs3 := cellG (zp_ _) hd.below hs3; clear hd)
             go_roundg k1
             case measure => have := HK1.out; omega
             case rel => exact ⟨(wrap64 (x + 1)), re_, H1, ⟨by have := HK1.out; omega⟩, HB⟩
     ·
      have H := HA.out
      simp only [zi_.l0] at H
      rw [if_pos c3, if_neg c4] at H
      exact absurd H (by simp)
    ·
     have H := HA.out
     simp only [zi_.l0] at H
     rw [if_neg c3] at H
     have c3b0 : decide (x < (l0.length : Int)) = false := decide_eq_false c3
     clear c3 HA
     obtain rfl := Option.some.inj H
     go_wp2
     go_ret
     exact ⟨rfl, HB.out⟩
/-! ### y8_: function 54 -/
def y8_.f (l0 : List (S97)) : Option (Bool) := some (decide ((l0.length : Int) > 400))
theorem y8_.calls (A0 : Option Addr) (c0 : Nat) (l0 : List (S97)) (r : Bool) (w : World) (hr0 : Kd.C k97 w A0 l0.length l0) (hc0 : l0.length ≤ c0) (h : y8_.f l0 = some r) :
 Calls Try.prog 54 #[.slice A0 l0.length c0] w fun e w' => e = .returned (.bool r) ∧ xp_ w w' := by
 have HR0 := AM hr0
 have HC0 := AM hc0
 clear hr0 hc0
 have H : (some (decide ((l0.length : Int) > 400))) = some r := h
 clear h
 obtain rfl := Option.some.inj H
 go_enter Try.func54, Try.ntmps54
 go_wp2
 go_ret
 exact ⟨re_, dr_⟩
-- NOT PRINTED: function 239 (abi_NoEscape)
-- NOT PRINTED: function 200 (strings_Builder_copyCheck)
-- NOT PRINTED: function 136 (strings_Builder_WriteString)
-- NOT PRINTED: function 140 (strings_Builder_String)
-- NOT PRINTED: function 265 (bytealg_MakeNoZero)
-- NOT PRINTED: function 235 (strings_Builder_grow)
-- NOT PRINTED: function 194 (strings_Builder_Grow)
-- NOT PRINTED: function 124 (strings_Join)
/-! ### yq_: function 130 -/
def yq_.f (l0 : List ByteArray) : Option (Int) := some (l0.length : Int)
theorem yq_.calls (A0 : Option Addr) (c0 : Nat) (l0 : List ByteArray) (r : Int) (w : World) (hr0 : Kd.C Kd.string w A0 l0.length l0) (hc0 : l0.length ≤ c0) (h : yq_.f l0 = some r) :
 Calls Try.prog 130 #[.slice A0 l0.length c0] w fun e w' => e = .returned (.int .i64 r) ∧ xp_ w w' := by
 have HR0 := AM hr0
 have HC0 := AM hc0
 clear hr0 hc0
 have H : (some (l0.length : Int)) = some r := h
 clear h
 obtain rfl := Option.some.inj H
 go_enter Try.func130, Try.ntmps130
 go_wp2
 go_ret
 exact ⟨re_, dr_⟩
/-! ### zN_: function 137 -/
def zN_.l0 : Nat → Int → List Int → Option (ByteArray)
 | 0, _, _ => none
 | k + 1, x3, x4 => if x3 > 127 then (if x4.length < 140737488355328 then (zN_.l0 k (x3 / 128) (x4 ++ [Go.bits .or .u8 ((Go.bits .and .u64 x3 127) % 256) 128])) else (none)) else (if x4.length < 140737488355328 then (some (strOfNums (x4 ++ [(x3) % 256]))) else (none))
def zN_.f (k : Nat) (a0 : Int) : Option (ByteArray) := zN_.l0 k (Go.bits .xor .u64 (IntKind.u64.wrap ((IntKind.u64.wrap (a0)) * 2)) (IntKind.u64.wrap (a0 / 9223372036854775808))) ([] : List Int)
theorem zN_.mono_l : ∀ k, (∀ y0 y1, LeO (zN_.l0 k y0 y1) (zN_.l0 (k + 1) y0 y1))
 | 0 => fun _ _ r h => by simp [zN_.l0] at h
 | k + 1 => by
  have ih0 := zN_.mono_l k
  ·
   intro y0 y1
   unfold zN_.l0
   repeat' with_reducible first | exact ih0 _ _ | exact LeO.refl _ | exact LeO.none _ | refine LeO.ite ?_ ?_ | refine LeO.bind ?_ (fun _ => ?_)
theorem zN_.mono : ∀ a0 k, LeO (zN_.f k a0) (zN_.f (k + 1) a0) := by
 intro a0 k
 have ih0 := zN_.mono_l k
 unfold zN_.f
 repeat' with_reducible first | exact ih0 _ _ | exact LeO.refl _ | exact LeO.none _ | refine LeO.ite ?_ ?_ | refine LeO.bind ?_ (fun _ => ?_)
theorem zN_.calls (k : Nat) (a0 : Int) (r : ByteArray) (w : World) (h : zN_.f k a0 = some r) :
 Calls Try.prog 137 #[.int .i64 a0] w fun e w' => e = .returned (.string r) ∧ Below w.heap.size w w' := by
 have HB := AM (Below.refl w.heap.size w)
 have H : (zN_.l0 k (Go.bits .xor .u64 (IntKind.u64.wrap ((IntKind.u64.wrap (a0)) * 2)) (IntKind.u64.wrap (a0 / 9223372036854775808))) ([] : List Int)) = some r := h
 clear h
 have H' := AM H
 clear H
 go_enter Try.func137, Try.ntmps137
 go_wp2
 go_loopg [3, 4] k (fun kq v3 v4 w' => ∃ (x3_1 : Int) (x4_1 : List Int), v3 = .int .u64 x3_1 ∧ zd_ (zN_.l0 kq x3_1 x4_1 = some r) ∧ zd_ (kq ≤ k) ∧ zd_ (Kd.R (Kd.int .u8) 5 w' w.heap.size (fun _ => True) v4 x4_1) ∧ zd_ (Below w.heap.size w w'))
 case atStart => exact ⟨(Go.bits .xor .u64 (IntKind.u64.wrap ((IntKind.u64.wrap (a0)) * 2)) (IntKind.u64.wrap (a0 / 9223372036854775808))), (([] : List Int)), re_, H', ⟨Nat.le_refl _⟩, ⟨by first | exact Kd.R_nil _ _ _ _ _ | exact Kd.N_nil _ _ _ _ _ | exact Kd.V_nil _ _ _ _ _ | exact Kd.Q_nil _ _ _ _ _ | exact Kd.S_nil _ _ _ _ _⟩, ⟨bel_⟩⟩
 case round =>
  clear H'
  obtain ⟨x3_1, x4_1, rfl, HA, HK1, HO_4, HB⟩ := hrel
  cases gk with
  | zero => exact absurd HA.out (by simp [zN_.l0])
  | succ k1 =>
   have H := HA.out
   clear HA
   simp only [zN_.l0] at H
   by_cases c2 : x3_1 > 127
   ·
    rw [if_pos c2] at H
    have c2b0 : decide (127 < x3_1) = true := decide_eq_true c2
    clear c2
    by_cases c3 : x4_1.length < 140737488355328
    ·
     rw [if_pos c3] at H
     have LMc3 := AM c3
     clear c3
     obtain ⟨y264, hy264⟩ : ∃ y_ : List Int, y_ = (x4_1 ++ [Go.bits .or .u8 ((Go.bits .and .u64 x3_1 127) % 256) 128]) := ⟨_, rfl⟩
     replace H : (zN_.l0 k1 (x3_1 / 128) y264) = some r := by first | (rw [hy264]; with_reducible exact H) | (have H2_ := (Option.bind_some _ _).symm.trans H; rw [hy264]; with_reducible exact H2_) | (have H2_ := (Option.bind_some _ _).symm.trans H; with_reducible exact H2_) | with_reducible exact H | (rw [hy264]; exact H) | exact H
     have Ny264 := AM hy264
     clear hy264
     have H' := AM H
     clear H
     go_wp2_with (first | ((with_reducible refine yr_ (b := .append) (xs := #[.tmp 14, .tmp 19]) rfl ?_); at_builtin; refine Kd.R_append (Kd.int .u8) (w0 := w) w.heap.size rfl (.tmp 14) (.tmp 19) 22 5 (.int .u8 0) 1 rfl Try.underlying22 info5 rfl (by decide) (by omega) u4 x4_1 (Go.bits .or .u8 ((Go.bits .and .u64 x3_1 127) % 256) 128) [.int .u8 (Go.bits .or .u8 ((Go.bits .and .u64 x3_1 127) % 256) 128)] (fun _ => True) (fun _ => False) rfl rfl ?aP (fun _ hk => hk.elim) ?aF ?aO ?aB ?aS ?aL ?_; (case aP => exact rfl); (case aB => exact bel_); (case aF => exact (fun _ _ => trivial)); (case aO => exact (ro_ HO_4.out)); (case aS => exact (zj_ bel_)); (case aL => have := LMc3.out; omega); intro v265 w4 ho hb hg hat; rw [← Ny264.out] at ho; have n0_ := AM hb; have n1_ := AM ho; clear HB; clear HO_4; have HB := n0_; have HO266 := n1_; clear n0_ n1_; clear ho hb hg hat))
     go_roundg k1
     case measure => have := HK1.out; omega
     case rel => exact ⟨(x3_1 / 128), (y264), re_, H', ⟨by have := HK1.out; omega⟩, ⟨ro_ HO266.out⟩, ⟨bel_⟩⟩
    ·
     rw [if_neg c3] at H
     exact absurd H (by simp)
   ·
    rw [if_neg c2] at H
    have c2b0 : decide (127 < x3_1) = false := decide_eq_false c2
    clear c2
    by_cases c5 : x4_1.length < 140737488355328
    ·
     rw [if_pos c5] at H
     have LMc5 := AM c5
     clear c5
     obtain ⟨y267, hy267⟩ : ∃ y_ : List Int, y_ = (x4_1 ++ [(x3_1) % 256]) := ⟨_, rfl⟩
     replace H : (some (strOfNums y267)) = some r := by first | (rw [hy267]; with_reducible exact H) | (have H2_ := (Option.bind_some _ _).symm.trans H; rw [hy267]; with_reducible exact H2_) | (have H2_ := (Option.bind_some _ _).symm.trans H; with_reducible exact H2_) | with_reducible exact H | (rw [hy267]; exact H) | exact H
     have Ny267 := AM hy267
     clear hy267
     obtain rfl := Option.some.inj H
     go_wp2_with (first | ((with_reducible refine yr_ (b := .append) (xs := #[.tmp 23, .tmp 26]) rfl ?_); at_builtin; refine Kd.R_append (Kd.int .u8) (w0 := w) w.heap.size rfl (.tmp 23) (.tmp 26) 22 5 (.int .u8 0) 1 rfl Try.underlying22 info5 rfl (by decide) (by omega) u4 x4_1 ((x3_1) % 256) [.int .u8 ((x3_1) % 256)] (fun _ => True) (fun _ => False) rfl rfl ?aP (fun _ hk => hk.elim) ?aF ?aO ?aB ?aS ?aL ?_; (case aP => exact rfl); (case aB => exact bel_); (case aF => exact (fun _ _ => trivial)); (case aO => exact (ro_ HO_4.out)); (case aS => exact (zj_ bel_)); (case aL => have := LMc5.out; omega); intro v268 w6 ho hb hg hat; rw [← Ny267.out] at ho; have n0_ := AM hb; have n1_ := AM ho; clear HB; clear HO_4; have HB := n0_; have HO269 := n1_; clear n0_ n1_; clear ho hb hg hat; have hcv7 := xf_ (P := Try.prog) Try.underlying22 Try.underlying5 Try.underlying9 (Kd.xK_ HO269.out)))
     go_ret
     exact ⟨ri_, bel_⟩
    ·
     rw [if_neg c5] at H
     exact absurd H (by simp)
/-! ### y2_: function 138 -/
def y2_.f (l0 : List (S97)) : Option (Int) := some (l0.length : Int)
theorem y2_.calls (A0 : Option Addr) (c0 : Nat) (l0 : List (S97)) (r : Int) (w : World) (hr0 : Kd.C k97 w A0 l0.length l0) (hc0 : l0.length ≤ c0) (h : y2_.f l0 = some r) :
 Calls Try.prog 138 #[.slice A0 l0.length c0] w fun e w' => e = .returned (.int .i64 r) ∧ xp_ w w' := by
 have HR0 := AM hr0
 have HC0 := AM hc0
 clear hr0 hc0
 have H : (some (l0.length : Int)) = some r := h
 clear h
 obtain rfl := Option.some.inj H
 go_enter Try.func138, Try.ntmps138
 go_wp2
 go_ret
 exact ⟨re_, dr_⟩
/-! ### yH_: function 139 -/
def yH_.f (k : Nat) (a0 : ByteArray) : Option (ByteArray) := (yj_.f a0).bind fun t270 => ((zN_.f k t270).bind fun t271 => (if t271.size + a0.size ≤ 9223372036854775807 then (some (t271 ++ a0)) else (none)))
theorem yH_.mono : ∀ a0 k, LeO (yH_.f k a0) (yH_.f (k + 1) a0) := by
 intro a0 k
 unfold yH_.f
 repeat' with_reducible first | exact zN_.mono _ _ | exact LeO.refl _ | exact LeO.none _ | refine LeO.ite ?_ ?_ | refine LeO.bind ?_ (fun _ => ?_)
theorem yH_.calls (k : Nat) (a0 : ByteArray) (r : ByteArray) (w : World) (h : yH_.f k a0 = some r) :
 Calls Try.prog 139 #[.string a0] w fun e w' => e = .returned (.string r) ∧ Below w.heap.size w w' := by
 have HB := AM (Below.refl w.heap.size w)
 have H : ((yj_.f a0).bind fun t270 => ((zN_.f k t270).bind fun t271 => (if t271.size + a0.size ≤ 9223372036854775807 then (some (t271 ++ a0)) else (none)))) = some r := h
 clear h
 obtain ⟨t270, A2, H⟩ := OB H
 try dsimp only at H
 replace A2 := AM A2
 obtain ⟨t271, A3, H⟩ := OB H
 try dsimp only at H
 replace A3 := AM A3
 by_cases c4 : t271.size + a0.size ≤ 9223372036854775807
 ·
  rw [if_pos c4] at H
  have c4b0 := eq_true c4
  have c4b1 : decide (t271.size + a0.size ≤ 9223372036854775807) = true := decide_eq_true c4
  try have c4b2 : (9223372036854775807 < t271.size + a0.size) = False := eq_false (Nat.not_lt.2 c4)
  obtain rfl := Option.some.inj H
  go_enter Try.func139, Try.ntmps139
  go_wp2_with (first | ((with_reducible refine zl_ (f := 128) rfl ?_); refine gl_ (some 4) Try.func128 #[.string a0] ?_; (with_reducible refine (yj_.calls a0 t270 _ A2.out).mono ?_); rintro e w' ⟨rfl, ⟨nd, rfl⟩⟩; refine ⟨_, rfl, ?_⟩) | ((with_reducible refine zl_ (f := 137) rfl ?_); refine gl_ (some 5) Try.func137 #[.int .i64 t270] ?_; (with_reducible refine (zN_.calls k t270 t271 _ A3.out).mono ?_); rintro e w5 ⟨rfl, hb⟩; refine ⟨_, rfl, ?_⟩; replace HB := AM (zg_ bel_ hb); (try clear hb)))
  go_ret
  exact ⟨ri_, bel_⟩
 ·
  rw [if_neg c4] at H
  exact absurd H (by simp)
/-! ### zE_: function 55 -/
def bw_ren : Go.Shelf.Ren := ⟨fun | 156 => 124 | 165 => 194 | 166 => 136 | 169 => 140 | 240 => 200 | 241 => 235 | 276 => 239 | 277 => 265 | n => n, fun | 31 => 54 | 9 => 9 | 3 => 3 | 4 => 4 | 0 => 0 | 20 => 20 | 72 => 172 | 76 => 175 | 70 => 170 | 37 => 22 | 75 => 174 | 127 => 243 | 164 => 273 | 5 => 5 | 80 => 114 | n => n, fun | n => n⟩
theorem bw_lays : Go.Proofs.Lays.n156 Try.prog bw_ren := {
 mixed := by kernel_rfl
 f156 := Try.func124.trans (congrArg some (by kernel_rfl))
 f165 := Try.func194.trans (congrArg some (by kernel_rfl))
 f166 := Try.func136.trans (congrArg some (by kernel_rfl))
 f169 := Try.func140.trans (congrArg some (by kernel_rfl))
 f240 := Try.func200.trans (congrArg some (by kernel_rfl))
 f241 := Try.func235.trans (congrArg some (by kernel_rfl))
 f276 := Try.func239.trans (congrArg some (by kernel_rfl))
 f277 := Try.func265.trans (congrArg some (by kernel_rfl))
 t0 := Try.underlying0
 a0 := Try.isAgg0
 z0 := Try.sizeOf0
 v0 := Try.zeroValue0
 t3 := Try.underlying3
 a3 := Try.isAgg3
 z3 := Try.sizeOf3
 v3 := Try.zeroValue3
 t4 := Try.underlying4
 a4 := Try.isAgg4
 z4 := Try.sizeOf4
 v4 := Try.zeroValue4
 t9 := Try.underlying9
 a9 := Try.isAgg9
 z9 := Try.sizeOf9
 v9 := Try.zeroValue9
 t20 := Try.underlying20
 a20 := Try.isAgg20
 z20 := Try.sizeOf20
 v20 := Try.zeroValue20
 t31 := Try.underlying54
 a31 := Try.isAgg54
 z31 := Try.sizeOf54
 v31 := Try.zeroValue54
 t37 := Try.underlying22
 a37 := Try.isAgg22
 z37 := Try.sizeOf22
 v37 := Try.zeroValue22
 t70 := Try.underlying170
 a70 := Try.isAgg170
 z70 := Try.sizeOf170
 v70 := Try.zeroValue170
 t72 := Try.underlying172
 a72 := Try.isAgg172
 z72 := Try.sizeOf172
 v72 := Try.zeroValue172
 t75 := Try.underlying174
 a75 := Try.isAgg174
 z75 := Try.sizeOf174
 v75 := Try.zeroValue174
 t76 := Try.underlying175
 a76 := Try.isAgg175
 z76 := Try.sizeOf175
 v76 := Try.zeroValue175
 t127 := Try.underlying243
 a127 := Try.isAgg243
 z127 := Try.sizeOf243
 v127 := Try.zeroValue243
 t164 := Try.underlying273
 a164 := Try.isAgg273
 z164 := Try.sizeOf273
 v164 := Try.zeroValue273 }
theorem bw_extra : Go.Proofs.Builder.Extra Try.prog bw_ren := {
 sizeBuilder := by kernel_rfl
 liesBuilder := by kernel_rfl
 t5 := Try.underlying5
 a5 := Try.isAgg5
 z5 := Try.sizeOf5
 v5 := Try.zeroValue5
 infoByte := by kernel_rfl
 cellsByte := by kernel_rfl
 sizeByte := by kernel_rfl
 neB5 := by decide }
theorem bw_grow {T e : TypeId} {B b : Nat} {bs : List Value} {w w' : World} (h : Lib.IsBuilder T e B b bs w) (hg : Below w.heap.size w w') : Lib.IsBuilder T e B b bs w' := by
 have key : ∀ p, Lib.BuilderAt T e B b p bs w → Lib.BuilderAt T e B b p bs w' := by
  rintro p ⟨hB, v, hb, hown, hne⟩
  exact ⟨hB, v, (hg.block b (Lib.BuilderAt.lt ⟨hB, v, hb, hown, hne⟩)).trans hb, pw_own_below hown hg, hne⟩
 exact h.imp (key _) (key _)
theorem bw_write (B b : Nat) (acc s : ByteArray) (w : World) (h : Lib.IsBuilder 172 5 B b (Lib.byteCells acc.data.toList) w) (hlen : acc.size + s.size ≤ 140737488355328) (hBw : B ≤ w.heap.size) :
 Calls Try.prog 136 #[.pointer (some ⟨b, 0, none⟩), .string s] w fun e w' => e = .returned (.tuple #[.int .i64 s.size, .nilIface]) ∧ Lib.IsBuilder 172 5 B b (Lib.byteCells (acc ++ s).data.toList) w' ∧ Below B w w' := by
 refine (Any.Builder_WriteString (ρ := bw_ren) { bw_lays with } bw_extra B b (Lib.byteCells acc.data.toList) s w h (by rw [Lib.byteCells_length]; exact hlen) hBw).mono ?_
 rintro e w' ⟨h1, h2, h3⟩
 refine ⟨h1, .inr ?_, h3⟩
 rw [show Lib.byteCells (acc ++ s).data.toList = Lib.byteCells acc.data.toList ++ Lib.strCells s by rw [Lib.strCells_eq, ← Lib.byteCells_append]; simp [ByteArray.data_append]]
 exact h2
theorem bw_text (B b : Nat) (acc : ByteArray) (w : World) (h : Lib.IsBuilder 172 5 B b (Lib.byteCells acc.data.toList) w) (hBw : B ≤ w.heap.size) :
 Calls Try.prog 140 #[.pointer (some ⟨b, 0, none⟩)] w fun e w' => e = .returned (.string acc) ∧ Below B w w' :=
 (Any.Builder_String_any (ρ := bw_ren) { bw_lays with } bw_extra B b acc.data.toList w h hBw)
def yM_ (l : List ByteArray) : ByteArray := ⟨(Lib.join (l.map (·.data.toList)) []).toArray⟩
theorem bw_join (A : Option Addr) (c : Nat) (l : List ByteArray) (w : World) (hr : Kd.C Kd.string w A l.length l) (hc : l.length ≤ c) (hN : l.length ≤ 140737488355328) (hlen : (yM_ l).size ≤ 140737488355328) :
 Calls Try.prog 124 #[.slice A l.length c, .string ⟨#[]⟩] w fun e w' => e = .returned (.string (yM_ l)) ∧ Below w.heap.size w w' := by
 by_cases hl : l = []
 ·
  subst hl
  refine (Any.strings_Join_none (ρ := bw_ren) bw_lays bw_extra A c ⟨#[]⟩ w).mono ?_
  rintro e w' ⟨h1, rfl⟩
  exact ⟨h1, Below.refl _ _⟩
 ·
  have hp : 0 < l.length := List.length_pos_iff.2 hl
  obtain ⟨ad, rfl, h0⟩ := Kd.y4_ hr 0 (by omega) (by omega)
  obtain ⟨bk, o, spot⟩ := ad
  have hs : spot = none := by
   simp only [Addr.add, Int.toNat_zero, if_true, World.cell?] at h0
   revert h0
   cases spot with
   | none => intro _; rfl
   | some s => intro h0; split at h0 <;> simp at h0
  subst hs
  have hcells : ∀ (j : Nat) x, l[j]? = some x → w.cell? ⟨bk, o + j, none⟩ = some (.string x) := by
   intro j x hx
   obtain ⟨hj, hjx⟩ := List.getElem?_eq_some_iff.1 hx
   obtain ⟨ad', e', h1⟩ := Kd.y4_ hr (j : Int) (by omega) (by omega)
   cases e'
   have e2 : rdOf ByteArray.empty l (j : Int) = x := by
    unfold rdOf
    rw [Int.toNat_natCast, List.getD_eq_getElem?_getD, hx]
    rfl
   rw [e2, Int.toNat_natCast] at h1
   rw [← h1]
   congr 1
   unfold Addr.add
   split
   ·
    rename_i q
    subst q
    rfl
   · rfl
  have hbk : bk < w.heap.size := World.block_lt_of_cell? w _ (hcells 0 _ (List.getElem?_eq_getElem hp))
  exact Any.strings_Join (ρ := bw_ren) bw_lays bw_extra bk o c l ⟨#[]⟩ w hcells hbk hN hc (by simpa [yM_, ByteArray.size] using hlen)
/-! A region whose last operation, which waits for all others, writes. -/
section
variable {P : Program} {Q : Exit → Act → World → Prop}
theorem regl_any {ops : Array Oper} (T : List (List Nat)) (R : Nat → Value → World → Prop) {a : Act} {w : World} (n : Nat) (ol : Oper) (hn : ops.size = n + 1) (hol : ops[n]? = some ol) (hall : (List.range n).all (fun j => (T.getD n []).contains j) = true)
 (hd : dstsOk ops.toList = true) (hT : depsOk ops T = true) (hR : ∀ i v w w', Grow w w' → R i v w → R i v w')
 (hS : Reg.Steps P ops Q T R a w (ops.toList.take n) 0)
 (hL : ∀ us w', Grow w w' → (∀ j, j < n → R j (us j) w') → ∀ K : Act → World → Prop, (∀ us' w'', Q .normal (yG_ us' ops.toList 0 a) w'' → (∀ j, j < n → us' j = us j) → K (yG_ us' ops.toList 0 a) w'') →
  if Region.wanted ol (yielded ops (yG_ us ops.toList 0 a).tmps) = true then Oper.wp P ol (yG_ us ops.toList 0 a) w' K Q else K ((yG_ us ops.toList 0 a).put ol.dst undef) w') :
 ∀ (fuel : Nat) (listed : Array Bool) (us : Nat → Value) (w' : World), y0_ .any ops listed → ((List.range ops.size).filter fun j => !listed.getD j false).length ≤ fuel → listed.size = ops.size → Grow w w' → listed.getD n false = false →
  (∀ j, listed.getD j false = true → R j (us j) w') → wpAny P .any ops Q fuel listed (yG_ us ops.toList 0 a) w' := by
 have hready : ∀ (listed : Array Bool), listed.size = ops.size → Region.ready .any ops listed = [] → ∀ j, j < ops.size → listed.getD j false = true := by
  intro listed hsz hnil j hj
  induction j using Nat.strongRecOn with
  | ind j ih =>
   cases hb : listed.getD j false with
   | true => rfl
   | false =>
    have hmem : j ∈ Region.ready .any ops listed := by
     rw [mem_ready]
     refine ⟨?_, ops[j], Array.getElem?_eq_getElem hj, fun e he hbe => ?_⟩
     ·
      rw [Array.getD_eq_getD_getElem?, Array.getElem?_eq_getElem (by omega)] at hb ⊢
      exact hb
     ·
      have h1 := List.all_eq_true.1 hT j (List.mem_range.2 hj)
      rw [Array.getElem?_eq_getElem hj] at h1
      simp only [Bool.and_eq_true] at h1
      have h2 := Array.all_eq_true_iff_forall_mem.1 h1.1 e he
      have hlt : e.on < j := by simpa [hbe] using h2
      exact ih e.on hlt (by omega)
    rw [hnil] at hmem
    cases hmem
 intro fuel
 induction fuel with
 | zero =>
  intro listed us w' hc hn' hsz hg hnl hr
  have hlen : ((List.range ops.size).filter fun j => !listed.getD j false) = [] := List.eq_nil_of_length_eq_zero (by omega)
  have : n ∈ ((List.range ops.size).filter fun j => !listed.getD j false) := by
   rw [List.mem_filter]
   exact ⟨List.mem_range.2 (by omega), by rw [hnl]; rfl⟩
  rw [hlen] at this
  cases this
 | succ fuel ih =>
  intro listed us w' hc hn' hsz hg hnl hr
  refine ⟨fun hnil => absurd (hready listed hsz hnil n (by omega)) (by rw [hnl]; simp), fun i hi => ?_⟩
  obtain ⟨h1, o, ho, hdep⟩ := mem_ready.1 hi
  have hil : i < ops.size := (Array.getElem?_eq_some_iff.1 ho).1
  have hun : listed.getD i false = false := by
   rw [Array.getD_eq_getD_getElem?, Array.getElem?_eq_getElem (by omega)] at h1 ⊢
   exact h1
  have hnot : listed[i]'(by omega) = false := by
   rw [Array.getD_eq_getD_getElem?, Array.getElem?_eq_getElem (by omega)] at h1
   exact h1
  have hlt : ((List.range ops.size).filter fun j => !(listed.setIfInBounds i true).getD j false).length < ((List.range ops.size).filter fun j => !listed.getD j false).length := by
   have hsub : ((List.range ops.size).filter fun j => !(listed.setIfInBounds i true).getD j false) = (((List.range ops.size).filter fun j => !listed.getD j false).filter fun j => j != i) := by
    rw [List.filter_filter]
    apply List.filter_congr
    intro j hj
    by_cases e : j = i
    ·
     subst e
     simp [Array.getD_eq_getD_getElem?, show j < listed.size by omega]
    ·
     rw [getD_set_ne false (fun h => e h.symm)]
     simp [e]
   rw [hsub]
   refine List.length_filter_lt_length_iff_exists.2 ⟨i, ?_, by simp⟩
   rw [List.mem_filter]
   exact ⟨List.mem_range.2 hil, by rw [hun]; rfl⟩
  refine wpOp_step ho (fun K' hK => ?_)
  by_cases hin : i = n
  ·
   subst hin
   have hoe : o = ol := Option.some.inj (ho.symm.trans hol)
   subst hoe
   have hprev : ∀ j, j < i → listed.getD j false = true := fun j hj => deps_listed hT hc i o ho hdep j (by
    have := List.all_eq_true.1 hall j (List.mem_range.2 hj)
    simpa using this)
   refine hL us w' hg (fun j hj => hr j (hprev j hj)) K' (fun us' w'' hq _ => hK _ _ ?_)
   have hfull : ∀ j, j < ops.size → (listed.setIfInBounds i true).getD j false = true := by
    intro j hj
    by_cases e : j = i
    ·
     subst e
     simp [Array.getD_eq_getD_getElem?, show j < listed.size by omega]
    ·
     rw [getD_set_ne false (fun h => e h.symm)]
     exact hprev j (by omega)
   have hnil : Region.ready .any ops (listed.setIfInBounds i true) = [] := by
    cases hq : Region.ready .any ops (listed.setIfInBounds i true) with
    | nil => rfl
    | cons k ks =>
     have hk : k ∈ Region.ready .any ops (listed.setIfInBounds i true) := by rw [hq]; simp
     obtain ⟨k1, o', ho', _⟩ := mem_ready.1 hk
     have hkl : k < ops.size := (Array.getElem?_eq_some_iff.1 ho').1
     have h9 := hfull k hkl
     have hks : k < (listed.setIfInBounds i true).size := by simp; omega
     rw [Array.getD_eq_getD_getElem?, Array.getElem?_eq_getElem hks] at h9 k1
     rw [show (some ((listed.setIfInBounds i true)[k])).getD false = (listed.setIfInBounds i true)[k] from rfl] at h9
     rw [show (some ((listed.setIfInBounds i true)[k])).getD true = (listed.setIfInBounds i true)[k] from rfl, h9] at k1
     cases k1
   cases fuel with
   | zero => exact ⟨hnil, hq⟩
   | succ fuel => exact ⟨fun _ => hq, fun k hk => by rw [hnil] at hk; cases hk⟩
  ·
   have hlt2 : i < n := by omega
   have hst := steps_get (ops.toList.take n) 0 i o hS (by rw [List.getElem?_take, if_pos hlt2]; simpa using ho)
   rw [Nat.zero_add] at hst
   refine hst us w' hg (fun j hj => hr j (deps_listed hT hc i o ho hdep j hj)) K' (fun v w'' hg' hv => hK _ _ ?_)
   rw [regPut_upd ops.toList 0 i a o hd (by simpa using ho), Nat.zero_add]
   refine ih (listed.setIfInBounds i true) (upd us i v) w'' (hc.set hi) (by omega) (by simpa using hsz) (grow_trans hg hg') ?_ (fun j hj => ?_)
   ·
    rw [getD_set_ne false hin]
    exact hnl
   ·
    by_cases e : j = i
    ·
     subst e
     unfold upd
     rw [if_pos rfl]
     exact hv
    ·
     unfold upd
     rw [if_neg e]
     rw [getD_set_ne false (fun h => e h.symm)] at hj
     exact hR j _ _ _ hg' (hr j hj)
theorem stepsl_of {ops : Array Oper} {R : Nat → Value → World → Prop} {a : Act} {w : World} {A : (Nat → Value) → Act} {T : List (List Nat)} (hd : dstsOk ops.toList = true) (hs : slotsOk ops a.tmps.size = true) (hA : ∀ us, yG_ us ops.toList 0 a = A us) :
 ∀ (os : List Oper) (Ds : List (List Nat)) (i : Nat), (∀ k, k < os.length → T.getD (i + k) [] = Ds.getD k []) → (∀ o ∈ os, o ∈ ops) → Steps1 P Q R A w os Ds i → Reg.Steps P ops Q T R a w os i
 | [], [], _, _, _, _ => trivial
 | [], _ :: _, _, _, _, h => h.elim
 | o :: os, [], _, _, _, h => h.elim
 | o :: os, D :: Ds, i, hT, hm, h => by
  refine ⟨fun us w' hg hD K hK => ?_, stepsl_of hd hs hA os Ds (i + 1) (fun k hk => by have := hT (k + 1) (by simp; omega); rw [show i + 1 + k = i + (k + 1) by omega]; simpa using this) (fun q hq => hm q (by simp [hq])) h.2⟩
  have hTi : T.getD i [] = D := by have := hT 0 (by simp); simpa using this
  rw [hTi] at hD
  have h1 := h.1 us w' hg (allR_of D hD) K (fun v w'' hg' hv => by rw [← hA us]; exact hK v w'' hg' hv)
  rw [wantedG_eq hd hs (hm o (by simp)), hA us]
  exact h1
/-- The region whose last operation writes: a call. -/
theorem wp_regl {id : Nat} {ops : Array Oper} {a : Act} {w : World} (T : List (List Nat)) (R : Nat → Value → World → Prop) (B : (Nat → Value) → List Value) (d : List Deferred) (n : Nat) (ol : Oper) (hn : ops.size = n + 1) (hol : ops[n]? = some ol) (hall : (List.range n).all (fun j => (T.getD n []).contains j) = true)
 (hm : P.follows .mixedOrders = true) (hd : dstsOk ops.toList = true) (hs : slotsOk ops a.tmps.size = true) (hT : depsOk ops T = true)
 (hA : ∀ us, yG_ us ops.toList 0 a = ⟨(B us).toArray, d⟩) (hR : ∀ i v w w', Grow w w' → R i v w → R i v w') (hTl : T.length = n + 1)
 (hS : Steps1 P Q R (fun us => ⟨(B us).toArray, d⟩) w (ops.toList.take n) (T.take n) 0)
 {f : FuncId} {fn : Func} {as_ : Array Operand} {ts : Array TypeId} (hg0 : ol.guard = none) (hop : ol.op = .call { callee := .value (.func f), args := as_, argTypes := ts }) (hf : P.funcs[f]? = some fn) (hname : (fn.name == "runtime.NumGoroutine") = false) (hb : fn.body.isSome = true)
 (hL : ∀ us w', Grow w w' → AllR R us w' (List.range n) → ∃ args, as_.map (Act.eval ⟨(B us).toArray, d⟩) = args ∧ Calls P f args w' fun e w'' => ∃ v, e = .returned v ∧ Q .normal (Act.put ⟨(B us).toArray, d⟩ ol.dst v) w'') : (Code.region id ops true).wp P Q a w := by
 refine wp_region_any hm ?_
 have hg : Grow w { w with drawn := w.drawn + 1 } := z1_ (zp_ w)
 have hemp : ∀ j, (Array.replicate ops.size false).getD j false = false := by
  intro j
  rw [Array.getD_eq_getD_getElem?, Array.getElem?_replicate]
  split <;> rfl
 have hmo : ol ∈ ops := Array.mem_of_getElem? hol
 have h := regl_any T R n ol hn hol hall hd hT hR (stepsl_of hd hs hA (ops.toList.take n) (T.take n) 0 (fun k hk => ?_) (fun o ho => by simpa using List.mem_of_mem_take ho) hS) ?_ ops.size (Array.replicate ops.size false) (orig a ops) _ (fun j oj hj hl e he hb => by
  rw [hemp] at hl
  cases hl) (Nat.le_trans (List.length_filter_le _ _) (by simp)) (by simp) hg (hemp n) (fun j hj => by
  rw [hemp] at hj
  cases hj)
 · rwa [regPut_orig a ops ops.toList 0 (fun k => by simp)] at h
 ·
  have hk2 : k < n := by
   have := List.length_take_le n ops.toList
   omega
  rw [Nat.zero_add, List.getD_eq_getElem?_getD, List.getD_eq_getElem?_getD, List.getElem?_take, if_pos hk2]
 ·
  intro us w' hgw hr K hK
  have hw : Region.wanted ol (yielded ops (yG_ us ops.toList 0 a).tmps) = true := by
   rw [wantedG_eq hd hs hmo]
   unfold zx_
   rw [hg0]
  rw [if_pos hw]
  obtain ⟨args, hargs, hcall⟩ := hL us w' hgw (allR_of _ (fun j hj => hr j (List.mem_range.1 hj)))
  have he := enters_ hf hname hb args w'
  have hrun : (execOp (yG_ us ops.toList 0 a).eval ol).run P w' = .ok (.enter f args) w' := by
   rw [hA us]
   unfold execOp
   simp [hop, resolve, Deferred.ofValue, invoke, Act.eval, hargs, he]
  unfold Oper.wp
  rw [hrun, Oper.upon_enter]
  refine hcall.mono ?_
  rintro e w'' ⟨v, rfl, hq⟩
  rw [← hA us, regPut_upd ops.toList 0 n a ol hd (by simpa using hol), Nat.zero_add] at hq
  have := hK (upd us n v) w'' hq (fun j hj => by unfold upd; rw [if_neg (by omega)])
  have e2 := regPut_upd (us := us) (v := v) ops.toList 0 n a ol hd (by simpa using hol)
  rw [Nat.zero_add] at e2
  show K ((yG_ us ops.toList 0 a).put ol.dst v) w''
  rw [e2]
  exact this
end
abbrev bw_max : Nat := 140737488355328
def zE_.one (k : Nat) (x : S97) : Option ByteArray :=
 (yH_.f k x.f0).bind fun t1 => (zN_.f k (if x.f1 = true then 1 else 0)).bind fun t2 => (zN_.f k x.f2).bind fun t3 => (zN_.f k (x.f3.length : Int)).bind fun t4 =>
  if x.f3.length ≤ 140737488355328 ∧ t1.size + t2.size + t3.size + t4.size + (yM_ x.f3).size ≤ 140737488355328 then some (t1 ++ t2 ++ t3 ++ t4 ++ yM_ x.f3) else none
def zE_.l0 : Nat → List (S97) → ByteArray → Int → Option (ByteArray)
 | 0, _, _, _ => none
 | k + 1, l, acc, x => if x < (l.length : Int) then (if 0 ≤ x then ((zE_.one k (zH_ l x)).bind fun t => (if acc.size + t.size ≤ 140737488355328 then (zE_.l0 k l (acc ++ t) (wrap64 (x + 1))) else (none))) else (none)) else some acc
def zE_.f (k : Nat) (l0 : List (S97)) : Option (ByteArray) := (zN_.f k (l0.length : Int)).bind fun t => if t.size ≤ 140737488355328 then (zE_.l0 k l0 t 0) else (none)
theorem zE_.mono_1 (x : S97) (k : Nat) : LeO (zE_.one k x) (zE_.one (k + 1) x) := by
 unfold zE_.one
 repeat' with_reducible first | exact yH_.mono _ _ | exact zN_.mono _ _ | exact LeO.refl _ | refine LeO.bind ?_ (fun _ => ?_)
theorem zE_.mono_l : ∀ k, (∀ y0 y1 y2, LeO (zE_.l0 k y0 y1 y2) (zE_.l0 (k + 1) y0 y1 y2))
 | 0 => fun _ _ _ r h => by simp [zE_.l0] at h
 | k + 1 => by
  have ih0 := zE_.mono_l k
  ·
   intro y0 y1 y2
   unfold zE_.l0
   repeat' with_reducible first | exact ih0 _ _ _ | exact zE_.mono_1 _ _ | exact LeO.refl _ | refine LeO.ite ?_ ?_ | refine LeO.bind ?_ (fun _ => ?_)
theorem zE_.mono : ∀ a0 k, LeO (zE_.f k a0) (zE_.f (k + 1) a0) := by
 intro a0 k
 unfold zE_.f
 exact LeO.bind (zN_.mono _ _) (fun _ => LeO.ite (zE_.mono_l k _ _ _) (LeO.refl _))
theorem zE_.open1 (k : Nat) (x : S97) (r : ByteArray) (h : zE_.one k x = some r) : ∃ t1 t2 t3 t4, yH_.f k x.f0 = some t1 ∧ zN_.f k (if x.f1 = true then 1 else 0) = some t2 ∧ zN_.f k x.f2 = some t3 ∧ zN_.f k (x.f3.length : Int) = some t4 ∧
 x.f3.length ≤ 140737488355328 ∧ t1.size + t2.size + t3.size + t4.size + (yM_ x.f3).size ≤ 140737488355328 ∧ r = t1 ++ t2 ++ t3 ++ t4 ++ yM_ x.f3 := by
 unfold zE_.one at h
 obtain ⟨t1, h1, h⟩ := Option.bind_eq_some_iff.mp h
 obtain ⟨t2, h2, h⟩ := Option.bind_eq_some_iff.mp h
 obtain ⟨t3, h3, h⟩ := Option.bind_eq_some_iff.mp h
 obtain ⟨t4, h4, h⟩ := Option.bind_eq_some_iff.mp h
 split at h
 ·
  rename_i q
  exact ⟨t1, t2, t3, t4, h1, h2, h3, h4, q.1, q.2, (Option.some.inj h).symm⟩
 · cases h
theorem zE_.calls (k : Nat) (A0 : Option Addr) (c0 : Nat) (l0 : List (S97)) (r : ByteArray) (w : World) (hr0 : Kd.C k97 w A0 l0.length l0) (hc0 : l0.length ≤ c0) (h : zE_.f k l0 = some r) :
 Calls Try.prog 55 #[.slice A0 l0.length c0] w fun e w' => e = .returned (.string r) ∧ Below w.heap.size w w' := by
 have hu := Try.underlying97
 have HR0 := AM hr0
 have HC0 := AM hc0
 clear hr0 hc0
 obtain ⟨t, A2, H⟩ := OB h
 try dsimp only at H
 replace A2 := AM A2
 clear h
 by_cases c3 : t.size ≤ 140737488355328
 case neg =>
  rw [if_neg c3] at H
  exact absurd H (by simp)
 case pos =>
  rw [if_pos c3] at H
  have H' := AM H
  have C3 := AM c3
  clear H c3
  have HI : zd_ (Lib.IsBuilder 172 5 w.heap.size w.heap.size (Lib.byteCells ByteArray.empty.data.toList) (w.alloc (.cells #[.pointer none, .slice none 0 0] 172))) := AM (Lib.fresh_isBuilder 172 5 w)
  have HB := AM ((Below.refl w.heap.size w).alloc (Nat.le_refl _) (Obj.cells #[.pointer none, .slice none 0 0] 172))
  go_enter Try.func55, Try.ntmps55
  go_wp2_with (first
   | ((with_reducible refine zl_ (f := 138) rfl ?_); refine gl_ (some 8) Try.func138 #[.slice A0 l0.length c0] ?_; refine (y2_.calls A0 c0 l0 _ _ (Kd.xc_ HR0.out HB.out) HC0.out rfl).mono ?_; rintro e w2 ⟨rfl, hb⟩; refine ⟨_, rfl, ?_⟩; replace HI := AM (bw_grow HI.out hb.below); replace HB := AM (zg_ HB.out hb.below); clear hb)
   | ((with_reducible refine zl_ (f := 137) rfl ?_); refine gl_ (some 9) Try.func137 #[.int .i64 (l0.length : Int)] ?_; refine (zN_.calls k _ t _ A2.out).mono ?_; rintro e w3 ⟨rfl, hb⟩; refine ⟨_, rfl, ?_⟩; replace HI := AM (bw_grow HI.out hb); replace HB := AM (zg_ HB.out hb); clear hb)
   | ((with_reducible refine zl_ (f := 136) rfl ?_); refine gl_ (some 10) Try.func136 #[.pointer (some ⟨w.heap.size, 0, none⟩), .string t] ?_; refine (bw_write w.heap.size w.heap.size ByteArray.empty t _ HI.out (by simpa using C3.out) HB.out.size).mono ?_; rintro e w4 ⟨rfl, hi, hb⟩; refine ⟨_, rfl, ?_⟩; rw [ByteArray.empty_append] at hi; replace HI := AM hi; replace HB := AM (HB.out.trans hb); clear hb hi))
  go_loopg [13] k (fun kq v13 w' => ∃ (x : Int) (acc : ByteArray), v13 = .int .i64 x ∧ zd_ (zE_.l0 kq l0 acc x = some r) ∧ zd_ (kq ≤ k) ∧ zd_ (Lib.IsBuilder 172 5 w.heap.size w.heap.size (Lib.byteCells acc.data.toList) w') ∧ zd_ (Below w.heap.size w w'))
  case atStart => exact ⟨0, t, rfl, H', ⟨Nat.le_refl _⟩, HI, HB⟩
  case round =>
   clear H' HI HB A2 C3
   obtain ⟨x, acc, rfl, HA, HK1, HI, HB⟩ := hrel
   cases gk with
   | zero => exact absurd HA.out (by simp [zE_.l0])
   | succ k1 =>
    have H := HA.out
    clear HA
    simp only [zE_.l0] at H
    by_cases c3 : x < (l0.length : Int)
    ·
     rw [if_pos c3] at H
     by_cases c4 : 0 ≤ x
     ·
      rw [if_pos c4] at H
      obtain ⟨t, ht, H2⟩ := Option.bind_eq_some_iff.mp H
      clear H
      by_cases c5 : acc.size + t.size ≤ 140737488355328
      ·
       rw [if_pos c5] at H2
       obtain ⟨t1, t2, t3, t4, h1, h2, h3, h4, hl, hz, rfl⟩ := zE_.open1 _ _ _ ht
       obtain ⟨ad, A3, c33, rfl, hx0, hx1, hx2, hx3, hl3, hk3⟩ := at_T97 HR0.out x c4 c3
       obtain ⟨d, hd1⟩ : ∃ d, (zH_ l0 x).f1 = d := ⟨_, rfl⟩
       obtain ⟨nk, hnk⟩ : ∃ nk, (zH_ l0 x).f3.length = nk := ⟨_, rfl⟩
       obtain ⟨cat, hcat⟩ : ∃ c, yM_ (zH_ l0 x).f3 = c := ⟨_, rfl⟩
       have hz1 := hz
       rw [hd1] at hx1 h2
       rw [hcat] at hz H2 c5
       have T1 := AM h1
       have T2 := AM h2
       have T3 := AM h3
       have T4 := AM h4
       have HCAT := AM hcat
       have HZ1 := AM hz1
       have HLE := AM hl
       have HNK := AM hnk
       have HL3 := AM hl3
       have HK3 := AM hk3
       have C5 := AM c5
       have HN := AM H2
       have hz' := hz
       have s12 : t1.size + t2.size ≤ 9223372036854775807 := by omega
       have s3 : t1.size + t2.size + t3.size ≤ 9223372036854775807 := by omega
       have s4 : t1.size + t2.size + t3.size + t4.size ≤ 9223372036854775807 := by omega
       have s5 : t1.size + t2.size + t3.size + t4.size + cat.size ≤ 9223372036854775807 := by omega
       have S12 := AM s12
       have S3 := AM s3
       have S4 := AM s4
       have S5 := AM s5
       have c3b0 : decide (x < (l0.length : Int)) = true := decide_eq_true c3
       have c4b0 := eq_true c4
       have c3b1 := eq_true c3
       rw [hnk] at hx3
       clear h1 h2 h3 h4 hl hz hz1 hz' ht H2 c3 c4 c5 hd1 hcat s12 s3 s4 s5 hl3 hk3 hnk
       replace hx0 := cellG HB.out (zp_ _) hx0
       replace hx1 := cellG HB.out (zp_ _) hx1
       replace hx2 := cellG HB.out (zp_ _) hx2
       replace hx3 := cellG HB.out (zp_ _) hx3
       cases d
       ·
        replace T2 : zd_ (zN_.f k1 0 = some t2) := ⟨by simpa using T2.out⟩
        go_wp2
        have hs0 : (wr.alloc (Obj.cells #[.string (zH_ l0 x).f0, .bool false, .int .i64 (zH_ l0 x).f2, .slice A3 nk c33] 97)).cell? ⟨wr.heap.size, 0, none⟩ = some (.string (zH_ l0 x).f0) := by simp
        have hs2 : (wr.alloc (Obj.cells #[.string (zH_ l0 x).f0, .bool false, .int .i64 (zH_ l0 x).f2, .slice A3 nk c33] 97)).cell? ⟨wr.heap.size, 2, none⟩ = some (.int .i64 (zH_ l0 x).f2) := by simp
        have hs3 : (wr.alloc (Obj.cells #[.string (zH_ l0 x).f0, .bool false, .int .i64 (zH_ l0 x).f2, .slice A3 nk c33] 97)).cell? ⟨wr.heap.size, 3, none⟩ = some (.slice A3 nk c33) := by simp
        replace HI := AM (bw_grow HI.out (yD_ (Below.refl _ _) (Obj.cells #[.string (zH_ l0 x).f0, .bool false, .int .i64 (zH_ l0 x).f2, .slice A3 nk c33] 97)))
        replace HB := AM (HB.out.alloc HB.out.size (Obj.cells #[.string (zH_ l0 x).f0, .bool false, .int .i64 (zH_ l0 x).f2, .slice A3 nk c33] 97))
        clear hx0 hx1 hx2 hx3
        generalize wr.alloc _ = w2 at HI HB hs0 hs2 hs3 ⊢
        generalize wr.heap.size = g at hs0 hs2 hs3 ⊢
        refine wp_regl [[], [0], [1, 0], [], [3], [2, 4, 1, 0, 3], [], [6], [7, 6], [5, 8, 2, 4, 1, 0, 3, 7, 6], [], [10], [11, 10], [12, 11, 10], [9, 13, 5, 8, 2, 4, 1, 0, 3, 7, 6, 12, 11, 10], [], [15], [16, 15], [14, 17, 9, 13, 5, 8, 2, 4, 1, 0, 3, 7, 6, 12, 11, 10, 16, 15], [18, 14, 17, 9, 13, 5, 8, 2, 4, 1, 0, 3, 7, 6, 12, 11, 10, 16, 15]]
         (isVal [.pointer (some ⟨g, 0, none⟩),
          .string (zH_ l0 x).f0,
          .string t1,
          .int .i64 0,
          .string t2,
          .string (t1 ++ t2),
          .pointer (some ⟨g, 2, none⟩),
          .int .i64 (zH_ l0 x).f2,
          .string t3,
          .string (t1 ++ t2 ++ t3),
          .pointer (some ⟨g, 3, none⟩),
          .slice A3 nk c33,
          .int .i64 nk,
          .string t4,
          .string (t1 ++ t2 ++ t3 ++ t4),
          .pointer (some ⟨g, 3, none⟩),
          .slice A3 nk c33,
          .string cat,
          .string (t1 ++ t2 ++ t3 ++ t4 ++ cat)])
         ?B9a ?d9a 19 _ (by kernel_rfl) (by rfl) (by kernel_rfl) (by kernel_rfl) (by kernel_rfl) (by kernel_rfl) (by kernel_rfl) (fun us => ?hA9a) (isVal_grow _) (by rfl) ?hS9a (by rfl) (by rfl) Try.func136 (by kernel_rfl) (by rfl) ?hL9a
        case hA9a =>
         simp only [yG_, Act.put, List.setIfInBounds_toArray, List.set_cons_zero, List.set_cons_succ, Nat.reduceAdd, Nat.zero_add]
         rfl
        case hS9a =>
         refine ⟨?_, ?_, ?_, ?_, ?_, ?_, ?_, ?_, ?_, ?_, ?_, ?_, ?_, ?_, ?_, ?_, ?_, ?_, ?_, trivial⟩
         all_goals (intro us w' hg hd K hK; simp only [AllR, isVal, List.getD_cons_zero, List.getD_cons_succ] at hd; clear HI HN HK1)
         all_goals (have g1_ := True.intro; have g2_ := True.intro; try (obtain ⟨g1_, hd⟩ := hd); try (obtain ⟨g2_, hd⟩ := hd); clear hd)
         all_goals (replace hs0 := cellG (zp_ _) hg hs0; replace hs2 := cellG (zp_ _) hg hs2; replace hs3 := cellG (zp_ _) hg hs3)
         ·
          have _h := True.intro
          refine ya_ hK ?_ ?_ (zp_ _) rfl
          · first | rfl | (simp [zx_, asB, undef, g1_, g2_]; done)
          ·
           go_simp
           done
         ·
          have _h := True.intro
          refine ya_ hK ?_ ?_ (zp_ _) rfl
          · first | rfl | (simp [zx_, asB, undef, g1_, g2_]; done)
          ·
           go_simp
           done
         ·
          have _h := True.intro
          refine xk_ hK ?_ rfl Try.func139 (by kernel_rfl) rfl #[.string (zH_ l0 x).f0] ?_ ((yH_.calls k1 _ _ _ T1.out).mono ?_)
          · first | rfl | (simp [zx_, asB, undef, g1_, g2_]; done)
          · simp [Act.eval, g1_, g2_]
          ·
           rintro e_ w'' ⟨rfl, hb_⟩
           exact ⟨_, rfl, (by first | exact hb_ | exact hb_.below), rfl⟩
         ·
          have _h := True.intro
          refine ya_ hK ?_ ?_ (zp_ _) rfl
          · first | rfl | (simp [zx_, asB, undef, g1_, g2_]; done)
          ·
           go_simp
           done
         ·
          have _h := True.intro
          refine xk_ hK ?_ rfl Try.func137 (by kernel_rfl) rfl #[.int .i64 0] ?_ ((zN_.calls k1 _ _ _ T2.out).mono ?_)
          · first | rfl | (simp [zx_, asB, undef, g1_, g2_]; done)
          · simp [Act.eval, g1_, g2_]
          ·
           rintro e_ w'' ⟨rfl, hb_⟩
           exact ⟨_, rfl, (by first | exact hb_ | exact hb_.below), rfl⟩
         ·
          have _h := True.intro
          have q0 := S12.out
          have q1 := eq_true q0
          have q2 := decide_eq_true q0
          have q3 := eq_false (Nat.not_lt.2 q0)
          clear q0
          refine ya_ hK ?_ ?_ (zp_ _) rfl
          · first | rfl | (simp [zx_, asB, undef, g1_, g2_]; done)
          ·
           go_simp
           done
         ·
          have _h := True.intro
          refine ya_ hK ?_ ?_ (zp_ _) rfl
          · first | rfl | (simp [zx_, asB, undef, g1_, g2_]; done)
          ·
           go_simp
           done
         ·
          have _h := True.intro
          refine ya_ hK ?_ ?_ (zp_ _) rfl
          · first | rfl | (simp [zx_, asB, undef, g1_, g2_]; done)
          ·
           go_simp
           done
         ·
          have _h := True.intro
          refine xk_ hK ?_ rfl Try.func137 (by kernel_rfl) rfl #[.int .i64 (zH_ l0 x).f2] ?_ ((zN_.calls k1 _ _ _ T3.out).mono ?_)
          · first | rfl | (simp [zx_, asB, undef, g1_, g2_]; done)
          · simp [Act.eval, g1_, g2_]
          ·
           rintro e_ w'' ⟨rfl, hb_⟩
           exact ⟨_, rfl, (by first | exact hb_ | exact hb_.below), rfl⟩
         ·
          have _h := True.intro
          have q0 := S3.out
          have q1 := eq_true q0
          have q2 := decide_eq_true q0
          have q3 := eq_false (Nat.not_lt.2 q0)
          clear q0
          refine ya_ hK ?_ ?_ (zp_ _) rfl
          · first | rfl | (simp [zx_, asB, undef, g1_, g2_]; done)
          ·
           go_simp
           done
         ·
          have _h := True.intro
          refine ya_ hK ?_ ?_ (zp_ _) rfl
          · first | rfl | (simp [zx_, asB, undef, g1_, g2_]; done)
          ·
           go_simp
           done
         ·
          have _h := True.intro
          refine ya_ hK ?_ ?_ (zp_ _) rfl
          · first | rfl | (simp [zx_, asB, undef, g1_, g2_]; done)
          ·
           go_simp
           done
         ·
          have _h := True.intro
          have HKc := Kd.xc_ HK3.out (below_grow HB.out hg)
          have HLc := HL3.out
          have HS := (yq_.calls A3 c33 (zH_ l0 x).f3 _ w' HKc HLc rfl)
          rw [HNK.out] at HS
          refine xk_ hK ?_ rfl Try.func130 (by kernel_rfl) rfl #[.slice A3 nk c33] ?_ (HS.mono ?_)
          · first | rfl | (simp [zx_, asB, undef, g1_, g2_]; done)
          · simp [Act.eval, g1_, g2_]
          ·
           rintro e_ w'' ⟨rfl, hb_⟩
           exact ⟨_, rfl, (by first | exact hb_ | exact hb_.below), rfl⟩
         ·
          have _h := True.intro
          have HT4 := T4.out
          rw [HNK.out] at HT4
          refine xk_ hK ?_ rfl Try.func137 (by kernel_rfl) rfl #[.int .i64 nk] ?_ ((zN_.calls k1 _ _ w' HT4).mono ?_)
          · first | rfl | (simp [zx_, asB, undef, g1_, g2_]; done)
          · simp [Act.eval, g1_, g2_]
          ·
           rintro e_ w'' ⟨rfl, hb_⟩
           exact ⟨_, rfl, (by first | exact hb_ | exact hb_.below), rfl⟩
         ·
          have _h := True.intro
          have q0 := S4.out
          have q1 := eq_true q0
          have q2 := decide_eq_true q0
          have q3 := eq_false (Nat.not_lt.2 q0)
          clear q0
          refine ya_ hK ?_ ?_ (zp_ _) rfl
          · first | rfl | (simp [zx_, asB, undef, g1_, g2_]; done)
          ·
           go_simp
           done
         ·
          have _h := True.intro
          refine ya_ hK ?_ ?_ (zp_ _) rfl
          · first | rfl | (simp [zx_, asB, undef, g1_, g2_]; done)
          ·
           go_simp
           done
         ·
          have _h := True.intro
          refine ya_ hK ?_ ?_ (zp_ _) rfl
          · first | rfl | (simp [zx_, asB, undef, g1_, g2_]; done)
          ·
           go_simp
           done
         ·
          have _h := True.intro
          have HKc := Kd.xc_ HK3.out (below_grow HB.out hg)
          have HLc := HL3.out
          have HJ := bw_join A3 c33 (zH_ l0 x).f3 w' HKc HLc HLE.out (by have := HZ1.out; omega)
          rw [HNK.out, HCAT.out] at HJ
          refine xk_ hK ?_ rfl Try.func124 (by kernel_rfl) rfl #[.slice A3 nk c33, .string ⟨#[]⟩] ?_ (HJ.mono ?_)
          · first | rfl | (simp [zx_, asB, undef, g1_, g2_]; done)
          · simp [Act.eval, g1_, g2_]
          ·
           rintro e_ w'' ⟨rfl, hb_⟩
           exact ⟨_, rfl, (by first | exact hb_ | exact hb_.below), rfl⟩
         ·
          have _h := True.intro
          have q0 := S5.out
          have q1 := eq_true q0
          have q2 := decide_eq_true q0
          have q3 := eq_false (Nat.not_lt.2 q0)
          clear q0
          refine ya_ hK ?_ ?_ (zp_ _) rfl
          · first | rfl | (simp [zx_, asB, undef, g1_, g2_]; done)
          ·
           go_simp
           done
        case hL9a =>
         intro us w' hg hd
         have h18 := allR_get hd (j := 18) (by rfl)
         simp only [isVal, List.getD_cons_zero, List.getD_cons_succ] at h18
         refine ⟨#[.pointer (some ⟨w.heap.size, 0, none⟩), .string (t1 ++ t2 ++ t3 ++ t4 ++ cat)], by simp [Act.eval, h18], ?_⟩
         refine (bw_write w.heap.size w.heap.size acc (t1 ++ t2 ++ t3 ++ t4 ++ cat) w' (bw_grow HI.out hg) C5.out (below_grow HB.out hg).size).mono ?_
         rintro e w3 ⟨rfl, hi, hb⟩
         refine ⟨_, rfl, ?_⟩
         replace HI := AM hi
         replace HB := AM ((below_grow HB.out hg).trans hb)
         clear hi hb hd h18 hg hs0 hs2 hs3
         simp only [Act.put, List.setIfInBounds_toArray, List.set_cons_zero, List.set_cons_succ]
         go_wp2
         go_roundg k1
         case measure => have := HK1.out; omega
         case rel => exact ⟨(wrap64 (x + 1)), _, re_, HN, ⟨by have := HK1.out; omega⟩, HI, HB⟩
       ·
        replace T2 : zd_ (zN_.f k1 1 = some t2) := ⟨by simpa using T2.out⟩
        go_wp2
        have hs0 : (wr.alloc (Obj.cells #[.string (zH_ l0 x).f0, .bool true, .int .i64 (zH_ l0 x).f2, .slice A3 nk c33] 97)).cell? ⟨wr.heap.size, 0, none⟩ = some (.string (zH_ l0 x).f0) := by simp
        have hs2 : (wr.alloc (Obj.cells #[.string (zH_ l0 x).f0, .bool true, .int .i64 (zH_ l0 x).f2, .slice A3 nk c33] 97)).cell? ⟨wr.heap.size, 2, none⟩ = some (.int .i64 (zH_ l0 x).f2) := by simp
        have hs3 : (wr.alloc (Obj.cells #[.string (zH_ l0 x).f0, .bool true, .int .i64 (zH_ l0 x).f2, .slice A3 nk c33] 97)).cell? ⟨wr.heap.size, 3, none⟩ = some (.slice A3 nk c33) := by simp
        replace HI := AM (bw_grow HI.out (yD_ (Below.refl _ _) (Obj.cells #[.string (zH_ l0 x).f0, .bool true, .int .i64 (zH_ l0 x).f2, .slice A3 nk c33] 97)))
        replace HB := AM (HB.out.alloc HB.out.size (Obj.cells #[.string (zH_ l0 x).f0, .bool true, .int .i64 (zH_ l0 x).f2, .slice A3 nk c33] 97))
        clear hx0 hx1 hx2 hx3
        generalize wr.alloc _ = w2 at HI HB hs0 hs2 hs3 ⊢
        generalize wr.heap.size = g at hs0 hs2 hs3 ⊢
        refine wp_regl [[], [0], [1, 0], [], [3], [2, 4, 1, 0, 3], [], [6], [7, 6], [5, 8, 2, 4, 1, 0, 3, 7, 6], [], [10], [11, 10], [12, 11, 10], [9, 13, 5, 8, 2, 4, 1, 0, 3, 7, 6, 12, 11, 10], [], [15], [16, 15], [14, 17, 9, 13, 5, 8, 2, 4, 1, 0, 3, 7, 6, 12, 11, 10, 16, 15], [18, 14, 17, 9, 13, 5, 8, 2, 4, 1, 0, 3, 7, 6, 12, 11, 10, 16, 15]]
         (isVal [.pointer (some ⟨g, 0, none⟩),
          .string (zH_ l0 x).f0,
          .string t1,
          .int .i64 1,
          .string t2,
          .string (t1 ++ t2),
          .pointer (some ⟨g, 2, none⟩),
          .int .i64 (zH_ l0 x).f2,
          .string t3,
          .string (t1 ++ t2 ++ t3),
          .pointer (some ⟨g, 3, none⟩),
          .slice A3 nk c33,
          .int .i64 nk,
          .string t4,
          .string (t1 ++ t2 ++ t3 ++ t4),
          .pointer (some ⟨g, 3, none⟩),
          .slice A3 nk c33,
          .string cat,
          .string (t1 ++ t2 ++ t3 ++ t4 ++ cat)])
         ?B9b ?d9b 19 _ (by kernel_rfl) (by rfl) (by kernel_rfl) (by kernel_rfl) (by kernel_rfl) (by kernel_rfl) (by kernel_rfl) (fun us => ?hA9b) (isVal_grow _) (by rfl) ?hS9b (by rfl) (by rfl) Try.func136 (by kernel_rfl) (by rfl) ?hL9b
        case hA9b =>
         simp only [yG_, Act.put, List.setIfInBounds_toArray, List.set_cons_zero, List.set_cons_succ, Nat.reduceAdd, Nat.zero_add]
         rfl
        case hS9b =>
         refine ⟨?_, ?_, ?_, ?_, ?_, ?_, ?_, ?_, ?_, ?_, ?_, ?_, ?_, ?_, ?_, ?_, ?_, ?_, ?_, trivial⟩
         all_goals (intro us w' hg hd K hK; simp only [AllR, isVal, List.getD_cons_zero, List.getD_cons_succ] at hd; clear HI HN HK1)
         all_goals (have g1_ := True.intro; have g2_ := True.intro; try (obtain ⟨g1_, hd⟩ := hd); try (obtain ⟨g2_, hd⟩ := hd); clear hd)
         all_goals (replace hs0 := cellG (zp_ _) hg hs0; replace hs2 := cellG (zp_ _) hg hs2; replace hs3 := cellG (zp_ _) hg hs3)
         ·
          have _h := True.intro
          refine ya_ hK ?_ ?_ (zp_ _) rfl
          · first | rfl | (simp [zx_, asB, undef, g1_, g2_]; done)
          ·
           go_simp
           done
         ·
          have _h := True.intro
          refine ya_ hK ?_ ?_ (zp_ _) rfl
          · first | rfl | (simp [zx_, asB, undef, g1_, g2_]; done)
          ·
           go_simp
           done
         ·
          have _h := True.intro
          refine xk_ hK ?_ rfl Try.func139 (by kernel_rfl) rfl #[.string (zH_ l0 x).f0] ?_ ((yH_.calls k1 _ _ _ T1.out).mono ?_)
          · first | rfl | (simp [zx_, asB, undef, g1_, g2_]; done)
          · simp [Act.eval, g1_, g2_]
          ·
           rintro e_ w'' ⟨rfl, hb_⟩
           exact ⟨_, rfl, (by first | exact hb_ | exact hb_.below), rfl⟩
         ·
          have _h := True.intro
          refine ya_ hK ?_ ?_ (zp_ _) rfl
          · first | rfl | (simp [zx_, asB, undef, g1_, g2_]; done)
          ·
           go_simp
           done
         ·
          have _h := True.intro
          refine xk_ hK ?_ rfl Try.func137 (by kernel_rfl) rfl #[.int .i64 1] ?_ ((zN_.calls k1 _ _ _ T2.out).mono ?_)
          · first | rfl | (simp [zx_, asB, undef, g1_, g2_]; done)
          · simp [Act.eval, g1_, g2_]
          ·
           rintro e_ w'' ⟨rfl, hb_⟩
           exact ⟨_, rfl, (by first | exact hb_ | exact hb_.below), rfl⟩
         ·
          have _h := True.intro
          have q0 := S12.out
          have q1 := eq_true q0
          have q2 := decide_eq_true q0
          have q3 := eq_false (Nat.not_lt.2 q0)
          clear q0
          refine ya_ hK ?_ ?_ (zp_ _) rfl
          · first | rfl | (simp [zx_, asB, undef, g1_, g2_]; done)
          ·
           go_simp
           done
         ·
          have _h := True.intro
          refine ya_ hK ?_ ?_ (zp_ _) rfl
          · first | rfl | (simp [zx_, asB, undef, g1_, g2_]; done)
          ·
           go_simp
           done
         ·
          have _h := True.intro
          refine ya_ hK ?_ ?_ (zp_ _) rfl
          · first | rfl | (simp [zx_, asB, undef, g1_, g2_]; done)
          ·
           go_simp
           done
         ·
          have _h := True.intro
          refine xk_ hK ?_ rfl Try.func137 (by kernel_rfl) rfl #[.int .i64 (zH_ l0 x).f2] ?_ ((zN_.calls k1 _ _ _ T3.out).mono ?_)
          · first | rfl | (simp [zx_, asB, undef, g1_, g2_]; done)
          · simp [Act.eval, g1_, g2_]
          ·
           rintro e_ w'' ⟨rfl, hb_⟩
           exact ⟨_, rfl, (by first | exact hb_ | exact hb_.below), rfl⟩
         ·
          have _h := True.intro
          have q0 := S3.out
          have q1 := eq_true q0
          have q2 := decide_eq_true q0
          have q3 := eq_false (Nat.not_lt.2 q0)
          clear q0
          refine ya_ hK ?_ ?_ (zp_ _) rfl
          · first | rfl | (simp [zx_, asB, undef, g1_, g2_]; done)
          ·
           go_simp
           done
         ·
          have _h := True.intro
          refine ya_ hK ?_ ?_ (zp_ _) rfl
          · first | rfl | (simp [zx_, asB, undef, g1_, g2_]; done)
          ·
           go_simp
           done
         ·
          have _h := True.intro
          refine ya_ hK ?_ ?_ (zp_ _) rfl
          · first | rfl | (simp [zx_, asB, undef, g1_, g2_]; done)
          ·
           go_simp
           done
         ·
          have _h := True.intro
          have HKc := Kd.xc_ HK3.out (below_grow HB.out hg)
          have HLc := HL3.out
          have HS := (yq_.calls A3 c33 (zH_ l0 x).f3 _ w' HKc HLc rfl)
          rw [HNK.out] at HS
          refine xk_ hK ?_ rfl Try.func130 (by kernel_rfl) rfl #[.slice A3 nk c33] ?_ (HS.mono ?_)
          · first | rfl | (simp [zx_, asB, undef, g1_, g2_]; done)
          · simp [Act.eval, g1_, g2_]
          ·
           rintro e_ w'' ⟨rfl, hb_⟩
           exact ⟨_, rfl, (by first | exact hb_ | exact hb_.below), rfl⟩
         ·
          have _h := True.intro
          have HT4 := T4.out
          rw [HNK.out] at HT4
          refine xk_ hK ?_ rfl Try.func137 (by kernel_rfl) rfl #[.int .i64 nk] ?_ ((zN_.calls k1 _ _ w' HT4).mono ?_)
          · first | rfl | (simp [zx_, asB, undef, g1_, g2_]; done)
          · simp [Act.eval, g1_, g2_]
          ·
           rintro e_ w'' ⟨rfl, hb_⟩
           exact ⟨_, rfl, (by first | exact hb_ | exact hb_.below), rfl⟩
         ·
          have _h := True.intro
          have q0 := S4.out
          have q1 := eq_true q0
          have q2 := decide_eq_true q0
          have q3 := eq_false (Nat.not_lt.2 q0)
          clear q0
          refine ya_ hK ?_ ?_ (zp_ _) rfl
          · first | rfl | (simp [zx_, asB, undef, g1_, g2_]; done)
          ·
           go_simp
           done
         ·
          have _h := True.intro
          refine ya_ hK ?_ ?_ (zp_ _) rfl
          · first | rfl | (simp [zx_, asB, undef, g1_, g2_]; done)
          ·
           go_simp
           done
         ·
          have _h := True.intro
          refine ya_ hK ?_ ?_ (zp_ _) rfl
          · first | rfl | (simp [zx_, asB, undef, g1_, g2_]; done)
          ·
           go_simp
           done
         ·
          have _h := True.intro
          have HKc := Kd.xc_ HK3.out (below_grow HB.out hg)
          have HLc := HL3.out
          have HJ := bw_join A3 c33 (zH_ l0 x).f3 w' HKc HLc HLE.out (by have := HZ1.out; omega)
          rw [HNK.out, HCAT.out] at HJ
          refine xk_ hK ?_ rfl Try.func124 (by kernel_rfl) rfl #[.slice A3 nk c33, .string ⟨#[]⟩] ?_ (HJ.mono ?_)
          · first | rfl | (simp [zx_, asB, undef, g1_, g2_]; done)
          · simp [Act.eval, g1_, g2_]
          ·
           rintro e_ w'' ⟨rfl, hb_⟩
           exact ⟨_, rfl, (by first | exact hb_ | exact hb_.below), rfl⟩
         ·
          have _h := True.intro
          have q0 := S5.out
          have q1 := eq_true q0
          have q2 := decide_eq_true q0
          have q3 := eq_false (Nat.not_lt.2 q0)
          clear q0
          refine ya_ hK ?_ ?_ (zp_ _) rfl
          · first | rfl | (simp [zx_, asB, undef, g1_, g2_]; done)
          ·
           go_simp
           done
        case hL9b =>
         intro us w' hg hd
         have h18 := allR_get hd (j := 18) (by rfl)
         simp only [isVal, List.getD_cons_zero, List.getD_cons_succ] at h18
         refine ⟨#[.pointer (some ⟨w.heap.size, 0, none⟩), .string (t1 ++ t2 ++ t3 ++ t4 ++ cat)], by simp [Act.eval, h18], ?_⟩
         refine (bw_write w.heap.size w.heap.size acc (t1 ++ t2 ++ t3 ++ t4 ++ cat) w' (bw_grow HI.out hg) C5.out (below_grow HB.out hg).size).mono ?_
         rintro e w3 ⟨rfl, hi, hb⟩
         refine ⟨_, rfl, ?_⟩
         replace HI := AM hi
         replace HB := AM ((below_grow HB.out hg).trans hb)
         clear hi hb hd h18 hg hs0 hs2 hs3
         simp only [Act.put, List.setIfInBounds_toArray, List.set_cons_zero, List.set_cons_succ]
         go_wp2
         go_roundg k1
         case measure => have := HK1.out; omega
         case rel => exact ⟨(wrap64 (x + 1)), _, re_, HN, ⟨by have := HK1.out; omega⟩, HI, HB⟩
      ·
       rw [if_neg c5] at H2
       exact absurd H2 (by simp)
     ·
      rw [if_neg c4] at H
      exact absurd H (by simp)
    ·
     rw [if_neg c3] at H
     have c3b0 : decide (x < (l0.length : Int)) = false := decide_eq_false c3
     clear c3
     obtain rfl := Option.some.inj H
     go_wp2_with (go_at_call 140; refine (bw_text w.heap.size w.heap.size acc _ HI.out HB.out.size).mono ?_; rintro e w3 ⟨rfl, hb⟩; replace HB := AM (HB.out.trans hb); clear hb)
     go_ret
     exact ⟨rfl, HB.out⟩
/-! ### yh_: function 9 -/
def yh_.f (k : Nat) (l0 : List (S97)) : Option (ByteArray) := (y8_.f l0).bind fun t272 => (if t272 = true then (some (⟨#[]⟩ : ByteArray)) else ((zi_.f k l0).bind fun t273 => (if t273 = true then ((zE_.f k l0).bind fun t274 => (some t274)) else (some (⟨#[]⟩ : ByteArray)))))
theorem yh_.mono : ∀ a0 k, LeO (yh_.f k a0) (yh_.f (k + 1) a0) := by
 intro a0 k
 unfold yh_.f
 repeat' with_reducible first | exact zi_.mono _ _ | exact zE_.mono _ _ | exact LeO.refl _ | exact LeO.none _ | refine LeO.ite ?_ ?_ | refine LeO.bind ?_ (fun _ => ?_)
theorem yh_.calls (k : Nat) (A0 : Option Addr) (c0 : Nat) (l0 : List (S97)) (r : ByteArray) (w : World) (hr0 : Kd.C k97 w A0 l0.length l0) (hc0 : l0.length ≤ c0) (h : yh_.f k l0 = some r) :
 Calls Try.prog 9 #[.slice A0 l0.length c0] w fun e w' => e = .returned (.string r) ∧ Below w.heap.size w w' := by
 have HR0 := AM hr0
 have HC0 := AM hc0
 clear hr0 hc0
 have HB := AM (Below.refl w.heap.size w)
 have H : ((y8_.f l0).bind fun t272 => (if t272 = true then (some (⟨#[]⟩ : ByteArray)) else ((zi_.f k l0).bind fun t273 => (if t273 = true then ((zE_.f k l0).bind fun t274 => (some t274)) else (some (⟨#[]⟩ : ByteArray)))))) = some r := h
 clear h
 obtain ⟨t272, A2, H⟩ := OB H
 try dsimp only at H
 replace A2 := AM A2
 by_cases c3 : t272 = true
 ·
  subst c3
  rw [if_pos rfl] at H
  obtain rfl := Option.some.inj H
  go_enter Try.func9, Try.ntmps9
  go_wp2_with (first | ((with_reducible refine zl_ (f := 54) rfl ?_); refine gl_ (some 4) Try.func54 #[.slice A0 l0.length c0] ?_; (with_reducible refine (y8_.calls _ _ l0 true _ ?side1 ?side2 A2.out).mono ?_); (case side1 => repeat (first | exact HR0.out | (with_reducible refine Kd.yx_ ?_ _) | (with_reducible refine Kd.yw_ ?_ _) | (with_reducible refine Kd.yQ_ ?_))); (case side2 => exact HC0.out); rintro e w' ⟨rfl, ⟨nd, rfl⟩⟩; refine ⟨_, rfl, ?_⟩))
  go_ret
  exact ⟨ri_, bel_⟩
 ·
  replace c3 := Bool.eq_false_iff.mpr c3
  subst c3
  rw [if_neg (show ¬ (false = true) by decide)] at H
  obtain ⟨t273, A4, H⟩ := OB H
  try dsimp only at H
  replace A4 := AM A4
  by_cases c5 : t273 = true
  ·
   subst c5
   rw [if_pos rfl] at H
   obtain ⟨t274, A6, H⟩ := OB H
   try dsimp only at H
   replace A6 := AM A6
   obtain rfl := Option.some.inj H
   go_enter Try.func9, Try.ntmps9
   go_wp2_with (first | ((with_reducible refine zl_ (f := 54) rfl ?_); refine gl_ (some 4) Try.func54 #[.slice A0 l0.length c0] ?_; (with_reducible refine (y8_.calls _ _ l0 false _ ?side1 ?side2 A2.out).mono ?_); (case side1 => repeat (first | exact HR0.out | (with_reducible refine Kd.yx_ ?_ _) | (with_reducible refine Kd.yw_ ?_ _) | (with_reducible refine Kd.yQ_ ?_))); (case side2 => exact HC0.out); rintro e w' ⟨rfl, ⟨nd, rfl⟩⟩; refine ⟨_, rfl, ?_⟩) | (go_at_call 11; (with_reducible refine (zi_.calls k _ _ l0 true _ ?side1 ?side2 A4.out).mono ?_); (case side1 => repeat (first | exact HR0.out | (with_reducible refine Kd.yx_ ?_ _) | (with_reducible refine Kd.yw_ ?_ _) | (with_reducible refine Kd.yQ_ ?_))); (case side2 => exact HC0.out); rintro e w7 ⟨rfl, hb⟩; replace HB := AM (zg_ bel_ hb); (try clear hb)) | ((with_reducible refine zl_ (f := 55) rfl ?_); refine gl_ (some 11) Try.func55 #[.slice A0 l0.length c0] ?_; (with_reducible refine (zE_.calls k _ _ l0 t274 _ ?side1 ?side2 A6.out).mono ?_); (case side1 => repeat (first | exact (Kd.xc_ HR0.out HB.out) | (with_reducible refine Kd.yx_ ?_ _) | (with_reducible refine Kd.yw_ ?_ _) | (with_reducible refine Kd.yQ_ ?_))); (case side2 => exact HC0.out); rintro e w8 ⟨rfl, hb⟩; refine ⟨_, rfl, ?_⟩; replace HB := AM (zg_ bel_ hb); (try clear hb)))
   go_ret
   exact ⟨ri_, bel_⟩
  ·
   replace c5 := Bool.eq_false_iff.mpr c5
   subst c5
   rw [if_neg (show ¬ (false = true) by decide)] at H
   obtain rfl := Option.some.inj H
   go_enter Try.func9, Try.ntmps9
   go_wp2_with (first | ((with_reducible refine zl_ (f := 54) rfl ?_); refine gl_ (some 4) Try.func54 #[.slice A0 l0.length c0] ?_; (with_reducible refine (y8_.calls _ _ l0 false _ ?side1 ?side2 A2.out).mono ?_); (case side1 => repeat (first | exact HR0.out | (with_reducible refine Kd.yx_ ?_ _) | (with_reducible refine Kd.yw_ ?_ _) | (with_reducible refine Kd.yQ_ ?_))); (case side2 => exact HC0.out); rintro e w' ⟨rfl, ⟨nd, rfl⟩⟩; refine ⟨_, rfl, ?_⟩) | (go_at_call 11; (with_reducible refine (zi_.calls k _ _ l0 false _ ?side1 ?side2 A4.out).mono ?_); (case side1 => repeat (first | exact HR0.out | (with_reducible refine Kd.yx_ ?_ _) | (with_reducible refine Kd.yw_ ?_ _) | (with_reducible refine Kd.yQ_ ?_))); (case side2 => exact HC0.out); rintro e w9 ⟨rfl, hb⟩; replace HB := AM (zg_ bel_ hb); (try clear hb)))
   go_ret
   exact ⟨ri_, bel_⟩
end Go.Proofs.Ytfffdndeccipnaa.PFnNodes
