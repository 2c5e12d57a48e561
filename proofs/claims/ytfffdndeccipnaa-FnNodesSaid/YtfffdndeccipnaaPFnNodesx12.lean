import Derived.Test.YtfffdndeccipnaaPFnNodesx0
import Derived.Test.YtfffdndeccipnaaPFnNodesx0
import Derived.WalkLawsBesides
import Derived.Test.YtfffdndeccipnaaKMFnNodes
namespace Go.Proofs.Ytfffdndeccipnaa.PFnNodes
open Go.RowKit Go.Proofs.YtfffdndeccipnaaW.PrintWords Go.Proofs.YtfffdndeccipnaaW.PrintLast Go.Proofs.YtfffdndeccipnaaW.PrintMore Go.Proofs.Ytfffdndeccipnaa.Aut Go.Proofs.Ytfffdndeccipnaa.Reg
attribute [local go_sem] xE_ xC_ max_two min_two xn_ xm_ xD_ xB_
set_option linter.unusedVariables false
set_option linter.unusedSimpArgs false
set_option maxHeartbeats 8000000
set_option maxRecDepth 100000
/-! ### zu_: function 156 -/
mutual
def zu_.j0 : Nat → ByteArray → Bool → Option (Bool)
 | 0, _, _ => none
 | k + 1, x0, x12 => if x12 = true then (some false) else (zu_.l0 k x0 0)
def zu_.l0 : Nat → ByteArray → Int → Option (Bool)
 | 0, _, _ => none
 | k + 1, x0, x3 => if x3 < (x0.size : Int) then (if 0 ≤ x3 then (if (bt x0 x3) ≥ 97 then (if ((bt x0 x3) ≤ 122) then (zu_.l0 k x0 (wrap64 (x3 + 1))) else (if x3 = 0 then (some false) else (if (bt x0 x3) ≥ 48 then (if ((bt x0 x3) ≤ 57) then (zu_.l0 k x0 (wrap64 (x3 + 1))) else (if (bt x0 x3) = 45 then (zu_.l0 k x0 (wrap64 (x3 + 1))) else (some false))) else (if (bt x0 x3) = 45 then (zu_.l0 k x0 (wrap64 (x3 + 1))) else (some false))))) else (if x3 = 0 then (some false) else (if (bt x0 x3) ≥ 48 then (if ((bt x0 x3) ≤ 57) then (zu_.l0 k x0 (wrap64 (x3 + 1))) else (if (bt x0 x3) = 45 then (zu_.l0 k x0 (wrap64 (x3 + 1))) else (some false))) else (if (bt x0 x3) = 45 then (zu_.l0 k x0 (wrap64 (x3 + 1))) else (some false))))) else (none)) else (some true)
end
def zu_.f (k : Nat) (a0 : ByteArray) : Option (Bool) := if (a0.size : Int) < 1 then (zu_.j0 k a0 true) else (zu_.j0 k a0 (decide ((a0.size : Int) > 80)))
theorem zu_.mono_l : ∀ k, (∀ y0 y1, LeO (zu_.j0 k y0 y1) (zu_.j0 (k + 1) y0 y1)) ∧ (∀ y0 y1, LeO (zu_.l0 k y0 y1) (zu_.l0 (k + 1) y0 y1))
 | 0 => ⟨fun _ _ r h => by simp [zu_.j0] at h, fun _ _ r h => by simp [zu_.l0] at h⟩
 | k + 1 => by
  obtain ⟨ih0, ih1⟩ := zu_.mono_l k
  refine ⟨?_, ?_⟩
  ·
   intro y0 y1
   unfold zu_.j0
   repeat' with_reducible first | exact ih0 _ _ | exact ih1 _ _ | exact LeO.refl _ | exact LeO.none _ | refine LeO.ite ?_ ?_ | refine LeO.bind ?_ (fun _ => ?_)
  ·
   intro y0 y1
   unfold zu_.l0
   repeat' with_reducible first | exact ih0 _ _ | exact ih1 _ _ | exact LeO.refl _ | exact LeO.none _ | refine LeO.ite ?_ ?_ | refine LeO.bind ?_ (fun _ => ?_)
theorem zu_.mono : ∀ a0 k, LeO (zu_.f k a0) (zu_.f (k + 1) a0) := by
 intro a0 k
 obtain ⟨ih0, ih1⟩ := zu_.mono_l k
 unfold zu_.f
 repeat' with_reducible first | exact ih0 _ _ | exact ih1 _ _ | exact LeO.refl _ | exact LeO.none _ | refine LeO.ite ?_ ?_ | refine LeO.bind ?_ (fun _ => ?_)
theorem zu_.calls (k : Nat) (a0 : ByteArray) (r : Bool) (w : World) (h : zu_.f k a0 = some r) :
 Calls Try.prog 156 #[.string a0] w fun e w' => e = .returned (.bool r) ∧ xp_ w w' := by
 have H : (if (a0.size : Int) < 1 then (zu_.j0 k a0 true) else (zu_.j0 k a0 (decide ((a0.size : Int) > 80)))) = some r := h
 clear h
 have HC2 := AM H
 clear H
 go_enter Try.func156, Try.ntmps156
 go_upto_region 1 with (fail)
 go_cut [12] (fun v12 wc => ∃ (kq : Nat) (x12_1 : Bool), v12 = .bool x12_1 ∧ zd_ (zu_.j0 kq a0 x12_1 = some r) ∧ zd_ (kq ≤ k) ∧ xp_ w wc)
 case first =>
  have H := HC2.out
  clear HC2
  by_cases c3 : (a0.size : Int) < 1
  ·
   rw [if_pos c3] at H
   have c3b0 : decide ((a0.size : Int) < 1) = true := decide_eq_true c3
   have c3b1 : decide (a0.size < 1) = true := decide_eq_true (by omega)
   clear c3
   (first | rw [c3b0] | (simp only [i64_w, i32_w]; rw [c3b0]) | skip)
   have H' := AM H
   clear H
   go_wp2
   go_meet
   case rel => exact ⟨_, (true), re_, H', ⟨by first | omega | exact Nat.le_refl _⟩, dr_⟩
  ·
   rw [if_neg c3] at H
   have c3b0 : decide ((a0.size : Int) < 1) = false := decide_eq_false c3
   have c3b1 : decide (a0.size < 1) = false := decide_eq_false (by omega)
   clear c3
   (first | rw [c3b0] | (simp only [i64_w, i32_w]; rw [c3b0]) | skip)
   have H' := AM H
   clear H
   go_wp2
   go_meet
   case rel => exact ⟨_, (decide ((a0.size : Int) > 80)), re_, H', ⟨by first | omega | exact Nat.le_refl _⟩, dr_⟩
 case rest =>
  clear HC2
  (try clear c3b0); (try clear c3b1)
  obtain ⟨kq, x12_1, rfl, HA, HJ1, ⟨mc1, rfl⟩⟩ := hcut
  cases kq with
  | zero => exact absurd HA.out (by simp [zu_.j0])
  | succ kj1 =>
   have H := HA.out
   clear HA
   simp only [zu_.j0] at H
   by_cases c4 : x12_1 = true
   ·
    subst c4
    rw [if_pos rfl] at H
    obtain rfl := Option.some.inj H
    go_wp2
    go_ret
    exact ⟨re_, dr_⟩
   ·
    replace c4 := Bool.eq_false_iff.mpr c4
    subst c4
    rw [if_neg (show ¬ (false = true) by decide)] at H
    have H' := AM H
    clear H
    go_wp2
    go_loopg [3] kj1 (fun kq v3 w' => ∃ (x3_2 : Int), v3 = .int .i64 x3_2 ∧ zd_ (zu_.l0 kq a0 x3_2 = some r) ∧ zd_ (kq ≤ kj1) ∧ xp_ w w')
    case atStart => exact ⟨(0), re_, H', ⟨Nat.le_refl _⟩, dr_⟩
    case round =>
     clear H'
     (try clear c4)
     obtain ⟨x3_2, rfl, HA, HK2, ⟨m2, rfl⟩⟩ := hrel
     cases gk with
     | zero => exact absurd HA.out (by simp [zu_.l0])
     | succ k2 =>
      have H := HA.out
      clear HA
      simp only [zu_.l0] at H
      by_cases c5 : x3_2 < (a0.size : Int)
      ·
       rw [if_pos c5] at H
       have c5b0 : decide (x3_2 < (a0.size : Int)) = true := decide_eq_true c5
       clear c5
       by_cases c6 : 0 ≤ x3_2
       ·
        rw [if_pos c6] at H
        have c6b0 : decide (0 ≤ x3_2) = true := decide_eq_true c6
        clear c6
        by_cases c8 : (bt a0 x3_2) ≥ 97
        ·
         rw [if_pos c8] at H
         have c8b0 : decide (97 ≤ (bt a0 x3_2)) = true := decide_eq_true c8
         clear c8
         by_cases c9 : ((bt a0 x3_2) ≤ 122)
         ·
          rw [if_pos c9] at H
          have c9b0 : decide ((bt a0 x3_2) ≤ 122) = true := decide_eq_true c9
          clear c9
          have H' := AM H
          clear H
          have p7 : 0 ≤ (x3_2 : Int) := of_decide_eq_true asm_
          have q7 : x3_2 < (a0.size : Int) := of_decide_eq_true asm_
          have hx7 := bt_at a0 x3_2
          replace p7 := eq_true p7
          replace q7 := eq_true q7
          go_wp2
          go_roundg k2
          case measure => have := HJ1.out; have := HK2.out; omega
          case rel => exact ⟨(wrap64 (x3_2 + 1)), re_, H', ⟨by have := HJ1.out; have := HK2.out; omega⟩, dr_⟩
         ·
          rw [if_neg c9] at H
          have c9b0 : decide ((bt a0 x3_2) ≤ 122) = false := decide_eq_false c9
          clear c9
          by_cases c10 : x3_2 = 0
          ·
           rw [if_pos c10] at H
           have c10b0 : (x3_2 == 0) = true := beq_iff_eq.mpr c10
           have c10b1 : (x3_2 != 0) = false := bne_eq_false_iff_eq.mpr c10
           clear c10
           obtain rfl := Option.some.inj H
           have p7 : 0 ≤ (x3_2 : Int) := of_decide_eq_true asm_
           have q7 : x3_2 < (a0.size : Int) := of_decide_eq_true asm_
           have hx7 := bt_at a0 x3_2
           replace p7 := eq_true p7
           replace q7 := eq_true q7
           go_wp2
           go_ret
           exact ⟨re_, dr_⟩
          ·
           rw [if_neg c10] at H
           have c10b0 : (x3_2 == 0) = false := beq_eq_false_iff_ne.mpr c10
           have c10b1 : (x3_2 != 0) = true := bne_iff_ne.mpr c10
           by_cases c11 : (bt a0 x3_2) ≥ 48
           ·
            rw [if_pos c11] at H
            have c11b0 : decide (48 ≤ (bt a0 x3_2)) = true := decide_eq_true c11
            clear c11
            by_cases c12 : ((bt a0 x3_2) ≤ 57)
            ·
             rw [if_pos c12] at H
             have c12b0 : decide ((bt a0 x3_2) ≤ 57) = true := decide_eq_true c12
             clear c12
             have H' := AM H
             clear H
             have p7 : 0 ≤ (x3_2 : Int) := of_decide_eq_true asm_
             have q7 : x3_2 < (a0.size : Int) := of_decide_eq_true asm_
             have hx7 := bt_at a0 x3_2
             replace p7 := eq_true p7
             replace q7 := eq_true q7
             go_wp2
             go_roundg k2
             case measure => have := HJ1.out; have := HK2.out; omega
             case rel => exact ⟨(wrap64 (x3_2 + 1)), re_, H', ⟨by have := HJ1.out; have := HK2.out; omega⟩, dr_⟩
            ·
             rw [if_neg c12] at H
             have c12b0 : decide ((bt a0 x3_2) ≤ 57) = false := decide_eq_false c12
             clear c12
             by_cases c13 : (bt a0 x3_2) = 45
             ·
              rw [if_pos c13] at H
              have c13b0 : ((bt a0 x3_2) == 45) = true := beq_iff_eq.mpr c13
              have c13b1 : ((bt a0 x3_2) != 45) = false := bne_eq_false_iff_eq.mpr c13
              clear c13
              have H' := AM H
              clear H
              have p7 : 0 ≤ (x3_2 : Int) := of_decide_eq_true asm_
              have q7 : x3_2 < (a0.size : Int) := of_decide_eq_true asm_
              have hx7 := bt_at a0 x3_2
              replace p7 := eq_true p7
              replace q7 := eq_true q7
              go_wp2
              go_roundg k2
              case measure => have := HJ1.out; have := HK2.out; omega
              case rel => exact ⟨(wrap64 (x3_2 + 1)), re_, H', ⟨by have := HJ1.out; have := HK2.out; omega⟩, dr_⟩
             ·
              rw [if_neg c13] at H
              have c13b0 : ((bt a0 x3_2) == 45) = false := beq_eq_false_iff_ne.mpr c13
              have c13b1 : ((bt a0 x3_2) != 45) = true := bne_iff_ne.mpr c13
              obtain rfl := Option.some.inj H
              have p7 : 0 ≤ (x3_2 : Int) := of_decide_eq_true asm_
              have q7 : x3_2 < (a0.size : Int) := of_decide_eq_true asm_
              have hx7 := bt_at a0 x3_2
              replace p7 := eq_true p7
              replace q7 := eq_true q7
              go_wp2
              go_ret
              exact ⟨re_, dr_⟩
           ·
            rw [if_neg c11] at H
            have c11b0 : decide (48 ≤ (bt a0 x3_2)) = false := decide_eq_false c11
            clear c11
            by_cases c14 : (bt a0 x3_2) = 45
            ·
             rw [if_pos c14] at H
             have c14b0 : ((bt a0 x3_2) == 45) = true := beq_iff_eq.mpr c14
             have c14b1 : ((bt a0 x3_2) != 45) = false := bne_eq_false_iff_eq.mpr c14
             clear c14
             have H' := AM H
             clear H
             have p7 : 0 ≤ (x3_2 : Int) := of_decide_eq_true asm_
             have q7 : x3_2 < (a0.size : Int) := of_decide_eq_true asm_
             have hx7 := bt_at a0 x3_2
             replace p7 := eq_true p7
             replace q7 := eq_true q7
             go_wp2
             go_roundg k2
             case measure => have := HJ1.out; have := HK2.out; omega
             case rel => exact ⟨(wrap64 (x3_2 + 1)), re_, H', ⟨by have := HJ1.out; have := HK2.out; omega⟩, dr_⟩
            ·
             rw [if_neg c14] at H
             have c14b0 : ((bt a0 x3_2) == 45) = false := beq_eq_false_iff_ne.mpr c14
             have c14b1 : ((bt a0 x3_2) != 45) = true := bne_iff_ne.mpr c14
             obtain rfl := Option.some.inj H
             have p7 : 0 ≤ (x3_2 : Int) := of_decide_eq_true asm_
             have q7 : x3_2 < (a0.size : Int) := of_decide_eq_true asm_
             have hx7 := bt_at a0 x3_2
             replace p7 := eq_true p7
             replace q7 := eq_true q7
             go_wp2
             go_ret
             exact ⟨re_, dr_⟩
        ·
         rw [if_neg c8] at H
         have c8b0 : decide (97 ≤ (bt a0 x3_2)) = false := decide_eq_false c8
         clear c8
         by_cases c15 : x3_2 = 0
         ·
          rw [if_pos c15] at H
          have c15b0 : (x3_2 == 0) = true := beq_iff_eq.mpr c15
          have c15b1 : (x3_2 != 0) = false := bne_eq_false_iff_eq.mpr c15
          clear c15
          obtain rfl := Option.some.inj H
          have p7 : 0 ≤ (x3_2 : Int) := of_decide_eq_true asm_
          have q7 : x3_2 < (a0.size : Int) := of_decide_eq_true asm_
          have hx7 := bt_at a0 x3_2
          replace p7 := eq_true p7
          replace q7 := eq_true q7
          go_wp2
          go_ret
          exact ⟨re_, dr_⟩
         ·
          rw [if_neg c15] at H
          have c15b0 : (x3_2 == 0) = false := beq_eq_false_iff_ne.mpr c15
          have c15b1 : (x3_2 != 0) = true := bne_iff_ne.mpr c15
          by_cases c16 : (bt a0 x3_2) ≥ 48
          ·
           rw [if_pos c16] at H
           have c16b0 : decide (48 ≤ (bt a0 x3_2)) = true := decide_eq_true c16
           clear c16
           by_cases c17 : ((bt a0 x3_2) ≤ 57)
           ·
            rw [if_pos c17] at H
            have c17b0 : decide ((bt a0 x3_2) ≤ 57) = true := decide_eq_true c17
            clear c17
            have H' := AM H
            clear H
            have p7 : 0 ≤ (x3_2 : Int) := of_decide_eq_true asm_
            have q7 : x3_2 < (a0.size : Int) := of_decide_eq_true asm_
            have hx7 := bt_at a0 x3_2
            replace p7 := eq_true p7
            replace q7 := eq_true q7
            go_wp2
            go_roundg k2
            case measure => have := HJ1.out; have := HK2.out; omega
            case rel => exact ⟨(wrap64 (x3_2 + 1)), re_, H', ⟨by have := HJ1.out; have := HK2.out; omega⟩, dr_⟩
           ·
            rw [if_neg c17] at H
            have c17b0 : decide ((bt a0 x3_2) ≤ 57) = false := decide_eq_false c17
            clear c17
            by_cases c18 : (bt a0 x3_2) = 45
            ·
             rw [if_pos c18] at H
             have c18b0 : ((bt a0 x3_2) == 45) = true := beq_iff_eq.mpr c18
             have c18b1 : ((bt a0 x3_2) != 45) = false := bne_eq_false_iff_eq.mpr c18
             clear c18
             have H' := AM H
             clear H
             have p7 : 0 ≤ (x3_2 : Int) := of_decide_eq_true asm_
             have q7 : x3_2 < (a0.size : Int) := of_decide_eq_true asm_
             have hx7 := bt_at a0 x3_2
             replace p7 := eq_true p7
             replace q7 := eq_true q7
             go_wp2
             go_roundg k2
             case measure => have := HJ1.out; have := HK2.out; omega
             case rel => exact ⟨(wrap64 (x3_2 + 1)), re_, H', ⟨by have := HJ1.out; have := HK2.out; omega⟩, dr_⟩
            ·
             rw [if_neg c18] at H
             have c18b0 : ((bt a0 x3_2) == 45) = false := beq_eq_false_iff_ne.mpr c18
             have c18b1 : ((bt a0 x3_2) != 45) = true := bne_iff_ne.mpr c18
             obtain rfl := Option.some.inj H
             have p7 : 0 ≤ (x3_2 : Int) := of_decide_eq_true asm_
             have q7 : x3_2 < (a0.size : Int) := of_decide_eq_true asm_
             have hx7 := bt_at a0 x3_2
             replace p7 := eq_true p7
             replace q7 := eq_true q7
             go_wp2
             go_ret
             exact ⟨re_, dr_⟩
          ·
           rw [if_neg c16] at H
           have c16b0 : decide (48 ≤ (bt a0 x3_2)) = false := decide_eq_false c16
           clear c16
           by_cases c19 : (bt a0 x3_2) = 45
           ·
            rw [if_pos c19] at H
            have c19b0 : ((bt a0 x3_2) == 45) = true := beq_iff_eq.mpr c19
            have c19b1 : ((bt a0 x3_2) != 45) = false := bne_eq_false_iff_eq.mpr c19
            clear c19
            have H' := AM H
            clear H
            have p7 : 0 ≤ (x3_2 : Int) := of_decide_eq_true asm_
            have q7 : x3_2 < (a0.size : Int) := of_decide_eq_true asm_
            have hx7 := bt_at a0 x3_2
            replace p7 := eq_true p7
            replace q7 := eq_true q7
            go_wp2
            go_roundg k2
            case measure => have := HJ1.out; have := HK2.out; omega
            case rel => exact ⟨(wrap64 (x3_2 + 1)), re_, H', ⟨by have := HJ1.out; have := HK2.out; omega⟩, dr_⟩
           ·
            rw [if_neg c19] at H
            have c19b0 : ((bt a0 x3_2) == 45) = false := beq_eq_false_iff_ne.mpr c19
            have c19b1 : ((bt a0 x3_2) != 45) = true := bne_iff_ne.mpr c19
            obtain rfl := Option.some.inj H
            have p7 : 0 ≤ (x3_2 : Int) := of_decide_eq_true asm_
            have q7 : x3_2 < (a0.size : Int) := of_decide_eq_true asm_
            have hx7 := bt_at a0 x3_2
            replace p7 := eq_true p7
            replace q7 := eq_true q7
            go_wp2
            go_ret
            exact ⟨re_, dr_⟩
       ·
        rw [if_neg c6] at H
        exact absurd H (by simp)
      ·
       rw [if_neg c5] at H
       have c5b0 : decide (x3_2 < (a0.size : Int)) = false := decide_eq_false c5
       clear c5
       obtain rfl := Option.some.inj H
       go_wp2
       go_ret
       exact ⟨re_, dr_⟩
/-! ### zm_: function 141 -/
mutual
def zm_.j0 : Nat → Bool → ByteArray → Bool → Int → List ByteArray → Option (Bool)
 | 0, _, _, _, _, _ => none
 | k + 1, x38, x276000, x276001, x276002, x276003 => if x38 = true then (some false) else (zm_.l0 k 0 x276000 x276001 x276002 x276003)
def zm_.l0 : Nat → Int → ByteArray → Bool → Int → List ByteArray → Option (Bool)
 | 0, _, _, _, _, _ => none
 | k + 1, x3, x276000, x276001, x276002, x276003 => if x3 < (x276003.length : Int) then (if 0 ≤ x3 then (if ((rdOf ByteArray.empty x276003 x3).size : Int) = 32 then (zm_.l0 k (wrap64 (x3 + 1)) x276000 x276001 x276002 x276003) else (some false)) else (none)) else (some true)
end
def zm_.f (k : Nat) (a0_0 : ByteArray) (a0_1 : Bool) (a0_2 : Int) (l0_3 : List ByteArray) : Option (Bool) := (zu_.f k a0_0).bind fun t276 => (if t276 = true then (if (l0_3.length : Int) > 100 then (zm_.j0 k true a0_0 a0_1 a0_2 l0_3) else (if a0_1 = true then (if a0_2 = 0 then (if (l0_3.length : Int) = 1 then (if a0_2 < 0 then (zm_.j0 k true a0_0 a0_1 a0_2 l0_3) else (zm_.j0 k (decide (a0_2 > 1500)) a0_0 a0_1 a0_2 l0_3)) else (zm_.j0 k true a0_0 a0_1 a0_2 l0_3)) else (zm_.j0 k true a0_0 a0_1 a0_2 l0_3)) else (if a0_2 < 0 then (zm_.j0 k true a0_0 a0_1 a0_2 l0_3) else (zm_.j0 k (decide (a0_2 > 1500)) a0_0 a0_1 a0_2 l0_3)))) else (zm_.j0 k true a0_0 a0_1 a0_2 l0_3))
theorem zm_.mono_l : ∀ k, (∀ y0 y1 y2 y3 y4, LeO (zm_.j0 k y0 y1 y2 y3 y4) (zm_.j0 (k + 1) y0 y1 y2 y3 y4)) ∧ (∀ y0 y1 y2 y3 y4, LeO (zm_.l0 k y0 y1 y2 y3 y4) (zm_.l0 (k + 1) y0 y1 y2 y3 y4))
 | 0 => ⟨fun _ _ _ _ _ r h => by simp [zm_.j0] at h, fun _ _ _ _ _ r h => by simp [zm_.l0] at h⟩
 | k + 1 => by
  obtain ⟨ih0, ih1⟩ := zm_.mono_l k
  refine ⟨?_, ?_⟩
  ·
   intro y0 y1 y2 y3 y4
   unfold zm_.j0
   repeat' with_reducible first | exact ih0 _ _ _ _ _ | exact ih1 _ _ _ _ _ | exact zu_.mono _ _ | exact LeO.refl _ | exact LeO.none _ | refine LeO.ite ?_ ?_ | refine LeO.bind ?_ (fun _ => ?_)
  ·
   intro y0 y1 y2 y3 y4
   unfold zm_.l0
   repeat' with_reducible first | exact ih0 _ _ _ _ _ | exact ih1 _ _ _ _ _ | exact zu_.mono _ _ | exact LeO.refl _ | exact LeO.none _ | refine LeO.ite ?_ ?_ | refine LeO.bind ?_ (fun _ => ?_)
theorem zm_.mono : ∀ a0 a1 a2 a3 k, LeO (zm_.f k a0 a1 a2 a3) (zm_.f (k + 1) a0 a1 a2 a3) := by
 intro a0 a1 a2 a3 k
 obtain ⟨ih0, ih1⟩ := zm_.mono_l k
 unfold zm_.f
 repeat' with_reducible first | exact ih0 _ _ _ _ _ | exact ih1 _ _ _ _ _ | exact zu_.mono _ _ | exact LeO.refl _ | exact LeO.none _ | refine LeO.ite ?_ ?_ | refine LeO.bind ?_ (fun _ => ?_)
theorem zm_.calls (k : Nat) (a0_0 : ByteArray) (a0_1 : Bool) (a0_2 : Int) (A0_3 : Option Addr) (c0_3 : Nat) (l0_3 : List ByteArray) (r : Bool) (w : World) (hr0_3 : Kd.C Kd.string w A0_3 l0_3.length l0_3) (hc0_3 : l0_3.length ≤ c0_3) (h : zm_.f k a0_0 a0_1 a0_2 l0_3 = some r) :
 Calls Try.prog 141 #[.agg #[.string a0_0, .bool a0_1, .int .i64 a0_2, .slice A0_3 l0_3.length c0_3]] w fun e w' => e = .returned (.bool r) ∧ Below w.heap.size w w' := by
 have hu97 := Try.underlying97
 have HR0_3 := AM hr0_3
 have HC0_3 := AM hc0_3
 clear hr0_3 hc0_3
 have HB := AM (Below.refl w.heap.size w)
 have H : ((zu_.f k a0_0).bind fun t276 => (if t276 = true then (if (l0_3.length : Int) > 100 then (zm_.j0 k true a0_0 a0_1 a0_2 l0_3) else (if a0_1 = true then (if a0_2 = 0 then (if (l0_3.length : Int) = 1 then (if a0_2 < 0 then (zm_.j0 k true a0_0 a0_1 a0_2 l0_3) else (zm_.j0 k (decide (a0_2 > 1500)) a0_0 a0_1 a0_2 l0_3)) else (zm_.j0 k true a0_0 a0_1 a0_2 l0_3)) else (zm_.j0 k true a0_0 a0_1 a0_2 l0_3)) else (if a0_2 < 0 then (zm_.j0 k true a0_0 a0_1 a0_2 l0_3) else (zm_.j0 k (decide (a0_2 > 1500)) a0_0 a0_1 a0_2 l0_3)))) else (zm_.j0 k true a0_0 a0_1 a0_2 l0_3))) = some r := h
 clear h
 have HC2 := AM H
 clear H
 go_enter Try.func141, Try.ntmps141
 go_upto_region 1 with (first | ((with_reducible refine z6_ (N := 1) rfl ?_); (try (refine y6_ (by rfl) ?_; dsimp only)); refine be_ 1 #[.string a0_0, .bool a0_1, .int .i64 a0_2, .slice A0_3 l0_3.length c0_3] 97 ?_; intro gb275 hg w3 hbox hb; have BK275 := AM hbox; have GW275 := AM ((by rw [hg]; exact (zj_ bel_) : w.heap.size ≤ gb275)); have GE275 := AM ((by rw [hg]; exact (zj_ bel_) : w.heap.size ≤ gb275)); replace HB := AM (zg_ bel_ hb); clear hb hbox hg))
 (try simp only [Act.put, List.setIfInBounds_toArray, List.set_cons_zero, List.set_cons_succ])
 go_cut [38] (fun v38 wc => ∃ (kq : Nat) (x38_1 : Bool), v38 = .bool x38_1 ∧ zd_ (zm_.j0 kq x38_1 a0_0 a0_1 a0_2 l0_3 = some r) ∧ zd_ (kq ≤ k) ∧ zd_ (wc.heap[gb275]? = some (.cells #[.string a0_0, .bool a0_1, .int .i64 a0_2, (.slice A0_3 l0_3.length c0_3)] 97 (0, 0))) ∧ zd_ (Below w.heap.size w wc))
 case first =>
  have H := HC2.out
  clear HC2
  obtain ⟨t276, A4, H⟩ := OB H
  try dsimp only at H
  replace A4 := AM A4
  by_cases c5 : t276 = true
  ·
   subst c5
   rw [if_pos rfl] at H
   by_cases c6 : (l0_3.length : Int) > 100
   ·
    rw [if_pos c6] at H
    have c6b0 : decide (100 < (l0_3.length : Int)) = true := decide_eq_true c6
    have c6b1 : decide (100 < l0_3.length) = true := decide_eq_true (by omega)
    clear c6
    (first | rw [c6b0] | (simp only [i64_w, i32_w]; rw [c6b0]) | skip)
    have H' := AM H
    clear H
    have hcz7_0 : w3.cell? ⟨gb275, 0, none⟩ = some (.string a0_0) := (zb_ BK275.out 0).trans rfl
    have hcz7_1 : w3.cell? ⟨gb275, 1, none⟩ = some (.bool a0_1) := (zb_ BK275.out 1).trans rfl
    have hcz7_2 : w3.cell? ⟨gb275, 2, none⟩ = some (.int .i64 a0_2) := (zb_ BK275.out 2).trans rfl
    have hcz7_3 : w3.cell? ⟨gb275, 3, none⟩ = some (.slice A0_3 l0_3.length c0_3) := (zb_ BK275.out 3).trans rfl
    have hfz7_0 := za_ BK275.out 0
    have hfz7_1 := za_ BK275.out 1
    have hfz7_2 := za_ BK275.out 2
    have hfz7_3 := za_ BK275.out 3
    go_wp2_with (first | ((with_reducible refine zl_ (f := 156) rfl ?_); refine gl_ (some 6) Try.func156 #[.string a0_0] ?_; (with_reducible refine (zu_.calls k a0_0 true _ A4.out).mono ?_); rintro e w' ⟨rfl, ⟨nd, rfl⟩⟩; refine ⟨_, rfl, ?_⟩))
    go_meet
    case rel => exact ⟨_, (true), re_, H', ⟨by first | omega | exact Nat.le_refl _⟩, ⟨bk_ BK275.out⟩, ⟨bel_⟩⟩
   ·
    rw [if_neg c6] at H
    have c6b0 : decide (100 < (l0_3.length : Int)) = false := decide_eq_false c6
    have c6b1 : decide (100 < l0_3.length) = false := decide_eq_false (by omega)
    clear c6
    (first | rw [c6b0] | (simp only [i64_w, i32_w]; rw [c6b0]) | skip)
    by_cases c8 : a0_1 = true
    ·
     subst c8
     rw [if_pos rfl] at H
     by_cases c9 : a0_2 = 0
     ·
      rw [if_pos c9] at H
      have c9b0 : (a0_2 == 0) = true := beq_iff_eq.mpr c9
      have c9b1 : (a0_2 != 0) = false := bne_eq_false_iff_eq.mpr c9
      clear c9
      by_cases c10 : (l0_3.length : Int) = 1
      ·
       rw [if_pos c10] at H
       have c10b0 : ((l0_3.length : Int) == 1) = true := beq_iff_eq.mpr c10
       have c10b1 : ((l0_3.length : Int) != 1) = false := bne_eq_false_iff_eq.mpr c10
       clear c10
       by_cases c11 : a0_2 < 0
       ·
        rw [if_pos c11] at H
        have c11b0 : decide (a0_2 < 0) = true := decide_eq_true c11
        clear c11
        have H' := AM H
        clear H
        have hcz12_0 : w3.cell? ⟨gb275, 0, none⟩ = some (.string a0_0) := (zb_ BK275.out 0).trans rfl
        have hcz12_1 : w3.cell? ⟨gb275, 1, none⟩ = some (.bool true) := (zb_ BK275.out 1).trans rfl
        have hcz12_2 : w3.cell? ⟨gb275, 2, none⟩ = some (.int .i64 a0_2) := (zb_ BK275.out 2).trans rfl
        have hcz12_3 : w3.cell? ⟨gb275, 3, none⟩ = some (.slice A0_3 l0_3.length c0_3) := (zb_ BK275.out 3).trans rfl
        have hfz12_0 := za_ BK275.out 0
        have hfz12_1 := za_ BK275.out 1
        have hfz12_2 := za_ BK275.out 2
        have hfz12_3 := za_ BK275.out 3
        go_wp2_with (first | ((with_reducible refine zl_ (f := 156) rfl ?_); refine gl_ (some 6) Try.func156 #[.string a0_0] ?_; (with_reducible refine (zu_.calls k a0_0 true _ A4.out).mono ?_); rintro e w' ⟨rfl, ⟨nd, rfl⟩⟩; refine ⟨_, rfl, ?_⟩))
        go_meet
        case rel => exact ⟨_, (true), re_, H', ⟨by first | omega | exact Nat.le_refl _⟩, ⟨bk_ BK275.out⟩, ⟨bel_⟩⟩
       ·
        rw [if_neg c11] at H
        have c11b0 : decide (a0_2 < 0) = false := decide_eq_false c11
        clear c11
        have H' := AM H
        clear H
        have hcz13_0 : w3.cell? ⟨gb275, 0, none⟩ = some (.string a0_0) := (zb_ BK275.out 0).trans rfl
        have hcz13_1 : w3.cell? ⟨gb275, 1, none⟩ = some (.bool true) := (zb_ BK275.out 1).trans rfl
        have hcz13_2 : w3.cell? ⟨gb275, 2, none⟩ = some (.int .i64 a0_2) := (zb_ BK275.out 2).trans rfl
        have hcz13_3 : w3.cell? ⟨gb275, 3, none⟩ = some (.slice A0_3 l0_3.length c0_3) := (zb_ BK275.out 3).trans rfl
        have hfz13_0 := za_ BK275.out 0
        have hfz13_1 := za_ BK275.out 1
        have hfz13_2 := za_ BK275.out 2
        have hfz13_3 := za_ BK275.out 3
        go_wp2_with (first | ((with_reducible refine zl_ (f := 156) rfl ?_); refine gl_ (some 6) Try.func156 #[.string a0_0] ?_; (with_reducible refine (zu_.calls k a0_0 true _ A4.out).mono ?_); rintro e w' ⟨rfl, ⟨nd, rfl⟩⟩; refine ⟨_, rfl, ?_⟩))
        go_meet
        case rel => exact ⟨_, (decide (a0_2 > 1500)), re_, H', ⟨by first | omega | exact Nat.le_refl _⟩, ⟨bk_ BK275.out⟩, ⟨bel_⟩⟩
      ·
       rw [if_neg c10] at H
       have c10b0 : ((l0_3.length : Int) == 1) = false := beq_eq_false_iff_ne.mpr c10
       have c10b1 : ((l0_3.length : Int) != 1) = true := bne_iff_ne.mpr c10
       have H' := AM H
       clear H
       have hcz14_0 : w3.cell? ⟨gb275, 0, none⟩ = some (.string a0_0) := (zb_ BK275.out 0).trans rfl
       have hcz14_1 : w3.cell? ⟨gb275, 1, none⟩ = some (.bool true) := (zb_ BK275.out 1).trans rfl
       have hcz14_2 : w3.cell? ⟨gb275, 2, none⟩ = some (.int .i64 a0_2) := (zb_ BK275.out 2).trans rfl
       have hcz14_3 : w3.cell? ⟨gb275, 3, none⟩ = some (.slice A0_3 l0_3.length c0_3) := (zb_ BK275.out 3).trans rfl
       have hfz14_0 := za_ BK275.out 0
       have hfz14_1 := za_ BK275.out 1
       have hfz14_2 := za_ BK275.out 2
       have hfz14_3 := za_ BK275.out 3
       go_wp2_with (first | ((with_reducible refine zl_ (f := 156) rfl ?_); refine gl_ (some 6) Try.func156 #[.string a0_0] ?_; (with_reducible refine (zu_.calls k a0_0 true _ A4.out).mono ?_); rintro e w' ⟨rfl, ⟨nd, rfl⟩⟩; refine ⟨_, rfl, ?_⟩))
       go_meet
       case rel => exact ⟨_, (true), re_, H', ⟨by first | omega | exact Nat.le_refl _⟩, ⟨bk_ BK275.out⟩, ⟨bel_⟩⟩
     ·
      rw [if_neg c9] at H
      have c9b0 : (a0_2 == 0) = false := beq_eq_false_iff_ne.mpr c9
      have c9b1 : (a0_2 != 0) = true := bne_iff_ne.mpr c9
      have H' := AM H
      clear H
      have hcz15_0 : w3.cell? ⟨gb275, 0, none⟩ = some (.string a0_0) := (zb_ BK275.out 0).trans rfl
      have hcz15_1 : w3.cell? ⟨gb275, 1, none⟩ = some (.bool true) := (zb_ BK275.out 1).trans rfl
      have hcz15_2 : w3.cell? ⟨gb275, 2, none⟩ = some (.int .i64 a0_2) := (zb_ BK275.out 2).trans rfl
      have hcz15_3 : w3.cell? ⟨gb275, 3, none⟩ = some (.slice A0_3 l0_3.length c0_3) := (zb_ BK275.out 3).trans rfl
      have hfz15_0 := za_ BK275.out 0
      have hfz15_1 := za_ BK275.out 1
      have hfz15_2 := za_ BK275.out 2
      have hfz15_3 := za_ BK275.out 3
      go_wp2_with (first | ((with_reducible refine zl_ (f := 156) rfl ?_); refine gl_ (some 6) Try.func156 #[.string a0_0] ?_; (with_reducible refine (zu_.calls k a0_0 true _ A4.out).mono ?_); rintro e w' ⟨rfl, ⟨nd, rfl⟩⟩; refine ⟨_, rfl, ?_⟩))
      go_meet
      case rel => exact ⟨_, (true), re_, H', ⟨by first | omega | exact Nat.le_refl _⟩, ⟨bk_ BK275.out⟩, ⟨bel_⟩⟩
    ·
     replace c8 := Bool.eq_false_iff.mpr c8
     subst c8
     rw [if_neg (show ¬ (false = true) by decide)] at H
     by_cases c16 : a0_2 < 0
     ·
      rw [if_pos c16] at H
      have c16b0 : decide (a0_2 < 0) = true := decide_eq_true c16
      clear c16
      have H' := AM H
      clear H
      have hcz17_0 : w3.cell? ⟨gb275, 0, none⟩ = some (.string a0_0) := (zb_ BK275.out 0).trans rfl
      have hcz17_1 : w3.cell? ⟨gb275, 1, none⟩ = some (.bool false) := (zb_ BK275.out 1).trans rfl
      have hcz17_2 : w3.cell? ⟨gb275, 2, none⟩ = some (.int .i64 a0_2) := (zb_ BK275.out 2).trans rfl
      have hcz17_3 : w3.cell? ⟨gb275, 3, none⟩ = some (.slice A0_3 l0_3.length c0_3) := (zb_ BK275.out 3).trans rfl
      have hfz17_0 := za_ BK275.out 0
      have hfz17_1 := za_ BK275.out 1
      have hfz17_2 := za_ BK275.out 2
      have hfz17_3 := za_ BK275.out 3
      go_wp2_with (first | ((with_reducible refine zl_ (f := 156) rfl ?_); refine gl_ (some 6) Try.func156 #[.string a0_0] ?_; (with_reducible refine (zu_.calls k a0_0 true _ A4.out).mono ?_); rintro e w' ⟨rfl, ⟨nd, rfl⟩⟩; refine ⟨_, rfl, ?_⟩))
      go_meet
      case rel => exact ⟨_, (true), re_, H', ⟨by first | omega | exact Nat.le_refl _⟩, ⟨bk_ BK275.out⟩, ⟨bel_⟩⟩
     ·
      rw [if_neg c16] at H
      have c16b0 : decide (a0_2 < 0) = false := decide_eq_false c16
      clear c16
      have H' := AM H
      clear H
      have hcz18_0 : w3.cell? ⟨gb275, 0, none⟩ = some (.string a0_0) := (zb_ BK275.out 0).trans rfl
      have hcz18_1 : w3.cell? ⟨gb275, 1, none⟩ = some (.bool false) := (zb_ BK275.out 1).trans rfl
      have hcz18_2 : w3.cell? ⟨gb275, 2, none⟩ = some (.int .i64 a0_2) := (zb_ BK275.out 2).trans rfl
      have hcz18_3 : w3.cell? ⟨gb275, 3, none⟩ = some (.slice A0_3 l0_3.length c0_3) := (zb_ BK275.out 3).trans rfl
      have hfz18_0 := za_ BK275.out 0
      have hfz18_1 := za_ BK275.out 1
      have hfz18_2 := za_ BK275.out 2
      have hfz18_3 := za_ BK275.out 3
      go_wp2_with (first | ((with_reducible refine zl_ (f := 156) rfl ?_); refine gl_ (some 6) Try.func156 #[.string a0_0] ?_; (with_reducible refine (zu_.calls k a0_0 true _ A4.out).mono ?_); rintro e w' ⟨rfl, ⟨nd, rfl⟩⟩; refine ⟨_, rfl, ?_⟩))
      go_meet
      case rel => exact ⟨_, (decide (a0_2 > 1500)), re_, H', ⟨by first | omega | exact Nat.le_refl _⟩, ⟨bk_ BK275.out⟩, ⟨bel_⟩⟩
  ·
   replace c5 := Bool.eq_false_iff.mpr c5
   subst c5
   rw [if_neg (show ¬ (false = true) by decide)] at H
   have H' := AM H
   clear H
   have hcz19_0 : w3.cell? ⟨gb275, 0, none⟩ = some (.string a0_0) := (zb_ BK275.out 0).trans rfl
   have hcz19_1 : w3.cell? ⟨gb275, 1, none⟩ = some (.bool a0_1) := (zb_ BK275.out 1).trans rfl
   have hcz19_2 : w3.cell? ⟨gb275, 2, none⟩ = some (.int .i64 a0_2) := (zb_ BK275.out 2).trans rfl
   have hcz19_3 : w3.cell? ⟨gb275, 3, none⟩ = some (.slice A0_3 l0_3.length c0_3) := (zb_ BK275.out 3).trans rfl
   have hfz19_0 := za_ BK275.out 0
   have hfz19_1 := za_ BK275.out 1
   have hfz19_2 := za_ BK275.out 2
   have hfz19_3 := za_ BK275.out 3
   go_wp2_with (first | ((with_reducible refine zl_ (f := 156) rfl ?_); refine gl_ (some 6) Try.func156 #[.string a0_0] ?_; (with_reducible refine (zu_.calls k a0_0 false _ A4.out).mono ?_); rintro e w' ⟨rfl, ⟨nd, rfl⟩⟩; refine ⟨_, rfl, ?_⟩))
   go_meet
   case rel => exact ⟨_, (true), re_, H', ⟨by first | omega | exact Nat.le_refl _⟩, ⟨bk_ BK275.out⟩, ⟨bel_⟩⟩
 case rest =>
  clear HC2
  (try clear c5); (try clear c6b0); (try clear c6b1); (try clear c8); (try clear c9); (try clear c9b0); (try clear c9b1); (try clear c10); (try clear c10b0); (try clear c10b1); (try clear c11b0); (try clear c16b0); (try clear hcz12_0); (try clear hcz12_1); (try clear hcz12_2); (try clear hcz12_3); (try clear hcz13_0); (try clear hcz13_1); (try clear hcz13_2); (try clear hcz13_3); (try clear hcz14_0); (try clear hcz14_1); (try clear hcz14_2); (try clear hcz14_3); (try clear hcz15_0); (try clear hcz15_1); (try clear hcz15_2); (try clear hcz15_3); (try clear hcz17_0); (try clear hcz17_1); (try clear hcz17_2); (try clear hcz17_3); (try clear hcz18_0); (try clear hcz18_1); (try clear hcz18_2); (try clear hcz18_3); (try clear hcz19_0); (try clear hcz19_1); (try clear hcz19_2); (try clear hcz19_3); (try clear hcz7_0); (try clear hcz7_1); (try clear hcz7_2); (try clear hcz7_3); (try clear hfz12_0); (try clear hfz12_1); (try clear hfz12_2); (try clear hfz12_3); (try clear hfz13_0); (try clear hfz13_1); (try clear hfz13_2); (try clear hfz13_3); (try clear hfz14_0); (try clear hfz14_1); (try clear hfz14_2); (try clear hfz14_3); (try clear hfz15_0); (try clear hfz15_1); (try clear hfz15_2); (try clear hfz15_3); (try clear hfz17_0); (try clear hfz17_1); (try clear hfz17_2); (try clear hfz17_3); (try clear hfz18_0); (try clear hfz18_1); (try clear hfz18_2); (try clear hfz18_3); (try clear hfz19_0); (try clear hfz19_1); (try clear hfz19_2); (try clear hfz19_3); (try clear hfz7_0); (try clear hfz7_1); (try clear hfz7_2); (try clear hfz7_3)
  obtain ⟨kq, x38_1, rfl, HA, HJ1, BK275, HB⟩ := hcut
  cases kq with
  | zero => exact absurd HA.out (by simp [zm_.j0])
  | succ kj1 =>
   have H := HA.out
   clear HA
   simp only [zm_.j0] at H
   by_cases c20 : x38_1 = true
   ·
    subst c20
    rw [if_pos rfl] at H
    obtain rfl := Option.some.inj H
    go_wp2
    go_ret
    exact ⟨ri_, bel_⟩
   ·
    replace c20 := Bool.eq_false_iff.mpr c20
    subst c20
    rw [if_neg (show ¬ (false = true) by decide)] at H
    have H' := AM H
    clear H
    go_wp2
    go_loopg [3] kj1 (fun kq v3 w' => ∃ (x3_2 : Int), v3 = .int .i64 x3_2 ∧ zd_ (zm_.l0 kq x3_2 a0_0 a0_1 a0_2 l0_3 = some r) ∧ zd_ (kq ≤ kj1) ∧ zd_ (w'.heap[gb275]? = some (.cells #[.string a0_0, .bool a0_1, .int .i64 a0_2, (.slice A0_3 l0_3.length c0_3)] 97 (0, 0))) ∧ zd_ (Below w.heap.size w w'))
    case atStart => exact ⟨(0), re_, H', ⟨Nat.le_refl _⟩, ⟨bk_ BK275.out⟩, ⟨bel_⟩⟩
    case round =>
     clear H'
     (try clear c20)
     obtain ⟨x3_2, rfl, HA, HK2, BK275, HB⟩ := hrel
     cases gk with
     | zero => exact absurd HA.out (by simp [zm_.l0])
     | succ k2 =>
      have H := HA.out
      clear HA
      simp only [zm_.l0] at H
      by_cases c21 : x3_2 < (l0_3.length : Int)
      ·
       rw [if_pos c21] at H
       have c21b0 : decide (x3_2 < (l0_3.length : Int)) = true := decide_eq_true c21
       clear c21
       by_cases c22 : 0 ≤ x3_2
       ·
        rw [if_pos c22] at H
        have c22b0 : decide (0 ≤ x3_2) = true := decide_eq_true c22
        clear c22
        by_cases c23 : ((rdOf ByteArray.empty l0_3 x3_2).size : Int) = 32
        ·
         rw [if_pos c23] at H
         have c23b0 : (((rdOf ByteArray.empty l0_3 x3_2).size : Int) == 32) = true := beq_iff_eq.mpr c23
         have c23b1 : (((rdOf ByteArray.empty l0_3 x3_2).size : Int) != 32) = false := bne_eq_false_iff_eq.mpr c23
         clear c23
         have H' := AM H
         clear H
         have hcz24_0 : wr.cell? ⟨gb275, 0, none⟩ = some (.string a0_0) := (zb_ BK275.out 0).trans rfl
         have hcz24_1 : wr.cell? ⟨gb275, 1, none⟩ = some (.bool a0_1) := (zb_ BK275.out 1).trans rfl
         have hcz24_2 : wr.cell? ⟨gb275, 2, none⟩ = some (.int .i64 a0_2) := (zb_ BK275.out 2).trans rfl
         have hcz24_3 : wr.cell? ⟨gb275, 3, none⟩ = some (.slice A0_3 l0_3.length c0_3) := (zb_ BK275.out 3).trans rfl
         have hfz24_0 := za_ BK275.out 0
         have hfz24_1 := za_ BK275.out 1
         have hfz24_2 := za_ BK275.out 2
         have hfz24_3 := za_ BK275.out 3
         have p277 : 0 ≤ (x3_2 : Int) := of_decide_eq_true asm_
         have q277 : x3_2 < (l0_3.length : Int) := of_decide_eq_true asm_
         obtain ⟨ad277, e277, hx277_0⟩ := Kd.y4_ HR0_3.out x3_2 p277 q277
         cases e277
         replace hx277_0 := (HB.out.cell (World.block_lt_of_cell? w _ hx277_0)).trans hx277_0
         replace p277 := eq_true p277
         replace q277 := eq_true q277
         go_wp2
         go_roundg k2
         case measure => have := HJ1.out; have := HK2.out; omega
         case rel => exact ⟨(wrap64 (x3_2 + 1)), re_, H', ⟨by have := HJ1.out; have := HK2.out; omega⟩, ⟨bk_ BK275.out⟩, ⟨bel_⟩⟩
        ·
         rw [if_neg c23] at H
         have c23b0 : (((rdOf ByteArray.empty l0_3 x3_2).size : Int) == 32) = false := beq_eq_false_iff_ne.mpr c23
         have c23b1 : (((rdOf ByteArray.empty l0_3 x3_2).size : Int) != 32) = true := bne_iff_ne.mpr c23
         obtain rfl := Option.some.inj H
         have hcz25_0 : wr.cell? ⟨gb275, 0, none⟩ = some (.string a0_0) := (zb_ BK275.out 0).trans rfl
         have hcz25_1 : wr.cell? ⟨gb275, 1, none⟩ = some (.bool a0_1) := (zb_ BK275.out 1).trans rfl
         have hcz25_2 : wr.cell? ⟨gb275, 2, none⟩ = some (.int .i64 a0_2) := (zb_ BK275.out 2).trans rfl
         have hcz25_3 : wr.cell? ⟨gb275, 3, none⟩ = some (.slice A0_3 l0_3.length c0_3) := (zb_ BK275.out 3).trans rfl
         have hfz25_0 := za_ BK275.out 0
         have hfz25_1 := za_ BK275.out 1
         have hfz25_2 := za_ BK275.out 2
         have hfz25_3 := za_ BK275.out 3
         have p277 : 0 ≤ (x3_2 : Int) := of_decide_eq_true asm_
         have q277 : x3_2 < (l0_3.length : Int) := of_decide_eq_true asm_
         obtain ⟨ad277, e277, hx277_0⟩ := Kd.y4_ HR0_3.out x3_2 p277 q277
         cases e277
         replace hx277_0 := (HB.out.cell (World.block_lt_of_cell? w _ hx277_0)).trans hx277_0
         replace p277 := eq_true p277
         replace q277 := eq_true q277
         go_wp2
         go_ret
         exact ⟨ri_, bel_⟩
       ·
        rw [if_neg c22] at H
        exact absurd H (by simp)
      ·
       rw [if_neg c21] at H
       have c21b0 : decide (x3_2 < (l0_3.length : Int)) = false := decide_eq_false c21
       clear c21
       obtain rfl := Option.some.inj H
       have hcz26_0 : wr.cell? ⟨gb275, 0, none⟩ = some (.string a0_0) := (zb_ BK275.out 0).trans rfl
       have hcz26_1 : wr.cell? ⟨gb275, 1, none⟩ = some (.bool a0_1) := (zb_ BK275.out 1).trans rfl
       have hcz26_2 : wr.cell? ⟨gb275, 2, none⟩ = some (.int .i64 a0_2) := (zb_ BK275.out 2).trans rfl
       have hcz26_3 : wr.cell? ⟨gb275, 3, none⟩ = some (.slice A0_3 l0_3.length c0_3) := (zb_ BK275.out 3).trans rfl
       have hfz26_0 := za_ BK275.out 0
       have hfz26_1 := za_ BK275.out 1
       have hfz26_2 := za_ BK275.out 2
       have hfz26_3 := za_ BK275.out 3
       go_wp2
       go_ret
       exact ⟨ri_, bel_⟩
/-! ### zw_: function 56 -/
def zw_.l0 : Nat → List (S97) → Int → Option (Bool)
 | 0, _, _ => none
 | k + 1, x0, x3 => if x3 < (x0.length : Int) then (if 0 ≤ x3 then ((zm_.f k ((zH_ x0 x3).f0) ((zH_ x0 x3).f1) ((zH_ x0 x3).f2) ((zH_ x0 x3).f3)).bind fun t279 => (if t279 = true then (if x3 > 0 then (if 0 ≤ (wrap64 (x3 - 1)) then (if (wrap64 (x3 - 1)) < (x0.length : Int) then (if ((Op.bytesLess (((zH_ x0 (wrap64 (x3 - 1))).f0).toList) (((zH_ x0 x3).f0).toList)) = true) then (zw_.l0 k x0 (wrap64 (x3 + 1))) else (some false)) else (none)) else (none)) else (zw_.l0 k x0 (wrap64 (x3 + 1)))) else (some false))) else (none)) else (some true)
def zw_.f (k : Nat) (l0 : List (S97)) : Option (Bool) := if (l0.length : Int) > 20 then (some false) else (zw_.l0 k l0 0)
theorem zw_.mono_l : ∀ k, (∀ y0 y1, LeO (zw_.l0 k y0 y1) (zw_.l0 (k + 1) y0 y1))
 | 0 => fun _ _ r h => by simp [zw_.l0] at h
 | k + 1 => by
  have ih0 := zw_.mono_l k
  ·
   intro y0 y1
   unfold zw_.l0
   repeat' with_reducible first | exact ih0 _ _ | exact zm_.mono _ _ _ _ _ | exact LeO.refl _ | exact LeO.none _ | refine LeO.ite ?_ ?_ | refine LeO.bind ?_ (fun _ => ?_)
theorem zw_.mono : ∀ a0 k, LeO (zw_.f k a0) (zw_.f (k + 1) a0) := by
 intro a0 k
 have ih0 := zw_.mono_l k
 unfold zw_.f
 repeat' with_reducible first | exact ih0 _ _ | exact zm_.mono _ _ _ _ _ | exact LeO.refl _ | exact LeO.none _ | refine LeO.ite ?_ ?_ | refine LeO.bind ?_ (fun _ => ?_)
theorem zw_.step (k : Nat) (l : List (S97)) (x : Int) (r : Bool) (y : Int) (hy : wrap64 (x - 1) = y) (h : zw_.l0 (k + 1) l x = some r) (c3 : x < (l.length : Int)) (c4 : 0 ≤ x) :
 ∃ b, zm_.f k (zH_ l x).f0 (zH_ l x).f1 (zH_ l x).f2 (zH_ l x).f3 = some b ∧ (b = true → 0 < x → 0 ≤ y ∧ y < (l.length : Int)) ∧
  ((b = true ∧ ¬ (0 < x ∧ ¬ Op.bytesLess (zH_ l y).f0.toList (zH_ l x).f0.toList = true) ∧ zw_.l0 k l (wrap64 (x + 1)) = some r) ∨ (¬ (b = true ∧ ¬ (0 < x ∧ ¬ Op.bytesLess (zH_ l y).f0.toList (zH_ l x).f0.toList = true)) ∧ r = false)) := by
 simp only [zw_.l0, hy] at h
 rw [if_pos c3, if_pos c4] at h
 obtain ⟨b, hb, h⟩ := Option.bind_eq_some_iff.mp h
 refine ⟨b, hb, ?_⟩
 by_cases e : b = true
 ·
  rw [if_pos e] at h
  by_cases hx : 0 < x
  ·
   rw [if_pos hx] at h
   by_cases c9 : 0 ≤ y
   ·
    rw [if_pos c9] at h
    by_cases c10 : y < (l.length : Int)
    ·
     rw [if_pos c10] at h
     refine ⟨fun _ _ => ⟨c9, c10⟩, ?_⟩
     by_cases hl : Op.bytesLess (zH_ l y).f0.toList (zH_ l x).f0.toList = true
     ·
      rw [if_pos hl] at h
      exact .inl ⟨e, fun q => q.2 hl, h⟩
     ·
      rw [if_neg hl] at h
      exact .inr ⟨fun q => q.2 ⟨hx, hl⟩, (Option.some.inj h).symm⟩
    ·
     rw [if_neg c10] at h
     cases h
   ·
    rw [if_neg c9] at h
    cases h
  ·
   rw [if_neg hx] at h
   exact ⟨fun _ q => absurd q hx, .inl ⟨e, fun q => hx q.1, h⟩⟩
 ·
  rw [if_neg e] at h
  exact ⟨fun q => absurd q e, .inr ⟨fun q => e q.1, (Option.some.inj h).symm⟩⟩
set_option maxHeartbeats 4000000 in
set_option maxRecDepth 100000 in
theorem zw_.calls (k : Nat) (A0 : Option Addr) (c0 : Nat) (l0 : List (S97)) (r : Bool) (w : World) (hr0 : Kd.C k97 w A0 l0.length l0) (hc0 : l0.length ≤ c0) (h : zw_.f k l0 = some r) :
 Calls Try.prog 56 #[.slice A0 l0.length c0] w fun e w' => e = .returned (.bool r) ∧ Below w.heap.size w w' := by
 have hu := Try.underlying97
 have HR0 := AM hr0
 have HC0 := AM hc0
 clear hr0 hc0
 have HB := AM (Below.refl w.heap.size w)
 have H : (if (l0.length : Int) > 20 then (some false) else (zw_.l0 k l0 0)) = some r := h
 clear h
 by_cases c2 : (l0.length : Int) > 20
 ·
  rw [if_pos c2] at H
  have c2b0 : decide (20 < (l0.length : Int)) = true := decide_eq_true c2
  have c2b1 : decide (20 < l0.length) = true := decide_eq_true (by omega)
  clear c2
  obtain rfl := Option.some.inj H
  go_enter Try.func56, Try.ntmps56
  go_wp2
  go_ret
  exact ⟨rfl, HB.out⟩
 ·
  rw [if_neg c2] at H
  have c2b0 : decide (20 < (l0.length : Int)) = false := decide_eq_false c2
  have c2b1 : decide (20 < l0.length) = false := decide_eq_false (by omega)
  clear c2
  have H' := AM H
  clear H
  go_enter Try.func56, Try.ntmps56
  go_wp2
  go_loopg [3] k (fun kq v3 w' => ∃ (x : Int), v3 = .int .i64 x ∧ zd_ (zw_.l0 kq l0 x = some r) ∧ zd_ (kq ≤ k) ∧ zd_ (Below w.heap.size w w'))
  case atStart => exact ⟨(0), rfl, H', ⟨Nat.le_refl _⟩, HB⟩
  case round =>
   clear H' c2b0 c2b1
   obtain ⟨x, rfl, HA, HK1, HB⟩ := hrel
   cases gk with
   | zero => exact absurd HA.out (by simp [zw_.l0])
   | succ k1 =>
    by_cases c3 : x < (l0.length : Int)
    ·
     by_cases c4 : 0 ≤ x
     ·
      obtain ⟨y, hy⟩ : ∃ y, wrap64 (x - 1) = y := ⟨_, rfl⟩
      obtain ⟨b, hb, hyy, hfin⟩ := zw_.step k1 l0 x r y hy HA.out c3 c4
      obtain ⟨ad, A3, c33, rfl, hx0, hx1, hx2, hx3, hl3, hk3⟩ := at_T97 HR0.out x c4 c3
      have hyw : IntKind.i64.wrap (x - 1) = y := (i64_w _).trans hy
      obtain ⟨e21, he21⟩ : ∃ e_ : Bool, (0 < x) = (e_ = true) := ⟨decide (0 < x), by simp⟩
      rw [he21] at hyy hfin
      have HYy : b = true → e21 = true → (0 ≤ y) = True ∧ (y < (l0.length : Int)) = True ∧ w.cell? (ad.add (y.toNat * 4)) = some (.string (zH_ l0 y).f0) := by
       intro q1 q2
       obtain ⟨c9, c10⟩ := hyy q1 q2
       obtain ⟨ad', _, _, e, h1, _⟩ := at_T97 HR0.out y c9 c10
       cases e
       exact ⟨eq_true c9, eq_true c10, h1⟩
      have HY := AM HYy
      have Hb := AM hb
      have Hfin := AM hfin
      have HL3 := AM hl3
      have HK3 := AM hk3
      have c3b0 : decide (x < (l0.length : Int)) = true := decide_eq_true c3
      have c4b0 := eq_true c4
      have c3b1 := eq_true c3
      have HX := AM (And.intro hx0 (And.intro hx1 (And.intro hx2 hx3)))
      clear HA hy hb hyy hfin HYy c3 c4 hl3 hk3 hx0 hx1 hx2 hx3
      have HE21 := AM he21
      clear he21
      go_wp2
      have he21 := HE21.out
      obtain ⟨e34, he34⟩ : ∃ e_ : Bool, Op.bytesLess ((zH_ l0 y).f0).toList ((zH_ l0 x).f0).toList = e_ := ⟨_, rfl⟩
      refine wp_reg1 [[], [], [0, 1], [2], [3], [4], [5], [6], [6, 7], [6, 8], [9], [9], [9, 11], [9, 10, 12], [9, 13], [9, 14], [9], [9], [9, 16, 17], [9, 18], [9, 19], [9, 15, 20], [6, 9, 21], [6, 22]]
       (isVal [.slice (some ad) l0.length c0,
        .int .i64 x,
        .pointer (some (ad.add (x.toNat * 4))),
        .agg #[.string (zH_ l0 x).f0, .bool (zH_ l0 x).f1, .int .i64 (zH_ l0 x).f2, .slice A3 (zH_ l0 x).f3.length c33],
        .bool b,
        .bool (!b),
        .bool (!b),
        if b then .int .i64 x else undef,
        if b then .bool e21 else undef,
        if b then .bool e21 else undef,
        if b && e21 then .slice (some ad) l0.length c0 else undef,
        if b && e21 then .int .i64 x else undef,
        if b && e21 then .int .i64 y else undef,
        if b && e21 then .pointer (some (ad.add (y.toNat * 4))) else undef,
        if b && e21 then .pointer (some (ad.add (y.toNat * 4))) else undef,
        if b && e21 then .string ((zH_ l0 y).f0) else undef,
        if b && e21 then .slice (some ad) l0.length c0 else undef,
        if b && e21 then .int .i64 x else undef,
        if b && e21 then .pointer (some (ad.add (x.toNat * 4))) else undef,
        if b && e21 then .pointer (some (ad.add (x.toNat * 4))) else undef,
        if b && e21 then .string ((zH_ l0 x).f0) else undef,
        if b && e21 then .bool (!e34) else undef,
        if b then .bool (e21 && !e34) else undef,
        .bool (!b || (e21 && !e34))]) ?B6 ?d6 (by kernel_rfl) (by kernel_rfl) (by kernel_rfl) (by kernel_rfl) (fun us => ?hA6) (isVal_grow _) ?hS6 ?hE6
      case hA6 =>
       simp only [yG_, Act.put, List.setIfInBounds_toArray, List.set_cons_zero, List.set_cons_succ, Nat.reduceAdd, Nat.zero_add]
       rfl
      case hS6 =>
       refine ⟨?_, ?_, ?_, ?_, ?_, ?_, ?_, ?_, ?_, ?_, ?_, ?_, ?_, ?_, ?_, ?_, ?_, ?_, ?_, ?_, ?_, ?_, ?_, ?_, trivial⟩
       all_goals (intro us w' hg hd K hK; simp only [AllR, isVal, List.getD_cons_zero, List.getD_cons_succ] at hd; clear HR0 HC0 Hfin HE21 HK1)
       all_goals (have g1_ := True.intro; have g2_ := True.intro; have g3_ := True.intro; try (obtain ⟨g1_, hd⟩ := hd); try (obtain ⟨g2_, hd⟩ := hd); try (obtain ⟨g3_, hd⟩ := hd))
       all_goals (have hz0 := cellG HB.out hg HX.out.1; have hz1 := cellG HB.out hg HX.out.2.1; have hz2 := cellG HB.out hg HX.out.2.2.1; have hz3 := cellG HB.out hg HX.out.2.2.2)
       ·
        all_goals (repeat' (first
         | (refine ya_ hK ?_ ?_ (zp_ _) rfl
            · first | rfl | (simp [zx_, asB, undef, g1_, g2_, g3_]; done)
            ·
             skip
             (try (obtain ⟨y1, y2, y3⟩ := HY.out rfl rfl; replace y3 := cellG HB.out hg y3))
             go_simp
             done)
         | cases b | cases e21 | cases e34))
       ·
        all_goals (repeat' (first
         | (refine ya_ hK ?_ ?_ (zp_ _) rfl
            · first | rfl | (simp [zx_, asB, undef, g1_, g2_, g3_]; done)
            ·
             skip
             (try (obtain ⟨y1, y2, y3⟩ := HY.out rfl rfl; replace y3 := cellG HB.out hg y3))
             go_simp
             done)
         | cases b | cases e21 | cases e34))
       ·
        all_goals (repeat' (first
         | (refine ya_ hK ?_ ?_ (zp_ _) rfl
            · first | rfl | (simp [zx_, asB, undef, g1_, g2_, g3_]; done)
            ·
             skip
             (try (obtain ⟨y1, y2, y3⟩ := HY.out rfl rfl; replace y3 := cellG HB.out hg y3))
             go_simp
             done)
         | cases b | cases e21 | cases e34))
       ·
        all_goals (repeat' (first
         | (refine ya_ hK ?_ ?_ (zp_ _) rfl
            · first | rfl | (simp [zx_, asB, undef, g1_, g2_, g3_]; done)
            ·
             skip
             (try (obtain ⟨y1, y2, y3⟩ := HY.out rfl rfl; replace y3 := cellG HB.out hg y3))
             go_simp
             done)
         | cases b | cases e21 | cases e34))
       ·
        all_goals (repeat' (first
         | (refine xk_ hK ?_ rfl Try.func141 (by kernel_rfl) rfl #[.agg #[.string (zH_ l0 x).f0, .bool (zH_ l0 x).f1, .int .i64 (zH_ l0 x).f2, .slice A3 (zH_ l0 x).f3.length c33]] ?_ ((zm_.calls k1 _ _ _ _ _ _ _ _ (Kd.xc_ HK3.out (below_grow HB.out hg)) HL3.out Hb.out).mono ?_)
            · first | rfl | (simp [zx_, asB, undef, g1_, g2_, g3_]; done)
            · simp [Act.eval, g1_, g2_, g3_]
            ·
             rintro e_ w'' ⟨rfl, hb_⟩
             exact ⟨_, rfl, (by first | exact hb_ | exact hb_.below), rfl⟩)
         | cases b | cases e21 | cases e34))
       ·
        all_goals (repeat' (first
         | (refine ya_ hK ?_ ?_ (zp_ _) rfl
            · first | rfl | (simp [zx_, asB, undef, g1_, g2_, g3_]; done)
            ·
             skip
             (try (obtain ⟨y1, y2, y3⟩ := HY.out rfl rfl; replace y3 := cellG HB.out hg y3))
             go_simp
             done)
         | cases b | cases e21 | cases e34))
       ·
        all_goals (repeat' (first
         | (refine ya_ hK ?_ ?_ (zp_ _) rfl
            · first | rfl | (simp [zx_, asB, undef, g1_, g2_, g3_]; done)
            ·
             skip
             (try (obtain ⟨y1, y2, y3⟩ := HY.out rfl rfl; replace y3 := cellG HB.out hg y3))
             go_simp
             done)
         | cases b | cases e21 | cases e34))
       ·
        rcases Bool.eq_false_or_eq_true (b : Bool) with hG_ | hG_
        rotate_left
        · exact z2_ hK (by rw [(xJ_ rfl g1_).trans (show _ = (b : Bool) by first | rfl | (simp; done)), hG_]; decide) (by show undef = ite _ _ _; rw [hG_]; rfl)
        all_goals (cases b <;> first | (exfalso; simp at hG_; done) | skip)
        all_goals (repeat' (first
         | (refine z2_ hK ?_ rfl; (simp [zx_, asB, undef, g1_, g2_, g3_]; done))
         | (refine ya_ hK ?_ ?_ (zp_ _) rfl
            · first | rfl | (simp [zx_, asB, undef, g1_, g2_, g3_]; done)
            ·
             skip
             (try (obtain ⟨y1, y2, y3⟩ := HY.out rfl rfl; replace y3 := cellG HB.out hg y3))
             go_simp
             done)
         | cases e21 | cases e34))
       ·
        rcases Bool.eq_false_or_eq_true (b : Bool) with hG_ | hG_
        rotate_left
        · exact z2_ hK (by rw [(xJ_ rfl g1_).trans (show _ = (b : Bool) by first | rfl | (simp; done)), hG_]; decide) (by show undef = ite _ _ _; rw [hG_]; rfl)
        all_goals (cases b <;> first | (exfalso; simp at hG_; done) | skip)
        all_goals (repeat' (first
         | (refine z2_ hK ?_ rfl; (simp [zx_, asB, undef, g1_, g2_, g3_]; done))
         | (refine ya_ hK ?_ ?_ (zp_ _) rfl
            · first | rfl | (simp [zx_, asB, undef, g1_, g2_, g3_]; done)
            ·
             skip
             (try (obtain ⟨y1, y2, y3⟩ := HY.out rfl rfl; replace y3 := cellG HB.out hg y3))
             go_simp
             done)
         | cases e21 | cases e34))
       ·
        rcases Bool.eq_false_or_eq_true (b : Bool) with hG_ | hG_
        rotate_left
        · exact z2_ hK (by rw [(xJ_ rfl g1_).trans (show _ = (b : Bool) by first | rfl | (simp; done)), hG_]; decide) (by show undef = ite _ _ _; rw [hG_]; rfl)
        all_goals (cases b <;> first | (exfalso; simp at hG_; done) | skip)
        all_goals (repeat' (first
         | (refine z2_ hK ?_ rfl; (simp [zx_, asB, undef, g1_, g2_, g3_]; done))
         | (refine ya_ hK ?_ ?_ (zp_ _) rfl
            · first | rfl | (simp [zx_, asB, undef, g1_, g2_, g3_]; done)
            ·
             skip
             (try (obtain ⟨y1, y2, y3⟩ := HY.out rfl rfl; replace y3 := cellG HB.out hg y3))
             go_simp
             done)
         | cases e21 | cases e34))
       ·
        rcases Bool.eq_false_or_eq_true ((b && e21) : Bool) with hG_ | hG_
        rotate_left
        · exact z2_ hK (by rw [(yJ_ rfl g1_).trans (show _ = ((b && e21) : Bool) by first | rfl | (simp; done)), hG_]; decide) (by show undef = ite _ _ _; rw [hG_]; rfl)
        all_goals (cases b <;> first | (exfalso; simp at hG_; done) | skip)
        all_goals (cases e21 <;> first | (exfalso; simp at hG_; done) | skip)
        all_goals (repeat' (first
         | (refine z2_ hK ?_ rfl; (simp [zx_, asB, undef, g1_, g2_, g3_]; done))
         | (refine ya_ hK ?_ ?_ (zp_ _) rfl
            · first | rfl | (simp [zx_, asB, undef, g1_, g2_, g3_]; done)
            ·
             skip
             (try (obtain ⟨y1, y2, y3⟩ := HY.out rfl rfl; replace y3 := cellG HB.out hg y3))
             go_simp
             done)
         | cases e34))
       ·
        rcases Bool.eq_false_or_eq_true ((b && e21) : Bool) with hG_ | hG_
        rotate_left
        · exact z2_ hK (by rw [(yJ_ rfl g1_).trans (show _ = ((b && e21) : Bool) by first | rfl | (simp; done)), hG_]; decide) (by show undef = ite _ _ _; rw [hG_]; rfl)
        all_goals (cases b <;> first | (exfalso; simp at hG_; done) | skip)
        all_goals (cases e21 <;> first | (exfalso; simp at hG_; done) | skip)
        all_goals (repeat' (first
         | (refine z2_ hK ?_ rfl; (simp [zx_, asB, undef, g1_, g2_, g3_]; done))
         | (refine ya_ hK ?_ ?_ (zp_ _) rfl
            · first | rfl | (simp [zx_, asB, undef, g1_, g2_, g3_]; done)
            ·
             skip
             (try (obtain ⟨y1, y2, y3⟩ := HY.out rfl rfl; replace y3 := cellG HB.out hg y3))
             go_simp
             done)
         | cases e34))
       ·
        rcases Bool.eq_false_or_eq_true ((b && e21) : Bool) with hG_ | hG_
        rotate_left
        · exact z2_ hK (by rw [(yJ_ rfl g1_).trans (show _ = ((b && e21) : Bool) by first | rfl | (simp; done)), hG_]; decide) (by show undef = ite _ _ _; rw [hG_]; rfl)
        all_goals (cases b <;> first | (exfalso; simp at hG_; done) | skip)
        all_goals (cases e21 <;> first | (exfalso; simp at hG_; done) | skip)
        all_goals (repeat' (first
         | (refine z2_ hK ?_ rfl; (simp [zx_, asB, undef, g1_, g2_, g3_]; done))
         | (refine ya_ hK ?_ ?_ (zp_ _) rfl
            · first | rfl | (simp [zx_, asB, undef, g1_, g2_, g3_]; done)
            ·
             skip
             (try (obtain ⟨y1, y2, y3⟩ := HY.out rfl rfl; replace y3 := cellG HB.out hg y3))
             go_simp
             done)
         | cases e34))
       ·
        rcases Bool.eq_false_or_eq_true ((b && e21) : Bool) with hG_ | hG_
        rotate_left
        · exact z2_ hK (by rw [(yJ_ rfl g1_).trans (show _ = ((b && e21) : Bool) by first | rfl | (simp; done)), hG_]; decide) (by show undef = ite _ _ _; rw [hG_]; rfl)
        all_goals (cases b <;> first | (exfalso; simp at hG_; done) | skip)
        all_goals (cases e21 <;> first | (exfalso; simp at hG_; done) | skip)
        all_goals (repeat' (first
         | (refine z2_ hK ?_ rfl; (simp [zx_, asB, undef, g1_, g2_, g3_]; done))
         | (refine ya_ hK ?_ ?_ (zp_ _) rfl
            · first | rfl | (simp [zx_, asB, undef, g1_, g2_, g3_]; done)
            ·
             skip
             (try (obtain ⟨y1, y2, y3⟩ := HY.out rfl rfl; replace y3 := cellG HB.out hg y3))
             go_simp
             done)
         | cases e34))
       ·
        rcases Bool.eq_false_or_eq_true ((b && e21) : Bool) with hG_ | hG_
        rotate_left
        · exact z2_ hK (by rw [(yJ_ rfl g1_).trans (show _ = ((b && e21) : Bool) by first | rfl | (simp; done)), hG_]; decide) (by show undef = ite _ _ _; rw [hG_]; rfl)
        all_goals (cases b <;> first | (exfalso; simp at hG_; done) | skip)
        all_goals (cases e21 <;> first | (exfalso; simp at hG_; done) | skip)
        all_goals (repeat' (first
         | (refine z2_ hK ?_ rfl; (simp [zx_, asB, undef, g1_, g2_, g3_]; done))
         | (refine ya_ hK ?_ ?_ (zp_ _) rfl
            · first | rfl | (simp [zx_, asB, undef, g1_, g2_, g3_]; done)
            ·
             skip
             (try (obtain ⟨y1, y2, y3⟩ := HY.out rfl rfl; replace y3 := cellG HB.out hg y3))
             go_simp
             done)
         | cases e34))
       ·
        rcases Bool.eq_false_or_eq_true ((b && e21) : Bool) with hG_ | hG_
        rotate_left
        · exact z2_ hK (by rw [(yJ_ rfl g1_).trans (show _ = ((b && e21) : Bool) by first | rfl | (simp; done)), hG_]; decide) (by show undef = ite _ _ _; rw [hG_]; rfl)
        all_goals (cases b <;> first | (exfalso; simp at hG_; done) | skip)
        all_goals (cases e21 <;> first | (exfalso; simp at hG_; done) | skip)
        all_goals (repeat' (first
         | (refine z2_ hK ?_ rfl; (simp [zx_, asB, undef, g1_, g2_, g3_]; done))
         | (refine ya_ hK ?_ ?_ (zp_ _) rfl
            · first | rfl | (simp [zx_, asB, undef, g1_, g2_, g3_]; done)
            ·
             skip
             (try (obtain ⟨y1, y2, y3⟩ := HY.out rfl rfl; replace y3 := cellG HB.out hg y3))
             go_simp
             done)
         | cases e34))
       ·
        rcases Bool.eq_false_or_eq_true ((b && e21) : Bool) with hG_ | hG_
        rotate_left
        · exact z2_ hK (by rw [(yJ_ rfl g1_).trans (show _ = ((b && e21) : Bool) by first | rfl | (simp; done)), hG_]; decide) (by show undef = ite _ _ _; rw [hG_]; rfl)
        all_goals (cases b <;> first | (exfalso; simp at hG_; done) | skip)
        all_goals (cases e21 <;> first | (exfalso; simp at hG_; done) | skip)
        all_goals (repeat' (first
         | (refine z2_ hK ?_ rfl; (simp [zx_, asB, undef, g1_, g2_, g3_]; done))
         | (refine ya_ hK ?_ ?_ (zp_ _) rfl
            · first | rfl | (simp [zx_, asB, undef, g1_, g2_, g3_]; done)
            ·
             skip
             (try (obtain ⟨y1, y2, y3⟩ := HY.out rfl rfl; replace y3 := cellG HB.out hg y3))
             go_simp
             done)
         | cases e34))
       ·
        rcases Bool.eq_false_or_eq_true ((b && e21) : Bool) with hG_ | hG_
        rotate_left
        · exact z2_ hK (by rw [(yJ_ rfl g1_).trans (show _ = ((b && e21) : Bool) by first | rfl | (simp; done)), hG_]; decide) (by show undef = ite _ _ _; rw [hG_]; rfl)
        all_goals (cases b <;> first | (exfalso; simp at hG_; done) | skip)
        all_goals (cases e21 <;> first | (exfalso; simp at hG_; done) | skip)
        all_goals (repeat' (first
         | (refine z2_ hK ?_ rfl; (simp [zx_, asB, undef, g1_, g2_, g3_]; done))
         | (refine ya_ hK ?_ ?_ (zp_ _) rfl
            · first | rfl | (simp [zx_, asB, undef, g1_, g2_, g3_]; done)
            ·
             skip
             (try (obtain ⟨y1, y2, y3⟩ := HY.out rfl rfl; replace y3 := cellG HB.out hg y3))
             go_simp
             done)
         | cases e34))
       ·
        rcases Bool.eq_false_or_eq_true ((b && e21) : Bool) with hG_ | hG_
        rotate_left
        · exact z2_ hK (by rw [(yJ_ rfl g1_).trans (show _ = ((b && e21) : Bool) by first | rfl | (simp; done)), hG_]; decide) (by show undef = ite _ _ _; rw [hG_]; rfl)
        all_goals (cases b <;> first | (exfalso; simp at hG_; done) | skip)
        all_goals (cases e21 <;> first | (exfalso; simp at hG_; done) | skip)
        all_goals (repeat' (first
         | (refine z2_ hK ?_ rfl; (simp [zx_, asB, undef, g1_, g2_, g3_]; done))
         | (refine ya_ hK ?_ ?_ (zp_ _) rfl
            · first | rfl | (simp [zx_, asB, undef, g1_, g2_, g3_]; done)
            ·
             skip
             (try (obtain ⟨y1, y2, y3⟩ := HY.out rfl rfl; replace y3 := cellG HB.out hg y3))
             go_simp
             done)
         | cases e34))
       ·
        rcases Bool.eq_false_or_eq_true ((b && e21) : Bool) with hG_ | hG_
        rotate_left
        · exact z2_ hK (by rw [(yJ_ rfl g1_).trans (show _ = ((b && e21) : Bool) by first | rfl | (simp; done)), hG_]; decide) (by show undef = ite _ _ _; rw [hG_]; rfl)
        all_goals (cases b <;> first | (exfalso; simp at hG_; done) | skip)
        all_goals (cases e21 <;> first | (exfalso; simp at hG_; done) | skip)
        all_goals (repeat' (first
         | (refine z2_ hK ?_ rfl; (simp [zx_, asB, undef, g1_, g2_, g3_]; done))
         | (refine ya_ hK ?_ ?_ (zp_ _) rfl
            · first | rfl | (simp [zx_, asB, undef, g1_, g2_, g3_]; done)
            ·
             skip
             (try (obtain ⟨y1, y2, y3⟩ := HY.out rfl rfl; replace y3 := cellG HB.out hg y3))
             go_simp
             done)
         | cases e34))
       ·
        rcases Bool.eq_false_or_eq_true ((b && e21) : Bool) with hG_ | hG_
        rotate_left
        · exact z2_ hK (by rw [(yJ_ rfl g1_).trans (show _ = ((b && e21) : Bool) by first | rfl | (simp; done)), hG_]; decide) (by show undef = ite _ _ _; rw [hG_]; rfl)
        all_goals (cases b <;> first | (exfalso; simp at hG_; done) | skip)
        all_goals (cases e21 <;> first | (exfalso; simp at hG_; done) | skip)
        all_goals (repeat' (first
         | (refine z2_ hK ?_ rfl; (simp [zx_, asB, undef, g1_, g2_, g3_]; done))
         | (refine ya_ hK ?_ ?_ (zp_ _) rfl
            · first | rfl | (simp [zx_, asB, undef, g1_, g2_, g3_]; done)
            ·
             skip
             (try (obtain ⟨y1, y2, y3⟩ := HY.out rfl rfl; replace y3 := cellG HB.out hg y3))
             go_simp
             done)
         | cases e34))
       ·
        rcases Bool.eq_false_or_eq_true ((b && e21) : Bool) with hG_ | hG_
        rotate_left
        · exact z2_ hK (by rw [(yJ_ rfl g1_).trans (show _ = ((b && e21) : Bool) by first | rfl | (simp; done)), hG_]; decide) (by show undef = ite _ _ _; rw [hG_]; rfl)
        all_goals (cases b <;> first | (exfalso; simp at hG_; done) | skip)
        all_goals (cases e21 <;> first | (exfalso; simp at hG_; done) | skip)
        all_goals (repeat' (first
         | (refine z2_ hK ?_ rfl; (simp [zx_, asB, undef, g1_, g2_, g3_]; done))
         | (refine ya_ hK ?_ ?_ (zp_ _) rfl
            · first | rfl | (simp [zx_, asB, undef, g1_, g2_, g3_]; done)
            ·
             skip
             (try (obtain ⟨y1, y2, y3⟩ := HY.out rfl rfl; replace y3 := cellG HB.out hg y3))
             go_simp
             done)
         | cases e34))
       ·
        rcases Bool.eq_false_or_eq_true (b : Bool) with hG_ | hG_
        rotate_left
        · exact z2_ hK (by rw [(xJ_ rfl g1_).trans (show _ = (b : Bool) by first | rfl | (simp; done)), hG_]; decide) (by show undef = ite _ _ _; rw [hG_]; rfl)
        all_goals (cases b <;> first | (exfalso; simp at hG_; done) | skip)
        all_goals (repeat' (first
         | (refine z2_ hK ?_ rfl; (simp [zx_, asB, undef, g1_, g2_, g3_]; done))
         | (refine ya_ hK ?_ ?_ (zp_ _) rfl
            · first | rfl | (simp [zx_, asB, undef, g1_, g2_, g3_]; done)
            ·
             skip
             (try (obtain ⟨y1, y2, y3⟩ := HY.out rfl rfl; replace y3 := cellG HB.out hg y3))
             go_simp
             done)
         | cases e21 | cases e34))
       ·
        refine reg_pick hK rfl rfl g1_ (or_val ?_ g2_)
        first | rfl | (simp; done)
      case hE6 =>
       intro us w' hg hd
       have hZ : us 23 = .bool (!b || (e21 && !e34)) := allR_get hd (by kernel_rfl)
       clear hd
       replace HB := AM (below_grow HB.out hg)
       clear hyw hg
       have HH : ((!b || (e21 && !e34)) = true ∧ r = false) ∨ ((!b || (e21 && !e34)) = false ∧ zw_.l0 k1 l0 (wrap64 (x + 1)) = some r) := by
        have H := Hfin.out
        rw [he34] at H
        clear hZ HB Hb HY HR0 Hfin
        cases b <;> cases e21 <;> cases e34 <;> simp at H ⊢ <;> exact H
       rcases HH with ⟨hq, rfl⟩ | ⟨hq, H1⟩
       ·
        rw [hq] at hZ
        rw [hZ]
        clear hZ he21 he34
        go_wp2
        go_ret
        exact ⟨rfl, HB.out⟩
       ·
        rw [hq] at hZ
        rw [hZ]
        replace H1 := AM H1
        clear hZ he21 he34
        go_wp2
        go_roundg k1
        case measure => have := HK1.out; omega
        case rel => exact ⟨(wrap64 (x + 1)), re_, H1, ⟨by have := HK1.out; omega⟩, HB⟩
     ·
      have H := HA.out
      simp only [zw_.l0] at H
      rw [if_pos c3, if_neg c4] at H
      exact absurd H (by simp)
    ·
     have H := HA.out
     simp only [zw_.l0] at H
     rw [if_neg c3] at H
     have c3b0 : decide (x < (l0.length : Int)) = false := decide_eq_false c3
     clear c3 HA
     obtain rfl := Option.some.inj H
     go_wp2
     go_ret
     exact ⟨rfl, HB.out⟩
/-! ### xj_: function 155 -/
def xj_.f (a0 : Int) : Option (Int) := if a0 < 0 then (some (IntKind.u64.wrap ((IntKind.u64.wrap (2 * (IntKind.u64.wrap (wrap64 (-(wrap64 (a0 + 1))))))) + 1))) else (some (IntKind.u64.wrap (2 * (IntKind.u64.wrap (a0)))))
theorem xj_.calls (a0 : Int) (r : Int) (w : World) (h : xj_.f a0 = some r) :
 Calls Try.prog 155 #[.int .i64 a0] w fun e w' => e = .returned (.int .u64 r) ∧ xp_ w w' := by
 have H : (if a0 < 0 then (some (IntKind.u64.wrap ((IntKind.u64.wrap (2 * (IntKind.u64.wrap (wrap64 (-(wrap64 (a0 + 1))))))) + 1))) else (some (IntKind.u64.wrap (2 * (IntKind.u64.wrap (a0)))))) = some r := h
 clear h
 by_cases c2 : a0 < 0
 ·
  rw [if_pos c2] at H
  have c2b0 : decide (a0 < 0) = true := decide_eq_true c2
  clear c2
  obtain rfl := Option.some.inj H
  go_enter Try.func155, Try.ntmps155
  go_wp2
  go_ret
  exact ⟨re_, dr_⟩
 ·
  rw [if_neg c2] at H
  have c2b0 : decide (a0 < 0) = false := decide_eq_false c2
  clear c2
  obtain rfl := Option.some.inj H
  go_enter Try.func155, Try.ntmps155
  go_wp2
  go_ret
  exact ⟨re_, dr_⟩
/-! ### zQ_: function 73 -/
def zQ_.l0 : Nat → Int → List Int → Option (ByteArray)
 | 0, _, _ => none
 | k + 1, x3, x4 => if x3 ≥ 128 then (if x4.length < 140737488355328 then (zQ_.l0 k (IntKind.u64.wrap (Int.tdiv x3 128)) (x4 ++ [(IntKind.u64.wrap ((Int.tmod x3 128) + 128)) % 256])) else (none)) else (if x4.length < 140737488355328 then (some (strOfNums (x4 ++ [(x3) % 256]))) else (none))
def zQ_.f (k : Nat) (a0 : Int) : Option (ByteArray) := (xj_.f a0).bind fun t282 => (zQ_.l0 k t282 (([] : List Int)))
theorem zQ_.mono_l : ∀ k, (∀ y0 y1, LeO (zQ_.l0 k y0 y1) (zQ_.l0 (k + 1) y0 y1))
 | 0 => fun _ _ r h => by simp [zQ_.l0] at h
 | k + 1 => by
  have ih0 := zQ_.mono_l k
  ·
   intro y0 y1
   unfold zQ_.l0
   repeat' with_reducible first | exact ih0 _ _ | exact LeO.refl _ | exact LeO.none _ | refine LeO.ite ?_ ?_ | refine LeO.bind ?_ (fun _ => ?_)
theorem zQ_.mono : ∀ a0 k, LeO (zQ_.f k a0) (zQ_.f (k + 1) a0) := by
 intro a0 k
 have ih0 := zQ_.mono_l k
 unfold zQ_.f
 repeat' with_reducible first | exact ih0 _ _ | exact LeO.refl _ | exact LeO.none _ | refine LeO.ite ?_ ?_ | refine LeO.bind ?_ (fun _ => ?_)
theorem zQ_.calls (k : Nat) (a0 : Int) (r : ByteArray) (w : World) (h : zQ_.f k a0 = some r) :
 Calls Try.prog 73 #[.int .i64 a0] w fun e w' => e = .returned (.string r) ∧ Below w.heap.size w w' := by
 have HB := AM (Below.refl w.heap.size w)
 have H : ((xj_.f a0).bind fun t282 => (zQ_.l0 k t282 (([] : List Int)))) = some r := h
 clear h
 obtain ⟨t282, A2, H⟩ := OB H
 try dsimp only at H
 replace A2 := AM A2
 obtain ⟨y283, hy283⟩ : ∃ y_ : List Int, y_ = (([] : List Int)) := ⟨_, rfl⟩
 replace H : (zQ_.l0 k t282 y283) = some r := by first | (rw [hy283]; with_reducible exact H) | (have H2_ := (Option.bind_some _ _).symm.trans H; rw [hy283]; with_reducible exact H2_) | (have H2_ := (Option.bind_some _ _).symm.trans H; with_reducible exact H2_) | with_reducible exact H | (rw [hy283]; exact H) | exact H
 have Ny283 := AM hy283
 clear hy283
 have H' := AM H
 clear H
 go_enter Try.func73, Try.ntmps73
 go_wp2_with (first | ((with_reducible refine zl_ (f := 155) rfl ?_); refine gl_ (some 6) Try.func155 #[.int .i64 a0] ?_; (with_reducible refine (xj_.calls a0 t282 _ A2.out).mono ?_); rintro e w' ⟨rfl, ⟨nd, rfl⟩⟩; refine ⟨_, rfl, ?_⟩) | ((with_reducible refine z6_ (N := 7) rfl ?_); refine Kd.R_lit (Kd.int .u8) _ 5 ?hgL1 (N := 7) ?hdL1 (xs := ([] : List Int)) (inner := []) (ok := fun _ => True) (okp := fun _ => True) ?hrL1 ?hpL1 (fun _ hk => hk) trivial (Below.refl _ _) (Nat.le_refl _) (by simp) ?_; (case hdL1 => rfl); (case hgL1 => rfl); (case hrL1 => first | (go_simp; done) | (go_simp; rfl)); (case hpL1 => exact (Reps.none _ _)); intro v284 w3 ho4 hb hg_ hnew_; clear hg_ hnew_; (first | rw [← Ny283.out] at ho4 | (simp only [Int.reduceToNat] at ho4; rw [← Ny283.out] at ho4)); have HO285 := AM (Kd.yE_ ho4 (zj_ bel_)); replace HB := AM (zg_ bel_ hb); clear hb ho4))
 go_loopg [3, 4] k (fun kq v3 v4 w' => ∃ (x3_1 : Int) (x4_1 : List Int), v3 = .int .u64 x3_1 ∧ zd_ (zQ_.l0 kq x3_1 x4_1 = some r) ∧ zd_ (kq ≤ k) ∧ zd_ (Kd.R (Kd.int .u8) 5 w' w.heap.size (fun _ => True) v4 x4_1) ∧ zd_ (Below w.heap.size w w'))
 case atStart => exact ⟨(t282), (y283), re_, H', ⟨Nat.le_refl _⟩, ⟨ro_ HO285.out⟩, ⟨bel_⟩⟩
 case round =>
  clear H'
  obtain ⟨x3_1, x4_1, rfl, HA, HK1, HO_4, HB⟩ := hrel
  cases gk with
  | zero => exact absurd HA.out (by simp [zQ_.l0])
  | succ k1 =>
   have H := HA.out
   clear HA
   simp only [zQ_.l0] at H
   by_cases c5 : x3_1 ≥ 128
   ·
    rw [if_pos c5] at H
    have c5b0 : decide (128 ≤ x3_1) = true := decide_eq_true c5
    clear c5
    by_cases c6 : x4_1.length < 140737488355328
    ·
     rw [if_pos c6] at H
     have LMc6 := AM c6
     clear c6
     obtain ⟨y286, hy286⟩ : ∃ y_ : List Int, y_ = (x4_1 ++ [(IntKind.u64.wrap ((Int.tmod x3_1 128) + 128)) % 256]) := ⟨_, rfl⟩
     replace H : (zQ_.l0 k1 (IntKind.u64.wrap (Int.tdiv x3_1 128)) y286) = some r := by first | (rw [hy286]; with_reducible exact H) | (have H2_ := (Option.bind_some _ _).symm.trans H; rw [hy286]; with_reducible exact H2_) | (have H2_ := (Option.bind_some _ _).symm.trans H; with_reducible exact H2_) | with_reducible exact H | (rw [hy286]; exact H) | exact H
     have Ny286 := AM hy286
     clear hy286
     have H' := AM H
     clear H
     go_wp2_with (first | ((with_reducible refine yr_ (b := .append) (xs := #[.tmp 10, .tmp 15]) rfl ?_); at_builtin; refine Kd.R_append (Kd.int .u8) (w0 := w) w.heap.size rfl (.tmp 10) (.tmp 15) 22 5 (.int .u8 0) 1 rfl Try.underlying22 info5 rfl (by decide) (by omega) u4 x4_1 ((IntKind.u64.wrap ((Int.tmod x3_1 128) + 128)) % 256) [.int .u8 ((IntKind.u64.wrap ((Int.tmod x3_1 128) + 128)) % 256)] (fun _ => True) (fun _ => False) rfl rfl ?aP (fun _ hk => hk.elim) ?aF ?aO ?aB ?aS ?aL ?_; (case aP => exact rfl); (case aB => exact bel_); (case aF => exact (fun _ _ => trivial)); (case aO => exact (ro_ HO_4.out)); (case aS => exact (zj_ bel_)); (case aL => have := LMc6.out; omega); intro v287 w7 ho hb hg hat; rw [← Ny286.out] at ho; have n0_ := AM hb; have n1_ := AM ho; clear HB; clear HO_4; have HB := n0_; have HO288 := n1_; clear n0_ n1_; clear ho hb hg hat))
     go_roundg k1
     case measure => have := HK1.out; omega
     case rel => exact ⟨(IntKind.u64.wrap (Int.tdiv x3_1 128)), (y286), re_, H', ⟨by have := HK1.out; omega⟩, ⟨ro_ HO288.out⟩, ⟨bel_⟩⟩
    ·
     rw [if_neg c6] at H
     exact absurd H (by simp)
   ·
    rw [if_neg c5] at H
    have c5b0 : decide (128 ≤ x3_1) = false := decide_eq_false c5
    clear c5
    by_cases c8 : x4_1.length < 140737488355328
    ·
     rw [if_pos c8] at H
     have LMc8 := AM c8
     clear c8
     obtain ⟨y289, hy289⟩ : ∃ y_ : List Int, y_ = (x4_1 ++ [(x3_1) % 256]) := ⟨_, rfl⟩
     replace H : (some (strOfNums y289)) = some r := by first | (rw [hy289]; with_reducible exact H) | (have H2_ := (Option.bind_some _ _).symm.trans H; rw [hy289]; with_reducible exact H2_) | (have H2_ := (Option.bind_some _ _).symm.trans H; with_reducible exact H2_) | with_reducible exact H | (rw [hy289]; exact H) | exact H
     have Ny289 := AM hy289
     clear hy289
     obtain rfl := Option.some.inj H
     go_wp2_with (first | ((with_reducible refine yr_ (b := .append) (xs := #[.tmp 19, .tmp 22]) rfl ?_); at_builtin; refine Kd.R_append (Kd.int .u8) (w0 := w) w.heap.size rfl (.tmp 19) (.tmp 22) 22 5 (.int .u8 0) 1 rfl Try.underlying22 info5 rfl (by decide) (by omega) u4 x4_1 ((x3_1) % 256) [.int .u8 ((x3_1) % 256)] (fun _ => True) (fun _ => False) rfl rfl ?aP (fun _ hk => hk.elim) ?aF ?aO ?aB ?aS ?aL ?_; (case aP => exact rfl); (case aB => exact bel_); (case aF => exact (fun _ _ => trivial)); (case aO => exact (ro_ HO_4.out)); (case aS => exact (zj_ bel_)); (case aL => have := LMc8.out; omega); intro v290 w9 ho hb hg hat; rw [← Ny289.out] at ho; have n0_ := AM hb; have n1_ := AM ho; clear HB; clear HO_4; have HB := n0_; have HO291 := n1_; clear n0_ n1_; clear ho hb hg hat; have hcv10 := xf_ (P := Try.prog) Try.underlying22 Try.underlying5 Try.underlying9 (Kd.xK_ HO291.out)))
     go_ret
     exact ⟨ri_, bel_⟩
    ·
     rw [if_neg c8] at H
     exact absurd H (by simp)
/-! ### yF_: function 74 -/
def yF_.f (k : Nat) (a0 : ByteArray) : Option (ByteArray) := if (a0.size : Int) > 20000 then (some (⟨#[]⟩ : ByteArray)) else ((zQ_.f k (a0.size : Int)).bind fun t292 => (if t292.size + a0.size ≤ 9223372036854775807 then (some (t292 ++ a0)) else (none)))
theorem yF_.mono : ∀ a0 k, LeO (yF_.f k a0) (yF_.f (k + 1) a0) := by
 intro a0 k
 unfold yF_.f
 repeat' with_reducible first | exact zQ_.mono _ _ | exact LeO.refl _ | exact LeO.none _ | refine LeO.ite ?_ ?_ | refine LeO.bind ?_ (fun _ => ?_)
theorem yF_.calls (k : Nat) (a0 : ByteArray) (r : ByteArray) (w : World) (h : yF_.f k a0 = some r) :
 Calls Try.prog 74 #[.string a0] w fun e w' => e = .returned (.string r) ∧ Below w.heap.size w w' := by
 have HB := AM (Below.refl w.heap.size w)
 have H : (if (a0.size : Int) > 20000 then (some (⟨#[]⟩ : ByteArray)) else ((zQ_.f k (a0.size : Int)).bind fun t292 => (if t292.size + a0.size ≤ 9223372036854775807 then (some (t292 ++ a0)) else (none)))) = some r := h
 clear h
 by_cases c2 : (a0.size : Int) > 20000
 ·
  rw [if_pos c2] at H
  have c2b0 : decide (20000 < (a0.size : Int)) = true := decide_eq_true c2
  have c2b1 : decide (20000 < a0.size) = true := decide_eq_true (by omega)
  clear c2
  obtain rfl := Option.some.inj H
  go_enter Try.func74, Try.ntmps74
  go_wp2
  go_ret
  exact ⟨ri_, bel_⟩
 ·
  rw [if_neg c2] at H
  have c2b0 : decide (20000 < (a0.size : Int)) = false := decide_eq_false c2
  have c2b1 : decide (20000 < a0.size) = false := decide_eq_false (by omega)
  clear c2
  obtain ⟨t292, A3, H⟩ := OB H
  try dsimp only at H
  replace A3 := AM A3
  by_cases c4 : t292.size + a0.size ≤ 9223372036854775807
  ·
   rw [if_pos c4] at H
   have c4b0 := eq_true c4
   have c4b1 : decide (t292.size + a0.size ≤ 9223372036854775807) = true := decide_eq_true c4
   try have c4b2 : (9223372036854775807 < t292.size + a0.size) = False := eq_false (Nat.not_lt.2 c4)
   obtain rfl := Option.some.inj H
   go_enter Try.func74, Try.ntmps74
   go_wp2_with (first | ((with_reducible refine zl_ (f := 73) rfl ?_); refine gl_ (some 8) Try.func73 #[.int .i64 (a0.size : Int)] ?_; (with_reducible refine (zQ_.calls k (a0.size : Int) t292 _ A3.out).mono ?_); rintro e w5 ⟨rfl, hb⟩; refine ⟨_, rfl, ?_⟩; replace HB := AM (zg_ bel_ hb); (try clear hb)))
   go_ret
   exact ⟨ri_, bel_⟩
  ·
   rw [if_neg c4] at H
   exact absurd H (by simp)
/-! ### zt_: function 57 -/
mutual
def zt_.l0 : Nat → List (S97) → List Int → Int → Option (ByteArray)
 | 0, _, _, _ => none
 | k + 1, x0, x3, x4 => if x4 < (x0.length : Int) then (if 0 ≤ x4 then ((yF_.f k ((zH_ x0 x4).f0)).bind fun t298 => (if x3.length + t298.size < 140737488355328 then ((some (x3 ++ bytesOf t298 : List Int)).bind fun y299 => (if (zH_ x0 x4).f1 = true then (zt_.j1 k x0 y299 x4 1) else (zt_.j1 k x0 y299 x4 0))) else (none))) else (none)) else (some (strOfNums x3))
def zt_.j1 : Nat → List (S97) → List Int → Int → Int → Option (ByteArray)
 | 0, _, _, _, _ => none
 | k + 1, x0, x3, x4, x5 => (zQ_.f k x5).bind fun t303 => (if x3.length + t303.size < 140737488355328 then ((some (x3 ++ bytesOf t303 : List Int)).bind fun y304 => (if 0 ≤ x4 then (if x4 < (x0.length : Int) then ((zQ_.f k ((zH_ x0 x4).f2)).bind fun t308 => (if y304.length + t308.size < 140737488355328 then ((some (y304 ++ bytesOf t308 : List Int)).bind fun y309 => ((zQ_.f k (((zH_ x0 x4).f3).length : Int)).bind fun t313 => (if y309.length + t313.size < 140737488355328 then (zt_.l1 k x0 (y309 ++ bytesOf t313) x4 0) else (none)))) else (none))) else (none)) else (none))) else (none))
def zt_.l1 : Nat → List (S97) → List Int → Int → Int → Option (ByteArray)
 | 0, _, _, _, _ => none
 | k + 1, x0, x3, x4, x6 => if 0 ≤ x4 then (if x4 < (x0.length : Int) then (if x6 < (((zH_ x0 x4).f3).length : Int) then (if 0 ≤ x6 then (if x3.length + (rdOf ByteArray.empty ((zH_ x0 x4).f3) x6).size < 140737488355328 then (zt_.l1 k x0 (x3 ++ bytesOf (rdOf ByteArray.empty ((zH_ x0 x4).f3) x6)) x4 (wrap64 (x6 + 1))) else (none)) else (none)) else (zt_.l0 k x0 x3 (wrap64 (x4 + 1)))) else (none)) else (none)
end
def zt_.f (k : Nat) (l0 : List (S97)) : Option (ByteArray) := (zQ_.f k (l0.length : Int)).bind fun t293 => (if t293.size ≤ 140737488355327 then (zt_.l0 k l0 (bytesOf t293) 0) else (none))
theorem zt_.mono_l : ∀ k, (∀ y0 y1 y2, LeO (zt_.l0 k y0 y1 y2) (zt_.l0 (k + 1) y0 y1 y2)) ∧ (∀ y0 y1 y2 y3, LeO (zt_.j1 k y0 y1 y2 y3) (zt_.j1 (k + 1) y0 y1 y2 y3)) ∧ (∀ y0 y1 y2 y3, LeO (zt_.l1 k y0 y1 y2 y3) (zt_.l1 (k + 1) y0 y1 y2 y3))
 | 0 => ⟨fun _ _ _ r h => by simp [zt_.l0] at h, fun _ _ _ _ r h => by simp [zt_.j1] at h, fun _ _ _ _ r h => by simp [zt_.l1] at h⟩
 | k + 1 => by
  obtain ⟨ih0, ih1, ih2⟩ := zt_.mono_l k
  refine ⟨?_, ?_, ?_⟩
  ·
   intro y0 y1 y2
   unfold zt_.l0
   repeat' with_reducible first | exact ih0 _ _ _ | exact ih1 _ _ _ _ | exact ih2 _ _ _ _ | exact zQ_.mono _ _ | exact yF_.mono _ _ | exact LeO.refl _ | exact LeO.none _ | refine LeO.ite ?_ ?_ | refine LeO.bind ?_ (fun _ => ?_)
  ·
   intro y0 y1 y2 y3
   unfold zt_.j1
   repeat' with_reducible first | exact ih0 _ _ _ | exact ih1 _ _ _ _ | exact ih2 _ _ _ _ | exact zQ_.mono _ _ | exact yF_.mono _ _ | exact LeO.refl _ | exact LeO.none _ | refine LeO.ite ?_ ?_ | refine LeO.bind ?_ (fun _ => ?_)
  ·
   intro y0 y1 y2 y3
   unfold zt_.l1
   repeat' with_reducible first | exact ih0 _ _ _ | exact ih1 _ _ _ _ | exact ih2 _ _ _ _ | exact zQ_.mono _ _ | exact yF_.mono _ _ | exact LeO.refl _ | exact LeO.none _ | refine LeO.ite ?_ ?_ | refine LeO.bind ?_ (fun _ => ?_)
theorem zt_.mono : ∀ a0 k, LeO (zt_.f k a0) (zt_.f (k + 1) a0) := by
 intro a0 k
 obtain ⟨ih0, ih1, ih2⟩ := zt_.mono_l k
 unfold zt_.f
 repeat' with_reducible first | exact ih0 _ _ _ | exact ih1 _ _ _ _ | exact ih2 _ _ _ _ | exact zQ_.mono _ _ | exact yF_.mono _ _ | exact LeO.refl _ | exact LeO.none _ | refine LeO.ite ?_ ?_ | refine LeO.bind ?_ (fun _ => ?_)
theorem zt_.calls (k : Nat) (A0 : Option Addr) (c0 : Nat) (l0 : List (S97)) (r : ByteArray) (w : World) (hr0 : Kd.C k97 w A0 l0.length l0) (hc0 : l0.length ≤ c0) (h : zt_.f k l0 = some r) :
 Calls Try.prog 57 #[.slice A0 l0.length c0] w fun e w' => e = .returned (.string r) ∧ Below w.heap.size w w' := by
 have HR0 := AM hr0
 have HC0 := AM hc0
 clear hr0 hc0
 have HB := AM (Below.refl w.heap.size w)
 have H : ((zQ_.f k (l0.length : Int)).bind fun t293 => (if t293.size ≤ 140737488355327 then (zt_.l0 k l0 (bytesOf t293) 0) else (none))) = some r := h
 clear h
 obtain ⟨t293, A2, H⟩ := OB H
 try dsimp only at H
 replace A2 := AM A2
 by_cases c3 : t293.size ≤ 140737488355327
 ·
  rw [if_pos c3] at H
  have c3b0 := eq_true c3
  have c3b1 : decide (t293.size ≤ 140737488355327) = true := decide_eq_true c3
  clear c3
  obtain ⟨y294, hy294⟩ : ∃ y_ : List Int, y_ = (bytesOf t293) := ⟨_, rfl⟩
  replace H : (zt_.l0 k l0 y294 0) = some r := by first | (rw [hy294]; with_reducible exact H) | (have H2_ := (Option.bind_some _ _).symm.trans H; rw [hy294]; with_reducible exact H2_) | (have H2_ := (Option.bind_some _ _).symm.trans H; with_reducible exact H2_) | with_reducible exact H | (rw [hy294]; exact H) | exact H
  have Ny294 := AM hy294
  clear hy294
  have H' := AM H
  clear H
  go_enter Try.func57, Try.ntmps57
  go_wp2_with (first | ((with_reducible refine zl_ (f := 73) rfl ?_); refine gl_ (some 9) Try.func73 #[.int .i64 (l0.length : Int)] ?_; (with_reducible refine (zQ_.calls k (l0.length : Int) t293 _ A2.out).mono ?_); rintro e w4 ⟨rfl, hb⟩; refine ⟨_, rfl, ?_⟩; replace HB := AM (zg_ bel_ hb); (try clear hb)))
  obtain ⟨v295, w5, hcv_, ho6, hb⟩ := Km.conv_run (P := Try.prog) w4 5 9 22 t293 Try.underlying9 Try.underlying22 Try.underlying5 (Nat.le_trans (of_decide_eq_true asm_) (by omega)) (d := Kd.int .u8) (ok := fun _ => True)
  rw [hcv_]
  simp only [Result.andThen]
  rw [Oper.upon_value]
  clear hcv_
  (first | rw [← Ny294.out] at ho6 | (simp only [Int.reduceToNat] at ho6; rw [← Ny294.out] at ho6))
  have HO296 := AM (Km.yE_ ho6 (zj_ bel_))
  replace HB := AM (zg_ bel_ hb)
  clear hb ho6
  go_wp2
  go_loopg [3, 4] k (fun kq v3 v4 w' => ∃ (x3_1 : List Int) (x4_1 : Int), v4 = .int .i64 x4_1 ∧ zd_ (zt_.l0 kq l0 x3_1 x4_1 = some r) ∧ zd_ (kq ≤ k) ∧ zd_ (Km.R (Kd.int .u8) 5 w' w.heap.size (fun _ => True) v3 x3_1) ∧ zd_ (Below w.heap.size w w'))
  case atStart => exact ⟨(y294), (0), re_, H', ⟨Nat.le_refl _⟩, ⟨Km.ro_ HO296.out⟩, ⟨bel_⟩⟩
  case round =>
   clear H'
   (try clear c3b0); (try clear c3b1)
   obtain ⟨x3_1, x4_1, rfl, HA, HK1, HO_3, HB⟩ := hrel
   cases gk with
   | zero => exact absurd HA.out (by simp [zt_.l0])
   | succ k1 =>
    have H := HA.out
    clear HA
    simp only [zt_.l0] at H
    by_cases c7 : x4_1 < (l0.length : Int)
    ·
     rw [if_pos c7] at H
     have c7b0 : decide (x4_1 < (l0.length : Int)) = true := decide_eq_true c7
     clear c7
     by_cases c8 : 0 ≤ x4_1
     ·
      rw [if_pos c8] at H
      have c8b0 : decide (0 ≤ x4_1) = true := decide_eq_true c8
      clear c8
      obtain ⟨t298, A9, H⟩ := OB H
      try dsimp only at H
      replace A9 := AM A9
      by_cases c10 : x3_1.length + t298.size < 140737488355328
      ·
       rw [if_pos c10] at H
       have LMc10 := AM c10
       clear c10
       obtain ⟨y299, hy299⟩ : ∃ y_ : List Int, y_ = (x3_1 ++ bytesOf t298) := ⟨_, rfl⟩
       replace H : (if (zH_ l0 x4_1).f1 = true then (zt_.j1 k1 l0 y299 x4_1 1) else (zt_.j1 k1 l0 y299 x4_1 0)) = some r := by first | (rw [hy299]; with_reducible exact H) | (have H2_ := (Option.bind_some _ _).symm.trans H; rw [hy299]; with_reducible exact H2_) | (have H2_ := (Option.bind_some _ _).symm.trans H; with_reducible exact H2_) | with_reducible exact H | (rw [hy299]; exact H) | exact H
       have Ny299 := AM hy299
       clear hy299
       have HC11 := AM H
       clear H
       have p297 : 0 ≤ (x4_1 : Int) := of_decide_eq_true asm_
       have q297 : x4_1 < (l0.length : Int) := of_decide_eq_true asm_
       obtain ⟨ad297, A297_3, c297_3, e297, hx297_0, hx297_1, hx297_2, hx297_3, hl297_3, hi297_3⟩ := at_T97 HR0.out x4_1 p297 q297
       cases e297
       replace hx297_0 := (HB.out.cell (World.block_lt_of_cell? w _ hx297_0)).trans hx297_0
       replace hx297_1 := (HB.out.cell (World.block_lt_of_cell? w _ hx297_1)).trans hx297_1
       replace hx297_2 := (HB.out.cell (World.block_lt_of_cell? w _ hx297_2)).trans hx297_2
       replace hx297_3 := (HB.out.cell (World.block_lt_of_cell? w _ hx297_3)).trans hx297_3
       have HR297_3 := AM hi297_3
       have HC297_3 := AM hl297_3
       clear hi297_3 hl297_3
       replace p297 := eq_true p297
       replace q297 := eq_true q297
       go_upto_if 29 with (first | ((with_reducible refine zl_ (f := 74) rfl ?_); refine gl_ (some 23) Try.func74 #[.string ((zH_ l0 x4_1).f0)] ?_; (with_reducible refine (yF_.calls k1 ((zH_ l0 x4_1).f0) t298 _ A9.out).mono ?_); rintro e w12 ⟨rfl, hb⟩; refine ⟨_, rfl, ?_⟩; replace HO_3 := AM (Km.yO_ (Km.ro_ HO_3.out) hb); replace HB := AM (zg_ bel_ hb); (try clear hb)) | (at_builtin; refine Km.y5_ (w0 := w) w.heap.size rfl (.tmp 17) _ 22 9 5 rfl Try.underlying22 Try.underlying9 info5 u3 x3_1 t298 rfl rfl ?aO ?aB ?aS ?aL ?_; (case aB => exact bel_); (case aO => exact (Km.ro_ HO_3.out)); (case aS => exact (zj_ bel_)); (case aL => have := LMc10.out; omega); intro v300 w13 ho0 hb hg; have ho := ho0; clear ho0; have hat := True.intro; rw [← Ny299.out] at ho; change Km.R (Kd.int .u8) 5 w13 w.heap.size (fun _ => True) v300 y299 at ho; have n0_ := AM hb; have n1_ := AM ho; clear HB; clear HO_3; have HB := n0_; have HO301 := n1_; clear n0_ n1_; clear ho hb hg hat; have p302 : 0 ≤ (x4_1 : Int) := of_decide_eq_true asm_; have q302 : x4_1 < (l0.length : Int) := of_decide_eq_true asm_; obtain ⟨ad302, A302_3, c302_3, e302, hx302_0, hx302_1, hx302_2, hx302_3, hl302_3, hi302_3⟩ := at_T97 HR0.out x4_1 p302 q302; obtain rfl : ad297 = ad302 := (by injection e302); replace hx302_0 := (HB.out.cell (World.block_lt_of_cell? w _ hx302_0)).trans hx302_0; replace hx302_1 := (HB.out.cell (World.block_lt_of_cell? w _ hx302_1)).trans hx302_1; replace hx302_2 := (HB.out.cell (World.block_lt_of_cell? w _ hx302_2)).trans hx302_2; replace hx302_3 := (HB.out.cell (World.block_lt_of_cell? w _ hx302_3)).trans hx302_3; have HR302_3 := AM hi302_3; have HC302_3 := AM hl302_3; clear hi302_3 hl302_3; replace p302 := eq_true p302; replace q302 := eq_true q302))
       (try simp only [Act.put, List.setIfInBounds_toArray, List.set_cons_zero, List.set_cons_succ])
       go_cut [5] (fun v5 wc => ∃ (kq : Nat) (x5_10 : Int), v5 = .int .i64 x5_10 ∧ zd_ (zt_.j1 kq l0 y299 x4_1 x5_10 = some r) ∧ zd_ (kq ≤ k1) ∧ zd_ (Km.R (Kd.int .u8) 5 wc w.heap.size (fun _ => True) v300 y299) ∧ zd_ (Below w.heap.size w wc))
       case first =>
        have H := HC11.out
        clear HC11
        obtain ⟨bq14, hbq14⟩ : ∃ b_ : Bool, b_ = ((zH_ l0 x4_1).f1) := ⟨_, rfl⟩
        replace H : (if bq14 = true then (zt_.j1 k1 l0 y299 x4_1 1) else (zt_.j1 k1 l0 y299 x4_1 0)) = some r := by rw [← hbq14] at H; exact H
        have Nbq14 := AM hbq14
        clear hbq14
        (try rw [← Nbq14.out])
        by_cases c15 : bq14 = true
        ·
         subst c15
         rw [if_pos rfl] at H
         have H' := AM H
         clear H
         go_wp2
         go_meet
         case rel => exact ⟨_, (1), re_, H', ⟨by have := HK1.out; first | omega | exact Nat.le_refl _⟩, ⟨Km.ro_ HO301.out⟩, ⟨bel_⟩⟩
        ·
         replace c15 := Bool.eq_false_iff.mpr c15
         subst c15
         rw [if_neg (show ¬ (false = true) by decide)] at H
         have H' := AM H
         clear H
         go_wp2
         go_meet
         case rel => exact ⟨_, (0), re_, H', ⟨by have := HK1.out; first | omega | exact Nat.le_refl _⟩, ⟨Km.ro_ HO301.out⟩, ⟨bel_⟩⟩
       case rest =>
        clear HC11
        (try clear c7b0); (try clear c8b0); (try clear c15); (try clear hx297_0); (try clear hx297_1); (try clear hx297_2); (try clear hx297_3); (try clear hx302_0); (try clear hx302_1); (try clear hx302_2); (try clear hx302_3); (try clear p297); (try clear p302); (try clear q297); (try clear q302)
        obtain ⟨kq, x5_10, rfl, HA, HJ10, HO_3, HB⟩ := hcut
        cases kq with
        | zero => exact absurd HA.out (by simp [zt_.j1])
        | succ kj10 =>
         have H := HA.out
         clear HA
         simp only [zt_.j1] at H
         obtain ⟨t303, A16, H⟩ := OB H
         try dsimp only at H
         replace A16 := AM A16
         by_cases c17 : y299.length + t303.size < 140737488355328
         ·
          rw [if_pos c17] at H
          have LMc17 := AM c17
          clear c17
          obtain ⟨y304, hy304⟩ : ∃ y_ : List Int, y_ = (y299 ++ bytesOf t303) := ⟨_, rfl⟩
          replace H : (if 0 ≤ x4_1 then (if x4_1 < (l0.length : Int) then ((zQ_.f kj10 ((zH_ l0 x4_1).f2)).bind fun t308 => (if y304.length + t308.size < 140737488355328 then ((some (y304 ++ bytesOf t308 : List Int)).bind fun y309 => ((zQ_.f kj10 (((zH_ l0 x4_1).f3).length : Int)).bind fun t313 => (if y309.length + t313.size < 140737488355328 then (zt_.l1 kj10 l0 (y309 ++ bytesOf t313) x4_1 0) else (none)))) else (none))) else (none)) else (none)) = some r := by first | (rw [hy304]; with_reducible exact H) | (have H2_ := (Option.bind_some _ _).symm.trans H; rw [hy304]; with_reducible exact H2_) | (have H2_ := (Option.bind_some _ _).symm.trans H; with_reducible exact H2_) | with_reducible exact H | (rw [hy304]; exact H) | exact H
          have Ny304 := AM hy304
          clear hy304
          by_cases c18 : 0 ≤ x4_1
          ·
           rw [if_pos c18] at H
           have c18b0 : decide (0 ≤ x4_1) = true := decide_eq_true c18
           clear c18
           by_cases c19 : x4_1 < (l0.length : Int)
           ·
            rw [if_pos c19] at H
            have c19b0 : decide (x4_1 < (l0.length : Int)) = true := decide_eq_true c19
            clear c19
            obtain ⟨t308, A20, H⟩ := OB H
            try dsimp only at H
            replace A20 := AM A20
            by_cases c21 : y304.length + t308.size < 140737488355328
            ·
             rw [if_pos c21] at H
             have LMc21 := AM c21
             clear c21
             obtain ⟨y309, hy309⟩ : ∃ y_ : List Int, y_ = (y304 ++ bytesOf t308) := ⟨_, rfl⟩
             replace H : ((zQ_.f kj10 (((zH_ l0 x4_1).f3).length : Int)).bind fun t313 => (if y309.length + t313.size < 140737488355328 then (zt_.l1 kj10 l0 (y309 ++ bytesOf t313) x4_1 0) else (none))) = some r := by first | (rw [hy309]; with_reducible exact H) | (have H2_ := (Option.bind_some _ _).symm.trans H; rw [hy309]; with_reducible exact H2_) | (have H2_ := (Option.bind_some _ _).symm.trans H; with_reducible exact H2_) | with_reducible exact H | (rw [hy309]; exact H) | exact H
             have Ny309 := AM hy309
             clear hy309
             obtain ⟨t313, A22, H⟩ := OB H
             try dsimp only at H
             replace A22 := AM A22
             by_cases c23 : y309.length + t313.size < 140737488355328
             ·
              rw [if_pos c23] at H
              have LMc23 := AM c23
              clear c23
              obtain ⟨y314, hy314⟩ : ∃ y_ : List Int, y_ = (y309 ++ bytesOf t313) := ⟨_, rfl⟩
              replace H : (zt_.l1 kj10 l0 y314 x4_1 0) = some r := by first | (rw [hy314]; with_reducible exact H) | (have H2_ := (Option.bind_some _ _).symm.trans H; rw [hy314]; with_reducible exact H2_) | (have H2_ := (Option.bind_some _ _).symm.trans H; with_reducible exact H2_) | with_reducible exact H | (rw [hy314]; exact H) | exact H
              have Ny314 := AM hy314
              clear hy314
              have H' := AM H
              clear H
              go_wp2_with (first | ((with_reducible refine zl_ (f := 73) rfl ?_); refine gl_ (some 32) Try.func73 #[.int .i64 x5_10] ?_; (with_reducible refine (zQ_.calls kj10 x5_10 t303 _ A16.out).mono ?_); rintro e w24 ⟨rfl, hb⟩; refine ⟨_, rfl, ?_⟩; replace HO_3 := AM (Km.yO_ (Km.ro_ HO_3.out) hb); replace HB := AM (zg_ bel_ hb); (try clear hb)) | (at_builtin; refine Km.y5_ (w0 := w) w.heap.size rfl (.tmp 30) _ 22 9 5 rfl Try.underlying22 Try.underlying9 info5 v300 y299 t303 rfl rfl ?aO ?aB ?aS ?aL ?_; (case aB => exact bel_); (case aO => exact (Km.ro_ HO_3.out)); (case aS => exact (zj_ bel_)); (case aL => have := LMc17.out; omega); intro v305 w25 ho0 hb hg; have ho := ho0; clear ho0; have hat := True.intro; rw [← Ny304.out] at ho; change Km.R (Kd.int .u8) 5 w25 w.heap.size (fun _ => True) v305 y304 at ho; have n0_ := AM hb; have n1_ := AM ho; clear HB; clear HO_3; have HB := n0_; have HO306 := n1_; clear n0_ n1_; clear ho hb hg hat; have p307 : 0 ≤ (x4_1 : Int) := of_decide_eq_true asm_; have q307 : x4_1 < (l0.length : Int) := of_decide_eq_true asm_; obtain ⟨ad307, A307_3, c307_3, e307, hx307_0, hx307_1, hx307_2, hx307_3, hl307_3, hi307_3⟩ := at_T97 HR0.out x4_1 p307 q307; obtain rfl : ad297 = ad307 := (by injection e307); replace hx307_0 := (HB.out.cell (World.block_lt_of_cell? w _ hx307_0)).trans hx307_0; replace hx307_1 := (HB.out.cell (World.block_lt_of_cell? w _ hx307_1)).trans hx307_1; replace hx307_2 := (HB.out.cell (World.block_lt_of_cell? w _ hx307_2)).trans hx307_2; replace hx307_3 := (HB.out.cell (World.block_lt_of_cell? w _ hx307_3)).trans hx307_3; have HR307_3 := AM hi307_3; have HC307_3 := AM hl307_3; clear hi307_3 hl307_3; replace p307 := eq_true p307; replace q307 := eq_true q307) | ((with_reducible refine zl_ (f := 73) rfl ?_); refine gl_ (some 40) Try.func73 #[.int .i64 ((zH_ l0 x4_1).f2)] ?_; (with_reducible refine (zQ_.calls kj10 ((zH_ l0 x4_1).f2) t308 _ A20.out).mono ?_); rintro e w26 ⟨rfl, hb⟩; refine ⟨_, rfl, ?_⟩; replace HO306 := AM (Km.yO_ (Km.ro_ HO306.out) hb); replace HB := AM (zg_ bel_ hb); (try clear hb)) | (at_builtin; refine Km.y5_ (w0 := w) w.heap.size rfl (.tmp 34) _ 22 9 5 rfl Try.underlying22 Try.underlying9 info5 v305 y304 t308 rfl rfl ?aO ?aB ?aS ?aL ?_; (case aB => exact bel_); (case aO => exact (Km.ro_ HO306.out)); (case aS => exact (zj_ bel_)); (case aL => have := LMc21.out; omega); intro v310 w27 ho0 hb hg; have ho := ho0; clear ho0; have hat := True.intro; rw [← Ny309.out] at ho; change Km.R (Kd.int .u8) 5 w27 w.heap.size (fun _ => True) v310 y309 at ho; have n0_ := AM hb; have n1_ := AM ho; clear HB; clear HO306; have HB := n0_; have HO311 := n1_; clear n0_ n1_; clear ho hb hg hat; have p312 : 0 ≤ (x4_1 : Int) := of_decide_eq_true asm_; have q312 : x4_1 < (l0.length : Int) := of_decide_eq_true asm_; obtain ⟨ad312, A312_3, c312_3, e312, hx312_0, hx312_1, hx312_2, hx312_3, hl312_3, hi312_3⟩ := at_T97 HR0.out x4_1 p312 q312; obtain rfl : ad297 = ad312 := (by injection e312); replace hx312_0 := (HB.out.cell (World.block_lt_of_cell? w _ hx312_0)).trans hx312_0; replace hx312_1 := (HB.out.cell (World.block_lt_of_cell? w _ hx312_1)).trans hx312_1; replace hx312_2 := (HB.out.cell (World.block_lt_of_cell? w _ hx312_2)).trans hx312_2; replace hx312_3 := (HB.out.cell (World.block_lt_of_cell? w _ hx312_3)).trans hx312_3; have HR312_3 := AM hi312_3; have HC312_3 := AM hl312_3; clear hi312_3 hl312_3; replace p312 := eq_true p312; replace q312 := eq_true q312) | ((with_reducible refine zl_ (f := 73) rfl ?_); refine gl_ (some 49) Try.func73 #[.int .i64 (((zH_ l0 x4_1).f3).length : Int)] ?_; (with_reducible refine (zQ_.calls kj10 (((zH_ l0 x4_1).f3).length : Int) t313 _ A22.out).mono ?_); rintro e w28 ⟨rfl, hb⟩; refine ⟨_, rfl, ?_⟩; replace HO311 := AM (Km.yO_ (Km.ro_ HO311.out) hb); replace HB := AM (zg_ bel_ hb); (try clear hb)) | (at_builtin; refine Km.y5_ (w0 := w) w.heap.size rfl (.tmp 42) _ 22 9 5 rfl Try.underlying22 Try.underlying9 info5 v310 y309 t313 rfl rfl ?aO ?aB ?aS ?aL ?_; (case aB => exact bel_); (case aO => exact (Km.ro_ HO311.out)); (case aS => exact (zj_ bel_)); (case aL => have := LMc23.out; omega); intro v315 w29 ho0 hb hg; have ho := ho0; clear ho0; have hat := True.intro; rw [← Ny314.out] at ho; change Km.R (Kd.int .u8) 5 w29 w.heap.size (fun _ => True) v315 y314 at ho; have n0_ := AM hb; have n1_ := AM ho; clear HB; clear HO311; have HB := n0_; have HO316 := n1_; clear n0_ n1_; clear ho hb hg hat))
              go_loopg [3, 6] kj10 (fun kq v3 v6 w' => ∃ (x3_3 : List Int) (x6_3 : Int), v6 = .int .i64 x6_3 ∧ zd_ (zt_.l1 kq l0 x3_3 x4_1 x6_3 = some r) ∧ zd_ (kq ≤ kj10) ∧ zd_ (Km.R (Kd.int .u8) 5 w' w.heap.size (fun _ => True) v3 x3_3) ∧ zd_ (Below w.heap.size w w'))
              case atStart => exact ⟨(y314), (0), re_, H', ⟨Nat.le_refl _⟩, ⟨Km.ro_ HO316.out⟩, ⟨bel_⟩⟩
              case round =>
               clear H'
               (try clear c18b0); (try clear c19b0); (try clear hx307_0); (try clear hx307_1); (try clear hx307_2); (try clear hx307_3); (try clear hx312_0); (try clear hx312_1); (try clear hx312_2); (try clear hx312_3); (try clear p307); (try clear p312); (try clear q307); (try clear q312)
               obtain ⟨x3_3, x6_3, rfl, HA, HK3, HO_3, HB⟩ := hrel
               cases gk with
               | zero => exact absurd HA.out (by simp [zt_.l1])
               | succ k3 =>
                have H := HA.out
                clear HA
                simp only [zt_.l1] at H
                by_cases c30 : 0 ≤ x4_1
                ·
                 rw [if_pos c30] at H
                 have c30b0 : decide (0 ≤ x4_1) = true := decide_eq_true c30
                 clear c30
                 by_cases c31 : x4_1 < (l0.length : Int)
                 ·
                  rw [if_pos c31] at H
                  have c31b0 : decide (x4_1 < (l0.length : Int)) = true := decide_eq_true c31
                  clear c31
                  by_cases c32 : x6_3 < (((zH_ l0 x4_1).f3).length : Int)
                  ·
                   rw [if_pos c32] at H
                   have c32b0 : decide (x6_3 < (((zH_ l0 x4_1).f3).length : Int)) = true := decide_eq_true c32
                   clear c32
                   by_cases c33 : 0 ≤ x6_3
                   ·
                    rw [if_pos c33] at H
                    have c33b0 : decide (0 ≤ x6_3) = true := decide_eq_true c33
                    clear c33
                    by_cases c34 : x3_3.length + (rdOf ByteArray.empty ((zH_ l0 x4_1).f3) x6_3).size < 140737488355328
                    ·
                     rw [if_pos c34] at H
                     have LMc34 := AM c34
                     clear c34
                     obtain ⟨y320, hy320⟩ : ∃ y_ : List Int, y_ = (x3_3 ++ bytesOf (rdOf ByteArray.empty ((zH_ l0 x4_1).f3) x6_3)) := ⟨_, rfl⟩
                     replace H : (zt_.l1 k3 l0 y320 x4_1 (wrap64 (x6_3 + 1))) = some r := by first | (rw [hy320]; with_reducible exact H) | (have H2_ := (Option.bind_some _ _).symm.trans H; rw [hy320]; with_reducible exact H2_) | (have H2_ := (Option.bind_some _ _).symm.trans H; with_reducible exact H2_) | with_reducible exact H | (rw [hy320]; exact H) | exact H
                     have Ny320 := AM hy320
                     clear hy320
                     have H' := AM H
                     clear H
                     have p317 : 0 ≤ (x4_1 : Int) := of_decide_eq_true asm_
                     have q317 : x4_1 < (l0.length : Int) := of_decide_eq_true asm_
                     obtain ⟨ad317, A317_3, c317_3, e317, hx317_0, hx317_1, hx317_2, hx317_3, hl317_3, hi317_3⟩ := at_T97 HR0.out x4_1 p317 q317
                     obtain rfl : ad297 = ad317 := (by injection e317)
                     replace hx317_0 := (HB.out.cell (World.block_lt_of_cell? w _ hx317_0)).trans hx317_0
                     replace hx317_1 := (HB.out.cell (World.block_lt_of_cell? w _ hx317_1)).trans hx317_1
                     replace hx317_2 := (HB.out.cell (World.block_lt_of_cell? w _ hx317_2)).trans hx317_2
                     replace hx317_3 := (HB.out.cell (World.block_lt_of_cell? w _ hx317_3)).trans hx317_3
                     have HR317_3 := AM hi317_3
                     have HC317_3 := AM hl317_3
                     clear hi317_3 hl317_3
                     replace p317 := eq_true p317
                     replace q317 := eq_true q317
                     have p318 : 0 ≤ (x4_1 : Int) := of_decide_eq_true asm_
                     have q318 : x4_1 < (l0.length : Int) := of_decide_eq_true asm_
                     obtain ⟨ad318, A318_3, c318_3, e318, hx318_0, hx318_1, hx318_2, hx318_3, hl318_3, hi318_3⟩ := at_T97 HR0.out x4_1 p318 q318
                     obtain rfl : ad297 = ad318 := (by injection e318)
                     replace hx318_0 := (HB.out.cell (World.block_lt_of_cell? w _ hx318_0)).trans hx318_0
                     replace hx318_1 := (HB.out.cell (World.block_lt_of_cell? w _ hx318_1)).trans hx318_1
                     replace hx318_2 := (HB.out.cell (World.block_lt_of_cell? w _ hx318_2)).trans hx318_2
                     replace hx318_3 := (HB.out.cell (World.block_lt_of_cell? w _ hx318_3)).trans hx318_3
                     have HR318_3 := AM hi318_3
                     have HC318_3 := AM hl318_3
                     clear hi318_3 hl318_3
                     replace p318 := eq_true p318
                     replace q318 := eq_true q318
                     have ea_ := Option.some.inj (hx317_3.symm.trans hx318_3)
                     injection ea_ with ea_ en_ ec_
                     subst ea_
                     subst ec_
                     clear en_
                     have p319 : 0 ≤ (x6_3 : Int) := of_decide_eq_true asm_
                     have q319 : x6_3 < (((zH_ l0 x4_1).f3).length : Int) := of_decide_eq_true asm_
                     obtain ⟨ad319, e319, hx319_0⟩ := Kd.y4_ HR318_3.out x6_3 p319 q319
                     cases e319
                     replace hx319_0 := (HB.out.cell (World.block_lt_of_cell? w _ hx319_0)).trans hx319_0
                     replace p319 := eq_true p319
                     replace q319 := eq_true q319
                     go_wp2_with (first | (at_builtin; refine Km.y5_ (w0 := w) w.heap.size rfl (.tmp 61) _ 22 9 5 rfl Try.underlying22 Try.underlying9 info5 u3 x3_3 (rdOf ByteArray.empty ((zH_ l0 x4_1).f3) x6_3) rfl rfl ?aO ?aB ?aS ?aL ?_; (case aB => exact bel_); (case aO => exact (Km.ro_ HO_3.out)); (case aS => exact (zj_ bel_)); (case aL => have := LMc34.out; omega); intro v321 w35 ho0 hb hg; have ho := ho0; clear ho0; have hat := True.intro; rw [← Ny320.out] at ho; change Km.R (Kd.int .u8) 5 w35 w.heap.size (fun _ => True) v321 y320 at ho; have n0_ := AM hb; have n1_ := AM ho; clear HB; clear HO_3; have HB := n0_; have HO322 := n1_; clear n0_ n1_; clear ho hb hg hat))
                     go_roundg k3
                     case measure => have := HK1.out; have := HJ10.out; have := HK3.out; omega
                     case rel => exact ⟨(y320), (wrap64 (x6_3 + 1)), re_, H', ⟨by have := HK1.out; have := HJ10.out; have := HK3.out; omega⟩, ⟨Km.ro_ HO322.out⟩, ⟨bel_⟩⟩
                    ·
                     rw [if_neg c34] at H
                     exact absurd H (by simp)
                   ·
                    rw [if_neg c33] at H
                    exact absurd H (by simp)
                  ·
                   rw [if_neg c32] at H
                   have c32b0 : decide (x6_3 < (((zH_ l0 x4_1).f3).length : Int)) = false := decide_eq_false c32
                   clear c32
                   have H' := AM H
                   clear H
                   have p317 : 0 ≤ (x4_1 : Int) := of_decide_eq_true asm_
                   have q317 : x4_1 < (l0.length : Int) := of_decide_eq_true asm_
                   obtain ⟨ad317, A317_3, c317_3, e317, hx317_0, hx317_1, hx317_2, hx317_3, hl317_3, hi317_3⟩ := at_T97 HR0.out x4_1 p317 q317
                   obtain rfl : ad297 = ad317 := (by injection e317)
                   replace hx317_0 := (HB.out.cell (World.block_lt_of_cell? w _ hx317_0)).trans hx317_0
                   replace hx317_1 := (HB.out.cell (World.block_lt_of_cell? w _ hx317_1)).trans hx317_1
                   replace hx317_2 := (HB.out.cell (World.block_lt_of_cell? w _ hx317_2)).trans hx317_2
                   replace hx317_3 := (HB.out.cell (World.block_lt_of_cell? w _ hx317_3)).trans hx317_3
                   have HR317_3 := AM hi317_3
                   have HC317_3 := AM hl317_3
                   clear hi317_3 hl317_3
                   replace p317 := eq_true p317
                   replace q317 := eq_true q317
                   go_wp2
                   go_roundg k3
                   case measure => have := HK1.out; have := HJ10.out; have := HK3.out; omega
                   case rel => exact ⟨(x3_3), (wrap64 (x4_1 + 1)), re_, H', ⟨by have := HK1.out; have := HJ10.out; have := HK3.out; omega⟩, ⟨Km.ro_ HO_3.out⟩, ⟨bel_⟩⟩
                 ·
                  rw [if_neg c31] at H
                  exact absurd H (by simp)
                ·
                 rw [if_neg c30] at H
                 exact absurd H (by simp)
             ·
              rw [if_neg c23] at H
              exact absurd H (by simp)
            ·
             rw [if_neg c21] at H
             exact absurd H (by simp)
           ·
            rw [if_neg c19] at H
            exact absurd H (by simp)
          ·
           rw [if_neg c18] at H
           exact absurd H (by simp)
         ·
          rw [if_neg c17] at H
          exact absurd H (by simp)
      ·
       rw [if_neg c10] at H
       exact absurd H (by simp)
     ·
      rw [if_neg c8] at H
      exact absurd H (by simp)
    ·
     rw [if_neg c7] at H
     have c7b0 : decide (x4_1 < (l0.length : Int)) = false := decide_eq_false c7
     clear c7
     obtain rfl := Option.some.inj H
     have hcv36 := Km.xf_ (P := Try.prog) Try.underlying22 Try.underlying5 Try.underlying9 HO_3.out
     go_wp2
     go_ret
     exact ⟨ri_, bel_⟩
 ·
  rw [if_neg c3] at H
  exact absurd H (by simp)
/-! ### z4_: function 10 -/
def z4_.f (k : Nat) (l0 : List (S97)) : Option (ByteArray) := if (l0.length : Int) > 400 then (some (⟨#[]⟩ : ByteArray)) else ((zw_.f k l0).bind fun t323 => (if t323 = true then ((zt_.f k l0).bind fun t324 => (some t324)) else (some (⟨#[]⟩ : ByteArray))))
theorem z4_.mono : ∀ a0 k, LeO (z4_.f k a0) (z4_.f (k + 1) a0) := by
 intro a0 k
 unfold z4_.f
 repeat' with_reducible first | exact zw_.mono _ _ | exact zt_.mono _ _ | exact LeO.refl _ | exact LeO.none _ | refine LeO.ite ?_ ?_ | refine LeO.bind ?_ (fun _ => ?_)
theorem z4_.calls (k : Nat) (A0 : Option Addr) (c0 : Nat) (l0 : List (S97)) (r : ByteArray) (w : World) (hr0 : Kd.C k97 w A0 l0.length l0) (hc0 : l0.length ≤ c0) (h : z4_.f k l0 = some r) :
 Calls Try.prog 10 #[.slice A0 l0.length c0] w fun e w' => e = .returned (.string r) ∧ Below w.heap.size w w' := by
 have HR0 := AM hr0
 have HC0 := AM hc0
 clear hr0 hc0
 have HB := AM (Below.refl w.heap.size w)
 have H : (if (l0.length : Int) > 400 then (some (⟨#[]⟩ : ByteArray)) else ((zw_.f k l0).bind fun t323 => (if t323 = true then ((zt_.f k l0).bind fun t324 => (some t324)) else (some (⟨#[]⟩ : ByteArray))))) = some r := h
 clear h
 by_cases c2 : (l0.length : Int) > 400
 ·
  rw [if_pos c2] at H
  have c2b0 : decide (400 < (l0.length : Int)) = true := decide_eq_true c2
  have c2b1 : decide (400 < l0.length) = true := decide_eq_true (by omega)
  clear c2
  obtain rfl := Option.some.inj H
  go_enter Try.func10, Try.ntmps10
  go_wp2
  go_ret
  exact ⟨ri_, bel_⟩
 ·
  rw [if_neg c2] at H
  have c2b0 : decide (400 < (l0.length : Int)) = false := decide_eq_false c2
  have c2b1 : decide (400 < l0.length) = false := decide_eq_false (by omega)
  clear c2
  obtain ⟨t323, A3, H⟩ := OB H
  try dsimp only at H
  replace A3 := AM A3
  by_cases c4 : t323 = true
  ·
   subst c4
   rw [if_pos rfl] at H
   obtain ⟨t324, A5, H⟩ := OB H
   try dsimp only at H
   replace A5 := AM A5
   obtain rfl := Option.some.inj H
   go_enter Try.func10, Try.ntmps10
   go_wp2_with (first | (go_at_call 56; (with_reducible refine (zw_.calls k _ _ l0 true _ ?side1 ?side2 A3.out).mono ?_); (case side1 => repeat (first | exact HR0.out | (with_reducible refine Kd.yx_ ?_ _) | (with_reducible refine Kd.yw_ ?_ _) | (with_reducible refine Kd.yQ_ ?_))); (case side2 => exact HC0.out); rintro e w6 ⟨rfl, hb⟩; replace HB := AM (zg_ bel_ hb); (try clear hb)) | ((with_reducible refine zl_ (f := 57) rfl ?_); refine gl_ (some 12) Try.func57 #[.slice A0 l0.length c0] ?_; (with_reducible refine (zt_.calls k _ _ l0 t324 _ ?side1 ?side2 A5.out).mono ?_); (case side1 => repeat (first | exact (Kd.xc_ HR0.out HB.out) | (with_reducible refine Kd.yx_ ?_ _) | (with_reducible refine Kd.yw_ ?_ _) | (with_reducible refine Kd.yQ_ ?_))); (case side2 => exact HC0.out); rintro e w7 ⟨rfl, hb⟩; refine ⟨_, rfl, ?_⟩; replace HB := AM (zg_ bel_ hb); (try clear hb)))
   go_ret
   exact ⟨ri_, bel_⟩
  ·
   replace c4 := Bool.eq_false_iff.mpr c4
   subst c4
   rw [if_neg (show ¬ (false = true) by decide)] at H
   obtain rfl := Option.some.inj H
   go_enter Try.func10, Try.ntmps10
   go_wp2_with (first | (go_at_call 56; (with_reducible refine (zw_.calls k _ _ l0 false _ ?side1 ?side2 A3.out).mono ?_); (case side1 => repeat (first | exact HR0.out | (with_reducible refine Kd.yx_ ?_ _) | (with_reducible refine Kd.yw_ ?_ _) | (with_reducible refine Kd.yQ_ ?_))); (case side2 => exact HC0.out); rintro e w8 ⟨rfl, hb⟩; replace HB := AM (zg_ bel_ hb); (try clear hb)))
   go_ret
   exact ⟨ri_, bel_⟩
/-! ### xu_: function 62 -/
def xu_.f (a0 : ByteArray) : Option (Bool) := some (decide ((a0.size : Int) > 20000))
theorem xu_.calls (a0 : ByteArray) (r : Bool) (w : World) (h : xu_.f a0 = some r) :
 Calls Try.prog 62 #[.string a0] w fun e w' => e = .returned (.bool r) ∧ xp_ w w' := by
 have H : (some (decide ((a0.size : Int) > 20000))) = some r := h
 clear h
 obtain rfl := Option.some.inj H
 go_enter Try.func62, Try.ntmps62
 go_wp2
 go_ret
 exact ⟨re_, dr_⟩
end Go.Proofs.Ytfffdndeccipnaa.PFnNodes
