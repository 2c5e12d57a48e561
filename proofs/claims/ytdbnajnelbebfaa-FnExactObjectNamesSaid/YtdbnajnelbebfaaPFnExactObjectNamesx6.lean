-- A program of this session wrote this text: a changed copy of the kit print, with given functions.
import Derived.Test.YtdbnajnelbebfaaPFnExactObjectNamesx0
import Derived.Test.YtdbnajnelbebfaaPFnExactObjectNamesx5
namespace Go.Proofs.Ytdbnajnelbebfaa.PFnExactObjectNames
open Go.RowKit Go.Proofs.YtdbnajnelbebfaaW.PrintWords Go.Proofs.YtdbnajnelbebfaaW.PrintLast Go.Proofs.YtdbnajnelbebfaaW.PrintMore Go.Proofs.Ytdbnajnelbebfaa.Aut
attribute [local go_sem] max2_int min2_int max_two min_two max_three min_three max_four min_four   -- for this text's walks alone
set_option linter.unusedVariables false
set_option linter.unusedSimpArgs false

/-! ### impl_isName: function 146 -/
def impl_isName.l0 : Nat → ByteArray → Int → Int → Int → Option (Bool)
  | 0, _, _, _, _ => none
  | k + 1, x0, x1, x8, x9 => if x9 < x8 then (if 0 ≤ x9 then (if x9 < (x0.size : Int) then (if (bt x0 x9) ≥ 97 then (if ((bt x0 x9) ≤ 122) then (impl_isName.l0 k x0 x1 x8 (wrap64 (x9 + 1))) else (if x9 = 0 then (some false) else (if (bt x0 x9) ≥ 48 then (if ((bt x0 x9) ≤ 57) then (impl_isName.l0 k x0 x1 x8 (wrap64 (x9 + 1))) else (if (bt x0 x9) = 45 then (impl_isName.l0 k x0 x1 x8 (wrap64 (x9 + 1))) else (some false))) else (if (bt x0 x9) = 45 then (impl_isName.l0 k x0 x1 x8 (wrap64 (x9 + 1))) else (some false))))) else (if x9 = 0 then (some false) else (if (bt x0 x9) ≥ 48 then (if ((bt x0 x9) ≤ 57) then (impl_isName.l0 k x0 x1 x8 (wrap64 (x9 + 1))) else (if (bt x0 x9) = 45 then (impl_isName.l0 k x0 x1 x8 (wrap64 (x9 + 1))) else (some false))) else (if (bt x0 x9) = 45 then (impl_isName.l0 k x0 x1 x8 (wrap64 (x9 + 1))) else (some false))))) else (none)) else (none)) else ((impl_long.f x0).bind fun t218 => ((impl_within.f t218 1 x1).bind fun t219 => (some t219)))
def impl_isName.f (k : Nat) (a0 : ByteArray) (a1 : Int) : Option (Bool) := impl_isName.l0 k a0 a1 (a0.size : Int) 0
theorem impl_isName.mono_l : ∀ k, (∀ y0 y1 y2 y3, LeO (impl_isName.l0 k y0 y1 y2 y3) (impl_isName.l0 (k + 1) y0 y1 y2 y3))
  | 0 => fun _ _ _ _ r h => by simp [impl_isName.l0] at h
  | k + 1 => by
    have ih0 := impl_isName.mono_l k
    · intro y0 y1 y2 y3
      unfold impl_isName.l0
      repeat' first
      | (with_reducible exact ih0 _ _ _ _)
      | (with_reducible exact LeO.refl _)
      | (with_reducible exact LeO.none _)
      | (with_reducible refine LeO.ite ?_ ?_)
      | (with_reducible refine LeO.bind ?_ (fun _ => ?_))
      | exact ih0 _ _ _ _
      | exact LeO.none _
      | refine LeO.ite ?_ ?_
      | refine LeO.bind ?_ (fun _ => ?_)
theorem impl_isName.mono : ∀ a0 a1 k, LeO (impl_isName.f k a0 a1) (impl_isName.f (k + 1) a0 a1) := by
  intro a0 a1 k
  have ih0 := impl_isName.mono_l k
  unfold impl_isName.f
  repeat' first
      | (with_reducible exact ih0 _ _ _ _)
      | (with_reducible exact LeO.refl _)
      | (with_reducible exact LeO.none _)
      | (with_reducible refine LeO.ite ?_ ?_)
      | (with_reducible refine LeO.bind ?_ (fun _ => ?_))
      | exact ih0 _ _ _ _
      | exact LeO.none _
      | refine LeO.ite ?_ ?_
      | refine LeO.bind ?_ (fun _ => ?_)
set_option maxHeartbeats 8000000 in
set_option maxRecDepth 100000 in
theorem impl_isName.calls (k : Nat) (a0 : ByteArray) (a1 : Int) (r : Bool) (w : World) (h : impl_isName.f k a0 a1 = some r) :
    Calls Try.prog 146 #[.string a0, .int .i64 a1] w fun e w' => e = .returned (.bool r) ∧ Drawn0 w w' := by
  have H : (impl_isName.l0 k a0 a1 (a0.size : Int) 0) = some r := h
  clear h
  have H' := AM H
  clear H
  go_enter Try.func146, Try.ntmps146
  go_wp2
  go_loopg [9] k (fun kq v9 w' => ∃ (x9_1 : Int), v9 = .int .i64 x9_1 ∧ Aside0 (impl_isName.l0 kq a0 a1 (a0.size : Int) x9_1 = some r) ∧ Aside0 (kq ≤ k) ∧ Drawn0 w w')
  case atStart => exact ⟨(0), (by first | rfl | (simp; done) | (simp [*]; done)), H', ⟨Nat.le_refl _⟩, by repeat (first | exact Drawn0.refl _ | apply Drawn0.step)⟩
  case round =>
    clear H'
    try clear c1
    try clear p2
    obtain ⟨x9_1, rfl, HA, HK1, ⟨m1, rfl⟩⟩ := hrel
    cases gk with
    | zero => exact absurd HA.out (by simp [impl_isName.l0])
    | succ k1 =>
      have H := HA.out
      clear HA
      simp only [impl_isName.l0] at H
      by_cases c3 : x9_1 < (a0.size : Int)
      · rw [if_pos c3] at H
        have c3b0 : decide (x9_1 < (a0.size : Int)) = true := decide_eq_true c3
        clear c3
        by_cases c4 : 0 ≤ x9_1
        · rw [if_pos c4] at H
          have c4b0 : decide (0 ≤ x9_1) = true := decide_eq_true c4
          clear c4
          by_cases c5 : x9_1 < (a0.size : Int)
          · rw [if_pos c5] at H
            have c5b0 : decide (x9_1 < (a0.size : Int)) = true := decide_eq_true c5
            clear c5
            by_cases c7 : (bt a0 x9_1) ≥ 97
            · rw [if_pos c7] at H
              have c7b0 : decide (97 ≤ (bt a0 x9_1)) = true := decide_eq_true c7
              clear c7
              by_cases c8 : ((bt a0 x9_1) ≤ 122)
              · rw [if_pos c8] at H
                have c8b0 : decide ((bt a0 x9_1) ≤ 122) = true := decide_eq_true c8
                clear c8
                have H' := AM H
                clear H
                have p6 : 0 ≤ (x9_1 : Int) := of_decide_eq_true (by first | (with_reducible assumption) | assumption)
                have q6 : x9_1 < (a0.size : Int) := of_decide_eq_true (by first | (with_reducible assumption) | assumption)
                have hx6 := bt_at a0 x9_1
                replace p6 := eq_true p6
                replace q6 := eq_true q6
                go_wp2
                go_roundg k1
                case measure => have := HK1.out; omega
                case rel => exact ⟨(wrap64 (x9_1 + 1)), (by first | rfl | (simp; done) | (simp [*]; done)), H', ⟨by have := HK1.out; omega⟩, by repeat (first | exact Drawn0.refl _ | apply Drawn0.step)⟩
              · rw [if_neg c8] at H
                have c8b0 : decide ((bt a0 x9_1) ≤ 122) = false := decide_eq_false c8
                clear c8
                by_cases c9 : x9_1 = 0
                · rw [if_pos c9] at H
                  have c9b0 : (x9_1 == 0) = true := beq_iff_eq.mpr c9
                  have c9b1 : (x9_1 != 0) = false := bne_eq_false_iff_eq.mpr c9
                  clear c9
                  obtain rfl := Option.some.inj H
                  have p6 : 0 ≤ (x9_1 : Int) := of_decide_eq_true (by first | (with_reducible assumption) | assumption)
                  have q6 : x9_1 < (a0.size : Int) := of_decide_eq_true (by first | (with_reducible assumption) | assumption)
                  have hx6 := bt_at a0 x9_1
                  replace p6 := eq_true p6
                  replace q6 := eq_true q6
                  go_wp2
                  go_ret
                  exact ⟨by first | rfl | (simp; done) | (simp [*]; done), by repeat (first | exact Drawn0.refl _ | apply Drawn0.step)⟩
                · rw [if_neg c9] at H
                  have c9b0 : (x9_1 == 0) = false := beq_eq_false_iff_ne.mpr c9
                  have c9b1 : (x9_1 != 0) = true := bne_iff_ne.mpr c9
                  by_cases c10 : (bt a0 x9_1) ≥ 48
                  · rw [if_pos c10] at H
                    have c10b0 : decide (48 ≤ (bt a0 x9_1)) = true := decide_eq_true c10
                    clear c10
                    by_cases c11 : ((bt a0 x9_1) ≤ 57)
                    · rw [if_pos c11] at H
                      have c11b0 : decide ((bt a0 x9_1) ≤ 57) = true := decide_eq_true c11
                      clear c11
                      have H' := AM H
                      clear H
                      have p6 : 0 ≤ (x9_1 : Int) := of_decide_eq_true (by first | (with_reducible assumption) | assumption)
                      have q6 : x9_1 < (a0.size : Int) := of_decide_eq_true (by first | (with_reducible assumption) | assumption)
                      have hx6 := bt_at a0 x9_1
                      replace p6 := eq_true p6
                      replace q6 := eq_true q6
                      go_wp2
                      go_roundg k1
                      case measure => have := HK1.out; omega
                      case rel => exact ⟨(wrap64 (x9_1 + 1)), (by first | rfl | (simp; done) | (simp [*]; done)), H', ⟨by have := HK1.out; omega⟩, by repeat (first | exact Drawn0.refl _ | apply Drawn0.step)⟩
                    · rw [if_neg c11] at H
                      have c11b0 : decide ((bt a0 x9_1) ≤ 57) = false := decide_eq_false c11
                      clear c11
                      by_cases c12 : (bt a0 x9_1) = 45
                      · rw [if_pos c12] at H
                        have c12b0 : ((bt a0 x9_1) == 45) = true := beq_iff_eq.mpr c12
                        have c12b1 : ((bt a0 x9_1) != 45) = false := bne_eq_false_iff_eq.mpr c12
                        clear c12
                        have H' := AM H
                        clear H
                        have p6 : 0 ≤ (x9_1 : Int) := of_decide_eq_true (by first | (with_reducible assumption) | assumption)
                        have q6 : x9_1 < (a0.size : Int) := of_decide_eq_true (by first | (with_reducible assumption) | assumption)
                        have hx6 := bt_at a0 x9_1
                        replace p6 := eq_true p6
                        replace q6 := eq_true q6
                        go_wp2
                        go_roundg k1
                        case measure => have := HK1.out; omega
                        case rel => exact ⟨(wrap64 (x9_1 + 1)), (by first | rfl | (simp; done) | (simp [*]; done)), H', ⟨by have := HK1.out; omega⟩, by repeat (first | exact Drawn0.refl _ | apply Drawn0.step)⟩
                      · rw [if_neg c12] at H
                        have c12b0 : ((bt a0 x9_1) == 45) = false := beq_eq_false_iff_ne.mpr c12
                        have c12b1 : ((bt a0 x9_1) != 45) = true := bne_iff_ne.mpr c12
                        obtain rfl := Option.some.inj H
                        have p6 : 0 ≤ (x9_1 : Int) := of_decide_eq_true (by first | (with_reducible assumption) | assumption)
                        have q6 : x9_1 < (a0.size : Int) := of_decide_eq_true (by first | (with_reducible assumption) | assumption)
                        have hx6 := bt_at a0 x9_1
                        replace p6 := eq_true p6
                        replace q6 := eq_true q6
                        go_wp2
                        go_ret
                        exact ⟨by first | rfl | (simp; done) | (simp [*]; done), by repeat (first | exact Drawn0.refl _ | apply Drawn0.step)⟩
                  · rw [if_neg c10] at H
                    have c10b0 : decide (48 ≤ (bt a0 x9_1)) = false := decide_eq_false c10
                    clear c10
                    by_cases c13 : (bt a0 x9_1) = 45
                    · rw [if_pos c13] at H
                      have c13b0 : ((bt a0 x9_1) == 45) = true := beq_iff_eq.mpr c13
                      have c13b1 : ((bt a0 x9_1) != 45) = false := bne_eq_false_iff_eq.mpr c13
                      clear c13
                      have H' := AM H
                      clear H
                      have p6 : 0 ≤ (x9_1 : Int) := of_decide_eq_true (by first | (with_reducible assumption) | assumption)
                      have q6 : x9_1 < (a0.size : Int) := of_decide_eq_true (by first | (with_reducible assumption) | assumption)
                      have hx6 := bt_at a0 x9_1
                      replace p6 := eq_true p6
                      replace q6 := eq_true q6
                      go_wp2
                      go_roundg k1
                      case measure => have := HK1.out; omega
                      case rel => exact ⟨(wrap64 (x9_1 + 1)), (by first | rfl | (simp; done) | (simp [*]; done)), H', ⟨by have := HK1.out; omega⟩, by repeat (first | exact Drawn0.refl _ | apply Drawn0.step)⟩
                    · rw [if_neg c13] at H
                      have c13b0 : ((bt a0 x9_1) == 45) = false := beq_eq_false_iff_ne.mpr c13
                      have c13b1 : ((bt a0 x9_1) != 45) = true := bne_iff_ne.mpr c13
                      obtain rfl := Option.some.inj H
                      have p6 : 0 ≤ (x9_1 : Int) := of_decide_eq_true (by first | (with_reducible assumption) | assumption)
                      have q6 : x9_1 < (a0.size : Int) := of_decide_eq_true (by first | (with_reducible assumption) | assumption)
                      have hx6 := bt_at a0 x9_1
                      replace p6 := eq_true p6
                      replace q6 := eq_true q6
                      go_wp2
                      go_ret
                      exact ⟨by first | rfl | (simp; done) | (simp [*]; done), by repeat (first | exact Drawn0.refl _ | apply Drawn0.step)⟩
            · rw [if_neg c7] at H
              have c7b0 : decide (97 ≤ (bt a0 x9_1)) = false := decide_eq_false c7
              clear c7
              by_cases c14 : x9_1 = 0
              · rw [if_pos c14] at H
                have c14b0 : (x9_1 == 0) = true := beq_iff_eq.mpr c14
                have c14b1 : (x9_1 != 0) = false := bne_eq_false_iff_eq.mpr c14
                clear c14
                obtain rfl := Option.some.inj H
                have p6 : 0 ≤ (x9_1 : Int) := of_decide_eq_true (by first | (with_reducible assumption) | assumption)
                have q6 : x9_1 < (a0.size : Int) := of_decide_eq_true (by first | (with_reducible assumption) | assumption)
                have hx6 := bt_at a0 x9_1
                replace p6 := eq_true p6
                replace q6 := eq_true q6
                go_wp2
                go_ret
                exact ⟨by first | rfl | (simp; done) | (simp [*]; done), by repeat (first | exact Drawn0.refl _ | apply Drawn0.step)⟩
              · rw [if_neg c14] at H
                have c14b0 : (x9_1 == 0) = false := beq_eq_false_iff_ne.mpr c14
                have c14b1 : (x9_1 != 0) = true := bne_iff_ne.mpr c14
                by_cases c15 : (bt a0 x9_1) ≥ 48
                · rw [if_pos c15] at H
                  have c15b0 : decide (48 ≤ (bt a0 x9_1)) = true := decide_eq_true c15
                  clear c15
                  by_cases c16 : ((bt a0 x9_1) ≤ 57)
                  · rw [if_pos c16] at H
                    have c16b0 : decide ((bt a0 x9_1) ≤ 57) = true := decide_eq_true c16
                    clear c16
                    have H' := AM H
                    clear H
                    have p6 : 0 ≤ (x9_1 : Int) := of_decide_eq_true (by first | (with_reducible assumption) | assumption)
                    have q6 : x9_1 < (a0.size : Int) := of_decide_eq_true (by first | (with_reducible assumption) | assumption)
                    have hx6 := bt_at a0 x9_1
                    replace p6 := eq_true p6
                    replace q6 := eq_true q6
                    go_wp2
                    go_roundg k1
                    case measure => have := HK1.out; omega
                    case rel => exact ⟨(wrap64 (x9_1 + 1)), (by first | rfl | (simp; done) | (simp [*]; done)), H', ⟨by have := HK1.out; omega⟩, by repeat (first | exact Drawn0.refl _ | apply Drawn0.step)⟩
                  · rw [if_neg c16] at H
                    have c16b0 : decide ((bt a0 x9_1) ≤ 57) = false := decide_eq_false c16
                    clear c16
                    by_cases c17 : (bt a0 x9_1) = 45
                    · rw [if_pos c17] at H
                      have c17b0 : ((bt a0 x9_1) == 45) = true := beq_iff_eq.mpr c17
                      have c17b1 : ((bt a0 x9_1) != 45) = false := bne_eq_false_iff_eq.mpr c17
                      clear c17
                      have H' := AM H
                      clear H
                      have p6 : 0 ≤ (x9_1 : Int) := of_decide_eq_true (by first | (with_reducible assumption) | assumption)
                      have q6 : x9_1 < (a0.size : Int) := of_decide_eq_true (by first | (with_reducible assumption) | assumption)
                      have hx6 := bt_at a0 x9_1
                      replace p6 := eq_true p6
                      replace q6 := eq_true q6
                      go_wp2
                      go_roundg k1
                      case measure => have := HK1.out; omega
                      case rel => exact ⟨(wrap64 (x9_1 + 1)), (by first | rfl | (simp; done) | (simp [*]; done)), H', ⟨by have := HK1.out; omega⟩, by repeat (first | exact Drawn0.refl _ | apply Drawn0.step)⟩
                    · rw [if_neg c17] at H
                      have c17b0 : ((bt a0 x9_1) == 45) = false := beq_eq_false_iff_ne.mpr c17
                      have c17b1 : ((bt a0 x9_1) != 45) = true := bne_iff_ne.mpr c17
                      obtain rfl := Option.some.inj H
                      have p6 : 0 ≤ (x9_1 : Int) := of_decide_eq_true (by first | (with_reducible assumption) | assumption)
                      have q6 : x9_1 < (a0.size : Int) := of_decide_eq_true (by first | (with_reducible assumption) | assumption)
                      have hx6 := bt_at a0 x9_1
                      replace p6 := eq_true p6
                      replace q6 := eq_true q6
                      go_wp2
                      go_ret
                      exact ⟨by first | rfl | (simp; done) | (simp [*]; done), by repeat (first | exact Drawn0.refl _ | apply Drawn0.step)⟩
                · rw [if_neg c15] at H
                  have c15b0 : decide (48 ≤ (bt a0 x9_1)) = false := decide_eq_false c15
                  clear c15
                  by_cases c18 : (bt a0 x9_1) = 45
                  · rw [if_pos c18] at H
                    have c18b0 : ((bt a0 x9_1) == 45) = true := beq_iff_eq.mpr c18
                    have c18b1 : ((bt a0 x9_1) != 45) = false := bne_eq_false_iff_eq.mpr c18
                    clear c18
                    have H' := AM H
                    clear H
                    have p6 : 0 ≤ (x9_1 : Int) := of_decide_eq_true (by first | (with_reducible assumption) | assumption)
                    have q6 : x9_1 < (a0.size : Int) := of_decide_eq_true (by first | (with_reducible assumption) | assumption)
                    have hx6 := bt_at a0 x9_1
                    replace p6 := eq_true p6
                    replace q6 := eq_true q6
                    go_wp2
                    go_roundg k1
                    case measure => have := HK1.out; omega
                    case rel => exact ⟨(wrap64 (x9_1 + 1)), (by first | rfl | (simp; done) | (simp [*]; done)), H', ⟨by have := HK1.out; omega⟩, by repeat (first | exact Drawn0.refl _ | apply Drawn0.step)⟩
                  · rw [if_neg c18] at H
                    have c18b0 : ((bt a0 x9_1) == 45) = false := beq_eq_false_iff_ne.mpr c18
                    have c18b1 : ((bt a0 x9_1) != 45) = true := bne_iff_ne.mpr c18
                    obtain rfl := Option.some.inj H
                    have p6 : 0 ≤ (x9_1 : Int) := of_decide_eq_true (by first | (with_reducible assumption) | assumption)
                    have q6 : x9_1 < (a0.size : Int) := of_decide_eq_true (by first | (with_reducible assumption) | assumption)
                    have hx6 := bt_at a0 x9_1
                    replace p6 := eq_true p6
                    replace q6 := eq_true q6
                    go_wp2
                    go_ret
                    exact ⟨by first | rfl | (simp; done) | (simp [*]; done), by repeat (first | exact Drawn0.refl _ | apply Drawn0.step)⟩
          · rw [if_neg c5] at H
            exact absurd H (by simp)
        · rw [if_neg c4] at H
          exact absurd H (by simp)
      · rw [if_neg c3] at H
        have c3b0 : decide (x9_1 < (a0.size : Int)) = false := decide_eq_false c3
        clear c3
        obtain ⟨t218, A19, H⟩ := OB H
        try dsimp only at H
        replace A19 := AM A19
        obtain ⟨t219, A20, H⟩ := OB H
        try dsimp only at H
        replace A20 := AM A20
        obtain rfl := Option.some.inj H
        go_wp2_with (first | ((with_reducible refine gate_callee (f := 117) rfl ?_); refine gl_ (some 41) Try.func117 #[.string a0] ?_; (with_reducible refine (impl_long.calls a0 t218 _ A19.out).mono ?_); rintro e w' ⟨rfl, ⟨nd, rfl⟩⟩; refine ⟨_, rfl, ?_⟩) | ((with_reducible refine gate_callee (f := 89) rfl ?_); refine gl_ (some 43) Try.func89 #[.int .i64 t218, .int .i64 1, .int .i64 a1] ?_; (with_reducible refine (impl_within.calls t218 1 a1 t219 _ A20.out).mono ?_); rintro e w' ⟨rfl, ⟨nd, rfl⟩⟩; refine ⟨_, rfl, ?_⟩))
        go_ret
        exact ⟨by first | rfl | (simp; done) | (simp [*]; done), by repeat (first | exact Drawn0.refl _ | apply Drawn0.step)⟩

/-! ### impl_NameRight: function 189 -/
def impl_NameRight.f (k : Nat) (a0 : ByteArray) : Option (Bool) := (impl_isName.f k a0 80).bind fun t220 => (some t220)
theorem impl_NameRight.mono : ∀ a0 k, LeO (impl_NameRight.f k a0) (impl_NameRight.f (k + 1) a0) := by
  intro a0 k
  unfold impl_NameRight.f
  repeat' first
      | (with_reducible exact impl_isName.mono _ _ _)
      | (with_reducible exact LeO.refl _)
      | (with_reducible exact LeO.none _)
      | (with_reducible refine LeO.ite ?_ ?_)
      | (with_reducible refine LeO.bind ?_ (fun _ => ?_))
      | exact impl_isName.mono _ _ _
      | exact LeO.none _
      | refine LeO.ite ?_ ?_
      | refine LeO.bind ?_ (fun _ => ?_)
set_option maxHeartbeats 8000000 in
set_option maxRecDepth 100000 in
theorem impl_NameRight.calls (k : Nat) (a0 : ByteArray) (r : Bool) (w : World) (h : impl_NameRight.f k a0 = some r) :
    Calls Try.prog 189 #[.string a0] w fun e w' => e = .returned (.bool r) ∧ Drawn0 w w' := by
  have H : ((impl_isName.f k a0 80).bind fun t220 => (some t220)) = some r := h
  clear h
  obtain ⟨t220, A2, H⟩ := OB H
  try dsimp only at H
  replace A2 := AM A2
  obtain rfl := Option.some.inj H
  go_enter Try.func189, Try.ntmps189
  go_wp2_with (first | ((with_reducible refine gate_callee (f := 146) rfl ?_); refine gl_ (some 4) Try.func146 #[.string a0, .int .i64 80] ?_; (with_reducible refine (impl_isName.calls k a0 80 t220 _ A2.out).mono ?_); rintro e w' ⟨rfl, ⟨nd, rfl⟩⟩; refine ⟨_, rfl, ?_⟩))
  go_ret
  exact ⟨by first | rfl | (simp; done) | (simp [*]; done), by repeat (first | exact Drawn0.refl _ | apply Drawn0.step)⟩

/-! ### impl_Drive_used: function 190 -/
def impl_Drive_used.l0 : Nat → Int → List (S194) → Int → Int → Option (Int)
  | 0, _, _, _, _ => none
  | k + 1, x3, x7, x8, x9 => if x9 < x8 then (if 0 ≤ x9 then (if x9 < (x7.length : Int) then ((impl_long.f ((rd_T194 x7 x9).f1)).bind fun t224 => (impl_Drive_used.l0 k (wrap64 (x3 + t224)) x7 x8 (wrap64 (x9 + 1)))) else (none)) else (none)) else (some x3)
def impl_Drive_used.f (k : Nat) (l0_0 : List (S194)) (a0_1 : Int) : Option (Int) := impl_Drive_used.l0 k 0 l0_0 (l0_0.length : Int) 0
theorem impl_Drive_used.mono_l : ∀ k, (∀ y0 y1 y2 y3, LeO (impl_Drive_used.l0 k y0 y1 y2 y3) (impl_Drive_used.l0 (k + 1) y0 y1 y2 y3))
  | 0 => fun _ _ _ _ r h => by simp [impl_Drive_used.l0] at h
  | k + 1 => by
    have ih0 := impl_Drive_used.mono_l k
    · intro y0 y1 y2 y3
      unfold impl_Drive_used.l0
      repeat' first
      | (with_reducible exact ih0 _ _ _ _)
      | (with_reducible exact LeO.refl _)
      | (with_reducible exact LeO.none _)
      | (with_reducible refine LeO.ite ?_ ?_)
      | (with_reducible refine LeO.bind ?_ (fun _ => ?_))
      | exact ih0 _ _ _ _
      | exact LeO.none _
      | refine LeO.ite ?_ ?_
      | refine LeO.bind ?_ (fun _ => ?_)
theorem impl_Drive_used.mono : ∀ a0 a1 k, LeO (impl_Drive_used.f k a0 a1) (impl_Drive_used.f (k + 1) a0 a1) := by
  intro a0 a1 k
  have ih0 := impl_Drive_used.mono_l k
  unfold impl_Drive_used.f
  repeat' first
      | (with_reducible exact ih0 _ _ _ _)
      | (with_reducible exact LeO.refl _)
      | (with_reducible exact LeO.none _)
      | (with_reducible refine LeO.ite ?_ ?_)
      | (with_reducible refine LeO.bind ?_ (fun _ => ?_))
      | exact ih0 _ _ _ _
      | exact LeO.none _
      | refine LeO.ite ?_ ?_
      | refine LeO.bind ?_ (fun _ => ?_)
set_option maxHeartbeats 8000000 in
set_option maxRecDepth 100000 in
theorem impl_Drive_used.calls (k : Nat) (A0_0 : Option Addr) (c0_0 : Nat) (l0_0 : List (S194)) (a0_1 : Int) (r : Int) (w : World) (hr0_0 : Kd.C k194 w A0_0 l0_0.length l0_0) (hc0_0 : l0_0.length ≤ c0_0) (h : impl_Drive_used.f k l0_0 a0_1 = some r) :
    Calls Try.prog 190 #[.agg #[.slice A0_0 l0_0.length c0_0, .int .i64 a0_1]] w fun e w' => e = .returned (.int .i64 r) ∧ Below w.heap.size w w' := by
  have hu192 := Try.underlying192
  have hu194 := Try.underlying194
  have HR0_0 := AM hr0_0
  have HC0_0 := AM hc0_0
  clear hr0_0 hc0_0
  have HB := AM (Below.refl w.heap.size w)
  have H : (impl_Drive_used.l0 k 0 l0_0 (l0_0.length : Int) 0) = some r := h
  clear h
  have H' := AM H
  clear H
  go_enter Try.func190, Try.ntmps190
  go_wp2_with (first | ((with_reducible refine gate_dst (N := 1) rfl ?_); refine be_ 1 #[.slice A0_0 l0_0.length c0_0, .int .i64 a0_1] 192 ?_; intro gb221 hg w2 hbox hb; have BK221 := AM hbox; have GW221 := AM ((by rw [hg]; exact (below_size bel_) : w.heap.size ≤ gb221)); have GE221 := AM ((by rw [hg]; exact (below_size bel_) : w.heap.size ≤ gb221)); replace HB := AM (below_step bel_ hb); clear hb hbox hg; have hcz3_0 : w2.cell? ⟨gb221, 0, none⟩ = some (.slice A0_0 l0_0.length c0_0) := (blk_cell BK221.out 0).trans rfl; have hcz3_1 : w2.cell? ⟨gb221, 1, none⟩ = some (.int .i64 a0_1) := (blk_cell BK221.out 1).trans rfl; have hfz3_0 := blk_frozen BK221.out 0; have hfz3_1 := blk_frozen BK221.out 1))
  go_loopg [3, 9] k (fun kq v3 v9 w' => ∃ (x3_1 : Int) (x9_1 : Int), v3 = .int .i64 x3_1 ∧ v9 = .int .i64 x9_1 ∧ Aside0 (impl_Drive_used.l0 kq x3_1 l0_0 (l0_0.length : Int) x9_1 = some r) ∧ Aside0 (kq ≤ k) ∧ Aside0 (w'.heap[gb221]? = some (.cells #[(.slice A0_0 l0_0.length c0_0), .int .i64 a0_1] 192 (0, 0))) ∧ Aside0 (Below w.heap.size w w'))
  case atStart => exact ⟨(0), (0), (by first | rfl | (simp; done) | (simp [*]; done)), (by first | rfl | (simp; done) | (simp [*]; done)), H', ⟨Nat.le_refl _⟩, ⟨bk_ BK221.out⟩, ⟨bel_⟩⟩
  case round =>
    clear H'
    try clear c1
    try clear p2
    try clear hcz3_0
    try clear hcz3_1
    try clear hfz3_0
    try clear hfz3_1
    obtain ⟨x3_1, x9_1, rfl, rfl, HA, HK1, BK221, HB⟩ := hrel
    cases gk with
    | zero => exact absurd HA.out (by simp [impl_Drive_used.l0])
    | succ k1 =>
      have H := HA.out
      clear HA
      simp only [impl_Drive_used.l0] at H
      by_cases c4 : x9_1 < (l0_0.length : Int)
      · rw [if_pos c4] at H
        have c4b0 : decide (x9_1 < (l0_0.length : Int)) = true := decide_eq_true c4
        clear c4
        by_cases c5 : 0 ≤ x9_1
        · rw [if_pos c5] at H
          have c5b0 : decide (0 ≤ x9_1) = true := decide_eq_true c5
          clear c5
          by_cases c6 : x9_1 < (l0_0.length : Int)
          · rw [if_pos c6] at H
            have c6b0 : decide (x9_1 < (l0_0.length : Int)) = true := decide_eq_true c6
            clear c6
            obtain ⟨t224, A7, H⟩ := OB H
            try dsimp only at H
            replace A7 := AM A7
            have H' := AM H
            clear H
            have p222 : 0 ≤ (x9_1 : Int) := of_decide_eq_true (by first | (with_reducible assumption) | assumption)
            have q222 : x9_1 < (l0_0.length : Int) := of_decide_eq_true (by first | (with_reducible assumption) | assumption)
            obtain ⟨ad222, e222, hx222_0, hx222_1, hx222_2⟩ := at_T194 HR0_0.out x9_1 p222 q222
            cases e222
            replace hx222_0 := (HB.out.cell (World.block_lt_of_cell? w _ hx222_0)).trans hx222_0
            replace hx222_1 := (HB.out.cell (World.block_lt_of_cell? w _ hx222_1)).trans hx222_1
            replace hx222_2 := (HB.out.cell (World.block_lt_of_cell? w _ hx222_2)).trans hx222_2
            replace p222 := eq_true p222
            replace q222 := eq_true q222
            go_wp2_with (first | ((with_reducible refine gate_dst (N := 5) rfl ?_); refine be_ 5 #[.string (⟨#[]⟩ : ByteArray), .string (⟨#[]⟩ : ByteArray), .int .i64 0] 194 ?_; intro gb223 hg w8 hbox hb; have BK223 := AM hbox; have GW223 := AM ((by rw [hg]; exact (below_size bel_) : w.heap.size ≤ gb223)); have GE223 := AM ((by rw [hg]; exact (below_size bel_) : w.heap.size ≤ gb223)); replace HB := AM (below_step bel_ hb); have NB221_223 := AM ((by rw [hg]; exact Nat.ne_of_lt (blk_lt (g := gb221) (o := .cells #[.slice (some ad222) l0_0.length c0_0, .int .i64 a0_1] 192 (0, 0)) (bk_ BK221.out)) : gb221 ≠ gb223)); have NB223_221 := AM ((by rw [hg]; exact Nat.ne_of_gt (blk_lt (g := gb221) (o := .cells #[.slice (some ad222) l0_0.length c0_0, .int .i64 a0_1] 192 (0, 0)) (bk_ BK221.out)) : gb223 ≠ gb221)); replace BK221 := AM (blk_below (g := gb221) (o := .cells #[.slice (some ad222) l0_0.length c0_0, .int .i64 a0_1] 192 (0, 0)) (bk_ BK221.out) hb); clear hb hbox hg; have hnb9 := NB223_221.out; have hnc9 := NB221_223.out; have hcz10_0 : w8.cell? ⟨gb223, 0, none⟩ = some (.string (⟨#[]⟩ : ByteArray)) := (blk_cell BK223.out 0).trans rfl; have hcz10_1 : w8.cell? ⟨gb223, 1, none⟩ = some (.string (⟨#[]⟩ : ByteArray)) := (blk_cell BK223.out 1).trans rfl; have hcz10_2 : w8.cell? ⟨gb223, 2, none⟩ = some (.int .i64 0) := (blk_cell BK223.out 2).trans rfl; have hfz10_0 := blk_frozen BK223.out 0; have hfz10_1 := blk_frozen BK223.out 1; have hfz10_2 := blk_frozen BK223.out 2) | ((with_reducible refine gate_callee (f := 117) rfl ?_); refine gl_ (some 16) Try.func117 #[.string ((rd_T194 l0_0 x9_1).f1)] ?_; (with_reducible refine (impl_long.calls ((rd_T194 l0_0 x9_1).f1) t224 _ A7.out).mono ?_); rintro e w' ⟨rfl, ⟨nd, rfl⟩⟩; refine ⟨_, rfl, ?_⟩))
            go_roundg k1
            case measure => have := HK1.out; omega
            case rel => exact ⟨(wrap64 (x3_1 + t224)), (wrap64 (x9_1 + 1)), (by first | rfl | (simp; done) | (simp [*]; done)), (by first | rfl | (simp; done) | (simp [*]; done)), H', ⟨by have := HK1.out; omega⟩, ⟨bka_⟩, ⟨bel_⟩⟩
          · rw [if_neg c6] at H
            exact absurd H (by simp)
        · rw [if_neg c5] at H
          exact absurd H (by simp)
      · rw [if_neg c4] at H
        have c4b0 : decide (x9_1 < (l0_0.length : Int)) = false := decide_eq_false c4
        clear c4
        obtain rfl := Option.some.inj H
        go_wp2
        go_ret
        exact ⟨ri_, bel_⟩

end Go.Proofs.Ytdbnajnelbebfaa.PFnExactObjectNames
