/- Functions of the law FnWhole: the print's, with walks of this session's own. No statement is proved here. -/
import Derived.Carry
import Derived.WalkLawsBesides
import Derived.Test.YtdbnajnelbebfaaVRegFnWhole
-- A program of this session wrote this text: a changed copy of the kit print, with given functions.
import Derived.Test.YtdbnajnelbebfaaPFnWholex0
namespace Go.Proofs.Ytdbnajnelbebfaa.PFnWhole
open Go.RowKit Go.Proofs.YtdbnajnelbebfaaW.PrintWords Go.Proofs.YtdbnajnelbebfaaW.PrintLast Go.Proofs.YtdbnajnelbebfaaW.PrintMore Go.Proofs.Ytdbnajnelbebfaa.Reg Go.Proofs.Ytdbnajnelbebfaa.Aut
attribute [local go_sem] max2_int min2_int max_two min_two max_three min_three max_four min_four   -- for this text's walks alone
set_option linter.unusedVariables false
set_option linter.unusedSimpArgs false

/-! ### impl_size_string: function 57 -/
def impl_size_string.f (l0 : List ByteArray) : Option (Int) := some (l0.length : Int)
set_option maxHeartbeats 8000000 in
set_option maxRecDepth 100000 in
theorem impl_size_string.calls (A0 : Option Addr) (c0 : Nat) (l0 : List ByteArray) (r : Int) (w : World) (hr0 : Kd.C Kd.string w A0 l0.length l0) (hc0 : l0.length ≤ c0) (h : impl_size_string.f l0 = some r) :
    Calls Try.prog 57 #[.slice A0 l0.length c0] w fun e w' => e = .returned (.int .i64 r) ∧ Drawn0 w w' := by
  have HR0 := AM hr0
  have HC0 := AM hc0
  clear hr0 hc0
  have H : (some (l0.length : Int)) = some r := h
  clear h
  obtain rfl := Option.some.inj H
  go_enter Try.func57, Try.ntmps57
  go_wp2
  go_ret
  exact ⟨by first | rfl | (simp; done) | (simp [*]; done), by repeat (first | exact Drawn0.refl _ | apply Drawn0.step)⟩

-- NOT PRINTED: function 123 (slices_IndexFunc_string_string)

-- NOT PRINTED: function 58 (slices_ContainsFunc_string_string)

/-! ### impl_isLong: function 60 -/
def impl_isLong.f (a0 : ByteArray) : Option (Bool) := some (decide ((a0.size : Int) > 20000))
set_option maxHeartbeats 8000000 in
set_option maxRecDepth 100000 in
theorem impl_isLong.calls (a0 : ByteArray) (r : Bool) (w : World) (h : impl_isLong.f a0 = some r) :
    Calls Try.prog 60 #[.string a0] w fun e w' => e = .returned (.bool r) ∧ Drawn0 w w' := by
  have H : (some (decide ((a0.size : Int) > 20000))) = some r := h
  clear h
  obtain rfl := Option.some.inj H
  go_enter Try.func60, Try.ntmps60
  go_wp2
  go_ret
  exact ⟨by first | rfl | (simp; done) | (simp [*]; done), by repeat (first | exact Drawn0.refl _ | apply Drawn0.step)⟩

/-! ### slices_Equal_string_string: function 61 -/
def slices_Equal_string_string.l0 : Nat → List ByteArray → List ByteArray → Int → Int → Option (Bool)
  | 0, _, _, _, _ => none
  | k + 1, x0, x1, x12, x13 => if x13 < x12 then (if 0 ≤ x13 then (if x13 < (x0.length : Int) then (if x13 < (x1.length : Int) then (if (rdOf ByteArray.empty x0 x13).toList = (rdOf ByteArray.empty x1 x13).toList then (slices_Equal_string_string.l0 k x0 x1 x12 (wrap64 (x13 + 1))) else (some false)) else (none)) else (none)) else (none)) else (some true)
def slices_Equal_string_string.f (k : Nat) (l0 : List ByteArray) (l1 : List ByteArray) : Option (Bool) := if (l0.length : Int) = (l1.length : Int) then (slices_Equal_string_string.l0 k l0 l1 (l0.length : Int) 0) else (some false)
theorem slices_Equal_string_string.mono_l : ∀ k, (∀ y0 y1 y2 y3, LeO (slices_Equal_string_string.l0 k y0 y1 y2 y3) (slices_Equal_string_string.l0 (k + 1) y0 y1 y2 y3))
  | 0 => fun _ _ _ _ r h => by simp [slices_Equal_string_string.l0] at h
  | k + 1 => by
    have ih0 := slices_Equal_string_string.mono_l k
    · intro y0 y1 y2 y3
      unfold slices_Equal_string_string.l0
      repeat' first
      | (with_reducible exact ih0 _ _ _ _)
      | (with_reducible exact LeO.refl _)
      | (with_reducible exact LeO.none _)
      | (with_reducible refine LeO.ite ?_ ?_)
      | (with_reducible refine LeO.bind ?_ (fun _ => ?_))
      | exact ih0 _ _ _ _
      | exact LeO.none _
      | refine LeO.ite ?_ ?_
      | refine LeO.bind ?_ (fun _ => ?_)
theorem slices_Equal_string_string.mono : ∀ a0 a1 k, LeO (slices_Equal_string_string.f k a0 a1) (slices_Equal_string_string.f (k + 1) a0 a1) := by
  intro a0 a1 k
  have ih0 := slices_Equal_string_string.mono_l k
  unfold slices_Equal_string_string.f
  repeat' first
      | (with_reducible exact ih0 _ _ _ _)
      | (with_reducible exact LeO.refl _)
      | (with_reducible exact LeO.none _)
      | (with_reducible refine LeO.ite ?_ ?_)
      | (with_reducible refine LeO.bind ?_ (fun _ => ?_))
      | exact ih0 _ _ _ _
      | exact LeO.none _
      | refine LeO.ite ?_ ?_
      | refine LeO.bind ?_ (fun _ => ?_)
set_option maxHeartbeats 8000000 in
set_option maxRecDepth 100000 in
theorem slices_Equal_string_string.calls (k : Nat) (A0 : Option Addr) (c0 : Nat) (l0 : List ByteArray) (A1 : Option Addr) (c1 : Nat) (l1 : List ByteArray) (r : Bool) (w : World) (hr0 : Kd.C Kd.string w A0 l0.length l0) (hc0 : l0.length ≤ c0) (hr1 : Kd.C Kd.string w A1 l1.length l1) (hc1 : l1.length ≤ c1) (h : slices_Equal_string_string.f k l0 l1 = some r) :
    Calls Try.prog 61 #[.slice A0 l0.length c0, .slice A1 l1.length c1] w fun e w' => e = .returned (.bool r) ∧ Drawn0 w w' := by
  have HR0 := AM hr0
  have HC0 := AM hc0
  clear hr0 hc0
  have HR1 := AM hr1
  have HC1 := AM hc1
  clear hr1 hc1
  have H : (if (l0.length : Int) = (l1.length : Int) then (slices_Equal_string_string.l0 k l0 l1 (l0.length : Int) 0) else (some false)) = some r := h
  clear h
  by_cases c3 : (l0.length : Int) = (l1.length : Int)
  · rw [if_pos c3] at H
    have c3b0 : ((l0.length : Int) == (l1.length : Int)) = true := beq_iff_eq.mpr c3
    have c3b1 : ((l0.length : Int) != (l1.length : Int)) = false := bne_eq_false_iff_eq.mpr c3
    have c3b2 : (l0.length == l1.length) = true := by first | simpa using c3 | (simp at c3 ⊢; omega)
    clear c3
    have H' := AM H
    clear H
    go_enter Try.func61, Try.ntmps61
    go_wp2
    repeat (go_quiet (fail); try go_wp2)
    go_loopg [13] k (fun kq v13 w' => ∃ (x13_1 : Int), v13 = .int .i64 x13_1 ∧ Aside0 (slices_Equal_string_string.l0 kq l0 l1 (l0.length : Int) x13_1 = some r) ∧ Aside0 (kq ≤ k) ∧ Drawn0 w w')
    case atStart => exact ⟨(0), (by first | rfl | (simp; done) | (simp [*]; done)), H', ⟨Nat.le_refl _⟩, by repeat (first | exact Drawn0.refl _ | apply Drawn0.step)⟩
    case round =>
      clear H'
      try clear c1
      try clear p2
      try clear c3
      try clear c3b0
      try clear c3b1
      try clear c3b2
      obtain ⟨x13_1, rfl, HA, HK1, ⟨m1, rfl⟩⟩ := hrel
      cases gk with
      | zero => exact absurd HA.out (by simp [slices_Equal_string_string.l0])
      | succ k1 =>
        have H := HA.out
        clear HA
        simp only [slices_Equal_string_string.l0] at H
        by_cases c4 : x13_1 < (l0.length : Int)
        · rw [if_pos c4] at H
          have c4b0 : decide (x13_1 < (l0.length : Int)) = true := decide_eq_true c4
          clear c4
          by_cases c5 : 0 ≤ x13_1
          · rw [if_pos c5] at H
            have c5b0 : decide (0 ≤ x13_1) = true := decide_eq_true c5
            clear c5
            by_cases c6 : x13_1 < (l0.length : Int)
            · rw [if_pos c6] at H
              have c6b0 : decide (x13_1 < (l0.length : Int)) = true := decide_eq_true c6
              clear c6
              by_cases c7 : x13_1 < (l1.length : Int)
              · rw [if_pos c7] at H
                have c7b0 : decide (x13_1 < (l1.length : Int)) = true := decide_eq_true c7
                clear c7
                by_cases c8 : (rdOf ByteArray.empty l0 x13_1).toList = (rdOf ByteArray.empty l1 x13_1).toList
                · rw [if_pos c8] at H
                  have c8b0 : ((rdOf ByteArray.empty l0 x13_1).toList == (rdOf ByteArray.empty l1 x13_1).toList) = true := beq_iff_eq.mpr c8
                  have c8b1 : ((rdOf ByteArray.empty l0 x13_1).toList != (rdOf ByteArray.empty l1 x13_1).toList) = false := bne_eq_false_iff_eq.mpr c8
                  clear c8
                  have H' := AM H
                  clear H
                  have p210 : 0 ≤ (x13_1 : Int) := of_decide_eq_true (by first | (with_reducible assumption) | assumption)
                  have q210 : x13_1 < (l0.length : Int) := of_decide_eq_true (by first | (with_reducible assumption) | assumption)
                  obtain ⟨ad210, e210, hx210_0⟩ := Kd.at_string HR0.out x13_1 p210 q210
                  cases e210
                  replace p210 := eq_true p210
                  replace q210 := eq_true q210
                  have p211 : 0 ≤ (x13_1 : Int) := of_decide_eq_true (by first | (with_reducible assumption) | assumption)
                  have q211 : x13_1 < (l1.length : Int) := of_decide_eq_true (by first | (with_reducible assumption) | assumption)
                  obtain ⟨ad211, e211, hx211_0⟩ := Kd.at_string HR1.out x13_1 p211 q211
                  cases e211
                  replace p211 := eq_true p211
                  replace q211 := eq_true q211
                  go_wp2
                  repeat (go_quiet (fail); try go_wp2)
                  go_roundg k1
                  case measure => have := HK1.out; omega
                  case rel => exact ⟨(wrap64 (x13_1 + 1)), (by first | rfl | (simp; done) | (simp [*]; done)), H', ⟨by have := HK1.out; omega⟩, by repeat (first | exact Drawn0.refl _ | apply Drawn0.step)⟩
                · rw [if_neg c8] at H
                  have c8b0 : ((rdOf ByteArray.empty l0 x13_1).toList == (rdOf ByteArray.empty l1 x13_1).toList) = false := beq_eq_false_iff_ne.mpr c8
                  have c8b1 : ((rdOf ByteArray.empty l0 x13_1).toList != (rdOf ByteArray.empty l1 x13_1).toList) = true := bne_iff_ne.mpr c8
                  obtain rfl := Option.some.inj H
                  have p210 : 0 ≤ (x13_1 : Int) := of_decide_eq_true (by first | (with_reducible assumption) | assumption)
                  have q210 : x13_1 < (l0.length : Int) := of_decide_eq_true (by first | (with_reducible assumption) | assumption)
                  obtain ⟨ad210, e210, hx210_0⟩ := Kd.at_string HR0.out x13_1 p210 q210
                  cases e210
                  replace p210 := eq_true p210
                  replace q210 := eq_true q210
                  have p211 : 0 ≤ (x13_1 : Int) := of_decide_eq_true (by first | (with_reducible assumption) | assumption)
                  have q211 : x13_1 < (l1.length : Int) := of_decide_eq_true (by first | (with_reducible assumption) | assumption)
                  obtain ⟨ad211, e211, hx211_0⟩ := Kd.at_string HR1.out x13_1 p211 q211
                  cases e211
                  replace p211 := eq_true p211
                  replace q211 := eq_true q211
                  go_wp2
                  repeat (go_quiet (fail); try go_wp2)
                  go_ret
                  exact ⟨by first | rfl | (simp; done) | (simp [*]; done), by repeat (first | exact Drawn0.refl _ | apply Drawn0.step)⟩
              · rw [if_neg c7] at H
                exact absurd H (by simp)
            · rw [if_neg c6] at H
              exact absurd H (by simp)
          · rw [if_neg c5] at H
            exact absurd H (by simp)
        · rw [if_neg c4] at H
          have c4b0 : decide (x13_1 < (l0.length : Int)) = false := decide_eq_false c4
          clear c4
          obtain rfl := Option.some.inj H
          go_wp2
          repeat (go_quiet (fail); try go_wp2)
          go_ret
          exact ⟨by first | rfl | (simp; done) | (simp [*]; done), by repeat (first | exact Drawn0.refl _ | apply Drawn0.step)⟩
  · rw [if_neg c3] at H
    have c3b0 : ((l0.length : Int) == (l1.length : Int)) = false := beq_eq_false_iff_ne.mpr c3
    have c3b1 : ((l0.length : Int) != (l1.length : Int)) = true := bne_iff_ne.mpr c3
    have c3b2 : (l0.length == l1.length) = false := by first | simpa using c3 | (simp at c3 ⊢; omega)
    obtain rfl := Option.some.inj H
    go_enter Try.func61, Try.ntmps61
    go_wp2
    repeat (go_quiet (fail); try go_wp2)
    go_ret
    exact ⟨by first | rfl | (simp; done) | (simp [*]; done), by repeat (first | exact Drawn0.refl _ | apply Drawn0.step)⟩

-- NOT PRINTED: function 124 (impl_Matrix_row)

/-! ### impl_mul: function 125 -/
def impl_mul.l0 : Nat → Int → Int → Int → Option (Int)
  | 0, _, _, _ => none
  | k + 1, x0, x1, x5 => if x1 > 0 then (if (Go.bits .and .i64 x1 1) = 1 then (if (wrap64 (x0 * 2)) > 255 then (impl_mul.l0 k (Go.bits .xor .i64 (wrap64 (x0 * 2)) 285) (x1 / 2) (Go.bits .xor .i64 x5 x0)) else (impl_mul.l0 k (wrap64 (x0 * 2)) (x1 / 2) (Go.bits .xor .i64 x5 x0))) else (if (wrap64 (x0 * 2)) > 255 then (impl_mul.l0 k (Go.bits .xor .i64 (wrap64 (x0 * 2)) 285) (x1 / 2) x5) else (impl_mul.l0 k (wrap64 (x0 * 2)) (x1 / 2) x5))) else (some x5)
def impl_mul.f (k : Nat) (a0 : Int) (a1 : Int) : Option (Int) := impl_mul.l0 k a0 a1 0
theorem impl_mul.mono_l : ∀ k, (∀ y0 y1 y2, LeO (impl_mul.l0 k y0 y1 y2) (impl_mul.l0 (k + 1) y0 y1 y2))
  | 0 => fun _ _ _ r h => by simp [impl_mul.l0] at h
  | k + 1 => by
    have ih0 := impl_mul.mono_l k
    · intro y0 y1 y2
      unfold impl_mul.l0
      repeat' first
      | (with_reducible exact ih0 _ _ _)
      | (with_reducible exact LeO.refl _)
      | (with_reducible exact LeO.none _)
      | (with_reducible refine LeO.ite ?_ ?_)
      | (with_reducible refine LeO.bind ?_ (fun _ => ?_))
      | exact ih0 _ _ _
      | exact LeO.none _
      | refine LeO.ite ?_ ?_
      | refine LeO.bind ?_ (fun _ => ?_)
theorem impl_mul.mono : ∀ a0 a1 k, LeO (impl_mul.f k a0 a1) (impl_mul.f (k + 1) a0 a1) := by
  intro a0 a1 k
  have ih0 := impl_mul.mono_l k
  unfold impl_mul.f
  repeat' first
      | (with_reducible exact ih0 _ _ _)
      | (with_reducible exact LeO.refl _)
      | (with_reducible exact LeO.none _)
      | (with_reducible refine LeO.ite ?_ ?_)
      | (with_reducible refine LeO.bind ?_ (fun _ => ?_))
      | exact ih0 _ _ _
      | exact LeO.none _
      | refine LeO.ite ?_ ?_
      | refine LeO.bind ?_ (fun _ => ?_)
set_option maxHeartbeats 8000000 in
set_option maxRecDepth 100000 in
theorem impl_mul.calls (k : Nat) (a0 : Int) (a1 : Int) (r : Int) (w : World) (h : impl_mul.f k a0 a1 = some r) :
    Calls Try.prog 125 #[.int .i64 a0, .int .i64 a1] w fun e w' => e = .returned (.int .i64 r) ∧ Drawn0 w w' := by
  have H : (impl_mul.l0 k a0 a1 0) = some r := h
  clear h
  have H' := AM H
  clear H
  go_enter Try.func125, Try.ntmps125
  go_wp2
  go_loopg [0, 1, 5] k (fun kq v0 v1 v5 w' => ∃ (x0_1 : Int) (x1_1 : Int) (x5_1 : Int), v0 = .int .i64 x0_1 ∧ v1 = .int .i64 x1_1 ∧ v5 = .int .i64 x5_1 ∧ Aside0 (impl_mul.l0 kq x0_1 x1_1 x5_1 = some r) ∧ Aside0 (kq ≤ k) ∧ Drawn0 w w')
  case atStart => exact ⟨(a0), (a1), (0), (by first | rfl | (simp; done) | (simp [*]; done)), (by first | rfl | (simp; done) | (simp [*]; done)), (by first | rfl | (simp; done) | (simp [*]; done)), H', ⟨Nat.le_refl _⟩, by repeat (first | exact Drawn0.refl _ | apply Drawn0.step)⟩
  case round =>
    clear H'
    try clear c1
    try clear p2
    obtain ⟨x0_1, x1_1, x5_1, rfl, rfl, rfl, HA, HK1, ⟨m1, rfl⟩⟩ := hrel
    cases gk with
    | zero => exact absurd HA.out (by simp [impl_mul.l0])
    | succ k1 =>
      have H := HA.out
      clear HA
      simp only [impl_mul.l0] at H
      by_cases c3 : x1_1 > 0
      · rw [if_pos c3] at H
        have c3b0 : decide (0 < x1_1) = true := decide_eq_true c3
        clear c3
        by_cases c4 : (Go.bits .and .i64 x1_1 1) = 1
        · rw [if_pos c4] at H
          have c4b0 : ((Go.bits .and .i64 x1_1 1) == 1) = true := beq_iff_eq.mpr c4
          have c4b1 : ((Go.bits .and .i64 x1_1 1) != 1) = false := bne_eq_false_iff_eq.mpr c4
          clear c4
          by_cases c5 : (wrap64 (x0_1 * 2)) > 255
          · rw [if_pos c5] at H
            have c5b0 : decide (255 < (wrap64 (x0_1 * 2))) = true := decide_eq_true c5
            try have c5b9 : (decide (255 < ((x0_1 * 2)))) = true := (by have hw0 : wrap64 (x0_1 * 2) = x0_1 * 2 := (by unfold wrap64; omega); have z_ := c5b0; simp only [hw0] at z_; exact z_)
            clear c5
            have H' := AM H
            clear H
            go_wp2
            go_roundg k1
            case measure => have := HK1.out; omega
            case rel => exact ⟨(Go.bits .xor .i64 (wrap64 (x0_1 * 2)) 285), (x1_1 / 2), (Go.bits .xor .i64 x5_1 x0_1), (by first | rfl | (simp; done) | (simp [*]; done)), (by first | rfl | (simp; done) | (simp [*]; done)), (by first | rfl | (simp; done) | (simp [*]; done)), H', ⟨by have := HK1.out; omega⟩, by repeat (first | exact Drawn0.refl _ | apply Drawn0.step)⟩
          · rw [if_neg c5] at H
            have c5b0 : decide (255 < (wrap64 (x0_1 * 2))) = false := decide_eq_false c5
            try have c5b9 : (decide (255 < ((x0_1 * 2)))) = false := (by have hw0 : wrap64 (x0_1 * 2) = x0_1 * 2 := (by unfold wrap64; omega); have z_ := c5b0; simp only [hw0] at z_; exact z_)
            clear c5
            have H' := AM H
            clear H
            go_wp2
            go_roundg k1
            case measure => have := HK1.out; omega
            case rel => exact ⟨(wrap64 (x0_1 * 2)), (x1_1 / 2), (Go.bits .xor .i64 x5_1 x0_1), (by first | rfl | (simp; done) | (simp [*]; done)), (by first | rfl | (simp; done) | (simp [*]; done)), (by first | rfl | (simp; done) | (simp [*]; done)), H', ⟨by have := HK1.out; omega⟩, by repeat (first | exact Drawn0.refl _ | apply Drawn0.step)⟩
        · rw [if_neg c4] at H
          have c4b0 : ((Go.bits .and .i64 x1_1 1) == 1) = false := beq_eq_false_iff_ne.mpr c4
          have c4b1 : ((Go.bits .and .i64 x1_1 1) != 1) = true := bne_iff_ne.mpr c4
          by_cases c6 : (wrap64 (x0_1 * 2)) > 255
          · rw [if_pos c6] at H
            have c6b0 : decide (255 < (wrap64 (x0_1 * 2))) = true := decide_eq_true c6
            try have c6b9 : (decide (255 < ((x0_1 * 2)))) = true := (by have hw0 : wrap64 (x0_1 * 2) = x0_1 * 2 := (by unfold wrap64; omega); have z_ := c6b0; simp only [hw0] at z_; exact z_)
            clear c6
            have H' := AM H
            clear H
            go_wp2
            go_roundg k1
            case measure => have := HK1.out; omega
            case rel => exact ⟨(Go.bits .xor .i64 (wrap64 (x0_1 * 2)) 285), (x1_1 / 2), (x5_1), (by first | rfl | (simp; done) | (simp [*]; done)), (by first | rfl | (simp; done) | (simp [*]; done)), (by first | rfl | (simp; done) | (simp [*]; done)), H', ⟨by have := HK1.out; omega⟩, by repeat (first | exact Drawn0.refl _ | apply Drawn0.step)⟩
          · rw [if_neg c6] at H
            have c6b0 : decide (255 < (wrap64 (x0_1 * 2))) = false := decide_eq_false c6
            try have c6b9 : (decide (255 < ((x0_1 * 2)))) = false := (by have hw0 : wrap64 (x0_1 * 2) = x0_1 * 2 := (by unfold wrap64; omega); have z_ := c6b0; simp only [hw0] at z_; exact z_)
            clear c6
            have H' := AM H
            clear H
            go_wp2
            go_roundg k1
            case measure => have := HK1.out; omega
            case rel => exact ⟨(wrap64 (x0_1 * 2)), (x1_1 / 2), (x5_1), (by first | rfl | (simp; done) | (simp [*]; done)), (by first | rfl | (simp; done) | (simp [*]; done)), (by first | rfl | (simp; done) | (simp [*]; done)), H', ⟨by have := HK1.out; omega⟩, by repeat (first | exact Drawn0.refl _ | apply Drawn0.step)⟩
      · rw [if_neg c3] at H
        have c3b0 : decide (0 < x1_1) = false := decide_eq_false c3
        clear c3
        obtain rfl := Option.some.inj H
        go_wp2
        go_ret
        exact ⟨by first | rfl | (simp; done) | (simp [*]; done), by repeat (first | exact Drawn0.refl _ | apply Drawn0.step)⟩

/-! ### impl_combined: function 62 -/
section cb
/-- a line, from a place on: a number times each byte of a text. -/
def cb_line (k : Nat) (c : Int) (t : ByteArray) : Nat → List Int → Option (List Int)
  | 0, line => some line
  | d + 1, line => (impl_mul.f k c (wrap64 (bt t ((line.length - (d + 1) : Nat) : Int)))).bind fun v => cb_line k c t d (line.set (line.length - (d + 1)) (Go.bits .xor .u8 (rd line ((line.length - (d + 1) : Nat) : Int)) (v % 256)))
/-- a line, from a text on. -/
def cb_row (k : Nat) (ts : List ByteArray) : Nat → List Int → List Int → Option (List Int)
  | _, [], line => some line
  | j, c :: r, line => if c = 0 then cb_row k ts (j + 1) r line else if j < ts.length ∧ line.length ≤ (ts.getD j ByteArray.empty).size then (cb_line k c (ts.getD j ByteArray.empty) line.length line).bind fun l2 => cb_row k ts (j + 1) r l2 else none
def cb_all (k : Nat) (ts : List ByteArray) (n : Nat) : List (List Int) → List ByteArray → Option (List ByteArray)
  | [], out => some out
  | row :: rs, out => (cb_row k ts 0 row (List.replicate n 0)).bind fun line => cb_all k ts n rs (out ++ [strOfNums line])
def cb_rows (l : List Int) (rows cols : Nat) : List (List Int) := (List.range rows).map fun i => (l.take ((i + 1) * cols)).drop (i * cols)
def impl_combined.f (k : Nat) (a0_0 : Int) (a0_1 : Int) (l0_2 : List Int) (l1 : List ByteArray) : Option (List ByteArray) :=
  if 0 ≤ a0_0 ∧ a0_0 ≤ 100 ∧ 1 ≤ a0_1 ∧ a0_1 ≤ 100 ∧ a0_0 * a0_1 ≤ (l0_2.length : Int) ∧ 0 < l1.length ∧ (l1.getD 0 ByteArray.empty).size ≤ 100000 then cb_all k l1 (l1.getD 0 ByteArray.empty).size (cb_rows l0_2 a0_0.toNat a0_1.toNat) [] else none
theorem cb_line_mono (k : Nat) (c : Int) (t : ByteArray) : ∀ d line, LeO (cb_line k c t d line) (cb_line (k + 1) c t d line)
  | 0, _ => LeO.refl _
  | d + 1, line => by
    unfold cb_line
    exact LeO.bind (impl_mul.mono _ _ _) (fun _ => cb_line_mono k c t d _)
theorem cb_row_mono (k : Nat) (ts : List ByteArray) : ∀ j r line, LeO (cb_row k ts j r line) (cb_row (k + 1) ts j r line)
  | _, [], _ => LeO.refl _
  | j, c :: r, line => by
    unfold cb_row
    exact LeO.ite (cb_row_mono k ts (j + 1) r line) (LeO.ite (LeO.bind (cb_line_mono k _ _ _ _) (fun _ => cb_row_mono k ts (j + 1) r _)) (LeO.refl _))
theorem cb_all_mono (k : Nat) (ts : List ByteArray) (n : Nat) : ∀ rs out, LeO (cb_all k ts n rs out) (cb_all (k + 1) ts n rs out)
  | [], _ => LeO.refl _
  | row :: rs, out => by
    unfold cb_all
    exact LeO.bind (cb_row_mono k ts 0 row _) (fun _ => cb_all_mono k ts n rs _)
theorem impl_combined.mono : ∀ a0 a1 a2 a3 k, LeO (impl_combined.f k a0 a1 a2 a3) (impl_combined.f (k + 1) a0 a1 a2 a3) := fun _ _ _ _ k => LeO.ite (cb_all_mono k _ _ _ _) (LeO.refl _)
theorem cb_line_len (k : Nat) (c : Int) (t : ByteArray) : ∀ d line r, cb_line k c t d line = some r → r.length = line.length
  | 0, line, r, h => by
    obtain rfl := Option.some.inj h
    rfl
  | d + 1, line, r, h => by
    unfold cb_line at h
    obtain ⟨v, hv, h⟩ := Option.bind_eq_some_iff.mp h
    have := cb_line_len k c t d _ r h
    rw [this, List.length_set]
theorem cb_row_len (k : Nat) (ts : List ByteArray) : ∀ row j line r, cb_row k ts j row line = some r → r.length = line.length
  | [], j, line, r, h => by
    obtain rfl := Option.some.inj h
    rfl
  | c :: row, j, line, r, h => by
    unfold cb_row at h
    split at h
    · exact cb_row_len k ts row _ _ _ h
    · split at h
      · obtain ⟨l2, h2, h⟩ := Option.bind_eq_some_iff.mp h
        rw [cb_row_len k ts row _ _ _ h, cb_line_len k _ _ _ _ _ h2]
      · cases h
theorem cb_w {n : Int} (h0 : -9223372036854775808 ≤ n) (h1 : n ≤ 9223372036854775807) : wrap64 n = n := by
  unfold wrap64
  omega
theorem cb_nxt (x : Int) (i : Nat) (hx : x = (i : Int)) (hi : i < 1000000) : wrap64 (x + 1) = ((i + 1 : Nat) : Int) := by
  subst hx
  unfold wrap64
  omega
theorem cb_rd (l : List Int) (j : Nat) (h : j < l.length) : l.drop j = rd l (j : Int) :: l.drop (j + 1) := by
  rw [List.drop_eq_getElem_cons h]
  unfold rd
  rw [Int.toNat_natCast, List.getD_eq_getElem?_getD, List.getElem?_eq_getElem h]
  rfl
theorem cb_rows_len (l : List Int) (r c : Nat) : (cb_rows l r c).length = r := by simp [cb_rows]
theorem cb_rows_drop (l : List Int) (r c i : Nat) (h : i < r) : (cb_rows l r c).drop i = ((l.take ((i + 1) * c)).drop (i * c)) :: (cb_rows l r c).drop (i + 1) := by
  rw [List.drop_eq_getElem_cons (by rw [cb_rows_len]; exact h)]
  congr 1
  simp [cb_rows]
set_option maxHeartbeats 4000000 in
set_option maxRecDepth 100000 in
theorem cb_rowx (a b : Int) (A : Option Addr) (c : Nat) (l : List Int) (i lo hi : Int) (hlo : wrap64 (i * b) = lo) (hhi : wrap64 (wrap64 (i + 1) * b) = hi) (h0 : 0 ≤ lo) (h1 : lo ≤ hi) (h2 : hi ≤ (l.length : Int)) (hc : l.length ≤ c) (AR : Option Addr) (hAR : (if c = lo.toNat then A else A.map fun x => x.add (lo.toNat * 1)) = AR) (w : World) :
    Calls Try.prog 124 #[.agg #[.int .i64 a, .int .i64 b, .slice A l.length c], .int .i64 i] w fun e w' => e = .returned (.slice AR (hi.toNat - lo.toNat) (c - lo.toNat)) ∧ Below w.heap.size w w' := by
  obtain ⟨i2, hi2, _⟩ := info_parts info2
  have hs2 : i2.size = 1 := by have := info2; rw [hi2] at this; simp only [Option.map_some, Option.some.injEq, Prod.mk.injEq] at this; exact this.2.1
  have hcut := cut_mid (P := Try.prog) 71 2 .i64 .i64 Try.underlying71 hi2 1 hs2 A l.length c lo hi h0 h1 h2 hc
  rw [hAR] at hcut
  have hlow : IntKind.i64.wrap (i * b) = lo := (i64_w _).trans hlo
  have hhiw : IntKind.i64.wrap (wrap64 (i + 1) * b) = hi := (i64_w _).trans hhi
  clear hi2 hs2 h0 h1 h2 hc hAR
  go_enter Try.func124, Try.ntmps124
  go_wp2
  go_ret
  exact ⟨rfl, (Below.refl _ _).alloc (Nat.le_refl _) _⟩
def cb13.T : Bool × List (List Nat × List Nat) := (true, [([], []), ([], []), ([0, 1], [0, 1]), ([2], [2]), ([], []), ([], []), ([], []), ([5, 6], [5, 6]), ([7], [7]), ([], []), ([8, 9], [8, 9]), ([10], [10]), ([4, 11], [4, 11]), ([12], [12]), ([3, 13], [3, 13]), ([0, 1, 0, 1, 2, 3, 4, 5, 6, 7, 8, 9, 10, 11, 12, 13, 14], [0, 1]), ([15, 14, 12, 0, 1, 2, 3, 4, 5, 6, 7, 8, 9, 10, 11, 12, 13, 14], [14, 15])])
def cb13.B : List Nat := [0, 0, 3, 7, 0, 0, 0, 96, 224, 0, 992, 2016, 4080, 8176, 16383, 32767, 65535]
theorem cb13.tab : rtab .any (opsOf Try.f62 13) = cb13.T := by kernel_rfl
theorem cb13.bits : waitsOk cb13.T.2 cb13.B = true := by kernel_rfl
set_option maxHeartbeats 4000000 in
set_option maxRecDepth 100000 in
theorem cb_walk (k : Nat) (a b : Int) (A : Option Addr) (c : Nat) (l : List Int) (A1 : Option Addr) (c1 : Nat) (l1 : List ByteArray) (r : List ByteArray) (w : World) (hr0 : Kd.C (Kd.int .i64) w A l.length l) (hc0 : l.length ≤ c) (hr1 : Kd.C Kd.string w A1 l1.length l1) (hc1 : l1.length ≤ c1)
    (h1 : 0 ≤ a) (h2 : a ≤ 100) (h3 : 1 ≤ b) (h4 : b ≤ 100) (h5 : a * b ≤ (l.length : Int)) (h6 : 0 < l1.length) (h7 : (l1.getD 0 ByteArray.empty).size ≤ 100000) (h : cb_all k l1 (l1.getD 0 ByteArray.empty).size (cb_rows l a.toNat b.toNat) [] = some r) :
    Calls Try.prog 62 #[.agg #[.int .i64 a, .int .i64 b, .slice A l.length c], .slice A1 l1.length c1] w fun e w' => ∃ v0_ : Value, e = .returned (v0_) ∧ Kd.R Kd.string 9 w' w.heap.size (fun _ => True) v0_ r ∧ Below w.heap.size w w' := by
  have hu := Try.underlying89
  obtain ⟨ra, hra⟩ : ∃ n : Nat, a = (n : Int) := ⟨a.toNat, by omega⟩
  obtain ⟨cb, hcb⟩ : ∃ n : Nat, b = (n : Int) := ⟨b.toNat, by omega⟩
  obtain ⟨n, hn⟩ : ∃ n : Nat, (l1.getD 0 ByteArray.empty).size = n := ⟨_, rfl⟩
  rw [hn] at h h7
  have HN := AM hn
  have HN7 := AM h7
  have HRA := AM hra
  have HCB := AM hcb
  have HRW : Aside0 (ra ≤ 100) := ⟨by omega⟩
  have HCW : Aside0 (1 ≤ cb ∧ cb ≤ 100) := ⟨by omega⟩
  have HLEN : Aside0 (ra * cb ≤ l.length) := ⟨by have h9 := h5; rw [hra, hcb] at h9; exact_mod_cast h9⟩
  have HR := AM hr0
  have HC := AM hc0
  have HR1 := AM hr1
  have HC1 := AM hc1
  have HL6 := AM h6
  have H0 : Aside0 (cb_all k l1 n (cb_rows l ra cb) [] = some r) := ⟨by have h9 := h; rw [hra, hcb, Int.toNat_natCast, Int.toNat_natCast] at h9; exact h9⟩
  have HB := AM (Below.refl w.heap.size w)
  clear hr0 hc0 hr1 hc1 h1 h2 h3 h4 h5 h6 h7 h hra hcb hn
  go_enter Try.func62, Try.ntmps62
  go_wp2_with ((with_reducible refine gate_dst (N := 2) rfl ?_); refine be_ 2 #[.int .i64 a, .int .i64 b, .slice A l.length c] 89 ?_; intro g2 hg w1 hbox hb; have BK := AM hbox; have GK := AM ((by rw [hg]; exact Nat.le_refl _ : w.heap.size ≤ g2)); replace HB := AM (below_step HB.out hb); have cz0 : w1.cell? ⟨g2, 0, none⟩ = some (.int .i64 a) := (blk_cell hbox 0).trans rfl; clear hb hbox hg)
  clear cz0
  go_loopg [5, 13] (ra : Nat) (fun (q : Nat) v5 v13 w' => ∃ (u : Value) (xs : List ByteArray) (z : Int) (i : Nat), i + q = ra ∧ v5 = u ∧ v13 = .int .i64 z ∧ Aside0 (z = (i : Int)) ∧ Aside0 (xs.length ≤ i) ∧ Aside0 (cb_all k l1 n ((cb_rows l ra cb).drop i) xs = some r) ∧ Aside0 (Kd.R Kd.string 9 w' w.heap.size (fun _ => True) u xs) ∧ Aside0 (w'.heap[g2]? = some (.cells #[.int .i64 a, .int .i64 b, .slice A l.length c] 89 (0, 0))) ∧ Aside0 (Below w.heap.size w w'))
  case atStart => exact ⟨_, [], 0, 0, by omega, rfl, rfl, ⟨rfl⟩, ⟨Nat.le_refl _⟩, H0, ⟨Kd.R_nil _ _ _ _ _⟩, BK, HB⟩
  case round =>
    clear H0 HB BK
    obtain ⟨u_, xs, z, i, hi, rfl, rfl, HZ, HXL, HA, HO, BK, HB⟩ := hrel
    have HI := AM hi
    clear hi
    obtain ⟨Au, cu, eu⟩ := Kd.R_slice HO.out
    subst eu
    by_cases ci : i < ra
    · have x1 : decide (z < a) = true := decide_eq_true (by rw [HZ.out, HRA.out]; omega)
      have CI := AM ci
      have H := HA.out
      rw [cb_rows_drop l ra cb i ci] at H
      unfold cb_all at H
      obtain ⟨L, hL, H⟩ := Option.bind_eq_some_iff.mp H
      have HLR := AM hL
      replace HA := AM H
      clear H hL ci
      have LO : Aside0 ((i + 1) * cb ≤ l.length) := ⟨Nat.le_trans (Nat.mul_le_mul_right _ (by have := CI.out; omega)) HLEN.out⟩
      have LS : Aside0 ((i + 1) * cb = i * cb + cb) := ⟨Nat.succ_mul _ _⟩
      have LB : Aside0 (i * cb ≤ 10000) := ⟨Nat.le_trans (Nat.mul_le_mul (by have := CI.out; have := HRW.out; omega : i ≤ 100) HCW.out.2) (by decide)⟩
      obtain ⟨row, hrow⟩ : ∃ row, (l.take ((i + 1) * cb)).drop (i * cb) = row := ⟨_, rfl⟩
      rw [hrow] at HLR
      have HRWL : Aside0 (row.length = cb) := ⟨by rw [← hrow, List.length_drop, List.length_take]; have := LO.out; have := LS.out; omega⟩
      have HROW := AM hrow
      clear hrow
      have e1 : wrap64 (z * b) = ((i * cb : Nat) : Int) := by rw [HZ.out, HCB.out, ← Int.natCast_mul]; have := LB.out; exact cb_w (by omega) (by omega)
      have e2 : wrap64 (wrap64 (z + 1) * b) = (((i + 1) * cb : Nat) : Int) := by rw [cb_nxt z i HZ.out (by have := CI.out; have := HRW.out; omega), HCB.out, ← Int.natCast_mul]; have := LB.out; have := LS.out; have := HCW.out; exact cb_w (by omega) (by omega)
      have HE1 := AM e1
      have HE2 := AM e2
      clear e1 e2
      obtain ⟨ad, e3, hx0⟩ := Kd.at_string HR1.out 0 (by omega) (by have := HL6.out; omega)
      subst e3
      rw [show rdOf ByteArray.empty l1 0 = l1.getD 0 ByteArray.empty from rfl, show ((0 : Int)).toNat = 0 from rfl, Addr.add_zero'] at hx0
      replace hx0 := (HB.out.cell (World.block_lt_of_cell? w _ hx0)).trans hx0
      have q0 : (0 < l1.length) = True := eq_true HL6.out
      have q1 : ((0 : Int) < (l1.length : Int)) = True := eq_true (by have := HL6.out; omega)
      have cz0 : wr.cell? ⟨g2, 0, none⟩ = some (.int .i64 a) := (blk_cell BK.out 0).trans rfl
      have cz1 : wr.cell? ⟨g2, 1, none⟩ = some (.int .i64 b) := (blk_cell BK.out 1).trans rfl
      have cz2 : wr.cell? ⟨g2, 2, none⟩ = some (.slice A l.length c) := (blk_cell BK.out 2).trans rfl
      have HLN : Aside0 ((l1.getD 0 ByteArray.empty).size = n) := HN
      have HR0 := Kd.C_mid (c := c) (lo := i * cb) (hi := (i + 1) * cb) HR.out (by have := LS.out; omega) LO.out HC.out
      rw [HROW.out] at HR0
      obtain ⟨AR, hAR⟩ : ∃ AR, (if c = i * cb then A else A.map fun x => x.add (i * cb * 1)) = AR := ⟨_, rfl⟩
      have HRR : Aside0 (Kd.C (Kd.int .i64) w AR row.length row) := ⟨by rw [← hAR]; exact HR0⟩
      have HAR := AM hAR
      clear HR0 hAR
      generalize l1.getD 0 ByteArray.empty = t0 at hx0 HLN
      go_wp2_with (first
        | ((with_reducible refine gate_dst (N := 20) rfl ?_); refine Kd.R_make (Kd.int .u8) _ 5 rfl (N := 20) rfl 22 _ _ rfl (t0.size : Int) rfl rfl Try.underlying22 (.int .u8 0) 1 info5 rfl (by decide) (by omega) 0 (ok := fun _ => True) (okp := fun _ => True) rfl (fun _ hk => hk) trivial (by omega) (by have := HLN.out; have := HN7.out; omega) (Below.refl _ _) (Nat.le_refl _) ?_; intro v20 w11 ho hb hg_ hnew_; clear hg_ hnew_; rw [Int.toNat_natCast, HLN.out] at ho; have HL := AM (Kd.R_lower ho (below_size (bel_ (w := w)))); replace HO := AM (Kd.R_below (ro_ HO.out) hb); replace BK := AM (blk_below BK.out hb); replace HB := AM (below_step (bel_ (w := w)) hb); clear hb ho hx0 cz0 cz1 cz2; have cz0 : w11.cell? ⟨g2, 0, none⟩ = some (.int .i64 a) := (blk_cell BK.out 0).trans rfl; have cz1 : w11.cell? ⟨g2, 1, none⟩ = some (.int .i64 b) := (blk_cell BK.out 1).trans rfl; have cz2 : w11.cell? ⟨g2, 2, none⟩ = some (.slice A l.length c) := (blk_cell BK.out 2).trans rfl)
        | (go_at_call 124; refine (cb_rowx a b A c l z _ _ HE1.out HE2.out (by omega) (by have := LS.out; omega) (by have := LO.out; omega) HC.out AR (by rw [Int.toNat_natCast]; exact HAR.out) _).mono ?_; rintro e w12 ⟨rfl, hb⟩; rw [Int.toNat_natCast, Int.toNat_natCast, show (i + 1) * cb - i * cb = cb by have := LS.out; omega]; replace HL := AM (Kd.R_below HL.out hb); replace HO := AM (Kd.R_below HO.out hb); replace BK := AM (blk_below BK.out hb); replace HB := AM (below_step HB.out hb); clear hb cz0 cz1 cz2))
      clear x1 q0 q1
      obtain ⟨Al, cl, el⟩ := Kd.R_slice HL.out
      rw [List.length_replicate] at el
      subst el
      go_loopg [25] (cb : Nat) (fun (q : Nat) v25 w' => ∃ (line : List Int) (j : Int) (jn : Nat), jn + q = cb ∧ v25 = .int .i64 j ∧ Aside0 (j = (jn : Int)) ∧ Aside0 (cb_row k l1 jn (row.drop jn) line = some L) ∧ Aside0 (line.length = n) ∧ Aside0 (Kd.R Kd.string 9 w' w.heap.size (fun _ => True) (.slice Au xs.length cu) xs) ∧ Aside0 (Kd.R (Kd.int .u8) 5 w' w.heap.size (fun _ => True) (.slice Al n cl) line) ∧ Aside0 (w'.heap[g2]? = some (.cells #[.int .i64 a, .int .i64 b, .slice A l.length c] 89 (0, 0))) ∧ Aside0 (Below w.heap.size w w'))
      case atStart => exact ⟨_, 0, 0, by omega, rfl, ⟨rfl⟩, HLR, ⟨List.length_replicate⟩, HO, HL, BK, HB⟩
      case round =>
        clear HO HL BK HB HLR
        obtain ⟨line, j, jn, hj, rfl, HJ, HW, HLL, HO, HL, BK, HB⟩ := hrel
        have HJN := AM hj
        clear hj
        by_cases cj : jn < cb
        · have x1 : decide (j < (cb : Int)) = true := decide_eq_true (by rw [HJ.out]; omega)
          have CJ := AM cj
          have p1 : (0 ≤ j) = True := eq_true (by rw [HJ.out]; omega)
          have q1 : (j < (cb : Int)) = True := eq_true (by rw [HJ.out]; omega)
          obtain ⟨ad2, e4, hx5⟩ := Kd.at_int (Kd.C_below HRR.out HB.out) j (by rw [HJ.out]; omega) (by rw [HJ.out, HRWL.out]; omega)
          subst e4
          have H := HW.out
          rw [cb_rd row jn (by rw [HRWL.out]; exact cj), ← HJ.out] at H
          unfold cb_row at H
          clear cj
          generalize rd row j = qv at hx5 H
          by_cases c0 : qv = 0
          · rw [if_pos c0] at H
            have y1 : (qv == 0) = true := beq_iff_eq.2 c0
            replace HW := AM H
            clear H c0
            go_wp2
            go_roundg (cb - (jn + 1))
            case measure => have := HJN.out; have := CJ.out; omega
            case rel => exact ⟨line, _, jn + 1, (by have := HJN.out; have := CJ.out; omega), rfl, ⟨cb_nxt j jn HJ.out (by have := CJ.out; have := HCW.out; omega)⟩, HW, HLL, HO, HL, BK, HB⟩
          · rw [if_neg c0] at H
            have y1 : (qv == 0) = false := beq_eq_false_iff_ne.2 c0
            clear c0
            by_cases c9 : jn < l1.length ∧ line.length ≤ (l1.getD jn ByteArray.empty).size
            case neg => rw [if_neg c9] at H; exact absurd H (by simp)
            rw [if_pos c9] at H
            obtain ⟨l2, hl2, H⟩ := Option.bind_eq_some_iff.mp H
            have etx : rdOf ByteArray.empty l1 j = l1.getD jn ByteArray.empty := by unfold rdOf; rw [HJ.out, Int.toNat_natCast]
            rw [← etx] at hl2 c9
            have HLI := AM hl2
            have HC9 := AM c9
            have HRT := AM H
            have HL2 : Aside0 (l2.length = n) := ⟨by rw [cb_line_len k _ _ _ _ _ hl2, HLL.out]⟩
            clear H hl2 c9 etx HW
            rw [HLL.out] at HLI
            have HC9b : Aside0 (n ≤ (rdOf ByteArray.empty l1 j).size) := ⟨by have := HC9.out.2; have := HLL.out; omega⟩
            go_wp2
            go_loopg [34] (n : Nat) (fun (q : Nat) v34 w' => ∃ (line : List Int) (x : Int) (xn : Nat), xn + q = n ∧ v34 = .int .i64 x ∧ Aside0 (x = (xn : Int)) ∧ Aside0 (cb_line k qv (rdOf ByteArray.empty l1 j) q line = some l2) ∧ Aside0 (line.length = n) ∧ Aside0 (Kd.R Kd.string 9 w' w.heap.size (fun _ => True) (.slice Au xs.length cu) xs) ∧ Aside0 (Kd.R (Kd.int .u8) 5 w' w.heap.size (fun _ => True) (.slice Al n cl) line) ∧ Aside0 (w'.heap[g2]? = some (.cells #[.int .i64 a, .int .i64 b, .slice A l.length c] 89 (0, 0))) ∧ Aside0 (Below w.heap.size w w'))
            case atStart => exact ⟨line, 0, 0, by omega, rfl, ⟨rfl⟩, HLI, HLL, HO, HL, BK, HB⟩
            case round =>
              clear HO HL BK HB HLI HLL x1 p1 q1 y1 hx5
              obtain ⟨line, x, xn, hx, rfl, HX, HLI, HLL, HO, HL, BK, HB⟩ := hrel
              have HXN := AM hx
              clear hx
              by_cases cx : xn < n
              · have x2 : decide (x < (n : Int)) = true := decide_eq_true (by rw [HX.out]; omega)
                have CX := AM cx
                have PX : Aside0 (0 ≤ x) := ⟨by rw [HX.out]; omega⟩
                have QX : Aside0 (x < (n : Int)) := ⟨by rw [HX.out]; omega⟩
                obtain ⟨d, hd⟩ : ∃ d, gk = d + 1 := ⟨gk - 1, by have := HXN.out; omega⟩
                subst hd
                have H := HLI.out
                unfold cb_line at H
                rw [show line.length - (d + 1) = x.toNat by rw [HX.out, Int.toNat_natCast]; have := HLL.out; have := HXN.out; omega, Int.toNat_of_nonneg PX.out] at H
                obtain ⟨v, hv, H⟩ := Option.bind_eq_some_iff.mp H
                have HV := AM hv
                replace HLI := AM H
                clear H hv cx
                obtain ⟨gl, cl2, e5, gb, glt, cells, HG⟩ := Kd.R_form HL.out (by have := HLL.out; have := CX.out; omega)
                injection e5 with e5 e6 e7
                subst e5
                have GB := AM gb
                clear gb glt HG cells e6 e7
                have hx0 : wr.cell? ⟨gl, x.toNat, none⟩ = some (.int .u8 (rd line x)) := (Kd.R_celln 0 HL.out x PX.out QX.out).1
                obtain ⟨ad3, e8, hx1⟩ := Kd.at_string HR1.out j (by rw [HJ.out]; omega) (by rw [HJ.out]; have := HC9.out.1; omega)
                injection e8 with e8
                subst e8
                replace hx1 := (HB.out.cell (World.block_lt_of_cell? w _ hx1)).trans hx1
                have p2 := eq_true PX.out
                have q2 := eq_true QX.out
                have p3 : (0 ≤ j) = True := eq_true (by rw [HJ.out]; omega)
                have q3 : (j < (l1.length : Int)) = True := eq_true (by rw [HJ.out]; have := HC9.out.1; omega)
                have q4 : (x < ((rdOf ByteArray.empty l1 j).size : Int)) = True := eq_true (by rw [HX.out]; have := HC9b.out; have := CX.out; omega)
                have hbt := bt_at (rdOf ByteArray.empty l1 j) x
                try go_wp2
                replace HO := AM (Kd.R_drew HO.out)
                replace HL := AM (Kd.R_drew HL.out)
                replace BK := AM (blk_drew BK.out)
                replace HB := AM (below_drew1 HB.out)
                refine start_ (n := 17) (S := fun w' => w'.cell? ⟨gl, x.toNat, none⟩ = some (.int .u8 (rd line x)) ∧ w'.cell? (ad.add j.toNat) = some (.string (rdOf ByteArray.empty l1 j))) (ds := [16]) #[false, false, false, false, false, false, false, false, false, false, false, false, false, false, false, false, false] (by kernel_rfl) rfl rfl ⟨hx0, hx1⟩ (fun hHeld => ?_)
                refine with_tabW cb13.tab cb13.bits (fun HT_ HW_ => ?_)
                generalize wr.drew = w29 at HO HL BK HB hx0 hx1 hHeld ⊢
                refine pu_ HT_ 0 (some 37) #[true, false, false, false, false, false, false, false, false, false, false, false, false, false, false, false, false] ?_
                refine pu_ HT_ 1 (some 38) #[true, true, false, false, false, false, false, false, false, false, false, false, false, false, false, false, false] ?_
                refine pu_ HT_ 2 (some 39) #[true, true, true, false, false, false, false, false, false, false, false, false, false, false, false, false, false] ?_
                refine pu_ HT_ 4 (some 41) #[true, true, true, false, true, false, false, false, false, false, false, false, false, false, false, false, false] ?_
                refine pu_ HT_ 5 (some 42) #[true, true, true, false, true, true, false, false, false, false, false, false, false, false, false, false, false] ?_
                refine pu_ HT_ 6 (some 43) #[true, true, true, false, true, true, true, false, false, false, false, false, false, false, false, false, false] ?_
                refine pu_ HT_ 7 (some 44) #[true, true, true, false, true, true, true, true, false, false, false, false, false, false, false, false, false] ?_
                refine pu_ HT_ 9 (some 46) #[true, true, true, false, true, true, true, true, false, true, false, false, false, false, false, false, false] ?_
                refine ta_ HT_ HW_ 3 (some 40) #[true, true, true, true, true, true, true, true, false, true, false, false, false, false, false, false, false] hHeld ?_
                refine ta_ HT_ HW_ 8 (some 45) #[true, true, true, true, true, true, true, true, true, true, false, false, false, false, false, false, false] hHeld ?_
                refine ta_ HT_ HW_ 10 (some 47) #[true, true, true, true, true, true, true, true, true, true, true, false, false, false, false, false, false] hHeld ?_
                refine pu_ HT_ 11 (some 48) #[true, true, true, true, true, true, true, true, true, true, true, true, false, false, false, false, false] ?_
                refine on_ HT_ 12 (some 49) #[true, true, true, true, true, true, true, true, true, true, true, true, true, false, false, false, false] (fun K hK => ?_)
                refine go1_ Try.func125 #[.int .i64 qv, .int .i64 (wrap64 (bt (rdOf ByteArray.empty l1 j) x))] ?_
                refine (impl_mul.calls k qv (wrap64 (bt (rdOf ByteArray.empty l1 j) x)) v _ HV.out).mono ?_
                rintro e w' ⟨rfl, hd_⟩
                obtain ⟨nd, hnd⟩ := hd_.out
                subst hnd
                refine ⟨_, rfl, ?_⟩
                replace HO := AM (Kd.R_drewN HO.out nd)
                replace HL := AM (Kd.R_drewN HL.out nd)
                replace BK := AM (blk_drewN BK.out nd)
                replace HB := AM (pw_below_drewN HB.out nd)
                obtain ⟨hx27, hf27⟩ := Kd.R_celln 0 HL.out x PX.out QX.out
                have HP := AM (Kd.R_putn HL.out x (Go.bits .xor .u8 (rd line x) (v % 256)))
                have GG : Aside0 (∃ cells, _ = _) := AM (Kd.R_typed HL.out gl rfl)
                have NE := AM (Kd.R_ne HL.out BK.out (by decide))
                refine hK.out _ _ ⟨hHeld.1, hHeld.2⟩ (fun hHeld => ?_)
                clear hK K
                refine nm_ ?_
                refine pu_ HT_ 13 (some 50) #[true, true, true, true, true, true, true, true, true, true, true, true, true, true, false, false, false] ?_
                refine pu_ HT_ 14 (some 51) #[true, true, true, true, true, true, true, true, true, true, true, true, true, true, true, false, false] ?_
                refine pu_ HT_ 15 (some 52) #[true, true, true, true, true, true, true, true, true, true, true, true, true, true, true, true, false] ?_
                refine last_ (i := 16) (N := none) #[true, true, true, true, true, true, true, true, true, true, true, true, true, true, true, true, true] rfl rfl (one_of HT_.out (by kernel_rfl)) (by decide) (fun K hK => ?_)
                refine sk_ ?_
                refine hK.out _ _ ?_
                clear hK K
                refine dn_ HT_ ?_
                try go_wp2
                go_roundg d
                case measure => have := HXN.out; omega
                case rel => exact ⟨_, _, xn + 1, (by have := HXN.out; have := CX.out; omega), rfl, ⟨cb_nxt x xn HX.out (by have := CX.out; have := HN7.out; omega)⟩, HLI, ⟨by rw [List.length_set]; exact HLL.out⟩, ⟨Kd.R_mono (Kd.R_far (p := ⟨gl, x.toNat, none⟩) (Kd.R_types HO.out GG.out.choose_spec (by decide)) (fun _ hk => hk.2) (.int .u8 (Go.bits .xor .u8 (rd line x) (v % 256)))) (fun _ hk => trivial)⟩, HP, ⟨blk_far BK.out (by intro e_; exact NE.out (by rw [e_]; rfl)) _⟩, ⟨HB.out.setCell (p := ⟨gl, x.toNat, none⟩) GB.out _⟩⟩
              · have x2 : decide (x < (n : Int)) = false := decide_eq_false (by rw [HX.out]; omega)
                have hd : gk = 0 := by have := HXN.out; omega
                subst hd
                have HE : Aside0 (line = l2) := ⟨Option.some.inj HLI.out⟩
                clear cx
                go_wp2
                go_roundg (cb - (jn + 1))
                case measure => have := HJN.out; have := CJ.out; omega
                case rel => exact ⟨line, _, jn + 1, (by have := HJN.out; have := CJ.out; omega), rfl, ⟨cb_nxt j jn HJ.out (by have := CJ.out; have := HCW.out; omega)⟩, ⟨by rw [HE.out]; exact HRT.out⟩, HLL, HO, HL, BK, HB⟩
        · have x1 : decide (j < (cb : Int)) = false := decide_eq_false (by rw [HJ.out]; omega)
          have hd : jn = cb := by have := HJN.out; omega
          have HE : Aside0 (line = L) := ⟨by have h := HW.out; rw [hd, ← HRWL.out, List.drop_length] at h; exact Option.some.inj h⟩
          clear cj hd
          have hcv := own_string (P := Try.prog) Try.underlying22 Try.underlying5 Try.underlying9 (Kd.own_of_R HL.out)
          go_wp2_with (first | ((with_reducible refine gate_builtin (b := .append) (xs := #[.tmp 55, .tmp 58]) rfl ?_); at_builtin; refine Kd.R_append Kd.string (w0 := w) w.heap.size rfl (.tmp 55) (.tmp 58) 25 9 (.string ⟨#[]⟩) 16 rfl Try.underlying25 info9 rfl (by decide) (by omega) (.slice Au xs.length cu) xs (strOfNums line) [.string (strOfNums line)] (fun _ => True) (fun _ => False) rfl rfl ?aP (fun _ hk => hk.elim) ?aF ?aO ?aB ?aS ?aL ?_; (case aP => exact rfl); (case aB => exact bel_ (w := w)); (case aF => exact (fun _ _ => trivial)); (case aO => exact (ro_ HO.out)); (case aS => exact (below_size (bel_ (w := w)))); (case aL => have := HXL.out; have := HI.out; have := HRW.out; omega); intro v59 w35 ho hb hg hat; replace BK := AM (blk_grown (g := g2) (o := .cells #[.int .i64 a, .int .i64 b, .slice A l.length c] 89 (0, 0)) (bk_ BK.out) hg (Kd.R_ne HO.out BK.out (by decide))); replace HB := AM hb; replace HO := AM ho; clear ho hb hg hat))
          go_roundg (ra - (i + 1))
          case measure => have := HI.out; have := CI.out; omega
          case rel => exact ⟨_, xs ++ [strOfNums line], _, i + 1, (by have := HI.out; have := CI.out; omega), rfl, rfl, ⟨cb_nxt z i HZ.out (by have := CI.out; have := HRW.out; omega)⟩, ⟨by rw [List.length_append]; have := HXL.out; show xs.length + 1 ≤ _; omega⟩, ⟨by rw [HE.out]; exact HA.out⟩, ⟨ro_ HO.out⟩, ⟨bk_ BK.out⟩, ⟨bel_ (w := w)⟩⟩
    · have x1 : decide (z < a) = false := decide_eq_false (by rw [HZ.out, HRA.out]; omega)
      have hI : i = ra := by have := HI.out; omega
      have HE : Aside0 (xs = r) := ⟨by have h := HA.out; rw [hI, List.drop_of_length_le (by rw [cb_rows_len]; exact Nat.le_refl _)] at h; exact Option.some.inj h⟩
      clear ci hI
      go_wp2
      go_ret
      exact ⟨_, rfl, (by rw [← HE.out]; exact HO.out), HB.out⟩
theorem impl_combined.calls (k : Nat) (a0_0 : Int) (a0_1 : Int) (A0_2 : Option Addr) (c0_2 : Nat) (l0_2 : List Int) (A1 : Option Addr) (c1 : Nat) (l1 : List ByteArray) (r : List ByteArray) (w : World) (hr0_2 : Kd.C (Kd.int .i64) w A0_2 l0_2.length l0_2) (hc0_2 : l0_2.length ≤ c0_2) (hr1 : Kd.C Kd.string w A1 l1.length l1) (hc1 : l1.length ≤ c1) (h : impl_combined.f k a0_0 a0_1 l0_2 l1 = some r) :
    Calls Try.prog 62 #[.agg #[.int .i64 a0_0, .int .i64 a0_1, .slice A0_2 l0_2.length c0_2], .slice A1 l1.length c1] w fun e w' => ∃ v0_ : Value, e = .returned (v0_) ∧ Kd.R Kd.string 9 w' w.heap.size (fun _ => True) v0_ r ∧ Below w.heap.size w w' := by
  unfold impl_combined.f at h
  split at h
  · rename_i q
    obtain ⟨h1, h2, h3, h4, h5, h6, h7⟩ := q
    exact cb_walk k a0_0 a0_1 A0_2 c0_2 l0_2 A1 c1 l1 r w hr0_2 hc0_2 hr1 hc1 h1 h2 h3 h4 h5 h6 h7 h
  · cases h
end cb

/-! ### impl_unit: function 126 -/
def impl_unit.f (a0 : Int) (a1 : Int) : Option (List Int) := if 0 ≤ a1 then (if (a1 : Int).toNat ≤ 35184372088832 then ((some (List.replicate (a1 : Int).toNat 0 : List Int)).bind fun y217 => (if 0 ≤ a0 then (if a0 < (y217.length : Int) then (some (y217.set (a0 : Int).toNat 1)) else (none)) else (none))) else (none)) else (none)
set_option maxHeartbeats 8000000 in
set_option maxRecDepth 100000 in
theorem impl_unit.calls (a0 : Int) (a1 : Int) (r : List Int) (w : World) (h : impl_unit.f a0 a1 = some r) :
    Calls Try.prog 126 #[.int .i64 a0, .int .i64 a1] w fun e w' => ∃ v0_ : Value, e = .returned (v0_) ∧ Kd.R (Kd.int .i64) 2 w' w.heap.size (fun _ => True) v0_ r ∧ Below w.heap.size w w' := by
  have HB := AM (Below.refl w.heap.size w)
  have H : (if 0 ≤ a1 then (if (a1 : Int).toNat ≤ 35184372088832 then ((some (List.replicate (a1 : Int).toNat 0 : List Int)).bind fun y217 => (if 0 ≤ a0 then (if a0 < (y217.length : Int) then (some (y217.set (a0 : Int).toNat 1)) else (none)) else (none))) else (none)) else (none)) = some r := h
  clear h
  by_cases c3 : 0 ≤ a1
  · rw [if_pos c3] at H
    have c3b0 := eq_true c3
    have c3b1 : decide (0 ≤ a1) = true := decide_eq_true c3
    clear c3
    by_cases c4 : (a1 : Int).toNat ≤ 35184372088832
    · rw [if_pos c4] at H
      have c4b0 := eq_true c4
      have c4b1 : decide ((a1 : Int).toNat ≤ 35184372088832) = true := decide_eq_true c4
      clear c4
      obtain ⟨y217, hy217⟩ : ∃ y_ : List Int, y_ = (List.replicate (a1 : Int).toNat 0) := ⟨_, rfl⟩
      replace H : (if 0 ≤ a0 then (if a0 < (y217.length : Int) then (some (y217.set (a0 : Int).toNat 1)) else (none)) else (none)) = some r := by first | (rw [hy217]; with_reducible exact H) | (have H2_ := (Option.bind_some _ _).symm.trans H; rw [hy217]; with_reducible exact H2_) | (have H2_ := (Option.bind_some _ _).symm.trans H; with_reducible exact H2_) | with_reducible exact H | (rw [hy217]; exact H) | exact H
      have Ny217 := AM hy217
      clear hy217
      by_cases c5 : 0 ≤ a0
      · rw [if_pos c5] at H
        have c5b0 : decide (0 ≤ a0) = true := decide_eq_true c5
        clear c5
        by_cases c6 : a0 < (y217.length : Int)
        · rw [if_pos c6] at H
          have c6b0 : decide (a0 < (y217.length : Int)) = true := decide_eq_true c6
          clear c6
          obtain ⟨y220, hy220⟩ : ∃ y_ : List Int, y_ = (y217.set (a0 : Int).toNat 1) := ⟨_, rfl⟩
          replace H : (some y220) = some r := by first | (rw [hy220]; with_reducible exact H) | (have H2_ := (Option.bind_some _ _).symm.trans H; rw [hy220]; with_reducible exact H2_) | (have H2_ := (Option.bind_some _ _).symm.trans H; with_reducible exact H2_) | with_reducible exact H | (rw [hy220]; exact H) | exact H
          have Ny220 := AM hy220
          clear hy220
          obtain rfl := Option.some.inj H
          go_enter Try.func126, Try.ntmps126
          go_wp2_with (first | ((with_reducible refine gate_dst (N := 7) rfl ?_); refine Kd.R_make (Kd.int .i64) _ 2 rfl (N := 7) rfl 71 _ _ rfl a1 rfl rfl Try.underlying71 (.int .i64 0) 8 info2 rfl (by decide) (by omega) 0 (ok := fun _ => True) (okp := fun _ => True) rfl (fun _ hk => hk) trivial (of_decide_eq_true (by first | (with_reducible assumption) | assumption)) (Nat.le_trans (Nat.mul_le_mul_right _ (of_decide_eq_true (by first | (with_reducible assumption) | assumption) : a1.toNat ≤ 35184372088832)) (by omega)) (Below.refl _ _) (Nat.le_refl _) ?_; intro v218 w8 ho9 hb hg_ hnew_; clear hg_ hnew_; (first | rw [← Ny217.out] at ho9 | (simp only [Int.reduceToNat] at ho9; rw [← Ny217.out] at ho9)); have HO219 := AM (Kd.R_lower ho9 (below_size bel_)); replace HB := AM (below_step bel_ hb); clear hb ho9; have p7 : 0 ≤ (a0 : Int) := of_decide_eq_true (by first | (with_reducible assumption) | assumption); have q7 : (a0 : Int) < ((y217.length : Int) : Int) := of_decide_eq_true (by first | (with_reducible assumption) | assumption); obtain ⟨go7, co7, eo7, gb7, gl7, cl7, HG7⟩ := Kd.R_form HO219.out (by omega); (first | cases eo7 | (injection eo7 with ea_ en_ ec_; (first | subst ea_ | (injection ea_ with ea_; subst ea_)); subst ec_; clear en_)); have GB7 := AM gb7; have GG7 := AM HG7; clear gb7 gl7 HG7; obtain ⟨hx7_0, hf7_0⟩ := Kd.R_celln 0 HO219.out (a0 : Int) p7 q7; replace p7 := eq_true p7; replace q7 := eq_true q7; obtain ⟨hy10_, hz10_⟩ := Kd.R_celln 0 HO219.out (a0 : Int) (of_decide_eq_true (by first | (with_reducible assumption) | assumption)) (of_decide_eq_true (by first | (with_reducible assumption) | assumption)); have HP10 := Kd.R_putg HO219.out (a0 : Int) 1) | ((with_reducible refine gate_store (t := 2) (p := 10) rfl ?_); refine store_event (t := 2) (p := 10) (v := ?vo_w11) (w1 := (w8.setCell ⟨go7, (a0 : Int).toNat, none⟩ (.int .i64 1))) ?hg ?ho ?hn ?hr ?_; (case ho => rfl); (case hg => rfl); (case hn => rfl); (case hr => first | (go_simp; done) | (go_simp; rfl)); intro w11 hw; have hg : w8.grownBy w11 (some go7) := (by rw [hw]; exact HP10.2); have hp_ : Kd.R (Kd.int .i64) 2 w11 w.heap.size (fun _ => True) (.slice (some ⟨go7, 0, none⟩) y217.length co7) y220 := (by rw [hw, Ny220.out]; exact HP10.1); clear HP10; replace HO219 := AM hp_; replace HB := AM ((by rw [hw]; exact below_set (HB.out) GB7.out : Below w.heap.size w w11)); clear hg hw hp_))
          go_ret
          exact ⟨_, ri_, ro_ HO219.out, bel_⟩
        · rw [if_neg c6] at H
          exact absurd H (by simp)
      · rw [if_neg c5] at H
        exact absurd H (by simp)
    · rw [if_neg c4] at H
      exact absurd H (by simp)
  · rw [if_neg c3] at H
    exact absurd H (by simp)

/-! ### impl_pow: function 172 -/
def impl_pow.l0 : Nat → Int → Int → Int → Option (Int)
  | 0, _, _, _ => none
  | k + 1, x0, x1, x5 => if x1 > 0 then (if (Go.bits .and .i64 x1 1) = 1 then ((impl_mul.f k x5 x0).bind fun t221 => ((impl_mul.f k x0 x0).bind fun t222 => (impl_pow.l0 k t222 (x1 / 2) t221))) else ((impl_mul.f k x0 x0).bind fun t223 => (impl_pow.l0 k t223 (x1 / 2) x5))) else (some x5)
def impl_pow.f (k : Nat) (a0 : Int) (a1 : Int) : Option (Int) := impl_pow.l0 k a0 a1 1
theorem impl_pow.mono_l : ∀ k, (∀ y0 y1 y2, LeO (impl_pow.l0 k y0 y1 y2) (impl_pow.l0 (k + 1) y0 y1 y2))
  | 0 => fun _ _ _ r h => by simp [impl_pow.l0] at h
  | k + 1 => by
    have ih0 := impl_pow.mono_l k
    · intro y0 y1 y2
      unfold impl_pow.l0
      repeat' first
      | (with_reducible exact ih0 _ _ _)
      | (with_reducible exact impl_mul.mono _ _ _)
      | (with_reducible exact LeO.refl _)
      | (with_reducible exact LeO.none _)
      | (with_reducible refine LeO.ite ?_ ?_)
      | (with_reducible refine LeO.bind ?_ (fun _ => ?_))
      | exact ih0 _ _ _
      | exact impl_mul.mono _ _ _
      | exact LeO.none _
      | refine LeO.ite ?_ ?_
      | refine LeO.bind ?_ (fun _ => ?_)
theorem impl_pow.mono : ∀ a0 a1 k, LeO (impl_pow.f k a0 a1) (impl_pow.f (k + 1) a0 a1) := by
  intro a0 a1 k
  have ih0 := impl_pow.mono_l k
  unfold impl_pow.f
  repeat' first
      | (with_reducible exact ih0 _ _ _)
      | (with_reducible exact impl_mul.mono _ _ _)
      | (with_reducible exact LeO.refl _)
      | (with_reducible exact LeO.none _)
      | (with_reducible refine LeO.ite ?_ ?_)
      | (with_reducible refine LeO.bind ?_ (fun _ => ?_))
      | exact ih0 _ _ _
      | exact impl_mul.mono _ _ _
      | exact LeO.none _
      | refine LeO.ite ?_ ?_
      | refine LeO.bind ?_ (fun _ => ?_)
set_option maxHeartbeats 8000000 in
set_option maxRecDepth 100000 in
theorem impl_pow.calls (k : Nat) (a0 : Int) (a1 : Int) (r : Int) (w : World) (h : impl_pow.f k a0 a1 = some r) :
    Calls Try.prog 172 #[.int .i64 a0, .int .i64 a1] w fun e w' => e = .returned (.int .i64 r) ∧ Drawn0 w w' := by
  have H : (impl_pow.l0 k a0 a1 1) = some r := h
  clear h
  have H' := AM H
  clear H
  go_enter Try.func172, Try.ntmps172
  go_wp2
  go_loopg [0, 1, 5] k (fun kq v0 v1 v5 w' => ∃ (x0_1 : Int) (x1_1 : Int) (x5_1 : Int), v0 = .int .i64 x0_1 ∧ v1 = .int .i64 x1_1 ∧ v5 = .int .i64 x5_1 ∧ Aside0 (impl_pow.l0 kq x0_1 x1_1 x5_1 = some r) ∧ Aside0 (kq ≤ k) ∧ Drawn0 w w')
  case atStart => exact ⟨(a0), (a1), (1), (by first | rfl | (simp; done) | (simp [*]; done)), (by first | rfl | (simp; done) | (simp [*]; done)), (by first | rfl | (simp; done) | (simp [*]; done)), H', ⟨Nat.le_refl _⟩, by repeat (first | exact Drawn0.refl _ | apply Drawn0.step)⟩
  case round =>
    clear H'
    try clear c1
    try clear p2
    obtain ⟨x0_1, x1_1, x5_1, rfl, rfl, rfl, HA, HK1, ⟨m1, rfl⟩⟩ := hrel
    cases gk with
    | zero => exact absurd HA.out (by simp [impl_pow.l0])
    | succ k1 =>
      have H := HA.out
      clear HA
      simp only [impl_pow.l0] at H
      by_cases c3 : x1_1 > 0
      · rw [if_pos c3] at H
        have c3b0 : decide (0 < x1_1) = true := decide_eq_true c3
        clear c3
        by_cases c4 : (Go.bits .and .i64 x1_1 1) = 1
        · rw [if_pos c4] at H
          have c4b0 : ((Go.bits .and .i64 x1_1 1) == 1) = true := beq_iff_eq.mpr c4
          have c4b1 : ((Go.bits .and .i64 x1_1 1) != 1) = false := bne_eq_false_iff_eq.mpr c4
          clear c4
          obtain ⟨t221, A5, H⟩ := OB H
          try dsimp only at H
          replace A5 := AM A5
          obtain ⟨t222, A6, H⟩ := OB H
          try dsimp only at H
          replace A6 := AM A6
          have H' := AM H
          clear H
          go_wp2_with (first | ((with_reducible refine gate_callee (f := 125) rfl ?_); refine gl_ (some 15) Try.func125 #[.int .i64 x5_1, .int .i64 x0_1] ?_; (with_reducible refine (impl_mul.calls k1 x5_1 x0_1 t221 _ A5.out).mono ?_); rintro e w' ⟨rfl, ⟨nd, rfl⟩⟩; refine ⟨_, rfl, ?_⟩) | ((with_reducible refine gate_callee (f := 125) rfl ?_); refine gl_ (some 18) Try.func125 #[.int .i64 x0_1, .int .i64 x0_1] ?_; (with_reducible refine (impl_mul.calls k1 x0_1 x0_1 t222 _ A6.out).mono ?_); rintro e w' ⟨rfl, ⟨nd, rfl⟩⟩; refine ⟨_, rfl, ?_⟩))
          go_roundg k1
          case measure => have := HK1.out; omega
          case rel => exact ⟨(t222), (x1_1 / 2), (t221), (by first | rfl | (simp; done) | (simp [*]; done)), (by first | rfl | (simp; done) | (simp [*]; done)), (by first | rfl | (simp; done) | (simp [*]; done)), H', ⟨by have := HK1.out; omega⟩, by repeat (first | exact Drawn0.refl _ | apply Drawn0.step)⟩
        · rw [if_neg c4] at H
          have c4b0 : ((Go.bits .and .i64 x1_1 1) == 1) = false := beq_eq_false_iff_ne.mpr c4
          have c4b1 : ((Go.bits .and .i64 x1_1 1) != 1) = true := bne_iff_ne.mpr c4
          obtain ⟨t223, A7, H⟩ := OB H
          try dsimp only at H
          replace A7 := AM A7
          have H' := AM H
          clear H
          go_wp2_with (first | ((with_reducible refine gate_callee (f := 125) rfl ?_); refine gl_ (some 18) Try.func125 #[.int .i64 x0_1, .int .i64 x0_1] ?_; (with_reducible refine (impl_mul.calls k1 x0_1 x0_1 t223 _ A7.out).mono ?_); rintro e w' ⟨rfl, ⟨nd, rfl⟩⟩; refine ⟨_, rfl, ?_⟩))
          go_roundg k1
          case measure => have := HK1.out; omega
          case rel => exact ⟨(t223), (x1_1 / 2), (x5_1), (by first | rfl | (simp; done) | (simp [*]; done)), (by first | rfl | (simp; done) | (simp [*]; done)), (by first | rfl | (simp; done) | (simp [*]; done)), H', ⟨by have := HK1.out; omega⟩, by repeat (first | exact Drawn0.refl _ | apply Drawn0.step)⟩
      · rw [if_neg c3] at H
        have c3b0 : decide (0 < x1_1) = false := decide_eq_false c3
        clear c3
        obtain rfl := Option.some.inj H
        go_wp2
        go_ret
        exact ⟨by first | rfl | (simp; done) | (simp [*]; done), by repeat (first | exact Drawn0.refl _ | apply Drawn0.step)⟩

/-! ### impl_inv: function 127 -/
def impl_inv.f (k : Nat) (a0 : Int) : Option (Int) := (impl_pow.f k a0 254).bind fun t224 => (some t224)
theorem impl_inv.mono : ∀ a0 k, LeO (impl_inv.f k a0) (impl_inv.f (k + 1) a0) := by
  intro a0 k
  unfold impl_inv.f
  repeat' first
      | (with_reducible exact impl_pow.mono _ _ _)
      | (with_reducible exact LeO.refl _)
      | (with_reducible exact LeO.none _)
      | (with_reducible refine LeO.ite ?_ ?_)
      | (with_reducible refine LeO.bind ?_ (fun _ => ?_))
      | exact impl_pow.mono _ _ _
      | exact LeO.none _
      | refine LeO.ite ?_ ?_
      | refine LeO.bind ?_ (fun _ => ?_)
set_option maxHeartbeats 8000000 in
set_option maxRecDepth 100000 in
theorem impl_inv.calls (k : Nat) (a0 : Int) (r : Int) (w : World) (h : impl_inv.f k a0 = some r) :
    Calls Try.prog 127 #[.int .i64 a0] w fun e w' => e = .returned (.int .i64 r) ∧ Drawn0 w w' := by
  have H : ((impl_pow.f k a0 254).bind fun t224 => (some t224)) = some r := h
  clear h
  obtain ⟨t224, A2, H⟩ := OB H
  try dsimp only at H
  replace A2 := AM A2
  obtain rfl := Option.some.inj H
  go_enter Try.func127, Try.ntmps127
  go_wp2_with (first | ((with_reducible refine gate_callee (f := 172) rfl ?_); refine gl_ (some 4) Try.func172 #[.int .i64 a0, .int .i64 254] ?_; (with_reducible refine (impl_pow.calls k a0 254 t224 _ A2.out).mono ?_); rintro e w' ⟨rfl, ⟨nd, rfl⟩⟩; refine ⟨_, rfl, ?_⟩))
  go_ret
  exact ⟨by first | rfl | (simp; done) | (simp [*]; done), by repeat (first | exact Drawn0.refl _ | apply Drawn0.step)⟩

/-! ### impl_size_int64_166: function 166 -/
def impl_size_int64_166.f (l0 : List Int) : Option (Int) := some (l0.length : Int)
set_option maxHeartbeats 8000000 in
set_option maxRecDepth 100000 in
theorem impl_size_int64_166.calls (A0 : Option Addr) (c0 : Nat) (l0 : List Int) (r : Int) (w : World) (hr0 : Kd.C (Kd.int .i64) w A0 l0.length l0) (hc0 : l0.length ≤ c0) (h : impl_size_int64_166.f l0 = some r) :
    Calls Try.prog 166 #[.slice A0 l0.length c0] w fun e w' => e = .returned (.int .i64 r) ∧ Drawn0 w w' := by
  have HR0 := AM hr0
  have HC0 := AM hc0
  clear hr0 hc0
  have H : (some (l0.length : Int)) = some r := h
  clear h
  obtain rfl := Option.some.inj H
  go_enter Try.func166, Try.ntmps166
  go_wp2
  go_ret
  exact ⟨by first | rfl | (simp; done) | (simp [*]; done), by repeat (first | exact Drawn0.refl _ | apply Drawn0.step)⟩

/-! ### impl_size_int64_173: function 173 -/
def impl_size_int64_173.f (l0 : List (List Int)) : Option (Int) := some (l0.length : Int)
set_option maxHeartbeats 8000000 in
set_option maxRecDepth 100000 in
theorem impl_size_int64_173.calls (A0 : Option Addr) (c0 : Nat) (l0 : List (List Int)) (r : Int) (w : World) (hr0 : Kd.C (Kd.slice 2 (Kd.int .i64)) w A0 l0.length l0) (hc0 : l0.length ≤ c0) (h : impl_size_int64_173.f l0 = some r) :
    Calls Try.prog 173 #[.slice A0 l0.length c0] w fun e w' => e = .returned (.int .i64 r) ∧ Drawn0 w w' := by
  have HR0 := AM hr0
  have HC0 := AM hc0
  clear hr0 hc0
  have H : (some (l0.length : Int)) = some r := h
  clear h
  obtain rfl := Option.some.inj H
  go_enter Try.func173, Try.ntmps173
  go_wp2
  go_ret
  exact ⟨by first | rfl | (simp; done) | (simp [*]; done), by repeat (first | exact Drawn0.refl _ | apply Drawn0.step)⟩

-- NOT PRINTED: function 199 (slices_Grow_int64_int64)

-- NOT PRINTED: function 174 (slices_Concat_int64_int64)

end Go.Proofs.Ytdbnajnelbebfaa.PFnWhole
