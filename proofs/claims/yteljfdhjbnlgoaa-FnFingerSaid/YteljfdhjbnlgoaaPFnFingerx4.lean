/- Functions of the law FnFinger: the print's, with walks of this session's own. No statement is proved here. -/
import Derived.WalkLawsBesides
import Derived.Test.YteljfdhjbnlgoaaReg
-- A program of this session wrote this text: a changed copy of the kit print, with given functions.
import Derived.Test.YteljfdhjbnlgoaaPFnFingerx0
import Derived.Test.YteljfdhjbnlgoaaPFnFingerx3
namespace Go.Proofs.Yteljfdhjbnlgoaa.PFnFinger
open Go.RowKit Go.Proofs.YteljfdhjbnlgoaaW.PrintWords Go.Proofs.YteljfdhjbnlgoaaW.PrintLast Go.Proofs.YteljfdhjbnlgoaaW.PrintMore Go.Proofs.Yteljfdhjbnlgoaa.Reg
attribute [local go_sem] max2_int min2_int max_two min_two max_three min_three max_four min_four   -- for this text's walks alone
set_option linter.unusedVariables false
set_option linter.unusedSimpArgs false

/-! ### impl_FingerRoll: function 19 -/
mutual
def impl_FingerRoll.j0 : Nat → Int → Int → Int → Bool → Option (Int)
  | 0, _, _, _, _ => none
  | k + 1, x0, x1, x2, x20 => if x20 = true then (some 0) else ((impl_more.f k 0 x1).bind fun t140 => (impl_FingerRoll.l0 k x0 x2 t140 0))
def impl_FingerRoll.l0 : Nat → Int → Int → Int → Int → Option (Int)
  | 0, _, _, _, _ => none
  | k + 1, x0, x2, x7, x23 => if x23 < 15 then ((impl_more.f k x7 0).bind fun t141 => (impl_FingerRoll.l0 k x0 x2 t141 (wrap64 (x23 + 1)))) else ((impl_more.f k (Go.bits .xor .i64 x0 x7) x2).bind fun t142 => (some t142))
end
def impl_FingerRoll.f (k : Nat) (a0 : Int) (a1 : Int) (a2 : Int) : Option (Int) := (impl_isFinger.f a0).bind fun t137 => (if t137 = true then ((impl_isByte.f a1).bind fun t138 => (if t138 = true then ((impl_isByte.f a2).bind fun t139 => (impl_FingerRoll.j0 k a0 a1 a2 (!t139))) else (impl_FingerRoll.j0 k a0 a1 a2 true))) else (impl_FingerRoll.j0 k a0 a1 a2 true))
theorem impl_FingerRoll.mono_l : ∀ k, (∀ y0 y1 y2 y3, LeO (impl_FingerRoll.j0 k y0 y1 y2 y3) (impl_FingerRoll.j0 (k + 1) y0 y1 y2 y3)) ∧ (∀ y0 y1 y2 y3, LeO (impl_FingerRoll.l0 k y0 y1 y2 y3) (impl_FingerRoll.l0 (k + 1) y0 y1 y2 y3))
  | 0 => ⟨fun _ _ _ _ r h => by simp [impl_FingerRoll.j0] at h, fun _ _ _ _ r h => by simp [impl_FingerRoll.l0] at h⟩
  | k + 1 => by
    obtain ⟨ih0, ih1⟩ := impl_FingerRoll.mono_l k
    refine ⟨?_, ?_⟩
    · intro y0 y1 y2 y3
      unfold impl_FingerRoll.j0
      repeat' first
      | (with_reducible exact ih0 _ _ _ _)
      | (with_reducible exact ih1 _ _ _ _)
      | (with_reducible exact impl_more.mono _ _ _)
      | (with_reducible exact LeO.refl _)
      | (with_reducible exact LeO.none _)
      | (with_reducible refine LeO.ite ?_ ?_)
      | (with_reducible refine LeO.bind ?_ (fun _ => ?_))
      | exact ih0 _ _ _ _
      | exact ih1 _ _ _ _
      | exact impl_more.mono _ _ _
      | exact LeO.none _
      | refine LeO.ite ?_ ?_
      | refine LeO.bind ?_ (fun _ => ?_)
    · intro y0 y1 y2 y3
      unfold impl_FingerRoll.l0
      repeat' first
      | (with_reducible exact ih0 _ _ _ _)
      | (with_reducible exact ih1 _ _ _ _)
      | (with_reducible exact impl_more.mono _ _ _)
      | (with_reducible exact LeO.refl _)
      | (with_reducible exact LeO.none _)
      | (with_reducible refine LeO.ite ?_ ?_)
      | (with_reducible refine LeO.bind ?_ (fun _ => ?_))
      | exact ih0 _ _ _ _
      | exact ih1 _ _ _ _
      | exact impl_more.mono _ _ _
      | exact LeO.none _
      | refine LeO.ite ?_ ?_
      | refine LeO.bind ?_ (fun _ => ?_)
theorem impl_FingerRoll.mono : ∀ a0 a1 a2 k, LeO (impl_FingerRoll.f k a0 a1 a2) (impl_FingerRoll.f (k + 1) a0 a1 a2) := by
  intro a0 a1 a2 k
  obtain ⟨ih0, ih1⟩ := impl_FingerRoll.mono_l k
  unfold impl_FingerRoll.f
  repeat' first
      | (with_reducible exact ih0 _ _ _ _)
      | (with_reducible exact ih1 _ _ _ _)
      | (with_reducible exact impl_more.mono _ _ _)
      | (with_reducible exact LeO.refl _)
      | (with_reducible exact LeO.none _)
      | (with_reducible refine LeO.ite ?_ ?_)
      | (with_reducible refine LeO.bind ?_ (fun _ => ?_))
      | exact ih0 _ _ _ _
      | exact ih1 _ _ _ _
      | exact impl_more.mono _ _ _
      | exact LeO.none _
      | refine LeO.ite ?_ ?_
      | refine LeO.bind ?_ (fun _ => ?_)
set_option maxHeartbeats 8000000 in
set_option maxRecDepth 100000 in
theorem impl_FingerRoll.calls (k : Nat) (a0 : Int) (a1 : Int) (a2 : Int) (r : Int) (w : World) (h : impl_FingerRoll.f k a0 a1 a2 = some r) :
    Calls Try.prog 19 #[.int .i64 a0, .int .i64 a1, .int .i64 a2] w fun e w' => e = .returned (.int .i64 r) ∧ Drawn0 w w' := by
  have H : ((impl_isFinger.f a0).bind fun t137 => (if t137 = true then ((impl_isByte.f a1).bind fun t138 => (if t138 = true then ((impl_isByte.f a2).bind fun t139 => (impl_FingerRoll.j0 k a0 a1 a2 (!t139))) else (impl_FingerRoll.j0 k a0 a1 a2 true))) else (impl_FingerRoll.j0 k a0 a1 a2 true))) = some r := h
  clear h
  have HC4 := Aside0.mk H
  clear H
  go_enter Try.func19, Try.ntmps19
  go_upto_region 1 with (fail)
  go_cut [20] (fun v20 wc => ∃ (kq : Nat) (x20_3 : Bool), v20 = .bool x20_3 ∧ Aside0 (impl_FingerRoll.j0 kq a0 a1 a2 x20_3 = some r) ∧ Aside0 (kq ≤ k) ∧ Drawn0 w wc)
  case first =>
    have H := HC4.out
    clear HC4
    replace H := Option.bind_eq_some_iff.mp H
    obtain ⟨t137, A50, H⟩ := H
    replace H : (if t137 = true then ((impl_isByte.f a1).bind fun t138 => (if t138 = true then ((impl_isByte.f a2).bind fun t139 => (impl_FingerRoll.j0 k a0 a1 a2 (!t139))) else (impl_FingerRoll.j0 k a0 a1 a2 true))) else (impl_FingerRoll.j0 k a0 a1 a2 true)) = some r := H
    have A5 := Aside0.mk A50
    clear A50
    by_cases c6 : t137 = true
    · subst c6
      have H1 : ((impl_isByte.f a1).bind fun t138 => (if t138 = true then ((impl_isByte.f a2).bind fun t139 => (impl_FingerRoll.j0 k a0 a1 a2 (!t139))) else (impl_FingerRoll.j0 k a0 a1 a2 true))) = some r := by rw [if_pos rfl] at H; exact H
      clear H
      have H := H1
      clear H1
      replace H := Option.bind_eq_some_iff.mp H
      obtain ⟨t138, A70, H⟩ := H
      replace H : (if t138 = true then ((impl_isByte.f a2).bind fun t139 => (impl_FingerRoll.j0 k a0 a1 a2 (!t139))) else (impl_FingerRoll.j0 k a0 a1 a2 true)) = some r := H
      have A7 := Aside0.mk A70
      clear A70
      by_cases c8 : t138 = true
      · subst c8
        have H1 : ((impl_isByte.f a2).bind fun t139 => (impl_FingerRoll.j0 k a0 a1 a2 (!t139))) = some r := by rw [if_pos rfl] at H; exact H
        clear H
        have H := H1
        clear H1
        replace H := Option.bind_eq_some_iff.mp H
        obtain ⟨t139, A90, H⟩ := H
        replace H : (impl_FingerRoll.j0 k a0 a1 a2 (!t139)) = some r := H
        have A9 := Aside0.mk A90
        clear A90
        have H' := Aside0.mk H
        clear H
        go_wp2_with (first | ((with_reducible refine gate_callee (f := 81) rfl ?_); refine goesL_ (some 9) rfl rfl Try.func81 (by kernel_rfl) rfl #[.int .i64 a0] rfl (by (try simp only [List.map_toArray, List.map_cons, List.map_nil]); first | done | rfl | (simp only [List.length_drop, List.length_take]; rfl)) ?_; (with_reducible refine (impl_isFinger.calls a0 true _ A5.out).mono ?_); rintro e w' ⟨rfl, ⟨nd, rfl⟩⟩; refine ⟨_, rfl, ?_⟩) | (go_at_call 82; (with_reducible refine (impl_isByte.calls a1 true _ A7.out).mono ?_); rintro e w' ⟨rfl, ⟨nd, rfl⟩⟩) | (go_at_call 82; (with_reducible refine (impl_isByte.calls a2 t139 _ A9.out).mono ?_); rintro e w' ⟨rfl, ⟨nd, rfl⟩⟩))
        go_meet
        case rel => exact ⟨_, (!t139), (by first | rfl | (simp; done) | (simp [*]; done)), H', ⟨by first | omega | exact Nat.le_refl _⟩, by repeat (first | exact Drawn0.refl _ | apply Drawn0.step)⟩
      · replace c8 := Bool.eq_false_iff.mpr c8
        subst c8
        have H1 : (impl_FingerRoll.j0 k a0 a1 a2 true) = some r := by rw [if_neg (show ¬ (false = true) by decide)] at H; exact H
        clear H
        have H := H1
        clear H1
        have H' := Aside0.mk H
        clear H
        go_wp2_with (first | ((with_reducible refine gate_callee (f := 81) rfl ?_); refine goesL_ (some 9) rfl rfl Try.func81 (by kernel_rfl) rfl #[.int .i64 a0] rfl (by (try simp only [List.map_toArray, List.map_cons, List.map_nil]); first | done | rfl | (simp only [List.length_drop, List.length_take]; rfl)) ?_; (with_reducible refine (impl_isFinger.calls a0 true _ A5.out).mono ?_); rintro e w' ⟨rfl, ⟨nd, rfl⟩⟩; refine ⟨_, rfl, ?_⟩) | (go_at_call 82; (with_reducible refine (impl_isByte.calls a1 false _ A7.out).mono ?_); rintro e w' ⟨rfl, ⟨nd, rfl⟩⟩))
        go_meet
        case rel => exact ⟨_, (true), (by first | rfl | (simp; done) | (simp [*]; done)), H', ⟨by first | omega | exact Nat.le_refl _⟩, by repeat (first | exact Drawn0.refl _ | apply Drawn0.step)⟩
    · replace c6 := Bool.eq_false_iff.mpr c6
      subst c6
      have H1 : (impl_FingerRoll.j0 k a0 a1 a2 true) = some r := by rw [if_neg (show ¬ (false = true) by decide)] at H; exact H
      clear H
      have H := H1
      clear H1
      have H' := Aside0.mk H
      clear H
      go_wp2_with (first | ((with_reducible refine gate_callee (f := 81) rfl ?_); refine goesL_ (some 9) rfl rfl Try.func81 (by kernel_rfl) rfl #[.int .i64 a0] rfl (by (try simp only [List.map_toArray, List.map_cons, List.map_nil]); first | done | rfl | (simp only [List.length_drop, List.length_take]; rfl)) ?_; (with_reducible refine (impl_isFinger.calls a0 false _ A5.out).mono ?_); rintro e w' ⟨rfl, ⟨nd, rfl⟩⟩; refine ⟨_, rfl, ?_⟩))
      go_meet
      case rel => exact ⟨_, (true), (by first | rfl | (simp; done) | (simp [*]; done)), H', ⟨by first | omega | exact Nat.le_refl _⟩, by repeat (first | exact Drawn0.refl _ | apply Drawn0.step)⟩
  case rest =>
    clear HC4
    try clear c1
    try clear p2
    try clear c6
    try clear c8
    obtain ⟨kq, x20_3, rfl, HA, HJ3, ⟨mc3, rfl⟩⟩ := hcut
    cases kq with
    | zero => exact absurd HA.out (by simp [impl_FingerRoll.j0])
    | succ kj3 =>
      have H := HA.out
      clear HA
      simp only [impl_FingerRoll.j0] at H
      by_cases c10 : x20_3 = true
      · subst c10
        have H1 : (some 0) = some r := by rw [if_pos rfl] at H; exact H
        clear H
        have H := H1
        clear H1
        obtain rfl := Option.some.inj H
        go_wp2
        go_ret
        exact ⟨by first | rfl | (simp; done) | (simp [*]; done), by repeat (first | exact Drawn0.refl _ | apply Drawn0.step)⟩
      · replace c10 := Bool.eq_false_iff.mpr c10
        subst c10
        have H1 : ((impl_more.f kj3 0 a1).bind fun t140 => (impl_FingerRoll.l0 kj3 a0 a2 t140 0)) = some r := by rw [if_neg (show ¬ (false = true) by decide)] at H; exact H
        clear H
        have H := H1
        clear H1
        replace H := Option.bind_eq_some_iff.mp H
        obtain ⟨t140, A110, H⟩ := H
        replace H : (impl_FingerRoll.l0 kj3 a0 a2 t140 0) = some r := H
        have A11 := Aside0.mk A110
        clear A110
        have H' := Aside0.mk H
        clear H
        go_wp2_with (first | ((with_reducible refine gate_callee (f := 83) rfl ?_); refine goesL_ (some 22) rfl rfl Try.func83 (by kernel_rfl) rfl #[.int .i64 0, .int .i64 a1] rfl (by (try simp only [List.map_toArray, List.map_cons, List.map_nil]); first | done | rfl | (simp only [List.length_drop, List.length_take]; rfl)) ?_; (with_reducible refine (impl_more.calls kj3 0 a1 t140 _ A11.out).mono ?_); rintro e w' ⟨rfl, ⟨nd, rfl⟩⟩; refine ⟨_, rfl, ?_⟩))
        go_loopg [7, 23] kj3 (fun kq v7 v23 w' => ∃ (x7_2 : Int) (x23_2 : Int), v7 = .int .i64 x7_2 ∧ v23 = .int .i64 x23_2 ∧ Aside0 (impl_FingerRoll.l0 kq a0 a2 x7_2 x23_2 = some r) ∧ Aside0 (kq ≤ kj3) ∧ Drawn0 w w')
        case atStart => exact ⟨(t140), (0), (by first | rfl | (simp; done) | (simp [*]; done)), (by first | rfl | (simp; done) | (simp [*]; done)), H', ⟨Nat.le_refl _⟩, by repeat (first | exact Drawn0.refl _ | apply Drawn0.step)⟩
        case round =>
          clear H'
          try clear c1
          try clear p2
          try clear c3
          try clear c6
          try clear c8
          try clear c10
          try clear p2
          obtain ⟨x7_2, x23_2, rfl, rfl, HA, HK2, ⟨m2, rfl⟩⟩ := hrel
          cases gk with
          | zero => exact absurd HA.out (by simp [impl_FingerRoll.l0])
          | succ k2 =>
            have H := HA.out
            clear HA
            simp only [impl_FingerRoll.l0] at H
            by_cases c12 : x23_2 < 15
            · rw [if_pos c12] at H
              have c12b0 : decide (x23_2 < 15) = true := decide_eq_true c12
              clear c12
              replace H := Option.bind_eq_some_iff.mp H
              obtain ⟨t141, A130, H⟩ := H
              replace H : (impl_FingerRoll.l0 k2 a0 a2 t141 (wrap64 (x23_2 + 1))) = some r := H
              have A13 := Aside0.mk A130
              clear A130
              have H' := Aside0.mk H
              clear H
              go_wp2_with (first | ((with_reducible refine gate_callee (f := 83) rfl ?_); refine goesL_ (some 26) rfl rfl Try.func83 (by kernel_rfl) rfl #[.int .i64 x7_2, .int .i64 0] rfl (by (try simp only [List.map_toArray, List.map_cons, List.map_nil]); first | done | rfl | (simp only [List.length_drop, List.length_take]; rfl)) ?_; (with_reducible refine (impl_more.calls k2 x7_2 0 t141 _ A13.out).mono ?_); rintro e w' ⟨rfl, ⟨nd, rfl⟩⟩; refine ⟨_, rfl, ?_⟩))
              go_roundg k2
              case measure => have := HJ3.out; have := HK2.out; omega
              case rel => exact ⟨(t141), (wrap64 (x23_2 + 1)), (by first | rfl | (simp; done) | (simp [*]; done)), (by first | rfl | (simp; done) | (simp [*]; done)), H', ⟨by have := HJ3.out; have := HK2.out; omega⟩, by repeat (first | exact Drawn0.refl _ | apply Drawn0.step)⟩
            · rw [if_neg c12] at H
              have c12b0 : decide (x23_2 < 15) = false := decide_eq_false c12
              clear c12
              replace H := Option.bind_eq_some_iff.mp H
              obtain ⟨t142, A140, H⟩ := H
              replace H : (some t142) = some r := H
              have A14 := Aside0.mk A140
              clear A140
              obtain rfl := Option.some.inj H
              go_wp2_with (first | ((with_reducible refine gate_callee (f := 83) rfl ?_); refine goesL_ (some 32) rfl rfl Try.func83 (by kernel_rfl) rfl #[.int .i64 (Go.bits .xor .i64 a0 x7_2), .int .i64 a2] rfl (by (try simp only [List.map_toArray, List.map_cons, List.map_nil]); first | done | rfl | (simp only [List.length_drop, List.length_take]; rfl)) ?_; (with_reducible refine (impl_more.calls k2 (Go.bits .xor .i64 a0 x7_2) a2 t142 _ A14.out).mono ?_); rintro e w' ⟨rfl, ⟨nd, rfl⟩⟩; refine ⟨_, rfl, ?_⟩))
              go_ret
              exact ⟨by first | rfl | (simp; done) | (simp [*]; done), by repeat (first | exact Drawn0.refl _ | apply Drawn0.step)⟩

/-! ### laws_FnFinger: function 3 -/
mutual
def laws_FnFinger.j0 : Nat → ByteArray → Bool → Option (Bool)
  | 0, _, _ => none
  | k + 1, x3, x26 => if x26 = true then (some false) else (laws_FnFinger.l0 k x3 0 0)
def laws_FnFinger.l0 : Nat → ByteArray → Int → Int → Option (Bool)
  | 0, _, _, _ => none
  | k + 1, x3, x5, x6 => if x6 < (x3.size : Int) then (laws_FnFinger.j2 k x3 x5 x6 (decide (x6 < 100))) else (laws_FnFinger.j2 k x3 x5 x6 false)
def laws_FnFinger.j2 : Nat → ByteArray → Int → Int → Bool → Option (Bool)
  | 0, _, _, _, _ => none
  | k + 1, x3, x5, x6, x34 => if x34 = true then (if x6 < 16 then (if 0 ≤ x6 then (if x6 < (x3.size : Int) then ((impl_FingerMore.f k x5 (wrap64 (bt x3 x6))).bind fun t146 => (laws_FnFinger.j3 k x3 t146 x6)) else (none)) else (none)) else (if 0 ≤ (wrap64 (x6 - 16)) then (if (wrap64 (x6 - 16)) < (x3.size : Int) then (if 0 ≤ x6 then (if x6 < (x3.size : Int) then ((impl_FingerRoll.f k x5 (wrap64 (bt x3 (wrap64 (x6 - 16)))) (wrap64 (bt x3 x6))).bind fun t147 => (laws_FnFinger.j3 k x3 t147 x6)) else (none)) else (none)) else (none)) else (none))) else (some true)
def laws_FnFinger.j3 : Nat → ByteArray → Int → Int → Option (Bool)
  | 0, _, _, _ => none
  | k + 1, x3, x5, x6 => if (wrap64 ((wrap64 (x6 + 1)) - 16)) < 0 then (if 0 ≤ (wrap64 (x6 + 1)) then (if (wrap64 (x6 + 1)) ≤ (x3.size : Int) then ((impl_Finger.f k (x3.extract 0 ((wrap64 (x6 + 1)) : Int).toNat)).bind fun t148 => (if x5 = t148 then (laws_FnFinger.l0 k x3 x5 (wrap64 (x6 + 1))) else (some false))) else (none)) else (none)) else (if 0 ≤ (wrap64 ((wrap64 (x6 + 1)) - 16)) then (if (wrap64 ((wrap64 (x6 + 1)) - 16)) ≤ (wrap64 (x6 + 1)) then (if (wrap64 (x6 + 1)) ≤ (x3.size : Int) then ((impl_Finger.f k (x3.extract ((wrap64 ((wrap64 (x6 + 1)) - 16)) : Int).toNat ((wrap64 (x6 + 1)) : Int).toNat)).bind fun t149 => (if x5 = t149 then (laws_FnFinger.l0 k x3 x5 (wrap64 (x6 + 1))) else (some false))) else (none)) else (none)) else (none))
end
def laws_FnFinger.f (k : Nat) (l0 : List Int) : Option (Bool) := if (l0.length : Int) > 1048576 then (some true) else ((spec_DrawFinger.f k l0).bind fun t143 => ((impl_Finger.f k t143).bind fun t144 => ((spec_Finger.f k t143).bind fun t145 => (if t144 = t145 then (if t144 < 0 then (laws_FnFinger.j0 k t143 true) else (laws_FnFinger.j0 k t143 (decide (t144 ≥ 2147483648)))) else (laws_FnFinger.j0 k t143 true)))))
theorem laws_FnFinger.mono_l : ∀ k, (∀ y0 y1, LeO (laws_FnFinger.j0 k y0 y1) (laws_FnFinger.j0 (k + 1) y0 y1)) ∧ (∀ y0 y1 y2, LeO (laws_FnFinger.l0 k y0 y1 y2) (laws_FnFinger.l0 (k + 1) y0 y1 y2)) ∧ (∀ y0 y1 y2 y3, LeO (laws_FnFinger.j2 k y0 y1 y2 y3) (laws_FnFinger.j2 (k + 1) y0 y1 y2 y3)) ∧ (∀ y0 y1 y2, LeO (laws_FnFinger.j3 k y0 y1 y2) (laws_FnFinger.j3 (k + 1) y0 y1 y2))
  | 0 => ⟨fun _ _ r h => by simp [laws_FnFinger.j0] at h, fun _ _ _ r h => by simp [laws_FnFinger.l0] at h, fun _ _ _ _ r h => by simp [laws_FnFinger.j2] at h, fun _ _ _ r h => by simp [laws_FnFinger.j3] at h⟩
  | k + 1 => by
    obtain ⟨ih0, ih1, ih2, ih3⟩ := laws_FnFinger.mono_l k
    refine ⟨?_, ?_, ?_, ?_⟩
    · intro y0 y1
      unfold laws_FnFinger.j0
      repeat' first
      | (with_reducible exact ih0 _ _)
      | (with_reducible exact ih1 _ _ _)
      | (with_reducible exact ih2 _ _ _ _)
      | (with_reducible exact ih3 _ _ _)
      | (with_reducible exact impl_Finger.mono _ _)
      | (with_reducible exact impl_FingerMore.mono _ _ _)
      | (with_reducible exact impl_FingerRoll.mono _ _ _ _)
      | (with_reducible exact spec_DrawFinger.mono _ _)
      | (with_reducible exact spec_Finger.mono _ _)
      | (with_reducible exact LeO.refl _)
      | (with_reducible exact LeO.none _)
      | (with_reducible refine LeO.ite ?_ ?_)
      | (with_reducible refine LeO.bind ?_ (fun _ => ?_))
      | exact ih0 _ _
      | exact ih1 _ _ _
      | exact ih2 _ _ _ _
      | exact ih3 _ _ _
      | exact impl_Finger.mono _ _
      | exact impl_FingerMore.mono _ _ _
      | exact impl_FingerRoll.mono _ _ _ _
      | exact spec_DrawFinger.mono _ _
      | exact spec_Finger.mono _ _
      | exact LeO.none _
      | refine LeO.ite ?_ ?_
      | refine LeO.bind ?_ (fun _ => ?_)
    · intro y0 y1 y2
      unfold laws_FnFinger.l0
      repeat' first
      | (with_reducible exact ih0 _ _)
      | (with_reducible exact ih1 _ _ _)
      | (with_reducible exact ih2 _ _ _ _)
      | (with_reducible exact ih3 _ _ _)
      | (with_reducible exact impl_Finger.mono _ _)
      | (with_reducible exact impl_FingerMore.mono _ _ _)
      | (with_reducible exact impl_FingerRoll.mono _ _ _ _)
      | (with_reducible exact spec_DrawFinger.mono _ _)
      | (with_reducible exact spec_Finger.mono _ _)
      | (with_reducible exact LeO.refl _)
      | (with_reducible exact LeO.none _)
      | (with_reducible refine LeO.ite ?_ ?_)
      | (with_reducible refine LeO.bind ?_ (fun _ => ?_))
      | exact ih0 _ _
      | exact ih1 _ _ _
      | exact ih2 _ _ _ _
      | exact ih3 _ _ _
      | exact impl_Finger.mono _ _
      | exact impl_FingerMore.mono _ _ _
      | exact impl_FingerRoll.mono _ _ _ _
      | exact spec_DrawFinger.mono _ _
      | exact spec_Finger.mono _ _
      | exact LeO.none _
      | refine LeO.ite ?_ ?_
      | refine LeO.bind ?_ (fun _ => ?_)
    · intro y0 y1 y2 y3
      unfold laws_FnFinger.j2
      repeat' first
      | (with_reducible exact ih0 _ _)
      | (with_reducible exact ih1 _ _ _)
      | (with_reducible exact ih2 _ _ _ _)
      | (with_reducible exact ih3 _ _ _)
      | (with_reducible exact impl_Finger.mono _ _)
      | (with_reducible exact impl_FingerMore.mono _ _ _)
      | (with_reducible exact impl_FingerRoll.mono _ _ _ _)
      | (with_reducible exact spec_DrawFinger.mono _ _)
      | (with_reducible exact spec_Finger.mono _ _)
      | (with_reducible exact LeO.refl _)
      | (with_reducible exact LeO.none _)
      | (with_reducible refine LeO.ite ?_ ?_)
      | (with_reducible refine LeO.bind ?_ (fun _ => ?_))
      | exact ih0 _ _
      | exact ih1 _ _ _
      | exact ih2 _ _ _ _
      | exact ih3 _ _ _
      | exact impl_Finger.mono _ _
      | exact impl_FingerMore.mono _ _ _
      | exact impl_FingerRoll.mono _ _ _ _
      | exact spec_DrawFinger.mono _ _
      | exact spec_Finger.mono _ _
      | exact LeO.none _
      | refine LeO.ite ?_ ?_
      | refine LeO.bind ?_ (fun _ => ?_)
    · intro y0 y1 y2
      unfold laws_FnFinger.j3
      repeat' first
      | (with_reducible exact ih0 _ _)
      | (with_reducible exact ih1 _ _ _)
      | (with_reducible exact ih2 _ _ _ _)
      | (with_reducible exact ih3 _ _ _)
      | (with_reducible exact impl_Finger.mono _ _)
      | (with_reducible exact impl_FingerMore.mono _ _ _)
      | (with_reducible exact impl_FingerRoll.mono _ _ _ _)
      | (with_reducible exact spec_DrawFinger.mono _ _)
      | (with_reducible exact spec_Finger.mono _ _)
      | (with_reducible exact LeO.refl _)
      | (with_reducible exact LeO.none _)
      | (with_reducible refine LeO.ite ?_ ?_)
      | (with_reducible refine LeO.bind ?_ (fun _ => ?_))
      | exact ih0 _ _
      | exact ih1 _ _ _
      | exact ih2 _ _ _ _
      | exact ih3 _ _ _
      | exact impl_Finger.mono _ _
      | exact impl_FingerMore.mono _ _ _
      | exact impl_FingerRoll.mono _ _ _ _
      | exact spec_DrawFinger.mono _ _
      | exact spec_Finger.mono _ _
      | exact LeO.none _
      | refine LeO.ite ?_ ?_
      | refine LeO.bind ?_ (fun _ => ?_)
theorem laws_FnFinger.mono : ∀ a0 k, LeO (laws_FnFinger.f k a0) (laws_FnFinger.f (k + 1) a0) := by
  intro a0 k
  obtain ⟨ih0, ih1, ih2, ih3⟩ := laws_FnFinger.mono_l k
  unfold laws_FnFinger.f
  repeat' first
      | (with_reducible exact ih0 _ _)
      | (with_reducible exact ih1 _ _ _)
      | (with_reducible exact ih2 _ _ _ _)
      | (with_reducible exact ih3 _ _ _)
      | (with_reducible exact impl_Finger.mono _ _)
      | (with_reducible exact impl_FingerMore.mono _ _ _)
      | (with_reducible exact impl_FingerRoll.mono _ _ _ _)
      | (with_reducible exact spec_DrawFinger.mono _ _)
      | (with_reducible exact spec_Finger.mono _ _)
      | (with_reducible exact LeO.refl _)
      | (with_reducible exact LeO.none _)
      | (with_reducible refine LeO.ite ?_ ?_)
      | (with_reducible refine LeO.bind ?_ (fun _ => ?_))
      | exact ih0 _ _
      | exact ih1 _ _ _
      | exact ih2 _ _ _ _
      | exact ih3 _ _ _
      | exact impl_Finger.mono _ _
      | exact impl_FingerMore.mono _ _ _
      | exact impl_FingerRoll.mono _ _ _ _
      | exact spec_DrawFinger.mono _ _
      | exact spec_Finger.mono _ _
      | exact LeO.none _
      | refine LeO.ite ?_ ?_
      | refine LeO.bind ?_ (fun _ => ?_)
set_option maxHeartbeats 8000000 in
set_option maxRecDepth 100000 in
theorem laws_FnFinger.calls (k : Nat) (A0 : Option Addr) (c0 : Nat) (l0 : List Int) (r : Bool) (w : World) (hr0 : Kd.C (Kd.int .u8) w A0 l0.length l0) (hc0 : l0.length ≤ c0) (h : laws_FnFinger.f k l0 = some r) :
    Calls Try.prog 3 #[.slice A0 l0.length c0] w fun e w' => e = .returned (.bool r) ∧ Below w.heap.size w w' := by
  have HR0 := Aside0.mk hr0
  have HC0 := Aside0.mk hc0
  clear hr0 hc0
  have HB := Aside0.mk (Below.refl w.heap.size w)
  have H : (if (l0.length : Int) > 1048576 then (some true) else ((spec_DrawFinger.f k l0).bind fun t143 => ((impl_Finger.f k t143).bind fun t144 => ((spec_Finger.f k t143).bind fun t145 => (if t144 = t145 then (if t144 < 0 then (laws_FnFinger.j0 k t143 true) else (laws_FnFinger.j0 k t143 (decide (t144 ≥ 2147483648)))) else (laws_FnFinger.j0 k t143 true)))))) = some r := h
  clear h
  by_cases c2 : (l0.length : Int) > 1048576
  · rw [if_pos c2] at H
    have c2b0 : decide (1048576 < (l0.length : Int)) = true := decide_eq_true c2
    have c2b1 : decide (1048576 < l0.length) = true := decide_eq_true (by omega)
    clear c2
    obtain rfl := Option.some.inj H
    go_enter Try.func3, Try.ntmps3
    go_wp2
    repeat (go_quiet (fail); try go_wp2)
    go_ret
    exact ⟨by first | rfl | (simp [errW_none, errW_some] <;> rfl) | (simp [*, errW_none, errW_some] <;> rfl), by repeat (first | (with_reducible first | exact HB.out | apply below_alloc | apply pw_below_drewN | apply below_drew1) | exact HB.out)⟩
  · rw [if_neg c2] at H
    have c2b0 : decide (1048576 < (l0.length : Int)) = false := decide_eq_false c2
    have c2b1 : decide (1048576 < l0.length) = false := decide_eq_false (by omega)
    clear c2
    replace H := Option.bind_eq_some_iff.mp H
    obtain ⟨t143, A30, H⟩ := H
    replace H : ((impl_Finger.f k t143).bind fun t144 => ((spec_Finger.f k t143).bind fun t145 => (if t144 = t145 then (if t144 < 0 then (laws_FnFinger.j0 k t143 true) else (laws_FnFinger.j0 k t143 (decide (t144 ≥ 2147483648)))) else (laws_FnFinger.j0 k t143 true)))) = some r := H
    have A3 := Aside0.mk A30
    clear A30
    replace H := Option.bind_eq_some_iff.mp H
    obtain ⟨t144, A40, H⟩ := H
    replace H : ((spec_Finger.f k t143).bind fun t145 => (if t144 = t145 then (if t144 < 0 then (laws_FnFinger.j0 k t143 true) else (laws_FnFinger.j0 k t143 (decide (t144 ≥ 2147483648)))) else (laws_FnFinger.j0 k t143 true))) = some r := H
    have A4 := Aside0.mk A40
    clear A40
    have HC5 := Aside0.mk H
    clear H
    go_enter Try.func3, Try.ntmps3
    go_upto_region 5 with (first | (go_at_call 15; (with_reducible refine (spec_DrawFinger.calls k _ _ l0 t143 _ ?side1 ?side2 A3.out).mono ?_); (case side1 => repeat (first | exact HR0.out | (with_reducible refine Kd.C_alloc ?_ _) | (with_reducible refine Kd.C_drewN ?_ _) | (with_reducible refine Kd.C_drew ?_))); (case side2 => exact HC0.out); rintro e w6 ⟨rfl, hb⟩; have n0_ := Aside0.mk (below_step (by repeat (first | (with_reducible first | exact HB.out | apply below_alloc | apply pw_below_drewN | apply below_drew1) | exact HB.out)) hb); clear HB; have HB := n0_; clear n0_; (try clear hb); (try clear hb2); (try clear hk); (try clear hi)) | (go_at_call 16; (with_reducible refine (impl_Finger.calls k t143 t144 _ A4.out).mono ?_); rintro e w' ⟨rfl, ⟨nd, rfl⟩⟩; (try first | exact ⟨rfl, _, World.drewN_drewN _ _ _⟩ | exact ⟨rfl, _, Eq.trans (World.drewN_drewN _ _ _) (congrArg (World.drewN _) (Nat.add_assoc _ _ _))⟩)))
    repeat (go_quiet (first | (go_at_call 15; (with_reducible refine (spec_DrawFinger.calls k _ _ l0 t143 _ ?side1 ?side2 A3.out).mono ?_); (case side1 => repeat (first | exact HR0.out | (with_reducible refine Kd.C_alloc ?_ _) | (with_reducible refine Kd.C_drewN ?_ _) | (with_reducible refine Kd.C_drew ?_))); (case side2 => exact HC0.out); rintro e w6 ⟨rfl, hb⟩; have n0_ := Aside0.mk (below_step (by repeat (first | (with_reducible first | exact HB.out | apply below_alloc | apply pw_below_drewN | apply below_drew1) | exact HB.out)) hb); clear HB; have HB := n0_; clear n0_; (try clear hb); (try clear hb2); (try clear hk); (try clear hi)) | (go_at_call 16; (with_reducible refine (impl_Finger.calls k t143 t144 _ A4.out).mono ?_); rintro e w' ⟨rfl, ⟨nd, rfl⟩⟩; (try first | exact ⟨rfl, _, World.drewN_drewN _ _ _⟩ | exact ⟨rfl, _, Eq.trans (World.drewN_drewN _ _ _) (congrArg (World.drewN _) (Nat.add_assoc _ _ _))⟩))); go_upto_region 5 with (first | (go_at_call 15; (with_reducible refine (spec_DrawFinger.calls k _ _ l0 t143 _ ?side1 ?side2 A3.out).mono ?_); (case side1 => repeat (first | exact HR0.out | (with_reducible refine Kd.C_alloc ?_ _) | (with_reducible refine Kd.C_drewN ?_ _) | (with_reducible refine Kd.C_drew ?_))); (case side2 => exact HC0.out); rintro e w6 ⟨rfl, hb⟩; have n0_ := Aside0.mk (below_step (by repeat (first | (with_reducible first | exact HB.out | apply below_alloc | apply pw_below_drewN | apply below_drew1) | exact HB.out)) hb); clear HB; have HB := n0_; clear n0_; (try clear hb); (try clear hb2); (try clear hk); (try clear hi)) | (go_at_call 16; (with_reducible refine (impl_Finger.calls k t143 t144 _ A4.out).mono ?_); rintro e w' ⟨rfl, ⟨nd, rfl⟩⟩; (try first | exact ⟨rfl, _, World.drewN_drewN _ _ _⟩ | exact ⟨rfl, _, Eq.trans (World.drewN_drewN _ _ _) (congrArg (World.drewN _) (Nat.add_assoc _ _ _))⟩))))
    (try simp only [Act.put, List.setIfInBounds_toArray, List.set_cons_zero, List.set_cons_succ])
    go_cut [26] (fun v26 wc => ∃ (kq : Nat) (x26_4 : Bool), v26 = .bool x26_4 ∧ Aside0 (laws_FnFinger.j0 kq t143 x26_4 = some r) ∧ Aside0 (kq ≤ k) ∧ Aside0 (Below w.heap.size w wc))
    case first =>
      have H := HC5.out
      clear HC5
      replace H := Option.bind_eq_some_iff.mp H
      obtain ⟨t145, A70, H⟩ := H
      replace H : (if t144 = t145 then (if t144 < 0 then (laws_FnFinger.j0 k t143 true) else (laws_FnFinger.j0 k t143 (decide (t144 ≥ 2147483648)))) else (laws_FnFinger.j0 k t143 true)) = some r := H
      have A7 := Aside0.mk A70
      clear A70
      by_cases c8 : t144 = t145
      · rw [if_pos c8] at H
        have c8b0 : (t144 == t145) = true := beq_iff_eq.mpr c8
        have c8b1 : (t144 != t145) = false := bne_eq_false_iff_eq.mpr c8
        clear c8
        (first | rw [c8b0] | (simp only [i64_w, i32_w]; rw [c8b0]) | skip)
        by_cases c9 : t144 < 0
        · rw [if_pos c9] at H
          have c9b0 : decide (t144 < 0) = true := decide_eq_true c9
          clear c9
          have H' := Aside0.mk H
          clear H
          go_wp2_with (first | (go_at_call 17; (with_reducible refine (spec_Finger.calls k t143 t145 _ A7.out).mono ?_); rintro e w' ⟨rfl, ⟨nd, rfl⟩⟩; (try first | exact ⟨rfl, _, World.drewN_drewN _ _ _⟩ | exact ⟨rfl, _, Eq.trans (World.drewN_drewN _ _ _) (congrArg (World.drewN _) (Nat.add_assoc _ _ _))⟩)))
          repeat (go_quiet (first | (go_at_call 17; (with_reducible refine (spec_Finger.calls k t143 t145 _ A7.out).mono ?_); rintro e w' ⟨rfl, ⟨nd, rfl⟩⟩; (try first | exact ⟨rfl, _, World.drewN_drewN _ _ _⟩ | exact ⟨rfl, _, Eq.trans (World.drewN_drewN _ _ _) (congrArg (World.drewN _) (Nat.add_assoc _ _ _))⟩))); try go_wp2_with (first | (go_at_call 17; (with_reducible refine (spec_Finger.calls k t143 t145 _ A7.out).mono ?_); rintro e w' ⟨rfl, ⟨nd, rfl⟩⟩; (try first | exact ⟨rfl, _, World.drewN_drewN _ _ _⟩ | exact ⟨rfl, _, Eq.trans (World.drewN_drewN _ _ _) (congrArg (World.drewN _) (Nat.add_assoc _ _ _))⟩))))
          go_meet
          case rel => exact ⟨_, (true), (by first | rfl | (simp; done) | (simp [*]; done)), H', ⟨by first | omega | exact Nat.le_refl _⟩, ⟨by repeat (first | (with_reducible first | exact HB.out | apply below_alloc | apply pw_below_drewN | apply below_drew1) | exact HB.out)⟩⟩
        · rw [if_neg c9] at H
          have c9b0 : decide (t144 < 0) = false := decide_eq_false c9
          clear c9
          have H' := Aside0.mk H
          clear H
          go_wp2_with (first | (go_at_call 17; (with_reducible refine (spec_Finger.calls k t143 t145 _ A7.out).mono ?_); rintro e w' ⟨rfl, ⟨nd, rfl⟩⟩; (try first | exact ⟨rfl, _, World.drewN_drewN _ _ _⟩ | exact ⟨rfl, _, Eq.trans (World.drewN_drewN _ _ _) (congrArg (World.drewN _) (Nat.add_assoc _ _ _))⟩)))
          repeat (go_quiet (first | (go_at_call 17; (with_reducible refine (spec_Finger.calls k t143 t145 _ A7.out).mono ?_); rintro e w' ⟨rfl, ⟨nd, rfl⟩⟩; (try first | exact ⟨rfl, _, World.drewN_drewN _ _ _⟩ | exact ⟨rfl, _, Eq.trans (World.drewN_drewN _ _ _) (congrArg (World.drewN _) (Nat.add_assoc _ _ _))⟩))); try go_wp2_with (first | (go_at_call 17; (with_reducible refine (spec_Finger.calls k t143 t145 _ A7.out).mono ?_); rintro e w' ⟨rfl, ⟨nd, rfl⟩⟩; (try first | exact ⟨rfl, _, World.drewN_drewN _ _ _⟩ | exact ⟨rfl, _, Eq.trans (World.drewN_drewN _ _ _) (congrArg (World.drewN _) (Nat.add_assoc _ _ _))⟩))))
          go_meet
          case rel => exact ⟨_, (decide (t144 ≥ 2147483648)), (by first | rfl | (simp; done) | (simp [*]; done)), H', ⟨by first | omega | exact Nat.le_refl _⟩, ⟨by repeat (first | (with_reducible first | exact HB.out | apply below_alloc | apply pw_below_drewN | apply below_drew1) | exact HB.out)⟩⟩
      · rw [if_neg c8] at H
        have c8b0 : (t144 == t145) = false := beq_eq_false_iff_ne.mpr c8
        have c8b1 : (t144 != t145) = true := bne_iff_ne.mpr c8
        (first | rw [c8b0] | (simp only [i64_w, i32_w]; rw [c8b0]) | skip)
        have H' := Aside0.mk H
        clear H
        go_wp2_with (first | (go_at_call 17; (with_reducible refine (spec_Finger.calls k t143 t145 _ A7.out).mono ?_); rintro e w' ⟨rfl, ⟨nd, rfl⟩⟩; (try first | exact ⟨rfl, _, World.drewN_drewN _ _ _⟩ | exact ⟨rfl, _, Eq.trans (World.drewN_drewN _ _ _) (congrArg (World.drewN _) (Nat.add_assoc _ _ _))⟩)))
        repeat (go_quiet (first | (go_at_call 17; (with_reducible refine (spec_Finger.calls k t143 t145 _ A7.out).mono ?_); rintro e w' ⟨rfl, ⟨nd, rfl⟩⟩; (try first | exact ⟨rfl, _, World.drewN_drewN _ _ _⟩ | exact ⟨rfl, _, Eq.trans (World.drewN_drewN _ _ _) (congrArg (World.drewN _) (Nat.add_assoc _ _ _))⟩))); try go_wp2_with (first | (go_at_call 17; (with_reducible refine (spec_Finger.calls k t143 t145 _ A7.out).mono ?_); rintro e w' ⟨rfl, ⟨nd, rfl⟩⟩; (try first | exact ⟨rfl, _, World.drewN_drewN _ _ _⟩ | exact ⟨rfl, _, Eq.trans (World.drewN_drewN _ _ _) (congrArg (World.drewN _) (Nat.add_assoc _ _ _))⟩))))
        go_meet
        case rel => exact ⟨_, (true), (by first | rfl | (simp; done) | (simp [*]; done)), H', ⟨by first | omega | exact Nat.le_refl _⟩, ⟨by repeat (first | (with_reducible first | exact HB.out | apply below_alloc | apply pw_below_drewN | apply below_drew1) | exact HB.out)⟩⟩
    case rest =>
      clear HC5
      try clear c2
      try clear c2b0
      try clear c2b1
      try clear p2
      try clear c3
      try clear c8
      try clear c8b0
      try clear c8b1
      try clear c9
      try clear c9b0
      obtain ⟨kq, x26_4, rfl, HA, HJ4, HB⟩ := hcut
      cases kq with
      | zero => exact absurd HA.out (by simp [laws_FnFinger.j0])
      | succ kj4 =>
        have H := HA.out
        clear HA
        simp only [laws_FnFinger.j0] at H
        by_cases c10 : x26_4 = true
        · subst c10
          have H1 : (some false) = some r := by rw [if_pos rfl] at H; exact H
          clear H
          have H := H1
          clear H1
          obtain rfl := Option.some.inj H
          go_wp2
          repeat (go_quiet (fail); try go_wp2)
          go_ret
          exact ⟨by first | rfl | (simp [errW_none, errW_some] <;> rfl) | (simp [*, errW_none, errW_some] <;> rfl), by repeat (first | (with_reducible first | exact HB.out | apply below_alloc | apply pw_below_drewN | apply below_drew1) | exact HB.out)⟩
        · replace c10 := Bool.eq_false_iff.mpr c10
          subst c10
          have H1 : (laws_FnFinger.l0 kj4 t143 0 0) = some r := by rw [if_neg (show ¬ (false = true) by decide)] at H; exact H
          clear H
          have H := H1
          clear H1
          have H' := Aside0.mk H
          clear H
          go_wp2
          repeat (go_quiet (fail); try go_wp2)
          go_loopg [5, 6] kj4 (fun kq v5 v6 w' => ∃ (x5_2 : Int) (x6_2 : Int), v5 = .int .i64 x5_2 ∧ v6 = .int .i64 x6_2 ∧ Aside0 (laws_FnFinger.l0 kq t143 x5_2 x6_2 = some r) ∧ Aside0 (kq ≤ kj4) ∧ Aside0 (Below w.heap.size w w'))
          case atStart => exact ⟨(0), (0), (by first | rfl | (simp; done) | (simp [*]; done)), (by first | rfl | (simp; done) | (simp [*]; done)), H', ⟨Nat.le_refl _⟩, ⟨by repeat (first | (with_reducible first | exact HB.out | apply below_alloc | apply pw_below_drewN | apply below_drew1) | exact HB.out)⟩⟩
          case round =>
            clear H'
            try clear c1
            try clear c2
            try clear c2b0
            try clear c2b1
            try clear p2
            try clear c3
            try clear c8
            try clear c8b0
            try clear c8b1
            try clear c9
            try clear c9b0
            try clear c10
            try clear p2
            obtain ⟨x5_2, x6_2, rfl, rfl, HA, HK2, HB⟩ := hrel
            cases gk with
            | zero => exact absurd HA.out (by simp [laws_FnFinger.l0])
            | succ k2 =>
              have H := HA.out
              clear HA
              simp only [laws_FnFinger.l0] at H
              have HC11 := Aside0.mk H
              clear H
              go_upto_region 9 with (fail)
              repeat (go_quiet (fail); go_upto_region 9 with (fail))
              go_cut [34] (fun v34 wc => ∃ (kq : Nat) (x34_10 : Bool), v34 = .bool x34_10 ∧ Aside0 (laws_FnFinger.j2 kq t143 x5_2 x6_2 x34_10 = some r) ∧ Aside0 (kq ≤ k2) ∧ Aside0 (Below w.heap.size w wc))
              case first =>
                have H := HC11.out
                clear HC11
                by_cases c12 : x6_2 < (t143.size : Int)
                · rw [if_pos c12] at H
                  have c12b0 : decide (x6_2 < (t143.size : Int)) = true := decide_eq_true c12
                  clear c12
                  (first | rw [c12b0] | (simp only [i64_w, i32_w]; rw [c12b0]) | skip)
                  have H' := Aside0.mk H
                  clear H
                  go_wp2
                  repeat (go_quiet (fail); try go_wp2)
                  go_meet
                  case rel => exact ⟨_, (decide (x6_2 < 100)), (by first | rfl | (simp; done) | (simp [*]; done)), H', ⟨by have := HJ4.out; have := HK2.out; first | omega | exact Nat.le_refl _⟩, ⟨by repeat (first | (with_reducible first | exact HB.out | apply below_alloc | apply pw_below_drewN | apply below_drew1) | exact HB.out)⟩⟩
                · rw [if_neg c12] at H
                  have c12b0 : decide (x6_2 < (t143.size : Int)) = false := decide_eq_false c12
                  clear c12
                  (first | rw [c12b0] | (simp only [i64_w, i32_w]; rw [c12b0]) | skip)
                  have H' := Aside0.mk H
                  clear H
                  go_wp2
                  repeat (go_quiet (fail); try go_wp2)
                  go_meet
                  case rel => exact ⟨_, (false), (by first | rfl | (simp; done) | (simp [*]; done)), H', ⟨by have := HJ4.out; have := HK2.out; first | omega | exact Nat.le_refl _⟩, ⟨by repeat (first | (with_reducible first | exact HB.out | apply below_alloc | apply pw_below_drewN | apply below_drew1) | exact HB.out)⟩⟩
              case rest =>
                clear HC11
                try clear c1
                try clear c2
                try clear c2b0
                try clear c2b1
                try clear p2
                try clear c3
                try clear c8
                try clear c8b0
                try clear c8b1
                try clear c9
                try clear c9b0
                try clear c10
                try clear c12
                try clear c12b0
                try clear p2
                obtain ⟨kq, x34_10, rfl, HA, HJ10, HB⟩ := hcut
                cases kq with
                | zero => exact absurd HA.out (by simp [laws_FnFinger.j2])
                | succ kj10 =>
                  have H := HA.out
                  clear HA
                  simp only [laws_FnFinger.j2] at H
                  by_cases c13 : x34_10 = true
                  · subst c13
                    have H1 : (if x6_2 < 16 then (if 0 ≤ x6_2 then (if x6_2 < (t143.size : Int) then ((impl_FingerMore.f kj10 x5_2 (wrap64 (bt t143 x6_2))).bind fun t146 => (laws_FnFinger.j3 kj10 t143 t146 x6_2)) else (none)) else (none)) else (if 0 ≤ (wrap64 (x6_2 - 16)) then (if (wrap64 (x6_2 - 16)) < (t143.size : Int) then (if 0 ≤ x6_2 then (if x6_2 < (t143.size : Int) then ((impl_FingerRoll.f kj10 x5_2 (wrap64 (bt t143 (wrap64 (x6_2 - 16)))) (wrap64 (bt t143 x6_2))).bind fun t147 => (laws_FnFinger.j3 kj10 t143 t147 x6_2)) else (none)) else (none)) else (none)) else (none))) = some r := by rw [if_pos rfl] at H; exact H
                    clear H
                    have H := H1
                    clear H1
                    have HC14 := Aside0.mk H
                    clear H
                    go_upto_if 38 with (fail)
                    repeat (go_quiet (fail); go_upto_if 38 with (fail))
                    go_cut [5] (fun v5 wc => ∃ (kq : Nat) (x5_13 : Int), v5 = .int .i64 x5_13 ∧ Aside0 (laws_FnFinger.j3 kq t143 x5_13 x6_2 = some r) ∧ Aside0 (kq ≤ kj10) ∧ Aside0 (Below w.heap.size w wc))
                    case first =>
                      have H := HC14.out
                      clear HC14
                      by_cases c15 : x6_2 < 16
                      · rw [if_pos c15] at H
                        have c15b0 : decide (x6_2 < 16) = true := decide_eq_true c15
                        clear c15
                        (first | rw [c15b0] | (simp only [i64_w, i32_w]; rw [c15b0]) | skip)
                        by_cases c16 : 0 ≤ x6_2
                        · rw [if_pos c16] at H
                          have c16b0 : decide (0 ≤ x6_2) = true := decide_eq_true c16
                          clear c16
                          by_cases c17 : x6_2 < (t143.size : Int)
                          · rw [if_pos c17] at H
                            have c17b0 : decide (x6_2 < (t143.size : Int)) = true := decide_eq_true c17
                            clear c17
                            replace H := Option.bind_eq_some_iff.mp H
                            obtain ⟨t146, A190, H⟩ := H
                            replace H : (laws_FnFinger.j3 kj10 t143 t146 x6_2) = some r := H
                            have A19 := Aside0.mk A190
                            clear A190
                            have H' := Aside0.mk H
                            clear H
                            have p18 : 0 ≤ (x6_2 : Int) := of_decide_eq_true (by first | (with_reducible assumption) | assumption)
                            have q18 : x6_2 < (t143.size : Int) := of_decide_eq_true (by first | (with_reducible assumption) | assumption)
                            have hx18 := bt_at t143 x6_2
                            replace p18 := eq_true p18
                            replace q18 := eq_true q18
                            go_wp2_with (first | (go_at_call 18; (with_reducible refine (impl_FingerMore.calls kj10 x5_2 (wrap64 (bt t143 x6_2)) t146 _ A19.out).mono ?_); rintro e w' ⟨rfl, ⟨nd, rfl⟩⟩; (try first | exact ⟨rfl, _, World.drewN_drewN _ _ _⟩ | exact ⟨rfl, _, Eq.trans (World.drewN_drewN _ _ _) (congrArg (World.drewN _) (Nat.add_assoc _ _ _))⟩)))
                            repeat (go_quiet (first | (go_at_call 18; (with_reducible refine (impl_FingerMore.calls kj10 x5_2 (wrap64 (bt t143 x6_2)) t146 _ A19.out).mono ?_); rintro e w' ⟨rfl, ⟨nd, rfl⟩⟩; (try first | exact ⟨rfl, _, World.drewN_drewN _ _ _⟩ | exact ⟨rfl, _, Eq.trans (World.drewN_drewN _ _ _) (congrArg (World.drewN _) (Nat.add_assoc _ _ _))⟩))); try go_wp2_with (first | (go_at_call 18; (with_reducible refine (impl_FingerMore.calls kj10 x5_2 (wrap64 (bt t143 x6_2)) t146 _ A19.out).mono ?_); rintro e w' ⟨rfl, ⟨nd, rfl⟩⟩; (try first | exact ⟨rfl, _, World.drewN_drewN _ _ _⟩ | exact ⟨rfl, _, Eq.trans (World.drewN_drewN _ _ _) (congrArg (World.drewN _) (Nat.add_assoc _ _ _))⟩))))
                            go_meet
                            case rel => exact ⟨_, (t146), (by first | rfl | (simp; done) | (simp [*]; done)), H', ⟨by have := HJ4.out; have := HK2.out; have := HJ10.out; first | omega | exact Nat.le_refl _⟩, ⟨by repeat (first | (with_reducible first | exact HB.out | apply below_alloc | apply pw_below_drewN | apply below_drew1) | exact HB.out)⟩⟩
                          · rw [if_neg c17] at H
                            exact absurd H (by simp)
                        · rw [if_neg c16] at H
                          exact absurd H (by simp)
                      · rw [if_neg c15] at H
                        have c15b0 : decide (x6_2 < 16) = false := decide_eq_false c15
                        clear c15
                        (first | rw [c15b0] | (simp only [i64_w, i32_w]; rw [c15b0]) | skip)
                        obtain ⟨ji20, hji20⟩ : ∃ j_ : Int, (wrap64 (x6_2 - 16)) = j_ := ⟨_, rfl⟩
                        replace H : (if 0 ≤ (ji20) then (if (ji20) < (t143.size : Int) then (if 0 ≤ x6_2 then (if x6_2 < (t143.size : Int) then ((impl_FingerRoll.f kj10 x5_2 (wrap64 (bt t143 (ji20))) (wrap64 (bt t143 x6_2))).bind fun t147 => (laws_FnFinger.j3 kj10 t143 t147 x6_2)) else (none)) else (none)) else (none)) else (none)) = some r := by first | (rw [hji20] at H; exact H) | (simp only [hji20] at H ⊢; exact H)
                        have hji20w : (IntKind.i64.wrap (x6_2 - 16)) = ji20 := (i64_w _).trans hji20
                        by_cases c21 : 0 ≤ (ji20)
                        · rw [if_pos c21] at H
                          have c21b0 : decide (0 ≤ (ji20)) = true := decide_eq_true c21
                          clear c21
                          by_cases c22 : (ji20) < (t143.size : Int)
                          · rw [if_pos c22] at H
                            have c22b0 : decide ((ji20) < (t143.size : Int)) = true := decide_eq_true c22
                            clear c22
                            by_cases c24 : 0 ≤ x6_2
                            · rw [if_pos c24] at H
                              have c24b0 : decide (0 ≤ x6_2) = true := decide_eq_true c24
                              clear c24
                              by_cases c25 : x6_2 < (t143.size : Int)
                              · rw [if_pos c25] at H
                                have c25b0 : decide (x6_2 < (t143.size : Int)) = true := decide_eq_true c25
                                clear c25
                                replace H := Option.bind_eq_some_iff.mp H
                                obtain ⟨t147, A270, H⟩ := H
                                replace H : (laws_FnFinger.j3 kj10 t143 t147 x6_2) = some r := H
                                have A27 := Aside0.mk A270
                                clear A270
                                have H' := Aside0.mk H
                                clear H
                                have p23 : 0 ≤ ((ji20) : Int) := of_decide_eq_true (by first | (with_reducible assumption) | assumption)
                                have q23 : (ji20) < (t143.size : Int) := of_decide_eq_true (by first | (with_reducible assumption) | assumption)
                                have hx23 := bt_at t143 (ji20)
                                replace p23 := eq_true p23
                                replace q23 := eq_true q23
                                have p26 : 0 ≤ (x6_2 : Int) := of_decide_eq_true (by first | (with_reducible assumption) | assumption)
                                have q26 : x6_2 < (t143.size : Int) := of_decide_eq_true (by first | (with_reducible assumption) | assumption)
                                have hx26 := bt_at t143 x6_2
                                replace p26 := eq_true p26
                                replace q26 := eq_true q26
                                go_wp2_with (first | (go_at_call 19; (with_reducible refine (impl_FingerRoll.calls kj10 x5_2 (wrap64 (bt t143 (ji20))) (wrap64 (bt t143 x6_2)) t147 _ A27.out).mono ?_); rintro e w' ⟨rfl, ⟨nd, rfl⟩⟩; (try first | exact ⟨rfl, _, World.drewN_drewN _ _ _⟩ | exact ⟨rfl, _, Eq.trans (World.drewN_drewN _ _ _) (congrArg (World.drewN _) (Nat.add_assoc _ _ _))⟩)))
                                repeat (go_quiet (first | (go_at_call 19; (with_reducible refine (impl_FingerRoll.calls kj10 x5_2 (wrap64 (bt t143 (ji20))) (wrap64 (bt t143 x6_2)) t147 _ A27.out).mono ?_); rintro e w' ⟨rfl, ⟨nd, rfl⟩⟩; (try first | exact ⟨rfl, _, World.drewN_drewN _ _ _⟩ | exact ⟨rfl, _, Eq.trans (World.drewN_drewN _ _ _) (congrArg (World.drewN _) (Nat.add_assoc _ _ _))⟩))); try go_wp2_with (first | (go_at_call 19; (with_reducible refine (impl_FingerRoll.calls kj10 x5_2 (wrap64 (bt t143 (ji20))) (wrap64 (bt t143 x6_2)) t147 _ A27.out).mono ?_); rintro e w' ⟨rfl, ⟨nd, rfl⟩⟩; (try first | exact ⟨rfl, _, World.drewN_drewN _ _ _⟩ | exact ⟨rfl, _, Eq.trans (World.drewN_drewN _ _ _) (congrArg (World.drewN _) (Nat.add_assoc _ _ _))⟩))))
                                go_meet
                                case rel => exact ⟨_, (t147), (by first | rfl | (simp; done) | (simp [*]; done)), H', ⟨by have := HJ4.out; have := HK2.out; have := HJ10.out; first | omega | exact Nat.le_refl _⟩, ⟨by repeat (first | (with_reducible first | exact HB.out | apply below_alloc | apply pw_below_drewN | apply below_drew1) | exact HB.out)⟩⟩
                              · rw [if_neg c25] at H
                                exact absurd H (by simp)
                            · rw [if_neg c24] at H
                              exact absurd H (by simp)
                          · rw [if_neg c22] at H
                            exact absurd H (by simp)
                        · rw [if_neg c21] at H
                          exact absurd H (by simp)
                    case rest =>
                      clear HC14
                      try clear c1
                      try clear p1
                      try clear q1
                      try clear hx1
                      try clear c2
                      try clear c2b0
                      try clear c2b1
                      try clear p2
                      try clear q2
                      try clear hx2
                      try clear c3
                      try clear p6
                      try clear c8
                      try clear c8b0
                      try clear c8b1
                      try clear c9
                      try clear c9b0
                      try clear c10
                      try clear c12
                      try clear c12b0
                      try clear c13
                      try clear c15
                      try clear c15b0
                      try clear c16
                      try clear c16b0
                      try clear c17
                      try clear c17b0
                      try clear p18
                      try clear q18
                      try clear hx18
                      try clear c21
                      try clear c21b0
                      try clear c22
                      try clear c22b0
                      try clear p23
                      try clear q23
                      try clear hx23
                      try clear c24
                      try clear c24b0
                      try clear c25
                      try clear c25b0
                      try clear p26
                      try clear q26
                      try clear hx26
                      try clear p18
                      try clear p2
                      try clear p23
                      try clear p26
                      try clear q18
                      try clear q23
                      try clear q26
                      obtain ⟨kq, x5_13, rfl, HA, HJ13, HB⟩ := hcut
                      cases kq with
                      | zero => exact absurd HA.out (by simp [laws_FnFinger.j3])
                      | succ kj13 =>
                        have H := HA.out
                        clear HA
                        simp only [laws_FnFinger.j3] at H
                        by_cases c28 : (wrap64 ((wrap64 (x6_2 + 1)) - 16)) < 0
                        · rw [if_pos c28] at H
                          have c28b0 : decide ((wrap64 ((wrap64 (x6_2 + 1)) - 16)) < 0) = true := decide_eq_true c28
                          try have c28b9 : (decide (((((x6_2 + 1)) - 16)) < 0)) = true := (by have hw0 : wrap64 (x6_2 + 1) = x6_2 + 1 := (by unfold wrap64; omega); have hw1 : wrap64 (((x6_2 + 1)) - 16) = ((x6_2 + 1)) - 16 := (by unfold wrap64; omega); have z_ := c28b0; simp only [hw0, hw1] at z_; exact z_)
                          clear c28
                          obtain ⟨ji29, hji29⟩ : ∃ j_ : Int, (wrap64 (x6_2 + 1)) = j_ := ⟨_, rfl⟩
                          replace H : (if 0 ≤ (ji29) then (if (ji29) ≤ (t143.size : Int) then ((impl_Finger.f kj13 (t143.extract 0 ((ji29) : Int).toNat)).bind fun t148 => (if x5_13 = t148 then (laws_FnFinger.l0 kj13 t143 x5_13 ji29) else (some false))) else (none)) else (none)) = some r := by first | (rw [hji29] at H; exact H) | (simp only [hji29] at H ⊢; exact H)
                          (try rw [hji29] at c28b0)
                          have hji29w : (IntKind.i64.wrap (x6_2 + 1)) = ji29 := (i64_w _).trans hji29
                          by_cases c30 : 0 ≤ (ji29)
                          · rw [if_pos c30] at H
                            have c30b0 := eq_true c30
                            have c30b1 : decide (0 ≤ (ji29)) = true := decide_eq_true c30
                            clear c30
                            by_cases c31 : (ji29) ≤ (t143.size : Int)
                            · rw [if_pos c31] at H
                              have c31b0 := eq_true c31
                              have c31b1 : decide ((ji29) ≤ (t143.size : Int)) = true := decide_eq_true c31
                              clear c31
                              replace H := Option.bind_eq_some_iff.mp H
                              obtain ⟨t148, A320, H⟩ := H
                              replace H : (if x5_13 = t148 then (laws_FnFinger.l0 kj13 t143 x5_13 ji29) else (some false)) = some r := H
                              have A32 := Aside0.mk A320
                              clear A320
                              by_cases c33 : x5_13 = t148
                              · rw [if_pos c33] at H
                                have c33b0 : (x5_13 == t148) = true := beq_iff_eq.mpr c33
                                have c33b1 : (x5_13 != t148) = false := bne_eq_false_iff_eq.mpr c33
                                clear c33
                                have H' := Aside0.mk H
                                clear H
                                go_wp2_with (first | (go_at_call 16; (with_reducible refine (impl_Finger.calls kj13 (t143.extract 0 ((ji29) : Int).toNat) t148 _ A32.out).mono ?_); rintro e w' ⟨rfl, ⟨nd, rfl⟩⟩; (try first | exact ⟨rfl, _, World.drewN_drewN _ _ _⟩ | exact ⟨rfl, _, Eq.trans (World.drewN_drewN _ _ _) (congrArg (World.drewN _) (Nat.add_assoc _ _ _))⟩)))
                                repeat (go_quiet (first | (go_at_call 16; (with_reducible refine (impl_Finger.calls kj13 (t143.extract 0 ((ji29) : Int).toNat) t148 _ A32.out).mono ?_); rintro e w' ⟨rfl, ⟨nd, rfl⟩⟩; (try first | exact ⟨rfl, _, World.drewN_drewN _ _ _⟩ | exact ⟨rfl, _, Eq.trans (World.drewN_drewN _ _ _) (congrArg (World.drewN _) (Nat.add_assoc _ _ _))⟩))); try go_wp2_with (first | (go_at_call 16; (with_reducible refine (impl_Finger.calls kj13 (t143.extract 0 ((ji29) : Int).toNat) t148 _ A32.out).mono ?_); rintro e w' ⟨rfl, ⟨nd, rfl⟩⟩; (try first | exact ⟨rfl, _, World.drewN_drewN _ _ _⟩ | exact ⟨rfl, _, Eq.trans (World.drewN_drewN _ _ _) (congrArg (World.drewN _) (Nat.add_assoc _ _ _))⟩))))
                                go_roundg kj13
                                case measure => have := HJ4.out; have := HK2.out; have := HJ10.out; have := HJ13.out; omega
                                case rel => exact ⟨(x5_13), (ji29), (by first | rfl | (simp; done) | (simp [*]; done)), (by first | rfl | (simp; done) | (simp only [← hji29] <;> (first | rfl | simp)) | (simp [*]; done)), H', ⟨by have := HJ4.out; have := HK2.out; have := HJ10.out; have := HJ13.out; omega⟩, ⟨by repeat (first | (with_reducible first | exact HB.out | apply below_alloc | apply pw_below_drewN | apply below_drew1) | exact HB.out)⟩⟩
                              · rw [if_neg c33] at H
                                have c33b0 : (x5_13 == t148) = false := beq_eq_false_iff_ne.mpr c33
                                have c33b1 : (x5_13 != t148) = true := bne_iff_ne.mpr c33
                                obtain rfl := Option.some.inj H
                                go_wp2_with (first | (go_at_call 16; (with_reducible refine (impl_Finger.calls kj13 (t143.extract 0 ((ji29) : Int).toNat) t148 _ A32.out).mono ?_); rintro e w' ⟨rfl, ⟨nd, rfl⟩⟩; (try first | exact ⟨rfl, _, World.drewN_drewN _ _ _⟩ | exact ⟨rfl, _, Eq.trans (World.drewN_drewN _ _ _) (congrArg (World.drewN _) (Nat.add_assoc _ _ _))⟩)))
                                repeat (go_quiet (first | (go_at_call 16; (with_reducible refine (impl_Finger.calls kj13 (t143.extract 0 ((ji29) : Int).toNat) t148 _ A32.out).mono ?_); rintro e w' ⟨rfl, ⟨nd, rfl⟩⟩; (try first | exact ⟨rfl, _, World.drewN_drewN _ _ _⟩ | exact ⟨rfl, _, Eq.trans (World.drewN_drewN _ _ _) (congrArg (World.drewN _) (Nat.add_assoc _ _ _))⟩))); try go_wp2_with (first | (go_at_call 16; (with_reducible refine (impl_Finger.calls kj13 (t143.extract 0 ((ji29) : Int).toNat) t148 _ A32.out).mono ?_); rintro e w' ⟨rfl, ⟨nd, rfl⟩⟩; (try first | exact ⟨rfl, _, World.drewN_drewN _ _ _⟩ | exact ⟨rfl, _, Eq.trans (World.drewN_drewN _ _ _) (congrArg (World.drewN _) (Nat.add_assoc _ _ _))⟩))))
                                go_ret
                                exact ⟨by first | rfl | (simp [errW_none, errW_some] <;> rfl) | (simp only [← hji29]; first | rfl | (simp [errW_none, errW_some] <;> rfl)) | (simp [*, errW_none, errW_some] <;> rfl), by repeat (first | (with_reducible first | exact HB.out | apply below_alloc | apply pw_below_drewN | apply below_drew1) | exact HB.out)⟩
                            · rw [if_neg c31] at H
                              exact absurd H (by simp)
                          · rw [if_neg c30] at H
                            exact absurd H (by simp)
                        · rw [if_neg c28] at H
                          have c28b0 : decide ((wrap64 ((wrap64 (x6_2 + 1)) - 16)) < 0) = false := decide_eq_false c28
                          try have c28b9 : (decide (((((x6_2 + 1)) - 16)) < 0)) = false := (by have hw0 : wrap64 (x6_2 + 1) = x6_2 + 1 := (by unfold wrap64; omega); have hw1 : wrap64 (((x6_2 + 1)) - 16) = ((x6_2 + 1)) - 16 := (by unfold wrap64; omega); have z_ := c28b0; simp only [hw0, hw1] at z_; exact z_)
                          clear c28
                          obtain ⟨ji34, hji34⟩ : ∃ j_ : Int, (wrap64 ((wrap64 (x6_2 + 1)) - 16)) = j_ := ⟨_, rfl⟩
                          replace H : (if 0 ≤ (ji34) then (if (ji34) ≤ (wrap64 (x6_2 + 1)) then (if (wrap64 (x6_2 + 1)) ≤ (t143.size : Int) then ((impl_Finger.f kj13 (t143.extract ((ji34) : Int).toNat ((wrap64 (x6_2 + 1)) : Int).toNat)).bind fun t149 => (if x5_13 = t149 then (laws_FnFinger.l0 kj13 t143 x5_13 (wrap64 (x6_2 + 1))) else (some false))) else (none)) else (none)) else (none)) = some r := by first | (rw [hji34] at H; exact H) | (simp only [hji34] at H ⊢; exact H)
                          (try rw [hji34] at c28b0)
                          have hji34w : (IntKind.i64.wrap ((wrap64 (x6_2 + 1)) - 16)) = ji34 := (i64_w _).trans hji34
                          by_cases c35 : 0 ≤ (ji34)
                          · rw [if_pos c35] at H
                            have c35b0 := eq_true c35
                            have c35b1 : decide (0 ≤ (ji34)) = true := decide_eq_true c35
                            clear c35
                            by_cases c36 : (ji34) ≤ (wrap64 (x6_2 + 1))
                            · rw [if_pos c36] at H
                              have c36b0 := eq_true c36
                              have c36b1 : decide ((ji34) ≤ (wrap64 (x6_2 + 1))) = true := decide_eq_true c36
                              by_cases c37 : (wrap64 (x6_2 + 1)) ≤ (t143.size : Int)
                              · rw [if_pos c37] at H
                                have c37b0 := eq_true c37
                                have c37b1 : decide ((wrap64 (x6_2 + 1)) ≤ (t143.size : Int)) = true := decide_eq_true c37
                                replace H := Option.bind_eq_some_iff.mp H
                                obtain ⟨t149, A380, H⟩ := H
                                replace H : (if x5_13 = t149 then (laws_FnFinger.l0 kj13 t143 x5_13 (wrap64 (x6_2 + 1))) else (some false)) = some r := H
                                have A38 := Aside0.mk A380
                                clear A380
                                by_cases c39 : x5_13 = t149
                                · rw [if_pos c39] at H
                                  have c39b0 : (x5_13 == t149) = true := beq_iff_eq.mpr c39
                                  have c39b1 : (x5_13 != t149) = false := bne_eq_false_iff_eq.mpr c39
                                  clear c39
                                  have H' := Aside0.mk H
                                  clear H
                                  go_wp2_with (first | (go_at_call 16; (with_reducible refine (impl_Finger.calls kj13 (t143.extract ((ji34) : Int).toNat ((wrap64 (x6_2 + 1)) : Int).toNat) t149 _ A38.out).mono ?_); rintro e w' ⟨rfl, ⟨nd, rfl⟩⟩; (try first | exact ⟨rfl, _, World.drewN_drewN _ _ _⟩ | exact ⟨rfl, _, Eq.trans (World.drewN_drewN _ _ _) (congrArg (World.drewN _) (Nat.add_assoc _ _ _))⟩)))
                                  repeat (go_quiet (first | (go_at_call 16; (with_reducible refine (impl_Finger.calls kj13 (t143.extract ((ji34) : Int).toNat ((wrap64 (x6_2 + 1)) : Int).toNat) t149 _ A38.out).mono ?_); rintro e w' ⟨rfl, ⟨nd, rfl⟩⟩; (try first | exact ⟨rfl, _, World.drewN_drewN _ _ _⟩ | exact ⟨rfl, _, Eq.trans (World.drewN_drewN _ _ _) (congrArg (World.drewN _) (Nat.add_assoc _ _ _))⟩))); try go_wp2_with (first | (go_at_call 16; (with_reducible refine (impl_Finger.calls kj13 (t143.extract ((ji34) : Int).toNat ((wrap64 (x6_2 + 1)) : Int).toNat) t149 _ A38.out).mono ?_); rintro e w' ⟨rfl, ⟨nd, rfl⟩⟩; (try first | exact ⟨rfl, _, World.drewN_drewN _ _ _⟩ | exact ⟨rfl, _, Eq.trans (World.drewN_drewN _ _ _) (congrArg (World.drewN _) (Nat.add_assoc _ _ _))⟩))))
                                  go_roundg kj13
                                  case measure => have := HJ4.out; have := HK2.out; have := HJ10.out; have := HJ13.out; omega
                                  case rel => exact ⟨(x5_13), (wrap64 (x6_2 + 1)), (by first | rfl | (simp; done) | (simp [*]; done)), (by first | rfl | (simp; done) | (simp [*]; done)), H', ⟨by have := HJ4.out; have := HK2.out; have := HJ10.out; have := HJ13.out; omega⟩, ⟨by repeat (first | (with_reducible first | exact HB.out | apply below_alloc | apply pw_below_drewN | apply below_drew1) | exact HB.out)⟩⟩
                                · rw [if_neg c39] at H
                                  have c39b0 : (x5_13 == t149) = false := beq_eq_false_iff_ne.mpr c39
                                  have c39b1 : (x5_13 != t149) = true := bne_iff_ne.mpr c39
                                  obtain rfl := Option.some.inj H
                                  go_wp2_with (first | (go_at_call 16; (with_reducible refine (impl_Finger.calls kj13 (t143.extract ((ji34) : Int).toNat ((wrap64 (x6_2 + 1)) : Int).toNat) t149 _ A38.out).mono ?_); rintro e w' ⟨rfl, ⟨nd, rfl⟩⟩; (try first | exact ⟨rfl, _, World.drewN_drewN _ _ _⟩ | exact ⟨rfl, _, Eq.trans (World.drewN_drewN _ _ _) (congrArg (World.drewN _) (Nat.add_assoc _ _ _))⟩)))
                                  repeat (go_quiet (first | (go_at_call 16; (with_reducible refine (impl_Finger.calls kj13 (t143.extract ((ji34) : Int).toNat ((wrap64 (x6_2 + 1)) : Int).toNat) t149 _ A38.out).mono ?_); rintro e w' ⟨rfl, ⟨nd, rfl⟩⟩; (try first | exact ⟨rfl, _, World.drewN_drewN _ _ _⟩ | exact ⟨rfl, _, Eq.trans (World.drewN_drewN _ _ _) (congrArg (World.drewN _) (Nat.add_assoc _ _ _))⟩))); try go_wp2_with (first | (go_at_call 16; (with_reducible refine (impl_Finger.calls kj13 (t143.extract ((ji34) : Int).toNat ((wrap64 (x6_2 + 1)) : Int).toNat) t149 _ A38.out).mono ?_); rintro e w' ⟨rfl, ⟨nd, rfl⟩⟩; (try first | exact ⟨rfl, _, World.drewN_drewN _ _ _⟩ | exact ⟨rfl, _, Eq.trans (World.drewN_drewN _ _ _) (congrArg (World.drewN _) (Nat.add_assoc _ _ _))⟩))))
                                  go_ret
                                  exact ⟨by first | rfl | (simp [errW_none, errW_some] <;> rfl) | (simp only [← hji34]; first | rfl | (simp [errW_none, errW_some] <;> rfl)) | (simp [*, errW_none, errW_some] <;> rfl), by repeat (first | (with_reducible first | exact HB.out | apply below_alloc | apply pw_below_drewN | apply below_drew1) | exact HB.out)⟩
                              · rw [if_neg c37] at H
                                exact absurd H (by simp)
                            · rw [if_neg c36] at H
                              exact absurd H (by simp)
                          · rw [if_neg c35] at H
                            exact absurd H (by simp)
                  · replace c13 := Bool.eq_false_iff.mpr c13
                    subst c13
                    have H1 : (some true) = some r := by rw [if_neg (show ¬ (false = true) by decide)] at H; exact H
                    clear H
                    have H := H1
                    clear H1
                    obtain rfl := Option.some.inj H
                    go_wp2
                    repeat (go_quiet (fail); try go_wp2)
                    go_ret
                    exact ⟨by first | rfl | (simp [errW_none, errW_some] <;> rfl) | (simp [*, errW_none, errW_some] <;> rfl), by repeat (first | (with_reducible first | exact HB.out | apply below_alloc | apply pw_below_drewN | apply below_drew1) | exact HB.out)⟩

/-- THE ONE PURE STATEMENT of laws_FnFinger: yours. -/
def laws_FnFinger.Pure : Prop := ∀ (l0 : List Int), l0.length ≤ maxLen → l0.length * 1 ≤ 140737488351232 → (∀ x ∈ l0, (Lit.int .u8 x).wf = true) → ∃ k, laws_FnFinger.f k l0 = some true
theorem laws_FnFinger.walk (P : laws_FnFinger.Pure) (a0 : Option Addr) (len0 cap0 : Nat) (z0 : List Int) (w : World) (w0 : (a0 = none ∧ len0 = 0 ∧ cap0 = 0 ∧ z0 = []) ∨ ∃ x, a0 = some x ∧ len0 ≤ cap0 ∧ cap0 ≤ maxLen ∧ z0.length = cap0 ∧ (∀ i, i < z0.length → w.cell? (x.add i) = some (.int .u8 (z0.getD i 0))) ∧ ∀ n ∈ z0, (Lit.int .u8 n).wf = true) (y0 : len0 * 1 ≤ 140737488351232) :
    Calls Try.prog 3 #[.slice a0 len0 cap0] w fun e w' => e = .returned (.bool true) ∧ Below w.heap.size w w' := by
  obtain ⟨l0, rfl, hr0, hm0, hw0, hc0⟩ := ReadsInt.ofRowC w0
  obtain ⟨k, h⟩ := P l0 hm0 y0 hw0
  refine (laws_FnFinger.calls k _ _ l0 true w (Kd.C_of_reads (d := (0 : Int)) (h1 := fun _ => rfl) hr0) hc0 h).mono ?_
  rintro e w' ⟨rfl, hd⟩
  exact ⟨rfl, hd⟩

end Go.Proofs.Yteljfdhjbnlgoaa.PFnFinger
