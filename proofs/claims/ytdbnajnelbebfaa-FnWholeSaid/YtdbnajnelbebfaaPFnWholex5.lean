/- Functions of the law FnWhole: the print's, with walks of this session's own. No statement is proved here. -/
import Derived.Carry
import Derived.Lib.BufferWrite
import Derived.WalkLawsBesides
import Derived.Test.YtdbnajnelbebfaaVRegFnWhole
-- A program of this session wrote this text: a changed copy of the kit print, with given functions.
import Derived.Test.YtdbnajnelbebfaaPFnWholex0
import Derived.Test.YtdbnajnelbebfaaPFnWholex3
import Derived.Test.YtdbnajnelbebfaaPFnWholex4
namespace Go.Proofs.Ytdbnajnelbebfaa.PFnWhole
open Go.RowKit Go.Proofs.YtdbnajnelbebfaaW.PrintWords Go.Proofs.YtdbnajnelbebfaaW.PrintLast Go.Proofs.YtdbnajnelbebfaaW.PrintMore Go.Proofs.Ytdbnajnelbebfaa.Reg Go.Proofs.Ytdbnajnelbebfaa.Aut
attribute [local go_sem] max2_int min2_int max_two min_two max_three min_three max_four min_four   -- for this text's walks alone
set_option linter.unusedVariables false
set_option linter.unusedSimpArgs false

/-! ### spec_l02Pow: function 171 -/
def spec_l02Pow.l0 : Nat → Int → Int → Int → Option (Int)
  | 0, _, _, _ => none
  | k + 1, x0, x1, x5 => if x1 > 0 then (if (Int.tmod x1 2) = 1 then ((spec_l02Mul.f k x5 x0).bind fun t185 => ((spec_l02Mul.f k x0 x0).bind fun t186 => (spec_l02Pow.l0 k t186 (wrap64 (Int.tdiv x1 2)) t185))) else ((spec_l02Mul.f k x0 x0).bind fun t187 => (spec_l02Pow.l0 k t187 (wrap64 (Int.tdiv x1 2)) x5))) else (some x5)
def spec_l02Pow.f (k : Nat) (a0 : Int) (a1 : Int) : Option (Int) := spec_l02Pow.l0 k a0 a1 1
theorem spec_l02Pow.mono_l : ∀ k, (∀ y0 y1 y2, LeO (spec_l02Pow.l0 k y0 y1 y2) (spec_l02Pow.l0 (k + 1) y0 y1 y2))
  | 0 => fun _ _ _ r h => by simp [spec_l02Pow.l0] at h
  | k + 1 => by
    have ih0 := spec_l02Pow.mono_l k
    · intro y0 y1 y2
      unfold spec_l02Pow.l0
      repeat' first
      | (with_reducible exact ih0 _ _ _)
      | (with_reducible exact spec_l02Mul.mono _ _ _)
      | (with_reducible exact LeO.refl _)
      | (with_reducible exact LeO.none _)
      | (with_reducible refine LeO.ite ?_ ?_)
      | (with_reducible refine LeO.bind ?_ (fun _ => ?_))
      | exact ih0 _ _ _
      | exact spec_l02Mul.mono _ _ _
      | exact LeO.none _
      | refine LeO.ite ?_ ?_
      | refine LeO.bind ?_ (fun _ => ?_)
theorem spec_l02Pow.mono : ∀ a0 a1 k, LeO (spec_l02Pow.f k a0 a1) (spec_l02Pow.f (k + 1) a0 a1) := by
  intro a0 a1 k
  have ih0 := spec_l02Pow.mono_l k
  unfold spec_l02Pow.f
  repeat' first
      | (with_reducible exact ih0 _ _ _)
      | (with_reducible exact spec_l02Mul.mono _ _ _)
      | (with_reducible exact LeO.refl _)
      | (with_reducible exact LeO.none _)
      | (with_reducible refine LeO.ite ?_ ?_)
      | (with_reducible refine LeO.bind ?_ (fun _ => ?_))
      | exact ih0 _ _ _
      | exact spec_l02Mul.mono _ _ _
      | exact LeO.none _
      | refine LeO.ite ?_ ?_
      | refine LeO.bind ?_ (fun _ => ?_)
set_option maxHeartbeats 8000000 in
set_option maxRecDepth 100000 in
theorem spec_l02Pow.calls (k : Nat) (a0 : Int) (a1 : Int) (r : Int) (w : World) (h : spec_l02Pow.f k a0 a1 = some r) :
    Calls Try.prog 171 #[.int .i64 a0, .int .i64 a1] w fun e w' => e = .returned (.int .i64 r) ∧ Drawn0 w w' := by
  have H : (spec_l02Pow.l0 k a0 a1 1) = some r := h
  clear h
  have H' := AM H
  clear H
  go_enter Try.func171, Try.ntmps171
  go_wp2
  go_loopg [0, 1, 5] k (fun kq v0 v1 v5 w' => ∃ (x0_1 : Int) (x1_1 : Int) (x5_1 : Int), v0 = .int .i64 x0_1 ∧ v1 = .int .i64 x1_1 ∧ v5 = .int .i64 x5_1 ∧ Aside0 (spec_l02Pow.l0 kq x0_1 x1_1 x5_1 = some r) ∧ Aside0 (kq ≤ k) ∧ Drawn0 w w')
  case atStart => exact ⟨(a0), (a1), (1), (by first | rfl | (simp; done) | (simp [*]; done)), (by first | rfl | (simp; done) | (simp [*]; done)), (by first | rfl | (simp; done) | (simp [*]; done)), H', ⟨Nat.le_refl _⟩, by repeat (first | exact Drawn0.refl _ | apply Drawn0.step)⟩
  case round =>
    clear H'
    try clear c1
    try clear p2
    obtain ⟨x0_1, x1_1, x5_1, rfl, rfl, rfl, HA, HK1, ⟨m1, rfl⟩⟩ := hrel
    cases gk with
    | zero => exact absurd HA.out (by simp [spec_l02Pow.l0])
    | succ k1 =>
      have H := HA.out
      clear HA
      simp only [spec_l02Pow.l0] at H
      by_cases c3 : x1_1 > 0
      · rw [if_pos c3] at H
        have c3b0 : decide (0 < x1_1) = true := decide_eq_true c3
        clear c3
        by_cases c4 : (Int.tmod x1_1 2) = 1
        · rw [if_pos c4] at H
          have c4b0 : ((Int.tmod x1_1 2) == 1) = true := beq_iff_eq.mpr c4
          have c4b1 : ((Int.tmod x1_1 2) != 1) = false := bne_eq_false_iff_eq.mpr c4
          clear c4
          obtain ⟨t185, A5, H⟩ := OB H
          try dsimp only at H
          replace A5 := AM A5
          obtain ⟨t186, A6, H⟩ := OB H
          try dsimp only at H
          replace A6 := AM A6
          have H' := AM H
          clear H
          go_wp2_with (first | ((with_reducible refine gate_callee (f := 119) rfl ?_); refine gl_ (some 15) Try.func119 #[.int .i64 x5_1, .int .i64 x0_1] ?_; (with_reducible refine (spec_l02Mul.calls k1 x5_1 x0_1 t185 _ A5.out).mono ?_); rintro e w' ⟨rfl, ⟨nd, rfl⟩⟩; refine ⟨_, rfl, ?_⟩) | ((with_reducible refine gate_callee (f := 119) rfl ?_); refine gl_ (some 18) Try.func119 #[.int .i64 x0_1, .int .i64 x0_1] ?_; (with_reducible refine (spec_l02Mul.calls k1 x0_1 x0_1 t186 _ A6.out).mono ?_); rintro e w' ⟨rfl, ⟨nd, rfl⟩⟩; refine ⟨_, rfl, ?_⟩))
          go_roundg k1
          case measure => have := HK1.out; omega
          case rel => exact ⟨(t186), (wrap64 (Int.tdiv x1_1 2)), (t185), (by first | rfl | (simp; done) | (simp [*]; done)), (by first | rfl | (simp; done) | (simp [*]; done)), (by first | rfl | (simp; done) | (simp [*]; done)), H', ⟨by have := HK1.out; omega⟩, by repeat (first | exact Drawn0.refl _ | apply Drawn0.step)⟩
        · rw [if_neg c4] at H
          have c4b0 : ((Int.tmod x1_1 2) == 1) = false := beq_eq_false_iff_ne.mpr c4
          have c4b1 : ((Int.tmod x1_1 2) != 1) = true := bne_iff_ne.mpr c4
          obtain ⟨t187, A7, H⟩ := OB H
          try dsimp only at H
          replace A7 := AM A7
          have H' := AM H
          clear H
          go_wp2_with (first | ((with_reducible refine gate_callee (f := 119) rfl ?_); refine gl_ (some 18) Try.func119 #[.int .i64 x0_1, .int .i64 x0_1] ?_; (with_reducible refine (spec_l02Mul.calls k1 x0_1 x0_1 t187 _ A7.out).mono ?_); rintro e w' ⟨rfl, ⟨nd, rfl⟩⟩; refine ⟨_, rfl, ?_⟩))
          go_roundg k1
          case measure => have := HK1.out; omega
          case rel => exact ⟨(t187), (wrap64 (Int.tdiv x1_1 2)), (x5_1), (by first | rfl | (simp; done) | (simp [*]; done)), (by first | rfl | (simp; done) | (simp [*]; done)), (by first | rfl | (simp; done) | (simp [*]; done)), H', ⟨by have := HK1.out; omega⟩, by repeat (first | exact Drawn0.refl _ | apply Drawn0.step)⟩
      · rw [if_neg c3] at H
        have c3b0 : decide (0 < x1_1) = false := decide_eq_false c3
        clear c3
        obtain rfl := Option.some.inj H
        go_wp2
        go_ret
        exact ⟨by first | rfl | (simp; done) | (simp [*]; done), by repeat (first | exact Drawn0.refl _ | apply Drawn0.step)⟩

/-! ### spec_FieldInv: function 122 -/
def spec_FieldInv.f (k : Nat) (a0 : Int) : Option (Int) := (spec_l02Byte.f a0).bind fun t188 => (if t188 = true then (if a0 = 0 then (some 0) else ((spec_l02Pow.f k a0 254).bind fun t189 => (some t189))) else (some 0))
theorem spec_FieldInv.mono : ∀ a0 k, LeO (spec_FieldInv.f k a0) (spec_FieldInv.f (k + 1) a0) := by
  intro a0 k
  unfold spec_FieldInv.f
  repeat' first
      | (with_reducible exact spec_l02Pow.mono _ _ _)
      | (with_reducible exact LeO.refl _)
      | (with_reducible exact LeO.none _)
      | (with_reducible refine LeO.ite ?_ ?_)
      | (with_reducible refine LeO.bind ?_ (fun _ => ?_))
      | exact spec_l02Pow.mono _ _ _
      | exact LeO.none _
      | refine LeO.ite ?_ ?_
      | refine LeO.bind ?_ (fun _ => ?_)
set_option maxHeartbeats 8000000 in
set_option maxRecDepth 100000 in
theorem spec_FieldInv.calls (k : Nat) (a0 : Int) (r : Int) (w : World) (h : spec_FieldInv.f k a0 = some r) :
    Calls Try.prog 122 #[.int .i64 a0] w fun e w' => e = .returned (.int .i64 r) ∧ Drawn0 w w' := by
  have H : ((spec_l02Byte.f a0).bind fun t188 => (if t188 = true then (if a0 = 0 then (some 0) else ((spec_l02Pow.f k a0 254).bind fun t189 => (some t189))) else (some 0))) = some r := h
  clear h
  obtain ⟨t188, A2, H⟩ := OB H
  try dsimp only at H
  replace A2 := AM A2
  by_cases c3 : t188 = true
  · subst c3
    rw [if_pos rfl] at H
    by_cases c4 : a0 = 0
    · rw [if_pos c4] at H
      have c4b0 : (a0 == 0) = true := beq_iff_eq.mpr c4
      have c4b1 : (a0 != 0) = false := bne_eq_false_iff_eq.mpr c4
      clear c4
      obtain rfl := Option.some.inj H
      go_enter Try.func122, Try.ntmps122
      go_wp2_with (first | ((with_reducible refine gate_callee (f := 170) rfl ?_); refine gl_ (some 4) Try.func170 #[.int .i64 a0] ?_; (with_reducible refine (spec_l02Byte.calls a0 true _ A2.out).mono ?_); rintro e w' ⟨rfl, ⟨nd, rfl⟩⟩; refine ⟨_, rfl, ?_⟩))
      go_ret
      exact ⟨by first | rfl | (simp; done) | (simp [*]; done), by repeat (first | exact Drawn0.refl _ | apply Drawn0.step)⟩
    · rw [if_neg c4] at H
      have c4b0 : (a0 == 0) = false := beq_eq_false_iff_ne.mpr c4
      have c4b1 : (a0 != 0) = true := bne_iff_ne.mpr c4
      obtain ⟨t189, A5, H⟩ := OB H
      try dsimp only at H
      replace A5 := AM A5
      obtain rfl := Option.some.inj H
      go_enter Try.func122, Try.ntmps122
      go_wp2_with (first | ((with_reducible refine gate_callee (f := 170) rfl ?_); refine gl_ (some 4) Try.func170 #[.int .i64 a0] ?_; (with_reducible refine (spec_l02Byte.calls a0 true _ A2.out).mono ?_); rintro e w' ⟨rfl, ⟨nd, rfl⟩⟩; refine ⟨_, rfl, ?_⟩) | ((with_reducible refine gate_callee (f := 171) rfl ?_); refine gl_ (some 11) Try.func171 #[.int .i64 a0, .int .i64 254] ?_; (with_reducible refine (spec_l02Pow.calls k a0 254 t189 _ A5.out).mono ?_); rintro e w' ⟨rfl, ⟨nd, rfl⟩⟩; refine ⟨_, rfl, ?_⟩))
      go_ret
      exact ⟨by first | rfl | (simp; done) | (simp [*]; done), by repeat (first | exact Drawn0.refl _ | apply Drawn0.step)⟩
  · replace c3 := Bool.eq_false_iff.mpr c3
    subst c3
    rw [if_neg (show ¬ (false = true) by decide)] at H
    obtain rfl := Option.some.inj H
    go_enter Try.func122, Try.ntmps122
    go_wp2_with (first | ((with_reducible refine gate_callee (f := 170) rfl ?_); refine gl_ (some 4) Try.func170 #[.int .i64 a0] ?_; (with_reducible refine (spec_l02Byte.calls a0 false _ A2.out).mono ?_); rintro e w' ⟨rfl, ⟨nd, rfl⟩⟩; refine ⟨_, rfl, ?_⟩))
    go_ret
    exact ⟨by first | rfl | (simp; done) | (simp [*]; done), by repeat (first | exact Drawn0.refl _ | apply Drawn0.step)⟩

/-! ### spec_Cauchy: function 54 -/
mutual
def spec_Cauchy.l0 : Nat → Int → Int → Int → Int → Int → List Int → Option (Int × Int × List Int × Int)
  | 0, _, _, _, _, _, _ => none
  | k + 1, x0, x1, x6, x204000, x204001, x204002 => if x6 < x1 then (spec_Cauchy.l1 k x0 x1 x6 0 x204000 x204001 x204002) else (some (x204000, x204001, x204002, 0))
def spec_Cauchy.l1 : Nat → Int → Int → Int → Int → Int → Int → List Int → Option (Int × Int × List Int × Int)
  | 0, _, _, _, _, _, _, _ => none
  | k + 1, x0, x1, x6, x7, x204000, x204001, x204002 => if x7 < x0 then ((spec_FieldInv.f k (Go.bits .xor .i64 (wrap64 (x0 + x6)) x7)).bind fun t204 => (if x204002.length < 17592186044416 then (spec_Cauchy.l1 k x0 x1 x6 (wrap64 (x7 + 1)) x204000 x204001 (x204002 ++ [t204])) else (none))) else (spec_Cauchy.l0 k x0 x1 (wrap64 (x6 + 1)) x204000 x204001 x204002)
end
def spec_Cauchy.f (k : Nat) (a0 : Int) (a1 : Int) : Option (Int × Int × List Int × Int) := (spec_CodeRight.f a0 a1).bind fun t191 => (if t191 = true then ((spec_l03Unit.f k a0).bind fun bt198 => (spec_Cauchy.l0 k a0 a1 0 (wrap64 (a0 + a1)) bt198.2.1 bt198.2.2)) else ((spec_l03Ill.f 1).bind fun bt192 => (some (bt192.1, bt192.2.1, bt192.2.2.1, bt192.2.2.2))))
theorem spec_Cauchy.mono_l : ∀ k, (∀ y0 y1 y2 y3 y4 y5, LeO (spec_Cauchy.l0 k y0 y1 y2 y3 y4 y5) (spec_Cauchy.l0 (k + 1) y0 y1 y2 y3 y4 y5)) ∧ (∀ y0 y1 y2 y3 y4 y5 y6, LeO (spec_Cauchy.l1 k y0 y1 y2 y3 y4 y5 y6) (spec_Cauchy.l1 (k + 1) y0 y1 y2 y3 y4 y5 y6))
  | 0 => ⟨fun _ _ _ _ _ _ r h => by simp [spec_Cauchy.l0] at h, fun _ _ _ _ _ _ _ r h => by simp [spec_Cauchy.l1] at h⟩
  | k + 1 => by
    obtain ⟨ih0, ih1⟩ := spec_Cauchy.mono_l k
    refine ⟨?_, ?_⟩
    · intro y0 y1 y2 y3 y4 y5
      unfold spec_Cauchy.l0
      repeat' first
      | (with_reducible exact ih0 _ _ _ _ _ _)
      | (with_reducible exact ih1 _ _ _ _ _ _ _)
      | (with_reducible exact spec_FieldInv.mono _ _)
      | (with_reducible exact spec_l03Unit.mono _ _)
      | (with_reducible exact LeO.refl _)
      | (with_reducible exact LeO.none _)
      | (with_reducible refine LeO.ite ?_ ?_)
      | (with_reducible refine LeO.bind ?_ (fun _ => ?_))
      | exact ih0 _ _ _ _ _ _
      | exact ih1 _ _ _ _ _ _ _
      | exact spec_FieldInv.mono _ _
      | exact spec_l03Unit.mono _ _
      | exact LeO.none _
      | refine LeO.ite ?_ ?_
      | refine LeO.bind ?_ (fun _ => ?_)
    · intro y0 y1 y2 y3 y4 y5 y6
      unfold spec_Cauchy.l1
      repeat' first
      | (with_reducible exact ih0 _ _ _ _ _ _)
      | (with_reducible exact ih1 _ _ _ _ _ _ _)
      | (with_reducible exact spec_FieldInv.mono _ _)
      | (with_reducible exact spec_l03Unit.mono _ _)
      | (with_reducible exact LeO.refl _)
      | (with_reducible exact LeO.none _)
      | (with_reducible refine LeO.ite ?_ ?_)
      | (with_reducible refine LeO.bind ?_ (fun _ => ?_))
      | exact ih0 _ _ _ _ _ _
      | exact ih1 _ _ _ _ _ _ _
      | exact spec_FieldInv.mono _ _
      | exact spec_l03Unit.mono _ _
      | exact LeO.none _
      | refine LeO.ite ?_ ?_
      | refine LeO.bind ?_ (fun _ => ?_)
theorem spec_Cauchy.mono : ∀ a0 a1 k, LeO (spec_Cauchy.f k a0 a1) (spec_Cauchy.f (k + 1) a0 a1) := by
  intro a0 a1 k
  obtain ⟨ih0, ih1⟩ := spec_Cauchy.mono_l k
  unfold spec_Cauchy.f
  repeat' first
      | (with_reducible exact ih0 _ _ _ _ _ _)
      | (with_reducible exact ih1 _ _ _ _ _ _ _)
      | (with_reducible exact spec_FieldInv.mono _ _)
      | (with_reducible exact spec_l03Unit.mono _ _)
      | (with_reducible exact LeO.refl _)
      | (with_reducible exact LeO.none _)
      | (with_reducible refine LeO.ite ?_ ?_)
      | (with_reducible refine LeO.bind ?_ (fun _ => ?_))
      | exact ih0 _ _ _ _ _ _
      | exact ih1 _ _ _ _ _ _ _
      | exact spec_FieldInv.mono _ _
      | exact spec_l03Unit.mono _ _
      | exact LeO.none _
      | refine LeO.ite ?_ ?_
      | refine LeO.bind ?_ (fun _ => ?_)
def spec_Cauchy.T11 : Bool × List (List Nat × List Nat) := (true, [([], []), ([0], [0]), ([], []), ([], []), ([2, 3], [2, 3]), ([], []), ([4, 5], [4, 5]), ([6], [6]), ([7], [7]), ([1, 8, 7], [1, 8]), ([0, 1, 2, 3, 4, 5, 6, 7, 8, 9], []), ([10, 9, 9, 0, 1, 2, 3, 4, 5, 6, 7, 8, 9], [9, 10])])
def spec_Cauchy.B11 : List Nat := [0, 1, 0, 0, 12, 0, 60, 124, 252, 511, 1023, 2047]
theorem spec_Cauchy.tab11 : rtab .any (opsOf Try.f54 11) = spec_Cauchy.T11 := by kernel_rfl
theorem spec_Cauchy.bits11 : waitsOk spec_Cauchy.T11.2 spec_Cauchy.B11 = true := by kernel_rfl
set_option maxHeartbeats 8000000 in
set_option maxRecDepth 100000 in
theorem spec_Cauchy.calls (k : Nat) (a0 : Int) (a1 : Int) (r1 : Int) (r2 : Int) (r3 : List Int) (r4 : Int) (w : World) (h : spec_Cauchy.f k a0 a1 = some (r1, r2, r3, r4)) :
    Calls Try.prog 54 #[.int .i64 a0, .int .i64 a1] w fun e w' => ∃ v2_ : Value, e = .returned (.agg #[.int .i64 r1, .int .i64 r2, v2_, .int .i64 r4]) ∧ Kd.R (Kd.int .i64) 2 w' w.heap.size (fun _ => True) v2_ r3 ∧ Below w.heap.size w w' := by
  have hu91 := Try.underlying91
  have hu89 := Try.underlying89
  have HB := AM (Below.refl w.heap.size w)
  have H : ((spec_CodeRight.f a0 a1).bind fun t191 => (if t191 = true then ((spec_l03Unit.f k a0).bind fun bt198 => (spec_Cauchy.l0 k a0 a1 0 (wrap64 (a0 + a1)) bt198.2.1 bt198.2.2)) else ((spec_l03Ill.f 1).bind fun bt192 => (some (bt192.1, bt192.2.1, bt192.2.2.1, bt192.2.2.2))))) = some (r1, r2, r3, r4) := h
  clear h
  obtain ⟨t191, A3, H⟩ := OB H
  try dsimp only at H
  replace A3 := AM A3
  by_cases c4 : t191 = true
  · subst c4
    rw [if_pos rfl] at H
    obtain ⟨⟨t198, t199, t200⟩, A5, H⟩ := OB H
    try dsimp only at H
    replace A5 := AM A5
    have H' := AM H
    clear H
    go_enter Try.func54, Try.ntmps54
    go_wp2_with (first | ((with_reducible refine gate_dst (N := 4) rfl ?_); refine be_ 4 #[.int .i64 0, .int .i64 0, .slice none 0 0, .int .i64 0] 91 ?_; intro gb190 hg w6 hbox hb; have BK190 := AM hbox; have GW190 := AM ((by rw [hg]; exact (below_size bel_) : w.heap.size ≤ gb190)); have GE190 := AM ((by rw [hg]; exact (below_size bel_) : w.heap.size ≤ gb190)); replace HB := AM (below_step bel_ hb); clear hb hbox hg) | ((with_reducible refine gate_callee (f := 51) rfl ?_); refine gl_ (some 10) Try.func51 #[.int .i64 a0, .int .i64 a1] ?_; (with_reducible refine (spec_CodeRight.calls a0 a1 true _ A3.out).mono ?_); rintro e w' ⟨rfl, ⟨nd, rfl⟩⟩; refine ⟨_, rfl, ?_⟩; (try (rw [drewN_self w6]; generalize hq_ : World.drewN w6 _ = w6; replace BK190 : Aside0 (w6.heap[gb190]? = some (.cells #[.int .i64 0, .int .i64 0, .slice none 0 0, .int .i64 0] 91 (0, 0))) := ⟨by rw [← hq_]; exact (bk_ BK190.out)⟩; replace HB : Aside0 (Below w.heap.size w w6) := ⟨by rw [← hq_]; exact bel_⟩; clear hq_))) | ((with_reducible refine gate_callee (f := 121) rfl ?_); refine gl_ (some 14) Try.func121 #[.int .i64 a0] ?_; (with_reducible refine (spec_l03Unit.calls k a0 t198 t199 t200 _ A5.out).mono ?_); rintro e w7 ⟨v201, rfl, ho0, hb⟩; refine ⟨_, rfl, ?_⟩; have HO202 := AM (Kd.R_lower ho0 (below_size bel_)); replace BK190 := AM (blk_below (g := gb190) (o := .cells #[.int .i64 0, .int .i64 0, .slice none 0 0, .int .i64 0] 91 (0, 0)) (bk_ BK190.out) hb); replace HB := AM (below_step bel_ hb); (try clear hb); (try clear hb2); (try clear hk); (try clear hi); (try clear ho0)) | ((with_reducible refine gate_dst (N := 5) rfl ?_); refine be_ 5 #[.int .i64 0, .int .i64 0, .slice none 0 0] 89 ?_; intro gb203 hg w8 hbox hb; replace HO202 := AM (Kd.R_below (ro_ HO202.out) hb); have BK203 := AM hbox; have GW203 := AM ((by rw [hg]; exact (below_size bel_) : w.heap.size ≤ gb203)); have GE203 := AM ((by rw [hg]; exact (below_size bel_) : w.heap.size ≤ gb203)); replace HB := AM (below_step bel_ hb); have NB190_203 := AM ((by rw [hg]; exact Nat.ne_of_lt (blk_lt (g := gb190) (o := .cells #[.int .i64 0, .int .i64 0, .slice none 0 0, .int .i64 0] 91 (0, 0)) (bk_ BK190.out)) : gb190 ≠ gb203)); have NB203_190 := AM ((by rw [hg]; exact Nat.ne_of_gt (blk_lt (g := gb190) (o := .cells #[.int .i64 0, .int .i64 0, .slice none 0 0, .int .i64 0] 91 (0, 0)) (bk_ BK190.out)) : gb203 ≠ gb190)); replace BK190 := AM (blk_below (g := gb190) (o := .cells #[.int .i64 0, .int .i64 0, .slice none 0 0, .int .i64 0] 91 (0, 0)) (bk_ BK190.out) hb); clear hb hbox hg; have hnb9 := NB203_190.out; have hnc9 := NB190_203.out; have hcz10_0 : w8.cell? ⟨gb203, 0, none⟩ = some (.int .i64 0) := (blk_cell BK203.out 0).trans rfl; have hcz10_1 : w8.cell? ⟨gb203, 1, none⟩ = some (.int .i64 0) := (blk_cell BK203.out 1).trans rfl; have hcz10_2 : w8.cell? ⟨gb203, 2, none⟩ = some (.slice none 0 0) := (blk_cell BK203.out 2).trans rfl; have hfz10_0 := blk_frozen BK203.out 0; have hfz10_1 := blk_frozen BK203.out 1; have hfz10_2 := blk_frozen BK203.out 2; obtain ⟨Ao11, co11, eo11⟩ := Kd.R_slice HO202.out; subst eo11))
    go_loopg [6] k (fun kq v6 w' => ∃ (x6_1 : Int) (x204002_1 : List Int) (u204002 : Value), v6 = .int .i64 x6_1 ∧ Aside0 (spec_Cauchy.l0 kq a0 a1 x6_1 (wrap64 (a0 + a1)) t199 x204002_1 = some (r1, r2, r3, r4)) ∧ Aside0 (kq ≤ k) ∧ Aside0 (Kd.R (Kd.int .i64) 2 w' w.heap.size (fun _ => True) u204002 x204002_1) ∧ Aside0 (w'.heap[gb190]? = some (.cells #[.int .i64 0, .int .i64 0, (.slice none 0 0), .int .i64 0] 91 (0, 0))) ∧ Aside0 (w'.heap[gb203]? = some (.cells #[.int .i64 (wrap64 (a0 + a1)), .int .i64 t199, u204002] 89 (0, 0))) ∧ Aside0 (Below w.heap.size w w'))
    case atStart => exact ⟨(0), (t200), (.slice Ao11 t200.length co11), (by first | rfl | (simp; done) | (simp [*]; done)), H', ⟨Nat.le_refl _⟩, ⟨by (with_reducible repeat (first | apply Kd.R_alloc | apply Kd.R_drewN | apply Kd.R_drew)); exact Kd.R_mono (Kd.R_far (p := ⟨gb203, 0, none⟩) (Kd.R_far (p := ⟨gb203, 2, none⟩) (Kd.R_far (p := ⟨gb203, 1, none⟩) (Kd.R_far (p := ⟨gb203, 0, none⟩) (Kd.R_types HO202.out BK203.out (by decide)) (fun _ hk => hk.2) (.int .i64 t198)) (fun _ hk => hk.2) (.int .i64 t199)) (fun _ hk => hk.2) (.slice Ao11 t200.length co11)) (fun _ hk => hk.2) (.int .i64 (wrap64 (a0 + a1)))) (fun _ hk => trivial)⟩, ⟨bka_⟩, ⟨bka_⟩, ⟨bel_⟩⟩
    case round =>
      clear H'
      try clear c1
      try clear p2
      try clear c4
      try clear c5
      try clear p6
      try clear c9
      try clear hcz10_0
      try clear hcz10_1
      try clear hcz10_2
      try clear hfz10_0
      try clear hfz10_1
      try clear hfz10_2
      obtain ⟨x6_1, x204002_1, u204002, rfl, HA, HK1, HO_204002, BK190, BK203, HB⟩ := hrel
      cases gk with
      | zero => exact absurd HA.out (by simp [spec_Cauchy.l0])
      | succ k1 =>
        have H := HA.out
        clear HA
        simp only [spec_Cauchy.l0] at H
        by_cases c12 : x6_1 < a1
        · rw [if_pos c12] at H
          have c12b0 : decide (x6_1 < a1) = true := decide_eq_true c12
          clear c12
          have H' := AM H
          clear H
          go_wp2
          go_loopg [7] k1 (fun kq v7 w' => ∃ (x7_2 : Int) (x204002_2 : List Int) (u204002 : Value), v7 = .int .i64 x7_2 ∧ Aside0 (spec_Cauchy.l1 kq a0 a1 x6_1 x7_2 (wrap64 (a0 + a1)) t199 x204002_2 = some (r1, r2, r3, r4)) ∧ Aside0 (kq ≤ k1) ∧ Aside0 (Kd.R (Kd.int .i64) 2 w' w.heap.size (fun _ => True) u204002 x204002_2) ∧ Aside0 (w'.heap[gb190]? = some (.cells #[.int .i64 0, .int .i64 0, (.slice none 0 0), .int .i64 0] 91 (0, 0))) ∧ Aside0 (w'.heap[gb203]? = some (.cells #[.int .i64 (wrap64 (a0 + a1)), .int .i64 t199, u204002] 89 (0, 0))) ∧ Aside0 (Below w.heap.size w w'))
          case atStart => exact ⟨(0), (x204002_1), (u204002), (by first | rfl | (simp; done) | (simp [*]; done)), H', ⟨Nat.le_refl _⟩, ⟨ro_ HO_204002.out⟩, ⟨bk_ BK190.out⟩, ⟨bk_ BK203.out⟩, ⟨bel_⟩⟩
          case round =>
            clear H'
            try clear c1
            try clear p2
            try clear c4
            try clear c5
            try clear p6
            try clear c9
            try clear c12
            try clear c12b0
            try clear hcz10_0
            try clear hcz10_1
            try clear hcz10_2
            try clear hfz10_0
            try clear hfz10_1
            try clear hfz10_2
            try clear p2
            try clear p6
            obtain ⟨x7_2, x204002_2, u204002, rfl, HA, HK2, HO_204002, BK190, BK203, HB⟩ := hrel
            cases gk with
            | zero => exact absurd HA.out (by simp [spec_Cauchy.l1])
            | succ k2 =>
              have H := HA.out
              clear HA
              simp only [spec_Cauchy.l1] at H
              by_cases c13 : x7_2 < a0
              · rw [if_pos c13] at H
                have c13b0 : decide (x7_2 < a0) = true := decide_eq_true c13
                clear c13
                obtain ⟨t204, A14, H⟩ := OB H
                try dsimp only at H
                replace A14 := AM A14
                by_cases c15 : x204002_2.length < 17592186044416
                · rw [if_pos c15] at H
                  have LMc15 := AM c15
                  clear c15
                  obtain ⟨y205, hy205⟩ : ∃ y_ : List Int, y_ = (x204002_2 ++ [t204]) := ⟨_, rfl⟩
                  replace H : (spec_Cauchy.l1 k2 a0 a1 x6_1 (wrap64 (x7_2 + 1)) (wrap64 (a0 + a1)) t199 y205) = some (r1, r2, r3, r4) := by first | (rw [hy205]; with_reducible exact H) | (have H2_ := (Option.bind_some _ _).symm.trans H; rw [hy205]; with_reducible exact H2_) | (have H2_ := (Option.bind_some _ _).symm.trans H; with_reducible exact H2_) | with_reducible exact H | (rw [hy205]; exact H) | exact H
                  have Ny205 := AM hy205
                  clear hy205
                  have H' := AM H
                  clear H
                  try go_wp2
                  replace HO_204002 := AM (Kd.R_drew HO_204002.out)
                  replace BK190 := AM (blk_drew BK190.out)
                  replace BK203 := AM (blk_drew BK203.out)
                  replace HB := AM (below_drew1 HB.out)
                  refine start_ (n := 12) (S := fun w' => w'.cell? ⟨gb203, 0, none⟩ = some (.int .i64 (wrap64 (a0 + a1))) ∧ w'.cell? ⟨gb203, 1, none⟩ = some (.int .i64 t199) ∧ w'.cell? ⟨gb203, 2, none⟩ = some (u204002)) (ds := [11]) #[false, false, false, false, false, false, false, false, false, false, false, false] (by kernel_rfl) rfl rfl ⟨(blk_cell BK203.out 0).trans rfl, (blk_cell BK203.out 1).trans rfl, (blk_cell BK203.out 2).trans rfl⟩ (fun hHeld => ?_); refine with_tabW spec_Cauchy.tab11 spec_Cauchy.bits11 (fun HT_ HW_ => ?_)
                  generalize wr.drew = w16 at HO_204002 BK190 BK203 HB hHeld ⊢
                  refine pu_ HT_ 0 (some 29) #[true, false, false, false, false, false, false, false, false, false, false, false] ?_
                  refine pu_ HT_ 2 (some 31) #[true, false, true, false, false, false, false, false, false, false, false, false] ?_
                  refine pu_ HT_ 3 (some 32) #[true, false, true, true, false, false, false, false, false, false, false, false] ?_
                  refine pu_ HT_ 4 (some 33) #[true, false, true, true, true, false, false, false, false, false, false, false] ?_
                  refine pu_ HT_ 5 (some 34) #[true, false, true, true, true, true, false, false, false, false, false, false] ?_
                  refine pu_ HT_ 6 (some 35) #[true, false, true, true, true, true, true, false, false, false, false, false] ?_
                  refine ta_ HT_ HW_ 1 (some 30) #[true, true, true, true, true, true, true, false, false, false, false, false] hHeld ?_
                  refine on_ HT_ 7 (some 36) #[true, true, true, true, true, true, true, true, false, false, false, false] (fun K hK => ?_)
                  refine go1_ Try.func122 #[.int .i64 (Go.bits .xor .i64 (wrap64 (a0 + x6_1)) x7_2)] ?_
                  with_reducible refine (spec_FieldInv.calls k2 (Go.bits .xor .i64 (wrap64 (a0 + x6_1)) x7_2) t204 _ A14.out).mono ?_
                  rintro e w' ⟨rfl, ⟨nd, rfl⟩⟩
                  refine ⟨_, rfl, ?_⟩
                  refine hK.out _ _ ⟨(blk_cell BK203.out 0).trans rfl, (blk_cell BK203.out 1).trans rfl, (blk_cell BK203.out 2).trans rfl⟩ (fun hHeld => ?_)
                  clear hK K
                  refine nm_ ?_
                  refine on_ HT_ 8 (some 37) #[true, true, true, true, true, true, true, true, true, false, false, false] (fun K hK => ?_)
                  refine value_ (w1 := ?_) (v := ?_) (by rfl) rfl ?_ ?_
                  rotate_left 2
                  · go_simp
                    constructor
                    · rfl
                    · rfl
                  refine hK.out _ _ ⟨(blk_cell (blk_alloc BK203.out _) 0).trans rfl, (blk_cell (blk_alloc BK203.out _) 1).trans rfl, (blk_cell (blk_alloc BK203.out _) 2).trans rfl⟩ (fun hHeld => ?_)
                  clear hK K
                  refine nm_ ?_
                  refine on_ HT_ 9 (some 38) #[true, true, true, true, true, true, true, true, true, true, false, false] (fun K hK => ?_)
                  refine Kd.R_append_step (Kd.int .i64) (w0 := w) w.heap.size (by rfl) (.tmp 30) (.tmp 37) 71 2 (.int .i64 0) 8 rfl Try.underlying71 info2 rfl (by decide) (by omega) u204002 x204002_2 t204 [.int .i64 t204] (fun _ => True) (fun _ => False) rfl rfl ?aP (fun _ hk => hk.elim) ?aF ?aO ?aB ?aS ?aL ?_
                  (case aP => exact rfl)
                  (case aB => exact bel_)
                  (case aF => exact (fun _ _ => trivial))
                  (case aO => exact (ro_ HO_204002.out))
                  (case aS => exact (below_size bel_))
                  (case aL => have := LMc15.out; omega)
                  intro v206 w17 ho hb hg hat
                  rw [← Ny205.out] at ho
                  have n0_ := AM (blk_grown (g := gb190) (o := .cells #[.int .i64 0, .int .i64 0, .slice none 0 0, .int .i64 0] 91 (0, 0)) (bk_ BK190.out) hg (Kd.R_ne HO_204002.out BK190.out (by decide)))
                  have n1_ := AM (blk_grown (g := gb203) (o := .cells #[.int .i64 (wrap64 (a0 + a1)), .int .i64 t199, u204002] 89 (0, 0)) (bk_ BK203.out) hg (Kd.R_ne HO_204002.out BK203.out (by decide)))
                  have n2_ := AM hb
                  have n3_ := AM ho
                  clear BK190
                  clear BK203
                  clear HB
                  clear HO_204002
                  have BK190 := n0_
                  have BK203 := n1_
                  have HB := n2_
                  have HO207 := n3_
                  clear n0_ n1_ n2_ n3_
                  clear ho hb hg hat
                  obtain ⟨Ao18, co18, eo18⟩ := Kd.R_slice HO207.out
                  (first | subst eo18 | (injection eo18 with f1_ f2_ f3_; have f4_ := f1_.symm; have f5_ := f3_.symm; clear f1_ f2_ f3_; subst f4_; subst f5_))
                  refine hK.out _ _ ⟨(blk_cell BK203.out 0).trans rfl, (blk_cell BK203.out 1).trans rfl, (blk_cell BK203.out 2).trans rfl⟩ (fun hHeld => ?_)
                  clear hK K
                  refine nm_ ?_
                  refine pu_ HT_ 10 (some 39) #[true, true, true, true, true, true, true, true, true, true, true, false] ?_
                  refine last_ (i := 11) (N := none) #[true, true, true, true, true, true, true, true, true, true, true, true] rfl rfl (one_of HT_.out (by kernel_rfl)) (by decide) (fun K hK => ?_)
                  have hs19 : w17.cell? ⟨gb203, 2, none⟩ = some (u204002) := (blk_cell BK203.out 2).trans rfl
                  have hfs19 := blk_frozen BK203.out 2
                  have hns19_0 := NB190_203.out
                  have hms19_0 := NB203_190.out
                  refine sk_ ?_
                  refine hK.out _ _ ?_
                  clear hK K
                  refine dn_ HT_ ?_
                  try go_wp2
                  go_roundg k2
                  case measure => have := HK1.out; have := HK2.out; omega
                  case rel => exact ⟨(wrap64 (x7_2 + 1)), (y205), (.slice Ao18 y205.length co18), (by first | rfl | (simp; done) | (simp [*]; done)), H', ⟨by have := HK1.out; have := HK2.out; omega⟩, ⟨by (with_reducible repeat (first | apply Kd.R_alloc | apply Kd.R_drewN | apply Kd.R_drew)); exact Kd.R_mono (Kd.R_far (p := ⟨gb203, 2, none⟩) (Kd.R_types HO207.out BK203.out (by decide)) (fun _ hk => hk.2) (.slice Ao18 y205.length co18)) (fun _ hk => trivial)⟩, ⟨bka_⟩, ⟨bka_⟩, ⟨bel_⟩⟩
                · rw [if_neg c15] at H
                  exact absurd H (by simp)
              · rw [if_neg c13] at H
                have c13b0 : decide (x7_2 < a0) = false := decide_eq_false c13
                clear c13
                have H' := AM H
                clear H
                go_wp2
                go_roundg k2
                case measure => have := HK1.out; have := HK2.out; omega
                case rel => exact ⟨(wrap64 (x6_1 + 1)), (x204002_2), (u204002), (by first | rfl | (simp; done) | (simp [*]; done)), H', ⟨by have := HK1.out; have := HK2.out; omega⟩, ⟨ro_ HO_204002.out⟩, ⟨bk_ BK190.out⟩, ⟨bk_ BK203.out⟩, ⟨bel_⟩⟩
        · rw [if_neg c12] at H
          have c12b0 : decide (x6_1 < a1) = false := decide_eq_false c12
          clear c12
          simp only [Option.some.injEq, Prod.mk.injEq] at H
          obtain ⟨rfl, rfl, rfl, rfl⟩ := H
          have hnb20 := NB203_190.out
          have hnc20 := NB190_203.out
          have hcz21_0 : wr.cell? ⟨gb203, 0, none⟩ = some (.int .i64 (wrap64 (a0 + a1))) := (blk_cell BK203.out 0).trans rfl
          have hcz21_1 : wr.cell? ⟨gb203, 1, none⟩ = some (.int .i64 t199) := (blk_cell BK203.out 1).trans rfl
          have hcz21_2 : wr.cell? ⟨gb203, 2, none⟩ = some (u204002) := (blk_cell BK203.out 2).trans rfl
          have hfz21_0 := blk_frozen BK203.out 0
          have hfz21_1 := blk_frozen BK203.out 1
          have hfz21_2 := blk_frozen BK203.out 2
          obtain ⟨Ao22, co22, eo22⟩ := Kd.R_slice HO_204002.out
          subst eo22
          have hcz23_0 : wr.cell? ⟨gb190, 0, none⟩ = some (.int .i64 0) := (blk_cell BK190.out 0).trans rfl
          have hcz23_1 : wr.cell? ⟨gb190, 1, none⟩ = some (.int .i64 0) := (blk_cell BK190.out 1).trans rfl
          have hcz23_2 : wr.cell? ⟨gb190, 2, none⟩ = some (.slice none 0 0) := (blk_cell BK190.out 2).trans rfl
          have hcz23_3 : wr.cell? ⟨gb190, 3, none⟩ = some (.int .i64 0) := (blk_cell BK190.out 3).trans rfl
          have hfz23_0 := blk_frozen BK190.out 0
          have hfz23_1 := blk_frozen BK190.out 1
          have hfz23_2 := blk_frozen BK190.out 2
          have hfz23_3 := blk_frozen BK190.out 3
          go_wp2
          refine bodyPost_ret (results_cell_row rfl _ _ gb190 91 #[.int .i64 (wrap64 (a0 + a1)), .int .i64 t199, .slice Ao22 x204002_1.length co22, .int .i64 0] (0, 0) _ rfl bka_ Try.underlying91 rfl (by kernel_rfl)) rfl ?_
          exact ⟨_, ri_, by (with_reducible repeat (first | apply Kd.R_alloc | apply Kd.R_drewN | apply Kd.R_drew)); exact Kd.R_mono (Kd.R_far (p := ⟨gb190, 3, none⟩) (Kd.R_far (p := ⟨gb190, 2, none⟩) (Kd.R_far (p := ⟨gb190, 1, none⟩) (Kd.R_far (p := ⟨gb190, 0, none⟩) (Kd.R_types HO_204002.out BK190.out (by decide)) (fun _ hk => hk.2) (.int .i64 (wrap64 (a0 + a1)))) (fun _ hk => hk.2) (.int .i64 t199)) (fun _ hk => hk.2) (.slice Ao22 x204002_1.length co22)) (fun _ hk => hk.2) (.int .i64 0)) (fun _ hk => trivial), bel_⟩
  · replace c4 := Bool.eq_false_iff.mpr c4
    subst c4
    rw [if_neg (show ¬ (false = true) by decide)] at H
    obtain ⟨⟨t192, t193, t194, t197⟩, A24, H⟩ := OB H
    try dsimp only at H
    replace A24 := AM A24
    simp only [Option.some.injEq, Prod.mk.injEq] at H
    obtain ⟨rfl, rfl, rfl, rfl⟩ := H
    go_enter Try.func54, Try.ntmps54
    go_wp2_with (first | ((with_reducible refine gate_dst (N := 4) rfl ?_); refine be_ 4 #[.int .i64 0, .int .i64 0, .slice none 0 0, .int .i64 0] 91 ?_; intro gb190 hg w25 hbox hb; have BK190 := AM hbox; have GW190 := AM ((by rw [hg]; exact (below_size bel_) : w.heap.size ≤ gb190)); have GE190 := AM ((by rw [hg]; exact (below_size bel_) : w.heap.size ≤ gb190)); replace HB := AM (below_step bel_ hb); clear hb hbox hg) | ((with_reducible refine gate_callee (f := 51) rfl ?_); refine gl_ (some 10) Try.func51 #[.int .i64 a0, .int .i64 a1] ?_; (with_reducible refine (spec_CodeRight.calls a0 a1 false _ A3.out).mono ?_); rintro e w' ⟨rfl, ⟨nd, rfl⟩⟩; refine ⟨_, rfl, ?_⟩; (try (rw [drewN_self w25]; generalize hq_ : World.drewN w25 _ = w25; replace BK190 : Aside0 (w25.heap[gb190]? = some (.cells #[.int .i64 0, .int .i64 0, .slice none 0 0, .int .i64 0] 91 (0, 0))) := ⟨by rw [← hq_]; exact (bk_ BK190.out)⟩; replace HB : Aside0 (Below w.heap.size w w25) := ⟨by rw [← hq_]; exact bel_⟩; clear hq_))) | ((with_reducible refine gate_callee (f := 120) rfl ?_); refine gl_ (some 12) Try.func120 #[.int .i64 1] ?_; (with_reducible refine (spec_l03Ill.calls 1 t192 t193 t194 t197 _ A24.out).mono ?_); rintro e w26 ⟨v195, rfl, ho0, hb⟩; refine ⟨_, rfl, ?_⟩; have HO196 := AM (Kd.R_lower ho0 (below_size bel_)); replace BK190 := AM (blk_below (g := gb190) (o := .cells #[.int .i64 0, .int .i64 0, .slice none 0 0, .int .i64 0] 91 (0, 0)) (bk_ BK190.out) hb); replace HB := AM (below_step bel_ hb); (try clear hb); (try clear hb2); (try clear hk); (try clear hi); (try clear ho0); have hcz27_0 : w26.cell? ⟨gb190, 0, none⟩ = some (.int .i64 0) := (blk_cell BK190.out 0).trans rfl; have hcz27_1 : w26.cell? ⟨gb190, 1, none⟩ = some (.int .i64 0) := (blk_cell BK190.out 1).trans rfl; have hcz27_2 : w26.cell? ⟨gb190, 2, none⟩ = some (.slice none 0 0) := (blk_cell BK190.out 2).trans rfl; have hcz27_3 : w26.cell? ⟨gb190, 3, none⟩ = some (.int .i64 0) := (blk_cell BK190.out 3).trans rfl; have hfz27_0 := blk_frozen BK190.out 0; have hfz27_1 := blk_frozen BK190.out 1; have hfz27_2 := blk_frozen BK190.out 2; have hfz27_3 := blk_frozen BK190.out 3; obtain ⟨Ao28, co28, eo28⟩ := Kd.R_slice HO196.out; subst eo28))
    refine bodyPost_ret (results_cell_row rfl _ _ gb190 91 #[.int .i64 t192, .int .i64 t193, .slice Ao28 t194.length co28, .int .i64 t197] (0, 0) _ rfl bka_ Try.underlying91 rfl (by kernel_rfl)) rfl ?_
    exact ⟨_, ri_, by (with_reducible repeat (first | apply Kd.R_alloc | apply Kd.R_drewN | apply Kd.R_drew)); exact Kd.R_mono (Kd.R_far (p := ⟨gb190, 3, none⟩) (Kd.R_far (p := ⟨gb190, 2, none⟩) (Kd.R_far (p := ⟨gb190, 1, none⟩) (Kd.R_far (p := ⟨gb190, 0, none⟩) (Kd.R_types HO196.out BK190.out (by decide)) (fun _ hk => hk.2) (.int .i64 t192)) (fun _ hk => hk.2) (.int .i64 t193)) (fun _ hk => hk.2) (.slice Ao28 t194.length co28)) (fun _ hk => hk.2) (.int .i64 t197)) (fun _ hk => trivial), bel_⟩

/-! ### spec_Encode: function 9 -/
section se
section
open Go.Lib
variable {P : Program} {ops : Array Oper} {rest : List Oper} {o : Oper} {a : Act} {Q : Exit → Act → World → Prop}
/-- copy(v, s), s a string that fits: the row's head is its bytes. -/
theorem R_copy_str {w0 W : World} (base : Nat) (hgd : o.guard = none) (s x : Operand) (t t' e : TypeId)
    (ho : o.op = .call { callee := .builtin .copy, args := #[s, x], argTypes := #[t, t'] }) (ht : P.underlying t = some (.slice e)) (hinfo : (P.info? e).map (·.size) = some 1)
    (v : Value) (xs : List Int) (b : ByteArray) (ok : Nat → Prop) (hs : a.eval s = v) (hx : a.eval x = .string b) (hle : b.size ≤ xs.length)
    (HO : Kd.R (Kd.int .u8) e W base ok v xs) (HB : Below base w0 W) (hbase : base ≤ W.heap.size)
    (h : ∀ w1, Kd.R (Kd.int .u8) e w1 base ok v (bytesOf b ++ xs.drop b.size) → Below base w0 w1 → W.grownBy w1 v.ownBlock → wpList P ops Q rest (a.put o.dst (.int .i64 (b.size : Int))) w1) :
    wpList P ops Q (o :: rest) a W := by
  have hown := Kd.own_of_R HO
  have fin : ∀ w1, (Builtin.copy_ #[t, t'] o.type #[v, .string b]).run P W = .ok (goInt (b.size : Int)) w1 → Kd.R (Kd.int .u8) e w1 base ok v (bytesOf b ++ xs.drop b.size) → W.grownBy w1 v.ownBlock → wpList P ops Q (o :: rest) a W := by
    intro w1 hr hrow hg
    refine wpList_plain hgd fun K hK => ?_
    unfold Oper.wp execOp
    simp only [ho, resolve, invoke, builtin, Sem.run_bind, Sem.run_pure, Result.andThen_ok, List.map_toArray, List.map_cons, List.map_nil, hs, hx, hr]
    exact hK _ _ (h w1 hrow (HB.grown hg hbase (own_base hown)) hg)
  have hbl : (bytesOf b).length = b.size := bytesOf_length b
  rcases Nat.eq_zero_or_pos b.size with h0 | hp
  · obtain ⟨A', c', hv⟩ := own_slice hown
    have hbn : bytesOf b = [] := List.eq_nil_of_length_eq_zero (by rw [hbl]; exact h0)
    refine fin W ?_ (by rw [hbn, h0, List.drop_zero, List.nil_append]; exact HO) (World.grownBy.refl W _)
    have hsome : ((P.info? e).map (·.size)).isSome = true := by rw [hinfo]; rfl
    have h2 := run_copy_empty_string (P := P) W t t' o.type e A' xs.length c' b ht hsome h0
    rw [hv, h0]
    exact h2
  · obtain ⟨h1, inner, ⟨ho1, ho2⟩, hr⟩ := HO
    rcases ho2 with ⟨_, hx0⟩ | ⟨g, cap, cur, hv, hb, hh, hnc, hcm, hcs, ht2⟩
    · omega
    have hcs1 : cur.size = cap * 1 := hcs
    rw [Nat.mul_one] at hcs1
    have hrun := run_copy_row_string (P := P) W t t' o.type e g 0 xs.length cap b cur e ht hinfo hh hle (by omega)
    rw [List.take_zero, List.nil_append, Nat.zero_add] at hrun
    have hbc : byteCells b.data.toList = (bytesOf b).map (Value.int .u8) := by
      unfold byteCells bytesOf
      rw [List.map_map]
      rfl
    rw [hbc] at hrun
    have hfull : xs.map (Value.int .u8) = cur.toList.take xs.length := by
      have h5 : inner = encs (Value.int .u8) xs := by
        have h6 := hown.2
        apply List.ext_getElem?
        intro j
        by_cases hj : j < xs.length
        · have h7 := hr.2 j xs[j] (List.getElem?_eq_getElem hj)
          have h8 : (inner.drop (j * 1)).take 1 = [Value.int .u8 xs[j]] := h7
          have h9 : ((inner.drop (j * 1)).take 1)[0]? = some (Value.int .u8 xs[j]) := by rw [h8]; rfl
          rw [List.getElem?_take, if_pos (by decide), List.getElem?_drop, Nat.mul_one, Nat.add_zero] at h9
          rw [h9]
          simp [encs, hj]
        · have h7 : inner.length = xs.length * 1 := ho1
          rw [List.getElem?_eq_none (by omega), List.getElem?_eq_none (by rw [encs_length]; omega)]
      have h6 : cur.toList.take (xs.length * 1) = inner := ht2
      rw [Nat.mul_one, h5] at h6
      rw [h6]
      rfl
    have hlen : (bytesOf b ++ xs.drop b.size).length = xs.length := by rw [List.length_append, hbl, List.length_drop]; omega
    have hcl : cur.toList.length = cap := by rw [Array.length_toList, hcs1]
    have hnew : ((bytesOf b).map (Value.int .u8) ++ cur.toList.drop b.size).take xs.length = (bytesOf b ++ xs.drop b.size).map (Value.int .u8) := by
      rw [List.map_append, List.map_drop, hfull, List.take_append, List.take_of_length_le (by rw [List.length_map, hbl]; exact hle), List.length_map, hbl, ← List.drop_take]
    have hsz : ((bytesOf b).map (Value.int .u8) ++ cur.toList.drop b.size).length = cap := by rw [List.length_append, List.length_map, hbl, List.length_drop, hcl]; omega
    refine fin _ (by rw [hv]; exact hrun) ⟨h1, (bytesOf b ++ xs.drop b.size).map (Value.int .u8), ⟨by rw [List.length_map]; exact (Nat.mul_one _).symm, .inr ⟨g, cap, _, by rw [hlen]; exact hv, hb, setRow_heap W g cur _ e (0, 0) hh, by rw [hlen]; exact hnc, hcm, by rw [List.size_toArray, hsz]; exact (Nat.mul_one _).symm, ?_⟩⟩, ?_, ?_⟩ ?_
    · rw [hlen]
      show List.take (xs.length * 1) _ = _
      rw [Nat.mul_one]
      exact hnew
    · rw [List.length_map]
      exact (Nat.mul_one _).symm
    · intro j p hp2
      have hj := (List.getElem?_eq_some_iff.1 hp2).1
      show List.take 1 (List.drop (j * 1) ((bytesOf b ++ xs.drop b.size).map (Value.int .u8))) = [Value.int .u8 p]
      apply List.ext_getElem?
      intro i
      rw [List.getElem?_take]
      by_cases hi : i < 1
      · obtain rfl : i = 0 := by omega
        rw [if_pos hi, List.getElem?_drop, Nat.mul_one, Nat.add_zero, List.getElem?_map, hp2]
        rfl
      · rw [if_neg hi]
        symm
        rw [List.getElem?_eq_none_iff]
        simp only [List.length_cons, List.length_nil]
        omega
    · rw [hv]
      exact ⟨rfl, rfl, rfl, by rw [setRow_size]; exact Nat.le_refl _, fun k hk hne => setRow_other W g k _ (fun e => hne (by rw [e]; rfl))⟩
end
/-- the shards of data. -/
def se_cells (t : ByteArray) (m : Nat) : List Int := bytesOf t ++ (List.replicate m 0).drop t.size
def se_data (t : ByteArray) (kk n : Nat) : List ByteArray := (List.range kk).map fun i => strOfNums (((se_cells t (n * kk)).take ((i + 1) * n)).drop (i * n))
theorem se_take (t : ByteArray) (kk n i : Nat) (hi : i < kk) : (se_data t kk n).take (i + 1) = (se_data t kk n).take i ++ [strOfNums (((se_cells t (n * kk)).take ((i + 1) * n)).drop (i * n))] := by
  have hl : (se_data t kk n).length = kk := by simp [se_data]
  rw [List.take_succ_eq_append_getElem (by omega)]
  congr 2
  simp [se_data]
theorem se_len (t : ByteArray) (kk n : Nat) : (se_data t kk n).length = kk := by simp [se_data]
theorem se_w {n : Int} (h0 : -9223372036854775808 ≤ n) (h1 : n ≤ 9223372036854775807) : wrap64 n = n := by
  unfold wrap64
  omega
theorem se_nxt (x : Int) (i : Nat) (hx : x = (i : Int)) (hi : i < 1000000) : wrap64 (x + 1) = ((i + 1 : Nat) : Int) := by
  subst hx
  unfold wrap64
  omega
theorem se_size5 : (Try.prog.info? 5).map (·.size) = some 1 := by kernel_rfl
def spec_Encode.f (k : Nat) (a0 : Int) (a1 : Int) (a2 : ByteArray) : Option (List ByteArray × Int) := if a2.size ≤ 20000 then ((spec_CodeRight.f a0 a1).bind fun c => if c = true then ((spec_ShardSize.f a0 (a2.size : Int)).bind fun n => if 1 ≤ a0 ∧ a0 ≤ 100 ∧ 0 ≤ n ∧ n ≤ 20000 ∧ (a2.size : Int) ≤ n * a0 then ((spec_Cauchy.f k a0 a1).bind fun cm => ((spec_l04Times.f k cm.1 cm.2.1 cm.2.2.1 (se_data a2 a0.toNat n.toNat)).bind fun r => some (r, 0))) else none) else some ([], 1)) else none
theorem spec_Encode.mono : ∀ a0 a1 a2 k, LeO (spec_Encode.f k a0 a1 a2) (spec_Encode.f (k + 1) a0 a1 a2) := by
  intro a0 a1 a2 k
  unfold spec_Encode.f
  repeat' first
      | (with_reducible exact spec_Cauchy.mono _ _ _)
      | (with_reducible exact spec_l04Times.mono _ _ _ _ _)
      | (with_reducible exact LeO.refl _)
      | (with_reducible refine LeO.ite ?_ ?_)
      | (with_reducible refine LeO.bind ?_ (fun _ => ?_))
theorem se_drawn {w w' : World} (h : Drawn0 w w') : Below w.heap.size w w' := by
  obtain ⟨q, hq⟩ := h.out
  rw [hq]
  exact pw_below_drewN (Below.refl _ _) _
set_option maxHeartbeats 4000000 in
set_option maxRecDepth 100000 in
theorem se_no (a0 a1 : Int) (t : ByteArray) (w : World) (ht : t.size ≤ 20000) (hc : spec_CodeRight.f a0 a1 = some false) :
    Calls Try.prog 9 #[.int .i64 a0, .int .i64 a1, .string t] w fun e w' => ∃ v0_ : Value, e = .returned (.agg #[v0_, .int .i64 1]) ∧ Kd.R Kd.string 9 w' w.heap.size (fun _ => True) v0_ [] ∧ Below w.heap.size w w' := by
  have hu := Try.underlying27
  have HCR := AM hc
  have HB := AM (Below.refl w.heap.size w)
  have c1 : decide (20000 < (t.size : Int)) = false := decide_eq_false (by omega)
  have c2 : decide (20000 < t.size) = false := decide_eq_false (by omega)
  clear ht hc
  go_enter Try.func9, Try.ntmps9
  go_wp2_with (first | ((with_reducible refine gate_dst (N := 6) rfl ?_); refine be_ 6 #[.slice none 0 0, .int .i64 0] 27 ?_; intro g6 hg w1 hbox hb; have BK := AM hbox; have GK := AM ((by rw [hg]; exact Nat.le_refl _ : w.heap.size ≤ g6)); replace HB := AM (below_step HB.out hb); clear hb hbox hg) | ((with_reducible refine gate_callee (f := 51) rfl ?_); refine gl_ (some 17) Try.func51 #[.int .i64 a0, .int .i64 a1] ?_; (with_reducible refine (spec_CodeRight.calls a0 a1 false _ HCR.out).mono ?_); rintro e w2 ⟨rfl, hd_⟩; refine ⟨_, rfl, ?_⟩; have hb := se_drawn hd_; replace BK := AM (blk_below BK.out hb); replace HB := AM (below_step HB.out hb); clear hb hd_; have hfz0 := blk_frozen BK.out 0; have hfz1 := blk_frozen BK.out 1; have hcz0 : w2.cell? ⟨g6, 0, none⟩ = some (.slice none 0 0) := (blk_cell BK.out 0).trans rfl; have hcz1 : w2.cell? ⟨g6, 1, none⟩ = some (.int .i64 0) := (blk_cell BK.out 1).trans rfl))
  refine bodyPost_ret (results_cell_row rfl _ _ g6 27 #[.slice none 0 0, .int .i64 1] (0, 0) _ rfl bka_ Try.underlying27 rfl (by kernel_rfl)) rfl ?_
  exact ⟨_, rfl, Kd.R_nil _ _ _ _ _, (HB.out.setCell (p := ⟨g6, 0, none⟩) GK.out _).setCell (p := ⟨g6, 1, none⟩) GK.out _⟩
set_option maxHeartbeats 4000000 in
set_option maxRecDepth 100000 in
theorem se_yes (k : Nat) (a0 a1 : Int) (t : ByteArray) (n : Int) (p1 p2 : Int) (p3 : List Int) (p4 : Int) (r : List ByteArray) (w : World) (ht : t.size ≤ 20000) (hc : spec_CodeRight.f a0 a1 = some true) (hn : spec_ShardSize.f a0 (t.size : Int) = some n) (hq : 1 ≤ a0 ∧ a0 ≤ 100 ∧ 0 ≤ n ∧ n ≤ 20000 ∧ (t.size : Int) ≤ n * a0)
    (hcm : spec_Cauchy.f k a0 a1 = some (p1, p2, p3, p4)) (hr : spec_l04Times.f k p1 p2 p3 (se_data t a0.toNat n.toNat) = some r) :
    Calls Try.prog 9 #[.int .i64 a0, .int .i64 a1, .string t] w fun e w' => ∃ v0_ : Value, e = .returned (.agg #[v0_, .int .i64 0]) ∧ Kd.R Kd.string 9 w' w.heap.size (fun _ => True) v0_ r ∧ Below w.heap.size w w' := by
  have hu := Try.underlying27
  have hu2 := Try.underlying91
  have hfl_ : ∀ (x0 x1 x2 x3 : Value) (w : World), Sem.run Try.prog (Instr.field 91 (.agg #[x0, x1, x2, x3]) 0) w = .ok (.agg #[x0, x1, x2]) w := by intro x0 x1 x2 x3 w; kernel_rfl
  obtain ⟨q1, q2, q3, q4, q5⟩ := hq
  obtain ⟨kk, hkk⟩ : ∃ m : Nat, a0 = (m : Int) := ⟨a0.toNat, by omega⟩
  obtain ⟨nn, hnn⟩ : ∃ m : Nat, n = (m : Int) := ⟨n.toNat, by omega⟩
  have HSZ := AM hn
  have HCR := AM hc
  have HCM := AM hcm
  have HTM : Aside0 (spec_l04Times.f k p1 p2 p3 (se_data t kk nn) = some r) := ⟨by have h9 := hr; rw [hkk, hnn, Int.toNat_natCast, Int.toNat_natCast] at h9; exact h9⟩
  have HKK := AM hkk
  have HNN := AM hnn
  have HKB : Aside0 (1 ≤ kk ∧ kk ≤ 100) := ⟨by omega⟩
  have HNB : Aside0 (nn ≤ 20000) := ⟨by omega⟩
  have HMB : Aside0 (nn * kk ≤ 2000000) := ⟨Nat.mul_le_mul HNB.out HKB.out.2⟩
  have HTS : Aside0 (t.size ≤ nn * kk) := ⟨by have h9 := q5; rw [hkk, hnn] at h9; exact_mod_cast h9⟩
  have HCL : Aside0 ((se_cells t (nn * kk)).length = nn * kk) := ⟨by unfold se_cells; rw [List.length_append, bytesOf_length, List.length_drop, List.length_replicate]; have := HTS.out; omega⟩
  obtain ⟨mm, hmm⟩ : ∃ mm, wrap64 (n * a0) = mm := ⟨_, rfl⟩
  have HM : Aside0 (mm = ((nn * kk : Nat) : Int)) := ⟨by rw [← hmm, hkk, hnn, ← Int.natCast_mul]; have := HMB.out; exact se_w (by omega) (by omega)⟩
  have hmmw : IntKind.i64.wrap (n * a0) = mm := (i64_w _).trans hmm
  obtain ⟨i5, hi5, _⟩ := info_parts info5
  have hs5 : i5.size = 1 := by have := info5; rw [hi5] at this; simp only [Option.map_some, Option.some.injEq, Prod.mk.injEq] at this; exact this.2.1
  have HI5 := AM hi5
  have HB := AM (Below.refl w.heap.size w)
  have c1 : decide (20000 < (t.size : Int)) = false := decide_eq_false (by omega)
  have c2 : decide (20000 < t.size) = false := decide_eq_false (by omega)
  clear ht hc hn hcm hr q1 q2 q3 q4 q5 hkk hnn hmm hi5
  go_enter Try.func9, Try.ntmps9
  go_wp2_with (first | ((with_reducible refine gate_dst (N := 6) rfl ?_); refine be_ 6 #[.slice none 0 0, .int .i64 0] 27 ?_; intro g6 hg w1 hbox hb; have BK := AM hbox; have GK := AM ((by rw [hg]; exact Nat.le_refl _ : w.heap.size ≤ g6)); replace HB := AM (below_step HB.out hb); clear hb hbox hg) | ((with_reducible refine gate_callee (f := 51) rfl ?_); refine gl_ (some 17) Try.func51 #[.int .i64 a0, .int .i64 a1] ?_; (with_reducible refine (spec_CodeRight.calls a0 a1 true _ HCR.out).mono ?_); rintro e w2 ⟨rfl, hd_⟩; refine ⟨_, rfl, ?_⟩; have hb := se_drawn hd_; replace BK := AM (blk_below BK.out hb); replace HB := AM (below_step HB.out hb); clear hb hd_) | ((with_reducible refine gate_callee (f := 52) rfl ?_); refine gl_ (some 23) Try.func52 #[.int .i64 a0, .int .i64 (t.size : Int)] ?_; (with_reducible refine (spec_ShardSize.calls a0 (t.size : Int) n _ HSZ.out).mono ?_); rintro e w3 ⟨rfl, hd_⟩; refine ⟨_, rfl, ?_⟩; have hb := se_drawn hd_; replace BK := AM (blk_below BK.out hb); replace HB := AM (below_step HB.out hb); clear hb hd_) | ((with_reducible refine gate_dst (N := 27) rfl ?_); refine Kd.R_make (Kd.int .u8) _ 5 rfl (N := 27) rfl 22 _ _ rfl mm rfl rfl Try.underlying22 (.int .u8 0) 1 info5 rfl (by decide) (by omega) 0 (ok := fun _ => True) (okp := fun _ => True) rfl (fun _ hk => hk) trivial (by have := HM.out; omega) (by have := HM.out; have := HMB.out; omega) (Below.refl _ _) (Nat.le_refl _) ?_; intro v27 w5 ho hb hg_ hnew_; clear hg_ hnew_; rw [HM.out, Int.toNat_natCast] at ho; have HV := AM (Kd.R_lower ho (below_size (bel_ (w := w)))); replace BK := AM (blk_below (bk_ BK.out) hb); replace HB := AM (below_step (bel_ (w := w)) hb); clear hb ho) | ((with_reducible refine gate_builtin (b := .copy) (xs := #[.tmp 28, .tmp 29]) rfl ?_); refine R_copy_str (w0 := w) w.heap.size rfl (.tmp 28) (.tmp 29) 22 9 5 rfl Try.underlying22 se_size5 v27 (List.replicate (nn * kk) 0) t (fun _ => True) rfl rfl (by rw [List.length_replicate]; exact HTS.out) HV.out HB.out (below_size HB.out) ?_; intro w6 ho hb hg; replace BK := AM (blk_grown (bk_ BK.out) hg (Kd.R_ne HV.out BK.out (by decide))); replace HB := AM hb; replace HV : Aside0 (Kd.R (Kd.int .u8) 5 w6 w.heap.size (fun _ => True) v27 (se_cells t (nn * kk))) := AM ho; clear ho hb hg) | ((with_reducible refine gate_dst (N := 31) rfl ?_); refine Kd.R_lit Kd.string _ 9 ?hgL1 (N := 31) ?hdL1 (xs := ([] : List ByteArray)) (inner := []) (ok := fun _ => True) (okp := fun _ => True) ?hrL1 ?hpL1 (fun _ hk => hk) trivial (Below.refl _ _) (Nat.le_refl _) (by simp) ?_; (case hdL1 => rfl); (case hgL1 => rfl); (case hrL1 => first | (go_simp; done) | (go_simp; rfl)); (case hpL1 => exact (Reps.none _ _)); intro v31 w7 ho hb hg_ hnew_; clear hg_ hnew_; have HO := AM (Kd.R_lower ho (below_size HB.out)); replace HV := AM (Kd.R_below HV.out hb); replace BK := AM (blk_below BK.out hb); replace HB := AM (below_step HB.out hb); clear hb ho))
  clear c1 c2 hmmw
  obtain ⟨Ab, cb, eb⟩ := Kd.R_slice HV.out
  rw [HCL.out] at eb
  subst eb
  go_loopg [9, 10] (kk : Nat) (fun (q : Nat) v9 v10 w' => ∃ (u : Value) (xs : List ByteArray) (x : Int) (i : Nat), i + q = kk ∧ v9 = u ∧ v10 = .int .i64 x ∧ Aside0 (x = (i : Int)) ∧ Aside0 (xs.length ≤ i) ∧ Aside0 (xs = (se_data t kk nn).take i) ∧ Aside0 (Kd.R Kd.string 9 w' w.heap.size (fun _ => True) u xs) ∧ Aside0 (Kd.R (Kd.int .u8) 5 w' w.heap.size (fun _ => True) (.slice Ab (nn * kk) cb) (se_cells t (nn * kk))) ∧ Aside0 (w'.heap[g6]? = some (.cells #[.slice none 0 0, .int .i64 0] 27 (0, 0))) ∧ Aside0 (Below w.heap.size w w'))
  case atStart => exact ⟨_, [], 0, 0, by omega, rfl, rfl, ⟨rfl⟩, ⟨Nat.le_refl _⟩, ⟨rfl⟩, HO, HV, BK, HB⟩
  case round =>
    clear HO HV BK HB
    obtain ⟨u_, xs, x, i, hi, rfl, rfl, HX, HXL, HXS, HO, HV, BK, HB⟩ := hrel
    have HI := AM hi
    clear hi
    obtain ⟨Au, cu, eu⟩ := Kd.R_slice HO.out
    subst eu
    by_cases ci : i < kk
    · have x1 : decide (x < a0) = true := decide_eq_true (by rw [HX.out, HKK.out]; omega)
      have CI := AM ci
      have HT := AM (se_take t kk nn i ci)
      have LS : Aside0 ((i + 1) * nn = i * nn + nn) := ⟨Nat.succ_mul _ _⟩
      have LO : Aside0 ((i + 1) * nn ≤ nn * kk) := ⟨by rw [Nat.mul_comm nn kk]; exact Nat.mul_le_mul_right _ (by omega)⟩
      obtain ⟨lo, hlo⟩ : ∃ lo, wrap64 (x * n) = lo := ⟨_, rfl⟩
      obtain ⟨hi, hhi⟩ : ∃ hi, wrap64 (wrap64 (x + 1) * n) = hi := ⟨_, rfl⟩
      have HLO : Aside0 (lo = ((i * nn : Nat) : Int)) := ⟨by rw [← hlo, HX.out, HNN.out, ← Int.natCast_mul]; have := LO.out; have := LS.out; have := HMB.out; exact se_w (by omega) (by omega)⟩
      have HHI : Aside0 (hi = (((i + 1) * nn : Nat) : Int)) := ⟨by rw [← hhi, se_nxt x i HX.out (by have := HKB.out; omega), HNN.out, ← Int.natCast_mul]; have := LO.out; have := HMB.out; exact se_w (by omega) (by omega)⟩
      have hlow : IntKind.i64.wrap (x * n) = lo := (i64_w _).trans hlo
      have hhiw : IntKind.i64.wrap (wrap64 (x + 1) * n) = hi := (i64_w _).trans hhi
      have hcb : nn * kk ≤ cb := (Kd.R_reads' HV.out).2.1
      have hcut := cut_mid (P := Try.prog) 22 5 .i64 .i64 Try.underlying22 HI5.out 1 hs5 Ab (nn * kk) cb lo hi (by rw [HLO.out]; omega) (by rw [HLO.out, HHI.out]; have := LS.out; omega) (by rw [HHI.out]; have := LO.out; omega) hcb
      have hrd := Kd.C_mid (c := cb) (lo := i * nn) (hi := (i + 1) * nn) (Kd.R_reads' HV.out).2.2 (by have := LS.out; omega) (by rw [HCL.out]; exact LO.out) (by rw [HCL.out]; exact hcb)
      rw [show lo.toNat = i * nn by rw [HLO.out, Int.toNat_natCast], show hi.toNat = (i + 1) * nn by rw [HHI.out, Int.toNat_natCast], show (i + 1) * nn - i * nn = nn by have := LS.out; omega] at hcut
      obtain ⟨seg, hseg⟩ : ∃ seg, ((se_cells t (nn * kk)).take ((i + 1) * nn)).drop (i * nn) = seg := ⟨_, rfl⟩
      have hsl : seg.length = nn := by rw [← hseg, List.length_drop, List.length_take, HCL.out]; have := LS.out; have := LO.out; omega
      rw [hseg, hsl] at hrd
      obtain ⟨AR, hAR⟩ : ∃ AR, (if cb = i * nn then Ab else Ab.map fun x => x.add (i * nn * 1)) = AR := ⟨_, rfl⟩
      have hrd2 : Kd.C (Kd.int .u8) wr AR nn seg := by rw [← hAR]; exact hrd
      rw [hAR] at hcut
      have hcv := string_of_reads (P := Try.prog) (c := cb - i * nn) Try.underlying22 Try.underlying5 Try.underlying9 (readsInt_of.2 (Kd.reads_of_C (d := (0 : Int)) hrd2))
      have HSEG := AM hseg
      clear hlo hhi ci hcb hrd hrd2 hAR hseg hsl
      generalize cb - i * nn = cr at hcut hcv
      go_wp2_with (first | ((with_reducible refine gate_builtin (b := .append) (xs := #[.tmp 37, .tmp 48]) rfl ?_); at_builtin; refine Kd.R_append Kd.string (w0 := w) w.heap.size rfl (.tmp 37) (.tmp 48) 25 9 (.string ⟨#[]⟩) 16 rfl Try.underlying25 info9 rfl (by decide) (by omega) (.slice Au xs.length cu) xs (strOfNums seg) [.string (strOfNums seg)] (fun _ => True) (fun _ => False) rfl rfl ?aP (fun _ hk => hk.elim) ?aF ?aO ?aB ?aS ?aL ?_; (case aP => exact rfl); (case aB => exact bel_ (w := w)); (case aF => exact (fun _ _ => trivial)); (case aO => exact (ro_ HO.out)); (case aS => exact (below_size (bel_ (w := w)))); (case aL => have := HXL.out; have := HI.out; have := HKB.out; omega); intro v49 w35 ho hb hg hat; replace HV := AM (Kd.R_over' (ro_ HV.out) (Kd.R_typed (ro_ HO.out)) (by decide) hg); replace BK := AM (blk_grown (g := g6) (o := .cells #[.slice none 0 0, .int .i64 0] 27 (0, 0)) (bk_ BK.out) hg (Kd.R_ne HO.out BK.out (by decide))); replace HB := AM hb; replace HO := AM ho; clear ho hb hg hat))
      go_roundg (kk - (i + 1))
      case measure => have := HI.out; have := CI.out; omega
      case rel => exact ⟨_, xs ++ [strOfNums seg], _, i + 1, (by have := HI.out; have := CI.out; omega), rfl, rfl, ⟨se_nxt x i HX.out (by have := CI.out; have := HKB.out; omega)⟩, ⟨by rw [List.length_append]; have := HXL.out; show xs.length + 1 ≤ _; omega⟩, ⟨by rw [HT.out, HXS.out, HSEG.out]⟩, HO, HV, BK, HB⟩
    · have x1 : decide (x < a0) = false := decide_eq_false (by rw [HX.out, HKK.out]; omega)
      have HE : Aside0 (xs = se_data t kk nn) := ⟨by rw [HXS.out, show i = kk by have := HI.out; omega, List.take_of_length_le (by rw [se_len]; exact Nat.le_refl _)]⟩
      rw [← HE.out] at HTM
      clear ci
      go_wp2_with (first | ((with_reducible refine gate_callee (f := 54) rfl ?_); refine gl_ (some 52) Try.func54 #[.int .i64 a0, .int .i64 a1] ?_; (with_reducible refine (spec_Cauchy.calls k a0 a1 p1 p2 p3 p4 _ HCM.out).mono ?_); rintro e w9 ⟨v52, rfl, ho, hb⟩; refine ⟨_, rfl, ?_⟩; have HCV := AM (Kd.R_lower ho (below_size HB.out)); replace HO := AM (Kd.R_below HO.out hb); replace BK := AM (blk_below BK.out hb); replace HB := AM (below_step HB.out hb); clear hb ho; obtain ⟨Ac, cc, ec⟩ := Kd.R_slice HCV.out; subst ec) | ((with_reducible refine gate_callee (f := 53) rfl ?_); refine gl_ (some 55) Try.func53 #[.agg #[.int .i64 p1, .int .i64 p2, .slice Ac p3.length cc], .slice Au xs.length cu] ?_; (with_reducible refine (spec_l04Times.calls k p1 p2 Ac cc p3 Au cu xs r _ (Kd.R_reads' HCV.out).2.2 (Kd.R_reads' HCV.out).2.1 (Kd.R_reads' HO.out).2.2 (Kd.R_reads' HO.out).2.1 HTM.out).mono ?_); rintro e w10 ⟨v55, rfl, ho, hb⟩; refine ⟨_, rfl, ?_⟩; have HRR := AM (Kd.R_lower ho (below_size HB.out)); replace BK := AM (blk_below BK.out hb); replace HB := AM (below_step HB.out hb); clear hb ho; obtain ⟨Ar, cr, er⟩ := Kd.R_slice HRR.out; subst er; have hfz0 := blk_frozen BK.out 0; have hfz1 := blk_frozen BK.out 1; have hcz0 : w10.cell? ⟨g6, 0, none⟩ = some (.slice none 0 0) := (blk_cell BK.out 0).trans rfl; have hcz1 : w10.cell? ⟨g6, 1, none⟩ = some (.int .i64 0) := (blk_cell BK.out 1).trans rfl))
      refine bodyPost_ret (results_cell_row rfl _ _ g6 27 #[.slice Ar r.length cr, .int .i64 0] (0, 0) _ rfl bka_ Try.underlying27 rfl (by kernel_rfl)) rfl ?_
      exact ⟨_, rfl, Kd.R_mono (Kd.R_far (p := ⟨g6, 1, none⟩) (Kd.R_far (p := ⟨g6, 0, none⟩) (Kd.R_types HRR.out BK.out (by decide)) (fun _ hk => hk.2) (.slice Ar r.length cr)) (fun _ hk => hk.2) (.int .i64 0)) (fun _ hk => trivial), (HB.out.setCell (p := ⟨g6, 0, none⟩) GK.out _).setCell (p := ⟨g6, 1, none⟩) GK.out _⟩
theorem spec_Encode.calls (k : Nat) (a0 : Int) (a1 : Int) (a2 : ByteArray) (r1 : List ByteArray) (r2 : Int) (w : World) (h : spec_Encode.f k a0 a1 a2 = some (r1, r2)) :
    Calls Try.prog 9 #[.int .i64 a0, .int .i64 a1, .string a2] w fun e w' => ∃ v0_ : Value, e = .returned (.agg #[v0_, .int .i64 r2]) ∧ Kd.R Kd.string 9 w' w.heap.size (fun _ => True) v0_ r1 ∧ Below w.heap.size w w' := by
  have hfl91_0 : ∀ (x0 x1 x2 x3 : Value) (w : World), Sem.run Try.prog (Instr.field 91 (.agg #[x0, x1, x2, x3]) 0) w = .ok (.agg #[x0, x1, x2]) w := by intro x0 x1 x2 x3 w; kernel_rfl
  unfold spec_Encode.f at h
  by_cases ht : a2.size ≤ 20000
  case neg => rw [if_neg ht] at h; cases h
  rw [if_pos ht] at h
  obtain ⟨c, hc, h⟩ := Option.bind_eq_some_iff.mp h
  cases c
  case false =>
    rw [if_neg (by decide)] at h
    injection h with h
    injection h with e1 e2
    subst e1; subst e2
    exact se_no a0 a1 a2 w ht hc
  case true =>
    rw [if_pos rfl] at h
    obtain ⟨n, hn, h⟩ := Option.bind_eq_some_iff.mp h
    split at h
    case isFalse => cases h
    case isTrue q =>
      obtain ⟨⟨p1, p2, p3, p4⟩, hcm, h⟩ := Option.bind_eq_some_iff.mp h
      obtain ⟨r, hr, h⟩ := Option.bind_eq_some_iff.mp h
      injection h with h
      injection h with e1 e2
      subst e1; subst e2
      exact se_yes k a0 a1 a2 n p1 p2 p3 p4 r w ht hc hn q hcm hr
end se

/-! ### impl_isMany_string: function 55 -/
def impl_isMany_string.f (l0 : List ByteArray) : Option (Bool) := some (decide ((l0.length : Int) > 400))
set_option maxHeartbeats 8000000 in
set_option maxRecDepth 100000 in
theorem impl_isMany_string.calls (A0 : Option Addr) (c0 : Nat) (l0 : List ByteArray) (r : Bool) (w : World) (hr0 : Kd.C Kd.string w A0 l0.length l0) (hc0 : l0.length ≤ c0) (h : impl_isMany_string.f l0 = some r) :
    Calls Try.prog 55 #[.slice A0 l0.length c0] w fun e w' => e = .returned (.bool r) ∧ Drawn0 w w' := by
  have HR0 := AM hr0
  have HC0 := AM hc0
  clear hr0 hc0
  have H : (some (decide ((l0.length : Int) > 400))) = some r := h
  clear h
  obtain rfl := Option.some.inj H
  go_enter Try.func55, Try.ntmps55
  go_wp2
  go_ret
  exact ⟨by first | rfl | (simp; done) | (simp [*]; done), by repeat (first | exact Drawn0.refl _ | apply Drawn0.step)⟩

/-! ### impl_within: function 89 -/
def impl_within.f (a0 : Int) (a1 : Int) (a2 : Int) : Option (Bool) := if a0 ≥ a1 then (some (decide (a0 ≤ a2))) else (some false)
set_option maxHeartbeats 8000000 in
set_option maxRecDepth 100000 in
theorem impl_within.calls (a0 : Int) (a1 : Int) (a2 : Int) (r : Bool) (w : World) (h : impl_within.f a0 a1 a2 = some r) :
    Calls Try.prog 89 #[.int .i64 a0, .int .i64 a1, .int .i64 a2] w fun e w' => e = .returned (.bool r) ∧ Drawn0 w w' := by
  have H : (if a0 ≥ a1 then (some (decide (a0 ≤ a2))) else (some false)) = some r := h
  clear h
  by_cases c4 : a0 ≥ a1
  · rw [if_pos c4] at H
    have c4b0 : decide (a1 ≤ a0) = true := decide_eq_true c4
    clear c4
    obtain rfl := Option.some.inj H
    go_enter Try.func89, Try.ntmps89
    go_wp2
    go_ret
    exact ⟨by first | rfl | (simp; done) | (simp [*]; done), by repeat (first | exact Drawn0.refl _ | apply Drawn0.step)⟩
  · rw [if_neg c4] at H
    have c4b0 : decide (a1 ≤ a0) = false := decide_eq_false c4
    clear c4
    obtain rfl := Option.some.inj H
    go_enter Try.func89, Try.ntmps89
    go_wp2
    go_ret
    exact ⟨by first | rfl | (simp; done) | (simp [*]; done), by repeat (first | exact Drawn0.refl _ | apply Drawn0.step)⟩

/-! ### impl_CodeRight: function 56 -/
def impl_CodeRight.f (a0 : Int) (a1 : Int) : Option (Bool) := (impl_within.f a0 1 8).bind fun t208 => (if t208 = true then ((impl_within.f a1 0 6).bind fun t209 => (some t209)) else (some false))
set_option maxHeartbeats 8000000 in
set_option maxRecDepth 100000 in
theorem impl_CodeRight.calls (a0 : Int) (a1 : Int) (r : Bool) (w : World) (h : impl_CodeRight.f a0 a1 = some r) :
    Calls Try.prog 56 #[.int .i64 a0, .int .i64 a1] w fun e w' => e = .returned (.bool r) ∧ Drawn0 w w' := by
  have H : ((impl_within.f a0 1 8).bind fun t208 => (if t208 = true then ((impl_within.f a1 0 6).bind fun t209 => (some t209)) else (some false))) = some r := h
  clear h
  obtain ⟨t208, A3, H⟩ := OB H
  try dsimp only at H
  replace A3 := AM A3
  by_cases c4 : t208 = true
  · subst c4
    rw [if_pos rfl] at H
    obtain ⟨t209, A5, H⟩ := OB H
    try dsimp only at H
    replace A5 := AM A5
    obtain rfl := Option.some.inj H
    go_enter Try.func56, Try.ntmps56
    go_wp2_with (first | ((with_reducible refine gate_callee (f := 89) rfl ?_); refine gl_ (some 6) Try.func89 #[.int .i64 a0, .int .i64 1, .int .i64 8] ?_; (with_reducible refine (impl_within.calls a0 1 8 true _ A3.out).mono ?_); rintro e w' ⟨rfl, ⟨nd, rfl⟩⟩; refine ⟨_, rfl, ?_⟩) | (go_at_call 89; (with_reducible refine (impl_within.calls a1 0 6 t209 _ A5.out).mono ?_); rintro e w' ⟨rfl, ⟨nd, rfl⟩⟩))
    go_ret
    exact ⟨by first | rfl | (simp; done) | (simp [*]; done), by repeat (first | exact Drawn0.refl _ | apply Drawn0.step)⟩
  · replace c4 := Bool.eq_false_iff.mpr c4
    subst c4
    rw [if_neg (show ¬ (false = true) by decide)] at H
    obtain rfl := Option.some.inj H
    go_enter Try.func56, Try.ntmps56
    go_wp2_with (first | ((with_reducible refine gate_callee (f := 89) rfl ?_); refine gl_ (some 6) Try.func89 #[.int .i64 a0, .int .i64 1, .int .i64 8] ?_; (with_reducible refine (impl_within.calls a0 1 8 false _ A3.out).mono ?_); rintro e w' ⟨rfl, ⟨nd, rfl⟩⟩; refine ⟨_, rfl, ?_⟩))
    go_ret
    exact ⟨by first | rfl | (simp; done) | (simp [*]; done), by repeat (first | exact Drawn0.refl _ | apply Drawn0.step)⟩

end Go.Proofs.Ytdbnajnelbebfaa.PFnWhole
