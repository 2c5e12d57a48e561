/- Functions of the law FnExactPackRead: the print's, with walks of this session's own. No statement is proved here. -/
import Derived.WalkLawsBesides
import Derived.Test.YtfffdndeccipnaaDoorVRegFnExactPackRead
-- A program of this session wrote this text: a changed copy of the kit print, with given functions.
import Derived.Test.YtfffdndeccipnaaDoorPFnExactPackReadx0
import Derived.Test.YtfffdndeccipnaaDoorPFnExactPackReadx3
namespace Go.Proofs.YtfffdndeccipnaaDoor.PFnExactPackRead
open Go.RowKit Go.Proofs.YtfffdndeccipnaaDoorW.PrintWords Go.Proofs.YtfffdndeccipnaaDoorW.PrintLast Go.Proofs.YtfffdndeccipnaaDoorW.PrintMore Go.Proofs.YtfffdndeccipnaaDoor.Reg Go.Proofs.YtfffdndeccipnaaDoor.Aut
attribute [local go_sem] max2_int min2_int max_two min_two max_three min_three max_four min_four   -- for this text's walks alone
set_option linter.unusedVariables false
set_option linter.unusedSimpArgs false

/-! ### spec_l07In: function 96 -/
def spec_l07In.l0 : Nat → List ByteArray → ByteArray → Int → Option (Bool)
  | 0, _, _, _ => none
  | k + 1, x0, x1, x5 => if x5 < (x0.length : Int) then (if 0 ≤ x5 then (if (rdOf ByteArray.empty x0 x5).toList = x1.toList then (some true) else (spec_l07In.l0 k x0 x1 (wrap64 (x5 + 1)))) else (none)) else (some false)
def spec_l07In.f (k : Nat) (l0 : List ByteArray) (a1 : ByteArray) : Option (Bool) := spec_l07In.l0 k l0 a1 0
theorem spec_l07In.mono_l : ∀ k, (∀ y0 y1 y2, LeO (spec_l07In.l0 k y0 y1 y2) (spec_l07In.l0 (k + 1) y0 y1 y2))
  | 0 => fun _ _ _ r h => by simp [spec_l07In.l0] at h
  | k + 1 => by
    have ih0 := spec_l07In.mono_l k
    · intro y0 y1 y2
      unfold spec_l07In.l0
      repeat' first
      | (with_reducible exact ih0 _ _ _)
      | (with_reducible exact LeO.refl _)
      | (with_reducible exact LeO.none _)
      | (with_reducible refine LeO.ite ?_ ?_)
      | (with_reducible refine LeO.bind ?_ (fun _ => ?_))
      | exact ih0 _ _ _
      | exact LeO.none _
      | refine LeO.ite ?_ ?_
      | refine LeO.bind ?_ (fun _ => ?_)
theorem spec_l07In.mono : ∀ a0 a1 k, LeO (spec_l07In.f k a0 a1) (spec_l07In.f (k + 1) a0 a1) := by
  intro a0 a1 k
  have ih0 := spec_l07In.mono_l k
  unfold spec_l07In.f
  repeat' first
      | (with_reducible exact ih0 _ _ _)
      | (with_reducible exact LeO.refl _)
      | (with_reducible exact LeO.none _)
      | (with_reducible refine LeO.ite ?_ ?_)
      | (with_reducible refine LeO.bind ?_ (fun _ => ?_))
      | exact ih0 _ _ _
      | exact LeO.none _
      | refine LeO.ite ?_ ?_
      | refine LeO.bind ?_ (fun _ => ?_)
set_option maxHeartbeats 8000000 in
set_option maxRecDepth 100000 in
theorem spec_l07In.calls (k : Nat) (A0 : Option Addr) (c0 : Nat) (l0 : List ByteArray) (a1 : ByteArray) (r : Bool) (w : World) (hr0 : Kd.C Kd.string w A0 l0.length l0) (hc0 : l0.length ≤ c0) (h : spec_l07In.f k l0 a1 = some r) :
    Calls Tryd.prog 96 #[.slice A0 l0.length c0, .string a1] w fun e w' => e = .returned (.bool r) ∧ Drawn0 w w' := by
  have HR0 := AM hr0
  have HC0 := AM hc0
  clear hr0 hc0
  have H : (spec_l07In.l0 k l0 a1 0) = some r := h
  clear h
  have H' := AM H
  clear H
  go_enter Tryd.func96, Tryd.ntmps96
  go_wp2
  go_loopg [5] k (fun kq v5 w' => ∃ (x5_1 : Int), v5 = .int .i64 x5_1 ∧ Aside0 (spec_l07In.l0 kq l0 a1 x5_1 = some r) ∧ Aside0 (kq ≤ k) ∧ Drawn0 w w')
  case atStart => exact ⟨(0), (by first | rfl | (simp; done) | (simp [*]; done)), H', ⟨Nat.le_refl _⟩, by repeat (first | exact Drawn0.refl _ | apply Drawn0.step)⟩
  case round =>
    clear H'
    try clear p2
    obtain ⟨x5_1, rfl, HA, HK1, ⟨m1, rfl⟩⟩ := hrel
    cases gk with
    | zero => exact absurd HA.out (by simp [spec_l07In.l0])
    | succ k1 =>
      have H := HA.out
      clear HA
      simp only [spec_l07In.l0] at H
      by_cases c3 : x5_1 < (l0.length : Int)
      · rw [if_pos c3] at H
        have c3b0 : decide (x5_1 < (l0.length : Int)) = true := decide_eq_true c3
        clear c3
        by_cases c4 : 0 ≤ x5_1
        · rw [if_pos c4] at H
          have c4b0 : decide (0 ≤ x5_1) = true := decide_eq_true c4
          clear c4
          by_cases c5 : (rdOf ByteArray.empty l0 x5_1).toList = a1.toList
          · rw [if_pos c5] at H
            have c5b0 : ((rdOf ByteArray.empty l0 x5_1).toList == a1.toList) = true := beq_iff_eq.mpr c5
            have c5b1 : ((rdOf ByteArray.empty l0 x5_1).toList != a1.toList) = false := bne_eq_false_iff_eq.mpr c5
            clear c5
            obtain rfl := Option.some.inj H
            have p190 : 0 ≤ (x5_1 : Int) := of_decide_eq_true (by first | (with_reducible assumption) | assumption)
            have q190 : x5_1 < (l0.length : Int) := of_decide_eq_true (by first | (with_reducible assumption) | assumption)
            obtain ⟨ad190, e190, hx190_0⟩ := Kd.at_string HR0.out x5_1 p190 q190
            cases e190
            replace p190 := eq_true p190
            replace q190 := eq_true q190
            go_wp2
            go_ret
            exact ⟨by first | rfl | (simp; done) | (simp [*]; done), by repeat (first | exact Drawn0.refl _ | apply Drawn0.step)⟩
          · rw [if_neg c5] at H
            have c5b0 : ((rdOf ByteArray.empty l0 x5_1).toList == a1.toList) = false := beq_eq_false_iff_ne.mpr c5
            have c5b1 : ((rdOf ByteArray.empty l0 x5_1).toList != a1.toList) = true := bne_iff_ne.mpr c5
            have H' := AM H
            clear H
            have p190 : 0 ≤ (x5_1 : Int) := of_decide_eq_true (by first | (with_reducible assumption) | assumption)
            have q190 : x5_1 < (l0.length : Int) := of_decide_eq_true (by first | (with_reducible assumption) | assumption)
            obtain ⟨ad190, e190, hx190_0⟩ := Kd.at_string HR0.out x5_1 p190 q190
            cases e190
            replace p190 := eq_true p190
            replace q190 := eq_true q190
            go_wp2
            go_roundg k1
            case measure => have := HK1.out; omega
            case rel => exact ⟨(wrap64 (x5_1 + 1)), (by first | rfl | (simp; done) | (simp [*]; done)), H', ⟨by have := HK1.out; omega⟩, by repeat (first | exact Drawn0.refl _ | apply Drawn0.step)⟩
        · rw [if_neg c4] at H
          exact absurd H (by simp)
      · rw [if_neg c3] at H
        have c3b0 : decide (x5_1 < (l0.length : Int)) = false := decide_eq_false c3
        clear c3
        obtain rfl := Option.some.inj H
        go_wp2
        go_ret
        exact ⟨by first | rfl | (simp; done) | (simp [*]; done), by repeat (first | exact Drawn0.refl _ | apply Drawn0.step)⟩

/-! ### spec_PutText: function 125 -/
def spec_PutText.f (k : Nat) (a0 : ByteArray) : Option (ByteArray) := if (a0.size : Int) > 20000 then (some (⟨#[]⟩ : ByteArray)) else ((spec_PutNum.f k (a0.size : Int)).bind fun t191 => (if t191.size + a0.size ≤ 9223372036854775807 then (some (t191 ++ a0)) else (none)))
theorem spec_PutText.mono : ∀ a0 k, LeO (spec_PutText.f k a0) (spec_PutText.f (k + 1) a0) := by
  intro a0 k
  unfold spec_PutText.f
  repeat' first
      | (with_reducible exact spec_PutNum.mono _ _)
      | (with_reducible exact LeO.refl _)
      | (with_reducible exact LeO.none _)
      | (with_reducible refine LeO.ite ?_ ?_)
      | (with_reducible refine LeO.bind ?_ (fun _ => ?_))
      | exact spec_PutNum.mono _ _
      | exact LeO.none _
      | refine LeO.ite ?_ ?_
      | refine LeO.bind ?_ (fun _ => ?_)
set_option maxHeartbeats 8000000 in
set_option maxRecDepth 100000 in
theorem spec_PutText.calls (k : Nat) (a0 : ByteArray) (r : ByteArray) (w : World) (h : spec_PutText.f k a0 = some r) :
    Calls Tryd.prog 125 #[.string a0] w fun e w' => e = .returned (.string r) ∧ Below w.heap.size w w' := by
  have HB := AM (Below.refl w.heap.size w)
  have H : (if (a0.size : Int) > 20000 then (some (⟨#[]⟩ : ByteArray)) else ((spec_PutNum.f k (a0.size : Int)).bind fun t191 => (if t191.size + a0.size ≤ 9223372036854775807 then (some (t191 ++ a0)) else (none)))) = some r := h
  clear h
  by_cases c2 : (a0.size : Int) > 20000
  · rw [if_pos c2] at H
    have c2b0 : decide (20000 < (a0.size : Int)) = true := decide_eq_true c2
    have c2b1 : decide (20000 < a0.size) = true := decide_eq_true (by omega)
    clear c2
    obtain rfl := Option.some.inj H
    go_enter Tryd.func125, Tryd.ntmps125
    go_wp2
    go_ret
    exact ⟨ri_, bel_⟩
  · rw [if_neg c2] at H
    have c2b0 : decide (20000 < (a0.size : Int)) = false := decide_eq_false c2
    have c2b1 : decide (20000 < a0.size) = false := decide_eq_false (by omega)
    clear c2
    obtain ⟨t191, A3, H⟩ := OB H
    try dsimp only at H
    replace A3 := AM A3
    by_cases c4 : t191.size + a0.size ≤ 9223372036854775807
    · rw [if_pos c4] at H
      have c4b0 := eq_true c4
      have c4b1 : decide (t191.size + a0.size ≤ 9223372036854775807) = true := decide_eq_true c4
      try have c4b2 : (9223372036854775807 < t191.size + a0.size) = False := eq_false (Nat.not_lt.2 c4)
      obtain rfl := Option.some.inj H
      go_enter Tryd.func125, Tryd.ntmps125
      go_wp2_with (first | ((with_reducible refine gate_callee (f := 119) rfl ?_); refine gl_ (some 8) Tryd.func119 #[.int .i64 (a0.size : Int)] ?_; (with_reducible refine (spec_PutNum.calls k (a0.size : Int) t191 _ A3.out).mono ?_); rintro e w5 ⟨rfl, hb⟩; refine ⟨_, rfl, ?_⟩; replace HB := AM (below_step bel_ hb); (try clear hb); (try clear hb2); (try clear hk); (try clear hi)))
      go_ret
      exact ⟨ri_, bel_⟩
    · rw [if_neg c4] at H
      exact absurd H (by simp)

/-! ### spec_l07Record: function 97 -/
def spec_l07Record.f (k : Nat) (a0_0 : Int) (a0_1 : ByteArray) : Option (ByteArray) := (spec_BlobKey.f k a0_0 a0_1).bind fun t193 => (if 1 + t193.size ≤ 9223372036854775807 then ((spec_PutNum.f k a0_0).bind fun t194 => (if ((⟨#[66]⟩ : ByteArray) ++ t193).size + t194.size ≤ 9223372036854775807 then ((spec_PutText.f k a0_1).bind fun t195 => (if (((⟨#[66]⟩ : ByteArray) ++ t193) ++ t194).size + t195.size ≤ 9223372036854775807 then (some ((((⟨#[66]⟩ : ByteArray) ++ t193) ++ t194) ++ t195)) else (none))) else (none))) else (none))
theorem spec_l07Record.mono : ∀ a0 a1 k, LeO (spec_l07Record.f k a0 a1) (spec_l07Record.f (k + 1) a0 a1) := by
  intro a0 a1 k
  unfold spec_l07Record.f
  repeat' first
      | (with_reducible exact spec_BlobKey.mono _ _ _)
      | (with_reducible exact spec_PutNum.mono _ _)
      | (with_reducible exact spec_PutText.mono _ _)
      | (with_reducible exact LeO.refl _)
      | (with_reducible exact LeO.none _)
      | (with_reducible refine LeO.ite ?_ ?_)
      | (with_reducible refine LeO.bind ?_ (fun _ => ?_))
      | exact spec_BlobKey.mono _ _ _
      | exact spec_PutNum.mono _ _
      | exact spec_PutText.mono _ _
      | exact LeO.none _
      | refine LeO.ite ?_ ?_
      | refine LeO.bind ?_ (fun _ => ?_)
def spec_l07Record.T1 : Bool × List (List Nat × List Nat) := (true, [([], []), ([0], [0]), ([1], [1]), ([], []), ([3], [3]), ([4, 1], [4]), ([2, 5], [2, 5]), ([], []), ([7], [7]), ([8, 5], [8]), ([6, 9], [6, 9]), ([10, 9, 0, 1, 2, 3, 4, 5, 6, 7, 8, 9, 10], [10])])
def spec_l07Record.B1 : List Nat := [0, 1, 3, 0, 8, 27, 63, 0, 128, 443, 1023, 2047]
theorem spec_l07Record.tab1 : rtab .any (opsOf Tryd.f97 1) = spec_l07Record.T1 := by kernel_rfl
theorem spec_l07Record.bits1 : waitsOk spec_l07Record.T1.2 spec_l07Record.B1 = true := by kernel_rfl
set_option maxHeartbeats 8000000 in
set_option maxRecDepth 100000 in
theorem spec_l07Record.calls (k : Nat) (a0_0 : Int) (a0_1 : ByteArray) (r : ByteArray) (w : World) (h : spec_l07Record.f k a0_0 a0_1 = some r) :
    Calls Tryd.prog 97 #[.agg #[.int .i64 a0_0, .string a0_1]] w fun e w' => e = .returned (.string r) ∧ Below w.heap.size w w' := by
  have hu60 := Tryd.underlying60
  have HB := AM (Below.refl w.heap.size w)
  have H : ((spec_BlobKey.f k a0_0 a0_1).bind fun t193 => (if 1 + t193.size ≤ 9223372036854775807 then ((spec_PutNum.f k a0_0).bind fun t194 => (if ((⟨#[66]⟩ : ByteArray) ++ t193).size + t194.size ≤ 9223372036854775807 then ((spec_PutText.f k a0_1).bind fun t195 => (if (((⟨#[66]⟩ : ByteArray) ++ t193) ++ t194).size + t195.size ≤ 9223372036854775807 then (some ((((⟨#[66]⟩ : ByteArray) ++ t193) ++ t194) ++ t195)) else (none))) else (none))) else (none))) = some r := h
  clear h
  obtain ⟨t193, A2, H⟩ := OB H
  try dsimp only at H
  replace A2 := AM A2
  by_cases c3 : 1 + t193.size ≤ 9223372036854775807
  · rw [if_pos c3] at H
    have c3b0 := eq_true c3
    have c3b1 : decide (1 + t193.size ≤ 9223372036854775807) = true := decide_eq_true c3
    try have c3b2 : (9223372036854775807 < 1 + t193.size) = False := eq_false (Nat.not_lt.2 c3)
    obtain ⟨t194, A4, H⟩ := OB H
    try dsimp only at H
    replace A4 := AM A4
    by_cases c5 : ((⟨#[66]⟩ : ByteArray) ++ t193).size + t194.size ≤ 9223372036854775807
    · rw [if_pos c5] at H
      have c5b0 := eq_true c5
      have c5b1 : decide (((⟨#[66]⟩ : ByteArray) ++ t193).size + t194.size ≤ 9223372036854775807) = true := decide_eq_true c5
      try have c5b2 : (9223372036854775807 < ((⟨#[66]⟩ : ByteArray) ++ t193).size + t194.size) = False := eq_false (Nat.not_lt.2 c5)
      try have c5b3 : (9223372036854775807 < 1 + t193.size + t194.size) = False := eq_false (Nat.not_lt.2 (by have z := c5; simp only [ByteArray.size_append] at z; exact z))
      obtain ⟨t195, A6, H⟩ := OB H
      try dsimp only at H
      replace A6 := AM A6
      by_cases c7 : (((⟨#[66]⟩ : ByteArray) ++ t193) ++ t194).size + t195.size ≤ 9223372036854775807
      · rw [if_pos c7] at H
        have c7b0 := eq_true c7
        have c7b1 : decide ((((⟨#[66]⟩ : ByteArray) ++ t193) ++ t194).size + t195.size ≤ 9223372036854775807) = true := decide_eq_true c7
        try have c7b2 : (9223372036854775807 < (((⟨#[66]⟩ : ByteArray) ++ t193) ++ t194).size + t195.size) = False := eq_false (Nat.not_lt.2 c7)
        try have c7b3 : (9223372036854775807 < 1 + t193.size + t194.size + t195.size) = False := eq_false (Nat.not_lt.2 (by have z := c7; simp only [ByteArray.size_append] at z; exact z))
        obtain rfl := Option.some.inj H
        go_enter Tryd.func97, Tryd.ntmps97
        try go_wp2_with (first | ((with_reducible refine gate_dst (N := 1) rfl ?_); refine be_ 1 #[.int .i64 a0_0, .string a0_1] 60 ?_; intro gb192 hg w8 hbox hb; have BK192 := AM hbox; have GW192 := AM ((by rw [hg]; exact (below_size bel_) : w.heap.size ≤ gb192)); have GE192 := AM ((by rw [hg]; exact (below_size bel_) : w.heap.size ≤ gb192)); replace HB := AM (below_step bel_ hb); clear hb hbox hg))
        replace BK192 := AM (blk_drew BK192.out)
        replace HB := AM (below_drew1 HB.out)
        refine start_ (n := 12) (S := fun w' => w'.cell? ⟨gb192, 0, none⟩ = some (.int .i64 a0_0) ∧ w'.cell? ⟨gb192, 1, none⟩ = some (.string a0_1)) (ds := []) #[false, false, false, false, false, false, false, false, false, false, false, false] (by kernel_rfl) rfl rfl ⟨(blk_cell BK192.out 0).trans rfl, (blk_cell BK192.out 1).trans rfl⟩ (fun hHeld => ?_); refine with_tabW spec_l07Record.tab1 spec_l07Record.bits1 (fun HT_ HW_ => ?_)
        generalize w8.drew = w9 at BK192 HB hHeld ⊢
        refine pu_ HT_ 3 (some 6) #[false, false, false, true, false, false, false, false, false, false, false, false] ?_
        refine pu_ HT_ 7 (some 10) #[false, false, false, true, false, false, false, true, false, false, false, false] ?_
        refine ta_ HT_ HW_ 0 (some 3) #[true, false, false, true, false, false, false, true, false, false, false, false] hHeld ?_
        refine ta_ HT_ HW_ 4 (some 7) #[true, false, false, true, true, false, false, true, false, false, false, false] hHeld ?_
        refine ta_ HT_ HW_ 8 (some 11) #[true, false, false, true, true, false, false, true, true, false, false, false] hHeld ?_
        refine on_ HT_ 1 (some 4) #[true, true, false, true, true, false, false, true, true, false, false, false] (fun K hK => ?_)
        refine go1_ Tryd.func83 #[.agg #[.int .i64 a0_0, .string a0_1]] ?_
        with_reducible refine (spec_BlobKey.calls k a0_0 a0_1 t193 _ A2.out).mono ?_
        rintro e w10 ⟨rfl, hb⟩
        refine ⟨_, rfl, ?_⟩
        replace BK192 := AM (blk_below (g := gb192) (o := .cells #[.int .i64 a0_0, .string a0_1] 60 (0, 0)) (bk_ BK192.out) hb)
        replace HB := AM (below_step bel_ hb)
        (try clear hb)
        (try clear hb2)
        (try clear hk)
        (try clear hi)
        refine hK.out _ _ ⟨(blk_cell BK192.out 0).trans rfl, (blk_cell BK192.out 1).trans rfl⟩ (fun hHeld => ?_)
        clear hK K
        refine nm_ ?_
        refine pu_ HT_ 2 (some 5) #[true, true, true, true, true, false, false, true, true, false, false, false] ?_
        refine on_ HT_ 5 (some 8) #[true, true, true, true, true, true, false, true, true, false, false, false] (fun K hK => ?_)
        refine go1_ Tryd.func119 #[.int .i64 a0_0] ?_
        with_reducible refine (spec_PutNum.calls k a0_0 t194 _ A4.out).mono ?_
        rintro e w11 ⟨rfl, hb⟩
        refine ⟨_, rfl, ?_⟩
        replace BK192 := AM (blk_below (g := gb192) (o := .cells #[.int .i64 a0_0, .string a0_1] 60 (0, 0)) (bk_ BK192.out) hb)
        replace HB := AM (below_step bel_ hb)
        (try clear hb)
        (try clear hb2)
        (try clear hk)
        (try clear hi)
        refine hK.out _ _ ⟨(blk_cell BK192.out 0).trans rfl, (blk_cell BK192.out 1).trans rfl⟩ (fun hHeld => ?_)
        clear hK K
        refine nm_ ?_
        refine pu_ HT_ 6 (some 9) #[true, true, true, true, true, true, true, true, true, false, false, false] ?_
        refine on_ HT_ 9 (some 12) #[true, true, true, true, true, true, true, true, true, true, false, false] (fun K hK => ?_)
        refine go1_ Tryd.func125 #[.string a0_1] ?_
        with_reducible refine (spec_PutText.calls k a0_1 t195 _ A6.out).mono ?_
        rintro e w12 ⟨rfl, hb⟩
        refine ⟨_, rfl, ?_⟩
        replace BK192 := AM (blk_below (g := gb192) (o := .cells #[.int .i64 a0_0, .string a0_1] 60 (0, 0)) (bk_ BK192.out) hb)
        replace HB := AM (below_step bel_ hb)
        (try clear hb)
        (try clear hb2)
        (try clear hk)
        (try clear hi)
        refine hK.out _ _ ⟨(blk_cell BK192.out 0).trans rfl, (blk_cell BK192.out 1).trans rfl⟩ (fun hHeld => ?_)
        clear hK K
        refine nm_ ?_
        refine pu_ HT_ 10 (some 13) #[true, true, true, true, true, true, true, true, true, true, true, false] ?_
        refine pu_ HT_ 11 (some 2) #[true, true, true, true, true, true, true, true, true, true, true, true] ?_
        refine dn_ HT_ ?_
        try go_wp2
        go_ret
        exact ⟨ri_, bel_⟩
      · rw [if_neg c7] at H
        exact absurd H (by simp)
    · rw [if_neg c5] at H
      exact absurd H (by simp)
  · rw [if_neg c3] at H
    exact absurd H (by simp)

/-! ### spec_l07Pack: function 50 -/
mutual
def spec_l07Pack.j0 : Nat → List (S60) → Bool → Option (ByteArray × Bool)
  | 0, _, _ => none
  | k + 1, x0, x15 => if x15 = true then (some ((⟨#[]⟩ : ByteArray), false)) else (spec_l07Pack.l0 k x0 (([] : List Int)) (([] : List ByteArray)) 0)
def spec_l07Pack.l0 : Nat → List (S60) → List Int → List ByteArray → Int → Option (ByteArray × Bool)
  | 0, _, _, _, _ => none
  | k + 1, x0, x4, x5, x6 => if x6 < (x0.length : Int) then (if 0 ≤ x6 then ((spec_BlobRight.f ((rd_T60 x0 x6).f0) ((rd_T60 x0 x6).f1)).bind fun t203 => (if t203 = true then ((spec_BlobKey.f k ((rd_T60 x0 x6).f0) ((rd_T60 x0 x6).f1)).bind fun t205 => ((spec_l07In.f k x5 t205).bind fun t206 => (if t206 = true then (some ((⟨#[]⟩ : ByteArray), false)) else (if x5.length < 8796093022208 then ((spec_l07Record.f k ((rd_T60 x0 x6).f0) ((rd_T60 x0 x6).f1)).bind fun t211 => (if x4.length + t211.size < 140737488355328 then (spec_l07Pack.l0 k x0 (x4 ++ bytesOf t211) (x5 ++ [t205]) (wrap64 (x6 + 1))) else (none))) else (none))))) else (some ((⟨#[]⟩ : ByteArray), false)))) else (none)) else (some (strOfNums x4, decide ((x4.length : Int) ≤ 12000)))
end
def spec_l07Pack.f (k : Nat) (l0 : List (S60)) : Option (ByteArray × Bool) := if (l0.length : Int) < 1 then (spec_l07Pack.j0 k l0 true) else (spec_l07Pack.j0 k l0 (decide ((l0.length : Int) > 40)))
theorem spec_l07Pack.mono_l : ∀ k, (∀ y0 y1, LeO (spec_l07Pack.j0 k y0 y1) (spec_l07Pack.j0 (k + 1) y0 y1)) ∧ (∀ y0 y1 y2 y3, LeO (spec_l07Pack.l0 k y0 y1 y2 y3) (spec_l07Pack.l0 (k + 1) y0 y1 y2 y3))
  | 0 => ⟨fun _ _ r h => by simp [spec_l07Pack.j0] at h, fun _ _ _ _ r h => by simp [spec_l07Pack.l0] at h⟩
  | k + 1 => by
    obtain ⟨ih0, ih1⟩ := spec_l07Pack.mono_l k
    refine ⟨?_, ?_⟩
    · intro y0 y1
      unfold spec_l07Pack.j0
      repeat' first
      | (with_reducible exact ih0 _ _)
      | (with_reducible exact ih1 _ _ _ _)
      | (with_reducible exact spec_BlobKey.mono _ _ _)
      | (with_reducible exact spec_l07In.mono _ _ _)
      | (with_reducible exact spec_l07Record.mono _ _ _)
      | (with_reducible exact LeO.refl _)
      | (with_reducible exact LeO.none _)
      | (with_reducible refine LeO.ite ?_ ?_)
      | (with_reducible refine LeO.bind ?_ (fun _ => ?_))
      | exact ih0 _ _
      | exact ih1 _ _ _ _
      | exact spec_BlobKey.mono _ _ _
      | exact spec_l07In.mono _ _ _
      | exact spec_l07Record.mono _ _ _
      | exact LeO.none _
      | refine LeO.ite ?_ ?_
      | refine LeO.bind ?_ (fun _ => ?_)
    · intro y0 y1 y2 y3
      unfold spec_l07Pack.l0
      repeat' first
      | (with_reducible exact ih0 _ _)
      | (with_reducible exact ih1 _ _ _ _)
      | (with_reducible exact spec_BlobKey.mono _ _ _)
      | (with_reducible exact spec_l07In.mono _ _ _)
      | (with_reducible exact spec_l07Record.mono _ _ _)
      | (with_reducible exact LeO.refl _)
      | (with_reducible exact LeO.none _)
      | (with_reducible refine LeO.ite ?_ ?_)
      | (with_reducible refine LeO.bind ?_ (fun _ => ?_))
      | exact ih0 _ _
      | exact ih1 _ _ _ _
      | exact spec_BlobKey.mono _ _ _
      | exact spec_l07In.mono _ _ _
      | exact spec_l07Record.mono _ _ _
      | exact LeO.none _
      | refine LeO.ite ?_ ?_
      | refine LeO.bind ?_ (fun _ => ?_)
theorem spec_l07Pack.mono : ∀ a0 k, LeO (spec_l07Pack.f k a0) (spec_l07Pack.f (k + 1) a0) := by
  intro a0 k
  obtain ⟨ih0, ih1⟩ := spec_l07Pack.mono_l k
  unfold spec_l07Pack.f
  repeat' first
      | (with_reducible exact ih0 _ _)
      | (with_reducible exact ih1 _ _ _ _)
      | (with_reducible exact spec_BlobKey.mono _ _ _)
      | (with_reducible exact spec_l07In.mono _ _ _)
      | (with_reducible exact spec_l07Record.mono _ _ _)
      | (with_reducible exact LeO.refl _)
      | (with_reducible exact LeO.none _)
      | (with_reducible refine LeO.ite ?_ ?_)
      | (with_reducible refine LeO.bind ?_ (fun _ => ?_))
      | exact ih0 _ _
      | exact ih1 _ _ _ _
      | exact spec_BlobKey.mono _ _ _
      | exact spec_l07In.mono _ _ _
      | exact spec_l07Record.mono _ _ _
      | exact LeO.none _
      | refine LeO.ite ?_ ?_
      | refine LeO.bind ?_ (fun _ => ?_)
set_option maxHeartbeats 8000000 in
set_option maxRecDepth 100000 in
theorem spec_l07Pack.calls (k : Nat) (A0 : Option Addr) (c0 : Nat) (l0 : List (S60)) (r1 : ByteArray) (r2 : Bool) (w : World) (hr0 : Kd.C k60 w A0 l0.length l0) (hc0 : l0.length ≤ c0) (h : spec_l07Pack.f k l0 = some (r1, r2)) :
    Calls Tryd.prog 50 #[.slice A0 l0.length c0] w fun e w' => e = .returned (.tuple #[.string r1, .bool r2]) ∧ Below w.heap.size w w' := by
  have hu60 := Tryd.underlying60
  have HR0 := AM hr0
  have HC0 := AM hc0
  clear hr0 hc0
  have HB := AM (Below.refl w.heap.size w)
  have H : (if (l0.length : Int) < 1 then (spec_l07Pack.j0 k l0 true) else (spec_l07Pack.j0 k l0 (decide ((l0.length : Int) > 40)))) = some (r1, r2) := h
  clear h
  have HC2 := AM H
  clear H
  go_enter Tryd.func50, Tryd.ntmps50
  go_upto_region 1 with (fail)
  go_cut [15] (fun v15 wc => ∃ (kq : Nat) (x15_1 : Bool), v15 = .bool x15_1 ∧ Aside0 (spec_l07Pack.j0 kq l0 x15_1 = some (r1, r2)) ∧ Aside0 (kq ≤ k) ∧ Aside0 (Below w.heap.size w wc))
  case first =>
    have H := HC2.out
    clear HC2
    by_cases c3 : (l0.length : Int) < 1
    · rw [if_pos c3] at H
      have c3b0 : decide ((l0.length : Int) < 1) = true := decide_eq_true c3
      have c3b1 : decide (l0.length < 1) = true := decide_eq_true (by omega)
      clear c3
      (first | rw [c3b0] | (simp only [i64_w, i32_w]; rw [c3b0]) | skip)
      have H' := AM H
      clear H
      go_wp2
      go_meet
      case rel => exact ⟨_, (true), (by first | rfl | (simp; done) | (simp [*]; done)), H', ⟨by first | omega | exact Nat.le_refl _⟩, ⟨bel_⟩⟩
    · rw [if_neg c3] at H
      have c3b0 : decide ((l0.length : Int) < 1) = false := decide_eq_false c3
      have c3b1 : decide (l0.length < 1) = false := decide_eq_false (by omega)
      clear c3
      (first | rw [c3b0] | (simp only [i64_w, i32_w]; rw [c3b0]) | skip)
      have H' := AM H
      clear H
      go_wp2
      go_meet
      case rel => exact ⟨_, (decide ((l0.length : Int) > 40)), (by first | rfl | (simp; done) | (simp [*]; done)), H', ⟨by first | omega | exact Nat.le_refl _⟩, ⟨bel_⟩⟩
  case rest =>
    clear HC2
    try clear p2
    try clear c3
    try clear c3b0
    try clear c3b1
    obtain ⟨kq, x15_1, rfl, HA, HJ1, HB⟩ := hcut
    cases kq with
    | zero => exact absurd HA.out (by simp [spec_l07Pack.j0])
    | succ kj1 =>
      have H := HA.out
      clear HA
      simp only [spec_l07Pack.j0] at H
      by_cases c4 : x15_1 = true
      · subst c4
        rw [if_pos rfl] at H
        simp only [Option.some.injEq, Prod.mk.injEq] at H
        obtain ⟨rfl, rfl⟩ := H
        go_wp2
        go_ret2
        exact ⟨ri_, bel_⟩
      · replace c4 := Bool.eq_false_iff.mpr c4
        subst c4
        rw [if_neg (show ¬ (false = true) by decide)] at H
        obtain ⟨y196, hy196⟩ : ∃ y_ : List Int, y_ = (([] : List Int)) := ⟨_, rfl⟩
        replace H : (spec_l07Pack.l0 kj1 l0 y196 (([] : List ByteArray)) 0) = some (r1, r2) := by first | (rw [hy196]; with_reducible exact H) | (have H2_ := (Option.bind_some _ _).symm.trans H; rw [hy196]; with_reducible exact H2_) | (have H2_ := (Option.bind_some _ _).symm.trans H; with_reducible exact H2_) | with_reducible exact H | (rw [hy196]; exact H) | exact H
        have Ny196 := AM hy196
        clear hy196
        obtain ⟨y199, hy199⟩ : ∃ y_ : List ByteArray, y_ = (([] : List ByteArray)) := ⟨_, rfl⟩
        replace H : (spec_l07Pack.l0 kj1 l0 y196 y199 0) = some (r1, r2) := by first | (rw [hy199]; with_reducible exact H) | (have H2_ := (Option.bind_some _ _).symm.trans H; rw [hy199]; with_reducible exact H2_) | (have H2_ := (Option.bind_some _ _).symm.trans H; with_reducible exact H2_) | with_reducible exact H | (rw [hy199]; exact H) | exact H
        have Ny199 := AM hy199
        clear hy199
        have H' := AM H
        clear H
        go_wp2_with (first | ((with_reducible refine gate_dst (N := 16) rfl ?_); (try (refine gate_guard (by rfl) ?_; dsimp only)); refine Kd.R_lit (Kd.int .u8) _ 5 ?hg (N := 16) ?hd (xs := ([] : List Int)) (inner := []) (ok := fun _ => True) (okp := fun _ => True) ?hr ?hp (fun _ hk => hk) trivial (Below.refl _ _) (Nat.le_refl _) (by simp) ?_; (case hd => rfl); (case hg => rfl); (case hr => first | (go_simp; done) | (go_simp; rfl)); (case hp => exact (Reps.none _ _)); intro v197 w5 ho6 hb hg_ hnew_; clear hg_ hnew_; (first | rw [← Ny196.out] at ho6 | (simp only [Int.reduceToNat] at ho6; rw [← Ny196.out] at ho6)); have HO198 := AM (Kd.R_lower ho6 (below_size bel_)); replace HB := AM (below_step bel_ hb); clear hb ho6) | ((with_reducible refine gate_dst (N := 17) rfl ?_); (try (refine gate_guard (by rfl) ?_; dsimp only)); refine Kd.R_lit Kd.string _ 9 ?hg (N := 17) ?hd (xs := ([] : List ByteArray)) (inner := []) (ok := fun _ => True) (okp := fun _ => True) ?hr ?hp (fun _ hk => hk) trivial (Below.refl _ _) (Nat.le_refl _) (by simp) ?_; (case hd => rfl); (case hg => rfl); (case hr => first | (go_simp; done) | (go_simp; rfl)); (case hp => exact (Reps.none _ _)); intro v200 w7 ho8 hb hg_ hnew_; clear hg_ hnew_; (first | rw [← Ny199.out] at ho8 | (simp only [Int.reduceToNat] at ho8; rw [← Ny199.out] at ho8)); replace HO198 := AM (Kd.R_below (ro_ HO198.out) hb); have HO201 := AM (Kd.R_lower ho8 (below_size bel_)); replace HB := AM (below_step bel_ hb); clear hb ho8))
        go_loopg [4, 5, 6] kj1 (fun kq v4 v5 v6 w' => ∃ (x4_2 : List Int) (x5_2 : List ByteArray) (x6_2 : Int), v6 = .int .i64 x6_2 ∧ Aside0 (spec_l07Pack.l0 kq l0 x4_2 x5_2 x6_2 = some (r1, r2)) ∧ Aside0 (kq ≤ kj1) ∧ Aside0 (Kd.R (Kd.int .u8) 5 w' w.heap.size (fun _ => True) v4 x4_2) ∧ Aside0 (Kd.R Kd.string 9 w' w.heap.size (fun _ => True) v5 x5_2) ∧ Aside0 (Below w.heap.size w w'))
        case atStart => exact ⟨(y196), (y199), (0), (by first | rfl | (simp; done) | (simp [*]; done)), H', ⟨Nat.le_refl _⟩, ⟨ro_ HO198.out⟩, ⟨ro_ HO201.out⟩, ⟨bel_⟩⟩
        case round =>
          clear H'
          try clear p2
          try clear c3
          try clear c3b0
          try clear c3b1
          try clear c4
          try clear c5
          try clear p2
          obtain ⟨x4_2, x5_2, x6_2, rfl, HA, HK2, HO_4, HO_5, HB⟩ := hrel
          cases gk with
          | zero => exact absurd HA.out (by simp [spec_l07Pack.l0])
          | succ k2 =>
            have H := HA.out
            clear HA
            simp only [spec_l07Pack.l0] at H
            by_cases c9 : x6_2 < (l0.length : Int)
            · rw [if_pos c9] at H
              have c9b0 : decide (x6_2 < (l0.length : Int)) = true := decide_eq_true c9
              clear c9
              by_cases c10 : 0 ≤ x6_2
              · rw [if_pos c10] at H
                have c10b0 : decide (0 ≤ x6_2) = true := decide_eq_true c10
                clear c10
                obtain ⟨t203, A11, H⟩ := OB H
                try dsimp only at H
                replace A11 := AM A11
                by_cases c12 : t203 = true
                · subst c12
                  rw [if_pos rfl] at H
                  obtain ⟨t205, A13, H⟩ := OB H
                  try dsimp only at H
                  replace A13 := AM A13
                  obtain ⟨t206, A14, H⟩ := OB H
                  try dsimp only at H
                  replace A14 := AM A14
                  by_cases c15 : t206 = true
                  · subst c15
                    rw [if_pos rfl] at H
                    simp only [Option.some.injEq, Prod.mk.injEq] at H
                    obtain ⟨rfl, rfl⟩ := H
                    have p202 : 0 ≤ (x6_2 : Int) := of_decide_eq_true (by first | (with_reducible assumption) | assumption)
                    have q202 : x6_2 < (l0.length : Int) := of_decide_eq_true (by first | (with_reducible assumption) | assumption)
                    obtain ⟨ad202, e202, hx202_0, hx202_1⟩ := at_T60 HR0.out x6_2 p202 q202
                    cases e202
                    replace hx202_0 := (HB.out.cell (World.block_lt_of_cell? w _ hx202_0)).trans hx202_0
                    replace hx202_1 := (HB.out.cell (World.block_lt_of_cell? w _ hx202_1)).trans hx202_1
                    replace p202 := eq_true p202
                    replace q202 := eq_true q202
                    go_wp2_with (first | ((with_reducible refine gate_callee (f := 95) rfl ?_); refine gl_ (some 28) Tryd.func95 #[.agg #[.int .i64 ((rd_T60 l0 x6_2).f0), .string ((rd_T60 l0 x6_2).f1)]] ?_; (with_reducible refine (spec_BlobRight.calls ((rd_T60 l0 x6_2).f0) ((rd_T60 l0 x6_2).f1) true _ A11.out).mono ?_); rintro e w16 ⟨rfl, hb⟩; refine ⟨_, rfl, ?_⟩; replace HO_4 := AM (Kd.R_below (ro_ HO_4.out) hb); replace HO_5 := AM (Kd.R_below (ro_ HO_5.out) hb); replace HB := AM (below_step bel_ hb); (try clear hb); (try clear hb2); (try clear hk); (try clear hi); have p204 : 0 ≤ (x6_2 : Int) := of_decide_eq_true (by first | (with_reducible assumption) | assumption); have q204 : x6_2 < (l0.length : Int) := of_decide_eq_true (by first | (with_reducible assumption) | assumption); obtain ⟨ad204, e204, hx204_0, hx204_1⟩ := at_T60 HR0.out x6_2 p204 q204; obtain rfl : ad202 = ad204 := (by injection e204); replace hx204_0 := (HB.out.cell (World.block_lt_of_cell? w _ hx204_0)).trans hx204_0; replace hx204_1 := (HB.out.cell (World.block_lt_of_cell? w _ hx204_1)).trans hx204_1; replace p204 := eq_true p204; replace q204 := eq_true q204) | ((with_reducible refine gate_callee (f := 83) rfl ?_); refine gl_ (some 34) Tryd.func83 #[.agg #[.int .i64 ((rd_T60 l0 x6_2).f0), .string ((rd_T60 l0 x6_2).f1)]] ?_; (with_reducible refine (spec_BlobKey.calls k2 ((rd_T60 l0 x6_2).f0) ((rd_T60 l0 x6_2).f1) t205 _ A13.out).mono ?_); rintro e w17 ⟨rfl, hb⟩; refine ⟨_, rfl, ?_⟩; replace HO_4 := AM (Kd.R_below (ro_ HO_4.out) hb); replace HO_5 := AM (Kd.R_below (ro_ HO_5.out) hb); replace HB := AM (below_step bel_ hb); (try clear hb); (try clear hb2); (try clear hk); (try clear hi); obtain ⟨Ao18, co18, eo18⟩ := Kd.R_slice HO_5.out; subst eo18) | ((with_reducible refine gate_callee (f := 96) rfl ?_); refine gl_ (some 37) Tryd.func96 #[.slice Ao18 x5_2.length co18, .string t205] ?_; (with_reducible refine (spec_l07In.calls k2 _ _ x5_2 t205 true _ ?side1 ?side2 A14.out).mono ?_); (case side1 => repeat (first | exact (Kd.R_reads' HO_5.out).2.2 | (with_reducible refine Kd.C_alloc ?_ _) | (with_reducible refine Kd.C_drewN ?_ _) | (with_reducible refine Kd.C_drew ?_))); (case side2 => exact (Kd.R_reads' HO_5.out).2.1); rintro e w' ⟨rfl, ⟨nd, rfl⟩⟩; refine ⟨_, rfl, ?_⟩))
                    go_ret2
                    exact ⟨ri_, bel_⟩
                  · replace c15 := Bool.eq_false_iff.mpr c15
                    subst c15
                    rw [if_neg (show ¬ (false = true) by decide)] at H
                    by_cases c19 : x5_2.length < 8796093022208
                    · rw [if_pos c19] at H
                      have LMc19 := AM c19
                      clear c19
                      obtain ⟨y207, hy207⟩ : ∃ y_ : List ByteArray, y_ = (x5_2 ++ [t205]) := ⟨_, rfl⟩
                      replace H : ((spec_l07Record.f k2 ((rd_T60 l0 x6_2).f0) ((rd_T60 l0 x6_2).f1)).bind fun t211 => (if x4_2.length + t211.size < 140737488355328 then (spec_l07Pack.l0 k2 l0 (x4_2 ++ bytesOf t211) y207 (wrap64 (x6_2 + 1))) else (none))) = some (r1, r2) := by first | (rw [hy207]; with_reducible exact H) | (have H2_ := (Option.bind_some _ _).symm.trans H; rw [hy207]; with_reducible exact H2_) | (have H2_ := (Option.bind_some _ _).symm.trans H; with_reducible exact H2_) | with_reducible exact H | (rw [hy207]; exact H) | exact H
                      have Ny207 := AM hy207
                      clear hy207
                      obtain ⟨t211, A20, H⟩ := OB H
                      try dsimp only at H
                      replace A20 := AM A20
                      by_cases c21 : x4_2.length + t211.size < 140737488355328
                      · rw [if_pos c21] at H
                        have LMc21 := AM c21
                        clear c21
                        obtain ⟨y212, hy212⟩ : ∃ y_ : List Int, y_ = (x4_2 ++ bytesOf t211) := ⟨_, rfl⟩
                        replace H : (spec_l07Pack.l0 k2 l0 y212 y207 (wrap64 (x6_2 + 1))) = some (r1, r2) := by first | (rw [hy212]; with_reducible exact H) | (have H2_ := (Option.bind_some _ _).symm.trans H; rw [hy212]; with_reducible exact H2_) | (have H2_ := (Option.bind_some _ _).symm.trans H; with_reducible exact H2_) | with_reducible exact H | (rw [hy212]; exact H) | exact H
                        have Ny212 := AM hy212
                        clear hy212
                        have H' := AM H
                        clear H
                        have p202 : 0 ≤ (x6_2 : Int) := of_decide_eq_true (by first | (with_reducible assumption) | assumption)
                        have q202 : x6_2 < (l0.length : Int) := of_decide_eq_true (by first | (with_reducible assumption) | assumption)
                        obtain ⟨ad202, e202, hx202_0, hx202_1⟩ := at_T60 HR0.out x6_2 p202 q202
                        cases e202
                        replace hx202_0 := (HB.out.cell (World.block_lt_of_cell? w _ hx202_0)).trans hx202_0
                        replace hx202_1 := (HB.out.cell (World.block_lt_of_cell? w _ hx202_1)).trans hx202_1
                        replace p202 := eq_true p202
                        replace q202 := eq_true q202
                        go_wp2_with (first | ((with_reducible refine gate_callee (f := 95) rfl ?_); refine gl_ (some 28) Tryd.func95 #[.agg #[.int .i64 ((rd_T60 l0 x6_2).f0), .string ((rd_T60 l0 x6_2).f1)]] ?_; (with_reducible refine (spec_BlobRight.calls ((rd_T60 l0 x6_2).f0) ((rd_T60 l0 x6_2).f1) true _ A11.out).mono ?_); rintro e w22 ⟨rfl, hb⟩; refine ⟨_, rfl, ?_⟩; replace HO_4 := AM (Kd.R_below (ro_ HO_4.out) hb); replace HO_5 := AM (Kd.R_below (ro_ HO_5.out) hb); replace HB := AM (below_step bel_ hb); (try clear hb); (try clear hb2); (try clear hk); (try clear hi); have p204 : 0 ≤ (x6_2 : Int) := of_decide_eq_true (by first | (with_reducible assumption) | assumption); have q204 : x6_2 < (l0.length : Int) := of_decide_eq_true (by first | (with_reducible assumption) | assumption); obtain ⟨ad204, e204, hx204_0, hx204_1⟩ := at_T60 HR0.out x6_2 p204 q204; obtain rfl : ad202 = ad204 := (by injection e204); replace hx204_0 := (HB.out.cell (World.block_lt_of_cell? w _ hx204_0)).trans hx204_0; replace hx204_1 := (HB.out.cell (World.block_lt_of_cell? w _ hx204_1)).trans hx204_1; replace p204 := eq_true p204; replace q204 := eq_true q204) | ((with_reducible refine gate_callee (f := 83) rfl ?_); refine gl_ (some 34) Tryd.func83 #[.agg #[.int .i64 ((rd_T60 l0 x6_2).f0), .string ((rd_T60 l0 x6_2).f1)]] ?_; (with_reducible refine (spec_BlobKey.calls k2 ((rd_T60 l0 x6_2).f0) ((rd_T60 l0 x6_2).f1) t205 _ A13.out).mono ?_); rintro e w23 ⟨rfl, hb⟩; refine ⟨_, rfl, ?_⟩; replace HO_4 := AM (Kd.R_below (ro_ HO_4.out) hb); replace HO_5 := AM (Kd.R_below (ro_ HO_5.out) hb); replace HB := AM (below_step bel_ hb); (try clear hb); (try clear hb2); (try clear hk); (try clear hi); obtain ⟨Ao24, co24, eo24⟩ := Kd.R_slice HO_5.out; subst eo24) | ((with_reducible refine gate_callee (f := 96) rfl ?_); refine gl_ (some 37) Tryd.func96 #[.slice Ao24 x5_2.length co24, .string t205] ?_; (with_reducible refine (spec_l07In.calls k2 _ _ x5_2 t205 false _ ?side1 ?side2 A14.out).mono ?_); (case side1 => repeat (first | exact (Kd.R_reads' HO_5.out).2.2 | (with_reducible refine Kd.C_alloc ?_ _) | (with_reducible refine Kd.C_drewN ?_ _) | (with_reducible refine Kd.C_drew ?_))); (case side2 => exact (Kd.R_reads' HO_5.out).2.1); rintro e w' ⟨rfl, ⟨nd, rfl⟩⟩; refine ⟨_, rfl, ?_⟩) | ((with_reducible refine gate_builtin (b := .append) (xs := #[.tmp 38, .tmp 40]) rfl ?_); (try (refine gate_guard (by rfl) ?_; dsimp only)); at_builtin; refine Kd.R_append Kd.string (w0 := w) w.heap.size rfl (.tmp 38) (.tmp 40) 89 9 (.string ⟨#[]⟩) 16 rfl Tryd.underlying89 info9 rfl (by decide) (by omega) (.slice Ao24 x5_2.length co24) x5_2 t205 [.string t205] (fun _ => True) (fun _ => False) rfl rfl ?aP (fun _ hk => hk.elim) ?aF ?aO ?aB ?aS ?aL ?_; (case aP => exact rfl); (case aB => exact bel_); (case aF => exact (fun _ _ => trivial)); (case aO => exact (ro_ HO_5.out)); (case aS => exact (below_size bel_)); (case aL => have := LMc19.out; omega); intro v208 w25 ho hb hg hat; rw [← Ny207.out] at ho; have n0_ := AM (Kd.R_over' (ro_ HO_4.out) (Kd.R_typed (ro_ HO_5.out)) (by decide) hg); have n1_ := AM hb; have n2_ := AM ho; clear HO_4; clear HB; clear HO_5; have HO_4 := n0_; have HB := n1_; have HO209 := n2_; clear n0_ n1_ n2_; clear ho hb hg hat; have p210 : 0 ≤ (x6_2 : Int) := of_decide_eq_true (by first | (with_reducible assumption) | assumption); have q210 : x6_2 < (l0.length : Int) := of_decide_eq_true (by first | (with_reducible assumption) | assumption); obtain ⟨ad210, e210, hx210_0, hx210_1⟩ := at_T60 HR0.out x6_2 p210 q210; obtain rfl : ad202 = ad210 := (by injection e210); replace hx210_0 := (HB.out.cell (World.block_lt_of_cell? w _ hx210_0)).trans hx210_0; replace hx210_1 := (HB.out.cell (World.block_lt_of_cell? w _ hx210_1)).trans hx210_1; replace p210 := eq_true p210; replace q210 := eq_true q210) | ((with_reducible refine gate_callee (f := 97) rfl ?_); refine gl_ (some 47) Tryd.func97 #[.agg #[.int .i64 ((rd_T60 l0 x6_2).f0), .string ((rd_T60 l0 x6_2).f1)]] ?_; (with_reducible refine (spec_l07Record.calls k2 ((rd_T60 l0 x6_2).f0) ((rd_T60 l0 x6_2).f1) t211 _ A20.out).mono ?_); rintro e w26 ⟨rfl, hb⟩; refine ⟨_, rfl, ?_⟩; replace HO_4 := AM (Kd.R_below (ro_ HO_4.out) hb); replace HO209 := AM (Kd.R_below (ro_ HO209.out) hb); replace HB := AM (below_step bel_ hb); (try clear hb); (try clear hb2); (try clear hk); (try clear hi)) | (at_builtin; refine print_append_str (w0 := w) w.heap.size rfl (.tmp 42) _ 29 9 5 rfl Tryd.underlying29 Tryd.underlying9 info5 u4 x4_2 t211 rfl rfl ?aO ?aB ?aS ?aL ?_; (case aB => exact bel_); (case aO => exact (Kd.own_of_R (ro_ HO_4.out))); (case aS => exact (below_size bel_)); (case aL => have := LMc21.out; omega); intro v213 w27 ho0 hb hg; have ho := Kd.R_of_own (h1 := fun _ => rfl) (ok := fun _ => True) ho0 (fun _ _ => trivial); clear ho0; have hat := True.intro; rw [← Ny212.out] at ho; change Kd.R (Kd.int .u8) 5 w27 w.heap.size (fun _ => True) v213 y212 at ho; have n0_ := AM (Kd.R_over' (ro_ HO209.out) (Kd.R_typed (ro_ HO_4.out)) (by decide) hg); have n1_ := AM hb; have n2_ := AM ho; clear HO209; clear HB; clear HO_4; have HO209 := n0_; have HB := n1_; have HO214 := n2_; clear n0_ n1_ n2_; clear ho hb hg hat))
                        go_roundg k2
                        case measure => have := HJ1.out; have := HK2.out; omega
                        case rel => exact ⟨(y212), (y207), (wrap64 (x6_2 + 1)), (by first | rfl | (simp; done) | (simp [*]; done)), H', ⟨by have := HJ1.out; have := HK2.out; omega⟩, ⟨ro_ HO214.out⟩, ⟨ro_ HO209.out⟩, ⟨bel_⟩⟩
                      · rw [if_neg c21] at H
                        exact absurd H (by simp)
                    · rw [if_neg c19] at H
                      exact absurd H (by simp)
                · replace c12 := Bool.eq_false_iff.mpr c12
                  subst c12
                  rw [if_neg (show ¬ (false = true) by decide)] at H
                  simp only [Option.some.injEq, Prod.mk.injEq] at H
                  obtain ⟨rfl, rfl⟩ := H
                  have p202 : 0 ≤ (x6_2 : Int) := of_decide_eq_true (by first | (with_reducible assumption) | assumption)
                  have q202 : x6_2 < (l0.length : Int) := of_decide_eq_true (by first | (with_reducible assumption) | assumption)
                  obtain ⟨ad202, e202, hx202_0, hx202_1⟩ := at_T60 HR0.out x6_2 p202 q202
                  cases e202
                  replace hx202_0 := (HB.out.cell (World.block_lt_of_cell? w _ hx202_0)).trans hx202_0
                  replace hx202_1 := (HB.out.cell (World.block_lt_of_cell? w _ hx202_1)).trans hx202_1
                  replace p202 := eq_true p202
                  replace q202 := eq_true q202
                  go_wp2_with (first | ((with_reducible refine gate_callee (f := 95) rfl ?_); refine gl_ (some 28) Tryd.func95 #[.agg #[.int .i64 ((rd_T60 l0 x6_2).f0), .string ((rd_T60 l0 x6_2).f1)]] ?_; (with_reducible refine (spec_BlobRight.calls ((rd_T60 l0 x6_2).f0) ((rd_T60 l0 x6_2).f1) false _ A11.out).mono ?_); rintro e w28 ⟨rfl, hb⟩; refine ⟨_, rfl, ?_⟩; replace HO_4 := AM (Kd.R_below (ro_ HO_4.out) hb); replace HO_5 := AM (Kd.R_below (ro_ HO_5.out) hb); replace HB := AM (below_step bel_ hb); (try clear hb); (try clear hb2); (try clear hk); (try clear hi)))
                  go_ret2
                  exact ⟨ri_, bel_⟩
              · rw [if_neg c10] at H
                exact absurd H (by simp)
            · rw [if_neg c9] at H
              have c9b0 : decide (x6_2 < (l0.length : Int)) = false := decide_eq_false c9
              clear c9
              simp only [Option.some.injEq, Prod.mk.injEq] at H
              obtain ⟨rfl, rfl⟩ := H
              have hcv29 := own_string (P := Tryd.prog) Tryd.underlying29 Tryd.underlying5 Tryd.underlying9 (Kd.own_of_R HO_4.out)
              obtain ⟨Ao30, co30, eo30⟩ := Kd.R_slice HO_4.out
              subst eo30
              go_wp2
              go_ret2
              exact ⟨ri_, bel_⟩

/-! ### spec_PackRight: function 40 -/
def spec_PackRight.f (k : Nat) (l0 : List (S60)) : Option (Bool) := if (l0.length : Int) > 400 then (some false) else ((spec_l07Pack.f k l0).bind fun bt215 => (some bt215.2))
theorem spec_PackRight.mono : ∀ a0 k, LeO (spec_PackRight.f k a0) (spec_PackRight.f (k + 1) a0) := by
  intro a0 k
  unfold spec_PackRight.f
  repeat' first
      | (with_reducible exact spec_l07Pack.mono _ _)
      | (with_reducible exact LeO.refl _)
      | (with_reducible exact LeO.none _)
      | (with_reducible refine LeO.ite ?_ ?_)
      | (with_reducible refine LeO.bind ?_ (fun _ => ?_))
      | exact spec_l07Pack.mono _ _
      | exact LeO.none _
      | refine LeO.ite ?_ ?_
      | refine LeO.bind ?_ (fun _ => ?_)
set_option maxHeartbeats 8000000 in
set_option maxRecDepth 100000 in
theorem spec_PackRight.calls (k : Nat) (A0 : Option Addr) (c0 : Nat) (l0 : List (S60)) (r : Bool) (w : World) (hr0 : Kd.C k60 w A0 l0.length l0) (hc0 : l0.length ≤ c0) (h : spec_PackRight.f k l0 = some r) :
    Calls Tryd.prog 40 #[.slice A0 l0.length c0] w fun e w' => e = .returned (.bool r) ∧ Below w.heap.size w w' := by
  have HR0 := AM hr0
  have HC0 := AM hc0
  clear hr0 hc0
  have HB := AM (Below.refl w.heap.size w)
  have H : (if (l0.length : Int) > 400 then (some false) else ((spec_l07Pack.f k l0).bind fun bt215 => (some bt215.2))) = some r := h
  clear h
  by_cases c2 : (l0.length : Int) > 400
  · rw [if_pos c2] at H
    have c2b0 : decide (400 < (l0.length : Int)) = true := decide_eq_true c2
    have c2b1 : decide (400 < l0.length) = true := decide_eq_true (by omega)
    clear c2
    obtain rfl := Option.some.inj H
    go_enter Tryd.func40, Tryd.ntmps40
    go_wp2
    go_ret
    exact ⟨ri_, bel_⟩
  · rw [if_neg c2] at H
    have c2b0 : decide (400 < (l0.length : Int)) = false := decide_eq_false c2
    have c2b1 : decide (400 < l0.length) = false := decide_eq_false (by omega)
    clear c2
    obtain ⟨⟨t215, t216⟩, A3, H⟩ := OB H
    try dsimp only at H
    replace A3 := AM A3
    obtain rfl := Option.some.inj H
    go_enter Tryd.func40, Tryd.ntmps40
    go_wp2_with (first | ((with_reducible refine gate_callee (f := 50) rfl ?_); refine gl_ (some 10) Tryd.func50 #[.slice A0 l0.length c0] ?_; (with_reducible refine (spec_l07Pack.calls k _ _ l0 t215 t216 _ ?side1 ?side2 A3.out).mono ?_); (case side1 => repeat (first | exact HR0.out | (with_reducible refine Kd.C_alloc ?_ _) | (with_reducible refine Kd.C_drewN ?_ _) | (with_reducible refine Kd.C_drew ?_))); (case side2 => exact HC0.out); rintro e w4 ⟨rfl, hb⟩; refine ⟨_, rfl, ?_⟩; replace HB := AM (below_step bel_ hb); (try clear hb); (try clear hb2); (try clear hk); (try clear hi)))
    go_ret
    exact ⟨ri_, bel_⟩

end Go.Proofs.YtfffdndeccipnaaDoor.PFnExactPackRead
