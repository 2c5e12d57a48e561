-- A program of this session wrote this text: a changed copy of the kit print, with given functions.
import Derived.Test.YtdbnajnelbebfaaPFnWholex0
import Derived.Test.YtdbnajnelbebfaaPFnWholex3
import Derived.Test.YtdbnajnelbebfaaPFnWholex4
import Derived.Test.YtdbnajnelbebfaaPFnWholex5
namespace Go.Proofs.Ytdbnajnelbebfaa.PFnWhole
open Go.RowKit Go.Proofs.YtdbnajnelbebfaaW.PrintWords Go.Proofs.YtdbnajnelbebfaaW.PrintLast Go.Proofs.YtdbnajnelbebfaaW.PrintMore Go.Proofs.Ytdbnajnelbebfaa.Aut
attribute [local go_sem] max2_int min2_int max_two min_two max_three min_three max_four min_four   -- for this text's walks alone
set_option linter.unusedVariables false
set_option linter.unusedSimpArgs false

/-! ### spec_Whole: function 11 -/
mutual
def spec_Whole.j0 : Nat → Int → Int → List ByteArray → Bool → Option (Bool)
  | 0, _, _, _, _ => none
  | k + 1, x0, x1, x2, x26 => if x26 = true then (some false) else (spec_Whole.l0 k x0 x1 x2 0)
def spec_Whole.l0 : Nat → Int → Int → List ByteArray → Int → Option (Bool)
  | 0, _, _, _, _ => none
  | k + 1, x0, x1, x2, x7 => if x7 < (x2.length : Int) then (if 0 ≤ x7 then (if ((rdOf ByteArray.empty x2 x7).size : Int) > 20000 then (some false) else (if 0 < (x2.length : Int) then (if ((rdOf ByteArray.empty x2 x7).size : Int) = ((rdOf ByteArray.empty x2 0).size : Int) then (spec_Whole.l0 k x0 x1 x2 (wrap64 (x7 + 1))) else (some false)) else (none))) else (none)) else ((spec_Cauchy.f k x0 x1).bind fun bt249 => (if 0 ≤ x0 then (if x0 ≤ (x2.length : Int) then ((spec_l04Times.f k bt249.1 bt249.2.1 bt249.2.2.1 (x2.take (x0 : Int).toNat)).bind fun t256 => (spec_Whole.l1 k x2 t256 0)) else (none)) else (none)))
def spec_Whole.l1 : Nat → List ByteArray → List ByteArray → Int → Option (Bool)
  | 0, _, _, _ => none
  | k + 1, x2, x8, x9 => if x9 < (x8.length : Int) then (if 0 ≤ x9 then (if x9 < (x2.length : Int) then (if (rdOf ByteArray.empty x8 x9).toList = (rdOf ByteArray.empty x2 x9).toList then (spec_Whole.l1 k x2 x8 (wrap64 (x9 + 1))) else (some false)) else (none)) else (none)) else (some true)
end
def spec_Whole.f (k : Nat) (a0 : Int) (a1 : Int) (l2 : List ByteArray) : Option (Bool) := if (l2.length : Int) > 400 then (spec_Whole.j0 k a0 a1 l2 true) else ((spec_CodeRight.f a0 a1).bind fun t245 => (if t245 = true then (spec_Whole.j0 k a0 a1 l2 ((l2.length : Int) != (wrap64 (a0 + a1)))) else (spec_Whole.j0 k a0 a1 l2 true)))
theorem spec_Whole.mono_l : ∀ k, (∀ y0 y1 y2 y3, LeO (spec_Whole.j0 k y0 y1 y2 y3) (spec_Whole.j0 (k + 1) y0 y1 y2 y3)) ∧ (∀ y0 y1 y2 y3, LeO (spec_Whole.l0 k y0 y1 y2 y3) (spec_Whole.l0 (k + 1) y0 y1 y2 y3)) ∧ (∀ y0 y1 y2, LeO (spec_Whole.l1 k y0 y1 y2) (spec_Whole.l1 (k + 1) y0 y1 y2))
  | 0 => ⟨fun _ _ _ _ r h => by simp [spec_Whole.j0] at h, fun _ _ _ _ r h => by simp [spec_Whole.l0] at h, fun _ _ _ r h => by simp [spec_Whole.l1] at h⟩
  | k + 1 => by
    obtain ⟨ih0, ih1, ih2⟩ := spec_Whole.mono_l k
    refine ⟨?_, ?_, ?_⟩
    · intro y0 y1 y2 y3
      unfold spec_Whole.j0
      repeat' first
      | (with_reducible exact ih0 _ _ _ _)
      | (with_reducible exact ih1 _ _ _ _)
      | (with_reducible exact ih2 _ _ _)
      | (with_reducible exact spec_Cauchy.mono _ _ _)
      | (with_reducible exact spec_l04Times.mono _ _ _ _ _)
      | (with_reducible exact LeO.refl _)
      | (with_reducible exact LeO.none _)
      | (with_reducible refine LeO.ite ?_ ?_)
      | (with_reducible refine LeO.bind ?_ (fun _ => ?_))
      | exact ih0 _ _ _ _
      | exact ih1 _ _ _ _
      | exact ih2 _ _ _
      | exact spec_Cauchy.mono _ _ _
      | exact spec_l04Times.mono _ _ _ _ _
      | exact LeO.none _
      | refine LeO.ite ?_ ?_
      | refine LeO.bind ?_ (fun _ => ?_)
    · intro y0 y1 y2 y3
      unfold spec_Whole.l0
      repeat' first
      | (with_reducible exact ih0 _ _ _ _)
      | (with_reducible exact ih1 _ _ _ _)
      | (with_reducible exact ih2 _ _ _)
      | (with_reducible exact spec_Cauchy.mono _ _ _)
      | (with_reducible exact spec_l04Times.mono _ _ _ _ _)
      | (with_reducible exact LeO.refl _)
      | (with_reducible exact LeO.none _)
      | (with_reducible refine LeO.ite ?_ ?_)
      | (with_reducible refine LeO.bind ?_ (fun _ => ?_))
      | exact ih0 _ _ _ _
      | exact ih1 _ _ _ _
      | exact ih2 _ _ _
      | exact spec_Cauchy.mono _ _ _
      | exact spec_l04Times.mono _ _ _ _ _
      | exact LeO.none _
      | refine LeO.ite ?_ ?_
      | refine LeO.bind ?_ (fun _ => ?_)
    · intro y0 y1 y2
      unfold spec_Whole.l1
      repeat' first
      | (with_reducible exact ih0 _ _ _ _)
      | (with_reducible exact ih1 _ _ _ _)
      | (with_reducible exact ih2 _ _ _)
      | (with_reducible exact spec_Cauchy.mono _ _ _)
      | (with_reducible exact spec_l04Times.mono _ _ _ _ _)
      | (with_reducible exact LeO.refl _)
      | (with_reducible exact LeO.none _)
      | (with_reducible refine LeO.ite ?_ ?_)
      | (with_reducible refine LeO.bind ?_ (fun _ => ?_))
      | exact ih0 _ _ _ _
      | exact ih1 _ _ _ _
      | exact ih2 _ _ _
      | exact spec_Cauchy.mono _ _ _
      | exact spec_l04Times.mono _ _ _ _ _
      | exact LeO.none _
      | refine LeO.ite ?_ ?_
      | refine LeO.bind ?_ (fun _ => ?_)
theorem spec_Whole.mono : ∀ a0 a1 a2 k, LeO (spec_Whole.f k a0 a1 a2) (spec_Whole.f (k + 1) a0 a1 a2) := by
  intro a0 a1 a2 k
  obtain ⟨ih0, ih1, ih2⟩ := spec_Whole.mono_l k
  unfold spec_Whole.f
  repeat' first
      | (with_reducible exact ih0 _ _ _ _)
      | (with_reducible exact ih1 _ _ _ _)
      | (with_reducible exact ih2 _ _ _)
      | (with_reducible exact spec_Cauchy.mono _ _ _)
      | (with_reducible exact spec_l04Times.mono _ _ _ _ _)
      | (with_reducible exact LeO.refl _)
      | (with_reducible exact LeO.none _)
      | (with_reducible refine LeO.ite ?_ ?_)
      | (with_reducible refine LeO.bind ?_ (fun _ => ?_))
      | exact ih0 _ _ _ _
      | exact ih1 _ _ _ _
      | exact ih2 _ _ _
      | exact spec_Cauchy.mono _ _ _
      | exact spec_l04Times.mono _ _ _ _ _
      | exact LeO.none _
      | refine LeO.ite ?_ ?_
      | refine LeO.bind ?_ (fun _ => ?_)
def spec_Whole.T6 : Bool × List (List Nat × List Nat) := (true, [([], []), ([], []), ([0, 1], [0, 1]), ([2], [2]), ([3], [3]), ([4], [4]), ([5], [5]), ([6], [6]), ([6], [6]), ([7, 8, 6], [6, 7, 8]), ([9, 6], [6, 9]), ([10, 6], [6, 10]), ([6], [6]), ([12, 6], [6, 12]), ([13, 6], [6, 13]), ([14, 6], [6, 14]), ([11, 15, 6], [6, 11, 15]), ([6, 16], [6, 16])])
def spec_Whole.B6 : List Nat := [0, 0, 3, 7, 15, 31, 63, 127, 127, 511, 1023, 2047, 127, 4223, 12415, 28799, 65535, 131071]
theorem spec_Whole.tab6 : rtab .any (opsOf Try.f11 6) = spec_Whole.T6 := by kernel_rfl
theorem spec_Whole.bits6 : waitsOk spec_Whole.T6.2 spec_Whole.B6 = true := by kernel_rfl
def spec_Whole.T8 : Bool × List (List Nat × List Nat) := (true, [([], []), ([], []), ([0, 1], [0, 1]), ([2], [2]), ([], []), ([], []), ([4, 5], [4, 5]), ([3, 6, 2], [3, 6]), ([7, 7, 0, 1, 2, 3, 4, 5, 6, 7], [7])])
def spec_Whole.B8 : List Nat := [0, 0, 3, 7, 0, 0, 48, 127, 255]
theorem spec_Whole.tab8 : rtab .any (opsOf Try.f11 8) = spec_Whole.T8 := by kernel_rfl
theorem spec_Whole.bits8 : waitsOk spec_Whole.T8.2 spec_Whole.B8 = true := by kernel_rfl
def spec_Whole.T12 : Bool × List (List Nat × List Nat) := (true, [([], []), ([], []), ([0, 1], [0, 1]), ([2], [2]), ([], []), ([], []), ([4, 5], [4, 5]), ([6], [6]), ([3, 7], [3, 7])])
def spec_Whole.B12 : List Nat := [0, 0, 3, 7, 0, 0, 48, 112, 255]
theorem spec_Whole.tab12 : rtab .any (opsOf Try.f11 12) = spec_Whole.T12 := by kernel_rfl
theorem spec_Whole.bits12 : waitsOk spec_Whole.T12.2 spec_Whole.B12 = true := by kernel_rfl
set_option maxHeartbeats 8000000 in
set_option maxRecDepth 100000 in
theorem spec_Whole.calls (k : Nat) (a0 : Int) (a1 : Int) (A2 : Option Addr) (c2 : Nat) (l2 : List ByteArray) (r : Bool) (w : World) (hr2 : Kd.C Kd.string w A2 l2.length l2) (hc2 : l2.length ≤ c2) (h : spec_Whole.f k a0 a1 l2 = some r) :
    Calls Try.prog 11 #[.int .i64 a0, .int .i64 a1, .slice A2 l2.length c2] w fun e w' => e = .returned (.bool r) ∧ Below w.heap.size w w' := by
  have hfl91_0 : ∀ (x0 x1 x2 x3 : Value) (w : World), Sem.run Try.prog (Instr.field 91 (.agg #[x0, x1, x2, x3]) 0) w = .ok (.agg #[x0, x1, x2]) w := by intro x0 x1 x2 x3 w; kernel_rfl
  have HR2 := AM hr2
  have HC2 := AM hc2
  clear hr2 hc2
  have HB := AM (Below.refl w.heap.size w)
  have H : (if (l2.length : Int) > 400 then (spec_Whole.j0 k a0 a1 l2 true) else ((spec_CodeRight.f a0 a1).bind fun t245 => (if t245 = true then (spec_Whole.j0 k a0 a1 l2 ((l2.length : Int) != (wrap64 (a0 + a1)))) else (spec_Whole.j0 k a0 a1 l2 true)))) = some r := h
  clear h
  have HC4 := AM H
  clear H
  go_enter Try.func11, Try.ntmps11
  go_upto_region 1 with (fail)
  go_cut [26] (fun v26 wc => ∃ (kq : Nat) (x26_3 : Bool), v26 = .bool x26_3 ∧ Aside0 (spec_Whole.j0 kq a0 a1 l2 x26_3 = some r) ∧ Aside0 (kq ≤ k) ∧ Aside0 (Below w.heap.size w wc))
  case first =>
    have H := HC4.out
    clear HC4
    by_cases c5 : (l2.length : Int) > 400
    · rw [if_pos c5] at H
      have c5b0 : decide (400 < (l2.length : Int)) = true := decide_eq_true c5
      have c5b1 : decide (400 < l2.length) = true := decide_eq_true (by omega)
      clear c5
      (first | rw [c5b0] | (simp only [i64_w, i32_w]; rw [c5b0]) | skip)
      have H' := AM H
      clear H
      go_wp2
      go_meet
      case rel => exact ⟨_, (true), (by first | rfl | (simp; done) | (simp [*]; done)), H', ⟨by first | omega | exact Nat.le_refl _⟩, ⟨bel_⟩⟩
    · rw [if_neg c5] at H
      have c5b0 : decide (400 < (l2.length : Int)) = false := decide_eq_false c5
      have c5b1 : decide (400 < l2.length) = false := decide_eq_false (by omega)
      clear c5
      (first | rw [c5b0] | (simp only [i64_w, i32_w]; rw [c5b0]) | skip)
      obtain ⟨t245, A6, H⟩ := OB H
      try dsimp only at H
      replace A6 := AM A6
      by_cases c7 : t245 = true
      · subst c7
        rw [if_pos rfl] at H
        have H' := AM H
        clear H
        go_wp2_with (first | (go_at_call 51; (with_reducible refine (spec_CodeRight.calls a0 a1 true _ A6.out).mono ?_); rintro e w' ⟨rfl, ⟨nd, rfl⟩⟩))
        go_meet
        case rel => exact ⟨_, (((l2.length : Int) != (wrap64 (a0 + a1)))), (by first | rfl | (simp; done) | (simp [*]; done)), H', ⟨by first | omega | exact Nat.le_refl _⟩, ⟨bel_⟩⟩
      · replace c7 := Bool.eq_false_iff.mpr c7
        subst c7
        rw [if_neg (show ¬ (false = true) by decide)] at H
        have H' := AM H
        clear H
        go_wp2_with (first | (go_at_call 51; (with_reducible refine (spec_CodeRight.calls a0 a1 false _ A6.out).mono ?_); rintro e w' ⟨rfl, ⟨nd, rfl⟩⟩))
        go_meet
        case rel => exact ⟨_, (true), (by first | rfl | (simp; done) | (simp [*]; done)), H', ⟨by first | omega | exact Nat.le_refl _⟩, ⟨bel_⟩⟩
  case rest =>
    clear HC4
    try clear c1
    try clear c2
    try clear p2
    try clear c5
    try clear c5b0
    try clear c5b1
    try clear p6
    try clear c7
    obtain ⟨kq, x26_3, rfl, HA, HJ3, HB⟩ := hcut
    cases kq with
    | zero => exact absurd HA.out (by simp [spec_Whole.j0])
    | succ kj3 =>
      have H := HA.out
      clear HA
      simp only [spec_Whole.j0] at H
      by_cases c8 : x26_3 = true
      · subst c8
        rw [if_pos rfl] at H
        obtain rfl := Option.some.inj H
        go_wp2
        go_ret
        exact ⟨ri_, bel_⟩
      · replace c8 := Bool.eq_false_iff.mpr c8
        subst c8
        rw [if_neg (show ¬ (false = true) by decide)] at H
        have H' := AM H
        clear H
        go_wp2
        go_loopg [7] kj3 (fun kq v7 w' => ∃ (x7_2 : Int), v7 = .int .i64 x7_2 ∧ Aside0 (spec_Whole.l0 kq a0 a1 l2 x7_2 = some r) ∧ Aside0 (kq ≤ kj3) ∧ Aside0 (Below w.heap.size w w'))
        case atStart => exact ⟨(0), (by first | rfl | (simp; done) | (simp [*]; done)), H', ⟨Nat.le_refl _⟩, ⟨bel_⟩⟩
        case round =>
          clear H'
          try clear c1
          try clear c2
          try clear p2
          try clear c5
          try clear c5b0
          try clear c5b1
          try clear p6
          try clear c7
          try clear c8
          try clear p2
          try clear p6
          obtain ⟨x7_2, rfl, HA, HK2, HB⟩ := hrel
          cases gk with
          | zero => exact absurd HA.out (by simp [spec_Whole.l0])
          | succ k2 =>
            have H := HA.out
            clear HA
            simp only [spec_Whole.l0] at H
            by_cases c9 : x7_2 < (l2.length : Int)
            · rw [if_pos c9] at H
              have c9b0 : decide (x7_2 < (l2.length : Int)) = true := decide_eq_true c9
              clear c9
              by_cases c10 : 0 ≤ x7_2
              · rw [if_pos c10] at H
                have c10b0 : decide (0 ≤ x7_2) = true := decide_eq_true c10
                clear c10
                by_cases c11 : ((rdOf ByteArray.empty l2 x7_2).size : Int) > 20000
                · rw [if_pos c11] at H
                  have c11b0 : decide (20000 < ((rdOf ByteArray.empty l2 x7_2).size : Int)) = true := decide_eq_true c11
                  have c11b1 : decide (20000 < (rdOf ByteArray.empty l2 x7_2).size) = true := decide_eq_true (by omega)
                  clear c11
                  obtain rfl := Option.some.inj H
                  try go_wp2
                  replace HB := AM (below_drew1 HB.out)
                  have p246 : 0 ≤ (x7_2 : Int) := of_decide_eq_true (by first | (with_reducible assumption) | assumption)
                  have q246 : x7_2 < (l2.length : Int) := of_decide_eq_true (by first | (with_reducible assumption) | assumption)
                  obtain ⟨ad246, e246, hx246_0⟩ := Kd.at_string HR2.out x7_2 p246 q246
                  have hw246_0 := hx246_0
                  cases e246
                  replace hx246_0 := (HB.out.cell (World.block_lt_of_cell? w _ hx246_0)).trans hx246_0
                  replace p246 := eq_true p246
                  replace q246 := eq_true q246
                  refine start_ (n := 18) (S := fun w' => w'.cell? (ad246.add (x7_2).toNat) = some (.string (rdOf ByteArray.empty l2 x7_2))) (ds := []) #[false, false, false, false, false, false, false, false, false, false, false, false, false, false, false, false, false, false] (by kernel_rfl) rfl rfl (((HB.out.cell (World.block_lt_of_cell? w _ hw246_0)).trans hw246_0)) (fun hHeld => ?_); refine with_tabW spec_Whole.tab6 spec_Whole.bits6 (fun HT_ HW_ => ?_)
                  generalize wr.drew = w12 at HB hx246_0 hHeld ⊢
                  refine pu_ HT_ 0 (some 33) #[true, false, false, false, false, false, false, false, false, false, false, false, false, false, false, false, false, false] ?_
                  refine pu_ HT_ 1 (some 34) #[true, true, false, false, false, false, false, false, false, false, false, false, false, false, false, false, false, false] ?_
                  refine pu_ HT_ 2 (some 35) #[true, true, true, false, false, false, false, false, false, false, false, false, false, false, false, false, false, false] ?_
                  refine take_ (i := 3) (N := some 36) (v := ?_) (a' := ?_) #[true, true, true, true, false, false, false, false, false, false, false, false, false, false, false, false, false, false] rfl rfl (take_ofW HT_.out HW_.out (by kernel_rfl)) (fun _ _ _ h => h) (Or.inl ⟨by rfl, ?_⟩) hHeld ?_ ?_
                  rotate_left
                  · intro w' s0
                    go_simp
                    with_reducible rfl
                  rotate_left
                  · simp only [Act.put, List.setIfInBounds_toArray, List.set_cons_zero, List.set_cons_succ, i64_w, i32_w]
                    rfl
                  refine pu_ HT_ 4 (some 37) #[true, true, true, true, true, false, false, false, false, false, false, false, false, false, false, false, false, false] ?_
                  refine pu_ HT_ 5 (some 38) #[true, true, true, true, true, true, false, false, false, false, false, false, false, false, false, false, false, false] ?_
                  refine pu_ HT_ 6 (some 39) #[true, true, true, true, true, true, true, false, false, false, false, false, false, false, false, false, false, false] ?_
                  refine pu_ HT_ 7 (some 40) #[true, true, true, true, true, true, true, true, false, false, false, false, false, false, false, false, false, false] ?_
                  refine pu_ HT_ 8 (some 41) #[true, true, true, true, true, true, true, true, true, false, false, false, false, false, false, false, false, false] ?_
                  refine pu_ HT_ 9 (some 42) #[true, true, true, true, true, true, true, true, true, true, false, false, false, false, false, false, false, false] ?_
                  refine pu_ HT_ 10 (some 43) #[true, true, true, true, true, true, true, true, true, true, true, false, false, false, false, false, false, false] ?_
                  refine pu_ HT_ 11 (some 44) #[true, true, true, true, true, true, true, true, true, true, true, true, false, false, false, false, false, false] ?_
                  refine pu_ HT_ 12 (some 45) #[true, true, true, true, true, true, true, true, true, true, true, true, true, false, false, false, false, false] ?_
                  refine pu_ HT_ 13 (some 46) #[true, true, true, true, true, true, true, true, true, true, true, true, true, true, false, false, false, false] ?_
                  refine pu_ HT_ 14 (some 47) #[true, true, true, true, true, true, true, true, true, true, true, true, true, true, true, false, false, false] ?_
                  refine pu_ HT_ 15 (some 48) #[true, true, true, true, true, true, true, true, true, true, true, true, true, true, true, true, false, false] ?_
                  refine pu_ HT_ 16 (some 49) #[true, true, true, true, true, true, true, true, true, true, true, true, true, true, true, true, true, false] ?_
                  refine pu_ HT_ 17 (some 50) #[true, true, true, true, true, true, true, true, true, true, true, true, true, true, true, true, true, true] ?_
                  refine dn_ HT_ ?_
                  try go_wp2
                  go_ret
                  exact ⟨ri_, bel_⟩
                · rw [if_neg c11] at H
                  have c11b0 : decide (20000 < ((rdOf ByteArray.empty l2 x7_2).size : Int)) = false := decide_eq_false c11
                  have c11b1 : decide (20000 < (rdOf ByteArray.empty l2 x7_2).size) = false := decide_eq_false (by omega)
                  clear c11
                  by_cases c13 : 0 < (l2.length : Int)
                  · rw [if_pos c13] at H
                    have c13b0 : decide (0 < (l2.length : Int)) = true := decide_eq_true c13
                    have c13b1 : decide (0 < l2.length) = true := decide_eq_true (by omega)
                    clear c13
                    by_cases c14 : ((rdOf ByteArray.empty l2 x7_2).size : Int) = ((rdOf ByteArray.empty l2 0).size : Int)
                    · rw [if_pos c14] at H
                      have c14b0 : (((rdOf ByteArray.empty l2 x7_2).size : Int) == ((rdOf ByteArray.empty l2 0).size : Int)) = true := beq_iff_eq.mpr c14
                      have c14b1 : (((rdOf ByteArray.empty l2 x7_2).size : Int) != ((rdOf ByteArray.empty l2 0).size : Int)) = false := bne_eq_false_iff_eq.mpr c14
                      have c14b2 : ((rdOf ByteArray.empty l2 x7_2).size == (rdOf ByteArray.empty l2 0).size) = true := by first | simpa using c14 | (simp at c14 ⊢; omega)
                      clear c14
                      have H' := AM H
                      clear H
                      try go_wp2
                      replace HB := AM (below_drew1 HB.out)
                      have p246 : 0 ≤ (x7_2 : Int) := of_decide_eq_true (by first | (with_reducible assumption) | assumption)
                      have q246 : x7_2 < (l2.length : Int) := of_decide_eq_true (by first | (with_reducible assumption) | assumption)
                      obtain ⟨ad246, e246, hx246_0⟩ := Kd.at_string HR2.out x7_2 p246 q246
                      have hw246_0 := hx246_0
                      cases e246
                      replace hx246_0 := (HB.out.cell (World.block_lt_of_cell? w _ hx246_0)).trans hx246_0
                      replace p246 := eq_true p246
                      replace q246 := eq_true q246
                      have p247 : 0 ≤ (x7_2 : Int) := of_decide_eq_true (by first | (with_reducible assumption) | assumption)
                      have q247 : x7_2 < (l2.length : Int) := of_decide_eq_true (by first | (with_reducible assumption) | assumption)
                      obtain ⟨ad247, e247, hx247_0⟩ := Kd.at_string HR2.out x7_2 p247 q247
                      have hw247_0 := hx247_0
                      obtain rfl : ad246 = ad247 := (by injection e247)
                      replace hx247_0 := (HB.out.cell (World.block_lt_of_cell? w _ hx247_0)).trans hx247_0
                      replace p247 := eq_true p247
                      replace q247 := eq_true q247
                      have p248 : 0 ≤ (0 : Int) := (by omega)
                      have q248 : 0 < (l2.length : Int) := of_decide_eq_true (by first | (with_reducible assumption) | assumption)
                      obtain ⟨ad248, e248, hx248_0⟩ := Kd.at_string HR2.out 0 p248 q248
                      have hw248_0 := hx248_0
                      (try rw [show ((0 : Int)).toNat = 0 from rfl] at hw248_0)
                      (try rw [show 0 * 1 = 0 from rfl] at hw248_0)
                      (try rw [Addr.add_zero'] at hw248_0)
                      obtain rfl : ad246 = ad248 := (by injection e248)
                      have qi248 : (0 < l2.length) = True := eq_true (by omega)
                      (try rw [show ((0 : Int)).toNat = 0 from rfl] at hx248_0)
                      (try rw [Addr.add_zero'] at hx248_0)
                      replace hx248_0 := (HB.out.cell (World.block_lt_of_cell? w _ hx248_0)).trans hx248_0
                      replace p248 := eq_true p248
                      replace q248 := eq_true q248
                      refine start_ (n := 18) (S := fun w' => w'.cell? (ad246.add (x7_2).toNat) = some (.string (rdOf ByteArray.empty l2 x7_2)) ∧ w'.cell? (ad246.add (x7_2).toNat) = some (.string (rdOf ByteArray.empty l2 x7_2)) ∧ w'.cell? ad246 = some (.string (rdOf ByteArray.empty l2 0))) (ds := []) #[false, false, false, false, false, false, false, false, false, false, false, false, false, false, false, false, false, false] (by kernel_rfl) rfl rfl ⟨((HB.out.cell (World.block_lt_of_cell? w _ hw246_0)).trans hw246_0), ((HB.out.cell (World.block_lt_of_cell? w _ hw247_0)).trans hw247_0), ((HB.out.cell (World.block_lt_of_cell? w _ hw248_0)).trans hw248_0)⟩ (fun hHeld => ?_); refine with_tabW spec_Whole.tab6 spec_Whole.bits6 (fun HT_ HW_ => ?_)
                      generalize wr.drew = w15 at HB hx246_0 hx247_0 hx248_0 hHeld ⊢
                      refine pu_ HT_ 0 (some 33) #[true, false, false, false, false, false, false, false, false, false, false, false, false, false, false, false, false, false] ?_
                      refine pu_ HT_ 1 (some 34) #[true, true, false, false, false, false, false, false, false, false, false, false, false, false, false, false, false, false] ?_
                      refine pu_ HT_ 2 (some 35) #[true, true, true, false, false, false, false, false, false, false, false, false, false, false, false, false, false, false] ?_
                      refine ta_ HT_ HW_ 3 (some 36) #[true, true, true, true, false, false, false, false, false, false, false, false, false, false, false, false, false, false] hHeld ?_
                      refine pu_ HT_ 4 (some 37) #[true, true, true, true, true, false, false, false, false, false, false, false, false, false, false, false, false, false] ?_
                      refine pu_ HT_ 5 (some 38) #[true, true, true, true, true, true, false, false, false, false, false, false, false, false, false, false, false, false] ?_
                      refine pu_ HT_ 6 (some 39) #[true, true, true, true, true, true, true, false, false, false, false, false, false, false, false, false, false, false] ?_
                      refine pu_ HT_ 7 (some 40) #[true, true, true, true, true, true, true, true, false, false, false, false, false, false, false, false, false, false] ?_
                      refine pu_ HT_ 8 (some 41) #[true, true, true, true, true, true, true, true, true, false, false, false, false, false, false, false, false, false] ?_
                      refine pu_ HT_ 9 (some 42) #[true, true, true, true, true, true, true, true, true, true, false, false, false, false, false, false, false, false] ?_
                      refine pu_ HT_ 12 (some 45) #[true, true, true, true, true, true, true, true, true, true, false, false, true, false, false, false, false, false] ?_
                      refine pu_ HT_ 13 (some 46) #[true, true, true, true, true, true, true, true, true, true, false, false, true, true, false, false, false, false] ?_
                      refine ta_ HT_ HW_ 10 (some 43) #[true, true, true, true, true, true, true, true, true, true, true, false, true, true, false, false, false, false] hHeld ?_
                      refine pu_ HT_ 11 (some 44) #[true, true, true, true, true, true, true, true, true, true, true, true, true, true, false, false, false, false] ?_
                      refine ta_ HT_ HW_ 14 (some 47) #[true, true, true, true, true, true, true, true, true, true, true, true, true, true, true, false, false, false] hHeld ?_
                      refine pu_ HT_ 15 (some 48) #[true, true, true, true, true, true, true, true, true, true, true, true, true, true, true, true, false, false] ?_
                      refine pu_ HT_ 16 (some 49) #[true, true, true, true, true, true, true, true, true, true, true, true, true, true, true, true, true, false] ?_
                      refine pu_ HT_ 17 (some 50) #[true, true, true, true, true, true, true, true, true, true, true, true, true, true, true, true, true, true] ?_
                      refine dn_ HT_ ?_
                      try go_wp2
                      go_roundg k2
                      case measure => have := HJ3.out; have := HK2.out; omega
                      case rel => exact ⟨(wrap64 (x7_2 + 1)), (by first | rfl | (simp; done) | (simp [*]; done)), H', ⟨by have := HJ3.out; have := HK2.out; omega⟩, ⟨bel_⟩⟩
                    · rw [if_neg c14] at H
                      have c14b0 : (((rdOf ByteArray.empty l2 x7_2).size : Int) == ((rdOf ByteArray.empty l2 0).size : Int)) = false := beq_eq_false_iff_ne.mpr c14
                      have c14b1 : (((rdOf ByteArray.empty l2 x7_2).size : Int) != ((rdOf ByteArray.empty l2 0).size : Int)) = true := bne_iff_ne.mpr c14
                      have c14b2 : ((rdOf ByteArray.empty l2 x7_2).size == (rdOf ByteArray.empty l2 0).size) = false := by first | simpa using c14 | (simp at c14 ⊢; omega)
                      obtain rfl := Option.some.inj H
                      try go_wp2
                      replace HB := AM (below_drew1 HB.out)
                      have p246 : 0 ≤ (x7_2 : Int) := of_decide_eq_true (by first | (with_reducible assumption) | assumption)
                      have q246 : x7_2 < (l2.length : Int) := of_decide_eq_true (by first | (with_reducible assumption) | assumption)
                      obtain ⟨ad246, e246, hx246_0⟩ := Kd.at_string HR2.out x7_2 p246 q246
                      have hw246_0 := hx246_0
                      cases e246
                      replace hx246_0 := (HB.out.cell (World.block_lt_of_cell? w _ hx246_0)).trans hx246_0
                      replace p246 := eq_true p246
                      replace q246 := eq_true q246
                      have p247 : 0 ≤ (x7_2 : Int) := of_decide_eq_true (by first | (with_reducible assumption) | assumption)
                      have q247 : x7_2 < (l2.length : Int) := of_decide_eq_true (by first | (with_reducible assumption) | assumption)
                      obtain ⟨ad247, e247, hx247_0⟩ := Kd.at_string HR2.out x7_2 p247 q247
                      have hw247_0 := hx247_0
                      obtain rfl : ad246 = ad247 := (by injection e247)
                      replace hx247_0 := (HB.out.cell (World.block_lt_of_cell? w _ hx247_0)).trans hx247_0
                      replace p247 := eq_true p247
                      replace q247 := eq_true q247
                      have p248 : 0 ≤ (0 : Int) := (by omega)
                      have q248 : 0 < (l2.length : Int) := of_decide_eq_true (by first | (with_reducible assumption) | assumption)
                      obtain ⟨ad248, e248, hx248_0⟩ := Kd.at_string HR2.out 0 p248 q248
                      have hw248_0 := hx248_0
                      (try rw [show ((0 : Int)).toNat = 0 from rfl] at hw248_0)
                      (try rw [show 0 * 1 = 0 from rfl] at hw248_0)
                      (try rw [Addr.add_zero'] at hw248_0)
                      obtain rfl : ad246 = ad248 := (by injection e248)
                      have qi248 : (0 < l2.length) = True := eq_true (by omega)
                      (try rw [show ((0 : Int)).toNat = 0 from rfl] at hx248_0)
                      (try rw [Addr.add_zero'] at hx248_0)
                      replace hx248_0 := (HB.out.cell (World.block_lt_of_cell? w _ hx248_0)).trans hx248_0
                      replace p248 := eq_true p248
                      replace q248 := eq_true q248
                      refine start_ (n := 18) (S := fun w' => w'.cell? (ad246.add (x7_2).toNat) = some (.string (rdOf ByteArray.empty l2 x7_2)) ∧ w'.cell? (ad246.add (x7_2).toNat) = some (.string (rdOf ByteArray.empty l2 x7_2)) ∧ w'.cell? ad246 = some (.string (rdOf ByteArray.empty l2 0))) (ds := []) #[false, false, false, false, false, false, false, false, false, false, false, false, false, false, false, false, false, false] (by kernel_rfl) rfl rfl ⟨((HB.out.cell (World.block_lt_of_cell? w _ hw246_0)).trans hw246_0), ((HB.out.cell (World.block_lt_of_cell? w _ hw247_0)).trans hw247_0), ((HB.out.cell (World.block_lt_of_cell? w _ hw248_0)).trans hw248_0)⟩ (fun hHeld => ?_); refine with_tabW spec_Whole.tab6 spec_Whole.bits6 (fun HT_ HW_ => ?_)
                      generalize wr.drew = w16 at HB hx246_0 hx247_0 hx248_0 hHeld ⊢
                      refine pu_ HT_ 0 (some 33) #[true, false, false, false, false, false, false, false, false, false, false, false, false, false, false, false, false, false] ?_
                      refine pu_ HT_ 1 (some 34) #[true, true, false, false, false, false, false, false, false, false, false, false, false, false, false, false, false, false] ?_
                      refine pu_ HT_ 2 (some 35) #[true, true, true, false, false, false, false, false, false, false, false, false, false, false, false, false, false, false] ?_
                      refine ta_ HT_ HW_ 3 (some 36) #[true, true, true, true, false, false, false, false, false, false, false, false, false, false, false, false, false, false] hHeld ?_
                      refine pu_ HT_ 4 (some 37) #[true, true, true, true, true, false, false, false, false, false, false, false, false, false, false, false, false, false] ?_
                      refine pu_ HT_ 5 (some 38) #[true, true, true, true, true, true, false, false, false, false, false, false, false, false, false, false, false, false] ?_
                      refine pu_ HT_ 6 (some 39) #[true, true, true, true, true, true, true, false, false, false, false, false, false, false, false, false, false, false] ?_
                      refine pu_ HT_ 7 (some 40) #[true, true, true, true, true, true, true, true, false, false, false, false, false, false, false, false, false, false] ?_
                      refine pu_ HT_ 8 (some 41) #[true, true, true, true, true, true, true, true, true, false, false, false, false, false, false, false, false, false] ?_
                      refine pu_ HT_ 9 (some 42) #[true, true, true, true, true, true, true, true, true, true, false, false, false, false, false, false, false, false] ?_
                      refine pu_ HT_ 12 (some 45) #[true, true, true, true, true, true, true, true, true, true, false, false, true, false, false, false, false, false] ?_
                      refine pu_ HT_ 13 (some 46) #[true, true, true, true, true, true, true, true, true, true, false, false, true, true, false, false, false, false] ?_
                      refine ta_ HT_ HW_ 10 (some 43) #[true, true, true, true, true, true, true, true, true, true, true, false, true, true, false, false, false, false] hHeld ?_
                      refine pu_ HT_ 11 (some 44) #[true, true, true, true, true, true, true, true, true, true, true, true, true, true, false, false, false, false] ?_
                      refine ta_ HT_ HW_ 14 (some 47) #[true, true, true, true, true, true, true, true, true, true, true, true, true, true, true, false, false, false] hHeld ?_
                      refine pu_ HT_ 15 (some 48) #[true, true, true, true, true, true, true, true, true, true, true, true, true, true, true, true, false, false] ?_
                      refine pu_ HT_ 16 (some 49) #[true, true, true, true, true, true, true, true, true, true, true, true, true, true, true, true, true, false] ?_
                      refine pu_ HT_ 17 (some 50) #[true, true, true, true, true, true, true, true, true, true, true, true, true, true, true, true, true, true] ?_
                      refine dn_ HT_ ?_
                      try go_wp2
                      go_ret
                      exact ⟨ri_, bel_⟩
                  · rw [if_neg c13] at H
                    exact absurd H (by simp)
              · rw [if_neg c10] at H
                exact absurd H (by simp)
            · rw [if_neg c9] at H
              have c9b0 : decide (x7_2 < (l2.length : Int)) = false := decide_eq_false c9
              clear c9
              obtain ⟨⟨t249, t250, t251, t254⟩, A17, H⟩ := OB H
              try dsimp only at H
              replace A17 := AM A17
              by_cases c18 : 0 ≤ a0
              · rw [if_pos c18] at H
                have c18b0 := eq_true c18
                have c18b1 : decide (0 ≤ a0) = true := decide_eq_true c18
                clear c18
                by_cases c19 : a0 ≤ (l2.length : Int)
                · rw [if_pos c19] at H
                  have c19b0 := eq_true c19
                  have c19b1 : decide (a0 ≤ (l2.length : Int)) = true := decide_eq_true c19
                  clear c19
                  obtain ⟨t256, A20, H⟩ := OB H
                  try dsimp only at H
                  replace A20 := AM A20
                  have H' := AM H
                  clear H
                  try go_wp2
                  replace HB := AM (below_drew1 HB.out)
                  obtain ⟨i022, hi022, _, hsz22, _⟩ := info_parts info9
                  obtain ⟨hcut22, hA22, hC22⟩ := print_take_of (P := Try.prog) Value.string (⟨#[]⟩ : ByteArray) 25 9 .i64 Try.underlying25 hi022 hsz22 A2 c2 l2 a0 (of_decide_eq_true (by first | (with_reducible assumption) | assumption)) (of_decide_eq_true (by first | (with_reducible assumption) | assumption)) HC2.out
                  have HR255 := AM (Kd.C_of_reads (h1 := fun _ => rfl) (hA22 _ (Kd.reads_of_C HR2.out)))
                  have HC255 := AM hC22
                  clear hA22 hC22 hi022 hsz22
                  refine start_ (n := 9) (S := fun w' => True) (ds := []) #[false, false, false, false, false, false, false, false, false] (by kernel_rfl) rfl rfl trivial (fun hHeld => ?_); refine with_tabW spec_Whole.tab8 spec_Whole.bits8 (fun HT_ HW_ => ?_)
                  generalize wr.drew = w21 at HB HR255 hHeld ⊢
                  refine pu_ HT_ 0 (some 51) #[true, false, false, false, false, false, false, false, false] ?_
                  refine pu_ HT_ 1 (some 52) #[true, true, false, false, false, false, false, false, false] ?_
                  refine pu_ HT_ 4 (some 55) #[true, true, false, false, true, false, false, false, false] ?_
                  refine pu_ HT_ 5 (some 56) #[true, true, false, false, true, true, false, false, false] ?_
                  refine pu_ HT_ 6 (some 57) #[true, true, false, false, true, true, true, false, false] ?_
                  refine on_ HT_ 2 (some 53) #[true, true, true, false, true, true, true, false, false] (fun K hK => ?_)
                  refine go1_ Try.func54 #[.int .i64 a0, .int .i64 a1] ?_
                  with_reducible refine (spec_Cauchy.calls k2 a0 a1 t249 t250 t251 t254 _ A17.out).mono ?_
                  rintro e w23 ⟨v252, rfl, ho0, hb⟩
                  refine ⟨_, rfl, ?_⟩
                  have HO253 := AM (Kd.R_lower ho0 (below_size bel_))
                  replace HB := AM (below_step bel_ hb)
                  (try clear hb)
                  (try clear hb2)
                  (try clear hk)
                  (try clear hi)
                  (try clear ho0)
                  obtain ⟨Ao24, co24, eo24⟩ := Kd.R_slice HO253.out
                  (first | subst eo24 | (injection eo24 with f1_ f2_ f3_; have f4_ := f1_.symm; have f5_ := f3_.symm; clear f1_ f2_ f3_; subst f4_; subst f5_))
                  refine hK.out _ _ trivial (fun hHeld => ?_)
                  clear hK K
                  refine nm_ ?_
                  refine pu_ HT_ 3 (some 54) #[true, true, true, true, true, true, true, false, false] ?_
                  refine on_ HT_ 7 (some 58) #[true, true, true, true, true, true, true, true, false] (fun K hK => ?_)
                  refine goes_ Try.func53 (by kernel_rfl) rfl #[.agg #[.int .i64 t249, .int .i64 t250, .slice Ao24 t251.length co24], .slice A2 (l2.take (a0 : Int).toNat).length c2] (by rfl) rfl rfl (by (try simp only [List.map_toArray, List.map_cons, List.map_nil]); first | done | (rw [show (l2.take (a0 : Int).toNat).length = a0.toNat from (by rw [List.length_take]; have h_ : (a0 : Int) ≤ (l2.length : Int) := of_decide_eq_true (by first | (with_reducible assumption) | assumption); omega)] <;> rfl) | rfl | (simp only [List.length_drop, List.length_take]; rfl)) ?_
                  with_reducible refine (spec_l04Times.calls k2 t249 t250 _ _ t251 _ _ (l2.take (a0 : Int).toNat) t256 _ ?side1 ?side2 ?side3 ?side4 A20.out).mono ?_
                  (case side1 => repeat (first | exact (Kd.R_reads' HO253.out).2.2 | (with_reducible refine Kd.C_alloc ?_ _) | (with_reducible refine Kd.C_drewN ?_ _) | (with_reducible refine Kd.C_drew ?_)))
                  (case side2 => exact (Kd.R_reads' HO253.out).2.1)
                  (case side3 => repeat (first | exact (Kd.C_below HR255.out HB.out) | (with_reducible refine Kd.C_alloc ?_ _) | (with_reducible refine Kd.C_drewN ?_ _) | (with_reducible refine Kd.C_drew ?_)))
                  (case side4 => exact HC255.out)
                  rintro e w25 ⟨v257, rfl, ho0, hb⟩
                  refine ⟨_, rfl, ?_⟩
                  replace HO253 := AM (Kd.R_below (ro_ HO253.out) hb)
                  have HO258 := AM (Kd.R_lower ho0 (below_size bel_))
                  replace HB := AM (below_step bel_ hb)
                  (try clear hb)
                  (try clear hb2)
                  (try clear hk)
                  (try clear hi)
                  (try clear ho0)
                  refine hK.out _ _ trivial (fun hHeld => ?_)
                  clear hK K
                  refine nm_ ?_
                  refine pu_ HT_ 8 (some 8) #[true, true, true, true, true, true, true, true, true] ?_
                  refine dn_ HT_ ?_
                  try go_wp2
                  go_loopg [9] k2 (fun kq v9 w' => ∃ (x9_3 : Int), v9 = .int .i64 x9_3 ∧ Aside0 (spec_Whole.l1 kq l2 t256 x9_3 = some r) ∧ Aside0 (kq ≤ k2) ∧ Aside0 (Kd.R Kd.string 9 w' w.heap.size (fun _ => True) v257 t256) ∧ Aside0 (Below w.heap.size w w'))
                  case atStart => exact ⟨(0), (by first | rfl | (simp; done) | (simp [*]; done)), H', ⟨Nat.le_refl _⟩, ⟨ro_ HO258.out⟩, ⟨bel_⟩⟩
                  case round =>
                    clear H'
                    try clear c1
                    try clear c2
                    try clear p2
                    try clear q2
                    try clear hx2
                    try clear qi2
                    try clear c5
                    try clear p6
                    try clear c9
                    try clear c9b0
                    try clear c10
                    try clear c11
                    try clear c11b0
                    try clear c11b1
                    try clear c13
                    try clear c13b0
                    try clear c13b1
                    try clear c14
                    try clear c14b0
                    try clear c14b1
                    try clear c14b2
                    try clear c18
                    try clear c18b0
                    try clear c18b1
                    try clear c19
                    try clear c19b0
                    try clear c19b1
                    try clear p24
                    try clear q24
                    try clear hx24
                    try clear qi24
                    try clear hx246_0
                    try clear hx247_0
                    try clear hx248_0
                    try clear p246
                    try clear p247
                    try clear p248
                    try clear q246
                    try clear q247
                    try clear q248
                    obtain ⟨x9_3, rfl, HA, HK3, HO_8, HB⟩ := hrel
                    cases gk with
                    | zero => exact absurd HA.out (by simp [spec_Whole.l1])
                    | succ k3 =>
                      have H := HA.out
                      clear HA
                      simp only [spec_Whole.l1] at H
                      by_cases c26 : x9_3 < (t256.length : Int)
                      · rw [if_pos c26] at H
                        have c26b0 : decide (x9_3 < (t256.length : Int)) = true := decide_eq_true c26
                        clear c26
                        by_cases c27 : 0 ≤ x9_3
                        · rw [if_pos c27] at H
                          have c27b0 : decide (0 ≤ x9_3) = true := decide_eq_true c27
                          clear c27
                          by_cases c28 : x9_3 < (l2.length : Int)
                          · rw [if_pos c28] at H
                            have c28b0 : decide (x9_3 < (l2.length : Int)) = true := decide_eq_true c28
                            clear c28
                            by_cases c29 : (rdOf ByteArray.empty t256 x9_3).toList = (rdOf ByteArray.empty l2 x9_3).toList
                            · rw [if_pos c29] at H
                              have c29b0 : ((rdOf ByteArray.empty t256 x9_3).toList == (rdOf ByteArray.empty l2 x9_3).toList) = true := beq_iff_eq.mpr c29
                              have c29b1 : ((rdOf ByteArray.empty t256 x9_3).toList != (rdOf ByteArray.empty l2 x9_3).toList) = false := bne_eq_false_iff_eq.mpr c29
                              clear c29
                              have H' := AM H
                              clear H
                              obtain ⟨Ao30, co30, eo30⟩ := Kd.R_slice HO_8.out
                              subst eo30
                              try go_wp2
                              replace HO_8 := AM (Kd.R_drew HO_8.out)
                              replace HB := AM (below_drew1 HB.out)
                              have p259 : 0 ≤ (x9_3 : Int) := of_decide_eq_true (by first | (with_reducible assumption) | assumption)
                              have q259 : x9_3 < (t256.length : Int) := of_decide_eq_true (by first | (with_reducible assumption) | assumption)
                              obtain ⟨ad259, e259, hx259_0⟩ := Kd.at_string (Kd.R_reads' HO_8.out).2.2 x9_3 p259 q259
                              cases e259
                              replace p259 := eq_true p259
                              replace q259 := eq_true q259
                              have p260 : 0 ≤ (x9_3 : Int) := of_decide_eq_true (by first | (with_reducible assumption) | assumption)
                              have q260 : x9_3 < (l2.length : Int) := of_decide_eq_true (by first | (with_reducible assumption) | assumption)
                              obtain ⟨ad260, e260, hx260_0⟩ := Kd.at_string HR2.out x9_3 p260 q260
                              have hw260_0 := hx260_0
                              cases e260
                              replace hx260_0 := (HB.out.cell (World.block_lt_of_cell? w _ hx260_0)).trans hx260_0
                              replace p260 := eq_true p260
                              replace q260 := eq_true q260
                              refine start_ (n := 9) (S := fun w' => w'.cell? (ad259.add (x9_3).toNat) = some (.string (rdOf ByteArray.empty t256 x9_3)) ∧ w'.cell? (ad260.add (x9_3).toNat) = some (.string (rdOf ByteArray.empty l2 x9_3))) (ds := []) #[false, false, false, false, false, false, false, false, false] (by kernel_rfl) rfl rfl ⟨hx259_0, ((HB.out.cell (World.block_lt_of_cell? w _ hw260_0)).trans hw260_0)⟩ (fun hHeld => ?_); refine with_tabW spec_Whole.tab12 spec_Whole.bits12 (fun HT_ HW_ => ?_)
                              generalize wr.drew = w31 at HO_8 HB hx259_0 hx260_0 hHeld ⊢
                              refine pu_ HT_ 0 (some 65) #[true, false, false, false, false, false, false, false, false] ?_
                              refine pu_ HT_ 1 (some 66) #[true, true, false, false, false, false, false, false, false] ?_
                              refine pu_ HT_ 2 (some 67) #[true, true, true, false, false, false, false, false, false] ?_
                              refine pu_ HT_ 4 (some 69) #[true, true, true, false, true, false, false, false, false] ?_
                              refine pu_ HT_ 5 (some 70) #[true, true, true, false, true, true, false, false, false] ?_
                              refine pu_ HT_ 6 (some 71) #[true, true, true, false, true, true, true, false, false] ?_
                              refine ta_ HT_ HW_ 3 (some 68) #[true, true, true, true, true, true, true, false, false] hHeld ?_
                              refine ta_ HT_ HW_ 7 (some 72) #[true, true, true, true, true, true, true, true, false] hHeld ?_
                              refine pu_ HT_ 8 (some 73) #[true, true, true, true, true, true, true, true, true] ?_
                              refine dn_ HT_ ?_
                              try go_wp2
                              go_roundg k3
                              case measure => have := HJ3.out; have := HK2.out; have := HK3.out; omega
                              case rel => exact ⟨(wrap64 (x9_3 + 1)), (by first | rfl | (simp; done) | (simp [*]; done)), H', ⟨by have := HJ3.out; have := HK2.out; have := HK3.out; omega⟩, ⟨ro_ HO_8.out⟩, ⟨bel_⟩⟩
                            · rw [if_neg c29] at H
                              have c29b0 : ((rdOf ByteArray.empty t256 x9_3).toList == (rdOf ByteArray.empty l2 x9_3).toList) = false := beq_eq_false_iff_ne.mpr c29
                              have c29b1 : ((rdOf ByteArray.empty t256 x9_3).toList != (rdOf ByteArray.empty l2 x9_3).toList) = true := bne_iff_ne.mpr c29
                              obtain rfl := Option.some.inj H
                              obtain ⟨Ao32, co32, eo32⟩ := Kd.R_slice HO_8.out
                              subst eo32
                              try go_wp2
                              replace HO_8 := AM (Kd.R_drew HO_8.out)
                              replace HB := AM (below_drew1 HB.out)
                              have p259 : 0 ≤ (x9_3 : Int) := of_decide_eq_true (by first | (with_reducible assumption) | assumption)
                              have q259 : x9_3 < (t256.length : Int) := of_decide_eq_true (by first | (with_reducible assumption) | assumption)
                              obtain ⟨ad259, e259, hx259_0⟩ := Kd.at_string (Kd.R_reads' HO_8.out).2.2 x9_3 p259 q259
                              cases e259
                              replace p259 := eq_true p259
                              replace q259 := eq_true q259
                              have p260 : 0 ≤ (x9_3 : Int) := of_decide_eq_true (by first | (with_reducible assumption) | assumption)
                              have q260 : x9_3 < (l2.length : Int) := of_decide_eq_true (by first | (with_reducible assumption) | assumption)
                              obtain ⟨ad260, e260, hx260_0⟩ := Kd.at_string HR2.out x9_3 p260 q260
                              have hw260_0 := hx260_0
                              cases e260
                              replace hx260_0 := (HB.out.cell (World.block_lt_of_cell? w _ hx260_0)).trans hx260_0
                              replace p260 := eq_true p260
                              replace q260 := eq_true q260
                              refine start_ (n := 9) (S := fun w' => w'.cell? (ad259.add (x9_3).toNat) = some (.string (rdOf ByteArray.empty t256 x9_3)) ∧ w'.cell? (ad260.add (x9_3).toNat) = some (.string (rdOf ByteArray.empty l2 x9_3))) (ds := []) #[false, false, false, false, false, false, false, false, false] (by kernel_rfl) rfl rfl ⟨hx259_0, ((HB.out.cell (World.block_lt_of_cell? w _ hw260_0)).trans hw260_0)⟩ (fun hHeld => ?_); refine with_tabW spec_Whole.tab12 spec_Whole.bits12 (fun HT_ HW_ => ?_)
                              generalize wr.drew = w33 at HO_8 HB hx259_0 hx260_0 hHeld ⊢
                              refine pu_ HT_ 0 (some 65) #[true, false, false, false, false, false, false, false, false] ?_
                              refine pu_ HT_ 1 (some 66) #[true, true, false, false, false, false, false, false, false] ?_
                              refine pu_ HT_ 2 (some 67) #[true, true, true, false, false, false, false, false, false] ?_
                              refine pu_ HT_ 4 (some 69) #[true, true, true, false, true, false, false, false, false] ?_
                              refine pu_ HT_ 5 (some 70) #[true, true, true, false, true, true, false, false, false] ?_
                              refine pu_ HT_ 6 (some 71) #[true, true, true, false, true, true, true, false, false] ?_
                              refine ta_ HT_ HW_ 3 (some 68) #[true, true, true, true, true, true, true, false, false] hHeld ?_
                              refine ta_ HT_ HW_ 7 (some 72) #[true, true, true, true, true, true, true, true, false] hHeld ?_
                              refine pu_ HT_ 8 (some 73) #[true, true, true, true, true, true, true, true, true] ?_
                              refine dn_ HT_ ?_
                              try go_wp2
                              go_ret
                              exact ⟨ri_, bel_⟩
                          · rw [if_neg c28] at H
                            exact absurd H (by simp)
                        · rw [if_neg c27] at H
                          exact absurd H (by simp)
                      · rw [if_neg c26] at H
                        have c26b0 : decide (x9_3 < (t256.length : Int)) = false := decide_eq_false c26
                        clear c26
                        obtain rfl := Option.some.inj H
                        obtain ⟨Ao34, co34, eo34⟩ := Kd.R_slice HO_8.out
                        subst eo34
                        go_wp2
                        go_ret
                        exact ⟨ri_, bel_⟩
                · rw [if_neg c19] at H
                  exact absurd H (by simp)
              · rw [if_neg c18] at H
                exact absurd H (by simp)

end Go.Proofs.Ytdbnajnelbebfaa.PFnWhole
