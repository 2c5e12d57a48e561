/- Functions of the law FnExactObjectNames: the print's, with walks of this session's own. No statement is proved here. -/
import Derived.WalkLawsBesides
import Derived.Test.YtdbnajnelbebfaaVRegFnExactObjectNames
-- A program of this session wrote this text: a changed copy of the kit print, with given functions.
import Derived.Test.YtdbnajnelbebfaaPFnExactObjectNamesx0
import Derived.Test.YtdbnajnelbebfaaPFnExactObjectNamesx1
import Derived.Test.YtdbnajnelbebfaaPFnExactObjectNamesx2
namespace Go.Proofs.Ytdbnajnelbebfaa.PFnExactObjectNames
open Go.RowKit Go.Proofs.YtdbnajnelbebfaaW.PrintWords Go.Proofs.YtdbnajnelbebfaaW.PrintLast Go.Proofs.YtdbnajnelbebfaaW.PrintMore Go.Proofs.Ytdbnajnelbebfaa.Reg Go.Proofs.Ytdbnajnelbebfaa.Aut
attribute [local go_sem] max2_int min2_int max_two min_two max_three min_three max_four min_four   -- for this text's walks alone
set_option linter.unusedVariables false
set_option linter.unusedSimpArgs false

/-! ### spec_DriveRight: function 153 -/
mutual
def spec_DriveRight.j0 : Nat → Bool → List (S194) → Int → Option (Bool)
  | 0, _, _, _ => none
  | k + 1, x18, x113000, x113001 => if x18 = true then (some false) else (spec_DriveRight.l0 k 0 x113000 x113001)
def spec_DriveRight.l0 : Nat → Int → List (S194) → Int → Option (Bool)
  | 0, _, _, _ => none
  | k + 1, x3, x113000, x113001 => if x3 < (x113000.length : Int) then (if 0 ≤ x3 then ((spec_NameRight.f k ((rd_T194 x113000 x3).f0)).bind fun t115 => (if t115 = true then (if x3 > 0 then (if 0 ≤ (wrap64 (x3 - 1)) then (if (wrap64 (x3 - 1)) < (x113000.length : Int) then (if ((Op.bytesLess (((rd_T194 x113000 (wrap64 (x3 - 1))).f0).toList) (((rd_T194 x113000 x3).f0).toList)) = true) then (if (((rd_T194 x113000 x3).f1).size : Int) > 20000 then (some false) else (if ((rd_T194 x113000 x3).f2) < 0 then (some false) else (if ((rd_T194 x113000 x3).f2) > (((rd_T194 x113000 x3).f1).size : Int) then (some false) else (spec_DriveRight.l0 k (wrap64 (x3 + 1)) x113000 x113001)))) else (some false)) else (none)) else (none)) else (if (((rd_T194 x113000 x3).f1).size : Int) > 20000 then (some false) else (if ((rd_T194 x113000 x3).f2) < 0 then (some false) else (if ((rd_T194 x113000 x3).f2) > (((rd_T194 x113000 x3).f1).size : Int) then (some false) else (spec_DriveRight.l0 k (wrap64 (x3 + 1)) x113000 x113001))))) else (some false))) else (none)) else ((spec_l08Bytes.f k x113000 x113001).bind fun t117 => (some (decide (t117 ≤ x113001))))
end
def spec_DriveRight.f (k : Nat) (l0_0 : List (S194)) (a0_1 : Int) : Option (Bool) := if (l0_0.length : Int) > 60 then (spec_DriveRight.j0 k true l0_0 a0_1) else (if a0_1 < 0 then (spec_DriveRight.j0 k true l0_0 a0_1) else (spec_DriveRight.j0 k (decide (a0_1 > 100000)) l0_0 a0_1))
theorem spec_DriveRight.mono_l : ∀ k, (∀ y0 y1 y2, LeO (spec_DriveRight.j0 k y0 y1 y2) (spec_DriveRight.j0 (k + 1) y0 y1 y2)) ∧ (∀ y0 y1 y2, LeO (spec_DriveRight.l0 k y0 y1 y2) (spec_DriveRight.l0 (k + 1) y0 y1 y2))
  | 0 => ⟨fun _ _ _ r h => by simp [spec_DriveRight.j0] at h, fun _ _ _ r h => by simp [spec_DriveRight.l0] at h⟩
  | k + 1 => by
    obtain ⟨ih0, ih1⟩ := spec_DriveRight.mono_l k
    refine ⟨?_, ?_⟩
    · intro y0 y1 y2
      unfold spec_DriveRight.j0
      repeat' first
      | (with_reducible exact ih0 _ _ _)
      | (with_reducible exact ih1 _ _ _)
      | (with_reducible exact spec_NameRight.mono _ _)
      | (with_reducible exact spec_l08Bytes.mono _ _ _)
      | (with_reducible exact LeO.refl _)
      | (with_reducible exact LeO.none _)
      | (with_reducible refine LeO.ite ?_ ?_)
      | (with_reducible refine LeO.bind ?_ (fun _ => ?_))
      | exact ih0 _ _ _
      | exact ih1 _ _ _
      | exact spec_NameRight.mono _ _
      | exact spec_l08Bytes.mono _ _ _
      | exact LeO.none _
      | refine LeO.ite ?_ ?_
      | refine LeO.bind ?_ (fun _ => ?_)
    · intro y0 y1 y2
      unfold spec_DriveRight.l0
      repeat' first
      | (with_reducible exact ih0 _ _ _)
      | (with_reducible exact ih1 _ _ _)
      | (with_reducible exact spec_NameRight.mono _ _)
      | (with_reducible exact spec_l08Bytes.mono _ _ _)
      | (with_reducible exact LeO.refl _)
      | (with_reducible exact LeO.none _)
      | (with_reducible refine LeO.ite ?_ ?_)
      | (with_reducible refine LeO.bind ?_ (fun _ => ?_))
      | exact ih0 _ _ _
      | exact ih1 _ _ _
      | exact spec_NameRight.mono _ _
      | exact spec_l08Bytes.mono _ _ _
      | exact LeO.none _
      | refine LeO.ite ?_ ?_
      | refine LeO.bind ?_ (fun _ => ?_)
theorem spec_DriveRight.mono : ∀ a0 a1 k, LeO (spec_DriveRight.f k a0 a1) (spec_DriveRight.f (k + 1) a0 a1) := by
  intro a0 a1 k
  obtain ⟨ih0, ih1⟩ := spec_DriveRight.mono_l k
  unfold spec_DriveRight.f
  repeat' first
      | (with_reducible exact ih0 _ _ _)
      | (with_reducible exact ih1 _ _ _)
      | (with_reducible exact spec_NameRight.mono _ _)
      | (with_reducible exact spec_l08Bytes.mono _ _ _)
      | (with_reducible exact LeO.refl _)
      | (with_reducible exact LeO.none _)
      | (with_reducible refine LeO.ite ?_ ?_)
      | (with_reducible refine LeO.bind ?_ (fun _ => ?_))
      | exact ih0 _ _ _
      | exact ih1 _ _ _
      | exact spec_NameRight.mono _ _
      | exact spec_l08Bytes.mono _ _ _
      | exact LeO.none _
      | refine LeO.ite ?_ ?_
      | refine LeO.bind ?_ (fun _ => ?_)
theorem spec_DriveRight.head (k : Nat) (l : List (S194)) (a : Int) (r : Bool) (h : spec_DriveRight.f k l a = some r) :
    (((60 : Int) < (l.length : Int) ∨ a < 0 ∨ 100000 < a) ∧ r = false) ∨ (¬ (60 : Int) < (l.length : Int) ∧ ¬ a < 0 ∧ ¬ 100000 < a ∧ ∃ k', k' ≤ k ∧ spec_DriveRight.l0 k' 0 l a = some r) := by
  unfold spec_DriveRight.f at h
  cases k with
  | zero => simp [spec_DriveRight.j0] at h
  | succ k =>
    simp only [spec_DriveRight.j0] at h
    by_cases c1 : (l.length : Int) > 60
    · rw [if_pos c1, if_pos trivial] at h
      exact .inl ⟨.inl c1, (Option.some.inj h).symm⟩
    rw [if_neg c1] at h
    by_cases c2 : a < 0
    · rw [if_pos c2, if_pos trivial] at h
      exact .inl ⟨.inr (.inl c2), (Option.some.inj h).symm⟩
    rw [if_neg c2] at h
    by_cases c3 : 100000 < a
    · rw [if_pos (by simpa using c3)] at h
      exact .inl ⟨.inr (.inr c3), (Option.some.inj h).symm⟩
    · rw [if_neg (by simpa using c3)] at h
      exact .inr ⟨c1, c2, c3, k, by omega, h⟩
set_option maxHeartbeats 4000000 in
set_option maxRecDepth 100000 in
theorem spec_DriveRight.calls (k : Nat) (A0_0 : Option Addr) (c0_0 : Nat) (l0_0 : List (S194)) (a0_1 : Int) (r : Bool) (w : World) (hr0_0 : Kd.C k194 w A0_0 l0_0.length l0_0) (hc0_0 : l0_0.length ≤ c0_0) (h : spec_DriveRight.f k l0_0 a0_1 = some r) :
    Calls Try.prog 153 #[.agg #[.slice A0_0 l0_0.length c0_0, .int .i64 a0_1]] w fun e w' => e = .returned (.bool r) ∧ Below w.heap.size w w' := by
  have hu := Try.underlying194
  have hu2 := Try.underlying192
  have HD := spec_DriveRight.head k l0_0 a0_1 r h
  clear h
  have hbad : ∀ {e1 e2 e3 : Bool}, ((60 : Int) < (l0_0.length : Int)) = (e1 = true) → (60 < l0_0.length) = (e1 = true) → (a0_1 < 0) = (e2 = true) → (100000 < a0_1) = (e3 = true) → (e1 || e2 || e3) = true →
      Calls Try.prog 153 #[.agg #[.slice A0_0 l0_0.length c0_0, .int .i64 a0_1]] w fun e w' => e = .returned (.bool false) ∧ Below w.heap.size w w' := by
    intro e1 e2 e3 h1 h1n h2 h3 he
    clear HD hr0_0 hc0_0
    cases e1 <;> cases e2 <;> cases e3 <;> first | (simp at he; done) | (clear he; go_enter Try.func153, Try.ntmps153; go_wp2; go_ret; exact ⟨rfl, (Below.refl _ _).alloc (Nat.le_refl _) _⟩)
  rcases HD with ⟨hb, rfl⟩ | ⟨h1, h2, h3, k', hk', H⟩
  · exact hbad (e1 := decide ((60 : Int) < (l0_0.length : Int))) (e2 := decide (a0_1 < 0)) (e3 := decide (100000 < a0_1)) (by simp) (by simp; omega) (by simp) (by simp) (by simpa [or_assoc] using hb)
  clear hbad
  have h1b := eq_false h1
  have h1n : (60 < l0_0.length) = False := eq_false (by omega)
  have h2b := eq_false h2
  have h3b := eq_false h3
  have HL := AM h1
  clear h1 h2 h3
  have H' := AM H
  have HK0 := AM hk'
  have HR := AM (Kd.C_below hr0_0 (Below.alloc (Below.refl w.heap.size w) (Nat.le_refl _) (Obj.cells #[.slice A0_0 l0_0.length c0_0, .int .i64 a0_1] 192)))
  have HC := AM hc0_0
  clear H hk' hr0_0 hc0_0
  go_enter Try.func153, Try.ntmps153
  go_wp2
  have hz0 : (w.alloc (Obj.cells #[.slice A0_0 l0_0.length c0_0, .int .i64 a0_1] 192)).cell? ⟨w.heap.size, 0, none⟩ = some (.slice A0_0 l0_0.length c0_0) := by simp
  have hz1 : (w.alloc (Obj.cells #[.slice A0_0 l0_0.length c0_0, .int .i64 a0_1] 192)).cell? ⟨w.heap.size, 1, none⟩ = some (.int .i64 a0_1) := by simp
  have HB1 := AM ((Below.refl w.heap.size w).alloc (Nat.le_refl _) (Obj.cells #[.slice A0_0 l0_0.length c0_0, .int .i64 a0_1] 192))
  clear h1b h1n h2b h3b
  have HZ0 := AM hz0
  have HZ1 := AM hz1
  clear hz0 hz1
  generalize w.alloc _ = w1 at HB1 HZ0 HZ1 HR ⊢
  generalize w.heap.size = g1 at HZ0 HZ1 ⊢
  go_loopg [3] k' (fun kq v3 w' => ∃ (x3_1 : Int), v3 = .int .i64 x3_1 ∧ Aside0 (spec_DriveRight.l0 kq x3_1 l0_0 a0_1 = some r) ∧ Aside0 (kq ≤ k') ∧ Aside0 (Below w1.heap.size w1 w'))
  case atStart => exact ⟨(0), rfl, H', ⟨Nat.le_refl _⟩, ⟨Below.refl _ _⟩⟩
  case round =>
    clear H'
    obtain ⟨x, rfl, HA, HK1, HB⟩ := hrel
    cases gk with
    | zero => exact absurd HA.out (by simp [spec_DriveRight.l0])
    | succ k1 =>
      have H := HA.out
      clear HA
      simp only [spec_DriveRight.l0] at H
      have hz0 := cellG HB.out (grow_refl _) HZ0.out
      have hz1 := cellG HB.out (grow_refl _) HZ1.out
      by_cases c3 : x < (l0_0.length : Int)
      · rw [if_pos c3] at H
        have c3b0 := eq_true c3
        by_cases c4 : 0 ≤ x
        · rw [if_pos c4] at H
          obtain ⟨b, hb, H⟩ := Option.bind_eq_some_iff.mp H
          have H' := AM H
          have Hb := AM hb
          clear H hb
          have c4b0 := eq_true c4
          obtain ⟨ad, rfl, hx0, hx1, hx2⟩ := at_T194 HR.out x c4 c3
          obtain ⟨y, hy⟩ : ∃ y, wrap64 (x - 1) = y := ⟨_, rfl⟩
          have HY := AM hy
          rw [hy] at H'
          clear hy c3 c4
          replace hx0 := cellG HB.out (grow_refl _) hx0
          replace hx1 := cellG HB.out (grow_refl _) hx1
          replace hx2 := cellG HB.out (grow_refl _) hx2
          go_wp2
          have hs0 : (wr.alloc (Obj.cells #[.string (rd_T194 l0_0 x).f0, .string (rd_T194 l0_0 x).f1, .int .i64 (rd_T194 l0_0 x).f2] 194)).cell? ⟨wr.heap.size, 0, none⟩ = some (.string (rd_T194 l0_0 x).f0) := by simp
          have hs1 : (wr.alloc (Obj.cells #[.string (rd_T194 l0_0 x).f0, .string (rd_T194 l0_0 x).f1, .int .i64 (rd_T194 l0_0 x).f2] 194)).cell? ⟨wr.heap.size, 1, none⟩ = some (.string (rd_T194 l0_0 x).f1) := by simp
          have hs2 : (wr.alloc (Obj.cells #[.string (rd_T194 l0_0 x).f0, .string (rd_T194 l0_0 x).f1, .int .i64 (rd_T194 l0_0 x).f2] 194)).cell? ⟨wr.heap.size, 2, none⟩ = some (.int .i64 (rd_T194 l0_0 x).f2) := by simp
          replace HB := AM (HB.out.alloc HB.out.size (Obj.cells #[.string (rd_T194 l0_0 x).f0, .string (rd_T194 l0_0 x).f1, .int .i64 (rd_T194 l0_0 x).f2] 194))
          clear hx0 hx1 hx2 hz0 hz1
          generalize wr.alloc _ = w2 at HB hs0 hs1 hs2 ⊢
          generalize wr.heap.size = g at hs0 hs1 hs2 ⊢
          have hyw : IntKind.i64.wrap (x - 1) = y := (i64_w _).trans HY.out
          obtain ⟨e37, he37⟩ : ∃ e_ : Bool, (0 < x) = (e_ = true) := ⟨decide (0 < x), by simp⟩
          obtain ⟨e48, he48⟩ : ∃ e_ : Bool, Op.bytesLess ((rd_T194 l0_0 y).f0).toList ((rd_T194 l0_0 x).f0).toList = e_ := ⟨_, rfl⟩
          obtain ⟨e55, he55⟩ : ∃ e_ : Bool, (20000 < (((rd_T194 l0_0 x).f1).size : Int)) = (e_ = true) := ⟨decide (20000 < (((rd_T194 l0_0 x).f1).size : Int)), by simp⟩
          have he55n : (20000 < ((rd_T194 l0_0 x).f1).size) = (e55 = true) := by rw [← he55]; simp; try omega
          obtain ⟨e60, he60⟩ : ∃ e_ : Bool, ((rd_T194 l0_0 x).f2 < 0) = (e_ = true) := ⟨decide ((rd_T194 l0_0 x).f2 < 0), by simp⟩
          obtain ⟨e68, he68⟩ : ∃ e_ : Bool, ((((rd_T194 l0_0 x).f1).size : Int) < (rd_T194 l0_0 x).f2) = (e_ = true) := ⟨decide ((((rd_T194 l0_0 x).f1).size : Int) < (rd_T194 l0_0 x).f2), by simp⟩
          refine wp_reg1 [[], [0], [1], [2], [3], [4], [4, 5], [4, 6], [7], [7, 8], [7], [7, 10], [7, 9, 11], [7, 12], [7, 13], [7], [7, 15], [7, 14, 16], [4, 7, 17], [4, 18], [19], [20], [20, 21], [20, 22], [20, 23], [20, 24], [25], [26], [26, 27], [26, 28], [26, 29], [30], [31], [31, 32], [31], [31, 34], [31, 35], [31, 33, 36], [31, 37]]
            (isVal [.pointer (some ⟨g, 0, none⟩),
              .string ((rd_T194 l0_0 x).f0),
              .bool b,
              .bool (!b),
              .bool (!b),
              if b then .int .i64 x else undef,
              if b then .bool e37 else undef,
              if b then .bool e37 else undef,
              if b && e37 then .pointer (some ⟨g1, 0, none⟩) else undef,
              if b && e37 then .slice (some ad) l0_0.length c0_0 else undef,
              if b && e37 then .int .i64 x else undef,
              if b && e37 then .int .i64 y else undef,
              if b && e37 then .pointer (some (ad.add (y.toNat * 3))) else undef,
              if b && e37 then .pointer (some (ad.add (y.toNat * 3))) else undef,
              if b && e37 then .string ((rd_T194 l0_0 y).f0) else undef,
              if b && e37 then .pointer (some ⟨g, 0, none⟩) else undef,
              if b && e37 then .string ((rd_T194 l0_0 x).f0) else undef,
              if b && e37 then .bool (!e48) else undef,
              if b then .bool (e37 && !e48) else undef,
              .bool (!b || (e37 && !e48)),
              .bool (!b || (e37 && !e48)),
              if !(!b || (e37 && !e48)) then .pointer (some ⟨g, 1, none⟩) else undef,
              if !(!b || (e37 && !e48)) then .string ((rd_T194 l0_0 x).f1) else undef,
              if !(!b || (e37 && !e48)) then .int .i64 (((rd_T194 l0_0 x).f1).size : Int) else undef,
              if !(!b || (e37 && !e48)) then .bool e55 else undef,
              .bool ((!b || (e37 && !e48)) || e55),
              .bool ((!b || (e37 && !e48)) || e55),
              if !((!b || (e37 && !e48)) || e55) then .pointer (some ⟨g, 2, none⟩) else undef,
              if !((!b || (e37 && !e48)) || e55) then .int .i64 ((rd_T194 l0_0 x).f2) else undef,
              if !((!b || (e37 && !e48)) || e55) then .bool e60 else undef,
              .bool (((!b || (e37 && !e48)) || e55) || e60),
              .bool (((!b || (e37 && !e48)) || e55) || e60),
              if !(((!b || (e37 && !e48)) || e55) || e60) then .pointer (some ⟨g, 2, none⟩) else undef,
              if !(((!b || (e37 && !e48)) || e55) || e60) then .int .i64 ((rd_T194 l0_0 x).f2) else undef,
              if !(((!b || (e37 && !e48)) || e55) || e60) then .pointer (some ⟨g, 1, none⟩) else undef,
              if !(((!b || (e37 && !e48)) || e55) || e60) then .string ((rd_T194 l0_0 x).f1) else undef,
              if !(((!b || (e37 && !e48)) || e55) || e60) then .int .i64 (((rd_T194 l0_0 x).f1).size : Int) else undef,
              if !(((!b || (e37 && !e48)) || e55) || e60) then .bool e68 else undef,
              .bool ((((!b || (e37 && !e48)) || e55) || e60) || e68)]) ?B7 ?d7 (by kernel_rfl) (by kernel_rfl) (by kernel_rfl) (by kernel_rfl) (fun us => ?hA7) (isVal_grow _) ?hS7 ?hE7
          case hA7 =>
            simp only [regPut, Act.put, List.setIfInBounds_toArray, List.set_cons_zero, List.set_cons_succ, Nat.reduceAdd, Nat.zero_add]
            rfl
          case hS7 =>
            have hY : (b && e37) = true → (0 ≤ y) = True ∧ (y < (l0_0.length : Int)) = True ∧ w1.cell? (ad.add (y.toNat * 3)) = some (.string (rd_T194 l0_0 y).f0) := by
              intro hbp
              simp only [Bool.and_eq_true] at hbp
              have H := H'.out
              rw [if_pos hbp.1, if_pos (by show 0 < x; rw [he37]; exact hbp.2)] at H
              by_cases c9 : 0 ≤ y
              · rw [if_pos c9] at H
                by_cases c10 : y < (l0_0.length : Int)
                · obtain ⟨ad', e, h1, _⟩ := at_T194 HR.out y c9 c10
                  cases e
                  exact ⟨eq_true c9, eq_true c10, h1⟩
                · rw [if_neg c10] at H
                  cases H
              · rw [if_neg c9] at H
                cases H
            clear H'
            refine ⟨?_, ?_, ?_, ?_, ?_, ?_, ?_, ?_, ?_, ?_, ?_, ?_, ?_, ?_, ?_, ?_, ?_, ?_, ?_, ?_, ?_, ?_, ?_, ?_, ?_, ?_, ?_, ?_, ?_, ?_, ?_, ?_, ?_, ?_, ?_, ?_, ?_, ?_, ?_, trivial⟩
            all_goals (intro us w' hg hd K hK; simp only [AllR, isVal, List.getD_cons_zero, List.getD_cons_succ] at hd; clear HL HY HK1 HB1 HR)
            all_goals (have g1_ := True.intro; have g2_ := True.intro; have g3_ := True.intro; have g4_ := True.intro; try (obtain ⟨g1_, hd⟩ := hd); try (obtain ⟨g2_, hd⟩ := hd); try (obtain ⟨g3_, hd⟩ := hd); try (obtain ⟨g4_, hd⟩ := hd))
            all_goals (replace hs0 := cellG (grow_refl _) hg hs0; replace hs1 := cellG (grow_refl _) hg hs1; replace hs2 := cellG (grow_refl _) hg hs2; have hz0 := cellG HB.out hg HZ0.out; have hz1 := cellG HB.out hg HZ1.out)
            all_goals (repeat' (first
              | (refine reg_skip hK ?_ rfl; (simp [wantedG, asB, undef, g1_, g2_, g3_, g4_]; done))
              | (refine reg_val hK ?_ ?_ (grow_refl _) rfl
                 · first | rfl | (simp [wantedG, asB, undef, g1_, g2_, g3_, g4_]; done)
                 · (try (obtain ⟨y1, y2, y3⟩ := hY rfl; replace y3 := cellG HB.out hg y3))
                   go_simp
                   done)
              | (refine reg_call hK rfl rfl Try.func145 (by kernel_rfl) rfl #[.string (rd_T194 l0_0 x).f0] ?_ ((spec_NameRight.calls k1 _ _ _ Hb.out).mono ?_)
                 · simp [Act.eval, g1_]
                 · rintro e w'' ⟨rfl, hb⟩
                   exact ⟨_, rfl, hb.below, rfl⟩)
              | cases b | cases e37 | cases e48 | cases e55 | cases e60 | cases e68))
          case hE7 =>
            intro us w' hg hd
            have hZ : us 38 = .bool ((((!b || (e37 && !e48)) || e55) || e60) || e68) := allR_get hd (by kernel_rfl)
            clear hd
            replace HB := AM (below_grow HB.out hg)
            clear hyw hs0 hs1 hs2 hg he55n
            have H := H'.out
            have HH : (((((!b || (e37 && !e48)) || e55) || e60) || e68) = true ∧ r = false) ∨ (((((!b || (e37 && !e48)) || e55) || e60) || e68) = false ∧ spec_DriveRight.l0 k1 (wrap64 (x + 1)) l0_0 a0_1 = some r) := by
              clear hZ H' HB Hb HL HZ0 HZ1 HY HR HB1
              revert H
              simp only [gt_iff_lt, he37, he48, he55, he60, he68]
              by_cases c9 : 0 ≤ y <;> by_cases c10 : y < (l0_0.length : Int) <;> simp only [c9, c10, if_true, if_false] <;> cases b <;> cases e37 <;> cases e48 <;> cases e55 <;> cases e60 <;> cases e68 <;> simp [eq_comm]
            clear H H'
            rcases HH with ⟨hq, rfl⟩ | ⟨hq, H1⟩
            · rw [hq] at hZ
              rw [hZ]
              clear hZ he37 he48 he55 he60 he68
              go_wp2
              go_ret
              exact ⟨rfl, HB1.out.trans (HB.out.mono HB1.out.size)⟩
            · rw [hq] at hZ
              rw [hZ]
              replace H1 := AM H1
              clear hZ he37 he48 he55 he60 he68
              go_wp2
              go_roundg k1
              case measure => have := HK1.out; omega
              case rel => exact ⟨(wrap64 (x + 1)), (by first | rfl | (simp; done) | (simp [*]; done)), H1, ⟨by have := HK1.out; omega⟩, HB⟩
        · rw [if_neg c4] at H
          exact absurd H (by simp)
      · rw [if_neg c3] at H
        have c3b0 := eq_false c3
        clear c3
        obtain ⟨n, hn, H⟩ := Option.bind_eq_some_iff.mp H
        obtain rfl := Option.some.inj H
        have Hn := AM hn
        clear hn H
        go_wp2
        obtain ⟨f74, hf74⟩ : ∃ e_ : Bool, (n ≤ a0_1) = (e_ = true) := ⟨decide (n ≤ a0_1), by simp⟩
        refine wp_reg1 [[], [0], [], [2], [1, 3], [4]]
          (isVal [.agg #[.slice A0_0 l0_0.length c0_0, .int .i64 a0_1],
            .int .i64 n,
            .pointer (some ⟨g1, 1, none⟩),
            .int .i64 a0_1,
            .bool f74,
            .bool f74]) ?B9 ?d9 (by kernel_rfl) (by kernel_rfl) (by kernel_rfl) (by kernel_rfl) (fun us => ?hA9) (isVal_grow _) ?hS9 ?hE9
        case hA9 =>
          simp only [regPut, Act.put, List.setIfInBounds_toArray, List.set_cons_zero, List.set_cons_succ, Nat.reduceAdd, Nat.zero_add]
          rfl
        case hS9 =>
          refine ⟨?_, ?_, ?_, ?_, ?_, ?_, trivial⟩
          all_goals (intro us w' hg hd K hK; simp only [AllR, isVal, List.getD_cons_zero, List.getD_cons_succ] at hd; clear HL HK1 HB1)
          all_goals (have g1_ := True.intro; have g2_ := True.intro; try (obtain ⟨g1_, hd⟩ := hd); try (obtain ⟨g2_, hd⟩ := hd))
          all_goals (replace hz0 := cellG (grow_refl _) hg hz0; replace hz1 := cellG (grow_refl _) hg hz1)
          all_goals first
            | (refine reg_val hK rfl ?_ (grow_refl _) rfl
               go_simp
               done)
            | (refine reg_call hK rfl rfl Try.func186 (by kernel_rfl) rfl #[.agg #[.slice A0_0 l0_0.length c0_0, .int .i64 a0_1]] ?_ ((spec_l08Bytes.calls k1 _ _ _ _ _ _ (Kd.C_below HR.out (below_grow HB.out hg)) ?_ Hn.out).mono ?_)
               · simp [Act.eval, g1_]
               · exact HC.out
               · rintro e w'' ⟨rfl, hb⟩
                 exact ⟨_, rfl, hb, rfl⟩)
        case hE9 =>
          intro us w' hg hd
          have hZ : us 5 = .bool f74 := allR_get hd (by kernel_rfl)
          clear hd
          rw [hZ, show f74 = decide (n ≤ a0_1) by simp [hf74]]
          replace HB := AM (below_grow HB.out hg)
          clear hZ hf74 hz0 hz1
          go_wp2
          go_ret
          exact ⟨rfl, HB1.out.trans (HB.out.mono HB1.out.size)⟩

end Go.Proofs.Ytdbnajnelbebfaa.PFnExactObjectNames
