/- Functions of the law FnExactKeep: the print's, with walks of this session's own. No statement is proved here. -/
import Derived.WalkLawsBesides
import Derived.Test.YtfffdndeccipnaaVRegFnExactKeep
-- A program of this session wrote this text: a changed copy of the kit print, with given functions.
import Derived.Test.YtfffdndeccipnaaPFnExactKeepx0
import Derived.Test.YtfffdndeccipnaaPFnExactKeepx1
namespace Go.Proofs.Ytfffdndeccipnaa.PFnExactKeep
open Go.RowKit Go.Proofs.YtfffdndeccipnaaW.PrintWords Go.Proofs.YtfffdndeccipnaaW.PrintLast Go.Proofs.YtfffdndeccipnaaW.PrintMore Go.Proofs.Ytfffdndeccipnaa.Reg Go.Proofs.Ytfffdndeccipnaa.Aut
attribute [local go_sem] max2_int min2_int max_two min_two max_three min_three max_four min_four   -- for this text's walks alone
set_option linter.unusedVariables false
set_option linter.unusedSimpArgs false

/-! ### spec_SnapsRight: function 98 -/
def spec_SnapsRight.l0 : Nat → List (S132) → Int → Option (Bool)
  | 0, _, _ => none
  | k + 1, x0, x3 => if x3 < (x0.length : Int) then (if 0 ≤ x3 then ((spec_SnapRight.f k ((rd_T132 x0 x3).f0) ((rd_T132 x0 x3).f1) ((rd_T132 x0 x3).f2)).bind fun t110 => (if t110 = true then (if x3 > 0 then (if 0 ≤ (wrap64 (x3 - 1)) then (if (wrap64 (x3 - 1)) < (x0.length : Int) then (if ((Op.bytesLess (((rd_T132 x0 (wrap64 (x3 - 1))).f0).toList) (((rd_T132 x0 x3).f0).toList)) = true) then (spec_SnapsRight.l0 k x0 (wrap64 (x3 + 1))) else (some false)) else (none)) else (none)) else (spec_SnapsRight.l0 k x0 (wrap64 (x3 + 1)))) else (some false))) else (none)) else (some true)
def spec_SnapsRight.f (k : Nat) (l0 : List (S132)) : Option (Bool) := if (l0.length : Int) > 100 then (some false) else (spec_SnapsRight.l0 k l0 0)
theorem spec_SnapsRight.mono_l : ∀ k, (∀ y0 y1, LeO (spec_SnapsRight.l0 k y0 y1) (spec_SnapsRight.l0 (k + 1) y0 y1))
  | 0 => fun _ _ r h => by simp [spec_SnapsRight.l0] at h
  | k + 1 => by
    have ih0 := spec_SnapsRight.mono_l k
    · intro y0 y1
      unfold spec_SnapsRight.l0
      repeat' first
      | (with_reducible exact ih0 _ _)
      | (with_reducible exact spec_SnapRight.mono _ _ _ _)
      | (with_reducible exact LeO.refl _)
      | (with_reducible exact LeO.none _)
      | (with_reducible refine LeO.ite ?_ ?_)
      | (with_reducible refine LeO.bind ?_ (fun _ => ?_))
      | exact ih0 _ _
      | exact spec_SnapRight.mono _ _ _ _
      | exact LeO.none _
      | refine LeO.ite ?_ ?_
      | refine LeO.bind ?_ (fun _ => ?_)
theorem spec_SnapsRight.mono : ∀ a0 k, LeO (spec_SnapsRight.f k a0) (spec_SnapsRight.f (k + 1) a0) := by
  intro a0 k
  have ih0 := spec_SnapsRight.mono_l k
  unfold spec_SnapsRight.f
  repeat' first
      | (with_reducible exact ih0 _ _)
      | (with_reducible exact spec_SnapRight.mono _ _ _ _)
      | (with_reducible exact LeO.refl _)
      | (with_reducible exact LeO.none _)
      | (with_reducible refine LeO.ite ?_ ?_)
      | (with_reducible refine LeO.bind ?_ (fun _ => ?_))
      | exact ih0 _ _
      | exact spec_SnapRight.mono _ _ _ _
      | exact LeO.none _
      | refine LeO.ite ?_ ?_
      | refine LeO.bind ?_ (fun _ => ?_)
set_option maxHeartbeats 2000000 in
set_option maxRecDepth 100000 in
theorem spec_SnapsRight.calls (k : Nat) (A0 : Option Addr) (c0 : Nat) (l0 : List (S132)) (r : Bool) (w : World) (hr0 : Kd.C k132 w A0 l0.length l0) (hc0 : l0.length ≤ c0) (h : spec_SnapsRight.f k l0 = some r) :
    Calls Try.prog 98 #[.slice A0 l0.length c0] w fun e w' => e = .returned (.bool r) ∧ Below w.heap.size w w' := by
  have hu := Try.underlying132
  have HR0 := AM hr0
  have HC0 := AM hc0
  clear hr0 hc0
  have HB := AM (Below.refl w.heap.size w)
  have H : (if (l0.length : Int) > 100 then (some false) else (spec_SnapsRight.l0 k l0 0)) = some r := h
  clear h
  by_cases c2 : (l0.length : Int) > 100
  · rw [if_pos c2] at H
    have c2b0 : decide (100 < (l0.length : Int)) = true := decide_eq_true c2
    have c2b1 : decide (100 < l0.length) = true := decide_eq_true (by omega)
    clear c2
    obtain rfl := Option.some.inj H
    go_enter Try.func98, Try.ntmps98
    go_wp2
    go_ret
    exact ⟨rfl, HB.out⟩
  · rw [if_neg c2] at H
    have c2b0 : decide (100 < (l0.length : Int)) = false := decide_eq_false c2
    have c2b1 : decide (100 < l0.length) = false := decide_eq_false (by omega)
    have HL := AM c2
    clear c2
    have H' := AM H
    clear H
    go_enter Try.func98, Try.ntmps98
    go_wp2
    go_loopg [3] k (fun kq v3 w' => ∃ (x3_1 : Int), v3 = .int .i64 x3_1 ∧ Aside0 (spec_SnapsRight.l0 kq l0 x3_1 = some r) ∧ Aside0 (kq ≤ k) ∧ Aside0 (Below w.heap.size w w'))
    case atStart => exact ⟨(0), rfl, H', ⟨Nat.le_refl _⟩, HB⟩
    case round =>
      clear H' c2b0 c2b1
      obtain ⟨x, rfl, HA, HK1, HB⟩ := hrel
      cases gk with
      | zero => exact absurd HA.out (by simp [spec_SnapsRight.l0])
      | succ k1 =>
        have H := HA.out
        clear HA
        simp only [spec_SnapsRight.l0] at H
        by_cases c3 : x < (l0.length : Int)
        · rw [if_pos c3] at H
          have c3b0 : decide (x < (l0.length : Int)) = true := decide_eq_true c3
          by_cases c4 : 0 ≤ x
          · rw [if_pos c4] at H
            obtain ⟨b, hb, H⟩ := Option.bind_eq_some_iff.mp H
            have H' := AM H
            have Hb := AM hb
            clear H hb
            have c3' := AM c3
            have c4' := AM c4
            clear c3 c4
            go_wp2
            obtain ⟨ad, rfl, hx0, hx1, hx2⟩ := at_T132 HR0.out x c4'.out c3'.out
            have c4b0 := eq_true c4'.out
            have c3b1 := eq_true c3'.out
            obtain ⟨p, hp⟩ : ∃ p : Bool, (0 < x) = (p = true) := ⟨decide (0 < x), by simp⟩
            obtain ⟨y, hy⟩ : ∃ y, wrap64 (x - 1) = y := ⟨_, rfl⟩
            have hyw : IntKind.i64.wrap (x - 1) = y := (i64_w _).trans hy
            have HY := AM hy
            rw [hy] at H'
            clear hy
            have hY : (b && p) = true → (0 ≤ y) = True ∧ (y < (l0.length : Int)) = True ∧ w.cell? (ad.add (y.toNat * 3)) = some (.string (rd_T132 l0 y).f0) := by
              intro hbp
              simp only [Bool.and_eq_true] at hbp
              have H := H'.out
              rw [if_pos hbp.1, if_pos (by show 0 < x; rw [hp]; exact hbp.2)] at H
              by_cases c9 : 0 ≤ y
              · rw [if_pos c9] at H
                by_cases c10 : y < (l0.length : Int)
                · obtain ⟨ad', e, h1, _⟩ := at_T132 HR0.out y c9 c10
                  cases e
                  exact ⟨eq_true c9, eq_true c10, h1⟩
                · rw [if_neg c10] at H
                  cases H
              · rw [if_neg c9] at H
                cases H
            refine wp_reg1 [[], [], [0, 1], [2], [3], [4], [5], [6], [6, 7], [6, 8], [9], [9], [9, 11], [9, 10, 12], [9, 13], [9, 14], [9], [9], [9, 16, 17], [9, 18], [9, 19], [9, 15, 20], [6, 9, 21], [6, 22]]
              (isVal [.slice (some ad) l0.length c0,
                .int .i64 x,
                .pointer (some (ad.add (x.toNat * 3))),
                .agg #[.string (rd_T132 l0 x).f0, .int .i64 (rd_T132 l0 x).f1, .string (rd_T132 l0 x).f2],
                .bool b,
                .bool (!b),
                .bool (!b),
                if b then .int .i64 x else undef,
                if b then .bool p else undef,
                if b then .bool p else undef,
                if b && p then .slice (some ad) l0.length c0 else undef,
                if b && p then .int .i64 x else undef,
                if b && p then .int .i64 y else undef,
                if b && p then .pointer (some (ad.add (y.toNat * 3))) else undef,
                if b && p then .pointer (some (ad.add (y.toNat * 3))) else undef,
                if b && p then .string (rd_T132 l0 y).f0 else undef,
                if b && p then .slice (some ad) l0.length c0 else undef,
                if b && p then .int .i64 x else undef,
                if b && p then .pointer (some (ad.add (x.toNat * 3))) else undef,
                if b && p then .pointer (some (ad.add (x.toNat * 3))) else undef,
                if b && p then .string (rd_T132 l0 x).f0 else undef,
                if b && p then .bool (!Op.bytesLess (rd_T132 l0 y).f0.toList (rd_T132 l0 x).f0.toList) else undef,
                if b then .bool (p && !Op.bytesLess (rd_T132 l0 y).f0.toList (rd_T132 l0 x).f0.toList) else undef,
                .bool (!b || (p && !Op.bytesLess (rd_T132 l0 y).f0.toList (rd_T132 l0 x).f0.toList))]) ?B ?d (by kernel_rfl) (by kernel_rfl) (by kernel_rfl) (by kernel_rfl) (fun us => ?hA) (isVal_grow _) ?hS ?hE
            case hA =>
              simp only [regPut, Act.put, List.setIfInBounds_toArray, List.set_cons_zero, List.set_cons_succ, Nat.reduceAdd, Nat.zero_add]
              rfl
            case hS =>
              refine ⟨?_, ?_, ?_, ?_, ?_, ?_, ?_, ?_, ?_, ?_, ?_, ?_, ?_, ?_, ?_, ?_, ?_, ?_, ?_, ?_, ?_, ?_, ?_, ?_, trivial⟩
              all_goals (intro us w' hg hd K hK; simp only [AllR, isVal, List.getD_cons_zero, List.getD_cons_succ] at hd; clear H' HR0 HC0 HL HY)
              all_goals (have g1 := True.intro; have g2 := True.intro; have g3 := True.intro; try (obtain ⟨g1, hd⟩ := hd); try (obtain ⟨g2, hd⟩ := hd); try (obtain ⟨g3, hd⟩ := hd))
              all_goals (replace hx0 := cellG HB.out hg hx0; replace hx1 := cellG HB.out hg hx1; replace hx2 := cellG HB.out hg hx2)
              all_goals (cases b <;> cases p)
              all_goals (try (obtain ⟨y1, y2, y3⟩ := hY rfl; replace y3 := cellG HB.out hg y3))
              all_goals clear hY
              all_goals first
                | (refine reg_skip hK ?_ rfl; (simp [wantedG, asB, undef, g1, g2, g3]; done))
                | (refine reg_val hK ?_ ?_ (grow_refl _) rfl
                   · first | rfl | (simp [wantedG, asB, undef, g1, g2, g3]; done)
                   · go_simp
                     done)
                | (refine reg_call hK rfl rfl Try.func166 (by kernel_rfl) rfl #[.agg #[.string (rd_T132 l0 x).f0, .int .i64 (rd_T132 l0 x).f1, .string (rd_T132 l0 x).f2]] ?_ ((spec_SnapRight.calls k1 _ _ _ _ _ Hb.out).mono ?_)
                   · simp [Act.eval, g1]
                   · rintro e w'' ⟨rfl, hb⟩
                     exact ⟨_, rfl, hb, rfl⟩)
            case hE =>
              intro us w' hg hd
              have h23 : us 23 = .bool (!b || (p && !Op.bytesLess (rd_T132 l0 y).f0.toList (rd_T132 l0 x).f0.toList)) := allR_get hd (by kernel_rfl)
              clear hd
              replace HB := AM (below_grow HB.out hg)
              clear hyw hx0 hx1 hx2 hg
              have H := H'.out
              by_cases hq : (!b || (p && !Op.bytesLess (rd_T132 l0 y).f0.toList (rd_T132 l0 x).f0.toList)) = true
              · rw [hq] at h23
                rw [h23]
                obtain rfl : r = false := by
                  cases b
                  · rw [if_neg (by simp)] at H
                    exact (Option.some.inj H).symm
                  · cases p
                    · simp at hq
                    · rw [if_pos rfl, if_pos (by show 0 < x; rw [hp]), if_pos (of_eq_true (hY rfl).1), if_pos (of_eq_true (hY rfl).2.1), if_neg (by simpa using hq)] at H
                      exact (Option.some.inj H).symm
                clear h23 H H' hY
                go_wp2
                go_ret
                exact ⟨rfl, HB.out⟩
              · rw [Bool.not_eq_true] at hq
                rw [hq] at h23
                rw [h23]
                have H1 : spec_SnapsRight.l0 k1 l0 (wrap64 (x + 1)) = some r := by
                  cases b
                  · simp at hq
                  · rw [if_pos rfl] at H
                    cases p
                    · rw [if_neg (by show ¬ 0 < x; rw [hp]; simp)] at H
                      exact H
                    · rw [if_pos (by show 0 < x; rw [hp]), if_pos (of_eq_true (hY rfl).1), if_pos (of_eq_true (hY rfl).2.1), if_pos (by simpa using hq)] at H
                      exact H
                replace H1 := AM H1
                clear h23 H H' hY
                go_wp2
                go_roundg k1
                case measure => have := HK1.out; omega
                case rel => exact ⟨(wrap64 (x + 1)), (by first | rfl | (simp; done) | (simp [*]; done)), H1, ⟨by have := HK1.out; omega⟩, HB⟩
          · rw [if_neg c4] at H
            exact absurd H (by simp)
        · rw [if_neg c3] at H
          have c3b0 : decide (x < (l0.length : Int)) = false := decide_eq_false c3
          clear c3
          obtain rfl := Option.some.inj H
          go_wp2
          go_ret
          exact ⟨rfl, HB.out⟩

end Go.Proofs.Ytfffdndeccipnaa.PFnExactKeep
