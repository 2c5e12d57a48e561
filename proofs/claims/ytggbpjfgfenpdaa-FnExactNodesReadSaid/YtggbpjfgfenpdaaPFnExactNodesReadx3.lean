/- Functions of the law FnExactNodesRead: the print's, with walks of this session's own. No statement is proved here. -/
import Derived.WalkLawsBesides
import Derived.Test.YtggbpjfgfenpdaaVRegFnExactNodesRead
-- A program of this session wrote this text: a changed copy of the kit print, with given functions.
import Derived.Test.YtggbpjfgfenpdaaPFnExactNodesReadx0
import Derived.Test.YtggbpjfgfenpdaaPFnExactNodesReadx2
namespace Go.Proofs.Ytggbpjfgfenpdaa.PFnExactNodesRead
open Go.RowKit Go.Proofs.YtggbpjfgfenpdaaW.PrintWords Go.Proofs.YtggbpjfgfenpdaaW.PrintLast Go.Proofs.YtggbpjfgfenpdaaW.PrintMore Go.Proofs.Ytggbpjfgfenpdaa.Reg Go.Proofs.Ytggbpjfgfenpdaa.Aut
attribute [local go_sem] max2_int min2_int max_two min_two max_three min_three max_four min_four   -- for this text's walks alone
set_option linter.unusedVariables false
set_option linter.unusedSimpArgs false

/-! ### spec_NodesRight: function 48 -/
def spec_NodesRight.l0 : Nat → List (S74) → Int → Option (Bool)
  | 0, _, _ => none
  | k + 1, x0, x3 => if x3 < (x0.length : Int) then (if 0 ≤ x3 then ((spec_l11NodeRight.f k ((rd_T74 x0 x3).f0) ((rd_T74 x0 x3).f1) ((rd_T74 x0 x3).f2) ((rd_T74 x0 x3).f3)).bind fun t105 => (if t105 = true then (if x3 > 0 then (if 0 ≤ (wrap64 (x3 - 1)) then (if (wrap64 (x3 - 1)) < (x0.length : Int) then (if ((Op.bytesLess (((rd_T74 x0 (wrap64 (x3 - 1))).f0).toList) (((rd_T74 x0 x3).f0).toList)) = true) then (spec_NodesRight.l0 k x0 (wrap64 (x3 + 1))) else (some false)) else (none)) else (none)) else (spec_NodesRight.l0 k x0 (wrap64 (x3 + 1)))) else (some false))) else (none)) else (some true)
def spec_NodesRight.f (k : Nat) (l0 : List (S74)) : Option (Bool) := if (l0.length : Int) > 20 then (some false) else (spec_NodesRight.l0 k l0 0)
theorem spec_NodesRight.mono_l : ∀ k, (∀ y0 y1, LeO (spec_NodesRight.l0 k y0 y1) (spec_NodesRight.l0 (k + 1) y0 y1))
  | 0 => fun _ _ r h => by simp [spec_NodesRight.l0] at h
  | k + 1 => by
    have ih0 := spec_NodesRight.mono_l k
    · intro y0 y1
      unfold spec_NodesRight.l0
      repeat' first
      | (with_reducible exact ih0 _ _)
      | (with_reducible exact spec_l11NodeRight.mono _ _ _ _ _)
      | (with_reducible exact LeO.refl _)
      | (with_reducible exact LeO.none _)
      | (with_reducible refine LeO.ite ?_ ?_)
      | (with_reducible refine LeO.bind ?_ (fun _ => ?_))
      | exact ih0 _ _
      | exact spec_l11NodeRight.mono _ _ _ _ _
      | exact LeO.none _
      | refine LeO.ite ?_ ?_
      | refine LeO.bind ?_ (fun _ => ?_)
theorem spec_NodesRight.mono : ∀ a0 k, LeO (spec_NodesRight.f k a0) (spec_NodesRight.f (k + 1) a0) := by
  intro a0 k
  have ih0 := spec_NodesRight.mono_l k
  unfold spec_NodesRight.f
  repeat' first
      | (with_reducible exact ih0 _ _)
      | (with_reducible exact spec_l11NodeRight.mono _ _ _ _ _)
      | (with_reducible exact LeO.refl _)
      | (with_reducible exact LeO.none _)
      | (with_reducible refine LeO.ite ?_ ?_)
      | (with_reducible refine LeO.bind ?_ (fun _ => ?_))
      | exact ih0 _ _
      | exact spec_l11NodeRight.mono _ _ _ _ _
      | exact LeO.none _
      | refine LeO.ite ?_ ?_
      | refine LeO.bind ?_ (fun _ => ?_)
theorem spec_NodesRight.step (k : Nat) (l : List (S74)) (x : Int) (r : Bool) (y : Int) (hy : wrap64 (x - 1) = y) (h : spec_NodesRight.l0 (k + 1) l x = some r) (c3 : x < (l.length : Int)) (c4 : 0 ≤ x) :
    ∃ b, spec_l11NodeRight.f k (rd_T74 l x).f0 (rd_T74 l x).f1 (rd_T74 l x).f2 (rd_T74 l x).f3 = some b ∧ (b = true → 0 < x → 0 ≤ y ∧ y < (l.length : Int)) ∧
      ((b = true ∧ ¬ (0 < x ∧ ¬ Op.bytesLess (rd_T74 l y).f0.toList (rd_T74 l x).f0.toList = true) ∧ spec_NodesRight.l0 k l (wrap64 (x + 1)) = some r) ∨ (¬ (b = true ∧ ¬ (0 < x ∧ ¬ Op.bytesLess (rd_T74 l y).f0.toList (rd_T74 l x).f0.toList = true)) ∧ r = false)) := by
  simp only [spec_NodesRight.l0, hy] at h
  rw [if_pos c3, if_pos c4] at h
  obtain ⟨b, hb, h⟩ := Option.bind_eq_some_iff.mp h
  refine ⟨b, hb, ?_⟩
  by_cases e : b = true
  · rw [if_pos e] at h
    by_cases hx : 0 < x
    · rw [if_pos hx] at h
      by_cases c9 : 0 ≤ y
      · rw [if_pos c9] at h
        by_cases c10 : y < (l.length : Int)
        · rw [if_pos c10] at h
          refine ⟨fun _ _ => ⟨c9, c10⟩, ?_⟩
          by_cases hl : Op.bytesLess (rd_T74 l y).f0.toList (rd_T74 l x).f0.toList = true
          · rw [if_pos hl] at h
            exact .inl ⟨e, fun q => q.2 hl, h⟩
          · rw [if_neg hl] at h
            exact .inr ⟨fun q => q.2 ⟨hx, hl⟩, (Option.some.inj h).symm⟩
        · rw [if_neg c10] at h
          cases h
      · rw [if_neg c9] at h
        cases h
    · rw [if_neg hx] at h
      exact ⟨fun _ q => absurd q hx, .inl ⟨e, fun q => hx q.1, h⟩⟩
  · rw [if_neg e] at h
    exact ⟨fun q => absurd q e, .inr ⟨fun q => e q.1, (Option.some.inj h).symm⟩⟩
set_option maxHeartbeats 4000000 in
set_option maxRecDepth 100000 in
theorem spec_NodesRight.calls (k : Nat) (A0 : Option Addr) (c0 : Nat) (l0 : List (S74)) (r : Bool) (w : World) (hr0 : Kd.C k74 w A0 l0.length l0) (hc0 : l0.length ≤ c0) (h : spec_NodesRight.f k l0 = some r) :
    Calls Try.prog 48 #[.slice A0 l0.length c0] w fun e w' => e = .returned (.bool r) ∧ Below w.heap.size w w' := by
  have hu := Try.underlying74
  have HR0 := AM hr0
  have HC0 := AM hc0
  clear hr0 hc0
  have HB := AM (Below.refl w.heap.size w)
  have H : (if (l0.length : Int) > 20 then (some false) else (spec_NodesRight.l0 k l0 0)) = some r := h
  clear h
  by_cases c2 : (l0.length : Int) > 20
  · rw [if_pos c2] at H
    have c2b0 : decide (20 < (l0.length : Int)) = true := decide_eq_true c2
    have c2b1 : decide (20 < l0.length) = true := decide_eq_true (by omega)
    clear c2
    obtain rfl := Option.some.inj H
    go_enter Try.func48, Try.ntmps48
    go_wp2
    go_ret
    exact ⟨rfl, HB.out⟩
  · rw [if_neg c2] at H
    have c2b0 : decide (20 < (l0.length : Int)) = false := decide_eq_false c2
    have c2b1 : decide (20 < l0.length) = false := decide_eq_false (by omega)
    clear c2
    have H' := AM H
    clear H
    go_enter Try.func48, Try.ntmps48
    go_wp2
    go_loopg [3] k (fun kq v3 w' => ∃ (x : Int), v3 = .int .i64 x ∧ Aside0 (spec_NodesRight.l0 kq l0 x = some r) ∧ Aside0 (kq ≤ k) ∧ Aside0 (Below w.heap.size w w'))
    case atStart => exact ⟨(0), rfl, H', ⟨Nat.le_refl _⟩, HB⟩
    case round =>
      clear H' c2b0 c2b1
      obtain ⟨x, rfl, HA, HK1, HB⟩ := hrel
      cases gk with
      | zero => exact absurd HA.out (by simp [spec_NodesRight.l0])
      | succ k1 =>
        by_cases c3 : x < (l0.length : Int)
        · by_cases c4 : 0 ≤ x
          · obtain ⟨y, hy⟩ : ∃ y, wrap64 (x - 1) = y := ⟨_, rfl⟩
            obtain ⟨b, hb, hyy, hfin⟩ := spec_NodesRight.step k1 l0 x r y hy HA.out c3 c4
            obtain ⟨ad, A3, c33, rfl, hx0, hx1, hx2, hx3, hl3, hk3⟩ := at_T74 HR0.out x c4 c3
            have hyw : IntKind.i64.wrap (x - 1) = y := (i64_w _).trans hy
            obtain ⟨e21, he21⟩ : ∃ e_ : Bool, (0 < x) = (e_ = true) := ⟨decide (0 < x), by simp⟩
            rw [he21] at hyy hfin
            have HYy : b = true → e21 = true → (0 ≤ y) = True ∧ (y < (l0.length : Int)) = True ∧ w.cell? (ad.add (y.toNat * 4)) = some (.string (rd_T74 l0 y).f0) := by
              intro q1 q2
              obtain ⟨c9, c10⟩ := hyy q1 q2
              obtain ⟨ad', _, _, e, h1, _⟩ := at_T74 HR0.out y c9 c10
              cases e
              exact ⟨eq_true c9, eq_true c10, h1⟩
            have HY := AM HYy
            have Hb := AM hb
            have Hfin := AM hfin
            have HL3 := AM hl3
            have HK3 := AM hk3
            have c3b0 : decide (x < (l0.length : Int)) = true := decide_eq_true c3
            have c4b0 := eq_true c4
            have c3b1 := eq_true c3
            have HX := AM (And.intro hx0 (And.intro hx1 (And.intro hx2 hx3)))
            clear HA hy hb hyy hfin HYy c3 c4 hl3 hk3 hx0 hx1 hx2 hx3
            have HE21 := AM he21
            clear he21
            go_wp2
            have he21 := HE21.out
            obtain ⟨e34, he34⟩ : ∃ e_ : Bool, Op.bytesLess ((rd_T74 l0 y).f0).toList ((rd_T74 l0 x).f0).toList = e_ := ⟨_, rfl⟩
            refine wp_reg1 [[], [], [0, 1], [2], [3], [4], [5], [6], [6, 7], [6, 8], [9], [9], [9, 11], [9, 10, 12], [9, 13], [9, 14], [9], [9], [9, 16, 17], [9, 18], [9, 19], [9, 15, 20], [6, 9, 21], [6, 22]]
              (isVal [.slice (some ad) l0.length c0,
                .int .i64 x,
                .pointer (some (ad.add (x.toNat * 4))),
                .agg #[.string (rd_T74 l0 x).f0, .bool (rd_T74 l0 x).f1, .int .i64 (rd_T74 l0 x).f2, .slice A3 (rd_T74 l0 x).f3.length c33],
                .bool b,
                .bool (!b),
                .bool (!b),
                if b then .int .i64 x else undef,
                if b then .bool e21 else undef,
                if b then .bool e21 else undef,
                if b && e21 then .slice (some ad) l0.length c0 else undef,
                if b && e21 then .int .i64 x else undef,
                if b && e21 then .int .i64 y else undef,
                if b && e21 then .pointer (some (ad.add (y.toNat * 4))) else undef,
                if b && e21 then .pointer (some (ad.add (y.toNat * 4))) else undef,
                if b && e21 then .string ((rd_T74 l0 y).f0) else undef,
                if b && e21 then .slice (some ad) l0.length c0 else undef,
                if b && e21 then .int .i64 x else undef,
                if b && e21 then .pointer (some (ad.add (x.toNat * 4))) else undef,
                if b && e21 then .pointer (some (ad.add (x.toNat * 4))) else undef,
                if b && e21 then .string ((rd_T74 l0 x).f0) else undef,
                if b && e21 then .bool (!e34) else undef,
                if b then .bool (e21 && !e34) else undef,
                .bool (!b || (e21 && !e34))]) ?B6 ?d6 (by kernel_rfl) (by kernel_rfl) (by kernel_rfl) (by kernel_rfl) (fun us => ?hA6) (isVal_grow _) ?hS6 ?hE6
            case hA6 =>
              simp only [regPut, Act.put, List.setIfInBounds_toArray, List.set_cons_zero, List.set_cons_succ, Nat.reduceAdd, Nat.zero_add]
              rfl
            case hS6 =>
              refine ⟨?_, ?_, ?_, ?_, ?_, ?_, ?_, ?_, ?_, ?_, ?_, ?_, ?_, ?_, ?_, ?_, ?_, ?_, ?_, ?_, ?_, ?_, ?_, ?_, trivial⟩
              all_goals (intro us w' hg hd K hK; simp only [AllR, isVal, List.getD_cons_zero, List.getD_cons_succ] at hd; clear HR0 HC0 Hfin HE21 HK1)
              all_goals (have g1_ := True.intro; have g2_ := True.intro; have g3_ := True.intro; try (obtain ⟨g1_, hd⟩ := hd); try (obtain ⟨g2_, hd⟩ := hd); try (obtain ⟨g3_, hd⟩ := hd))
              all_goals (have hz0 := cellG HB.out hg HX.out.1; have hz1 := cellG HB.out hg HX.out.2.1; have hz2 := cellG HB.out hg HX.out.2.2.1; have hz3 := cellG HB.out hg HX.out.2.2.2)
              · all_goals (repeat' (first
                    | (refine reg_val hK ?_ ?_ (grow_refl _) rfl
                       · first | rfl | (simp [wantedG, asB, undef, g1_, g2_, g3_]; done)
                       · skip
                         (try (obtain ⟨y1, y2, y3⟩ := HY.out rfl rfl; replace y3 := cellG HB.out hg y3))
                         go_simp
                         done)
                    | cases b | cases e21 | cases e34))
              · all_goals (repeat' (first
                    | (refine reg_val hK ?_ ?_ (grow_refl _) rfl
                       · first | rfl | (simp [wantedG, asB, undef, g1_, g2_, g3_]; done)
                       · skip
                         (try (obtain ⟨y1, y2, y3⟩ := HY.out rfl rfl; replace y3 := cellG HB.out hg y3))
                         go_simp
                         done)
                    | cases b | cases e21 | cases e34))
              · all_goals (repeat' (first
                    | (refine reg_val hK ?_ ?_ (grow_refl _) rfl
                       · first | rfl | (simp [wantedG, asB, undef, g1_, g2_, g3_]; done)
                       · skip
                         (try (obtain ⟨y1, y2, y3⟩ := HY.out rfl rfl; replace y3 := cellG HB.out hg y3))
                         go_simp
                         done)
                    | cases b | cases e21 | cases e34))
              · all_goals (repeat' (first
                    | (refine reg_val hK ?_ ?_ (grow_refl _) rfl
                       · first | rfl | (simp [wantedG, asB, undef, g1_, g2_, g3_]; done)
                       · skip
                         (try (obtain ⟨y1, y2, y3⟩ := HY.out rfl rfl; replace y3 := cellG HB.out hg y3))
                         go_simp
                         done)
                    | cases b | cases e21 | cases e34))
              · all_goals (repeat' (first
                    | (refine reg_call hK ?_ rfl Try.func98 (by kernel_rfl) rfl #[.agg #[.string (rd_T74 l0 x).f0, .bool (rd_T74 l0 x).f1, .int .i64 (rd_T74 l0 x).f2, .slice A3 (rd_T74 l0 x).f3.length c33]] ?_ ((spec_l11NodeRight.calls k1 _ _ _ _ _ _ _ _ (Kd.C_below HK3.out (below_grow HB.out hg)) HL3.out Hb.out).mono ?_)
                       · first | rfl | (simp [wantedG, asB, undef, g1_, g2_, g3_]; done)
                       · simp [Act.eval, g1_, g2_, g3_]
                       · rintro e_ w'' ⟨rfl, hb_⟩
                         exact ⟨_, rfl, (by first | exact hb_ | exact hb_.below), rfl⟩)
                    | cases b | cases e21 | cases e34))
              · all_goals (repeat' (first
                    | (refine reg_val hK ?_ ?_ (grow_refl _) rfl
                       · first | rfl | (simp [wantedG, asB, undef, g1_, g2_, g3_]; done)
                       · skip
                         (try (obtain ⟨y1, y2, y3⟩ := HY.out rfl rfl; replace y3 := cellG HB.out hg y3))
                         go_simp
                         done)
                    | cases b | cases e21 | cases e34))
              · all_goals (repeat' (first
                    | (refine reg_val hK ?_ ?_ (grow_refl _) rfl
                       · first | rfl | (simp [wantedG, asB, undef, g1_, g2_, g3_]; done)
                       · skip
                         (try (obtain ⟨y1, y2, y3⟩ := HY.out rfl rfl; replace y3 := cellG HB.out hg y3))
                         go_simp
                         done)
                    | cases b | cases e21 | cases e34))
              · rcases Bool.eq_false_or_eq_true (b : Bool) with hG_ | hG_
                rotate_left
                · exact reg_skip hK (by rw [(wanted_f rfl g1_).trans (show _ = (b : Bool) by first | rfl | (simp; done)), hG_]; decide) (by show undef = ite _ _ _; rw [hG_]; rfl)
                all_goals (cases b <;> first | (exfalso; simp at hG_; done) | skip)
                all_goals (repeat' (first
                    | (refine reg_skip hK ?_ rfl; (simp [wantedG, asB, undef, g1_, g2_, g3_]; done))
                    | (refine reg_val hK ?_ ?_ (grow_refl _) rfl
                       · first | rfl | (simp [wantedG, asB, undef, g1_, g2_, g3_]; done)
                       · skip
                         (try (obtain ⟨y1, y2, y3⟩ := HY.out rfl rfl; replace y3 := cellG HB.out hg y3))
                         go_simp
                         done)
                    | cases e21 | cases e34))
              · rcases Bool.eq_false_or_eq_true (b : Bool) with hG_ | hG_
                rotate_left
                · exact reg_skip hK (by rw [(wanted_f rfl g1_).trans (show _ = (b : Bool) by first | rfl | (simp; done)), hG_]; decide) (by show undef = ite _ _ _; rw [hG_]; rfl)
                all_goals (cases b <;> first | (exfalso; simp at hG_; done) | skip)
                all_goals (repeat' (first
                    | (refine reg_skip hK ?_ rfl; (simp [wantedG, asB, undef, g1_, g2_, g3_]; done))
                    | (refine reg_val hK ?_ ?_ (grow_refl _) rfl
                       · first | rfl | (simp [wantedG, asB, undef, g1_, g2_, g3_]; done)
                       · skip
                         (try (obtain ⟨y1, y2, y3⟩ := HY.out rfl rfl; replace y3 := cellG HB.out hg y3))
                         go_simp
                         done)
                    | cases e21 | cases e34))
              · rcases Bool.eq_false_or_eq_true (b : Bool) with hG_ | hG_
                rotate_left
                · exact reg_skip hK (by rw [(wanted_f rfl g1_).trans (show _ = (b : Bool) by first | rfl | (simp; done)), hG_]; decide) (by show undef = ite _ _ _; rw [hG_]; rfl)
                all_goals (cases b <;> first | (exfalso; simp at hG_; done) | skip)
                all_goals (repeat' (first
                    | (refine reg_skip hK ?_ rfl; (simp [wantedG, asB, undef, g1_, g2_, g3_]; done))
                    | (refine reg_val hK ?_ ?_ (grow_refl _) rfl
                       · first | rfl | (simp [wantedG, asB, undef, g1_, g2_, g3_]; done)
                       · skip
                         (try (obtain ⟨y1, y2, y3⟩ := HY.out rfl rfl; replace y3 := cellG HB.out hg y3))
                         go_simp
                         done)
                    | cases e21 | cases e34))
              · rcases Bool.eq_false_or_eq_true ((b && e21) : Bool) with hG_ | hG_
                rotate_left
                · exact reg_skip hK (by rw [(wanted_it rfl g1_).trans (show _ = ((b && e21) : Bool) by first | rfl | (simp; done)), hG_]; decide) (by show undef = ite _ _ _; rw [hG_]; rfl)
                all_goals (cases b <;> first | (exfalso; simp at hG_; done) | skip)
                all_goals (cases e21 <;> first | (exfalso; simp at hG_; done) | skip)
                all_goals (repeat' (first
                    | (refine reg_skip hK ?_ rfl; (simp [wantedG, asB, undef, g1_, g2_, g3_]; done))
                    | (refine reg_val hK ?_ ?_ (grow_refl _) rfl
                       · first | rfl | (simp [wantedG, asB, undef, g1_, g2_, g3_]; done)
                       · skip
                         (try (obtain ⟨y1, y2, y3⟩ := HY.out rfl rfl; replace y3 := cellG HB.out hg y3))
                         go_simp
                         done)
                    | cases e34))
              · rcases Bool.eq_false_or_eq_true ((b && e21) : Bool) with hG_ | hG_
                rotate_left
                · exact reg_skip hK (by rw [(wanted_it rfl g1_).trans (show _ = ((b && e21) : Bool) by first | rfl | (simp; done)), hG_]; decide) (by show undef = ite _ _ _; rw [hG_]; rfl)
                all_goals (cases b <;> first | (exfalso; simp at hG_; done) | skip)
                all_goals (cases e21 <;> first | (exfalso; simp at hG_; done) | skip)
                all_goals (repeat' (first
                    | (refine reg_skip hK ?_ rfl; (simp [wantedG, asB, undef, g1_, g2_, g3_]; done))
                    | (refine reg_val hK ?_ ?_ (grow_refl _) rfl
                       · first | rfl | (simp [wantedG, asB, undef, g1_, g2_, g3_]; done)
                       · skip
                         (try (obtain ⟨y1, y2, y3⟩ := HY.out rfl rfl; replace y3 := cellG HB.out hg y3))
                         go_simp
                         done)
                    | cases e34))
              · rcases Bool.eq_false_or_eq_true ((b && e21) : Bool) with hG_ | hG_
                rotate_left
                · exact reg_skip hK (by rw [(wanted_it rfl g1_).trans (show _ = ((b && e21) : Bool) by first | rfl | (simp; done)), hG_]; decide) (by show undef = ite _ _ _; rw [hG_]; rfl)
                all_goals (cases b <;> first | (exfalso; simp at hG_; done) | skip)
                all_goals (cases e21 <;> first | (exfalso; simp at hG_; done) | skip)
                all_goals (repeat' (first
                    | (refine reg_skip hK ?_ rfl; (simp [wantedG, asB, undef, g1_, g2_, g3_]; done))
                    | (refine reg_val hK ?_ ?_ (grow_refl _) rfl
                       · first | rfl | (simp [wantedG, asB, undef, g1_, g2_, g3_]; done)
                       · skip
                         (try (obtain ⟨y1, y2, y3⟩ := HY.out rfl rfl; replace y3 := cellG HB.out hg y3))
                         go_simp
                         done)
                    | cases e34))
              · rcases Bool.eq_false_or_eq_true ((b && e21) : Bool) with hG_ | hG_
                rotate_left
                · exact reg_skip hK (by rw [(wanted_it rfl g1_).trans (show _ = ((b && e21) : Bool) by first | rfl | (simp; done)), hG_]; decide) (by show undef = ite _ _ _; rw [hG_]; rfl)
                all_goals (cases b <;> first | (exfalso; simp at hG_; done) | skip)
                all_goals (cases e21 <;> first | (exfalso; simp at hG_; done) | skip)
                all_goals (repeat' (first
                    | (refine reg_skip hK ?_ rfl; (simp [wantedG, asB, undef, g1_, g2_, g3_]; done))
                    | (refine reg_val hK ?_ ?_ (grow_refl _) rfl
                       · first | rfl | (simp [wantedG, asB, undef, g1_, g2_, g3_]; done)
                       · skip
                         (try (obtain ⟨y1, y2, y3⟩ := HY.out rfl rfl; replace y3 := cellG HB.out hg y3))
                         go_simp
                         done)
                    | cases e34))
              · rcases Bool.eq_false_or_eq_true ((b && e21) : Bool) with hG_ | hG_
                rotate_left
                · exact reg_skip hK (by rw [(wanted_it rfl g1_).trans (show _ = ((b && e21) : Bool) by first | rfl | (simp; done)), hG_]; decide) (by show undef = ite _ _ _; rw [hG_]; rfl)
                all_goals (cases b <;> first | (exfalso; simp at hG_; done) | skip)
                all_goals (cases e21 <;> first | (exfalso; simp at hG_; done) | skip)
                all_goals (repeat' (first
                    | (refine reg_skip hK ?_ rfl; (simp [wantedG, asB, undef, g1_, g2_, g3_]; done))
                    | (refine reg_val hK ?_ ?_ (grow_refl _) rfl
                       · first | rfl | (simp [wantedG, asB, undef, g1_, g2_, g3_]; done)
                       · skip
                         (try (obtain ⟨y1, y2, y3⟩ := HY.out rfl rfl; replace y3 := cellG HB.out hg y3))
                         go_simp
                         done)
                    | cases e34))
              · rcases Bool.eq_false_or_eq_true ((b && e21) : Bool) with hG_ | hG_
                rotate_left
                · exact reg_skip hK (by rw [(wanted_it rfl g1_).trans (show _ = ((b && e21) : Bool) by first | rfl | (simp; done)), hG_]; decide) (by show undef = ite _ _ _; rw [hG_]; rfl)
                all_goals (cases b <;> first | (exfalso; simp at hG_; done) | skip)
                all_goals (cases e21 <;> first | (exfalso; simp at hG_; done) | skip)
                all_goals (repeat' (first
                    | (refine reg_skip hK ?_ rfl; (simp [wantedG, asB, undef, g1_, g2_, g3_]; done))
                    | (refine reg_val hK ?_ ?_ (grow_refl _) rfl
                       · first | rfl | (simp [wantedG, asB, undef, g1_, g2_, g3_]; done)
                       · skip
                         (try (obtain ⟨y1, y2, y3⟩ := HY.out rfl rfl; replace y3 := cellG HB.out hg y3))
                         go_simp
                         done)
                    | cases e34))
              · rcases Bool.eq_false_or_eq_true ((b && e21) : Bool) with hG_ | hG_
                rotate_left
                · exact reg_skip hK (by rw [(wanted_it rfl g1_).trans (show _ = ((b && e21) : Bool) by first | rfl | (simp; done)), hG_]; decide) (by show undef = ite _ _ _; rw [hG_]; rfl)
                all_goals (cases b <;> first | (exfalso; simp at hG_; done) | skip)
                all_goals (cases e21 <;> first | (exfalso; simp at hG_; done) | skip)
                all_goals (repeat' (first
                    | (refine reg_skip hK ?_ rfl; (simp [wantedG, asB, undef, g1_, g2_, g3_]; done))
                    | (refine reg_val hK ?_ ?_ (grow_refl _) rfl
                       · first | rfl | (simp [wantedG, asB, undef, g1_, g2_, g3_]; done)
                       · skip
                         (try (obtain ⟨y1, y2, y3⟩ := HY.out rfl rfl; replace y3 := cellG HB.out hg y3))
                         go_simp
                         done)
                    | cases e34))
              · rcases Bool.eq_false_or_eq_true ((b && e21) : Bool) with hG_ | hG_
                rotate_left
                · exact reg_skip hK (by rw [(wanted_it rfl g1_).trans (show _ = ((b && e21) : Bool) by first | rfl | (simp; done)), hG_]; decide) (by show undef = ite _ _ _; rw [hG_]; rfl)
                all_goals (cases b <;> first | (exfalso; simp at hG_; done) | skip)
                all_goals (cases e21 <;> first | (exfalso; simp at hG_; done) | skip)
                all_goals (repeat' (first
                    | (refine reg_skip hK ?_ rfl; (simp [wantedG, asB, undef, g1_, g2_, g3_]; done))
                    | (refine reg_val hK ?_ ?_ (grow_refl _) rfl
                       · first | rfl | (simp [wantedG, asB, undef, g1_, g2_, g3_]; done)
                       · skip
                         (try (obtain ⟨y1, y2, y3⟩ := HY.out rfl rfl; replace y3 := cellG HB.out hg y3))
                         go_simp
                         done)
                    | cases e34))
              · rcases Bool.eq_false_or_eq_true ((b && e21) : Bool) with hG_ | hG_
                rotate_left
                · exact reg_skip hK (by rw [(wanted_it rfl g1_).trans (show _ = ((b && e21) : Bool) by first | rfl | (simp; done)), hG_]; decide) (by show undef = ite _ _ _; rw [hG_]; rfl)
                all_goals (cases b <;> first | (exfalso; simp at hG_; done) | skip)
                all_goals (cases e21 <;> first | (exfalso; simp at hG_; done) | skip)
                all_goals (repeat' (first
                    | (refine reg_skip hK ?_ rfl; (simp [wantedG, asB, undef, g1_, g2_, g3_]; done))
                    | (refine reg_val hK ?_ ?_ (grow_refl _) rfl
                       · first | rfl | (simp [wantedG, asB, undef, g1_, g2_, g3_]; done)
                       · skip
                         (try (obtain ⟨y1, y2, y3⟩ := HY.out rfl rfl; replace y3 := cellG HB.out hg y3))
                         go_simp
                         done)
                    | cases e34))
              · rcases Bool.eq_false_or_eq_true ((b && e21) : Bool) with hG_ | hG_
                rotate_left
                · exact reg_skip hK (by rw [(wanted_it rfl g1_).trans (show _ = ((b && e21) : Bool) by first | rfl | (simp; done)), hG_]; decide) (by show undef = ite _ _ _; rw [hG_]; rfl)
                all_goals (cases b <;> first | (exfalso; simp at hG_; done) | skip)
                all_goals (cases e21 <;> first | (exfalso; simp at hG_; done) | skip)
                all_goals (repeat' (first
                    | (refine reg_skip hK ?_ rfl; (simp [wantedG, asB, undef, g1_, g2_, g3_]; done))
                    | (refine reg_val hK ?_ ?_ (grow_refl _) rfl
                       · first | rfl | (simp [wantedG, asB, undef, g1_, g2_, g3_]; done)
                       · skip
                         (try (obtain ⟨y1, y2, y3⟩ := HY.out rfl rfl; replace y3 := cellG HB.out hg y3))
                         go_simp
                         done)
                    | cases e34))
              · rcases Bool.eq_false_or_eq_true ((b && e21) : Bool) with hG_ | hG_
                rotate_left
                · exact reg_skip hK (by rw [(wanted_it rfl g1_).trans (show _ = ((b && e21) : Bool) by first | rfl | (simp; done)), hG_]; decide) (by show undef = ite _ _ _; rw [hG_]; rfl)
                all_goals (cases b <;> first | (exfalso; simp at hG_; done) | skip)
                all_goals (cases e21 <;> first | (exfalso; simp at hG_; done) | skip)
                all_goals (repeat' (first
                    | (refine reg_skip hK ?_ rfl; (simp [wantedG, asB, undef, g1_, g2_, g3_]; done))
                    | (refine reg_val hK ?_ ?_ (grow_refl _) rfl
                       · first | rfl | (simp [wantedG, asB, undef, g1_, g2_, g3_]; done)
                       · skip
                         (try (obtain ⟨y1, y2, y3⟩ := HY.out rfl rfl; replace y3 := cellG HB.out hg y3))
                         go_simp
                         done)
                    | cases e34))
              · rcases Bool.eq_false_or_eq_true ((b && e21) : Bool) with hG_ | hG_
                rotate_left
                · exact reg_skip hK (by rw [(wanted_it rfl g1_).trans (show _ = ((b && e21) : Bool) by first | rfl | (simp; done)), hG_]; decide) (by show undef = ite _ _ _; rw [hG_]; rfl)
                all_goals (cases b <;> first | (exfalso; simp at hG_; done) | skip)
                all_goals (cases e21 <;> first | (exfalso; simp at hG_; done) | skip)
                all_goals (repeat' (first
                    | (refine reg_skip hK ?_ rfl; (simp [wantedG, asB, undef, g1_, g2_, g3_]; done))
                    | (refine reg_val hK ?_ ?_ (grow_refl _) rfl
                       · first | rfl | (simp [wantedG, asB, undef, g1_, g2_, g3_]; done)
                       · skip
                         (try (obtain ⟨y1, y2, y3⟩ := HY.out rfl rfl; replace y3 := cellG HB.out hg y3))
                         go_simp
                         done)
                    | cases e34))
              · rcases Bool.eq_false_or_eq_true (b : Bool) with hG_ | hG_
                rotate_left
                · exact reg_skip hK (by rw [(wanted_f rfl g1_).trans (show _ = (b : Bool) by first | rfl | (simp; done)), hG_]; decide) (by show undef = ite _ _ _; rw [hG_]; rfl)
                all_goals (cases b <;> first | (exfalso; simp at hG_; done) | skip)
                all_goals (repeat' (first
                    | (refine reg_skip hK ?_ rfl; (simp [wantedG, asB, undef, g1_, g2_, g3_]; done))
                    | (refine reg_val hK ?_ ?_ (grow_refl _) rfl
                       · first | rfl | (simp [wantedG, asB, undef, g1_, g2_, g3_]; done)
                       · skip
                         (try (obtain ⟨y1, y2, y3⟩ := HY.out rfl rfl; replace y3 := cellG HB.out hg y3))
                         go_simp
                         done)
                    | cases e21 | cases e34))
              · refine reg_pick hK rfl rfl g1_ (or_val ?_ g2_)
                first | rfl | (simp; done)
            case hE6 =>
              intro us w' hg hd
              have hZ : us 23 = .bool (!b || (e21 && !e34)) := allR_get hd (by kernel_rfl)
              clear hd
              replace HB := AM (below_grow HB.out hg)
              clear hyw hg
              have HH : ((!b || (e21 && !e34)) = true ∧ r = false) ∨ ((!b || (e21 && !e34)) = false ∧ spec_NodesRight.l0 k1 l0 (wrap64 (x + 1)) = some r) := by
                have H := Hfin.out
                rw [he34] at H
                clear hZ HB Hb HY HR0 Hfin
                cases b <;> cases e21 <;> cases e34 <;> simp at H ⊢ <;> exact H
              rcases HH with ⟨hq, rfl⟩ | ⟨hq, H1⟩
              · rw [hq] at hZ
                rw [hZ]
                clear hZ he21 he34
                go_wp2
                go_ret
                exact ⟨rfl, HB.out⟩
              · rw [hq] at hZ
                rw [hZ]
                replace H1 := AM H1
                clear hZ he21 he34
                go_wp2
                go_roundg k1
                case measure => have := HK1.out; omega
                case rel => exact ⟨(wrap64 (x + 1)), (by first | rfl | (simp; done) | (simp [*]; done)), H1, ⟨by have := HK1.out; omega⟩, HB⟩
          · have H := HA.out
            simp only [spec_NodesRight.l0] at H
            rw [if_pos c3, if_neg c4] at H
            exact absurd H (by simp)
        · have H := HA.out
          simp only [spec_NodesRight.l0] at H
          rw [if_neg c3] at H
          have c3b0 : decide (x < (l0.length : Int)) = false := decide_eq_false c3
          clear c3 HA
          obtain rfl := Option.some.inj H
          go_wp2
          go_ret
          exact ⟨rfl, HB.out⟩

end Go.Proofs.Ytggbpjfgfenpdaa.PFnExactNodesRead
