/- Functions of the law FnExactObjectNames: the print's, with walks of this session's own. No statement is proved here. -/
import Derived.WalkLawsBesides
import Derived.Test.YtdbnajnelbebfaaVRegFnExactObjectNames
-- A program of this session wrote this text: a changed copy of the kit print, with given functions.
import Derived.Test.YtdbnajnelbebfaaPFnExactObjectNamesx0
import Derived.Test.YtdbnajnelbebfaaPFnExactObjectNamesx5
import Derived.Test.YtdbnajnelbebfaaPFnExactObjectNamesx6
namespace Go.Proofs.Ytdbnajnelbebfaa.PFnExactObjectNames
open Go.RowKit Go.Proofs.YtdbnajnelbebfaaW.PrintWords Go.Proofs.YtdbnajnelbebfaaW.PrintLast Go.Proofs.YtdbnajnelbebfaaW.PrintMore Go.Proofs.Ytdbnajnelbebfaa.Reg Go.Proofs.Ytdbnajnelbebfaa.Aut
attribute [local go_sem] max2_int min2_int max_two min_two max_three min_three max_four min_four   -- for this text's walks alone
set_option linter.unusedVariables false
set_option linter.unusedSimpArgs false

/-! ### impl_DriveRight: function 159 -/
mutual
def impl_DriveRight.j0 : Nat → Bool → List (S194) → Int → Option (Bool)
  | 0, _, _, _ => none
  | k + 1, x14, x226000, x226001 => if x14 = true then (some false) else (impl_DriveRight.l0 k x226000 (x226000.length : Int) 0 x226000 x226001)
def impl_DriveRight.l0 : Nat → List (S194) → Int → Int → List (S194) → Int → Option (Bool)
  | 0, _, _, _, _, _ => none
  | k + 1, x16, x17, x18, x226000, x226001 => if x18 < x17 then (if 0 ≤ x18 then (if x18 < (x16.length : Int) then ((impl_NameRight.f k ((rd_T194 x16 x18).f0)).bind fun t230 => (if t230 = true then (if x18 > 0 then (if 0 ≤ (wrap64 (x18 - 1)) then (if (wrap64 (x18 - 1)) < (x226000.length : Int) then (if ((Op.bytesLess (((rd_T194 x226000 (wrap64 (x18 - 1))).f0).toList) (((rd_T194 x16 x18).f0).toList)) = true) then ((impl_isLong.f ((rd_T194 x16 x18).f1)).bind fun t232 => (if t232 = true then (some false) else ((impl_long.f ((rd_T194 x16 x18).f1)).bind fun t233 => ((impl_within.f ((rd_T194 x16 x18).f2) 0 t233).bind fun t234 => (if t234 = true then (impl_DriveRight.l0 k x16 x17 (wrap64 (x18 + 1)) x226000 x226001) else (some false)))))) else (some false)) else (none)) else (none)) else ((impl_isLong.f ((rd_T194 x16 x18).f1)).bind fun t235 => (if t235 = true then (some false) else ((impl_long.f ((rd_T194 x16 x18).f1)).bind fun t236 => ((impl_within.f ((rd_T194 x16 x18).f2) 0 t236).bind fun t237 => (if t237 = true then (impl_DriveRight.l0 k x16 x17 (wrap64 (x18 + 1)) x226000 x226001) else (some false))))))) else (some false))) else (none)) else (none)) else ((impl_Drive_used.f k x226000 x226001).bind fun t227 => (some (decide (t227 ≤ x226001))))
end
def impl_DriveRight.f (k : Nat) (l0_0 : List (S194)) (a0_1 : Int) : Option (Bool) := if (l0_0.length : Int) > 60 then (impl_DriveRight.j0 k true l0_0 a0_1) else ((impl_within.f a0_1 0 100000).bind fun t226 => (impl_DriveRight.j0 k (!t226) l0_0 a0_1))
theorem impl_DriveRight.mono_l : ∀ k, (∀ y0 y1 y2, LeO (impl_DriveRight.j0 k y0 y1 y2) (impl_DriveRight.j0 (k + 1) y0 y1 y2)) ∧ (∀ y0 y1 y2 y3 y4, LeO (impl_DriveRight.l0 k y0 y1 y2 y3 y4) (impl_DriveRight.l0 (k + 1) y0 y1 y2 y3 y4))
  | 0 => ⟨fun _ _ _ r h => by simp [impl_DriveRight.j0] at h, fun _ _ _ _ _ r h => by simp [impl_DriveRight.l0] at h⟩
  | k + 1 => by
    obtain ⟨ih0, ih1⟩ := impl_DriveRight.mono_l k
    refine ⟨?_, ?_⟩
    · intro y0 y1 y2
      unfold impl_DriveRight.j0
      repeat' first
      | (with_reducible exact ih0 _ _ _)
      | (with_reducible exact ih1 _ _ _ _ _)
      | (with_reducible exact impl_Drive_used.mono _ _ _)
      | (with_reducible exact impl_NameRight.mono _ _)
      | (with_reducible exact LeO.refl _)
      | (with_reducible exact LeO.none _)
      | (with_reducible refine LeO.ite ?_ ?_)
      | (with_reducible refine LeO.bind ?_ (fun _ => ?_))
      | exact ih0 _ _ _
      | exact ih1 _ _ _ _ _
      | exact impl_Drive_used.mono _ _ _
      | exact impl_NameRight.mono _ _
      | exact LeO.none _
      | refine LeO.ite ?_ ?_
      | refine LeO.bind ?_ (fun _ => ?_)
    · intro y0 y1 y2 y3 y4
      unfold impl_DriveRight.l0
      repeat' first
      | (with_reducible exact ih0 _ _ _)
      | (with_reducible exact ih1 _ _ _ _ _)
      | (with_reducible exact impl_Drive_used.mono _ _ _)
      | (with_reducible exact impl_NameRight.mono _ _)
      | (with_reducible exact LeO.refl _)
      | (with_reducible exact LeO.none _)
      | (with_reducible refine LeO.ite ?_ ?_)
      | (with_reducible refine LeO.bind ?_ (fun _ => ?_))
      | exact ih0 _ _ _
      | exact ih1 _ _ _ _ _
      | exact impl_Drive_used.mono _ _ _
      | exact impl_NameRight.mono _ _
      | exact LeO.none _
      | refine LeO.ite ?_ ?_
      | refine LeO.bind ?_ (fun _ => ?_)
theorem impl_DriveRight.mono : ∀ a0 a1 k, LeO (impl_DriveRight.f k a0 a1) (impl_DriveRight.f (k + 1) a0 a1) := by
  intro a0 a1 k
  obtain ⟨ih0, ih1⟩ := impl_DriveRight.mono_l k
  unfold impl_DriveRight.f
  repeat' first
      | (with_reducible exact ih0 _ _ _)
      | (with_reducible exact ih1 _ _ _ _ _)
      | (with_reducible exact impl_Drive_used.mono _ _ _)
      | (with_reducible exact impl_NameRight.mono _ _)
      | (with_reducible exact LeO.refl _)
      | (with_reducible exact LeO.none _)
      | (with_reducible refine LeO.ite ?_ ?_)
      | (with_reducible refine LeO.bind ?_ (fun _ => ?_))
      | exact ih0 _ _ _
      | exact ih1 _ _ _ _ _
      | exact impl_Drive_used.mono _ _ _
      | exact impl_NameRight.mono _ _
      | exact LeO.none _
      | refine LeO.ite ?_ ?_
      | refine LeO.bind ?_ (fun _ => ?_)
theorem impl_DriveRight.head (k : Nat) (l : List (S194)) (a : Int) (r : Bool) (h : impl_DriveRight.f k l a = some r) :
    (((60 : Int) < (l.length : Int) ∨ impl_within.f a 0 100000 = some false) ∧ r = false) ∨ (¬ (60 : Int) < (l.length : Int) ∧ impl_within.f a 0 100000 = some true ∧ ∃ k', k' ≤ k ∧ impl_DriveRight.l0 k' l (l.length : Int) 0 l a = some r) := by
  unfold impl_DriveRight.f at h
  cases k with
  | zero =>
    simp only [impl_DriveRight.j0] at h
    split at h
    · cases h
    · obtain ⟨t, _, h⟩ := Option.bind_eq_some_iff.mp h
      cases h
  | succ k =>
    simp only [impl_DriveRight.j0] at h
    by_cases c1 : (l.length : Int) > 60
    · rw [if_pos c1, if_pos trivial] at h
      exact .inl ⟨.inl c1, (Option.some.inj h).symm⟩
    rw [if_neg c1] at h
    obtain ⟨t, ht, h⟩ := Option.bind_eq_some_iff.mp h
    cases t
    · rw [if_pos (show (!false) = true from rfl)] at h
      exact .inl ⟨.inr ht, (Option.some.inj h).symm⟩
    · rw [if_neg (by simp)] at h
      exact .inr ⟨c1, ht, k, by omega, h⟩
set_option maxHeartbeats 4000000 in
set_option maxRecDepth 100000 in
theorem impl_DriveRight.calls (k : Nat) (A0_0 : Option Addr) (c0_0 : Nat) (l0_0 : List (S194)) (a0_1 : Int) (r : Bool) (w : World) (hr0_0 : Kd.C k194 w A0_0 l0_0.length l0_0) (hc0_0 : l0_0.length ≤ c0_0) (h : impl_DriveRight.f k l0_0 a0_1 = some r) :
    Calls Try.prog 159 #[.agg #[.slice A0_0 l0_0.length c0_0, .int .i64 a0_1]] w fun e w' => e = .returned (.bool r) ∧ Below w.heap.size w w' := by
  have hu := Try.underlying194
  have hu2 := Try.underlying192
  have HD := impl_DriveRight.head k l0_0 a0_1 r h
  clear h
  rcases HD with ⟨hb, rfl⟩ | ⟨h1, h2, k', hk', H⟩
  · clear hr0_0 hc0_0
    by_cases h1 : (60 : Int) < (l0_0.length : Int)
    · have h1b := eq_true h1
      have h1n : (60 < l0_0.length) = True := eq_true (by omega)
      clear h1 hb
      go_enter Try.func159, Try.ntmps159
      go_wp2
      go_ret
      exact ⟨rfl, (Below.refl _ _).alloc (Nat.le_refl _) _⟩
    · have h1b := eq_false h1
      have h1n : (60 < l0_0.length) = False := eq_false (by omega)
      have hw := AM (hb.resolve_left h1)
      clear h1 hb
      go_enter Try.func159, Try.ntmps159
      go_wp2_with (go_at_call 89; refine (impl_within.calls _ _ _ _ _ hw.out).mono ?_; rintro e w' ⟨rfl, hd⟩; have hbel := AM (((Below.refl w.heap.size w).alloc (Nat.le_refl _) _).trans (hd.below.mono (by simp))); clear hd)
      go_ret
      exact ⟨rfl, hbel.out⟩
  have h1b := eq_false h1
  have h1n : (60 < l0_0.length) = False := eq_false (by omega)
  have HL := AM h1
  have HW := AM h2
  clear h1 h2
  have H' := AM H
  have HK0 := AM hk'
  have HR0 := AM hr0_0
  have HC := AM hc0_0
  clear H hk' hr0_0 hc0_0
  go_enter Try.func159, Try.ntmps159
  go_wp2_with (go_at_call 89; refine (impl_within.calls _ _ _ _ _ HW.out).mono ?_; rintro e w1 ⟨rfl, hd⟩; have hz0 : w1.cell? ⟨w.heap.size, 0, none⟩ = some (.slice A0_0 l0_0.length c0_0) := (hd.below.cell (by simp)).trans (by simp); have hz1 : w1.cell? ⟨w.heap.size, 1, none⟩ = some (.int .i64 a0_1) := (hd.below.cell (by simp)).trans (by simp); have HB1 := AM (((Below.refl w.heap.size w).alloc (Nat.le_refl _) (Obj.cells #[.slice A0_0 l0_0.length c0_0, .int .i64 a0_1] 192)).trans (hd.below.mono (by simp))); clear hd)
  have HR := AM (Kd.C_below HR0.out HB1.out)
  have HZ0 := AM hz0
  have HZ1 := AM hz1
  clear h1b h1n hz0 hz1 HR0
  generalize w.heap.size = g1 at HZ0 HZ1 ⊢
  go_loopg [18] k' (fun kq v18 w' => ∃ (x3_1 : Int), v18 = .int .i64 x3_1 ∧ Aside0 (impl_DriveRight.l0 kq l0_0 (l0_0.length : Int) x3_1 l0_0 a0_1 = some r) ∧ Aside0 (kq ≤ k') ∧ Aside0 (Below w1.heap.size w1 w'))
  case atStart => exact ⟨(0), rfl, H', ⟨Nat.le_refl _⟩, ⟨Below.refl _ _⟩⟩
  case round =>
    clear H'
    obtain ⟨x, rfl, HA, HK1, HB⟩ := hrel
    cases gk with
    | zero => exact absurd HA.out (by simp [impl_DriveRight.l0])
    | succ k1 =>
      have H := HA.out
      clear HA
      simp only [impl_DriveRight.l0] at H
      have hz0 := cellG HB.out (grow_refl _) HZ0.out
      have hz1 := cellG HB.out (grow_refl _) HZ1.out
      by_cases c3 : x < (l0_0.length : Int)
      · rw [if_pos c3] at H
        have c3b0 := eq_true c3
        by_cases c4 : 0 ≤ x
        · rw [if_pos c4, if_pos c3] at H
          obtain ⟨b, hb, H⟩ := Option.bind_eq_some_iff.mp H
          have H' := AM H
          have Hb := AM hb
          clear H hb
          have c4b0 := eq_true c4
          obtain ⟨ad, rfl, hx0, hx1, hx2⟩ := at_T194 HR.out x c4 c3
          obtain ⟨y, hy⟩ : ∃ y, wrap64 (x - 1) = y := ⟨_, rfl⟩
          have HY := AM hy
          rw [hy] at H'
          clear hy c3 c4
          replace hx0 := cellG HB.out (grow_refl _) hx0
          replace hx1 := cellG HB.out (grow_refl _) hx1
          replace hx2 := cellG HB.out (grow_refl _) hx2
          go_wp2
          have hs0 : (wr.alloc (Obj.cells #[.string (rd_T194 l0_0 x).f0, .string (rd_T194 l0_0 x).f1, .int .i64 (rd_T194 l0_0 x).f2] 194)).cell? ⟨wr.heap.size, 0, none⟩ = some (.string (rd_T194 l0_0 x).f0) := by simp
          have hs1 : (wr.alloc (Obj.cells #[.string (rd_T194 l0_0 x).f0, .string (rd_T194 l0_0 x).f1, .int .i64 (rd_T194 l0_0 x).f2] 194)).cell? ⟨wr.heap.size, 1, none⟩ = some (.string (rd_T194 l0_0 x).f1) := by simp
          have hs2 : (wr.alloc (Obj.cells #[.string (rd_T194 l0_0 x).f0, .string (rd_T194 l0_0 x).f1, .int .i64 (rd_T194 l0_0 x).f2] 194)).cell? ⟨wr.heap.size, 2, none⟩ = some (.int .i64 (rd_T194 l0_0 x).f2) := by simp
          replace HB := AM (HB.out.alloc HB.out.size (Obj.cells #[.string (rd_T194 l0_0 x).f0, .string (rd_T194 l0_0 x).f1, .int .i64 (rd_T194 l0_0 x).f2] 194))
          clear hx0 hx1 hx2 hz0 hz1
          generalize wr.alloc _ = w2 at HB hs0 hs1 hs2 ⊢
          generalize wr.heap.size = g at hs0 hs1 hs2 ⊢
          have hyw : IntKind.i64.wrap (x - 1) = y := (i64_w _).trans HY.out
          obtain ⟨e46, he46⟩ : ∃ e_, impl_isLong.f (rd_T194 l0_0 x).f1 = some e_ := ⟨_, rfl⟩
          obtain ⟨e54, he54⟩ : ∃ e_, impl_within.f (rd_T194 l0_0 x).f2 0 ((rd_T194 l0_0 x).f1.size : Int) = some e_ := by unfold impl_within.f; split <;> exact ⟨_, rfl⟩
          have HE46 := AM he46
          have HE54 := AM he54
          clear he46 he54
          obtain ⟨e29, he29⟩ : ∃ e_ : Bool, (0 < x) = (e_ = true) := ⟨decide (0 < x), by simp⟩
          obtain ⟨e40, he40⟩ : ∃ e_ : Bool, Op.bytesLess ((rd_T194 l0_0 y).f0).toList ((rd_T194 l0_0 x).f0).toList = e_ := ⟨_, rfl⟩
          refine wp_reg1 [[], [0], [1], [2], [3], [4], [4, 5], [4, 6], [7], [7, 8], [7], [7, 10], [7, 9, 11], [7, 12], [7, 13], [7], [7, 15], [7, 14, 16], [4, 7, 17], [4, 18], [19], [20], [20, 21], [20, 22], [20, 23], [24], [25], [25, 26], [25], [25, 28], [25, 29], [25, 27, 30], [25, 31], [25, 32]]
            (isVal [.pointer (some ⟨g, 0, none⟩),
              .string ((rd_T194 l0_0 x).f0),
              .bool b,
              .bool (!b),
              .bool (!b),
              if b then .int .i64 x else undef,
              if b then .bool e29 else undef,
              if b then .bool e29 else undef,
              if b && e29 then .pointer (some ⟨g1, 0, none⟩) else undef,
              if b && e29 then .slice (some ad) l0_0.length c0_0 else undef,
              if b && e29 then .int .i64 x else undef,
              if b && e29 then .int .i64 y else undef,
              if b && e29 then .pointer (some (ad.add (y.toNat * 3))) else undef,
              if b && e29 then .pointer (some (ad.add (y.toNat * 3))) else undef,
              if b && e29 then .string ((rd_T194 l0_0 y).f0) else undef,
              if b && e29 then .pointer (some ⟨g, 0, none⟩) else undef,
              if b && e29 then .string ((rd_T194 l0_0 x).f0) else undef,
              if b && e29 then .bool (!e40) else undef,
              if b then .bool (e29 && !e40) else undef,
              .bool (!b || (e29 && !e40)),
              .bool (!b || (e29 && !e40)),
              if !(!b || (e29 && !e40)) then .pointer (some ⟨g, 1, none⟩) else undef,
              if !(!b || (e29 && !e40)) then .string ((rd_T194 l0_0 x).f1) else undef,
              if !(!b || (e29 && !e40)) then .bool e46 else undef,
              .bool ((!b || (e29 && !e40)) || e46),
              .bool ((!b || (e29 && !e40)) || e46),
              if !((!b || (e29 && !e40)) || e46) then .pointer (some ⟨g, 2, none⟩) else undef,
              if !((!b || (e29 && !e40)) || e46) then .int .i64 ((rd_T194 l0_0 x).f2) else undef,
              if !((!b || (e29 && !e40)) || e46) then .pointer (some ⟨g, 1, none⟩) else undef,
              if !((!b || (e29 && !e40)) || e46) then .string ((rd_T194 l0_0 x).f1) else undef,
              if !((!b || (e29 && !e40)) || e46) then .int .i64 ((rd_T194 l0_0 x).f1.size : Int) else undef,
              if !((!b || (e29 && !e40)) || e46) then .bool e54 else undef,
              if !((!b || (e29 && !e40)) || e46) then .bool (!e54) else undef,
              .bool (((!b || (e29 && !e40)) || e46) || !e54)]) ?B6 ?d6 (by kernel_rfl) (by kernel_rfl) (by kernel_rfl) (by kernel_rfl) (fun us => ?hA6) (isVal_grow _) ?hS6 ?hE6
          case hA6 =>
            simp only [regPut, Act.put, List.setIfInBounds_toArray, List.set_cons_zero, List.set_cons_succ, Nat.reduceAdd, Nat.zero_add]
            rfl
          case hS6 =>
            have hY : (b && e29) = true → (0 ≤ y) = True ∧ (y < (l0_0.length : Int)) = True ∧ w1.cell? (ad.add (y.toNat * 3)) = some (.string (rd_T194 l0_0 y).f0) := by
              intro hbp
              simp only [Bool.and_eq_true] at hbp
              have H := H'.out
              rw [if_pos hbp.1, if_pos (by show 0 < x; rw [he29]; exact hbp.2)] at H
              by_cases c9 : 0 ≤ y
              · rw [if_pos c9] at H
                by_cases c10 : y < (l0_0.length : Int)
                · obtain ⟨ad', e, h1, _⟩ := at_T194 HR.out y c9 c10
                  cases e
                  exact ⟨eq_true c9, eq_true c10, h1⟩
                · rw [if_neg c10] at H
                  cases H
              · rw [if_neg c9] at H
                cases H
            clear H'
            refine ⟨?_, ?_, ?_, ?_, ?_, ?_, ?_, ?_, ?_, ?_, ?_, ?_, ?_, ?_, ?_, ?_, ?_, ?_, ?_, ?_, ?_, ?_, ?_, ?_, ?_, ?_, ?_, ?_, ?_, ?_, ?_, ?_, ?_, ?_, trivial⟩
            all_goals (intro us w' hg hd K hK; simp only [AllR, isVal, List.getD_cons_zero, List.getD_cons_succ] at hd; clear HL HY HK1 HB1 HR HW)
            all_goals (have g1_ := True.intro; have g2_ := True.intro; have g3_ := True.intro; have g4_ := True.intro; try (obtain ⟨g1_, hd⟩ := hd); try (obtain ⟨g2_, hd⟩ := hd); try (obtain ⟨g3_, hd⟩ := hd); try (obtain ⟨g4_, hd⟩ := hd))
            all_goals (replace hs0 := cellG (grow_refl _) hg hs0; replace hs1 := cellG (grow_refl _) hg hs1; replace hs2 := cellG (grow_refl _) hg hs2; have hz0 := cellG HB.out hg HZ0.out; have hz1 := cellG HB.out hg HZ1.out)
            all_goals (repeat' (first
              | (refine reg_skip hK ?_ rfl; (simp [wantedG, asB, undef, g1_, g2_, g3_, g4_]; done))
              | (refine reg_val hK ?_ ?_ (grow_refl _) rfl
                 · first | rfl | (simp [wantedG, asB, undef, g1_, g2_, g3_, g4_]; done)
                 · (try (obtain ⟨y1, y2, y3⟩ := hY rfl; replace y3 := cellG HB.out hg y3))
                   go_simp
                   done)
              | (refine reg_call hK rfl rfl Try.func189 (by kernel_rfl) rfl #[.string (rd_T194 l0_0 x).f0] ?_ ((impl_NameRight.calls k1 _ _ _ Hb.out).mono ?_)
                 · simp [Act.eval, g1_]
                 · rintro e w'' ⟨rfl, hb⟩
                   exact ⟨_, rfl, hb.below, rfl⟩)
              | (refine reg_call hK ?_ rfl Try.func60 (by kernel_rfl) rfl #[.string (rd_T194 l0_0 x).f1] ?_ ((impl_isLong.calls _ _ _ HE46.out).mono ?_)
                 · (simp [wantedG, asB, undef, g1_, g2_, g3_, g4_]; done)
                 · simp [Act.eval, g1_, g2_, g3_]
                 · rintro e w'' ⟨rfl, hb⟩
                   exact ⟨_, rfl, hb.below, rfl⟩)
              | (refine reg_call hK ?_ rfl Try.func117 (by kernel_rfl) rfl #[.string (rd_T194 l0_0 x).f1] ?_ ((impl_long.calls _ _ _ rfl).mono ?_)
                 · (simp [wantedG, asB, undef, g1_, g2_, g3_, g4_]; done)
                 · simp [Act.eval, g1_, g2_, g3_]
                 · rintro e w'' ⟨rfl, hb⟩
                   exact ⟨_, rfl, hb.below, rfl⟩)
              | (refine reg_call hK ?_ rfl Try.func89 (by kernel_rfl) rfl #[.int .i64 (rd_T194 l0_0 x).f2, .int .i64 0, .int .i64 ((rd_T194 l0_0 x).f1.size : Int)] ?_ ((impl_within.calls _ _ _ _ _ HE54.out).mono ?_)
                 · (simp [wantedG, asB, undef, g1_, g2_, g3_, g4_]; done)
                 · simp [Act.eval, g1_, g2_, g3_]
                 · rintro e w'' ⟨rfl, hb⟩
                   exact ⟨_, rfl, hb.below, rfl⟩)
              | cases b | cases e29 | cases e40 | cases e46 | cases e54))
          case hE6 =>
            intro us w' hg hd
            have hZ : us 33 = .bool (((!b || (e29 && !e40)) || e46) || !e54) := allR_get hd (by kernel_rfl)
            clear hd
            replace HB := AM (below_grow HB.out hg)
            clear hyw hs0 hs1 hs2 hg
            have H := H'.out
            have HH : ((((!b || (e29 && !e40)) || e46) || !e54) = true ∧ r = false) ∨ ((((!b || (e29 && !e40)) || e46) || !e54) = false ∧ impl_DriveRight.l0 k1 l0_0 (l0_0.length : Int) (wrap64 (x + 1)) l0_0 a0_1 = some r) := by
              have h46 := HE46.out
              have h54 := HE54.out
              clear hZ H' HB Hb HL HZ0 HZ1 HY HR HB1 HW HE46 HE54
              revert H
              simp only [gt_iff_lt, he29, he40, h46, h54, impl_long.f, Option.bind_some]
              by_cases c9 : 0 ≤ y <;> by_cases c10 : y < (l0_0.length : Int) <;> simp only [c9, c10, if_true, if_false] <;> cases b <;> cases e29 <;> cases e40 <;> cases e46 <;> cases e54 <;> simp [eq_comm]
            clear H H'
            rcases HH with ⟨hq, rfl⟩ | ⟨hq, H1⟩
            · rw [hq] at hZ
              rw [hZ]
              clear hZ he29 he40
              go_wp2
              go_ret
              exact ⟨rfl, HB1.out.trans (HB.out.mono HB1.out.size)⟩
            · rw [hq] at hZ
              rw [hZ]
              replace H1 := AM H1
              clear hZ he29 he40
              go_wp2
              go_roundg k1
              case measure => have := HK1.out; omega
              case rel => exact ⟨(wrap64 (x + 1)), (by first | rfl | (simp; done) | (simp [*]; done)), H1, ⟨by have := HK1.out; omega⟩, HB⟩
        · rw [if_neg c4] at H
          exact absurd H (by simp)
      · rw [if_neg c3] at H
        have c3b0 := eq_false c3
        clear c3
        obtain ⟨n, hn, H⟩ := Option.bind_eq_some_iff.mp H
        obtain rfl := Option.some.inj H
        have Hn := AM hn
        clear hn H
        go_wp2
        obtain ⟨f62, hf62⟩ : ∃ e_ : Bool, (n ≤ a0_1) = (e_ = true) := ⟨decide (n ≤ a0_1), by simp⟩
        refine wp_reg1 [[], [0], [], [2], [1, 3], [4]]
          (isVal [.agg #[.slice A0_0 l0_0.length c0_0, .int .i64 a0_1],
            .int .i64 n,
            .pointer (some ⟨g1, 1, none⟩),
            .int .i64 a0_1,
            .bool f62,
            .bool f62]) ?B9 ?d9 (by kernel_rfl) (by kernel_rfl) (by kernel_rfl) (by kernel_rfl) (fun us => ?hA9) (isVal_grow _) ?hS9 ?hE9
        case hA9 =>
          simp only [regPut, Act.put, List.setIfInBounds_toArray, List.set_cons_zero, List.set_cons_succ, Nat.reduceAdd, Nat.zero_add]
          rfl
        case hS9 =>
          refine ⟨?_, ?_, ?_, ?_, ?_, ?_, trivial⟩
          all_goals (intro us w' hg hd K hK; simp only [AllR, isVal, List.getD_cons_zero, List.getD_cons_succ] at hd; clear HL HK1 HB1)
          all_goals (have g1_ := True.intro; have g2_ := True.intro; try (obtain ⟨g1_, hd⟩ := hd); try (obtain ⟨g2_, hd⟩ := hd))
          all_goals (replace hz0 := cellG (grow_refl _) hg hz0; replace hz1 := cellG (grow_refl _) hg hz1)
          all_goals first
            | (refine reg_val hK rfl ?_ (grow_refl _) rfl
               go_simp
               done)
            | (refine reg_call hK rfl rfl Try.func190 (by kernel_rfl) rfl #[.agg #[.slice A0_0 l0_0.length c0_0, .int .i64 a0_1]] ?_ ((impl_Drive_used.calls k1 _ _ _ _ _ _ (Kd.C_below HR.out (below_grow HB.out hg)) ?_ Hn.out).mono ?_)
               · simp [Act.eval, g1_]
               · exact HC.out
               · rintro e w'' ⟨rfl, hb⟩
                 exact ⟨_, rfl, hb, rfl⟩)
        case hE9 =>
          intro us w' hg hd
          have hZ : us 5 = .bool f62 := allR_get hd (by kernel_rfl)
          clear hd
          rw [hZ, show f62 = decide (n ≤ a0_1) by simp [hf62]]
          replace HB := AM (below_grow HB.out hg)
          clear hZ hf62 hz0 hz1
          go_wp2
          go_ret
          exact ⟨rfl, HB1.out.trans (HB.out.mono HB1.out.size)⟩

end Go.Proofs.Ytdbnajnelbebfaa.PFnExactObjectNames
