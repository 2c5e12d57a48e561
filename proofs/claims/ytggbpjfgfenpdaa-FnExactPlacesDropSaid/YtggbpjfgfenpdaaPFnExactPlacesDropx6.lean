/- Functions of the law FnExactPlacesDrop: the print's, with walks of this session's own. No statement is proved here. -/
import Derived.WalkLawsBesides
import Derived.Test.YtggbpjfgfenpdaaVRegFnExactPlacesDrop
-- A program of this session wrote this text: a changed copy of the kit print, with given functions.
import Derived.Test.YtggbpjfgfenpdaaPFnExactPlacesDropx0
import Derived.Test.YtggbpjfgfenpdaaPFnExactPlacesDropx4
import Derived.Test.YtggbpjfgfenpdaaPFnExactPlacesDropx5
namespace Go.Proofs.Ytggbpjfgfenpdaa.PFnExactPlacesDrop
open Go.RowKit Go.Proofs.YtggbpjfgfenpdaaW.PrintWords Go.Proofs.YtggbpjfgfenpdaaW.PrintLast Go.Proofs.YtggbpjfgfenpdaaW.PrintMore Go.Proofs.Ytggbpjfgfenpdaa.Reg Go.Proofs.Ytggbpjfgfenpdaa.Aut
attribute [local go_sem] max2_int min2_int max_two min_two max_three min_three max_four min_four   -- for this text's walks alone
set_option linter.unusedVariables false
set_option linter.unusedSimpArgs false

/-! ### impl_PlacesRight: function 44 -/
def impl_PlacesRight.l0 : Nat → List (S66) → List (S66) → Int → Int → Option (Bool)
  | 0, _, _, _, _ => none
  | k + 1, x0, x8, x9, x10 => if x10 < x9 then (if 0 ≤ x10 then (if x10 < (x8.length : Int) then (if (((rd_T66 x8 x10).f0).size : Int) = 32 then ((impl_ObjectRight.f k ((rd_T66 x8 x10).f1)).bind fun t156 => (if t156 = true then ((impl_isKind.f ((rd_T66 x8 x10).f2)).bind fun t157 => (if t157 = true then ((impl_within.f ((rd_T66 x8 x10).f3) 0 12000).bind fun t158 => (if t158 = true then ((impl_within.f ((rd_T66 x8 x10).f4) 0 2000).bind fun t159 => (if t159 = true then (if x10 > 0 then (if 0 ≤ (wrap64 (x10 - 1)) then (if (wrap64 (x10 - 1)) < (x0.length : Int) then ((impl_Place_compare.f k ((rd_T66 x0 (wrap64 (x10 - 1))).f0) ((rd_T66 x0 (wrap64 (x10 - 1))).f1) ((rd_T66 x0 (wrap64 (x10 - 1))).f2) ((rd_T66 x0 (wrap64 (x10 - 1))).f3) ((rd_T66 x0 (wrap64 (x10 - 1))).f4) ((rd_T66 x8 x10).f0) ((rd_T66 x8 x10).f1) ((rd_T66 x8 x10).f2) ((rd_T66 x8 x10).f3) ((rd_T66 x8 x10).f4)).bind fun t161 => (if t161 ≥ 0 then (some false) else (impl_PlacesRight.l0 k x0 x8 x9 (wrap64 (x10 + 1))))) else (none)) else (none)) else (impl_PlacesRight.l0 k x0 x8 x9 (wrap64 (x10 + 1)))) else (some false))) else (some false))) else (some false))) else (some false))) else (some false)) else (none)) else (none)) else (some true)
def impl_PlacesRight.f (k : Nat) (l0 : List (S66)) : Option (Bool) := if (l0.length : Int) > 300 then (some false) else (impl_PlacesRight.l0 k l0 l0 (l0.length : Int) 0)
theorem impl_PlacesRight.mono_l : ∀ k, (∀ y0 y1 y2 y3, LeO (impl_PlacesRight.l0 k y0 y1 y2 y3) (impl_PlacesRight.l0 (k + 1) y0 y1 y2 y3))
  | 0 => fun _ _ _ _ r h => by simp [impl_PlacesRight.l0] at h
  | k + 1 => by
    have ih0 := impl_PlacesRight.mono_l k
    · intro y0 y1 y2 y3
      unfold impl_PlacesRight.l0
      repeat' first
      | (with_reducible exact ih0 _ _ _ _)
      | (with_reducible exact impl_ObjectRight.mono _ _)
      | (with_reducible exact impl_Place_compare.mono _ _ _ _ _ _ _ _ _ _ _)
      | (with_reducible exact LeO.refl _)
      | (with_reducible exact LeO.none _)
      | (with_reducible refine LeO.ite ?_ ?_)
      | (with_reducible refine LeO.bind ?_ (fun _ => ?_))
      | exact ih0 _ _ _ _
      | exact impl_ObjectRight.mono _ _
      | exact impl_Place_compare.mono _ _ _ _ _ _ _ _ _ _ _
      | exact LeO.none _
      | refine LeO.ite ?_ ?_
      | refine LeO.bind ?_ (fun _ => ?_)
theorem impl_PlacesRight.mono : ∀ a0 k, LeO (impl_PlacesRight.f k a0) (impl_PlacesRight.f (k + 1) a0) := by
  intro a0 k
  have ih0 := impl_PlacesRight.mono_l k
  unfold impl_PlacesRight.f
  repeat' first
      | (with_reducible exact ih0 _ _ _ _)
      | (with_reducible exact impl_ObjectRight.mono _ _)
      | (with_reducible exact impl_Place_compare.mono _ _ _ _ _ _ _ _ _ _ _)
      | (with_reducible exact LeO.refl _)
      | (with_reducible exact LeO.none _)
      | (with_reducible refine LeO.ite ?_ ?_)
      | (with_reducible refine LeO.bind ?_ (fun _ => ?_))
      | exact ih0 _ _ _ _
      | exact impl_ObjectRight.mono _ _
      | exact impl_Place_compare.mono _ _ _ _ _ _ _ _ _ _ _
      | exact LeO.none _
      | refine LeO.ite ?_ ?_
      | refine LeO.bind ?_ (fun _ => ?_)
theorem impl_PlacesRight.step (k : Nat) (l : List (S66)) (x : Int) (r : Bool) (y : Int) (hy : wrap64 (x - 1) = y) (h : impl_PlacesRight.l0 (k + 1) l l (l.length : Int) x = some r) (c3 : x < (l.length : Int)) (c4 : 0 ≤ x) :
    ∃ b kd wa wz c, (((rd_T66 l x).f0.size : Int) = 32 → impl_ObjectRight.f k (rd_T66 l x).f1 = some b) ∧ impl_isKind.f (rd_T66 l x).f2 = some kd ∧ impl_within.f (rd_T66 l x).f3 0 12000 = some wa ∧ impl_within.f (rd_T66 l x).f4 0 2000 = some wz ∧
      (((rd_T66 l x).f0.size : Int) = 32 → b = true → kd = true → wa = true → wz = true → 0 < x → 0 ≤ y ∧ y < (l.length : Int) ∧ impl_Place_compare.f k (rd_T66 l y).f0 (rd_T66 l y).f1 (rd_T66 l y).f2 (rd_T66 l y).f3 (rd_T66 l y).f4 (rd_T66 l x).f0 (rd_T66 l x).f1 (rd_T66 l x).f2 (rd_T66 l x).f3 (rd_T66 l x).f4 = some c) ∧
      ((((rd_T66 l x).f0.size : Int) = 32 ∧ b = true ∧ kd = true ∧ wa = true ∧ wz = true ∧ ¬ (0 < x ∧ 0 ≤ c) ∧ impl_PlacesRight.l0 k l l (l.length : Int) (wrap64 (x + 1)) = some r) ∨ (¬ (((rd_T66 l x).f0.size : Int) = 32 ∧ b = true ∧ kd = true ∧ wa = true ∧ wz = true ∧ ¬ (0 < x ∧ 0 ≤ c)) ∧ r = false)) := by
  simp only [impl_PlacesRight.l0, hy] at h
  rw [if_pos c3, if_pos c4, if_pos c3] at h
  obtain ⟨kd, hk⟩ : ∃ kd, impl_isKind.f (rd_T66 l x).f2 = some kd := by unfold impl_isKind.f; split <;> exact ⟨_, rfl⟩
  obtain ⟨wa, ha⟩ : ∃ kd, impl_within.f (rd_T66 l x).f3 0 12000 = some kd := by unfold impl_within.f; split <;> exact ⟨_, rfl⟩
  obtain ⟨wz, hz⟩ : ∃ kd, impl_within.f (rd_T66 l x).f4 0 2000 = some kd := by unfold impl_within.f; split <;> exact ⟨_, rfl⟩
  by_cases e : ((rd_T66 l x).f0.size : Int) = 32
  · rw [if_pos e] at h
    obtain ⟨b, hb, h⟩ := Option.bind_eq_some_iff.mp h
    rw [hk, ha, hz] at h
    simp only [Option.bind_some] at h
    refine ⟨b, kd, wa, wz, ?_⟩
    by_cases hall : b = true ∧ kd = true ∧ wa = true ∧ wz = true
    · obtain ⟨rfl, rfl, rfl, rfl⟩ := hall
      rw [if_pos rfl, if_pos rfl, if_pos rfl, if_pos rfl] at h
      by_cases hx : 0 < x
      · rw [if_pos hx] at h
        by_cases c9 : 0 ≤ y
        · rw [if_pos c9] at h
          by_cases c10 : y < (l.length : Int)
          · rw [if_pos c10] at h
            obtain ⟨c, hc, h⟩ := Option.bind_eq_some_iff.mp h
            refine ⟨c, fun _ => hb, hk, ha, hz, fun _ _ _ _ _ _ => ⟨c9, c10, hc⟩, ?_⟩
            by_cases hcc : 0 ≤ c
            · rw [if_pos hcc] at h
              exact .inr ⟨fun q => q.2.2.2.2.2 ⟨hx, hcc⟩, (Option.some.inj h).symm⟩
            · rw [if_neg hcc] at h
              exact .inl ⟨e, rfl, rfl, rfl, rfl, fun q => hcc q.2, h⟩
          · rw [if_neg c10] at h
            cases h
        · rw [if_neg c9] at h
          cases h
      · rw [if_neg hx] at h
        exact ⟨0, fun _ => hb, hk, ha, hz, fun _ _ _ _ _ q => absurd q hx, .inl ⟨e, rfl, rfl, rfl, rfl, fun q => hx q.1, h⟩⟩
    · refine ⟨0, fun _ => hb, hk, ha, hz, fun _ q1 q2 q3 q4 _ => absurd ⟨q1, q2, q3, q4⟩ hall, .inr ⟨fun q => hall ⟨q.2.1, q.2.2.1, q.2.2.2.1, q.2.2.2.2.1⟩, ?_⟩⟩
      cases b <;> cases kd <;> cases wa <;> cases wz <;> simp_all
  · rw [if_neg e] at h
    exact ⟨false, kd, wa, wz, 0, fun q => absurd q e, hk, ha, hz, fun q => absurd q e, .inr ⟨fun q => e q.1, (Option.some.inj h).symm⟩⟩
set_option maxHeartbeats 4000000 in
set_option maxRecDepth 100000 in
theorem impl_PlacesRight.calls (k : Nat) (A0 : Option Addr) (c0 : Nat) (l0 : List (S66)) (r : Bool) (w : World) (hr0 : Kd.C k66 w A0 l0.length l0) (hc0 : l0.length ≤ c0) (h : impl_PlacesRight.f k l0 = some r) :
    Calls Try.prog 44 #[.slice A0 l0.length c0] w fun e w' => e = .returned (.bool r) ∧ Below w.heap.size w w' := by
  have hu := Try.underlying66
  have HR0 := AM hr0
  have HC0 := AM hc0
  clear hr0 hc0
  have HB := AM (Below.refl w.heap.size w)
  have H : (if (l0.length : Int) > 300 then (some false) else (impl_PlacesRight.l0 k l0 l0 (l0.length : Int) 0)) = some r := h
  clear h
  by_cases c2 : (l0.length : Int) > 300
  · rw [if_pos c2] at H
    have c2b0 : decide (300 < (l0.length : Int)) = true := decide_eq_true c2
    have c2b1 : decide (300 < l0.length) = true := decide_eq_true (by omega)
    clear c2
    obtain rfl := Option.some.inj H
    go_enter Try.func44, Try.ntmps44
    go_wp2
    go_ret
    exact ⟨rfl, HB.out⟩
  · rw [if_neg c2] at H
    have c2b0 : decide (300 < (l0.length : Int)) = false := decide_eq_false c2
    have c2b1 : decide (300 < l0.length) = false := decide_eq_false (by omega)
    have HL := AM c2
    clear c2
    have H' := AM H
    clear H
    go_enter Try.func44, Try.ntmps44
    go_wp2
    go_loopg [10] k (fun kq v10 w' => ∃ (x3_1 : Int), v10 = .int .i64 x3_1 ∧ Aside0 (impl_PlacesRight.l0 kq l0 l0 (l0.length : Int) x3_1 = some r) ∧ Aside0 (kq ≤ k) ∧ Aside0 (Below w.heap.size w w'))
    case atStart => exact ⟨(0), rfl, H', ⟨Nat.le_refl _⟩, HB⟩
    case round =>
      clear H' c2b0 c2b1
      obtain ⟨x, rfl, HA, HK1, HB⟩ := hrel
      cases gk with
      | zero => exact absurd HA.out (by simp [impl_PlacesRight.l0])
      | succ k1 =>
        by_cases c3 : x < (l0.length : Int)
        · by_cases c4 : 0 ≤ x
          · obtain ⟨y, hy⟩ : ∃ y, wrap64 (x - 1) = y := ⟨_, rfl⟩
            obtain ⟨b, kd, wa, wz, c, hb, hkd, hwa, hwz, hc, hfin⟩ := impl_PlacesRight.step k1 l0 x r y hy HA.out c3 c4
            obtain ⟨ad, rfl, hx0, hx1, hx2, hx3, hx4⟩ := at_T66 HR0.out x c4 c3
            have hyw : IntKind.i64.wrap (x - 1) = y := (i64_w _).trans hy
            obtain ⟨e18, he18⟩ : ∃ e_ : Bool, (((rd_T66 l0 x).f0.size : Int) = 32) = (e_ = true) := ⟨decide (((rd_T66 l0 x).f0.size : Int) = 32), by simp⟩
            obtain ⟨e45, he45⟩ : ∃ e_ : Bool, (0 < x) = (e_ = true) := ⟨decide (0 < x), by simp⟩
            rw [he18] at hb hfin
            rw [he18, he45] at hc
            rw [he45] at hfin
            have HYy : e18 = true → b = true → kd = true → wa = true → wz = true → e45 = true → (0 ≤ y) = True ∧ (y < (l0.length : Int)) = True ∧ w.cell? (ad.add (y.toNat * 5)) = some (.string (rd_T66 l0 y).f0) ∧ w.cell? ⟨(ad.add (y.toNat * 5)).block, (ad.add (y.toNat * 5)).off + 1, none⟩ = some (.string (rd_T66 l0 y).f1) ∧ w.cell? ⟨(ad.add (y.toNat * 5)).block, (ad.add (y.toNat * 5)).off + 2, none⟩ = some (.int .i64 (rd_T66 l0 y).f2) ∧ w.cell? ⟨(ad.add (y.toNat * 5)).block, (ad.add (y.toNat * 5)).off + 3, none⟩ = some (.int .i64 (rd_T66 l0 y).f3) ∧ w.cell? ⟨(ad.add (y.toNat * 5)).block, (ad.add (y.toNat * 5)).off + 4, none⟩ = some (.int .i64 (rd_T66 l0 y).f4) := by
              intro q1 q2 q3 q4 q5 q6
              obtain ⟨c9, c10, _⟩ := hc q1 q2 q3 q4 q5 q6
              obtain ⟨ad', e, h1, h2, h3, h4, h5⟩ := at_T66 HR0.out y c9 c10
              cases e
              exact ⟨eq_true c9, eq_true c10, h1, h2, h3, h4, h5⟩
            have HY := AM HYy
            have Hb := AM hb
            have Hkd := AM hkd
            have Hwa := AM hwa
            have Hwz := AM hwz
            have Hc := AM hc
            have Hfin := AM hfin
            have c3b0 : decide (x < (l0.length : Int)) = true := decide_eq_true c3
            have c4b0 := eq_true c4
            have c3b1 := eq_true c3
            clear HA hy hb hkd hwa hwz hc hfin HYy c3 c4
            have HE18 := AM he18
            have HE45 := AM he45
            clear he18 he45
            replace hx0 := cellG HB.out (grow_refl _) hx0
            replace hx1 := cellG HB.out (grow_refl _) hx1
            replace hx2 := cellG HB.out (grow_refl _) hx2
            replace hx3 := cellG HB.out (grow_refl _) hx3
            replace hx4 := cellG HB.out (grow_refl _) hx4
            go_wp2
            have he18 := HE18.out
            have he45 := HE45.out
            have hs0 : (wr.alloc (Obj.cells #[.string (rd_T66 l0 x).f0, .string (rd_T66 l0 x).f1, .int .i64 (rd_T66 l0 x).f2, .int .i64 (rd_T66 l0 x).f3, .int .i64 (rd_T66 l0 x).f4] 66)).cell? ⟨wr.heap.size, 0, none⟩ = some (.string (rd_T66 l0 x).f0) := by simp
            have hs1 : (wr.alloc (Obj.cells #[.string (rd_T66 l0 x).f0, .string (rd_T66 l0 x).f1, .int .i64 (rd_T66 l0 x).f2, .int .i64 (rd_T66 l0 x).f3, .int .i64 (rd_T66 l0 x).f4] 66)).cell? ⟨wr.heap.size, 1, none⟩ = some (.string (rd_T66 l0 x).f1) := by simp
            have hs2 : (wr.alloc (Obj.cells #[.string (rd_T66 l0 x).f0, .string (rd_T66 l0 x).f1, .int .i64 (rd_T66 l0 x).f2, .int .i64 (rd_T66 l0 x).f3, .int .i64 (rd_T66 l0 x).f4] 66)).cell? ⟨wr.heap.size, 2, none⟩ = some (.int .i64 (rd_T66 l0 x).f2) := by simp
            have hs3 : (wr.alloc (Obj.cells #[.string (rd_T66 l0 x).f0, .string (rd_T66 l0 x).f1, .int .i64 (rd_T66 l0 x).f2, .int .i64 (rd_T66 l0 x).f3, .int .i64 (rd_T66 l0 x).f4] 66)).cell? ⟨wr.heap.size, 3, none⟩ = some (.int .i64 (rd_T66 l0 x).f3) := by simp
            have hs4 : (wr.alloc (Obj.cells #[.string (rd_T66 l0 x).f0, .string (rd_T66 l0 x).f1, .int .i64 (rd_T66 l0 x).f2, .int .i64 (rd_T66 l0 x).f3, .int .i64 (rd_T66 l0 x).f4] 66)).cell? ⟨wr.heap.size, 4, none⟩ = some (.int .i64 (rd_T66 l0 x).f4) := by simp
            replace HB := AM (HB.out.alloc HB.out.size (Obj.cells #[.string (rd_T66 l0 x).f0, .string (rd_T66 l0 x).f1, .int .i64 (rd_T66 l0 x).f2, .int .i64 (rd_T66 l0 x).f3, .int .i64 (rd_T66 l0 x).f4] 66))
            clear hx0 hx1 hx2 hx3 hx4
            generalize wr.alloc _ = w2 at HB hs0 hs1 hs2 hs3 hs4 ⊢
            generalize wr.heap.size = g at hs0 hs1 hs2 hs3 hs4 ⊢
            have he18b : ((((rd_T66 l0 x).f0).size : Int) == 32) = e18 := by rw [Bool.eq_iff_iff, ← he18]; simp
            have he18m : ((((rd_T66 l0 x).f0).size : Int) != 32) = !e18 := by simp only [bne, he18b]
            have he18n : (((rd_T66 l0 x).f0).size == 32) = e18 := by rw [Bool.eq_iff_iff, ← he18]; simp; try omega
            obtain ⟨e54, he54⟩ : ∃ e_ : Bool, (0 ≤ c) = (e_ = true) := ⟨decide (0 ≤ c), by simp⟩
            refine wp_reg1 [[], [0], [1], [2], [3], [4], [4, 5], [4, 6], [4, 7], [4, 8], [9], [10], [10, 11], [10, 12], [10, 13], [10, 14], [15], [16], [16, 17], [16, 18], [16, 19], [16, 20], [21], [22], [22, 23], [22, 24], [22, 25], [22, 26], [27], [28], [28, 29], [28, 30], [31], [31], [31, 33], [31, 32, 34], [31, 35], [31], [31, 36, 37], [31, 38], [28, 31, 39], [28, 40]]
              (isVal [.pointer (some ⟨g, 0, none⟩),
                .string ((rd_T66 l0 x).f0),
                .int .i64 (((rd_T66 l0 x).f0).size : Int),
                .bool (!e18),
                .bool (!e18),
                if e18 then .pointer (some ⟨g, 1, none⟩) else undef,
                if e18 then .string ((rd_T66 l0 x).f1) else undef,
                if e18 then .bool b else undef,
                if e18 then .bool (!b) else undef,
                .bool (!e18 || !b),
                .bool (!e18 || !b),
                if !(!e18 || !b) then .pointer (some ⟨g, 2, none⟩) else undef,
                if !(!e18 || !b) then .int .i64 ((rd_T66 l0 x).f2) else undef,
                if !(!e18 || !b) then .bool kd else undef,
                if !(!e18 || !b) then .bool (!kd) else undef,
                .bool ((!e18 || !b) || !kd),
                .bool ((!e18 || !b) || !kd),
                if !((!e18 || !b) || !kd) then .pointer (some ⟨g, 3, none⟩) else undef,
                if !((!e18 || !b) || !kd) then .int .i64 ((rd_T66 l0 x).f3) else undef,
                if !((!e18 || !b) || !kd) then .bool wa else undef,
                if !((!e18 || !b) || !kd) then .bool (!wa) else undef,
                .bool (((!e18 || !b) || !kd) || !wa),
                .bool (((!e18 || !b) || !kd) || !wa),
                if !(((!e18 || !b) || !kd) || !wa) then .pointer (some ⟨g, 4, none⟩) else undef,
                if !(((!e18 || !b) || !kd) || !wa) then .int .i64 ((rd_T66 l0 x).f4) else undef,
                if !(((!e18 || !b) || !kd) || !wa) then .bool wz else undef,
                if !(((!e18 || !b) || !kd) || !wa) then .bool (!wz) else undef,
                .bool ((((!e18 || !b) || !kd) || !wa) || !wz),
                .bool ((((!e18 || !b) || !kd) || !wa) || !wz),
                if !((((!e18 || !b) || !kd) || !wa) || !wz) then .int .i64 x else undef,
                if !((((!e18 || !b) || !kd) || !wa) || !wz) then .bool e45 else undef,
                if !((((!e18 || !b) || !kd) || !wa) || !wz) then .bool e45 else undef,
                if !((((!e18 || !b) || !kd) || !wa) || !wz) && e45 then .slice (some ad) l0.length c0 else undef,
                if !((((!e18 || !b) || !kd) || !wa) || !wz) && e45 then .int .i64 x else undef,
                if !((((!e18 || !b) || !kd) || !wa) || !wz) && e45 then .int .i64 y else undef,
                if !((((!e18 || !b) || !kd) || !wa) || !wz) && e45 then .pointer (some (ad.add (y.toNat * 5))) else undef,
                if !((((!e18 || !b) || !kd) || !wa) || !wz) && e45 then .agg #[.string ((rd_T66 l0 y).f0), .string ((rd_T66 l0 y).f1), .int .i64 ((rd_T66 l0 y).f2), .int .i64 ((rd_T66 l0 y).f3), .int .i64 ((rd_T66 l0 y).f4)] else undef,
                if !((((!e18 || !b) || !kd) || !wa) || !wz) && e45 then .agg #[.string ((rd_T66 l0 x).f0), .string ((rd_T66 l0 x).f1), .int .i64 ((rd_T66 l0 x).f2), .int .i64 ((rd_T66 l0 x).f3), .int .i64 ((rd_T66 l0 x).f4)] else undef,
                if !((((!e18 || !b) || !kd) || !wa) || !wz) && e45 then .int .i64 c else undef,
                if !((((!e18 || !b) || !kd) || !wa) || !wz) && e45 then .bool e54 else undef,
                if !((((!e18 || !b) || !kd) || !wa) || !wz) then .bool (e45 && e54) else undef,
                .bool (((((!e18 || !b) || !kd) || !wa) || !wz) || (e45 && e54))]) ?B6 ?d6 (by kernel_rfl) (by kernel_rfl) (by kernel_rfl) (by kernel_rfl) (fun us => ?hA6) (isVal_grow _) ?hS6 ?hE6
            case hA6 =>
              simp only [regPut, Act.put, List.setIfInBounds_toArray, List.set_cons_zero, List.set_cons_succ, Nat.reduceAdd, Nat.zero_add]
              rfl
            case hS6 =>
              refine ⟨?_, ?_, ?_, ?_, ?_, ?_, ?_, ?_, ?_, ?_, ?_, ?_, ?_, ?_, ?_, ?_, ?_, ?_, ?_, ?_, ?_, ?_, ?_, ?_, ?_, ?_, ?_, ?_, ?_, ?_, ?_, ?_, ?_, ?_, ?_, ?_, ?_, ?_, ?_, ?_, ?_, ?_, trivial⟩
              all_goals (intro us w' hg hd K hK; simp only [AllR, isVal, List.getD_cons_zero, List.getD_cons_succ] at hd; clear HR0 HC0 HL Hfin HE18 HE45 HK1)
              all_goals (have g1_ := True.intro; have g2_ := True.intro; have g3_ := True.intro; try (obtain ⟨g1_, hd⟩ := hd); try (obtain ⟨g2_, hd⟩ := hd); try (obtain ⟨g3_, hd⟩ := hd))
              all_goals (replace hs0 := cellG (grow_refl _) hg hs0; replace hs1 := cellG (grow_refl _) hg hs1; replace hs2 := cellG (grow_refl _) hg hs2; replace hs3 := cellG (grow_refl _) hg hs3; replace hs4 := cellG (grow_refl _) hg hs4)
              · all_goals (repeat' (first
                    | (refine reg_val hK ?_ ?_ (grow_refl _) rfl
                       · first | rfl | (simp [wantedG, asB, undef, g1_, g2_, g3_]; done)
                       · skip
                         (try (obtain ⟨y1, y2, y3, y4, y5, y6, y7⟩ := HY.out rfl rfl rfl rfl rfl rfl; replace y3 := cellG HB.out hg y3; replace y4 := cellG HB.out hg y4; replace y5 := cellG HB.out hg y5; replace y6 := cellG HB.out hg y6; replace y7 := cellG HB.out hg y7))
                         go_simp
                         done)
                    | cases b | cases kd | cases wa | cases wz | cases e45 | cases e18 | cases e54))
              · all_goals (repeat' (first
                    | (refine reg_val hK ?_ ?_ (grow_refl _) rfl
                       · first | rfl | (simp [wantedG, asB, undef, g1_, g2_, g3_]; done)
                       · skip
                         (try (obtain ⟨y1, y2, y3, y4, y5, y6, y7⟩ := HY.out rfl rfl rfl rfl rfl rfl; replace y3 := cellG HB.out hg y3; replace y4 := cellG HB.out hg y4; replace y5 := cellG HB.out hg y5; replace y6 := cellG HB.out hg y6; replace y7 := cellG HB.out hg y7))
                         go_simp
                         done)
                    | cases b | cases kd | cases wa | cases wz | cases e45 | cases e18 | cases e54))
              · all_goals (repeat' (first
                    | (refine reg_val hK ?_ ?_ (grow_refl _) rfl
                       · first | rfl | (simp [wantedG, asB, undef, g1_, g2_, g3_]; done)
                       · skip
                         (try (obtain ⟨y1, y2, y3, y4, y5, y6, y7⟩ := HY.out rfl rfl rfl rfl rfl rfl; replace y3 := cellG HB.out hg y3; replace y4 := cellG HB.out hg y4; replace y5 := cellG HB.out hg y5; replace y6 := cellG HB.out hg y6; replace y7 := cellG HB.out hg y7))
                         go_simp
                         done)
                    | cases b | cases kd | cases wa | cases wz | cases e45 | cases e18 | cases e54))
              · all_goals (repeat' (first
                    | (refine reg_val hK ?_ ?_ (grow_refl _) rfl
                       · first | rfl | (simp [wantedG, asB, undef, g1_, g2_, g3_]; done)
                       · skip
                         (try (obtain ⟨y1, y2, y3, y4, y5, y6, y7⟩ := HY.out rfl rfl rfl rfl rfl rfl; replace y3 := cellG HB.out hg y3; replace y4 := cellG HB.out hg y4; replace y5 := cellG HB.out hg y5; replace y6 := cellG HB.out hg y6; replace y7 := cellG HB.out hg y7))
                         go_simp
                         done)
                    | cases b | cases kd | cases wa | cases wz | cases e45 | cases e18 | cases e54))
              · all_goals (repeat' (first
                    | (refine reg_val hK ?_ ?_ (grow_refl _) rfl
                       · first | rfl | (simp [wantedG, asB, undef, g1_, g2_, g3_]; done)
                       · skip
                         (try (obtain ⟨y1, y2, y3, y4, y5, y6, y7⟩ := HY.out rfl rfl rfl rfl rfl rfl; replace y3 := cellG HB.out hg y3; replace y4 := cellG HB.out hg y4; replace y5 := cellG HB.out hg y5; replace y6 := cellG HB.out hg y6; replace y7 := cellG HB.out hg y7))
                         go_simp
                         done)
                    | cases b | cases kd | cases wa | cases wz | cases e45 | cases e18 | cases e54))
              · rcases Bool.eq_false_or_eq_true (e18 : Bool) with hG_ | hG_
                rotate_left
                · exact reg_skip hK (by rw [(wanted_f rfl g1_).trans (show _ = (e18 : Bool) by first | rfl | (simp; done)), hG_]; decide) (by show undef = ite _ _ _; rw [hG_]; rfl)
                all_goals (cases e18 <;> first | (exfalso; simp at hG_; done) | skip)
                all_goals (repeat' (first
                    | (refine reg_skip hK ?_ rfl; (simp [wantedG, asB, undef, g1_, g2_, g3_]; done))
                    | (refine reg_val hK ?_ ?_ (grow_refl _) rfl
                       · first | rfl | (simp [wantedG, asB, undef, g1_, g2_, g3_]; done)
                       · skip
                         (try (obtain ⟨y1, y2, y3, y4, y5, y6, y7⟩ := HY.out rfl rfl rfl rfl rfl rfl; replace y3 := cellG HB.out hg y3; replace y4 := cellG HB.out hg y4; replace y5 := cellG HB.out hg y5; replace y6 := cellG HB.out hg y6; replace y7 := cellG HB.out hg y7))
                         go_simp
                         done)
                    | cases b | cases kd | cases wa | cases wz | cases e45 | cases e54))
              · rcases Bool.eq_false_or_eq_true (e18 : Bool) with hG_ | hG_
                rotate_left
                · exact reg_skip hK (by rw [(wanted_f rfl g1_).trans (show _ = (e18 : Bool) by first | rfl | (simp; done)), hG_]; decide) (by show undef = ite _ _ _; rw [hG_]; rfl)
                all_goals (cases e18 <;> first | (exfalso; simp at hG_; done) | skip)
                all_goals (repeat' (first
                    | (refine reg_skip hK ?_ rfl; (simp [wantedG, asB, undef, g1_, g2_, g3_]; done))
                    | (refine reg_val hK ?_ ?_ (grow_refl _) rfl
                       · first | rfl | (simp [wantedG, asB, undef, g1_, g2_, g3_]; done)
                       · skip
                         (try (obtain ⟨y1, y2, y3, y4, y5, y6, y7⟩ := HY.out rfl rfl rfl rfl rfl rfl; replace y3 := cellG HB.out hg y3; replace y4 := cellG HB.out hg y4; replace y5 := cellG HB.out hg y5; replace y6 := cellG HB.out hg y6; replace y7 := cellG HB.out hg y7))
                         go_simp
                         done)
                    | cases b | cases kd | cases wa | cases wz | cases e45 | cases e54))
              · rcases Bool.eq_false_or_eq_true (e18 : Bool) with hG_ | hG_
                rotate_left
                · exact reg_skip hK (by rw [(wanted_f rfl g1_).trans (show _ = (e18 : Bool) by first | rfl | (simp; done)), hG_]; decide) (by show undef = ite _ _ _; rw [hG_]; rfl)
                all_goals (cases e18 <;> first | (exfalso; simp at hG_; done) | skip)
                all_goals (repeat' (first
                    | (refine reg_skip hK ?_ rfl; (simp [wantedG, asB, undef, g1_, g2_, g3_]; done))
                    | (refine reg_call hK ?_ rfl Try.func89 (by kernel_rfl) rfl #[.string (rd_T66 l0 x).f1] ?_ ((impl_ObjectRight.calls k1 _ _ _ (Hb.out rfl)).mono ?_)
                       · first | rfl | (simp [wantedG, asB, undef, g1_, g2_, g3_]; done)
                       · simp [Act.eval, g1_, g2_, g3_]
                       · rintro e_ w'' ⟨rfl, hb_⟩
                         exact ⟨_, rfl, (by first | exact hb_ | exact hb_.below), rfl⟩)
                    | cases b | cases kd | cases wa | cases wz | cases e45 | cases e54))
              · rcases Bool.eq_false_or_eq_true (e18 : Bool) with hG_ | hG_
                rotate_left
                · exact reg_skip hK (by rw [(wanted_f rfl g1_).trans (show _ = (e18 : Bool) by first | rfl | (simp; done)), hG_]; decide) (by show undef = ite _ _ _; rw [hG_]; rfl)
                all_goals (cases e18 <;> first | (exfalso; simp at hG_; done) | skip)
                all_goals (repeat' (first
                    | (refine reg_skip hK ?_ rfl; (simp [wantedG, asB, undef, g1_, g2_, g3_]; done))
                    | (refine reg_val hK ?_ ?_ (grow_refl _) rfl
                       · first | rfl | (simp [wantedG, asB, undef, g1_, g2_, g3_]; done)
                       · skip
                         (try (obtain ⟨y1, y2, y3, y4, y5, y6, y7⟩ := HY.out rfl rfl rfl rfl rfl rfl; replace y3 := cellG HB.out hg y3; replace y4 := cellG HB.out hg y4; replace y5 := cellG HB.out hg y5; replace y6 := cellG HB.out hg y6; replace y7 := cellG HB.out hg y7))
                         go_simp
                         done)
                    | cases b | cases kd | cases wa | cases wz | cases e45 | cases e54))
              · refine reg_pick hK rfl rfl g1_ (or_val ?_ g2_)
                first | rfl | (simp; done)
              · all_goals (repeat' (first
                    | (refine reg_val hK ?_ ?_ (grow_refl _) rfl
                       · first | rfl | (simp [wantedG, asB, undef, g1_, g2_, g3_]; done)
                       · skip
                         (try (obtain ⟨y1, y2, y3, y4, y5, y6, y7⟩ := HY.out rfl rfl rfl rfl rfl rfl; replace y3 := cellG HB.out hg y3; replace y4 := cellG HB.out hg y4; replace y5 := cellG HB.out hg y5; replace y6 := cellG HB.out hg y6; replace y7 := cellG HB.out hg y7))
                         go_simp
                         done)
                    | cases b | cases kd | cases wa | cases wz | cases e45 | cases e18 | cases e54))
              · rcases Bool.eq_false_or_eq_true (!(!e18 || !b) : Bool) with hG_ | hG_
                rotate_left
                · exact reg_skip hK (by rw [(wanted_f rfl g1_).trans (show _ = (!(!e18 || !b) : Bool) by first | rfl | (simp; done)), hG_]; decide) (by show undef = ite _ _ _; rw [hG_]; rfl)
                all_goals (cases b <;> first | (exfalso; simp at hG_; done) | skip)
                all_goals (cases e18 <;> first | (exfalso; simp at hG_; done) | skip)
                all_goals (repeat' (first
                    | (refine reg_skip hK ?_ rfl; (simp [wantedG, asB, undef, g1_, g2_, g3_]; done))
                    | (refine reg_val hK ?_ ?_ (grow_refl _) rfl
                       · first | rfl | (simp [wantedG, asB, undef, g1_, g2_, g3_]; done)
                       · skip
                         (try (obtain ⟨y1, y2, y3, y4, y5, y6, y7⟩ := HY.out rfl rfl rfl rfl rfl rfl; replace y3 := cellG HB.out hg y3; replace y4 := cellG HB.out hg y4; replace y5 := cellG HB.out hg y5; replace y6 := cellG HB.out hg y6; replace y7 := cellG HB.out hg y7))
                         go_simp
                         done)
                    | cases kd | cases wa | cases wz | cases e45 | cases e54))
              · rcases Bool.eq_false_or_eq_true (!(!e18 || !b) : Bool) with hG_ | hG_
                rotate_left
                · exact reg_skip hK (by rw [(wanted_f rfl g1_).trans (show _ = (!(!e18 || !b) : Bool) by first | rfl | (simp; done)), hG_]; decide) (by show undef = ite _ _ _; rw [hG_]; rfl)
                all_goals (cases b <;> first | (exfalso; simp at hG_; done) | skip)
                all_goals (cases e18 <;> first | (exfalso; simp at hG_; done) | skip)
                all_goals (repeat' (first
                    | (refine reg_skip hK ?_ rfl; (simp [wantedG, asB, undef, g1_, g2_, g3_]; done))
                    | (refine reg_val hK ?_ ?_ (grow_refl _) rfl
                       · first | rfl | (simp [wantedG, asB, undef, g1_, g2_, g3_]; done)
                       · skip
                         (try (obtain ⟨y1, y2, y3, y4, y5, y6, y7⟩ := HY.out rfl rfl rfl rfl rfl rfl; replace y3 := cellG HB.out hg y3; replace y4 := cellG HB.out hg y4; replace y5 := cellG HB.out hg y5; replace y6 := cellG HB.out hg y6; replace y7 := cellG HB.out hg y7))
                         go_simp
                         done)
                    | cases kd | cases wa | cases wz | cases e45 | cases e54))
              · rcases Bool.eq_false_or_eq_true (!(!e18 || !b) : Bool) with hG_ | hG_
                rotate_left
                · exact reg_skip hK (by rw [(wanted_f rfl g1_).trans (show _ = (!(!e18 || !b) : Bool) by first | rfl | (simp; done)), hG_]; decide) (by show undef = ite _ _ _; rw [hG_]; rfl)
                all_goals (cases b <;> first | (exfalso; simp at hG_; done) | skip)
                all_goals (cases e18 <;> first | (exfalso; simp at hG_; done) | skip)
                all_goals (repeat' (first
                    | (refine reg_skip hK ?_ rfl; (simp [wantedG, asB, undef, g1_, g2_, g3_]; done))
                    | (refine reg_call hK ?_ rfl Try.func90 (by kernel_rfl) rfl #[.int .i64 (rd_T66 l0 x).f2] ?_ ((impl_isKind.calls _ _ _ Hkd.out).mono ?_)
                       · first | rfl | (simp [wantedG, asB, undef, g1_, g2_, g3_]; done)
                       · simp [Act.eval, g1_, g2_, g3_]
                       · rintro e_ w'' ⟨rfl, hb_⟩
                         exact ⟨_, rfl, (by first | exact hb_ | exact hb_.below), rfl⟩)
                    | cases kd | cases wa | cases wz | cases e45 | cases e54))
              · rcases Bool.eq_false_or_eq_true (!(!e18 || !b) : Bool) with hG_ | hG_
                rotate_left
                · exact reg_skip hK (by rw [(wanted_f rfl g1_).trans (show _ = (!(!e18 || !b) : Bool) by first | rfl | (simp; done)), hG_]; decide) (by show undef = ite _ _ _; rw [hG_]; rfl)
                all_goals (cases b <;> first | (exfalso; simp at hG_; done) | skip)
                all_goals (cases e18 <;> first | (exfalso; simp at hG_; done) | skip)
                all_goals (repeat' (first
                    | (refine reg_skip hK ?_ rfl; (simp [wantedG, asB, undef, g1_, g2_, g3_]; done))
                    | (refine reg_val hK ?_ ?_ (grow_refl _) rfl
                       · first | rfl | (simp [wantedG, asB, undef, g1_, g2_, g3_]; done)
                       · skip
                         (try (obtain ⟨y1, y2, y3, y4, y5, y6, y7⟩ := HY.out rfl rfl rfl rfl rfl rfl; replace y3 := cellG HB.out hg y3; replace y4 := cellG HB.out hg y4; replace y5 := cellG HB.out hg y5; replace y6 := cellG HB.out hg y6; replace y7 := cellG HB.out hg y7))
                         go_simp
                         done)
                    | cases kd | cases wa | cases wz | cases e45 | cases e54))
              · refine reg_pick hK rfl rfl g1_ (or_val ?_ g2_)
                first | rfl | (simp; done)
              · all_goals (repeat' (first
                    | (refine reg_val hK ?_ ?_ (grow_refl _) rfl
                       · first | rfl | (simp [wantedG, asB, undef, g1_, g2_, g3_]; done)
                       · skip
                         (try (obtain ⟨y1, y2, y3, y4, y5, y6, y7⟩ := HY.out rfl rfl rfl rfl rfl rfl; replace y3 := cellG HB.out hg y3; replace y4 := cellG HB.out hg y4; replace y5 := cellG HB.out hg y5; replace y6 := cellG HB.out hg y6; replace y7 := cellG HB.out hg y7))
                         go_simp
                         done)
                    | cases b | cases kd | cases wa | cases wz | cases e45 | cases e18 | cases e54))
              · rcases Bool.eq_false_or_eq_true (!((!e18 || !b) || !kd) : Bool) with hG_ | hG_
                rotate_left
                · exact reg_skip hK (by rw [(wanted_f rfl g1_).trans (show _ = (!((!e18 || !b) || !kd) : Bool) by first | rfl | (simp; done)), hG_]; decide) (by show undef = ite _ _ _; rw [hG_]; rfl)
                all_goals (cases b <;> first | (exfalso; simp at hG_; done) | skip)
                all_goals (cases kd <;> first | (exfalso; simp at hG_; done) | skip)
                all_goals (cases e18 <;> first | (exfalso; simp at hG_; done) | skip)
                all_goals (repeat' (first
                    | (refine reg_skip hK ?_ rfl; (simp [wantedG, asB, undef, g1_, g2_, g3_]; done))
                    | (refine reg_val hK ?_ ?_ (grow_refl _) rfl
                       · first | rfl | (simp [wantedG, asB, undef, g1_, g2_, g3_]; done)
                       · skip
                         (try (obtain ⟨y1, y2, y3, y4, y5, y6, y7⟩ := HY.out rfl rfl rfl rfl rfl rfl; replace y3 := cellG HB.out hg y3; replace y4 := cellG HB.out hg y4; replace y5 := cellG HB.out hg y5; replace y6 := cellG HB.out hg y6; replace y7 := cellG HB.out hg y7))
                         go_simp
                         done)
                    | cases wa | cases wz | cases e45 | cases e54))
              · rcases Bool.eq_false_or_eq_true (!((!e18 || !b) || !kd) : Bool) with hG_ | hG_
                rotate_left
                · exact reg_skip hK (by rw [(wanted_f rfl g1_).trans (show _ = (!((!e18 || !b) || !kd) : Bool) by first | rfl | (simp; done)), hG_]; decide) (by show undef = ite _ _ _; rw [hG_]; rfl)
                all_goals (cases b <;> first | (exfalso; simp at hG_; done) | skip)
                all_goals (cases kd <;> first | (exfalso; simp at hG_; done) | skip)
                all_goals (cases e18 <;> first | (exfalso; simp at hG_; done) | skip)
                all_goals (repeat' (first
                    | (refine reg_skip hK ?_ rfl; (simp [wantedG, asB, undef, g1_, g2_, g3_]; done))
                    | (refine reg_val hK ?_ ?_ (grow_refl _) rfl
                       · first | rfl | (simp [wantedG, asB, undef, g1_, g2_, g3_]; done)
                       · skip
                         (try (obtain ⟨y1, y2, y3, y4, y5, y6, y7⟩ := HY.out rfl rfl rfl rfl rfl rfl; replace y3 := cellG HB.out hg y3; replace y4 := cellG HB.out hg y4; replace y5 := cellG HB.out hg y5; replace y6 := cellG HB.out hg y6; replace y7 := cellG HB.out hg y7))
                         go_simp
                         done)
                    | cases wa | cases wz | cases e45 | cases e54))
              · rcases Bool.eq_false_or_eq_true (!((!e18 || !b) || !kd) : Bool) with hG_ | hG_
                rotate_left
                · exact reg_skip hK (by rw [(wanted_f rfl g1_).trans (show _ = (!((!e18 || !b) || !kd) : Bool) by first | rfl | (simp; done)), hG_]; decide) (by show undef = ite _ _ _; rw [hG_]; rfl)
                all_goals (cases b <;> first | (exfalso; simp at hG_; done) | skip)
                all_goals (cases kd <;> first | (exfalso; simp at hG_; done) | skip)
                all_goals (cases e18 <;> first | (exfalso; simp at hG_; done) | skip)
                all_goals (repeat' (first
                    | (refine reg_skip hK ?_ rfl; (simp [wantedG, asB, undef, g1_, g2_, g3_]; done))
                    | (refine reg_call hK ?_ rfl Try.func91 (by kernel_rfl) rfl #[.int .i64 (rd_T66 l0 x).f3, .int .i64 0, .int .i64 12000] ?_ ((impl_within.calls _ _ _ _ _ Hwa.out).mono ?_)
                       · first | rfl | (simp [wantedG, asB, undef, g1_, g2_, g3_]; done)
                       · simp [Act.eval, g1_, g2_, g3_]
                       · rintro e_ w'' ⟨rfl, hb_⟩
                         exact ⟨_, rfl, (by first | exact hb_ | exact hb_.below), rfl⟩)
                    | (refine reg_call hK ?_ rfl Try.func91 (by kernel_rfl) rfl #[.int .i64 (rd_T66 l0 x).f4, .int .i64 0, .int .i64 2000] ?_ ((impl_within.calls _ _ _ _ _ Hwz.out).mono ?_)
                       · first | rfl | (simp [wantedG, asB, undef, g1_, g2_, g3_]; done)
                       · simp [Act.eval, g1_, g2_, g3_]
                       · rintro e_ w'' ⟨rfl, hb_⟩
                         exact ⟨_, rfl, (by first | exact hb_ | exact hb_.below), rfl⟩)
                    | cases wa | cases wz | cases e45 | cases e54))
              · rcases Bool.eq_false_or_eq_true (!((!e18 || !b) || !kd) : Bool) with hG_ | hG_
                rotate_left
                · exact reg_skip hK (by rw [(wanted_f rfl g1_).trans (show _ = (!((!e18 || !b) || !kd) : Bool) by first | rfl | (simp; done)), hG_]; decide) (by show undef = ite _ _ _; rw [hG_]; rfl)
                all_goals (cases b <;> first | (exfalso; simp at hG_; done) | skip)
                all_goals (cases kd <;> first | (exfalso; simp at hG_; done) | skip)
                all_goals (cases e18 <;> first | (exfalso; simp at hG_; done) | skip)
                all_goals (repeat' (first
                    | (refine reg_skip hK ?_ rfl; (simp [wantedG, asB, undef, g1_, g2_, g3_]; done))
                    | (refine reg_val hK ?_ ?_ (grow_refl _) rfl
                       · first | rfl | (simp [wantedG, asB, undef, g1_, g2_, g3_]; done)
                       · skip
                         (try (obtain ⟨y1, y2, y3, y4, y5, y6, y7⟩ := HY.out rfl rfl rfl rfl rfl rfl; replace y3 := cellG HB.out hg y3; replace y4 := cellG HB.out hg y4; replace y5 := cellG HB.out hg y5; replace y6 := cellG HB.out hg y6; replace y7 := cellG HB.out hg y7))
                         go_simp
                         done)
                    | cases wa | cases wz | cases e45 | cases e54))
              · refine reg_pick hK rfl rfl g1_ (or_val ?_ g2_)
                first | rfl | (simp; done)
              · all_goals (repeat' (first
                    | (refine reg_val hK ?_ ?_ (grow_refl _) rfl
                       · first | rfl | (simp [wantedG, asB, undef, g1_, g2_, g3_]; done)
                       · skip
                         (try (obtain ⟨y1, y2, y3, y4, y5, y6, y7⟩ := HY.out rfl rfl rfl rfl rfl rfl; replace y3 := cellG HB.out hg y3; replace y4 := cellG HB.out hg y4; replace y5 := cellG HB.out hg y5; replace y6 := cellG HB.out hg y6; replace y7 := cellG HB.out hg y7))
                         go_simp
                         done)
                    | cases b | cases kd | cases wa | cases wz | cases e45 | cases e18 | cases e54))
              · rcases Bool.eq_false_or_eq_true (!(((!e18 || !b) || !kd) || !wa) : Bool) with hG_ | hG_
                rotate_left
                · exact reg_skip hK (by rw [(wanted_f rfl g1_).trans (show _ = (!(((!e18 || !b) || !kd) || !wa) : Bool) by first | rfl | (simp; done)), hG_]; decide) (by show undef = ite _ _ _; rw [hG_]; rfl)
                all_goals (cases b <;> first | (exfalso; simp at hG_; done) | skip)
                all_goals (cases kd <;> first | (exfalso; simp at hG_; done) | skip)
                all_goals (cases wa <;> first | (exfalso; simp at hG_; done) | skip)
                all_goals (cases e18 <;> first | (exfalso; simp at hG_; done) | skip)
                all_goals (repeat' (first
                    | (refine reg_skip hK ?_ rfl; (simp [wantedG, asB, undef, g1_, g2_, g3_]; done))
                    | (refine reg_val hK ?_ ?_ (grow_refl _) rfl
                       · first | rfl | (simp [wantedG, asB, undef, g1_, g2_, g3_]; done)
                       · skip
                         (try (obtain ⟨y1, y2, y3, y4, y5, y6, y7⟩ := HY.out rfl rfl rfl rfl rfl rfl; replace y3 := cellG HB.out hg y3; replace y4 := cellG HB.out hg y4; replace y5 := cellG HB.out hg y5; replace y6 := cellG HB.out hg y6; replace y7 := cellG HB.out hg y7))
                         go_simp
                         done)
                    | cases wz | cases e45 | cases e54))
              · rcases Bool.eq_false_or_eq_true (!(((!e18 || !b) || !kd) || !wa) : Bool) with hG_ | hG_
                rotate_left
                · exact reg_skip hK (by rw [(wanted_f rfl g1_).trans (show _ = (!(((!e18 || !b) || !kd) || !wa) : Bool) by first | rfl | (simp; done)), hG_]; decide) (by show undef = ite _ _ _; rw [hG_]; rfl)
                all_goals (cases b <;> first | (exfalso; simp at hG_; done) | skip)
                all_goals (cases kd <;> first | (exfalso; simp at hG_; done) | skip)
                all_goals (cases wa <;> first | (exfalso; simp at hG_; done) | skip)
                all_goals (cases e18 <;> first | (exfalso; simp at hG_; done) | skip)
                all_goals (repeat' (first
                    | (refine reg_skip hK ?_ rfl; (simp [wantedG, asB, undef, g1_, g2_, g3_]; done))
                    | (refine reg_val hK ?_ ?_ (grow_refl _) rfl
                       · first | rfl | (simp [wantedG, asB, undef, g1_, g2_, g3_]; done)
                       · skip
                         (try (obtain ⟨y1, y2, y3, y4, y5, y6, y7⟩ := HY.out rfl rfl rfl rfl rfl rfl; replace y3 := cellG HB.out hg y3; replace y4 := cellG HB.out hg y4; replace y5 := cellG HB.out hg y5; replace y6 := cellG HB.out hg y6; replace y7 := cellG HB.out hg y7))
                         go_simp
                         done)
                    | cases wz | cases e45 | cases e54))
              · rcases Bool.eq_false_or_eq_true (!(((!e18 || !b) || !kd) || !wa) : Bool) with hG_ | hG_
                rotate_left
                · exact reg_skip hK (by rw [(wanted_f rfl g1_).trans (show _ = (!(((!e18 || !b) || !kd) || !wa) : Bool) by first | rfl | (simp; done)), hG_]; decide) (by show undef = ite _ _ _; rw [hG_]; rfl)
                all_goals (cases b <;> first | (exfalso; simp at hG_; done) | skip)
                all_goals (cases kd <;> first | (exfalso; simp at hG_; done) | skip)
                all_goals (cases wa <;> first | (exfalso; simp at hG_; done) | skip)
                all_goals (cases e18 <;> first | (exfalso; simp at hG_; done) | skip)
                all_goals (repeat' (first
                    | (refine reg_skip hK ?_ rfl; (simp [wantedG, asB, undef, g1_, g2_, g3_]; done))
                    | (refine reg_call hK ?_ rfl Try.func91 (by kernel_rfl) rfl #[.int .i64 (rd_T66 l0 x).f3, .int .i64 0, .int .i64 12000] ?_ ((impl_within.calls _ _ _ _ _ Hwa.out).mono ?_)
                       · first | rfl | (simp [wantedG, asB, undef, g1_, g2_, g3_]; done)
                       · simp [Act.eval, g1_, g2_, g3_]
                       · rintro e_ w'' ⟨rfl, hb_⟩
                         exact ⟨_, rfl, (by first | exact hb_ | exact hb_.below), rfl⟩)
                    | (refine reg_call hK ?_ rfl Try.func91 (by kernel_rfl) rfl #[.int .i64 (rd_T66 l0 x).f4, .int .i64 0, .int .i64 2000] ?_ ((impl_within.calls _ _ _ _ _ Hwz.out).mono ?_)
                       · first | rfl | (simp [wantedG, asB, undef, g1_, g2_, g3_]; done)
                       · simp [Act.eval, g1_, g2_, g3_]
                       · rintro e_ w'' ⟨rfl, hb_⟩
                         exact ⟨_, rfl, (by first | exact hb_ | exact hb_.below), rfl⟩)
                    | cases wz | cases e45 | cases e54))
              · rcases Bool.eq_false_or_eq_true (!(((!e18 || !b) || !kd) || !wa) : Bool) with hG_ | hG_
                rotate_left
                · exact reg_skip hK (by rw [(wanted_f rfl g1_).trans (show _ = (!(((!e18 || !b) || !kd) || !wa) : Bool) by first | rfl | (simp; done)), hG_]; decide) (by show undef = ite _ _ _; rw [hG_]; rfl)
                all_goals (cases b <;> first | (exfalso; simp at hG_; done) | skip)
                all_goals (cases kd <;> first | (exfalso; simp at hG_; done) | skip)
                all_goals (cases wa <;> first | (exfalso; simp at hG_; done) | skip)
                all_goals (cases e18 <;> first | (exfalso; simp at hG_; done) | skip)
                all_goals (repeat' (first
                    | (refine reg_skip hK ?_ rfl; (simp [wantedG, asB, undef, g1_, g2_, g3_]; done))
                    | (refine reg_val hK ?_ ?_ (grow_refl _) rfl
                       · first | rfl | (simp [wantedG, asB, undef, g1_, g2_, g3_]; done)
                       · skip
                         (try (obtain ⟨y1, y2, y3, y4, y5, y6, y7⟩ := HY.out rfl rfl rfl rfl rfl rfl; replace y3 := cellG HB.out hg y3; replace y4 := cellG HB.out hg y4; replace y5 := cellG HB.out hg y5; replace y6 := cellG HB.out hg y6; replace y7 := cellG HB.out hg y7))
                         go_simp
                         done)
                    | cases wz | cases e45 | cases e54))
              · refine reg_pick hK rfl rfl g1_ (or_val ?_ g2_)
                first | rfl | (simp; done)
              · all_goals (repeat' (first
                    | (refine reg_val hK ?_ ?_ (grow_refl _) rfl
                       · first | rfl | (simp [wantedG, asB, undef, g1_, g2_, g3_]; done)
                       · skip
                         (try (obtain ⟨y1, y2, y3, y4, y5, y6, y7⟩ := HY.out rfl rfl rfl rfl rfl rfl; replace y3 := cellG HB.out hg y3; replace y4 := cellG HB.out hg y4; replace y5 := cellG HB.out hg y5; replace y6 := cellG HB.out hg y6; replace y7 := cellG HB.out hg y7))
                         go_simp
                         done)
                    | cases b | cases kd | cases wa | cases wz | cases e45 | cases e18 | cases e54))
              · rcases Bool.eq_false_or_eq_true (!((((!e18 || !b) || !kd) || !wa) || !wz) : Bool) with hG_ | hG_
                rotate_left
                · exact reg_skip hK (by rw [(wanted_f rfl g1_).trans (show _ = (!((((!e18 || !b) || !kd) || !wa) || !wz) : Bool) by first | rfl | (simp; done)), hG_]; decide) (by show undef = ite _ _ _; rw [hG_]; rfl)
                all_goals (cases b <;> first | (exfalso; simp at hG_; done) | skip)
                all_goals (cases kd <;> first | (exfalso; simp at hG_; done) | skip)
                all_goals (cases wa <;> first | (exfalso; simp at hG_; done) | skip)
                all_goals (cases wz <;> first | (exfalso; simp at hG_; done) | skip)
                all_goals (cases e18 <;> first | (exfalso; simp at hG_; done) | skip)
                all_goals (repeat' (first
                    | (refine reg_skip hK ?_ rfl; (simp [wantedG, asB, undef, g1_, g2_, g3_]; done))
                    | (refine reg_val hK ?_ ?_ (grow_refl _) rfl
                       · first | rfl | (simp [wantedG, asB, undef, g1_, g2_, g3_]; done)
                       · skip
                         (try (obtain ⟨y1, y2, y3, y4, y5, y6, y7⟩ := HY.out rfl rfl rfl rfl rfl rfl; replace y3 := cellG HB.out hg y3; replace y4 := cellG HB.out hg y4; replace y5 := cellG HB.out hg y5; replace y6 := cellG HB.out hg y6; replace y7 := cellG HB.out hg y7))
                         go_simp
                         done)
                    | cases e45 | cases e54))
              · rcases Bool.eq_false_or_eq_true (!((((!e18 || !b) || !kd) || !wa) || !wz) : Bool) with hG_ | hG_
                rotate_left
                · exact reg_skip hK (by rw [(wanted_f rfl g1_).trans (show _ = (!((((!e18 || !b) || !kd) || !wa) || !wz) : Bool) by first | rfl | (simp; done)), hG_]; decide) (by show undef = ite _ _ _; rw [hG_]; rfl)
                all_goals (cases b <;> first | (exfalso; simp at hG_; done) | skip)
                all_goals (cases kd <;> first | (exfalso; simp at hG_; done) | skip)
                all_goals (cases wa <;> first | (exfalso; simp at hG_; done) | skip)
                all_goals (cases wz <;> first | (exfalso; simp at hG_; done) | skip)
                all_goals (cases e18 <;> first | (exfalso; simp at hG_; done) | skip)
                all_goals (repeat' (first
                    | (refine reg_skip hK ?_ rfl; (simp [wantedG, asB, undef, g1_, g2_, g3_]; done))
                    | (refine reg_val hK ?_ ?_ (grow_refl _) rfl
                       · first | rfl | (simp [wantedG, asB, undef, g1_, g2_, g3_]; done)
                       · skip
                         (try (obtain ⟨y1, y2, y3, y4, y5, y6, y7⟩ := HY.out rfl rfl rfl rfl rfl rfl; replace y3 := cellG HB.out hg y3; replace y4 := cellG HB.out hg y4; replace y5 := cellG HB.out hg y5; replace y6 := cellG HB.out hg y6; replace y7 := cellG HB.out hg y7))
                         go_simp
                         done)
                    | cases e45 | cases e54))
              · rcases Bool.eq_false_or_eq_true (!((((!e18 || !b) || !kd) || !wa) || !wz) : Bool) with hG_ | hG_
                rotate_left
                · exact reg_skip hK (by rw [(wanted_f rfl g1_).trans (show _ = (!((((!e18 || !b) || !kd) || !wa) || !wz) : Bool) by first | rfl | (simp; done)), hG_]; decide) (by show undef = ite _ _ _; rw [hG_]; rfl)
                all_goals (cases b <;> first | (exfalso; simp at hG_; done) | skip)
                all_goals (cases kd <;> first | (exfalso; simp at hG_; done) | skip)
                all_goals (cases wa <;> first | (exfalso; simp at hG_; done) | skip)
                all_goals (cases wz <;> first | (exfalso; simp at hG_; done) | skip)
                all_goals (cases e18 <;> first | (exfalso; simp at hG_; done) | skip)
                all_goals (repeat' (first
                    | (refine reg_skip hK ?_ rfl; (simp [wantedG, asB, undef, g1_, g2_, g3_]; done))
                    | (refine reg_val hK ?_ ?_ (grow_refl _) rfl
                       · first | rfl | (simp [wantedG, asB, undef, g1_, g2_, g3_]; done)
                       · skip
                         (try (obtain ⟨y1, y2, y3, y4, y5, y6, y7⟩ := HY.out rfl rfl rfl rfl rfl rfl; replace y3 := cellG HB.out hg y3; replace y4 := cellG HB.out hg y4; replace y5 := cellG HB.out hg y5; replace y6 := cellG HB.out hg y6; replace y7 := cellG HB.out hg y7))
                         go_simp
                         done)
                    | cases e45 | cases e54))
              · rcases Bool.eq_false_or_eq_true ((!((((!e18 || !b) || !kd) || !wa) || !wz) && e45) : Bool) with hG_ | hG_
                rotate_left
                · exact reg_skip hK (by rw [(wanted_it rfl g1_).trans (show _ = ((!((((!e18 || !b) || !kd) || !wa) || !wz) && e45) : Bool) by first | rfl | (simp; done)), hG_]; decide) (by show undef = ite _ _ _; rw [hG_]; rfl)
                all_goals (cases b <;> first | (exfalso; simp at hG_; done) | skip)
                all_goals (cases kd <;> first | (exfalso; simp at hG_; done) | skip)
                all_goals (cases wa <;> first | (exfalso; simp at hG_; done) | skip)
                all_goals (cases wz <;> first | (exfalso; simp at hG_; done) | skip)
                all_goals (cases e45 <;> first | (exfalso; simp at hG_; done) | skip)
                all_goals (cases e18 <;> first | (exfalso; simp at hG_; done) | skip)
                all_goals (repeat' (first
                    | (refine reg_skip hK ?_ rfl; (simp [wantedG, asB, undef, g1_, g2_, g3_]; done))
                    | (refine reg_val hK ?_ ?_ (grow_refl _) rfl
                       · first | rfl | (simp [wantedG, asB, undef, g1_, g2_, g3_]; done)
                       · skip
                         (try (obtain ⟨y1, y2, y3, y4, y5, y6, y7⟩ := HY.out rfl rfl rfl rfl rfl rfl; replace y3 := cellG HB.out hg y3; replace y4 := cellG HB.out hg y4; replace y5 := cellG HB.out hg y5; replace y6 := cellG HB.out hg y6; replace y7 := cellG HB.out hg y7))
                         go_simp
                         done)
                    | cases e54))
              · rcases Bool.eq_false_or_eq_true ((!((((!e18 || !b) || !kd) || !wa) || !wz) && e45) : Bool) with hG_ | hG_
                rotate_left
                · exact reg_skip hK (by rw [(wanted_it rfl g1_).trans (show _ = ((!((((!e18 || !b) || !kd) || !wa) || !wz) && e45) : Bool) by first | rfl | (simp; done)), hG_]; decide) (by show undef = ite _ _ _; rw [hG_]; rfl)
                all_goals (cases b <;> first | (exfalso; simp at hG_; done) | skip)
                all_goals (cases kd <;> first | (exfalso; simp at hG_; done) | skip)
                all_goals (cases wa <;> first | (exfalso; simp at hG_; done) | skip)
                all_goals (cases wz <;> first | (exfalso; simp at hG_; done) | skip)
                all_goals (cases e45 <;> first | (exfalso; simp at hG_; done) | skip)
                all_goals (cases e18 <;> first | (exfalso; simp at hG_; done) | skip)
                all_goals (repeat' (first
                    | (refine reg_skip hK ?_ rfl; (simp [wantedG, asB, undef, g1_, g2_, g3_]; done))
                    | (refine reg_val hK ?_ ?_ (grow_refl _) rfl
                       · first | rfl | (simp [wantedG, asB, undef, g1_, g2_, g3_]; done)
                       · skip
                         (try (obtain ⟨y1, y2, y3, y4, y5, y6, y7⟩ := HY.out rfl rfl rfl rfl rfl rfl; replace y3 := cellG HB.out hg y3; replace y4 := cellG HB.out hg y4; replace y5 := cellG HB.out hg y5; replace y6 := cellG HB.out hg y6; replace y7 := cellG HB.out hg y7))
                         go_simp
                         done)
                    | cases e54))
              · rcases Bool.eq_false_or_eq_true ((!((((!e18 || !b) || !kd) || !wa) || !wz) && e45) : Bool) with hG_ | hG_
                rotate_left
                · exact reg_skip hK (by rw [(wanted_it rfl g1_).trans (show _ = ((!((((!e18 || !b) || !kd) || !wa) || !wz) && e45) : Bool) by first | rfl | (simp; done)), hG_]; decide) (by show undef = ite _ _ _; rw [hG_]; rfl)
                all_goals (cases b <;> first | (exfalso; simp at hG_; done) | skip)
                all_goals (cases kd <;> first | (exfalso; simp at hG_; done) | skip)
                all_goals (cases wa <;> first | (exfalso; simp at hG_; done) | skip)
                all_goals (cases wz <;> first | (exfalso; simp at hG_; done) | skip)
                all_goals (cases e45 <;> first | (exfalso; simp at hG_; done) | skip)
                all_goals (cases e18 <;> first | (exfalso; simp at hG_; done) | skip)
                all_goals (repeat' (first
                    | (refine reg_skip hK ?_ rfl; (simp [wantedG, asB, undef, g1_, g2_, g3_]; done))
                    | (refine reg_val hK ?_ ?_ (grow_refl _) rfl
                       · first | rfl | (simp [wantedG, asB, undef, g1_, g2_, g3_]; done)
                       · skip
                         (try (obtain ⟨y1, y2, y3, y4, y5, y6, y7⟩ := HY.out rfl rfl rfl rfl rfl rfl; replace y3 := cellG HB.out hg y3; replace y4 := cellG HB.out hg y4; replace y5 := cellG HB.out hg y5; replace y6 := cellG HB.out hg y6; replace y7 := cellG HB.out hg y7))
                         go_simp
                         done)
                    | cases e54))
              · rcases Bool.eq_false_or_eq_true ((!((((!e18 || !b) || !kd) || !wa) || !wz) && e45) : Bool) with hG_ | hG_
                rotate_left
                · exact reg_skip hK (by rw [(wanted_it rfl g1_).trans (show _ = ((!((((!e18 || !b) || !kd) || !wa) || !wz) && e45) : Bool) by first | rfl | (simp; done)), hG_]; decide) (by show undef = ite _ _ _; rw [hG_]; rfl)
                all_goals (cases b <;> first | (exfalso; simp at hG_; done) | skip)
                all_goals (cases kd <;> first | (exfalso; simp at hG_; done) | skip)
                all_goals (cases wa <;> first | (exfalso; simp at hG_; done) | skip)
                all_goals (cases wz <;> first | (exfalso; simp at hG_; done) | skip)
                all_goals (cases e45 <;> first | (exfalso; simp at hG_; done) | skip)
                all_goals (cases e18 <;> first | (exfalso; simp at hG_; done) | skip)
                all_goals (repeat' (first
                    | (refine reg_skip hK ?_ rfl; (simp [wantedG, asB, undef, g1_, g2_, g3_]; done))
                    | (refine reg_val hK ?_ ?_ (grow_refl _) rfl
                       · first | rfl | (simp [wantedG, asB, undef, g1_, g2_, g3_]; done)
                       · skip
                         (try (obtain ⟨y1, y2, y3, y4, y5, y6, y7⟩ := HY.out rfl rfl rfl rfl rfl rfl; replace y3 := cellG HB.out hg y3; replace y4 := cellG HB.out hg y4; replace y5 := cellG HB.out hg y5; replace y6 := cellG HB.out hg y6; replace y7 := cellG HB.out hg y7))
                         go_simp
                         done)
                    | cases e54))
              · rcases Bool.eq_false_or_eq_true ((!((((!e18 || !b) || !kd) || !wa) || !wz) && e45) : Bool) with hG_ | hG_
                rotate_left
                · exact reg_skip hK (by rw [(wanted_it rfl g1_).trans (show _ = ((!((((!e18 || !b) || !kd) || !wa) || !wz) && e45) : Bool) by first | rfl | (simp; done)), hG_]; decide) (by show undef = ite _ _ _; rw [hG_]; rfl)
                all_goals (cases b <;> first | (exfalso; simp at hG_; done) | skip)
                all_goals (cases kd <;> first | (exfalso; simp at hG_; done) | skip)
                all_goals (cases wa <;> first | (exfalso; simp at hG_; done) | skip)
                all_goals (cases wz <;> first | (exfalso; simp at hG_; done) | skip)
                all_goals (cases e45 <;> first | (exfalso; simp at hG_; done) | skip)
                all_goals (cases e18 <;> first | (exfalso; simp at hG_; done) | skip)
                all_goals (repeat' (first
                    | (refine reg_skip hK ?_ rfl; (simp [wantedG, asB, undef, g1_, g2_, g3_]; done))
                    | (refine reg_val hK ?_ ?_ (grow_refl _) rfl
                       · first | rfl | (simp [wantedG, asB, undef, g1_, g2_, g3_]; done)
                       · skip
                         (try (obtain ⟨y1, y2, y3, y4, y5, y6, y7⟩ := HY.out rfl rfl rfl rfl rfl rfl; replace y3 := cellG HB.out hg y3; replace y4 := cellG HB.out hg y4; replace y5 := cellG HB.out hg y5; replace y6 := cellG HB.out hg y6; replace y7 := cellG HB.out hg y7))
                         go_simp
                         done)
                    | cases e54))
              · rcases Bool.eq_false_or_eq_true ((!((((!e18 || !b) || !kd) || !wa) || !wz) && e45) : Bool) with hG_ | hG_
                rotate_left
                · exact reg_skip hK (by rw [(wanted_it rfl g1_).trans (show _ = ((!((((!e18 || !b) || !kd) || !wa) || !wz) && e45) : Bool) by first | rfl | (simp; done)), hG_]; decide) (by show undef = ite _ _ _; rw [hG_]; rfl)
                all_goals (cases b <;> first | (exfalso; simp at hG_; done) | skip)
                all_goals (cases kd <;> first | (exfalso; simp at hG_; done) | skip)
                all_goals (cases wa <;> first | (exfalso; simp at hG_; done) | skip)
                all_goals (cases wz <;> first | (exfalso; simp at hG_; done) | skip)
                all_goals (cases e45 <;> first | (exfalso; simp at hG_; done) | skip)
                all_goals (cases e18 <;> first | (exfalso; simp at hG_; done) | skip)
                all_goals (repeat' (first
                    | (refine reg_skip hK ?_ rfl; (simp [wantedG, asB, undef, g1_, g2_, g3_]; done))
                    | (refine reg_val hK ?_ ?_ (grow_refl _) rfl
                       · first | rfl | (simp [wantedG, asB, undef, g1_, g2_, g3_]; done)
                       · skip
                         (try (obtain ⟨y1, y2, y3, y4, y5, y6, y7⟩ := HY.out rfl rfl rfl rfl rfl rfl; replace y3 := cellG HB.out hg y3; replace y4 := cellG HB.out hg y4; replace y5 := cellG HB.out hg y5; replace y6 := cellG HB.out hg y6; replace y7 := cellG HB.out hg y7))
                         go_simp
                         done)
                    | cases e54))
              · rcases Bool.eq_false_or_eq_true ((!((((!e18 || !b) || !kd) || !wa) || !wz) && e45) : Bool) with hG_ | hG_
                rotate_left
                · exact reg_skip hK (by rw [(wanted_it rfl g1_).trans (show _ = ((!((((!e18 || !b) || !kd) || !wa) || !wz) && e45) : Bool) by first | rfl | (simp; done)), hG_]; decide) (by show undef = ite _ _ _; rw [hG_]; rfl)
                all_goals (cases b <;> first | (exfalso; simp at hG_; done) | skip)
                all_goals (cases kd <;> first | (exfalso; simp at hG_; done) | skip)
                all_goals (cases wa <;> first | (exfalso; simp at hG_; done) | skip)
                all_goals (cases wz <;> first | (exfalso; simp at hG_; done) | skip)
                all_goals (cases e45 <;> first | (exfalso; simp at hG_; done) | skip)
                all_goals (cases e18 <;> first | (exfalso; simp at hG_; done) | skip)
                all_goals (repeat' (first
                    | (refine reg_skip hK ?_ rfl; (simp [wantedG, asB, undef, g1_, g2_, g3_]; done))
                    | (refine reg_call hK ?_ rfl Try.func68 (by kernel_rfl) rfl #[.agg #[.string (rd_T66 l0 y).f0, .string (rd_T66 l0 y).f1, .int .i64 (rd_T66 l0 y).f2, .int .i64 (rd_T66 l0 y).f3, .int .i64 (rd_T66 l0 y).f4], .agg #[.string (rd_T66 l0 x).f0, .string (rd_T66 l0 x).f1, .int .i64 (rd_T66 l0 x).f2, .int .i64 (rd_T66 l0 x).f3, .int .i64 (rd_T66 l0 x).f4]] ?_ ((impl_Place_compare.calls k1 _ _ _ _ _ _ _ _ _ _ _ _ (Hc.out rfl rfl rfl rfl rfl rfl).2.2).mono ?_)
                       · first | rfl | (simp [wantedG, asB, undef, g1_, g2_, g3_]; done)
                       · simp [Act.eval, g1_, g2_, g3_]
                       · rintro e_ w'' ⟨rfl, hb_⟩
                         exact ⟨_, rfl, (by first | exact hb_ | exact hb_.below), rfl⟩)
                    | cases e54))
              · rcases Bool.eq_false_or_eq_true ((!((((!e18 || !b) || !kd) || !wa) || !wz) && e45) : Bool) with hG_ | hG_
                rotate_left
                · exact reg_skip hK (by rw [(wanted_it rfl g1_).trans (show _ = ((!((((!e18 || !b) || !kd) || !wa) || !wz) && e45) : Bool) by first | rfl | (simp; done)), hG_]; decide) (by show undef = ite _ _ _; rw [hG_]; rfl)
                all_goals (cases b <;> first | (exfalso; simp at hG_; done) | skip)
                all_goals (cases kd <;> first | (exfalso; simp at hG_; done) | skip)
                all_goals (cases wa <;> first | (exfalso; simp at hG_; done) | skip)
                all_goals (cases wz <;> first | (exfalso; simp at hG_; done) | skip)
                all_goals (cases e45 <;> first | (exfalso; simp at hG_; done) | skip)
                all_goals (cases e18 <;> first | (exfalso; simp at hG_; done) | skip)
                all_goals (repeat' (first
                    | (refine reg_skip hK ?_ rfl; (simp [wantedG, asB, undef, g1_, g2_, g3_]; done))
                    | (refine reg_val hK ?_ ?_ (grow_refl _) rfl
                       · first | rfl | (simp [wantedG, asB, undef, g1_, g2_, g3_]; done)
                       · skip
                         (try (obtain ⟨y1, y2, y3, y4, y5, y6, y7⟩ := HY.out rfl rfl rfl rfl rfl rfl; replace y3 := cellG HB.out hg y3; replace y4 := cellG HB.out hg y4; replace y5 := cellG HB.out hg y5; replace y6 := cellG HB.out hg y6; replace y7 := cellG HB.out hg y7))
                         go_simp
                         done)
                    | cases e54))
              · rcases Bool.eq_false_or_eq_true (!((((!e18 || !b) || !kd) || !wa) || !wz) : Bool) with hG_ | hG_
                rotate_left
                · exact reg_skip hK (by rw [(wanted_f rfl g1_).trans (show _ = (!((((!e18 || !b) || !kd) || !wa) || !wz) : Bool) by first | rfl | (simp; done)), hG_]; decide) (by show undef = ite _ _ _; rw [hG_]; rfl)
                all_goals (cases b <;> first | (exfalso; simp at hG_; done) | skip)
                all_goals (cases kd <;> first | (exfalso; simp at hG_; done) | skip)
                all_goals (cases wa <;> first | (exfalso; simp at hG_; done) | skip)
                all_goals (cases wz <;> first | (exfalso; simp at hG_; done) | skip)
                all_goals (cases e18 <;> first | (exfalso; simp at hG_; done) | skip)
                all_goals (repeat' (first
                    | (refine reg_skip hK ?_ rfl; (simp [wantedG, asB, undef, g1_, g2_, g3_]; done))
                    | (refine reg_val hK ?_ ?_ (grow_refl _) rfl
                       · first | rfl | (simp [wantedG, asB, undef, g1_, g2_, g3_]; done)
                       · skip
                         (try (obtain ⟨y1, y2, y3, y4, y5, y6, y7⟩ := HY.out rfl rfl rfl rfl rfl rfl; replace y3 := cellG HB.out hg y3; replace y4 := cellG HB.out hg y4; replace y5 := cellG HB.out hg y5; replace y6 := cellG HB.out hg y6; replace y7 := cellG HB.out hg y7))
                         go_simp
                         done)
                    | cases e45 | cases e54))
              · refine reg_pick hK rfl rfl g1_ (or_val ?_ g2_)
                first | rfl | (simp; done)
            case hE6 =>
              intro us w' hg hd
              have hZ : us 41 = .bool (((((!e18 || !b) || !kd) || !wa) || !wz) || (e45 && e54)) := allR_get hd (by kernel_rfl)
              clear hd
              replace HB := AM (below_grow HB.out hg)
              clear hyw hs0 hs1 hs2 hs3 hs4 hg
              have HH : ((((((!e18 || !b) || !kd) || !wa) || !wz) || (e45 && e54)) = true ∧ r = false) ∨ ((((((!e18 || !b) || !kd) || !wa) || !wz) || (e45 && e54)) = false ∧ impl_PlacesRight.l0 k1 l0 l0 (l0.length : Int) (wrap64 (x + 1)) = some r) := by
                have H := Hfin.out
                rw [he54] at H
                clear hZ HB Hb HL HY HR0 Hfin Hc Hkd Hwa Hwz
                cases e18 <;> cases b <;> cases kd <;> cases wa <;> cases wz <;> cases e45 <;> cases e54 <;> simp at H ⊢ <;> exact H
              rcases HH with ⟨hq, rfl⟩ | ⟨hq, H1⟩
              · rw [hq] at hZ
                rw [hZ]
                clear hZ he18 he45 he54 he18b he18m he18n
                go_wp2
                go_ret
                exact ⟨rfl, HB.out⟩
              · rw [hq] at hZ
                rw [hZ]
                replace H1 := AM H1
                clear hZ he18 he45 he54 he18b he18m he18n
                go_wp2
                go_roundg k1
                case measure => have := HK1.out; omega
                case rel => exact ⟨(wrap64 (x + 1)), (by first | rfl | (simp; done) | (simp [*]; done)), H1, ⟨by have := HK1.out; omega⟩, HB⟩
          · have H := HA.out
            simp only [impl_PlacesRight.l0] at H
            rw [if_pos c3, if_neg c4] at H
            exact absurd H (by simp)
        · have H := HA.out
          simp only [impl_PlacesRight.l0] at H
          rw [if_neg c3] at H
          have c3b0 : decide (x < (l0.length : Int)) = false := decide_eq_false c3
          clear c3 HA
          obtain rfl := Option.some.inj H
          go_wp2
          go_ret
          exact ⟨rfl, HB.out⟩

end Go.Proofs.Ytggbpjfgfenpdaa.PFnExactPlacesDrop
