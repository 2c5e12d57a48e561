-- A program of this session wrote this text: a changed copy of the kit print, with given functions.
import Derived.Test.YtdbnajnelbebfaaPFnExactObjectNamesx0
import Derived.Test.YtdbnajnelbebfaaPFnExactObjectNamesx16
namespace Go.Proofs.Ytdbnajnelbebfaa.PFnExactObjectNames
open Go.RowKit Go.Proofs.YtdbnajnelbebfaaW.PrintWords Go.Proofs.YtdbnajnelbebfaaW.PrintLast Go.Proofs.YtdbnajnelbebfaaW.PrintMore Go.Proofs.Ytdbnajnelbebfaa.Aut
attribute [local go_sem] max2_int min2_int max_two min_two max_three min_three max_four min_four   -- for this text's walks alone
set_option linter.unusedVariables false
set_option linter.unusedSimpArgs false

/-! ### laws_eqStoredS: function 194 -/
def laws_eqStoredS.l0 : Nat → List (S194) → List (S194) → Int → Option (Bool)
  | 0, _, _, _ => none
  | k + 1, x0, x1, x5 => if x5 < (x0.length : Int) then (if 0 ≤ x5 then (if x5 < (x1.length : Int) then ((laws_eqStored.f ((rd_T194 x0 x5).f0) ((rd_T194 x0 x5).f1) ((rd_T194 x0 x5).f2) ((rd_T194 x1 x5).f0) ((rd_T194 x1 x5).f1) ((rd_T194 x1 x5).f2)).bind fun t392 => (if t392 = true then (laws_eqStoredS.l0 k x0 x1 (wrap64 (x5 + 1))) else (some false))) else (none)) else (none)) else (some true)
def laws_eqStoredS.f (k : Nat) (l0 : List (S194)) (l1 : List (S194)) : Option (Bool) := if (l0.length : Int) = (l1.length : Int) then (laws_eqStoredS.l0 k l0 l1 0) else (some false)
theorem laws_eqStoredS.mono_l : ∀ k, (∀ y0 y1 y2, LeO (laws_eqStoredS.l0 k y0 y1 y2) (laws_eqStoredS.l0 (k + 1) y0 y1 y2))
  | 0 => fun _ _ _ r h => by simp [laws_eqStoredS.l0] at h
  | k + 1 => by
    have ih0 := laws_eqStoredS.mono_l k
    · intro y0 y1 y2
      unfold laws_eqStoredS.l0
      repeat' first
      | (with_reducible exact ih0 _ _ _)
      | (with_reducible exact LeO.refl _)
      | (with_reducible exact LeO.none _)
      | (with_reducible refine LeO.ite ?_ ?_)
      | (with_reducible refine LeO.bind ?_ (fun _ => ?_))
      | exact ih0 _ _ _
      | exact LeO.none _
      | refine LeO.ite ?_ ?_
      | refine LeO.bind ?_ (fun _ => ?_)
theorem laws_eqStoredS.mono : ∀ a0 a1 k, LeO (laws_eqStoredS.f k a0 a1) (laws_eqStoredS.f (k + 1) a0 a1) := by
  intro a0 a1 k
  have ih0 := laws_eqStoredS.mono_l k
  unfold laws_eqStoredS.f
  repeat' first
      | (with_reducible exact ih0 _ _ _)
      | (with_reducible exact LeO.refl _)
      | (with_reducible exact LeO.none _)
      | (with_reducible refine LeO.ite ?_ ?_)
      | (with_reducible refine LeO.bind ?_ (fun _ => ?_))
      | exact ih0 _ _ _
      | exact LeO.none _
      | refine LeO.ite ?_ ?_
      | refine LeO.bind ?_ (fun _ => ?_)
def laws_eqStoredS.T6 : Bool × List (List Nat × List Nat) := (true, [([], []), ([], []), ([0, 1], [0, 1]), ([2], [2]), ([], []), ([], []), ([4, 5], [4, 5]), ([6], [6]), ([3, 7], [3, 7]), ([8], [8])])
def laws_eqStoredS.B6 : List Nat := [0, 0, 3, 7, 0, 0, 48, 112, 255, 511]
theorem laws_eqStoredS.tab6 : rtab .any (opsOf Try.f194 6) = laws_eqStoredS.T6 := by kernel_rfl
theorem laws_eqStoredS.bits6 : waitsOk laws_eqStoredS.T6.2 laws_eqStoredS.B6 = true := by kernel_rfl
set_option maxHeartbeats 8000000 in
set_option maxRecDepth 100000 in
theorem laws_eqStoredS.calls (k : Nat) (A0 : Option Addr) (c0 : Nat) (l0 : List (S194)) (A1 : Option Addr) (c1 : Nat) (l1 : List (S194)) (r : Bool) (w : World) (hr0 : Kd.C k194 w A0 l0.length l0) (hc0 : l0.length ≤ c0) (hr1 : Kd.C k194 w A1 l1.length l1) (hc1 : l1.length ≤ c1) (h : laws_eqStoredS.f k l0 l1 = some r) :
    Calls Try.prog 194 #[.slice A0 l0.length c0, .slice A1 l1.length c1] w fun e w' => e = .returned (.bool r) ∧ Below w.heap.size w w' := by
  have hu194 := Try.underlying194
  have HR0 := AM hr0
  have HC0 := AM hc0
  clear hr0 hc0
  have HR1 := AM hr1
  have HC1 := AM hc1
  clear hr1 hc1
  have HB := AM (Below.refl w.heap.size w)
  have H : (if (l0.length : Int) = (l1.length : Int) then (laws_eqStoredS.l0 k l0 l1 0) else (some false)) = some r := h
  clear h
  by_cases c3 : (l0.length : Int) = (l1.length : Int)
  · rw [if_pos c3] at H
    have c3b0 : ((l0.length : Int) == (l1.length : Int)) = true := beq_iff_eq.mpr c3
    have c3b1 : ((l0.length : Int) != (l1.length : Int)) = false := bne_eq_false_iff_eq.mpr c3
    have c3b2 : (l0.length == l1.length) = true := by first | simpa using c3 | (simp at c3 ⊢; omega)
    clear c3
    have H' := AM H
    clear H
    go_enter Try.func194, Try.ntmps194
    go_wp2
    go_loopg [5] k (fun kq v5 w' => ∃ (x5_1 : Int), v5 = .int .i64 x5_1 ∧ Aside0 (laws_eqStoredS.l0 kq l0 l1 x5_1 = some r) ∧ Aside0 (kq ≤ k) ∧ Aside0 (Below w.heap.size w w'))
    case atStart => exact ⟨(0), (by first | rfl | (simp; done) | (simp [*]; done)), H', ⟨Nat.le_refl _⟩, ⟨bel_⟩⟩
    case round =>
      clear H'
      try clear c1
      try clear p2
      try clear c3
      try clear c3b0
      try clear c3b1
      try clear c3b2
      obtain ⟨x5_1, rfl, HA, HK1, HB⟩ := hrel
      cases gk with
      | zero => exact absurd HA.out (by simp [laws_eqStoredS.l0])
      | succ k1 =>
        have H := HA.out
        clear HA
        simp only [laws_eqStoredS.l0] at H
        by_cases c4 : x5_1 < (l0.length : Int)
        · rw [if_pos c4] at H
          have c4b0 : decide (x5_1 < (l0.length : Int)) = true := decide_eq_true c4
          clear c4
          by_cases c5 : 0 ≤ x5_1
          · rw [if_pos c5] at H
            have c5b0 : decide (0 ≤ x5_1) = true := decide_eq_true c5
            clear c5
            by_cases c6 : x5_1 < (l1.length : Int)
            · rw [if_pos c6] at H
              have c6b0 : decide (x5_1 < (l1.length : Int)) = true := decide_eq_true c6
              clear c6
              obtain ⟨t392, A7, H⟩ := OB H
              try dsimp only at H
              replace A7 := AM A7
              by_cases c8 : t392 = true
              · subst c8
                rw [if_pos rfl] at H
                have H' := AM H
                clear H
                try go_wp2
                replace HB := AM (below_drew1 HB.out)
                have p390 : 0 ≤ (x5_1 : Int) := of_decide_eq_true (by first | (with_reducible assumption) | assumption)
                have q390 : x5_1 < (l0.length : Int) := of_decide_eq_true (by first | (with_reducible assumption) | assumption)
                obtain ⟨ad390, e390, hx390_0, hx390_1, hx390_2⟩ := at_T194 HR0.out x5_1 p390 q390
                have hw390_2 := hx390_2
                have hw390_1 := hx390_1
                have hw390_0 := hx390_0
                cases e390
                replace hx390_0 := (HB.out.cell (World.block_lt_of_cell? w _ hx390_0)).trans hx390_0
                replace hx390_1 := (HB.out.cell (World.block_lt_of_cell? w _ hx390_1)).trans hx390_1
                replace hx390_2 := (HB.out.cell (World.block_lt_of_cell? w _ hx390_2)).trans hx390_2
                replace p390 := eq_true p390
                replace q390 := eq_true q390
                have p391 : 0 ≤ (x5_1 : Int) := of_decide_eq_true (by first | (with_reducible assumption) | assumption)
                have q391 : x5_1 < (l1.length : Int) := of_decide_eq_true (by first | (with_reducible assumption) | assumption)
                obtain ⟨ad391, e391, hx391_0, hx391_1, hx391_2⟩ := at_T194 HR1.out x5_1 p391 q391
                have hw391_2 := hx391_2
                have hw391_1 := hx391_1
                have hw391_0 := hx391_0
                cases e391
                replace hx391_0 := (HB.out.cell (World.block_lt_of_cell? w _ hx391_0)).trans hx391_0
                replace hx391_1 := (HB.out.cell (World.block_lt_of_cell? w _ hx391_1)).trans hx391_1
                replace hx391_2 := (HB.out.cell (World.block_lt_of_cell? w _ hx391_2)).trans hx391_2
                replace p391 := eq_true p391
                replace q391 := eq_true q391
                refine start_ (n := 10) (S := fun w' => w'.cell? (ad390.add ((x5_1).toNat * 3)) = some (.string ((rd_T194 l0 x5_1).f0)) ∧ w'.cell? ⟨(ad390.add ((x5_1).toNat * 3)).block, (ad390.add ((x5_1).toNat * 3)).off + 1, none⟩ = some (.string ((rd_T194 l0 x5_1).f1)) ∧ w'.cell? ⟨(ad390.add ((x5_1).toNat * 3)).block, (ad390.add ((x5_1).toNat * 3)).off + 2, none⟩ = some (.int .i64 ((rd_T194 l0 x5_1).f2)) ∧ w'.cell? (ad391.add ((x5_1).toNat * 3)) = some (.string ((rd_T194 l1 x5_1).f0)) ∧ w'.cell? ⟨(ad391.add ((x5_1).toNat * 3)).block, (ad391.add ((x5_1).toNat * 3)).off + 1, none⟩ = some (.string ((rd_T194 l1 x5_1).f1)) ∧ w'.cell? ⟨(ad391.add ((x5_1).toNat * 3)).block, (ad391.add ((x5_1).toNat * 3)).off + 2, none⟩ = some (.int .i64 ((rd_T194 l1 x5_1).f2))) (ds := []) #[false, false, false, false, false, false, false, false, false, false] (by kernel_rfl) rfl rfl ⟨((HB.out.cell (World.block_lt_of_cell? w _ hw390_0)).trans hw390_0), ((HB.out.cell (World.block_lt_of_cell? w _ hw390_1)).trans hw390_1), ((HB.out.cell (World.block_lt_of_cell? w _ hw390_2)).trans hw390_2), ((HB.out.cell (World.block_lt_of_cell? w _ hw391_0)).trans hw391_0), ((HB.out.cell (World.block_lt_of_cell? w _ hw391_1)).trans hw391_1), ((HB.out.cell (World.block_lt_of_cell? w _ hw391_2)).trans hw391_2)⟩ (fun hHeld => ?_); refine with_tabW laws_eqStoredS.tab6 laws_eqStoredS.bits6 (fun HT_ HW_ => ?_)
                generalize wr.drew = w9 at HB hx390_0 hx390_1 hx390_2 hx391_0 hx391_1 hx391_2 hHeld ⊢
                refine pu_ HT_ 0 (some 17) #[true, false, false, false, false, false, false, false, false, false] ?_
                refine pu_ HT_ 1 (some 18) #[true, true, false, false, false, false, false, false, false, false] ?_
                refine pu_ HT_ 2 (some 19) #[true, true, true, false, false, false, false, false, false, false] ?_
                refine pu_ HT_ 4 (some 21) #[true, true, true, false, true, false, false, false, false, false] ?_
                refine pu_ HT_ 5 (some 22) #[true, true, true, false, true, true, false, false, false, false] ?_
                refine pu_ HT_ 6 (some 23) #[true, true, true, false, true, true, true, false, false, false] ?_
                refine ta_ HT_ HW_ 3 (some 20) #[true, true, true, true, true, true, true, false, false, false] hHeld ?_
                refine ta_ HT_ HW_ 7 (some 24) #[true, true, true, true, true, true, true, true, false, false] hHeld ?_
                refine on_ HT_ 8 (some 25) #[true, true, true, true, true, true, true, true, true, false] (fun K hK => ?_)
                refine go1_ Try.func214 #[.agg #[.string ((rd_T194 l0 x5_1).f0), .string ((rd_T194 l0 x5_1).f1), .int .i64 ((rd_T194 l0 x5_1).f2)], .agg #[.string ((rd_T194 l1 x5_1).f0), .string ((rd_T194 l1 x5_1).f1), .int .i64 ((rd_T194 l1 x5_1).f2)]] ?_
                with_reducible refine (laws_eqStored.calls ((rd_T194 l0 x5_1).f0) ((rd_T194 l0 x5_1).f1) ((rd_T194 l0 x5_1).f2) ((rd_T194 l1 x5_1).f0) ((rd_T194 l1 x5_1).f1) ((rd_T194 l1 x5_1).f2) true _ A7.out).mono ?_
                rintro e w10 ⟨rfl, hb⟩
                refine ⟨_, rfl, ?_⟩
                replace HB := AM (below_step bel_ hb)
                (try clear hb)
                (try clear hb2)
                (try clear hk)
                (try clear hi)
                refine hK.out _ _ ⟨((HB.out.cell (World.block_lt_of_cell? w _ hw390_0)).trans hw390_0), ((HB.out.cell (World.block_lt_of_cell? w _ hw390_1)).trans hw390_1), ((HB.out.cell (World.block_lt_of_cell? w _ hw390_2)).trans hw390_2), ((HB.out.cell (World.block_lt_of_cell? w _ hw391_0)).trans hw391_0), ((HB.out.cell (World.block_lt_of_cell? w _ hw391_1)).trans hw391_1), ((HB.out.cell (World.block_lt_of_cell? w _ hw391_2)).trans hw391_2)⟩ (fun hHeld => ?_)
                clear hK K
                refine nm_ ?_
                refine pu_ HT_ 9 (some 26) #[true, true, true, true, true, true, true, true, true, true] ?_
                refine dn_ HT_ ?_
                try go_wp2
                go_roundg k1
                case measure => have := HK1.out; omega
                case rel => exact ⟨(wrap64 (x5_1 + 1)), (by first | rfl | (simp; done) | (simp [*]; done)), H', ⟨by have := HK1.out; omega⟩, ⟨bel_⟩⟩
              · replace c8 := Bool.eq_false_iff.mpr c8
                subst c8
                rw [if_neg (show ¬ (false = true) by decide)] at H
                obtain rfl := Option.some.inj H
                try go_wp2
                replace HB := AM (below_drew1 HB.out)
                have p390 : 0 ≤ (x5_1 : Int) := of_decide_eq_true (by first | (with_reducible assumption) | assumption)
                have q390 : x5_1 < (l0.length : Int) := of_decide_eq_true (by first | (with_reducible assumption) | assumption)
                obtain ⟨ad390, e390, hx390_0, hx390_1, hx390_2⟩ := at_T194 HR0.out x5_1 p390 q390
                have hw390_2 := hx390_2
                have hw390_1 := hx390_1
                have hw390_0 := hx390_0
                cases e390
                replace hx390_0 := (HB.out.cell (World.block_lt_of_cell? w _ hx390_0)).trans hx390_0
                replace hx390_1 := (HB.out.cell (World.block_lt_of_cell? w _ hx390_1)).trans hx390_1
                replace hx390_2 := (HB.out.cell (World.block_lt_of_cell? w _ hx390_2)).trans hx390_2
                replace p390 := eq_true p390
                replace q390 := eq_true q390
                have p391 : 0 ≤ (x5_1 : Int) := of_decide_eq_true (by first | (with_reducible assumption) | assumption)
                have q391 : x5_1 < (l1.length : Int) := of_decide_eq_true (by first | (with_reducible assumption) | assumption)
                obtain ⟨ad391, e391, hx391_0, hx391_1, hx391_2⟩ := at_T194 HR1.out x5_1 p391 q391
                have hw391_2 := hx391_2
                have hw391_1 := hx391_1
                have hw391_0 := hx391_0
                cases e391
                replace hx391_0 := (HB.out.cell (World.block_lt_of_cell? w _ hx391_0)).trans hx391_0
                replace hx391_1 := (HB.out.cell (World.block_lt_of_cell? w _ hx391_1)).trans hx391_1
                replace hx391_2 := (HB.out.cell (World.block_lt_of_cell? w _ hx391_2)).trans hx391_2
                replace p391 := eq_true p391
                replace q391 := eq_true q391
                refine start_ (n := 10) (S := fun w' => w'.cell? (ad390.add ((x5_1).toNat * 3)) = some (.string ((rd_T194 l0 x5_1).f0)) ∧ w'.cell? ⟨(ad390.add ((x5_1).toNat * 3)).block, (ad390.add ((x5_1).toNat * 3)).off + 1, none⟩ = some (.string ((rd_T194 l0 x5_1).f1)) ∧ w'.cell? ⟨(ad390.add ((x5_1).toNat * 3)).block, (ad390.add ((x5_1).toNat * 3)).off + 2, none⟩ = some (.int .i64 ((rd_T194 l0 x5_1).f2)) ∧ w'.cell? (ad391.add ((x5_1).toNat * 3)) = some (.string ((rd_T194 l1 x5_1).f0)) ∧ w'.cell? ⟨(ad391.add ((x5_1).toNat * 3)).block, (ad391.add ((x5_1).toNat * 3)).off + 1, none⟩ = some (.string ((rd_T194 l1 x5_1).f1)) ∧ w'.cell? ⟨(ad391.add ((x5_1).toNat * 3)).block, (ad391.add ((x5_1).toNat * 3)).off + 2, none⟩ = some (.int .i64 ((rd_T194 l1 x5_1).f2))) (ds := []) #[false, false, false, false, false, false, false, false, false, false] (by kernel_rfl) rfl rfl ⟨((HB.out.cell (World.block_lt_of_cell? w _ hw390_0)).trans hw390_0), ((HB.out.cell (World.block_lt_of_cell? w _ hw390_1)).trans hw390_1), ((HB.out.cell (World.block_lt_of_cell? w _ hw390_2)).trans hw390_2), ((HB.out.cell (World.block_lt_of_cell? w _ hw391_0)).trans hw391_0), ((HB.out.cell (World.block_lt_of_cell? w _ hw391_1)).trans hw391_1), ((HB.out.cell (World.block_lt_of_cell? w _ hw391_2)).trans hw391_2)⟩ (fun hHeld => ?_); refine with_tabW laws_eqStoredS.tab6 laws_eqStoredS.bits6 (fun HT_ HW_ => ?_)
                generalize wr.drew = w11 at HB hx390_0 hx390_1 hx390_2 hx391_0 hx391_1 hx391_2 hHeld ⊢
                refine pu_ HT_ 0 (some 17) #[true, false, false, false, false, false, false, false, false, false] ?_
                refine pu_ HT_ 1 (some 18) #[true, true, false, false, false, false, false, false, false, false] ?_
                refine pu_ HT_ 2 (some 19) #[true, true, true, false, false, false, false, false, false, false] ?_
                refine pu_ HT_ 4 (some 21) #[true, true, true, false, true, false, false, false, false, false] ?_
                refine pu_ HT_ 5 (some 22) #[true, true, true, false, true, true, false, false, false, false] ?_
                refine pu_ HT_ 6 (some 23) #[true, true, true, false, true, true, true, false, false, false] ?_
                refine ta_ HT_ HW_ 3 (some 20) #[true, true, true, true, true, true, true, false, false, false] hHeld ?_
                refine ta_ HT_ HW_ 7 (some 24) #[true, true, true, true, true, true, true, true, false, false] hHeld ?_
                refine on_ HT_ 8 (some 25) #[true, true, true, true, true, true, true, true, true, false] (fun K hK => ?_)
                refine go1_ Try.func214 #[.agg #[.string ((rd_T194 l0 x5_1).f0), .string ((rd_T194 l0 x5_1).f1), .int .i64 ((rd_T194 l0 x5_1).f2)], .agg #[.string ((rd_T194 l1 x5_1).f0), .string ((rd_T194 l1 x5_1).f1), .int .i64 ((rd_T194 l1 x5_1).f2)]] ?_
                with_reducible refine (laws_eqStored.calls ((rd_T194 l0 x5_1).f0) ((rd_T194 l0 x5_1).f1) ((rd_T194 l0 x5_1).f2) ((rd_T194 l1 x5_1).f0) ((rd_T194 l1 x5_1).f1) ((rd_T194 l1 x5_1).f2) false _ A7.out).mono ?_
                rintro e w12 ⟨rfl, hb⟩
                refine ⟨_, rfl, ?_⟩
                replace HB := AM (below_step bel_ hb)
                (try clear hb)
                (try clear hb2)
                (try clear hk)
                (try clear hi)
                refine hK.out _ _ ⟨((HB.out.cell (World.block_lt_of_cell? w _ hw390_0)).trans hw390_0), ((HB.out.cell (World.block_lt_of_cell? w _ hw390_1)).trans hw390_1), ((HB.out.cell (World.block_lt_of_cell? w _ hw390_2)).trans hw390_2), ((HB.out.cell (World.block_lt_of_cell? w _ hw391_0)).trans hw391_0), ((HB.out.cell (World.block_lt_of_cell? w _ hw391_1)).trans hw391_1), ((HB.out.cell (World.block_lt_of_cell? w _ hw391_2)).trans hw391_2)⟩ (fun hHeld => ?_)
                clear hK K
                refine nm_ ?_
                refine pu_ HT_ 9 (some 26) #[true, true, true, true, true, true, true, true, true, true] ?_
                refine dn_ HT_ ?_
                try go_wp2
                go_ret
                exact ⟨ri_, bel_⟩
            · rw [if_neg c6] at H
              exact absurd H (by simp)
          · rw [if_neg c5] at H
            exact absurd H (by simp)
        · rw [if_neg c4] at H
          have c4b0 : decide (x5_1 < (l0.length : Int)) = false := decide_eq_false c4
          clear c4
          obtain rfl := Option.some.inj H
          go_wp2
          go_ret
          exact ⟨ri_, bel_⟩
  · rw [if_neg c3] at H
    have c3b0 : ((l0.length : Int) == (l1.length : Int)) = false := beq_eq_false_iff_ne.mpr c3
    have c3b1 : ((l0.length : Int) != (l1.length : Int)) = true := bne_iff_ne.mpr c3
    have c3b2 : (l0.length == l1.length) = false := by first | simpa using c3 | (simp at c3 ⊢; omega)
    obtain rfl := Option.some.inj H
    go_enter Try.func194, Try.ntmps194
    go_wp2
    go_ret
    exact ⟨ri_, bel_⟩

/-! ### laws_eqDrive: function 161 -/
def laws_eqDrive.f (k : Nat) (l0_0 : List (S194)) (a0_1 : Int) (l1_0 : List (S194)) (a1_1 : Int) : Option (Bool) := (laws_eqStoredS.f k l0_0 l1_0).bind fun t395 => (if t395 = true then (if a0_1 = a1_1 then (some true) else (some false)) else (some false))
theorem laws_eqDrive.mono : ∀ a0 a1 a2 a3 k, LeO (laws_eqDrive.f k a0 a1 a2 a3) (laws_eqDrive.f (k + 1) a0 a1 a2 a3) := by
  intro a0 a1 a2 a3 k
  unfold laws_eqDrive.f
  repeat' first
      | (with_reducible exact laws_eqStoredS.mono _ _ _)
      | (with_reducible exact LeO.refl _)
      | (with_reducible exact LeO.none _)
      | (with_reducible refine LeO.ite ?_ ?_)
      | (with_reducible refine LeO.bind ?_ (fun _ => ?_))
      | exact laws_eqStoredS.mono _ _ _
      | exact LeO.none _
      | refine LeO.ite ?_ ?_
      | refine LeO.bind ?_ (fun _ => ?_)
set_option maxHeartbeats 8000000 in
set_option maxRecDepth 100000 in
theorem laws_eqDrive.calls (k : Nat) (A0_0 : Option Addr) (c0_0 : Nat) (l0_0 : List (S194)) (a0_1 : Int) (A1_0 : Option Addr) (c1_0 : Nat) (l1_0 : List (S194)) (a1_1 : Int) (r : Bool) (w : World) (hr0_0 : Kd.C k194 w A0_0 l0_0.length l0_0) (hc0_0 : l0_0.length ≤ c0_0) (hr1_0 : Kd.C k194 w A1_0 l1_0.length l1_0) (hc1_0 : l1_0.length ≤ c1_0) (h : laws_eqDrive.f k l0_0 a0_1 l1_0 a1_1 = some r) :
    Calls Try.prog 161 #[.agg #[.slice A0_0 l0_0.length c0_0, .int .i64 a0_1], .agg #[.slice A1_0 l1_0.length c1_0, .int .i64 a1_1]] w fun e w' => e = .returned (.bool r) ∧ Below w.heap.size w w' := by
  have hu192 := Try.underlying192
  have HR0_0 := AM hr0_0
  have HC0_0 := AM hc0_0
  clear hr0_0 hc0_0
  have HR1_0 := AM hr1_0
  have HC1_0 := AM hc1_0
  clear hr1_0 hc1_0
  have HB := AM (Below.refl w.heap.size w)
  have H : ((laws_eqStoredS.f k l0_0 l1_0).bind fun t395 => (if t395 = true then (if a0_1 = a1_1 then (some true) else (some false)) else (some false))) = some r := h
  clear h
  obtain ⟨t395, A3, H⟩ := OB H
  try dsimp only at H
  replace A3 := AM A3
  by_cases c4 : t395 = true
  · subst c4
    rw [if_pos rfl] at H
    by_cases c5 : a0_1 = a1_1
    · rw [if_pos c5] at H
      have c5b0 : (a0_1 == a1_1) = true := beq_iff_eq.mpr c5
      have c5b1 : (a0_1 != a1_1) = false := bne_eq_false_iff_eq.mpr c5
      clear c5
      obtain rfl := Option.some.inj H
      go_enter Try.func161, Try.ntmps161
      go_wp2_with (first | ((with_reducible refine gate_dst (N := 2) rfl ?_); refine be_ 2 #[.slice A0_0 l0_0.length c0_0, .int .i64 a0_1] 192 ?_; intro gb393 hg w6 hbox hb; have BK393 := AM hbox; have GW393 := AM ((by rw [hg]; exact (below_size bel_) : w.heap.size ≤ gb393)); have GE393 := AM ((by rw [hg]; exact (below_size bel_) : w.heap.size ≤ gb393)); replace HB := AM (below_step bel_ hb); clear hb hbox hg) | ((with_reducible refine gate_dst (N := 3) rfl ?_); refine be_ 3 #[.slice A1_0 l1_0.length c1_0, .int .i64 a1_1] 192 ?_; intro gb394 hg w7 hbox hb; have BK394 := AM hbox; have GW394 := AM ((by rw [hg]; exact (below_size bel_) : w.heap.size ≤ gb394)); have GE394 := AM ((by rw [hg]; exact (below_size bel_) : w.heap.size ≤ gb394)); replace HB := AM (below_step bel_ hb); have NB393_394 := AM ((by rw [hg]; exact Nat.ne_of_lt (blk_lt (g := gb393) (o := .cells #[.slice A0_0 l0_0.length c0_0, .int .i64 a0_1] 192 (0, 0)) (bk_ BK393.out)) : gb393 ≠ gb394)); have NB394_393 := AM ((by rw [hg]; exact Nat.ne_of_gt (blk_lt (g := gb393) (o := .cells #[.slice A0_0 l0_0.length c0_0, .int .i64 a0_1] 192 (0, 0)) (bk_ BK393.out)) : gb394 ≠ gb393)); replace BK393 := AM (blk_below (g := gb393) (o := .cells #[.slice A0_0 l0_0.length c0_0, .int .i64 a0_1] 192 (0, 0)) (bk_ BK393.out) hb); clear hb hbox hg; have hnb8 := NB393_394.out; have hnc8 := NB394_393.out; have hcz9_0 : w7.cell? ⟨gb393, 0, none⟩ = some (.slice A0_0 l0_0.length c0_0) := (blk_cell BK393.out 0).trans rfl; have hcz9_1 : w7.cell? ⟨gb393, 1, none⟩ = some (.int .i64 a0_1) := (blk_cell BK393.out 1).trans rfl; have hfz9_0 := blk_frozen BK393.out 0; have hfz9_1 := blk_frozen BK393.out 1; have hcz10_0 : w7.cell? ⟨gb394, 0, none⟩ = some (.slice A1_0 l1_0.length c1_0) := (blk_cell BK394.out 0).trans rfl; have hcz10_1 : w7.cell? ⟨gb394, 1, none⟩ = some (.int .i64 a1_1) := (blk_cell BK394.out 1).trans rfl; have hfz10_0 := blk_frozen BK394.out 0; have hfz10_1 := blk_frozen BK394.out 1) | ((with_reducible refine gate_callee (f := 194) rfl ?_); refine gl_ (some 9) Try.func194 #[.slice A0_0 l0_0.length c0_0, .slice A1_0 l1_0.length c1_0] ?_; (with_reducible refine (laws_eqStoredS.calls k _ _ l0_0 _ _ l1_0 true _ ?side1 ?side2 ?side3 ?side4 A3.out).mono ?_); (case side1 => repeat (first | exact (Kd.C_below HR0_0.out HB.out) | (with_reducible refine Kd.C_alloc ?_ _) | (with_reducible refine Kd.C_drewN ?_ _) | (with_reducible refine Kd.C_drew ?_))); (case side2 => exact HC0_0.out); (case side3 => repeat (first | exact (Kd.C_below HR1_0.out HB.out) | (with_reducible refine Kd.C_alloc ?_ _) | (with_reducible refine Kd.C_drewN ?_ _) | (with_reducible refine Kd.C_drew ?_))); (case side4 => exact HC1_0.out); rintro e w11 ⟨rfl, hb⟩; refine ⟨_, rfl, ?_⟩; replace BK393 := AM (blk_below (g := gb393) (o := .cells #[.slice A0_0 l0_0.length c0_0, .int .i64 a0_1] 192 (0, 0)) (bk_ BK393.out) hb); replace BK394 := AM (blk_below (g := gb394) (o := .cells #[.slice A1_0 l1_0.length c1_0, .int .i64 a1_1] 192 (0, 0)) (bk_ BK394.out) hb); replace HB := AM (below_step bel_ hb); (try clear hb); (try clear hb2); (try clear hk); (try clear hi); have hcz12_0 : w11.cell? ⟨gb393, 0, none⟩ = some (.slice A0_0 l0_0.length c0_0) := (blk_cell BK393.out 0).trans rfl; have hcz12_1 : w11.cell? ⟨gb393, 1, none⟩ = some (.int .i64 a0_1) := (blk_cell BK393.out 1).trans rfl; have hfz12_0 := blk_frozen BK393.out 0; have hfz12_1 := blk_frozen BK393.out 1; have hcz13_0 : w11.cell? ⟨gb394, 0, none⟩ = some (.slice A1_0 l1_0.length c1_0) := (blk_cell BK394.out 0).trans rfl; have hcz13_1 : w11.cell? ⟨gb394, 1, none⟩ = some (.int .i64 a1_1) := (blk_cell BK394.out 1).trans rfl; have hfz13_0 := blk_frozen BK394.out 0; have hfz13_1 := blk_frozen BK394.out 1))
      go_ret
      exact ⟨ri_, bel_⟩
    · rw [if_neg c5] at H
      have c5b0 : (a0_1 == a1_1) = false := beq_eq_false_iff_ne.mpr c5
      have c5b1 : (a0_1 != a1_1) = true := bne_iff_ne.mpr c5
      obtain rfl := Option.some.inj H
      go_enter Try.func161, Try.ntmps161
      go_wp2_with (first | ((with_reducible refine gate_dst (N := 2) rfl ?_); refine be_ 2 #[.slice A0_0 l0_0.length c0_0, .int .i64 a0_1] 192 ?_; intro gb393 hg w14 hbox hb; have BK393 := AM hbox; have GW393 := AM ((by rw [hg]; exact (below_size bel_) : w.heap.size ≤ gb393)); have GE393 := AM ((by rw [hg]; exact (below_size bel_) : w.heap.size ≤ gb393)); replace HB := AM (below_step bel_ hb); clear hb hbox hg) | ((with_reducible refine gate_dst (N := 3) rfl ?_); refine be_ 3 #[.slice A1_0 l1_0.length c1_0, .int .i64 a1_1] 192 ?_; intro gb394 hg w15 hbox hb; have BK394 := AM hbox; have GW394 := AM ((by rw [hg]; exact (below_size bel_) : w.heap.size ≤ gb394)); have GE394 := AM ((by rw [hg]; exact (below_size bel_) : w.heap.size ≤ gb394)); replace HB := AM (below_step bel_ hb); have NB393_394 := AM ((by rw [hg]; exact Nat.ne_of_lt (blk_lt (g := gb393) (o := .cells #[.slice A0_0 l0_0.length c0_0, .int .i64 a0_1] 192 (0, 0)) (bk_ BK393.out)) : gb393 ≠ gb394)); have NB394_393 := AM ((by rw [hg]; exact Nat.ne_of_gt (blk_lt (g := gb393) (o := .cells #[.slice A0_0 l0_0.length c0_0, .int .i64 a0_1] 192 (0, 0)) (bk_ BK393.out)) : gb394 ≠ gb393)); replace BK393 := AM (blk_below (g := gb393) (o := .cells #[.slice A0_0 l0_0.length c0_0, .int .i64 a0_1] 192 (0, 0)) (bk_ BK393.out) hb); clear hb hbox hg; have hnb16 := NB393_394.out; have hnc16 := NB394_393.out; have hcz17_0 : w15.cell? ⟨gb393, 0, none⟩ = some (.slice A0_0 l0_0.length c0_0) := (blk_cell BK393.out 0).trans rfl; have hcz17_1 : w15.cell? ⟨gb393, 1, none⟩ = some (.int .i64 a0_1) := (blk_cell BK393.out 1).trans rfl; have hfz17_0 := blk_frozen BK393.out 0; have hfz17_1 := blk_frozen BK393.out 1; have hcz18_0 : w15.cell? ⟨gb394, 0, none⟩ = some (.slice A1_0 l1_0.length c1_0) := (blk_cell BK394.out 0).trans rfl; have hcz18_1 : w15.cell? ⟨gb394, 1, none⟩ = some (.int .i64 a1_1) := (blk_cell BK394.out 1).trans rfl; have hfz18_0 := blk_frozen BK394.out 0; have hfz18_1 := blk_frozen BK394.out 1) | ((with_reducible refine gate_callee (f := 194) rfl ?_); refine gl_ (some 9) Try.func194 #[.slice A0_0 l0_0.length c0_0, .slice A1_0 l1_0.length c1_0] ?_; (with_reducible refine (laws_eqStoredS.calls k _ _ l0_0 _ _ l1_0 true _ ?side1 ?side2 ?side3 ?side4 A3.out).mono ?_); (case side1 => repeat (first | exact (Kd.C_below HR0_0.out HB.out) | (with_reducible refine Kd.C_alloc ?_ _) | (with_reducible refine Kd.C_drewN ?_ _) | (with_reducible refine Kd.C_drew ?_))); (case side2 => exact HC0_0.out); (case side3 => repeat (first | exact (Kd.C_below HR1_0.out HB.out) | (with_reducible refine Kd.C_alloc ?_ _) | (with_reducible refine Kd.C_drewN ?_ _) | (with_reducible refine Kd.C_drew ?_))); (case side4 => exact HC1_0.out); rintro e w19 ⟨rfl, hb⟩; refine ⟨_, rfl, ?_⟩; replace BK393 := AM (blk_below (g := gb393) (o := .cells #[.slice A0_0 l0_0.length c0_0, .int .i64 a0_1] 192 (0, 0)) (bk_ BK393.out) hb); replace BK394 := AM (blk_below (g := gb394) (o := .cells #[.slice A1_0 l1_0.length c1_0, .int .i64 a1_1] 192 (0, 0)) (bk_ BK394.out) hb); replace HB := AM (below_step bel_ hb); (try clear hb); (try clear hb2); (try clear hk); (try clear hi); have hcz20_0 : w19.cell? ⟨gb393, 0, none⟩ = some (.slice A0_0 l0_0.length c0_0) := (blk_cell BK393.out 0).trans rfl; have hcz20_1 : w19.cell? ⟨gb393, 1, none⟩ = some (.int .i64 a0_1) := (blk_cell BK393.out 1).trans rfl; have hfz20_0 := blk_frozen BK393.out 0; have hfz20_1 := blk_frozen BK393.out 1; have hcz21_0 : w19.cell? ⟨gb394, 0, none⟩ = some (.slice A1_0 l1_0.length c1_0) := (blk_cell BK394.out 0).trans rfl; have hcz21_1 : w19.cell? ⟨gb394, 1, none⟩ = some (.int .i64 a1_1) := (blk_cell BK394.out 1).trans rfl; have hfz21_0 := blk_frozen BK394.out 0; have hfz21_1 := blk_frozen BK394.out 1))
      go_ret
      exact ⟨ri_, bel_⟩
  · replace c4 := Bool.eq_false_iff.mpr c4
    subst c4
    rw [if_neg (show ¬ (false = true) by decide)] at H
    obtain rfl := Option.some.inj H
    go_enter Try.func161, Try.ntmps161
    go_wp2_with (first | ((with_reducible refine gate_dst (N := 2) rfl ?_); refine be_ 2 #[.slice A0_0 l0_0.length c0_0, .int .i64 a0_1] 192 ?_; intro gb393 hg w22 hbox hb; have BK393 := AM hbox; have GW393 := AM ((by rw [hg]; exact (below_size bel_) : w.heap.size ≤ gb393)); have GE393 := AM ((by rw [hg]; exact (below_size bel_) : w.heap.size ≤ gb393)); replace HB := AM (below_step bel_ hb); clear hb hbox hg) | ((with_reducible refine gate_dst (N := 3) rfl ?_); refine be_ 3 #[.slice A1_0 l1_0.length c1_0, .int .i64 a1_1] 192 ?_; intro gb394 hg w23 hbox hb; have BK394 := AM hbox; have GW394 := AM ((by rw [hg]; exact (below_size bel_) : w.heap.size ≤ gb394)); have GE394 := AM ((by rw [hg]; exact (below_size bel_) : w.heap.size ≤ gb394)); replace HB := AM (below_step bel_ hb); have NB393_394 := AM ((by rw [hg]; exact Nat.ne_of_lt (blk_lt (g := gb393) (o := .cells #[.slice A0_0 l0_0.length c0_0, .int .i64 a0_1] 192 (0, 0)) (bk_ BK393.out)) : gb393 ≠ gb394)); have NB394_393 := AM ((by rw [hg]; exact Nat.ne_of_gt (blk_lt (g := gb393) (o := .cells #[.slice A0_0 l0_0.length c0_0, .int .i64 a0_1] 192 (0, 0)) (bk_ BK393.out)) : gb394 ≠ gb393)); replace BK393 := AM (blk_below (g := gb393) (o := .cells #[.slice A0_0 l0_0.length c0_0, .int .i64 a0_1] 192 (0, 0)) (bk_ BK393.out) hb); clear hb hbox hg; have hnb24 := NB393_394.out; have hnc24 := NB394_393.out; have hcz25_0 : w23.cell? ⟨gb393, 0, none⟩ = some (.slice A0_0 l0_0.length c0_0) := (blk_cell BK393.out 0).trans rfl; have hcz25_1 : w23.cell? ⟨gb393, 1, none⟩ = some (.int .i64 a0_1) := (blk_cell BK393.out 1).trans rfl; have hfz25_0 := blk_frozen BK393.out 0; have hfz25_1 := blk_frozen BK393.out 1; have hcz26_0 : w23.cell? ⟨gb394, 0, none⟩ = some (.slice A1_0 l1_0.length c1_0) := (blk_cell BK394.out 0).trans rfl; have hcz26_1 : w23.cell? ⟨gb394, 1, none⟩ = some (.int .i64 a1_1) := (blk_cell BK394.out 1).trans rfl; have hfz26_0 := blk_frozen BK394.out 0; have hfz26_1 := blk_frozen BK394.out 1) | ((with_reducible refine gate_callee (f := 194) rfl ?_); refine gl_ (some 9) Try.func194 #[.slice A0_0 l0_0.length c0_0, .slice A1_0 l1_0.length c1_0] ?_; (with_reducible refine (laws_eqStoredS.calls k _ _ l0_0 _ _ l1_0 false _ ?side1 ?side2 ?side3 ?side4 A3.out).mono ?_); (case side1 => repeat (first | exact (Kd.C_below HR0_0.out HB.out) | (with_reducible refine Kd.C_alloc ?_ _) | (with_reducible refine Kd.C_drewN ?_ _) | (with_reducible refine Kd.C_drew ?_))); (case side2 => exact HC0_0.out); (case side3 => repeat (first | exact (Kd.C_below HR1_0.out HB.out) | (with_reducible refine Kd.C_alloc ?_ _) | (with_reducible refine Kd.C_drewN ?_ _) | (with_reducible refine Kd.C_drew ?_))); (case side4 => exact HC1_0.out); rintro e w27 ⟨rfl, hb⟩; refine ⟨_, rfl, ?_⟩; replace BK393 := AM (blk_below (g := gb393) (o := .cells #[.slice A0_0 l0_0.length c0_0, .int .i64 a0_1] 192 (0, 0)) (bk_ BK393.out) hb); replace BK394 := AM (blk_below (g := gb394) (o := .cells #[.slice A1_0 l1_0.length c1_0, .int .i64 a1_1] 192 (0, 0)) (bk_ BK394.out) hb); replace HB := AM (below_step bel_ hb); (try clear hb); (try clear hb2); (try clear hk); (try clear hi)))
    go_ret
    exact ⟨ri_, bel_⟩

/-! ### laws_eqDriveS: function 107 -/
def laws_eqDriveS.l0 : Nat → List (S192) → List (S192) → Int → Option (Bool)
  | 0, _, _, _ => none
  | k + 1, x0, x1, x5 => if x5 < (x0.length : Int) then (if 0 ≤ x5 then (if x5 < (x1.length : Int) then ((laws_eqDrive.f k ((rd_T192 x0 x5).f0) ((rd_T192 x0 x5).f1) ((rd_T192 x1 x5).f0) ((rd_T192 x1 x5).f1)).bind fun t398 => (if t398 = true then (laws_eqDriveS.l0 k x0 x1 (wrap64 (x5 + 1))) else (some false))) else (none)) else (none)) else (some true)
def laws_eqDriveS.f (k : Nat) (l0 : List (S192)) (l1 : List (S192)) : Option (Bool) := if (l0.length : Int) = (l1.length : Int) then (laws_eqDriveS.l0 k l0 l1 0) else (some false)
theorem laws_eqDriveS.mono_l : ∀ k, (∀ y0 y1 y2, LeO (laws_eqDriveS.l0 k y0 y1 y2) (laws_eqDriveS.l0 (k + 1) y0 y1 y2))
  | 0 => fun _ _ _ r h => by simp [laws_eqDriveS.l0] at h
  | k + 1 => by
    have ih0 := laws_eqDriveS.mono_l k
    · intro y0 y1 y2
      unfold laws_eqDriveS.l0
      repeat' first
      | (with_reducible exact ih0 _ _ _)
      | (with_reducible exact laws_eqDrive.mono _ _ _ _ _)
      | (with_reducible exact LeO.refl _)
      | (with_reducible exact LeO.none _)
      | (with_reducible refine LeO.ite ?_ ?_)
      | (with_reducible refine LeO.bind ?_ (fun _ => ?_))
      | exact ih0 _ _ _
      | exact laws_eqDrive.mono _ _ _ _ _
      | exact LeO.none _
      | refine LeO.ite ?_ ?_
      | refine LeO.bind ?_ (fun _ => ?_)
theorem laws_eqDriveS.mono : ∀ a0 a1 k, LeO (laws_eqDriveS.f k a0 a1) (laws_eqDriveS.f (k + 1) a0 a1) := by
  intro a0 a1 k
  have ih0 := laws_eqDriveS.mono_l k
  unfold laws_eqDriveS.f
  repeat' first
      | (with_reducible exact ih0 _ _ _)
      | (with_reducible exact laws_eqDrive.mono _ _ _ _ _)
      | (with_reducible exact LeO.refl _)
      | (with_reducible exact LeO.none _)
      | (with_reducible refine LeO.ite ?_ ?_)
      | (with_reducible refine LeO.bind ?_ (fun _ => ?_))
      | exact ih0 _ _ _
      | exact laws_eqDrive.mono _ _ _ _ _
      | exact LeO.none _
      | refine LeO.ite ?_ ?_
      | refine LeO.bind ?_ (fun _ => ?_)
def laws_eqDriveS.T6 : Bool × List (List Nat × List Nat) := (true, [([], []), ([], []), ([0, 1], [0, 1]), ([2], [2]), ([], []), ([], []), ([4, 5], [4, 5]), ([6], [6]), ([3, 7], [3, 7]), ([8], [8])])
def laws_eqDriveS.B6 : List Nat := [0, 0, 3, 7, 0, 0, 48, 112, 255, 511]
theorem laws_eqDriveS.tab6 : rtab .any (opsOf Try.f107 6) = laws_eqDriveS.T6 := by kernel_rfl
theorem laws_eqDriveS.bits6 : waitsOk laws_eqDriveS.T6.2 laws_eqDriveS.B6 = true := by kernel_rfl
set_option maxHeartbeats 8000000 in
set_option maxRecDepth 100000 in
theorem laws_eqDriveS.calls (k : Nat) (A0 : Option Addr) (c0 : Nat) (l0 : List (S192)) (A1 : Option Addr) (c1 : Nat) (l1 : List (S192)) (r : Bool) (w : World) (hr0 : Kd.C k192 w A0 l0.length l0) (hc0 : l0.length ≤ c0) (hr1 : Kd.C k192 w A1 l1.length l1) (hc1 : l1.length ≤ c1) (h : laws_eqDriveS.f k l0 l1 = some r) :
    Calls Try.prog 107 #[.slice A0 l0.length c0, .slice A1 l1.length c1] w fun e w' => e = .returned (.bool r) ∧ Below w.heap.size w w' := by
  have hu192 := Try.underlying192
  have HR0 := AM hr0
  have HC0 := AM hc0
  clear hr0 hc0
  have HR1 := AM hr1
  have HC1 := AM hc1
  clear hr1 hc1
  have HB := AM (Below.refl w.heap.size w)
  have H : (if (l0.length : Int) = (l1.length : Int) then (laws_eqDriveS.l0 k l0 l1 0) else (some false)) = some r := h
  clear h
  by_cases c3 : (l0.length : Int) = (l1.length : Int)
  · rw [if_pos c3] at H
    have c3b0 : ((l0.length : Int) == (l1.length : Int)) = true := beq_iff_eq.mpr c3
    have c3b1 : ((l0.length : Int) != (l1.length : Int)) = false := bne_eq_false_iff_eq.mpr c3
    have c3b2 : (l0.length == l1.length) = true := by first | simpa using c3 | (simp at c3 ⊢; omega)
    clear c3
    have H' := AM H
    clear H
    go_enter Try.func107, Try.ntmps107
    go_wp2
    go_loopg [5] k (fun kq v5 w' => ∃ (x5_1 : Int), v5 = .int .i64 x5_1 ∧ Aside0 (laws_eqDriveS.l0 kq l0 l1 x5_1 = some r) ∧ Aside0 (kq ≤ k) ∧ Aside0 (Below w.heap.size w w'))
    case atStart => exact ⟨(0), (by first | rfl | (simp; done) | (simp [*]; done)), H', ⟨Nat.le_refl _⟩, ⟨bel_⟩⟩
    case round =>
      clear H'
      try clear c1
      try clear p2
      try clear c3
      try clear c3b0
      try clear c3b1
      try clear c3b2
      obtain ⟨x5_1, rfl, HA, HK1, HB⟩ := hrel
      cases gk with
      | zero => exact absurd HA.out (by simp [laws_eqDriveS.l0])
      | succ k1 =>
        have H := HA.out
        clear HA
        simp only [laws_eqDriveS.l0] at H
        by_cases c4 : x5_1 < (l0.length : Int)
        · rw [if_pos c4] at H
          have c4b0 : decide (x5_1 < (l0.length : Int)) = true := decide_eq_true c4
          clear c4
          by_cases c5 : 0 ≤ x5_1
          · rw [if_pos c5] at H
            have c5b0 : decide (0 ≤ x5_1) = true := decide_eq_true c5
            clear c5
            by_cases c6 : x5_1 < (l1.length : Int)
            · rw [if_pos c6] at H
              have c6b0 : decide (x5_1 < (l1.length : Int)) = true := decide_eq_true c6
              clear c6
              obtain ⟨t398, A7, H⟩ := OB H
              try dsimp only at H
              replace A7 := AM A7
              by_cases c8 : t398 = true
              · subst c8
                rw [if_pos rfl] at H
                have H' := AM H
                clear H
                try go_wp2
                replace HB := AM (below_drew1 HB.out)
                have p396 : 0 ≤ (x5_1 : Int) := of_decide_eq_true (by first | (with_reducible assumption) | assumption)
                have q396 : x5_1 < (l0.length : Int) := of_decide_eq_true (by first | (with_reducible assumption) | assumption)
                obtain ⟨ad396, A396_0, c396_0, e396, hx396_0, hx396_1, hl396_0, hi396_0⟩ := at_T192 HR0.out x5_1 p396 q396
                have hw396_1 := hx396_1
                have hw396_0 := hx396_0
                cases e396
                replace hx396_0 := (HB.out.cell (World.block_lt_of_cell? w _ hx396_0)).trans hx396_0
                replace hx396_1 := (HB.out.cell (World.block_lt_of_cell? w _ hx396_1)).trans hx396_1
                have HR396_0 := AM hi396_0
                have HC396_0 := AM hl396_0
                clear hi396_0 hl396_0
                replace p396 := eq_true p396
                replace q396 := eq_true q396
                have p397 : 0 ≤ (x5_1 : Int) := of_decide_eq_true (by first | (with_reducible assumption) | assumption)
                have q397 : x5_1 < (l1.length : Int) := of_decide_eq_true (by first | (with_reducible assumption) | assumption)
                obtain ⟨ad397, A397_0, c397_0, e397, hx397_0, hx397_1, hl397_0, hi397_0⟩ := at_T192 HR1.out x5_1 p397 q397
                have hw397_1 := hx397_1
                have hw397_0 := hx397_0
                cases e397
                replace hx397_0 := (HB.out.cell (World.block_lt_of_cell? w _ hx397_0)).trans hx397_0
                replace hx397_1 := (HB.out.cell (World.block_lt_of_cell? w _ hx397_1)).trans hx397_1
                have HR397_0 := AM hi397_0
                have HC397_0 := AM hl397_0
                clear hi397_0 hl397_0
                replace p397 := eq_true p397
                replace q397 := eq_true q397
                refine start_ (n := 10) (S := fun w' => w'.cell? (ad396.add ((x5_1).toNat * 2)) = some (.slice A396_0 ((rd_T192 l0 x5_1).f0).length c396_0) ∧ w'.cell? ⟨(ad396.add ((x5_1).toNat * 2)).block, (ad396.add ((x5_1).toNat * 2)).off + 1, none⟩ = some (.int .i64 ((rd_T192 l0 x5_1).f1)) ∧ w'.cell? (ad397.add ((x5_1).toNat * 2)) = some (.slice A397_0 ((rd_T192 l1 x5_1).f0).length c397_0) ∧ w'.cell? ⟨(ad397.add ((x5_1).toNat * 2)).block, (ad397.add ((x5_1).toNat * 2)).off + 1, none⟩ = some (.int .i64 ((rd_T192 l1 x5_1).f1))) (ds := []) #[false, false, false, false, false, false, false, false, false, false] (by kernel_rfl) rfl rfl ⟨((HB.out.cell (World.block_lt_of_cell? w _ hw396_0)).trans hw396_0), ((HB.out.cell (World.block_lt_of_cell? w _ hw396_1)).trans hw396_1), ((HB.out.cell (World.block_lt_of_cell? w _ hw397_0)).trans hw397_0), ((HB.out.cell (World.block_lt_of_cell? w _ hw397_1)).trans hw397_1)⟩ (fun hHeld => ?_); refine with_tabW laws_eqDriveS.tab6 laws_eqDriveS.bits6 (fun HT_ HW_ => ?_)
                generalize wr.drew = w9 at HB HR396_0 HR397_0 hx396_0 hx396_1 hx397_0 hx397_1 hHeld ⊢
                refine pu_ HT_ 0 (some 17) #[true, false, false, false, false, false, false, false, false, false] ?_
                refine pu_ HT_ 1 (some 18) #[true, true, false, false, false, false, false, false, false, false] ?_
                refine pu_ HT_ 2 (some 19) #[true, true, true, false, false, false, false, false, false, false] ?_
                refine pu_ HT_ 4 (some 21) #[true, true, true, false, true, false, false, false, false, false] ?_
                refine pu_ HT_ 5 (some 22) #[true, true, true, false, true, true, false, false, false, false] ?_
                refine pu_ HT_ 6 (some 23) #[true, true, true, false, true, true, true, false, false, false] ?_
                refine ta_ HT_ HW_ 3 (some 20) #[true, true, true, true, true, true, true, false, false, false] hHeld ?_
                refine ta_ HT_ HW_ 7 (some 24) #[true, true, true, true, true, true, true, true, false, false] hHeld ?_
                refine on_ HT_ 8 (some 25) #[true, true, true, true, true, true, true, true, true, false] (fun K hK => ?_)
                refine go1_ Try.func161 #[.agg #[.slice A396_0 ((rd_T192 l0 x5_1).f0).length c396_0, .int .i64 ((rd_T192 l0 x5_1).f1)], .agg #[.slice A397_0 ((rd_T192 l1 x5_1).f0).length c397_0, .int .i64 ((rd_T192 l1 x5_1).f1)]] ?_
                with_reducible refine (laws_eqDrive.calls k1 _ _ ((rd_T192 l0 x5_1).f0) ((rd_T192 l0 x5_1).f1) _ _ ((rd_T192 l1 x5_1).f0) ((rd_T192 l1 x5_1).f1) true _ ?side1 ?side2 ?side3 ?side4 A7.out).mono ?_
                (case side1 => repeat (first | exact (Kd.C_below HR396_0.out HB.out) | (with_reducible refine Kd.C_alloc ?_ _) | (with_reducible refine Kd.C_drewN ?_ _) | (with_reducible refine Kd.C_drew ?_)))
                (case side2 => exact HC396_0.out)
                (case side3 => repeat (first | exact (Kd.C_below HR397_0.out HB.out) | (with_reducible refine Kd.C_alloc ?_ _) | (with_reducible refine Kd.C_drewN ?_ _) | (with_reducible refine Kd.C_drew ?_)))
                (case side4 => exact HC397_0.out)
                rintro e w10 ⟨rfl, hb⟩
                refine ⟨_, rfl, ?_⟩
                replace HB := AM (below_step bel_ hb)
                (try clear hb)
                (try clear hb2)
                (try clear hk)
                (try clear hi)
                refine hK.out _ _ ⟨((HB.out.cell (World.block_lt_of_cell? w _ hw396_0)).trans hw396_0), ((HB.out.cell (World.block_lt_of_cell? w _ hw396_1)).trans hw396_1), ((HB.out.cell (World.block_lt_of_cell? w _ hw397_0)).trans hw397_0), ((HB.out.cell (World.block_lt_of_cell? w _ hw397_1)).trans hw397_1)⟩ (fun hHeld => ?_)
                clear hK K
                refine nm_ ?_
                refine pu_ HT_ 9 (some 26) #[true, true, true, true, true, true, true, true, true, true] ?_
                refine dn_ HT_ ?_
                try go_wp2
                go_roundg k1
                case measure => have := HK1.out; omega
                case rel => exact ⟨(wrap64 (x5_1 + 1)), (by first | rfl | (simp; done) | (simp [*]; done)), H', ⟨by have := HK1.out; omega⟩, ⟨bel_⟩⟩
              · replace c8 := Bool.eq_false_iff.mpr c8
                subst c8
                rw [if_neg (show ¬ (false = true) by decide)] at H
                obtain rfl := Option.some.inj H
                try go_wp2
                replace HB := AM (below_drew1 HB.out)
                have p396 : 0 ≤ (x5_1 : Int) := of_decide_eq_true (by first | (with_reducible assumption) | assumption)
                have q396 : x5_1 < (l0.length : Int) := of_decide_eq_true (by first | (with_reducible assumption) | assumption)
                obtain ⟨ad396, A396_0, c396_0, e396, hx396_0, hx396_1, hl396_0, hi396_0⟩ := at_T192 HR0.out x5_1 p396 q396
                have hw396_1 := hx396_1
                have hw396_0 := hx396_0
                cases e396
                replace hx396_0 := (HB.out.cell (World.block_lt_of_cell? w _ hx396_0)).trans hx396_0
                replace hx396_1 := (HB.out.cell (World.block_lt_of_cell? w _ hx396_1)).trans hx396_1
                have HR396_0 := AM hi396_0
                have HC396_0 := AM hl396_0
                clear hi396_0 hl396_0
                replace p396 := eq_true p396
                replace q396 := eq_true q396
                have p397 : 0 ≤ (x5_1 : Int) := of_decide_eq_true (by first | (with_reducible assumption) | assumption)
                have q397 : x5_1 < (l1.length : Int) := of_decide_eq_true (by first | (with_reducible assumption) | assumption)
                obtain ⟨ad397, A397_0, c397_0, e397, hx397_0, hx397_1, hl397_0, hi397_0⟩ := at_T192 HR1.out x5_1 p397 q397
                have hw397_1 := hx397_1
                have hw397_0 := hx397_0
                cases e397
                replace hx397_0 := (HB.out.cell (World.block_lt_of_cell? w _ hx397_0)).trans hx397_0
                replace hx397_1 := (HB.out.cell (World.block_lt_of_cell? w _ hx397_1)).trans hx397_1
                have HR397_0 := AM hi397_0
                have HC397_0 := AM hl397_0
                clear hi397_0 hl397_0
                replace p397 := eq_true p397
                replace q397 := eq_true q397
                refine start_ (n := 10) (S := fun w' => w'.cell? (ad396.add ((x5_1).toNat * 2)) = some (.slice A396_0 ((rd_T192 l0 x5_1).f0).length c396_0) ∧ w'.cell? ⟨(ad396.add ((x5_1).toNat * 2)).block, (ad396.add ((x5_1).toNat * 2)).off + 1, none⟩ = some (.int .i64 ((rd_T192 l0 x5_1).f1)) ∧ w'.cell? (ad397.add ((x5_1).toNat * 2)) = some (.slice A397_0 ((rd_T192 l1 x5_1).f0).length c397_0) ∧ w'.cell? ⟨(ad397.add ((x5_1).toNat * 2)).block, (ad397.add ((x5_1).toNat * 2)).off + 1, none⟩ = some (.int .i64 ((rd_T192 l1 x5_1).f1))) (ds := []) #[false, false, false, false, false, false, false, false, false, false] (by kernel_rfl) rfl rfl ⟨((HB.out.cell (World.block_lt_of_cell? w _ hw396_0)).trans hw396_0), ((HB.out.cell (World.block_lt_of_cell? w _ hw396_1)).trans hw396_1), ((HB.out.cell (World.block_lt_of_cell? w _ hw397_0)).trans hw397_0), ((HB.out.cell (World.block_lt_of_cell? w _ hw397_1)).trans hw397_1)⟩ (fun hHeld => ?_); refine with_tabW laws_eqDriveS.tab6 laws_eqDriveS.bits6 (fun HT_ HW_ => ?_)
                generalize wr.drew = w11 at HB HR396_0 HR397_0 hx396_0 hx396_1 hx397_0 hx397_1 hHeld ⊢
                refine pu_ HT_ 0 (some 17) #[true, false, false, false, false, false, false, false, false, false] ?_
                refine pu_ HT_ 1 (some 18) #[true, true, false, false, false, false, false, false, false, false] ?_
                refine pu_ HT_ 2 (some 19) #[true, true, true, false, false, false, false, false, false, false] ?_
                refine pu_ HT_ 4 (some 21) #[true, true, true, false, true, false, false, false, false, false] ?_
                refine pu_ HT_ 5 (some 22) #[true, true, true, false, true, true, false, false, false, false] ?_
                refine pu_ HT_ 6 (some 23) #[true, true, true, false, true, true, true, false, false, false] ?_
                refine ta_ HT_ HW_ 3 (some 20) #[true, true, true, true, true, true, true, false, false, false] hHeld ?_
                refine ta_ HT_ HW_ 7 (some 24) #[true, true, true, true, true, true, true, true, false, false] hHeld ?_
                refine on_ HT_ 8 (some 25) #[true, true, true, true, true, true, true, true, true, false] (fun K hK => ?_)
                refine go1_ Try.func161 #[.agg #[.slice A396_0 ((rd_T192 l0 x5_1).f0).length c396_0, .int .i64 ((rd_T192 l0 x5_1).f1)], .agg #[.slice A397_0 ((rd_T192 l1 x5_1).f0).length c397_0, .int .i64 ((rd_T192 l1 x5_1).f1)]] ?_
                with_reducible refine (laws_eqDrive.calls k1 _ _ ((rd_T192 l0 x5_1).f0) ((rd_T192 l0 x5_1).f1) _ _ ((rd_T192 l1 x5_1).f0) ((rd_T192 l1 x5_1).f1) false _ ?side1 ?side2 ?side3 ?side4 A7.out).mono ?_
                (case side1 => repeat (first | exact (Kd.C_below HR396_0.out HB.out) | (with_reducible refine Kd.C_alloc ?_ _) | (with_reducible refine Kd.C_drewN ?_ _) | (with_reducible refine Kd.C_drew ?_)))
                (case side2 => exact HC396_0.out)
                (case side3 => repeat (first | exact (Kd.C_below HR397_0.out HB.out) | (with_reducible refine Kd.C_alloc ?_ _) | (with_reducible refine Kd.C_drewN ?_ _) | (with_reducible refine Kd.C_drew ?_)))
                (case side4 => exact HC397_0.out)
                rintro e w12 ⟨rfl, hb⟩
                refine ⟨_, rfl, ?_⟩
                replace HB := AM (below_step bel_ hb)
                (try clear hb)
                (try clear hb2)
                (try clear hk)
                (try clear hi)
                refine hK.out _ _ ⟨((HB.out.cell (World.block_lt_of_cell? w _ hw396_0)).trans hw396_0), ((HB.out.cell (World.block_lt_of_cell? w _ hw396_1)).trans hw396_1), ((HB.out.cell (World.block_lt_of_cell? w _ hw397_0)).trans hw397_0), ((HB.out.cell (World.block_lt_of_cell? w _ hw397_1)).trans hw397_1)⟩ (fun hHeld => ?_)
                clear hK K
                refine nm_ ?_
                refine pu_ HT_ 9 (some 26) #[true, true, true, true, true, true, true, true, true, true] ?_
                refine dn_ HT_ ?_
                try go_wp2
                go_ret
                exact ⟨ri_, bel_⟩
            · rw [if_neg c6] at H
              exact absurd H (by simp)
          · rw [if_neg c5] at H
            exact absurd H (by simp)
        · rw [if_neg c4] at H
          have c4b0 : decide (x5_1 < (l0.length : Int)) = false := decide_eq_false c4
          clear c4
          obtain rfl := Option.some.inj H
          go_wp2
          go_ret
          exact ⟨ri_, bel_⟩
  · rw [if_neg c3] at H
    have c3b0 : ((l0.length : Int) == (l1.length : Int)) = false := beq_eq_false_iff_ne.mpr c3
    have c3b1 : ((l0.length : Int) != (l1.length : Int)) = true := bne_iff_ne.mpr c3
    have c3b2 : (l0.length == l1.length) = false := by first | simpa using c3 | (simp at c3 ⊢; omega)
    obtain rfl := Option.some.inj H
    go_enter Try.func107, Try.ntmps107
    go_wp2
    go_ret
    exact ⟨ri_, bel_⟩

end Go.Proofs.Ytdbnajnelbebfaa.PFnExactObjectNames
